/-
  Contracts with facts on values: what a call hands back, as a value that represents an integer. No condition beyond those of the contracts. Plain laws for roots: Newton's step from above. No condition. The rule of XRg for a region whose operations run in the order of the text. No condition on the program.
-/
import Derived.Test.YtenhciieboegbaaGreatDoorICmp
namespace Go.Proofs.YtenhciieboegbaaGreatDoor
open Go Go.RowKit

/-- Hands back a value of which Φ holds; the heap has grown. -/
def Ret (w : World) (Φ : Value → World → Prop) (e : Ending) (w' : World) : Prop := ∃ x, e = .returned x ∧ Ext w w' ∧ Φ x w'
/-- A value of two, of three parts. -/
def IsT2 (Φ Ψ : Value → World → Prop) : Value → World → Prop := fun x w => ∃ a b, x = .tuple #[a, b] ∧ Φ a w ∧ Ψ b w
def IsT3 (Φ Ψ Χ : Value → World → Prop) : Value → World → Prop := fun x w => ∃ a b c, x = .tuple #[a, b, c] ∧ Φ a w ∧ Ψ b w ∧ Χ c w
theorem IsT2.stb {Φ Ψ : Value → World → Prop} (h : Stb Φ) (k : Stb Ψ) : Stb (IsT2 Φ Ψ) := fun _ _ _ e ⟨a, b, h1, h2, h3⟩ => ⟨a, b, h1, h _ _ _ e h2, k _ _ _ e h3⟩
theorem IsT3.stb {Φ Ψ Χ : Value → World → Prop} (h : Stb Φ) (k : Stb Ψ) (l : Stb Χ) : Stb (IsT3 Φ Ψ Χ) := fun _ _ _ e ⟨a, b, c, h1, h2, h3, h4⟩ => ⟨a, b, c, h1, h _ _ _ e h2, k _ _ _ e h3, l _ _ _ e h4⟩

/-- A fact that stays while boxes are written, too. -/
def GStb (Φ : Value → World → Prop) : Prop := ∀ x w w', Gr w w' → Φ x w → Φ x w'
theorem GStb.stb {Φ : Value → World → Prop} (h : GStb Φ) : Stb Φ := fun x _ _ e hx => h x _ _ e.gr hx
theorem IsI.gstb (k : Nat) (z : Int) : GStb (IsI k z) := fun _ _ _ e ⟨s, a, n, c, h1, h2⟩ => ⟨s, a, n, c, h1, h2.gr e⟩
theorem IsI.ext {k : Nat} {z : Int} {x : Value} {w w' : World} (h : IsI k z x w) (e : Ext w w') : IsI k z x w' := (IsI.stb k z) _ _ _ e h
theorem IsI.nil (w : World) (k : Nat) : IsI k 0 (.agg #[.bool false, .slice none 0 0]) w := ⟨_, _, _, _, rfl, IntAt.nil w k⟩
theorem IsI.mono {k k' : Nat} {z : Int} {x : Value} {w : World} (h : IsI k z x w) (hk : k ≤ k') : IsI k' z x w :=
  let ⟨s, a, n, c, h1, h2⟩ := h; ⟨s, a, n, c, h1, h2.mono hk⟩
/-- A description of an integer: a sign and words. -/
def IsR (s : Bool) (xs : List Nat) : Value → World → Prop := fun x w => ∃ a n c, x = .agg #[.bool s, .slice a n c] ∧ Wd w a n c xs
theorem IsR.gstb (s : Bool) (xs : List Nat) : GStb (IsR s xs) := fun _ _ _ e ⟨a, n, c, h1, h2⟩ => ⟨a, n, c, h1, h2.gr e⟩
theorem IsR.stb (s : Bool) (xs : List Nat) : Stb (IsR s xs) := (IsR.gstb s xs).stb
/-! ### The contracts in this form -/
theorem RInt.ret {w : World} {k : Nat} {z : Int} {e : Ending} {w' : World} (h : RInt w k z e w') : Ret w (IsI k z) e w' :=
  let ⟨s, a, n, c, h1, h2, h3⟩ := h; ⟨_, h1, h2, s, a, n, c, rfl, h3⟩
theorem RVal.ret {w : World} {v : Value} {e : Ending} {w' : World} (h : RVal w v e w') : Ret w (IsV v) e w' := ⟨_, h.1, h.2, rfl⟩
theorem Bits_f {k1 : Nat} {z1 : Int} {x : Value} {w : World} (hx : IsI k1 z1 x w) (l1 : k1 ≤ 268435456) : Calls Tryz.prog 99 #[x] w (Ret w (IsV (.int .i64 (bitLen z1.natAbs : Nat)))) := by
  obtain ⟨s, a, n, c, rfl, h1⟩ := hx
  exact Calls.mono (Bits_c w s a n c k1 z1 h1 l1) fun _ _ h => h.ret

end Go.Proofs.YtenhciieboegbaaGreatDoor
namespace Go.Proofs.YtenhciieboegbaaGreatDoor
open Go Go.RowKit

end Go.Proofs.YtenhciieboegbaaGreatDoor
namespace Go.Proofs.YtenhciieboegbaaGreatDoor
open Go Go.RowKit
section
variable {P : Program} {ops : Array Oper} {Q : Exit → Act → World → Prop}

theorem wp_list_rg (n : Nat) (L : List (Value → World → Prop)) (boxes : List Nat) {a0 : Act} {w0 : World} (ds : List (Option Tmp))
    (hn : n ≤ ops.size) (hds : (List.range n).map (dstOf ops) = ds) (hap : dstsApart ops n = true) (htp2 : ∀ i, i < n → ∀ e ∈ needs .any ops i, e < i)
    (hst : AllStb L) (hbx : ∀ i ∈ boxes, IsBox (L.getD i (fun _ _ => True)))
    (hop : RgAll P .any ops Q ds a0 w0 L boxes 0 n ops.toList)
    (hend : ∀ v w, Ext w0 w → (∀ i, i < n → L.getD i (fun _ _ => True) (v i) w) → (∀ i j, i ∈ boxes → j ∈ boxes → i < n → j < n → i ≠ j → v i ≠ v j) →
      wpList P ops Q (ops.toList.drop n) (layL v a0 0 ds) w) :
    ∀ (m k : Nat) (v : Nat → Value) (w : World), k + m = n → Ext w0 w → (∀ i, i < k → L.getD i (fun _ _ => True) (v i) w) →
      (∀ i j, i < k → j < k → i ≠ j → i ∈ boxes → j ∈ boxes → v i ≠ v j) → wpList P ops Q (ops.toList.drop k) (layN ops v a0 n) w := by
  intro m
  induction m with
  | zero =>
    intro k v w hk hR hΦ hd
    obtain rfl : k = n := by omega
    rw [layN_layL v a0 k ds hds]
    exact hend v w hR hΦ (fun i j hi hj hin hjn hij => hd i j hin hjn hij hi hj)
  | succ m ih =>
    intro k v w hk hR hΦ hd
    have hks : k < ops.size := by omega
    have ho : ops[k]? = some ops[k] := by simp [hks]
    have hdrop : ops.toList.drop k = ops[k] :: ops.toList.drop (k + 1) := by
      rw [List.drop_eq_getElem_cons (show k < ops.toList.length by rw [Array.length_toList]; exact hks)]; simp
    rw [hdrop]
    refine wpList_step fun K hK => ?_
    have h1 := RgAll.get n 0 ops.toList hop k (by omega) ops[k] (by simp)
    rw [Nat.zero_add] at h1
    have h2 := h1 v w hR (fun j hj => ?_) K
    · rw [← layN_layL v a0 n ds hds] at h2
      refine h2 ?_
      intro x w' hE hx hf
      refine hK _ _ ?_
      have hdst : (ops[k]).dst = dstOf ops k := by simp [dstOf, ho]
      rw [hdst, layN_put a0 v k x n (by omega) (fun i j hi hj hij => dstsApart_spec hap hi hj hij)]
      refine ih (k + 1) _ w' (by omega) (hR.trans hE) (fun i hi => ?_) (fun i j hi hj hij hbi hbj => ?_)
      · by_cases hik : i = k
        · subst hik; simpa only [updV, if_true] using hx
        · simp only [updV]; rw [if_neg hik]; exact hst.get i _ _ _ hE (hΦ i (by omega))
      · simp only [updV]
        by_cases hik : i = k
        · subst hik
          rw [if_pos rfl, if_neg (Ne.symm hij)]
          obtain ⟨g, hg, hlt⟩ := hbx j hbj _ _ (hΦ j (by omega))
          obtain ⟨g', hg', hge⟩ := hf (List.contains_iff_mem.2 hbi)
          rw [hg, hg']
          intro h; injection h with h; injection h with h; injection h with h; omega
        · rw [if_neg hik]
          by_cases hjk : j = k
          · subst hjk
            rw [if_pos rfl]
            obtain ⟨g, hg, hlt⟩ := hbx i hbi _ _ (hΦ i (by omega))
            obtain ⟨g', hg', hge⟩ := hf (List.contains_iff_mem.2 hbj)
            rw [hg, hg']
            intro h; injection h with h; injection h with h; injection h with h; omega
          · rw [if_neg hjk]; exact hd i j (by omega) (by omega) hij hbi hbj
    · have key : (firstN ops.size k).getD j false = true :=
        sweep_listed (md := .any) (ops := ops) (listed := firstN ops.size k)
          (fun i hi e he => by
            have hik : i < k ∧ i < ops.size := by
              rcases Nat.lt_or_ge i ops.size with h | h
              · simp [firstN, h] at hi; exact ⟨hi, h⟩
              · simp [firstN, h] at hi
            have := htp2 i (by omega) e he
            have hes : e < ops.size := by omega
            simp [firstN, hes]; omega)
          k (needs .any ops k)
          (fun e he => by
            have := htp2 k (by omega) e he
            have hes : e < ops.size := by omega
            simp [firstN, hes]; omega) j (List.contains_iff_mem.1 hj)
      rcases Nat.lt_or_ge j ops.size with h | h
      · simp [firstN, h] at key; exact hΦ j key
      · simp [firstN, h] at key

def backOk (ops : Array Oper) (n : Nat) : Bool := (List.range n).all fun i => (needs .any ops i).all fun e => decide (e < i)

theorem wp_region_rgs (n : Nat) (ds : List (Option Tmp)) (L : List (Value → World → Prop)) (boxes : List Nat) {a0 : Act} {w0 : World} {id : Nat}
    (hn : n ≤ ops.size) (hds : (List.range n).map (dstOf ops) = ds) (hap : dstsApart ops n = true) (htp : backOk ops n = true)
    (hst : AllStb L) (hbx : ∀ i ∈ boxes, IsBox (L.getD i (fun _ _ => True)))
    (hop : RgAll P .any ops Q ds a0 w0 L boxes 0 n ops.toList)
    (hend : ∀ v w, Ext w0 w → (∀ i, i < n → L.getD i (fun _ _ => True) (v i) w) → (∀ i j, i ∈ boxes → j ∈ boxes → i < n → j < n → i ≠ j → v i ≠ v j) →
      wpList P ops Q (ops.toList.drop n) (layL v a0 0 ds) w) :
    (Code.region id ops false).wp P Q a0 w0 := by
  refine wp_region_list ?_
  simp only [backOk, List.all_eq_true, List.mem_range, decide_eq_true_eq] at htp
  have := wp_list_rg n L boxes ds hn hds hap htp hst hbx hop hend n 0 (slotVal ops a0) w0 (by omega) (Ext.refl _) (fun i hi => by omega) (fun i j hi => by omega)
  have hlay : layN ops (slotVal ops a0) a0 n = a0 := layN_self a0 n
  rwa [hlay, List.drop_zero] at this

end

/-! ### Words for walks that a program has printed -/
/-- The words of an integer; how many they are. -/
def IsMag (k : Nat) (z : Int) : Value → World → Prop := fun x w => ∃ s a n c, x = .slice a n c ∧ IntAt w k s a n c z
theorem IsMag.stb (k : Nat) (z : Int) : Stb (IsMag k z) := fun _ _ _ e ⟨s, a, n, c, h1, h2⟩ => ⟨s, a, n, c, h1, h2.ext e⟩
/-- A length that is not 0. -/
def IsPos : Value → World → Prop := fun x _ => ∃ n : Nat, x = .int .i64 (n : Int) ∧ 0 < n ∧ n ≤ 9223372036854775807
theorem IsPos.stb : Stb IsPos := fun _ _ _ _ h => h
end Go.Proofs.YtenhciieboegbaaGreatDoor
