/-
 Contracts with facts on values: what a call hands back, as a value that represents an integer. No condition beyond those of the contracts. Plain laws for roots: Newton's step from above. No condition. The rule of XRg for a region whose operations run in the order of the text. No condition on the program.
-/
import Derived.Test.YtkeikfekkdplgaaGreatDoorICmp
import Derived.Test.YtkeikfekkdplgaaGreatDoorDivMod
namespace Go.Proofs.YtkeikfekkdplgaaGreatDoor
open Go Go.RowKit

/-- Hands back a value of which Φ holds; the heap has grown. -/
def Ret (w : World) (Φ : Value → World → Prop) (e : Ending) (w' : World) : Prop := ∃ x, e = .returned x ∧ Ext w w' ∧ Φ x w'
/-- A value of two, of three parts. -/
def IsT2 (Φ Ψ : Value → World → Prop) : Value → World → Prop := fun x w => ∃ a b, x = .tuple #[a, b] ∧ Φ a w ∧ Ψ b w
def IsT3 (Φ Ψ Χ : Value → World → Prop) : Value → World → Prop := fun x w => ∃ a b c, x = .tuple #[a, b, c] ∧ Φ a w ∧ Ψ b w ∧ Χ c w
theorem IsT2.stb {Φ Ψ : Value → World → Prop} (h : Stb Φ) (k : Stb Ψ) : Stb (IsT2 Φ Ψ) := fun _ _ _ e ⟨a, b, h1, h2, h3⟩ => ⟨a, b, h1, h _ _ _ e h2, k _ _ _ e h3⟩
theorem IsT3.stb {Φ Ψ Χ : Value → World → Prop} (h : Stb Φ) (k : Stb Ψ) (l : Stb Χ) : Stb (IsT3 Φ Ψ Χ) := fun _ _ _ e ⟨a, b, c, h1, h2, h3, h4⟩ => ⟨a, b, c, h1, h _ _ _ e h2, k _ _ _ e h3, l _ _ _ e h4⟩

/-- A fact that stays while boxes are written, too. -/
def GStb (Φ : Value → World → Prop) : Prop := ∀ x w w', Gr w w' → Φ x w → Φ x w'
theorem GStb.stb {Φ : Value → World → Prop} (h : GStb Φ) : Stb Φ := fun x _ _ e hx => h x _ _ e.gr hx
theorem IsI.gstb (k : Nat) (z : Int) : GStb (IsI k z) := fun _ _ _ e ⟨s, a, n, c, h1, h2⟩ => ⟨s, a, n, c, h1, h2.gr e⟩
theorem IsI.ext {k : Nat} {z : Int} {x : Value} {w w' : World} (h : IsI k z x w) (e : Ext w w') : IsI k z x w' := (IsI.stb k z) _ _ _ e h
theorem IsI.nil (w : World) (k : Nat) : IsI k 0 (.agg #[.bool false, .slice none 0 0]) w := ⟨_, _, _, _, rfl, IntAt.nil w k⟩
theorem IsI.tight {k k' : Nat} {z : Int} {x : Value} {w : World} (h : IsI k z x w) (hz : z.natAbs < 4294967296 ^ k') : IsI k' z x w :=
 let ⟨s, a, n, c, h1, h2⟩ := h; ⟨s, a, n, c, h1, h2.tight hz⟩
theorem IsI.mono {k k' : Nat} {z : Int} {x : Value} {w : World} (h : IsI k z x w) (hk : k ≤ k') : IsI k' z x w :=
 let ⟨s, a, n, c, h1, h2⟩ := h; ⟨s, a, n, c, h1, h2.mono hk⟩
/-- A description of an integer: a sign and words. -/
def IsR (s : Bool) (xs : List Nat) : Value → World → Prop := fun x w => ∃ a n c, x = .agg #[.bool s, .slice a n c] ∧ Wd w a n c xs
theorem IsR.gstb (s : Bool) (xs : List Nat) : GStb (IsR s xs) := fun _ _ _ e ⟨a, n, c, h1, h2⟩ => ⟨a, n, c, h1, h2.gr e⟩
theorem IsR.stb (s : Bool) (xs : List Nat) : Stb (IsR s xs) := (IsR.gstb s xs).stb
/-- The boxes of a call, each with what is known of it; w0 is where the call began. -/
structure St (w0 w : World) (B : List (Nat × (Value → World → Prop))) : Prop where
 ext : Ext w0 w
 box : ∀ p ∈ B, w0.heap.size ≤ p.1 ∧ ∃ s a n c, Bx w p.1 s a n c ∧ p.2 (.agg #[.bool s, .slice a n c]) w
 stb : ∀ p ∈ B, GStb p.2
 apart : B.Pairwise (fun p q => p.1 ≠ q.1)
theorem St.start (w : World) : St w w [] := ⟨Ext.refl w, (fun _ h => by cases h), (fun _ h => by cases h), List.Pairwise.nil⟩
theorem St.mono {w0 w w' : World} {B : List (Nat × (Value → World → Prop))} (h : St w0 w B) (e : Ext w w') : St w0 w' B :=
 ⟨h.ext.trans e, fun p hp => let ⟨h1, s, a, n, c, h2, h3⟩ := h.box p hp; ⟨h1, s, a, n, c, h2.ext e, h.stb p hp _ _ _ e.gr h3⟩, h.stb, h.apart⟩
theorem St.get {w0 w : World} {B : List (Nat × (Value → World → Prop))} (h : St w0 w B) (i : Nat) (p : Nat × (Value → World → Prop)) (hp : B[i]? = some p) :
  ∃ s a n c, Bx w p.1 s a n c ∧ p.2 (.agg #[.bool s, .slice a n c]) w := (h.box p (List.mem_of_getElem? hp)).2
theorem St.lt {w0 w : World} {B : List (Nat × (Value → World → Prop))} (h : St w0 w B) : ∀ p ∈ B, p.1 < w.heap.size := fun p hp =>
 let ⟨_, _, _, _, _, h2, _⟩ := h.box p hp; h2.lt
/-- One box more. -/
theorem St.add {w0 w : World} {B : List (Nat × (Value → World → Prop))} (h : St w0 w B) {g : Nat} {s : Bool} {a : Option Addr} {n c : Nat} {Φ : Value → World → Prop} (hb : Bx w g s a n c) (hg : w0.heap.size ≤ g) (hn : ∀ p ∈ B, p.1 ≠ g)
  (hs : GStb Φ) (hΦ : Φ (.agg #[.bool s, .slice a n c]) w) : St w0 w ((g, Φ) :: B) := by
 refine ⟨h.ext, fun p hp => ?_, fun p hp => ?_, List.Pairwise.cons (fun q hq he => hn q hq he.symm) h.apart⟩
 ·rcases List.mem_cons.1 hp with rfl | hp
  ·exact ⟨hg, s, a, n, c, hb, hΦ⟩
  ·exact h.box p hp
 ·rcases List.mem_cons.1 hp with rfl | hp
  ·exact hs
  ·exact h.stb p hp
theorem St.new {w0 w : World} {B : List (Nat × (Value → World → Prop))} (h : St w0 w B) (s : Bool) (a : Option Addr) (n c : Nat) (t : TypeId) (Φ : Value → World → Prop) (hs : GStb Φ) (hΦ : Φ (.agg #[.bool s, .slice a n c]) w) :
  St w0 (w.alloc (.cells #[.bool s, .slice a n c] t)) ((w.heap.size, Φ) :: B) := by
 have e : Ext w (w.alloc (.cells #[.bool s, .slice a n c] t)) := (Ext.refl w).alloc _
 exact (h.mono e).add (s := s) (a := a) (n := n) (c := c) ⟨by simp, by simp, by simp, by simp⟩ h.ext.size (fun p hp he => by have := h.lt p hp; omega) hs (hs _ _ _ e.gr hΦ)
/-- Box i is written. -/
theorem St.put {w0 w : World} {B : List (Nat × (Value → World → Prop))} (h : St w0 w B) (i : Nat) (g : Nat) (Φ Ψ : Value → World → Prop) (hp : B[i]? = some (g, Φ)) (s : Bool) (a : Option Addr) (n c : Nat) (hs : GStb Ψ) (hΨ : Ψ (.agg #[.bool s, .slice a n c]) w) :
  ∃ W, W = (w.setCell ⟨g, 0, none⟩ (.bool s)).setCell ⟨g, 1, none⟩ (.slice a n c) ∧ St w0 W (B.set i (g, Ψ)) ∧ Gr w W ∧ (∀ g2 s2 a2 n2 c2, g2 ≠ g → Bx w g2 s2 a2 n2 c2 → Bx W g2 s2 a2 n2 c2) := by
 obtain ⟨s', a', n', c', hb, _⟩ := (h.box _ (List.mem_of_getElem? hp)).2
 have hg := (h.box _ (List.mem_of_getElem? hp)).1
 obtain ⟨W, h1, h2, h3⟩ := hb.put' s a n c
 have hi : i < B.length := (List.getElem?_eq_some_iff.1 hp).1
 have hBi : B[i] = (g, Φ) := (List.getElem?_eq_some_iff.1 hp).2
 refine ⟨W, h1, ⟨h.ext.pt h3 hg, fun p hpm => ?_, fun p hpm => ?_, ?_⟩, h3.2.1, fun _ _ _ _ _ hg2 hb2 => hb2.pt h3 hg2⟩
 ·rcases List.mem_or_eq_of_mem_set hpm with hpm' | rfl
  ·by_cases hgp : p.1 = g
   ·obtain ⟨j, hj, hpj⟩ := List.mem_iff_getElem.1 hpm
    by_cases hij : i = j
    ·subst hij
     rw [List.getElem_set_self] at hpj
     subst hpj
     exact ⟨hg, s, a, n, c, h2, hs _ _ _ h3.2.1 hΨ⟩
    ·rw [List.getElem_set_ne hij] at hpj
     exfalso
     have hj' : j < B.length := by simpa using hj
     rcases Nat.lt_or_gt_of_ne hij with hlt | hlt
     ·have := List.pairwise_iff_getElem.1 h.apart i j hi hj' hlt
      rw [hBi, hpj] at this; exact this hgp.symm
     ·have := List.pairwise_iff_getElem.1 h.apart j i hj' hi hlt
      rw [hBi, hpj] at this; exact this hgp
   ·obtain ⟨h4, s4, a4, n4, c4, h5, h6⟩ := h.box p hpm'
    exact ⟨h4, s4, a4, n4, c4, h5.pt h3 hgp, h.stb p hpm' _ _ _ h3.2.1 h6⟩
  ·exact ⟨hg, s, a, n, c, h2, hs _ _ _ h3.2.1 hΨ⟩
 ·rcases List.mem_or_eq_of_mem_set hpm with hpm' | rfl
  ·exact h.stb p hpm'
  ·exact hs
 ·rw [List.pairwise_iff_getElem]
  intro j k hj hk hjk
  have hj' : j < B.length := by simpa using hj
  have hk' : k < B.length := by simpa using hk
  have key := List.pairwise_iff_getElem.1 h.apart j k hj' hk' hjk
  rw [List.getElem_set, List.getElem_set]
  split
  ·rename_i h5; subst h5
   rw [hBi] at key
   split
   ·omega
   ·exact key
  ·split
   ·rename_i h5; subst h5; rw [hBi] at key; exact key
   ·exact key

/-! ### The contracts in this form -/
theorem RInt.ret {w : World} {k : Nat} {z : Int} {e : Ending} {w' : World} (h : RInt w k z e w') : Ret w (IsI k z) e w' :=
 let ⟨s, a, n, c, h1, h2, h3⟩ := h; ⟨_, h1, h2, s, a, n, c, rfl, h3⟩
theorem RVal.ret {w : World} {v : Value} {e : Ending} {w' : World} (h : RVal w v e w') : Ret w (IsV v) e w' := ⟨_, h.1, h.2, rfl⟩
theorem Ret.mono {w : World} {Φ Ψ : Value → World → Prop} {e : Ending} {w' : World} (h : Ret w Φ e w') (hi : ∀ x w, Φ x w → Ψ x w) : Ret w Ψ e w' :=
 let ⟨x, h1, h2, h3⟩ := h; ⟨x, h1, h2, hi _ _ h3⟩

theorem Add_f {k1 k2 : Nat} {z1 z2 : Int} {x y : Value} {w : World} (hx : IsI k1 z1 x w) (hy : IsI k2 z2 y w) (l1 : k1 ≤ 268435456) (l2 : k2 ≤ 268435456) : Calls Tryz.prog 140 #[x, y] w (Ret w (IsI (max k1 k2 + 1) (z1 + z2))) := by
 obtain ⟨s, a, n, c, rfl, h1⟩ := hx; obtain ⟨s', a', n', c', rfl, h2⟩ := hy
 exact Calls.mono (Add_c w s s' a a' n n' c c' k1 k2 z1 z2 h1 h2 l1 l2) fun _ _ h => h.ret
theorem Sub_f {k1 k2 : Nat} {z1 z2 : Int} {x y : Value} {w : World} (hx : IsI k1 z1 x w) (hy : IsI k2 z2 y w) (l1 : k1 ≤ 268435456) (l2 : k2 ≤ 268435456) : Calls Tryz.prog 142 #[x, y] w (Ret w (IsI (max k1 k2 + 1) (z1 - z2))) := by
 obtain ⟨s, a, n, c, rfl, h1⟩ := hx; obtain ⟨s', a', n', c', rfl, h2⟩ := hy
 exact Calls.mono (Sub_c w s s' a a' n n' c c' k1 k2 z1 z2 h1 h2 l1 l2) fun _ _ h => h.ret
theorem Mul_f {k1 k2 : Nat} {z1 z2 : Int} {x y : Value} {w : World} (hx : IsI k1 z1 x w) (hy : IsI k2 z2 y w) (l1 : k1 ≤ 268435456) (l2 : k2 ≤ 268435456) : Calls Tryz.prog 129 #[x, y] w (Ret w (IsI (k1 + k2) (z1 * z2))) := by
 obtain ⟨s, a, n, c, rfl, h1⟩ := hx; obtain ⟨s', a', n', c', rfl, h2⟩ := hy
 exact Calls.mono (Mul_c w s s' a a' n n' c c' k1 k2 z1 z2 h1 h2 l1 l2) fun _ _ h => h.ret
theorem Cmp_f {k1 k2 : Nat} {z1 z2 : Int} {x y : Value} {w : World} (hx : IsI k1 z1 x w) (hy : IsI k2 z2 y w) (l1 : k1 ≤ 268435456) (l2 : k2 ≤ 268435456) : Calls Tryz.prog 150 #[x, y] w (Ret w (IsV (.int .i64 (cmpI z1 z2)))) := by
 obtain ⟨s, a, n, c, rfl, h1⟩ := hx; obtain ⟨s', a', n', c', rfl, h2⟩ := hy
 exact Calls.mono (Cmp_c w s s' a a' n n' c c' k1 k2 z1 z2 h1 h2 l1 l2) fun _ _ h => h.ret
theorem Gcd_f {k1 k2 : Nat} {z1 z2 : Int} {x y : Value} {w : World} (hx : IsI k1 z1 x w) (hy : IsI k2 z2 y w) (l1 : k1 ≤ 134217728) (l2 : k2 ≤ 134217728) : Calls Tryz.prog 175 #[x, y] w (Ret w (IsI (max k1 k2) (Int.gcd z1 z2 : Nat))) := by
 obtain ⟨s, a, n, c, rfl, h1⟩ := hx; obtain ⟨s', a', n', c', rfl, h2⟩ := hy
 exact Calls.mono (Gcd_c w s s' a a' n n' c c' k1 k2 z1 z2 h1 h2 l1 l2) fun _ _ h => h.ret
theorem DivMod_f {k1 k2 : Nat} {z1 z2 : Int} {x y : Value} {w : World} (hx : IsI k1 z1 x w) (hy : IsI k2 z2 y w) (l1 : k1 ≤ 134217728) (l2 : k2 ≤ 134217728) (hz : z2 ≠ 0) : Calls Tryz.prog 213 #[x, y] w (Ret w (IsT3 (IsI k1 (z1 / z2)) (IsI k2 (z1 % z2)) (IsV (.int .i64 0)))) := by
 obtain ⟨s, a, n, c, rfl, h1⟩ := hx; obtain ⟨s', a', n', c', rfl, h2⟩ := hy
 refine Calls.mono (DivMod_c w s s' a a' n n' c c' k1 k2 z1 z2 h1 h2 l1 l2 hz) fun e w' ⟨s1, a1, n1, c1, s2, a2, n2, c2, h3, h4, h5, h6⟩ => ?_
 exact ⟨_, h3, h4, _, _, _, rfl, ⟨_, _, _, _, rfl, h5⟩, ⟨_, _, _, _, rfl, h6⟩, rfl⟩
theorem Abs_f {k1 : Nat} {z1 : Int} {x : Value} {w : World} (hx : IsI k1 z1 x w) : Calls Tryz.prog 130 #[x] w (Ret w (IsI k1 z1.natAbs)) := by
 obtain ⟨s, a, n, c, rfl, h1⟩ := hx
 exact Calls.mono (Abs_c w s a n c k1 z1 h1) fun _ _ h => h.ret
theorem Sign_f {k1 : Nat} {z1 : Int} {x : Value} {w : World} (hx : IsI k1 z1 x w) : Calls Tryz.prog 127 #[x] w (Ret w (IsV (.int .i64 z1.sign))) := by
 obtain ⟨s, a, n, c, rfl, h1⟩ := hx
 exact Calls.mono (Sign_c w s a n c k1 z1 h1) fun _ _ h => h.ret
theorem Bits_f {k1 : Nat} {z1 : Int} {x : Value} {w : World} (hx : IsI k1 z1 x w) (l1 : k1 ≤ 268435456) : Calls Tryz.prog 190 #[x] w (Ret w (IsV (.int .i64 (bitLen z1.natAbs : Nat)))) := by
 obtain ⟨s, a, n, c, rfl, h1⟩ := hx
 exact Calls.mono (Bits_c w s a n c k1 z1 h1 l1) fun _ _ h => h.ret
theorem Of_f (w : World) (n : Int) (h0 : -9223372036854775808 ≤ n) (h1 : n ≤ 9223372036854775807) : Calls Tryz.prog 108 #[.int .i64 n] w (Ret w (IsI 2 n)) :=
 Calls.mono (Of_c w n h0 h1) fun _ _ h => h.ret
end Go.Proofs.YtkeikfekkdplgaaGreatDoor
namespace Go.Proofs.YtkeikfekkdplgaaGreatDoor
open Go Go.RowKit

end Go.Proofs.YtkeikfekkdplgaaGreatDoor
namespace Go.Proofs.YtkeikfekkdplgaaGreatDoor
open Go Go.RowKit
section
variable {P : Program} {ops : Array Oper} {Q : Exit → Act → World → Prop}

theorem wp_list_rg (n : Nat) (L : List (Value → World → Prop)) (boxes : List Nat) {a0 : Act} {w0 : World} (ds : List (Option Tmp))
  (hn : n ≤ ops.size) (hds : (List.range n).map (dstOf ops) = ds) (hap : dstsApart ops n = true) (htp2 : ∀ i, i < n → ∀ e ∈ needs .any ops i, e < i)
  (hst : AllStb L) (hbx : ∀ i ∈ boxes, IsBox (L.getD i (fun _ _ => True)))
  (hop : RgAll P .any ops Q ds a0 w0 L boxes 0 n ops.toList)
  (hend : ∀ v w, Ext w0 w → (∀ i, i < n → L.getD i (fun _ _ => True) (v i) w) → (∀ i j, i ∈ boxes → j ∈ boxes → i < n → j < n → i ≠ j → v i ≠ v j) →
   wpList P ops Q (ops.toList.drop n) (layL v a0 0 ds) w) :
  ∀ (m k : Nat) (v : Nat → Value) (w : World), k + m = n → Ext w0 w → (∀ i, i < k → L.getD i (fun _ _ => True) (v i) w) →
   (∀ i j, i < k → j < k → i ≠ j → i ∈ boxes → j ∈ boxes → v i ≠ v j) → wpList P ops Q (ops.toList.drop k) (layN ops v a0 n) w := by
 intro m
 induction m with
 | zero =>
  intro k v w hk hR hΦ hd
  obtain rfl : k = n := by omega
  rw [layN_layL v a0 k ds hds]
  exact hend v w hR hΦ (fun i j hi hj hin hjn hij => hd i j hin hjn hij hi hj)
 | succ m ih =>
  intro k v w hk hR hΦ hd
  have hks : k < ops.size := by omega
  have ho : ops[k]? = some ops[k] := by simp [hks]
  have hdrop : ops.toList.drop k = ops[k] :: ops.toList.drop (k + 1) := by
   rw [List.drop_eq_getElem_cons (show k < ops.toList.length by rw [Array.length_toList]; exact hks)]; simp
  rw [hdrop]
  refine wpList_step fun K hK => ?_
  have h1 := RgAll.get n 0 ops.toList hop k (by omega) ops[k] (by simp)
  rw [Nat.zero_add] at h1
  have h2 := h1 v w hR (fun j hj => ?_) K
  ·rw [← layN_layL v a0 n ds hds] at h2
   refine h2 ?_
   intro x w' hE hx hf
   refine hK _ _ ?_
   have hdst : (ops[k]).dst = dstOf ops k := by simp [dstOf, ho]
   rw [hdst, layN_put a0 v k x n (by omega) (fun i j hi hj hij => dstsApart_spec hap hi hj hij)]
   refine ih (k + 1) _ w' (by omega) (hR.trans hE) (fun i hi => ?_) (fun i j hi hj hij hbi hbj => ?_)
   ·by_cases hik : i = k
    ·subst hik; simpa only [updV, if_true] using hx
    ·simp only [updV]; rw [if_neg hik]; exact hst.get i _ _ _ hE (hΦ i (by omega))
   ·simp only [updV]
    by_cases hik : i = k
    ·subst hik
     rw [if_pos rfl, if_neg (Ne.symm hij)]
     obtain ⟨g, hg, hlt⟩ := hbx j hbj _ _ (hΦ j (by omega))
     obtain ⟨g', hg', hge⟩ := hf (List.contains_iff_mem.2 hbi)
     rw [hg, hg']
     intro h; injection h with h; injection h with h; injection h with h; omega
    ·rw [if_neg hik]
     by_cases hjk : j = k
     ·subst hjk
      rw [if_pos rfl]
      obtain ⟨g, hg, hlt⟩ := hbx i hbi _ _ (hΦ i (by omega))
      obtain ⟨g', hg', hge⟩ := hf (List.contains_iff_mem.2 hbj)
      rw [hg, hg']
      intro h; injection h with h; injection h with h; injection h with h; omega
     ·rw [if_neg hjk]; exact hd i j (by omega) (by omega) hij hbi hbj
  ·have key : (firstN ops.size k).getD j false = true :=
    sweep_listed (md := .any) (ops := ops) (listed := firstN ops.size k)
     (fun i hi e he => by
      have hik : i < k ∧ i < ops.size := by
       rcases Nat.lt_or_ge i ops.size with h | h
       ·simp [firstN, h] at hi; exact ⟨hi, h⟩
       ·simp [firstN, h] at hi
      have := htp2 i (by omega) e he
      have hes : e < ops.size := by omega
      simp [firstN, hes]; omega)
     k (needs .any ops k)
     (fun e he => by
      have := htp2 k (by omega) e he
      have hes : e < ops.size := by omega
      simp [firstN, hes]; omega) j (List.contains_iff_mem.1 hj)
   rcases Nat.lt_or_ge j ops.size with h | h
   ·simp [firstN, h] at key; exact hΦ j key
   ·simp [firstN, h] at key

def backOk (ops : Array Oper) (n : Nat) : Bool := (List.range n).all fun i => (needs .any ops i).all fun e => decide (e < i)

theorem wp_region_rgs (n : Nat) (ds : List (Option Tmp)) (L : List (Value → World → Prop)) (boxes : List Nat) {a0 : Act} {w0 : World} {id : Nat}
  (hn : n ≤ ops.size) (hds : (List.range n).map (dstOf ops) = ds) (hap : dstsApart ops n = true) (htp : backOk ops n = true)
  (hst : AllStb L) (hbx : ∀ i ∈ boxes, IsBox (L.getD i (fun _ _ => True)))
  (hop : RgAll P .any ops Q ds a0 w0 L boxes 0 n ops.toList)
  (hend : ∀ v w, Ext w0 w → (∀ i, i < n → L.getD i (fun _ _ => True) (v i) w) → (∀ i j, i ∈ boxes → j ∈ boxes → i < n → j < n → i ≠ j → v i ≠ v j) →
   wpList P ops Q (ops.toList.drop n) (layL v a0 0 ds) w) :
  (Code.region id ops false).wp P Q a0 w0 := by
 refine wp_region_list ?_
 simp only [backOk, List.all_eq_true, List.mem_range, decide_eq_true_eq] at htp
 have := wp_list_rg n L boxes ds hn hds hap htp hst hbx hop hend n 0 (slotVal ops a0) w0 (by omega) (Ext.refl _) (fun i hi => by omega) (fun i j hi => by omega)
 have hlay : layN ops (slotVal ops a0) a0 n = a0 := layN_self a0 n
 rwa [hlay, List.drop_zero] at this

/-- The rule for a region that draws its order, with copies that may come late. -/
theorem wp_region_rgO (n : Nat) (opt : List Nat) (ds : List (Option Tmp)) (L : List (Value → World → Prop)) (boxes : List Nat) (fuel : Nat) {a0 : Act} {w0 : World} {id : Nat}
  (hm : P.follows .mixedOrders = true) (hn : n ≤ ops.size) (hf : ops.size - n = fuel) (hds : (List.range n).map (dstOf ops) = ds) (hap : dstsApart ops n = true) (htp : twoParts .any ops n opt = true) (hoo : optOk .any ops n opt = true) (hob : opt.all (fun i => !boxes.contains i) = true)
  (hst : AllStb L) (hbx : ∀ i ∈ boxes, IsBox (L.getD i (fun _ _ => True)))
  (hY : ∀ i ∈ opt, ∀ (v : Nat → Value) (w : World), Ext w0 w → (∀ j, (ups .any ops i).contains j = true → L.getD j (fun _ _ => True) (v j) w) → ∃ x o, ops[i]? = some o ∧ Yields P ops o x (layL v a0 0 ds) ∧ L.getD i (fun _ _ => True) x w)
  (hop : RgAll P .any ops (NoPanic Q) ds a0 w0 L boxes 0 n ops.toList)
  (hend : ∀ v w, Ext w0 w → (∀ i, i < n → L.getD i (fun _ _ => True) (v i) w) → (∀ i j, i ∈ boxes → j ∈ boxes → i < n → j < n → i ≠ j → v i ≠ v j) →
   wpAny P .any ops (NoPanic Q) fuel (firstN ops.size n) (layL v a0 0 ds) w) :
  (Code.region id ops true).wp P Q a0 w0 := by
 refine wp_region_noPanic ?_
 refine wp_region_any hm ?_
 have hE : Ext w0 w0.drew := (Ext.refl w0).drew
 have hD : ∀ m, doneN (Array.replicate ops.size false) m = 0 := fun m => by
  unfold doneN
  rw [List.countP_eq_zero.2]
  intro i _
  simp [listed_false]
 refine wpAny_rgO n [] opt ds L boxes fuel ?_ hn hf hds hap htp hoo hst hbx (by simp) (by simp) (fun i hi => ⟨?_, (fun _ _ _ _ _ h => h), fun v w hR => hY i hi v w (hE.trans hR)⟩) ?_ (fun v w hR => hend v w (hE.trans hR))
 ·simp [startOk, hD, listed_false]
 ·simp only [List.all_eq_true, Bool.not_eq_true'] at hob; exact hob i hi
 ·have key : ∀ (k i : Nat) (os : List Oper), RgAll P .any ops (NoPanic Q) ds a0 w0 L boxes i k os → RgAll P .any ops (NoPanic Q) ds a0 w0.drew L boxes i k os := by
   intro k
   induction k with
   | zero => intro i os _; cases os <;> trivial
   | succ k ih =>
    intro i os h
    cases os with
    | nil => trivial
    | cons o os => exact ⟨fun v w hR => h.1 v w (hE.trans hR), ih _ _ h.2⟩
  exact key n 0 ops.toList hop
end

/-! ### Words for walks that a program has printed -/
theorem St.at {w0 w : World} {B : List (Nat × (Value → World → Prop))} (h : St w0 w B) (i : Nat) (g : Nat) (Φ : Value → World → Prop) (hp : B[i]? = some (g, Φ)) :
  ∃ s a n c, Bx w g s a n c ∧ Φ (.agg #[.bool s, .slice a n c]) w := h.get i _ hp
theorem St.new' {w0 w : World} {B : List (Nat × (Value → World → Prop))} (h : St w0 w B) (g : Nat) (hg : w.heap.size = g) (s : Bool) (a : Option Addr) (n c : Nat) (t : TypeId) (Φ : Value → World → Prop) (hs : GStb Φ) (hΦ : Φ (.agg #[.bool s, .slice a n c]) w) :
  St w0 (w.alloc (.cells #[.bool s, .slice a n c] t)) ((g, Φ) :: B) := hg ▸ h.new s a n c t Φ hs hΦ
theorem St.tail {w0 w : World} {p : Nat × (Value → World → Prop)} {B : List (Nat × (Value → World → Prop))} (h : St w0 w (p :: B)) : St w0 w B :=
 ⟨h.ext, fun q hq => h.box q (List.mem_cons_of_mem _ hq), fun q hq => h.stb q (List.mem_cons_of_mem _ hq), (List.pairwise_cons.1 h.apart).2⟩
/-- No box of B is g. -/
def Apart (g : Nat) (B : List (Nat × (Value → World → Prop))) : Prop := ∀ p ∈ B, p.1 ≠ g
theorem Apart.old {W : World} {B : List (Nat × (Value → World → Prop))} {g : Nat} (h : ∀ p ∈ B, p.1 < W.heap.size) (hg : W.heap.size ≤ g) : Apart g B := fun p hp he => by have := h p hp; omega
theorem Apart.cons {g g' : Nat} {Φ : Value → World → Prop} {B : List (Nat × (Value → World → Prop))} (h : g' ≠ g) (k : Apart g B) : Apart g ((g', Φ) :: B) := fun p hp => by
 rcases List.mem_cons.1 hp with rfl | hp
 ·exact h
 ·exact k p hp
theorem St.addN {w0 w : World} {B : List (Nat × (Value → World → Prop))} (h : St w0 w B) {g : Nat} (hn : Apart g B) (hg : w0.heap.size ≤ g) (hb : Bx w g false none 0 0) : St w0 w ((g, IsI 0 0) :: B) :=
 h.add hb hg hn (IsI.gstb 0 0) (IsI.nil w 0)
/-- What is known of a box, said otherwise. -/
theorem St.weaken {w0 w : World} {B : List (Nat × (Value → World → Prop))} (h : St w0 w B) (i : Nat) (g : Nat) (Φ Ψ : Value → World → Prop) (hp : B[i]? = some (g, Φ)) (hs : GStb Ψ) (hi : ∀ x, Φ x w → Ψ x w) : St w0 w (B.set i (g, Ψ)) := by
 obtain ⟨s, a, n, c, hb, hΦ⟩ := h.at i g Φ hp
 have hil : i < B.length := (List.getElem?_eq_some_iff.1 hp).1
 have hBi : B[i] = (g, Φ) := (List.getElem?_eq_some_iff.1 hp).2
 refine ⟨h.ext, fun p hpm => ?_, fun p hpm => ?_, ?_⟩
 ·rcases List.mem_or_eq_of_mem_set hpm with hpm' | rfl
  ·exact h.box p hpm'
  ·exact ⟨(h.box _ (List.mem_of_getElem? hp)).1, s, a, n, c, hb, hi _ hΦ⟩
 ·rcases List.mem_or_eq_of_mem_set hpm with hpm' | rfl
  ·exact h.stb p hpm'
  ·exact hs
 ·rw [List.pairwise_iff_getElem]
  intro j k hj hk hjk
  have hj' : j < B.length := by simpa using hj
  have hk' : k < B.length := by simpa using hk
  have key := List.pairwise_iff_getElem.1 h.apart j k hj' hk' hjk
  rw [List.getElem_set, List.getElem_set]
  split
  ·rename_i h5; subst h5
   rw [hBi] at key
   split
   ·omega
   ·exact key
  ·split
   ·rename_i h5; subst h5; rw [hBi] at key; exact key
   ·exact key
theorem Ret.val {w : World} {u v : Value} {e : Ending} {w' : World} (h : Ret w (IsV v) e w') (hv : v = u) : Ret w (IsV u) e w' := hv ▸ h
theorem Ret.int {w : World} {i j : Int} {k : IntKind} {e : Ending} {w' : World} (h : Ret w (IsV (.int k i)) e w') (hv : i = j) : Ret w (IsV (.int k j)) e w' := hv ▸ h
theorem Ret.eqz {w : World} {k : Nat} {z z' : Int} {e : Ending} {w' : World} (h : Ret w (IsI k z) e w') (hz : z = z') : Ret w (IsI k z') e w' := hz ▸ h

/-- The words of an integer; how many they are. -/
def IsMag (k : Nat) (z : Int) : Value → World → Prop := fun x w => ∃ s a n c, x = .slice a n c ∧ IntAt w k s a n c z
theorem IsMag.stb (k : Nat) (z : Int) : Stb (IsMag k z) := fun _ _ _ e ⟨s, a, n, c, h1, h2⟩ => ⟨s, a, n, c, h1, h2.ext e⟩
/-- A length that is not 0. -/
def IsPos : Value → World → Prop := fun x _ => ∃ n : Nat, x = .int .i64 (n : Int) ∧ 0 < n ∧ n ≤ 9223372036854775807
theorem IsPos.stb : Stb IsPos := fun _ _ _ _ h => h
theorem IntAt.len {w : World} {k n cap : Nat} {s : Bool} {ao : Option Addr} {z : Int} (h : IntAt w k s ao n cap z) : n ≤ 9223372036854775807 := by
 obtain ⟨m, ⟨xs, h1, _⟩, _⟩ := h
 have := h1.capo; have := h1.big; omega
end Go.Proofs.YtkeikfekkdplgaaGreatDoor
