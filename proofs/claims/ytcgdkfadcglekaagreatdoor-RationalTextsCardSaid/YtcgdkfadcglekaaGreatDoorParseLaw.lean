/-
  Plain laws: Parse and Text undo each other. No program in sight.
-/
import Derived.Test.YtcgdkfadcglekaaGreatDoorParse
namespace Go.Proofs.YtcgdkfadcglekaaGreatDoor
open Go Go.RowKit

theorem dig_nat {d : Nat} (h : d < 10) : (UInt8.ofNat (48 + d)).toNat = 48 + d := by
  rw [UInt8.toNat_ofNat']; omega
theorem dig_isDig {d : Nat} (h : d < 10) : isDig (UInt8.ofNat (48 + d)) = true := by
  rw [isDig, dig_nat h]; simp; omega
theorem dval_dec (m : Nat) : dval (Lib.decDigits m) = m ∧ (∀ c ∈ Lib.decDigits m, isDig c = true) ∧ Lib.decDigits m ≠ [] ∧ (0 < m → (Lib.decDigits m).headD 0 ≠ 48) := by
  induction m using Nat.strongRecOn with
  | _ m ih =>
    by_cases h : m < 10
    · rw [dec_small h]
      refine ⟨?_, ?_, by simp, ?_⟩
      · show 0 * 10 + ((UInt8.ofNat (48 + m)).toNat - 48) = m
        rw [dig_nat h]; omega
      · intro c hc
        rw [List.mem_singleton.1 hc]; exact dig_isDig h
      · intro h0 hc
        have := congrArg UInt8.toNat hc
        rw [show ([UInt8.ofNat (48 + m)] : List UInt8).headD 0 = UInt8.ofNat (48 + m) from rfl, dig_nat h] at this
        have h2 : (48 : UInt8).toNat = 48 := rfl
        omega
    · obtain ⟨h1, h2, h3, h4⟩ := ih (m / 10) (by omega)
      rw [dec_big h]
      refine ⟨?_, ?_, by simp, ?_⟩
      · rw [dval_snoc, h1, dig_nat (by omega)]; omega
      · intro c hc
        rcases List.mem_append.1 hc with hc | hc
        · exact h2 c hc
        · rw [List.mem_singleton.1 hc]; exact dig_isDig (by omega)
      · intro _
        have h5 := h4 (by omega)
        cases hl : Lib.decDigits (m / 10) with
        | nil => exact absurd hl h3
        | cons c l => rw [hl] at h5; exact h5

theorem dec_dval : ∀ (n : Nat) (l : List UInt8), l.length = n + 1 → (∀ c ∈ l, isDig c = true) → (l.headD 0 ≠ 48 ∨ l.length = 1) → Lib.decDigits (dval l) = l ∧ (l.headD 0 ≠ 48 → 0 < dval l) := by
  intro n
  induction n with
  | zero =>
    intro l hl hd _
    match l, hl with
    | [c], _ =>
      have h1 := hd c (by simp)
      simp only [isDig, Bool.and_eq_true, decide_eq_true_eq] at h1
      have h2 : dval [c] = c.toNat - 48 := by simp [dval]
      have h3 : UInt8.ofNat (48 + (c.toNat - 48)) = c := by
        rw [show 48 + (c.toNat - 48) = c.toNat from by omega]; exact UInt8.ofNat_toNat
      refine ⟨by rw [h2, dec_small (by omega), h3], fun h => ?_⟩
      rw [h2]
      have : c.toNat ≠ 48 := fun h5 => h (UInt8.toNat_inj.1 (by rw [show ([c] : List UInt8).headD 0 = c from rfl, h5]; rfl))
      omega
  | succ n ih =>
    intro l hl hd hh
    have hne : l ≠ [] := by intro h; rw [h] at hl; simp at hl
    obtain ⟨k, c, rfl⟩ : ∃ k c, l = k ++ [c] := ⟨l.dropLast, l.getLast hne, (List.dropLast_concat_getLast hne).symm⟩
    have hk : k.length = n + 1 := by simpa using hl
    have hkh : (k ++ [c]).headD 0 = k.headD 0 := by
      cases k with
      | nil => simp at hk
      | cons a k => rfl
    rw [hkh] at hh
    have h48 : k.headD 0 ≠ 48 := by
      rcases hh with h | h
      · exact h
      · rw [hl] at h; omega
    obtain ⟨h1, h2⟩ := ih k hk (fun x hx => hd x (List.mem_append_left _ hx)) (Or.inl h48)
    have h3 := hd c (by simp)
    simp only [isDig, Bool.and_eq_true, decide_eq_true_eq] at h3
    have h4 := h2 h48
    rw [dval_snoc]
    refine ⟨?_, fun _ => by omega⟩
    rw [dec_big (by omega), show (dval k * 10 + (c.toNat - 48)) / 10 = dval k from by omega, show (dval k * 10 + (c.toNat - 48)) % 10 = c.toNat - 48 from by omega, h1,
      show 48 + (c.toNat - 48) = c.toNat from by omega, UInt8.ofNat_toNat]

theorem neg_cons (l : List UInt8) : negOf (45 :: l) = true ∧ bodyOf (45 :: l) = l := by
  have h : negOf (45 :: l) = true := by simp [negOf, Lib.hasPrefix, List.isPrefixOf]
  refine ⟨h, ?_⟩
  have h2 : Lib.hasPrefix (45 :: l) [45] = true := h
  rw [bodyOf, Lib.trimPrefix, if_pos h2]
  rfl
theorem neg_not {l : List UInt8} (h : l.headD 0 ≠ 45) : negOf l = false ∧ bodyOf l = l := by
  have h1 : negOf l = false := by
    cases l with
    | nil => rfl
    | cons c l =>
      have : c ≠ 45 := h
      simp [negOf, Lib.hasPrefix, List.isPrefixOf, Ne.symm this]
  refine ⟨h1, ?_⟩
  have h2 : Lib.hasPrefix l [45] = false := h1
  rw [bodyOf, Lib.trimPrefix, if_neg (by rw [h2]; decide)]
theorem neg_head {l : List UInt8} (h : negOf l = true) : ∃ k, l = 45 :: k := by
  cases l with
  | nil => exact absurd h (by decide)
  | cons c l =>
    by_cases hc : c = 45
    · exact ⟨l, by rw [hc]⟩
    · have := (neg_not (l := c :: l) hc).1
      rw [this] at h
      exact absurd h (by decide)
theorem dig_not45 {l : List UInt8} (h : ∀ c ∈ l, isDig c = true) : l.headD 0 ≠ 45 := by
  cases l with
  | nil => decide
  | cons c l =>
    intro hc
    have h1 := h c (by simp)
    have h2 : c = 45 := hc
    rw [h2] at h1
    exact absurd h1 (by decide)

theorem parse_text (z : Int) (h0 : (Lib.itoa z).length ≤ 1300) : parseE (Lib.itoa z) = 0 ∧ parseZ (Lib.itoa z) = z := by
  rcases Int.lt_or_le z 0 with hz | hz
  · obtain ⟨m, hm, hm0⟩ : ∃ m : Nat, z = -(m : Int) ∧ 1 ≤ m := ⟨z.natAbs, by omega, by omega⟩
    obtain ⟨h1, h2, h3, h4⟩ := dval_dec m
    rw [hm, Lib.itoa_neg m hm0] at h0 ⊢
    obtain ⟨n1, n2⟩ := neg_cons (Lib.decDigits m)
    have hb : badStart (45 :: Lib.decDigits m) = false := by
      rw [badStart, n2, Bool.or_eq_false_iff]
      refine ⟨by rw [Bool.eq_false_iff]; intro h; exact h3 (List.isEmpty_iff.1 h), ?_⟩
      rw [Bool.and_eq_false_iff]
      exact Or.inl (beq_eq_false_iff_ne.2 (h4 hm0))
    have := parse_ok h0 hb (by rw [n2]; exact h2)
    rw [n1, n2, h1, if_pos rfl] at this
    exact this
  · obtain ⟨m, hm⟩ : ∃ m : Nat, z = (m : Int) := ⟨z.natAbs, by omega⟩
    obtain ⟨h1, h2, h3, h4⟩ := dval_dec m
    rw [hm, Lib.itoa_nonneg m] at h0 ⊢
    obtain ⟨n1, n2⟩ := neg_not (dig_not45 h2)
    have hb : badStart (Lib.decDigits m) = false := by
      rw [badStart, n2, Bool.or_eq_false_iff]
      refine ⟨by rw [Bool.eq_false_iff]; intro h; exact h3 (List.isEmpty_iff.1 h), ?_⟩
      rw [Bool.and_eq_false_iff]
      rcases Nat.eq_zero_or_pos m with hm0 | hm0
      · right
        rw [hm0, dec_small (by decide)]
        rfl
      · exact Or.inl (beq_eq_false_iff_ne.2 (h4 hm0))
    have := parse_ok h0 hb (by rw [n2]; exact h2)
    rw [n1, n2, h1, if_neg (by decide)] at this
    exact this

/-- What Parse takes, Text writes again. -/
theorem text_parse (l : List UInt8) (h : parseE l = 0) : textS (parseZ l) = l ∧ textE (parseZ l) = 0 := by
  have h0 : l.length ≤ 1300 := by
    rcases Nat.lt_or_ge 1300 l.length with h1 | h1
    · rw [(parse_long h1).1] at h; exact absurd h (by decide)
    · exact h1
  have h1 : badStart l = false := by
    cases hb : badStart l
    · rfl
    · rw [(parse_start h0 hb).1] at h; exact absurd h (by decide)
  have h2 : ∀ c ∈ bodyOf l, isDig c = true := by
    intro c hc
    cases hd : isDig c
    · rw [(parse_bad h0 ⟨c, hc, hd⟩).1] at h; exact absurd h (by decide)
    · rfl
  have hz := (parse_ok h0 h1 h2).2
  rw [badStart, Bool.or_eq_false_iff, Bool.and_eq_false_iff] at h1
  obtain ⟨hne, hh⟩ := h1
  have hlen : 0 < (bodyOf l).length := by
    rcases Nat.eq_zero_or_pos (bodyOf l).length with h3 | h3
    · rw [List.length_eq_zero_iff.1 h3] at hne; exact absurd hne (by decide)
    · exact h3
  have key : Lib.itoa (parseZ l) = l := by
    rw [hz]
    cases hn : negOf l
    · have hbl : bodyOf l = l := by
        rw [bodyOf, Lib.trimPrefix, if_neg (by rw [show Lib.hasPrefix l [45] = false from hn]; decide)]
      rw [hbl] at hh hlen h2 ⊢
      rw [if_neg (by decide), Lib.itoa_nonneg]
      refine (dec_dval (l.length - 1) l (by omega) h2 ?_).1
      rcases hh with h3 | h3
      · exact Or.inl (beq_eq_false_iff_ne.1 h3)
      · right
        have h4 : l = [48] := by simpa using h3
        rw [h4]; rfl
    · obtain ⟨k, hk⟩ := neg_head hn
      subst hk
      rw [(neg_cons k).2] at hh hlen h2 ⊢
      rw [if_pos rfl]
      have h4 : k.headD 0 ≠ 48 := by
        rcases hh with h3 | h3
        · exact beq_eq_false_iff_ne.1 h3
        · simp at h3
      obtain ⟨h5, h6⟩ := dec_dval (k.length - 1) k (by omega) h2 (Or.inl h4)
      rw [Lib.itoa_neg _ (h6 h4), h5]
  rw [textS, textE, key, if_neg (by omega), if_neg (by omega)]
  exact ⟨rfl, rfl⟩
end Go.Proofs.YtcgdkfadcglekaaGreatDoor
