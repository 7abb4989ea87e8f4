/-
  Package notebook: the reader: take and word.
-/
import Derived.Test.YtenhciieboegbaaGreatDoorNpr
import Derived.Test.YtenhciieboegbaaGreatDoorNvl
namespace Go.Proofs.YtenhciieboegbaaGreatDoor
open Go Go.RowKit
/-- What a reader panics with. -/
def wrongV : Value := .iface 127 (.agg #[])
def pwr : List PanicEntry := [{ v := wrongV, recovered := false }]
/-- What a step of the reader answers: only the reader's block changes. -/
def RdP {α : Type} (R : Nat) (w : World) (Φ : α → Value → World → Prop) (o : Option (α × List UInt8)) (e : Ending) (w' : World) : Prop :=
  Ob R w w' ∧ match o with
  | some (x, t) => Bk w' R [encS t] ∧ ∃ v, e = .returned v ∧ Φ x v w'
  | none => e = .panicked pwr
def UnitP : Unit → Value → World → Prop := fun _ v _ => v = .tuple #[]
theorem Bk.set0 {w : World} {R : Nat} {s : List UInt8} (B : Bk w R [encS s]) (t : List UInt8) : Ob R w (w.setCell ⟨R, 0, none⟩ (encS t)) ∧ Bk (w.setCell ⟨R, 0, none⟩ (encS t)) R [encS t] := by
  obtain ⟨h1, h2⟩ := B.setO 0 (by simp) (encS t) (NoWord.string _)
  exact ⟨Ob.only h1, h2⟩
theorem stC_str (w : World) (R : Nat) (v : Value) (t : List UInt8) (c0 : w.cell? ⟨R, 0, none⟩ = some v) (f0 : w.frozen? ⟨R, 0, none⟩ = false) : (storeCells ⟨R, 0, none⟩ [encS t]).run Tryz.prog w = .ok () (w.setCell ⟨R, 0, none⟩ (encS t)) := by
  unfold encS
  go_simp
section
set_option maxRecDepth 100000
set_option maxHeartbeats 4000000
theorem take_f {R : Nat} {s x : List UInt8} {w : World} (B : Bk w R [encS s]) : Calls Tryz.prog 77 #[.pointer (some ⟨R, 0, none⟩), encS x] w (RdP R w UnitP ((takeP x s).map fun t => ((), t))) := by
  have HC := hid (cutPre_f w s x)
  obtain ⟨y, hy⟩ : ∃ y, encS x = y := ⟨_, rfl⟩
  obtain ⟨p, hp⟩ : ∃ p, x.isPrefixOf s = p := ⟨_, rfl⟩
  rw [hy, hp] at HC
  have HC : Hid (Calls Tryz.prog 111 #[encS s, y] w (fun e w' => w' = w ∧ e = .returned (.tuple #[encS (if p = true then s.drop x.length else s), .bool p]))) := HC
  rw [hy]
  have c0 := B.c 0 _ rfl
  have f0 := B.f 0
  have HP := hid hp
  have HB := hid B
  clear B hy hp
  cases p with
  | false =>
    have HR := hid (show takeP x s = none by rw [takeP, HP.out]; rfl)
    go_enter Tryz.func77, Tryz.ntmps77
    go_wp2_with (go_at_call 111; refine Calls.mono HC.out ?_; rintro e w1 ⟨rfl, rfl⟩)
    rw [HR.out]
    exact ⟨rfl, Ob.of (Ext.refl _), rfl⟩
  | true =>
    have HR := hid (show takeP x s = some (s.drop x.length) by rw [takeP, HP.out]; rfl)
    obtain ⟨t, ht⟩ : ∃ t, s.drop x.length = t := ⟨_, rfl⟩
    have HO := hid (HB.out.set0 t)
    have hsc := hid (stC_str w R _ t c0 f0)
    have HT := hid ht
    simp only [if_true] at HC
    have HC : Hid (Calls Tryz.prog 111 #[encS s, y] w (fun e w' => w' = w ∧ e = .returned (.tuple #[encS t, .bool true]))) := by rw [← ht]; exact HC
    clear ht
    go_enter Tryz.func77, Tryz.ntmps77
    go_wp2_with (go_at_call 111; refine Calls.mono HC.out ?_; rintro e w1 ⟨rfl, rfl⟩)
    rw [hsc.out]
    go_wp2_with fail
    go_end0
    rw [HR.out, HT.out]
    exact ⟨HO.out.1, HO.out.2, _, rfl, rfl⟩
theorem tw_at {p : UInt8 → Bool} {s : List UInt8} {i : Nat} (h1 : (s.take i).all p = true) (h2 : ∀ c, s[i]? = some c → p c = false) : s.takeWhile p = s.take i ∧ s.dropWhile p = s.drop i := by
  have h := tw_app (p := p) (s.take i) (s.drop i) h1 (fun c t e => h2 c (by
    have : (s.drop i)[0]? = some c := by rw [e]; rfl
    rwa [List.getElem?_drop, Nat.add_zero] at this))
  rw [List.take_append_drop] at h
  exact h
theorem word_f {R : Nat} {s : List UInt8} {w : World} (B : Bk w R [encS s]) (hl : s.length ≤ 1000000) : Calls Tryz.prog 76 #[.pointer (some ⟨R, 0, none⟩)] w (RdP R w (fun (x : List UInt8) v _ => v = encS x) (some (s.takeWhile cWrd, s.dropWhile cWrd))) := by
  have c0 := B.c 0 _ rfl
  have f0 := B.f 0
  have HB := hid B
  obtain ⟨n, hn⟩ : ∃ n, s.length = n := ⟨_, rfl⟩
  have HN := hid (And.intro hn hl)
  obtain ⟨sb, hsb⟩ : ∃ y, (⟨s.toArray⟩ : ByteArray) = y := ⟨_, rfl⟩
  have hsz : sb.size = n := by rw [← hsb, ← hn]; rfl
  have HSB := hid hsb
  rw [encS, hsb] at c0
  clear B hn hl hsb
  go_enter Tryz.func76, Tryz.ntmps76
  go_wp2
  go_loopg [3] n (fun gk v3 wr => ∃ i : Nat, v3 = .int .i64 ((i : Nat) : Int) ∧ i + gk = n ∧ wr = w ∧ Hid ((s.take i).all cWrd = true))
  case atStart => exact ⟨0, rfl, by omega, rfl, hid (by simp)⟩
  case round =>
    obtain ⟨i, rfl, hg, rfl, S⟩ := hrel
    have HX := fun (h2 : ∀ c, s[i]? = some c → cWrd c = false) => tw_at S.out h2
    have HX := hid HX
    by_cases hi : i < n
    · have hil : (i : Int) < (n : Int) := by omega
      obtain ⟨c, hc⟩ : ∃ c, s[i]? = some c := ⟨_, List.getElem?_eq_getElem (by have := HN.out.1; omega)⟩
      have hbi : ∀ h, sb[i]'h = c := fun h => by
        subst hsz
        have := HSB.out
        subst this
        have h3 := List.getElem?_eq_some_iff.1 hc
        obtain ⟨_, h4⟩ := h3
        exact h4
      have hiw : IntKind.i64.wrap ((i : Int) + 1) = ((i + 1 : Nat) : Int) := by have := HN.out; simp only [IntKind.wrap_i64]; omega
      have HG := hid (And.intro hg (And.intro hi hc))
      obtain ⟨q, hq⟩ : ∃ q, cWrd c = q := ⟨_, rfl⟩
      have HQ := hid hq
      have HW := hid (inWord_f c wr)
      rw [hq] at HW
      have HW : Hid (Calls Tryz.prog 60 #[bV c] wr (RSame wr (.bool q))) := HW
      clear hq hg hi hc
      cases q with
      | true =>
        have S' := hid (show (s.take (i + 1)).all cWrd = true by rw [List.take_add_one, HG.out.2.2]; simp [S.out, HQ.out])
        clear S HX
        go_wp2_with (go_at_call 60; refine Calls.mono HW.out ?_; rintro e w1 ⟨rfl, rfl⟩)
        go_roundg (gk - 1)
        case measure => have := HG.out; omega
        case rel => exact ⟨i + 1, rfl, by have := HG.out; omega, rfl, S'⟩
      | false =>
        have HEND := hid (HX.out (fun d hd => by rw [HG.out.2.2] at hd; cases hd; exact HQ.out))
        have hi := HG.out.2.1
        have hi1 : (i : Int) ≤ (n : Int) := by omega
        have hi0 : (0 : Int) ≤ (i : Int) := by omega
        obtain ⟨tw, htw⟩ : ∃ y, s.take i = y := ⟨_, rfl⟩
        obtain ⟨dw, hdw⟩ : ∃ y, s.drop i = y := ⟨_, rfl⟩
        have hw1 : sb.extract 0 i = ⟨tw.toArray⟩ := by rw [← HSB.out, ba_ex, ← htw]; simp
        have hw2 : sb.extract i n = ⟨dw.toArray⟩ := by rw [← HSB.out, ba_ex, ← hdw, List.take_of_length_le (by rw [List.length_drop, HN.out.1]; exact Nat.le_refl _)]
        have HR := hid (show s.takeWhile cWrd = tw ∧ s.dropWhile cWrd = dw from ⟨by rw [HEND.out.1, htw], by rw [HEND.out.2, hdw]⟩)
        have HO := hid (HB.out.set0 dw)
        have hsc := hid (stC_str wr R _ dw (HB.out.c 0 _ rfl) f0)
        clear htw hdw S HX HEND
        clear hi
        go_wp2_with (go_at_call 60; refine Calls.mono HW.out ?_; rintro e w1 ⟨rfl, rfl⟩)
        go_ret
        rw [HR.out.1, HR.out.2]
        exact ⟨HO.out.1, HO.out.2, _, rfl, rfl⟩
    · have hil : ¬ ((i : Int) < (n : Int)) := by omega
      have HEND := hid (HX.out (fun d hd => by have := (List.getElem?_eq_some_iff.1 hd).1; have := HN.out.1; omega))
      have hin : i = n := by omega
      have hi1 : (i : Int) ≤ (n : Int) := by omega
      have hi0 : (0 : Int) ≤ (i : Int) := by omega
      obtain ⟨tw, htw⟩ : ∃ y, s.take i = y := ⟨_, rfl⟩
      obtain ⟨dw, hdw⟩ : ∃ y, s.drop i = y := ⟨_, rfl⟩
      have hw1 : sb.extract 0 i = ⟨tw.toArray⟩ := by rw [← HSB.out, ba_ex, ← htw]; simp
      have hw2 : sb.extract i n = ⟨dw.toArray⟩ := by rw [← HSB.out, ba_ex, ← hdw, List.take_of_length_le (by rw [List.length_drop, HN.out.1]; exact Nat.le_refl _)]
      have HR := hid (show s.takeWhile cWrd = tw ∧ s.dropWhile cWrd = dw from ⟨by rw [HEND.out.1, htw], by rw [HEND.out.2, hdw]⟩)
      have HO := hid (HB.out.set0 dw)
      have hsc := hid (stC_str wr R _ dw (HB.out.c 0 _ rfl) f0)
      clear htw hdw S HX HEND
      clear hin
      go_wp2_with fail
      go_ret
      rw [HR.out.1, HR.out.2]
      exact ⟨HO.out.1, HO.out.2, _, rfl, rfl⟩
end
end Go.Proofs.YtenhciieboegbaaGreatDoor
