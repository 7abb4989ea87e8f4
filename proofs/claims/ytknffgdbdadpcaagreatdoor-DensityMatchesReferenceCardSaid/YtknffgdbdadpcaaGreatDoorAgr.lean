/-
 Package density and its reference answer alike at every integer of two words and every number of two words.
-/
import Derived.Test.YtknffgdbdadpcaaGreatDoorDen34
import Derived.Test.YtknffgdbdadpcaaGreatDoorDen35
namespace Go.Proofs.YtknffgdbdadpcaaGreatDoor
open Go Go.RowKit

theorem textZ {z : Int} (h : z.natAbs < 18446744073709551616) : ∃ tn : ByteArray, encS (textS z) = .string tn ∧ textE z = 0 ∧ tn.size ≤ 1000 := by
 have hl : (Lib.itoa z).length ≤ 66 := by
  unfold Lib.itoa
  split
  ·have := dec_len z.natAbs 64 h
   rw [List.length_cons]; omega
  ·have := dec_len z.toNat 64 (by omega)
   omega
 refine ⟨⟨(textS z).toArray⟩, rfl, ?_, ?_⟩
 ·unfold textE; rw [if_neg (by omega)]
 ·show (textS z).toArray.size ≤ 1000
  unfold textS
  rw [if_neg (by omega)]
  simp; omega
theorem totP_box (ch : Nat → Int) {n : Nat} (hn : 0 < n) : 0 ≤ totP (locg ch) n ∧ totP (locg ch) n ≤ n := by
 refine ⟨?_, Qp_le ch hn⟩
 have := pre_le ch hn (pre := pw n 2 n) ⟨[], List.append_nil _⟩
 exact this.1
/-- Where both sides refuse with the same error. -/
theorem agr_u {w0 : World} {z z2 p ue : Int} (HUB : (ue != 0) = true)
  (HUN : ∀ (x y : Value) (w : World), IsI 2 z x w → IsI 2 z2 y w → Calls Tryz.prog 39 #[x, y] w (Ret w (IsV (.int .i64 ue))))
  (HRF : ∀ (x y : Value) (w : World), IsI 2 z x w → IsI 2 z2 y w → Calls Tryz.prog 23 #[x, y] w (Ret w (IsV (.int .i64 ue))))
  (cl : ∃ (o : Option (ByteArray × Rat)) (e : Int), ∀ (x : Value) (w : World), Ext w0 w → IsI 2 z x w → Calls Tryz.prog 18 #[x] w (Ret w (IsT2 (AuO 4 o) (IsV (.int .i64 e)))) ∧ Calls Tryz.prog 19 #[x] w (Ret w (IsT2 (AuO 2 o) (IsV (.int .i64 e))))) : AgrN w0 z z2 p where
 lo := ⟨0, ue, fun x y w _ hx hy => ⟨Local_x hx hy p (hid fun x y w' _ a b => HUN x y w' a b) (hid HUB), rLocal_e hx hy p ue (hid HRF) (hid HUB)⟩⟩
 tot := ⟨0, ue, fun x y w _ hx hy => ⟨Total_x hx hy (hid HUN) (hid HUB), rTotal_e hx hy (hid HRF) (hid HUB)⟩⟩
 ge := ⟨[], ue, fun x y w _ hx hy => ⟨Genus_x hx hy (hid HUN) (hid HUB), rGenus_x hx hy (hid HRF) (hid HUB)⟩⟩
 au := ⟨none, ue, fun x y w _ hx hy => ⟨Audit_x hx hy (hid (by decide)) (hid fun x y w' _ a b => Total_x a b (hid HUN) (hid HUB)) (hid HUB), rAudit_e hx hy (hid (by decide)) (hid fun x y w' _ a b => rTotal_e a b (hid HRF) (hid HUB)) (hid HUB)⟩⟩
 cl := cl
theorem cmp_lt {a b : Int} (h : a < b) : cmpI a b = -1 := by unfold cmpI; rw [if_pos h]
theorem cmp_gt {a b : Int} (h : b < a) : cmpI a b = 1 := by unfold cmpI; rw [if_neg (by omega), if_pos h]
/-- Class, of an integer that is no discriminant, or too far below. -/
theorem agr_cx {w0 : World} {z : Int} (h : dE z ≠ 0) : ∃ (o : Option (ByteArray × Rat)) (e : Int), ∀ (x : Value) (w : World), Ext w0 w → IsI 2 z x w → Calls Tryz.prog 18 #[x] w (Ret w (IsT2 (AuO 4 o) (IsV (.int .i64 e)))) ∧ Calls Tryz.prog 19 #[x] w (Ret w (IsT2 (AuO 2 o) (IsV (.int .i64 e)))) := by
 by_cases h5 : dE z = 5
 ·exact ⟨none, 5, fun x w _ hx => ⟨Class_d hx (hid (by decide)) (hid h5), rClass_d hx (hid (by decide)) (hid h5)⟩⟩
 ·have hb : z < -4194304 := by
   unfold dE at h h5
   split at h
   ·rename_i h1; rw [if_pos h1] at h5; exact absurd rfl h5
   ·split at h
    ·assumption
    ·exact absurd rfl h
  have c4 : decide (0 ≤ cmpI z (-4)) = false := by rw [cmp_lt (by omega)]; rfl
  have c9 : decide (cmpI z (-4096) < 0) = true := by rw [cmp_lt (by omega)]; rfl
  exact ⟨none, 2, fun x w _ hx => ⟨Class_b hx (hid (by decide)) (hid rfl) (hid (by simpa using h5)) (hid rfl) (hid c4) (hid rfl) (hid c9), rClass_b hx (hid (by decide)) (hid rfl) (hid (by simpa using h5)) (hid rfl) (hid c4) (hid rfl) (hid c9)⟩⟩
/-- Class, at a discriminant. -/
theorem agr_c {w0 : World} {T L : Nat} (ht : Tab w0) (hs : Sg w0) (hn : 1 ≤ T ∧ T ≤ 4194304 ∧ (T % 4 = 0 ∨ T % 4 = 3)) (hL : L * L ≤ T ∧ T < (L + 1) * (L + 1)) : ∃ (o : Option (ByteArray × Rat)) (e : Int), ∀ (x : Value) (w : World), Ext w0 w → IsI 2 (-((T : Nat) : Int)) x w → Calls Tryz.prog 18 #[x] w (Ret w (IsT2 (AuO 4 o) (IsV (.int .i64 e)))) ∧ Calls Tryz.prog 19 #[x] w (Ret w (IsT2 (AuO 2 o) (IsV (.int .i64 e)))) := by
 have hd : dE (-((T : Nat) : Int)) = 0 := by unfold dE; rw [if_neg (by omega), if_neg (by omega)]
 have hd5 : ((0 : Int) == 5) = false := rfl
 by_cases h4 : T ≤ 4
 ·have c4 : decide (0 ≤ cmpI (-((T : Nat) : Int)) (-4)) = true := by
   rcases (show T = 3 ∨ T = 4 by omega) with rfl | rfl <;> decide
  exact ⟨none, 5, fun x w _ hx => ⟨Class_a hx (hid (by decide)) (hid hn) (hid rfl) (hid c4), rClass_a hx (hid (by decide)) (hid hd) (hid hd5) (hid rfl) (hid c4)⟩⟩
 have c4 : decide (0 ≤ cmpI (-((T : Nat) : Int)) (-4)) = false := by rw [cmp_lt (by omega)]; rfl
 by_cases h9 : 4096 < T
 ·have c9 : decide (cmpI (-((T : Nat) : Int)) (-4096) < 0) = true := by rw [cmp_lt (by omega)]; rfl
  exact ⟨none, 2, fun x w _ hx => ⟨Class_b hx (hid (by decide)) (hid hd) (hid hd5) (hid rfl) (hid c4) (hid rfl) (hid c9), rClass_b hx (hid (by decide)) (hid hd) (hid hd5) (hid rfl) (hid c4) (hid rfl) (hid c9)⟩⟩
 have c9 : decide (cmpI (-((T : Nat) : Int)) (-4096) < 0) = false := by
  unfold cmpI; rw [decide_eq_false_iff_not]; split <;> (try split) <;> omega
 by_cases hf : ((cdB T L : Nat) : Int) = 1
 ·obtain ⟨tn, htn⟩ := textZ (z := -((T : Nat) : Int)) (by omega)
  have cf : (cmpI ((cdB T L : Nat) : Int) 1 != 0) = false := by rw [hf]; decide
  refine ⟨some (((⟨#[99, 58]⟩ : ByteArray) ++ tn), Rat.divInt ((clsS (-((T : Nat) : Int)) T).tdiv ((T : Nat) : Int)) 1), 0, fun x w e hx => ⟨?_, ?_⟩⟩
  ·exact Class_k hx (hid (by decide)) (hid hn) (hid rfl) (hid c4) (hid rfl) (hid c9) (hid hL) (hid rfl) (hid cf) (hid (by omega)) (hid (ht.ext e)) tn (hid htn) (hid (hs.ext e))
  ·exact rClass_k hx (hid (by decide)) (hid hn) (hid hd) (hid hd5) (hid rfl) (hid c4) (hid rfl) (hid c9) (hid hL) (hid (decide_eq_true hf)) (hid (by omega)) tn (hid htn)
 ·have cf : (cmpI ((cdB T L : Nat) : Int) 1 != 0) = true := by
   unfold cmpI; rw [bne_iff_ne]; split <;> (try split) <;> omega
  exact ⟨none, 5, fun x w _ hx => ⟨Class_n hx (hid (by decide)) (hid hn) (hid rfl) (hid c4) (hid rfl) (hid c9) (hid hL) (hid rfl) (hid cf), rClass_n hx (hid (by decide)) (hid hn) (hid hd) (hid hd5) (hid rfl) (hid c4) (hid rfl) (hid c9) (hid hL) (hid (decide_eq_false hf))⟩⟩
theorem root_ex : ∀ n : Nat, ∃ L, L * L ≤ n ∧ n < (L + 1) * (L + 1)
 | 0 => ⟨0, by decide, by decide⟩
 | n + 1 => by
  obtain ⟨L, h1, h2⟩ := root_ex n
  by_cases h : n + 1 < (L + 1) * (L + 1)
  ·exact ⟨L, by omega, h⟩
  ·refine ⟨L + 1, by omega, ?_⟩
   have : (L + 1 + 1) * (L + 1 + 1) = (L + 1) * (L + 1) + 2 * (L + 1) + 1 := by grind
   omega
/-- At a discriminant, and a number that is not refused. -/
theorem agr_k {w0 : World} {T L m : Nat} {p : Int} (ht : Tab w0) (hs : Sg w0) (hz : Tzt w0) (hn : 1 ≤ T ∧ T ≤ 4194304 ∧ (T % 4 = 0 ∨ T % 4 = 3)) (hL : L * L ≤ T ∧ T < (L + 1) * (L + 1)) (hp : -9223372036854775808 ≤ p ∧ p ≤ 9223372036854775807) (hu : unsE (cdB T L) ((m : Nat) : Int) = 0) : AgrN w0 (-((T : Nat) : Int)) ((m : Nat) : Int) p := by
 have hm : 0 < m ∧ m ≤ 1048576 := by have := unsE_ok hu; omega
 have HUN : ∀ (x y : Value) (w : World), IsI 2 (-((T : Nat) : Int)) x w → IsI 2 ((m : Nat) : Int) y w → Calls Tryz.prog 39 #[x, y] w (Ret w (IsV (.int .i64 0))) := fun x y w hx hy => by
  have h := unsuitable_f hx hy (by decide) (by decide) hn hL
  rw [hu] at h; exact h
 have HRF : ∀ (x y : Value) (w : World), IsI 2 (-((T : Nat) : Int)) x w → IsI 2 ((m : Nat) : Int) y w → Calls Tryz.prog 23 #[x, y] w (Ret w (IsV (.int .i64 0))) := fun x y w hx hy => by
  have h := Refused_f hx hy (by decide) (by decide) hn hL
  rw [hu] at h; exact h
 have hbx := totP_box (kr (-((T : Nat) : Int))) hm.1
 have hun : unitZ (-((T : Nat) : Int)) = 6 ∨ unitZ (-((T : Nat) : Int)) = 4 ∨ unitZ (-((T : Nat) : Int)) = 2 := by unfold unitZ; split <;> (try split) <;> omega
 have hte : totE T L ((m : Nat) : Int) = unitZ (-((T : Nat) : Int)) * totP (locg (kr (-((T : Nat) : Int)))) m := by unfold totE; rw [if_pos hu]; rfl
 have hteb : 0 ≤ unitZ (-((T : Nat) : Int)) * totP (locg (kr (-((T : Nat) : Int)))) m ∧ unitZ (-((T : Nat) : Int)) * totP (locg (kr (-((T : Nat) : Int)))) m ≤ 6291456 := by
  rcases hun with h | h | h <;> rw [h] <;> omega
 have hwr : IntKind.i64.wrap (unitZ (-((T : Nat) : Int)) * totP (locg (kr (-((T : Nat) : Int)))) m) = unitZ (-((T : Nat) : Int)) * totP (locg (kr (-((T : Nat) : Int)))) m := by
  generalize unitZ (-((T : Nat) : Int)) * totP (locg (kr (-((T : Nat) : Int)))) m = t at *
  simp only [IntKind.wrap_i64]; omega
 generalize hTE : unitZ (-((T : Nat) : Int)) * totP (locg (kr (-((T : Nat) : Int)))) m = te at *
 have hTot : ∀ (x y : Value) (w : World), Ext w0 w → IsI 2 (-((T : Nat) : Int)) x w → IsI 2 ((m : Nat) : Int) y w → Calls Tryz.prog 12 #[x, y] w (Ret w (IsT2 (IsV (.int .i64 te)) (IsV (.int .i64 0)))) ∧ Calls Tryz.prog 13 #[x, y] w (Ret w (IsT2 (IsV (.int .i64 te)) (IsV (.int .i64 0)))) := fun x y w e hx hy => by
  have h := Total_f hx hy (by decide) (hs.ext e) hn hL
  rw [hte, hu] at h
  exact ⟨h, rTotal_a hx hy (hid (by decide)) (hid (by decide)) (hid hm) (hid HRF) (hid (by rw [hTE]; exact hwr))⟩
 refine ⟨?_, ⟨te, 0, hTot⟩, ?_, ?_, agr_c ht hs hn hL⟩
 ·by_cases hpr : p < 1048576 ∧ 0 ≤ p ∧ Pr p.toNat
  ·obtain ⟨pn, rfl⟩ : ∃ pn : Nat, p = ((pn : Nat) : Int) := ⟨p.toNat, by omega⟩
   rw [Int.toNat_natCast] at hpr
   have hp2 : pn < 1048576 := by omega
   refine ⟨locg (kr (-((T : Nat) : Int))) pn (vl pn m), 0, fun x y w e hx hy => ⟨?_, ?_⟩⟩
   ·refine Local_e (hid rfl) hx hy (by decide) (hs.ext e) hn hL hu hm hpr.2.2 hp2 fun x w' e' hxp => ?_
    refine (Is_g _ hp (hz.ext (e.trans e')) hxp).mono fun en W' hh => ?_
    obtain ⟨v, h1, h2, a, b, h3, ⟨B, h4, h5⟩, h6⟩ := hh
    refine ⟨v, h1, h2, a, b, h3, ?_, h6⟩
    rw [h4]
    show Value.bool B = Value.bool true
    rw [(h5 hpr.1).2 ⟨hpr.2.1, by rw [Int.toNat_natCast]; exact hpr.2.2⟩]
   ·exact rLocal_k hx hy (hid (by decide)) (hid (by omega)) (hid ⟨hpr.2.2.1, by omega⟩) (hid rfl) (hid (kr_le _ _)) (hid HRF) (hid (by omega)) (hid (by omega)) (hid ⟨fun _ => ⟨by have := hpr.2.2.1; omega, by rw [Int.toNat_natCast]; exact hpr.2.2⟩, fun _ => rfl⟩)
  ·refine ⟨0, 7, fun x y w e hx hy => ⟨Local_no hx hy p (hid fun x y w' _ a b => HUN x y w' a b) (hid hp) (hid (hz.ext e)) (hid hpr), ?_⟩⟩
   by_cases hb : 1048576 ≤ p
   ·exact rLocal_big hx hy p (hid HRF) (hid hb)
   ·refine rLocal_no hx hy p (hid HRF) (hid hb) (hid (by omega)) (hid ⟨fun h => (by cases h), fun h => absurd ⟨by omega, by omega, h.2⟩ hpr⟩)
 ·by_cases hg : ((Int.gcd ((m : Nat) : Int) (2 * (-((T : Nat) : Int))) : Nat) : Int) = 1
  ·refine ⟨(chN T).map (fun c => chV c m), 0, fun x y w e hx hy => ⟨?_, ?_⟩⟩
   ·exact Genus_k hx hy (hid (by decide)) (hid hn) (hid hL) (hid hu) (hid rfl) (hid rfl) (hid rfl) (hid (by rw [hg]; decide)) (hid rfl) (hid hm) (hid (hs.ext e))
   ·exact rGenus_k hx hy (hid (by decide)) (hid hn) (hid HRF) (hid (decide_eq_true hg)) (hid rfl) (hid hm)
  ·refine ⟨[], 1, fun x y w e hx hy => ⟨?_, ?_⟩⟩
   ·exact Genus_c hx hy (hid (by decide)) (hid hn) (hid hL) (hid hu) (hid rfl) (hid rfl) (hid rfl) (hid (by unfold cmpI; rw [bne_iff_ne]; split <;> (try split) <;> omega))
   ·exact rGenus_c hx hy (hid (by decide)) (hid hn) (hid HRF) (hid (decide_eq_false hg))
 ·by_cases hb : 1024 < m
  ·have c4 : decide (0 < cmpI ((m : Nat) : Int) 1024) = true := by rw [cmp_gt (by omega)]; rfl
   refine ⟨none, 2, fun x y w e hx hy => ⟨?_, ?_⟩⟩
   ·exact Audit_b hx hy (hid (by decide)) (hid (hs.ext e)) (hid hn) (hid hL) (hid hu) (hid hte) (hid rfl) (hid rfl) (hid c4)
   ·exact rAudit_b hx hy (hid (by decide)) (hid fun x y w' e' a b => (hTot x y w' (e.trans e') a b).2) (hid rfl) (hid rfl) (hid c4)
  ·have c4 : decide (0 < cmpI ((m : Nat) : Int) 1024) = false := by
    unfold cmpI; rw [decide_eq_false_iff_not]; split <;> (try split) <;> omega
   obtain ⟨td, htd⟩ := textZ (z := -((T : Nat) : Int)) (by omega)
   obtain ⟨tn, htn⟩ := textZ (z := ((m : Nat) : Int)) (by omega)
   refine ⟨some (((⟨#[115, 58]⟩ : ByteArray) ++ td ++ (⟨#[58]⟩ : ByteArray) ++ tn), Rat.divInt te 1), 0, fun x y w e hx hy => ⟨?_, ?_⟩⟩
   ·exact Audit_k hx hy (hid (by decide)) (hid (hs.ext e)) (hid hn) (hid hL) (hid hu) (hid hte) (hid rfl) (hid rfl) (hid c4) (hid (ht.ext e)) td tn (hid htd) (hid htn) (hid (by omega))
   ·exact rAudit_k hx hy (hid (by decide)) (hid fun x y w' e' a b => (hTot x y w' (e.trans e') a b).2) (hid rfl) (hid rfl) (hid c4) td tn (hid htd) (hid htn) (hid (by omega))
/-- Both sides answer alike, at any integers of two words. -/
theorem agr_all {w0 : World} (z z2 p : Int) (ht : Tab w0) (hs : Sg w0) (hz : Tzt w0) (hp : -9223372036854775808 ≤ p ∧ p ≤ 9223372036854775807) : AgrN w0 z z2 p := by
 by_cases hd : dE z = 0
 ·obtain ⟨T, rfl, hn⟩ : ∃ T : Nat, z = -((T : Nat) : Int) ∧ 1 ≤ T ∧ T ≤ 4194304 ∧ (T % 4 = 0 ∨ T % 4 = 3) := by
   unfold dE at hd
   split at hd
   ·exact absurd hd (by decide)
   ·split at hd
    ·exact absurd hd (by decide)
    ·exact ⟨(-z).toNat, by omega, by omega, by omega, by omega⟩
  obtain ⟨L, hL⟩ := root_ex T
  by_cases hu : unsE (cdB T L) z2 = 0
  ·obtain ⟨m, rfl⟩ : ∃ m : Nat, z2 = ((m : Nat) : Int) := ⟨z2.toNat, by have := unsE_ok hu; omega⟩
   exact agr_k ht hs hz hn hL hp hu
  ·exact agr_u (by simpa using hu) (fun x y w hx hy => unsuitable_f hx hy (by decide) (by decide) hn hL) (fun x y w hx hy => Refused_f hx hy (by decide) (by decide) hn hL) (agr_c ht hs hn hL)
 ·exact agr_u (by simpa using hd) (fun x y w hx hy => unsuitable_e hx hy (hid (by decide)) (hid rfl) (hid (by simpa using hd))) (fun x y w hx hy => Refused_e hx hy (hid (by decide)) (hid rfl) (hid (by simpa using hd))) (agr_cx hd)
theorem MatchesReference_c (w : World) (d : Nat) (v1 v2 v3 v4 v5 v6 v7 v8 : Value) (sX sY : Bool) (aX aY : Option Addr) (nX cX nY cY : Nat) (xX xY : List Nat) (hX : Wd w aX nX cX xX) (hY : Wd w aY nY cY xY) (p : Int) (ht : Tab w) (hs : Sg w) (hz : Tzt w) (hd : d < 65536) (hp : -9223372036854775808 ≤ p ∧ p ≤ 9223372036854775807) :
  Calls Tryz.prog 3 #[.agg #[.int .u16 ((d : Nat) : Int), v1, v2, v3, v4, v5, v6, v7, v8], .agg #[.bool sX, .slice aX nX cX, .bool sY, .slice aY nY cY], .int .i64 p] w (Ret w (IsV (.bool true))) :=
 Match_w w d v1 v2 v3 v4 v5 v6 v7 v8 sX sY aX aY nX cX nY cY xX xY hX hY p ht hs _ _ _ (hid hd) (hid rfl) (hid rfl) (hid rfl) (hid fun z _ => agr_all z _ p ht hs hz hp)
end Go.Proofs.YtknffgdbdadpcaaGreatDoor
