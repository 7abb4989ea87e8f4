/-
 Integers of package integer: Add, Sub, Of. Every integer of at most 2^28 words. Integers of package integer: Of. Every int64.
-/
import Derived.Test.YtkeikfekkdplgaaGreatDoorInt1
namespace Go.Proofs.YtkeikfekkdplgaaGreatDoor
open Go Go.RowKit

set_option maxRecDepth 100000 in
set_option maxHeartbeats 2000000 in
theorem Add_c (w : World) (s1 s2 : Bool) (a1 a2 : Option Addr) (n1 n2 c1 c2 k1 k2 : Nat) (z1 z2 : Int) (h1 : IntAt w k1 s1 a1 n1 c1 z1) (h2 : IntAt w k2 s2 a2 n2 c2 z2) (l1 : k1 ≤ 268435456) (l2 : k2 ≤ 268435456) :
  Calls Tryz.prog 140 #[.agg #[.bool s1, .slice a1 n1 c1], .agg #[.bool s2, .slice a2 n2 c2]] w (RInt w (max k1 k2 + 1) (z1 + z2)) := by
 obtain ⟨m1, h1, _, hz1⟩ := h1
 obtain ⟨m2, h2, _, hz2⟩ := h2
 obtain ⟨W, hW, K0⟩ := kp2 w s1 s2 a1 a2 n1 n2 c1 c2
 have Hz1 := hid hz1
 have Hz2 := hid hz2
 clear hz1 hz2
 have KC := hid (kc2 w s1 s2 a1 a2 n1 n2 c1 c2)
 have hcm : Hid (∀ W', Ext w W' → Calls Tryz.prog 192 #[.slice a1 n1 c1, .slice a2 n2 c2] W' (RVal W' (.int .i64 (cmpI m1 m2)))) := fun W' e => cmp_c W' a1 a2 n1 n2 c1 c2 k1 k2 m1 m2 (h1.ext e) (h2.ext e) (by omega)
 by_cases hs : s1 = s2
 ·have Hz : Hid (z1 + z2 = if s1 then -((m1 + m2 : Nat) : Int) else (m1 + m2 : Nat)) := by
   show _ = _
   subst hs
   rw [Hz1.out, Hz2.out]; cases s1 <;> simp <;> omega
  have hb : (s1 == s2) = true := by simp [hs]
  clear hs
  obtain ⟨_, q1, q2, q3, q4⟩ := KC.out _ K0
  go_enter Tryz.func140, Tryz.ntmps140
  go_wp2_with fail
  rw [← hW]
  clear hW
  go_quiet (fail)
  go_wp2_with fail
  go_region_held3 (fun w' => Kp w w' [(1, [.bool s2, .slice a2 n2 c2]), (0, [.bool s1, .slice a1 n1 c1])] [(2, 2)] ∧ w'.cell? ⟨w.heap.size, 0, none⟩ = some (.bool s1) ∧ w'.cell? ⟨w.heap.size, 1, none⟩ = some (.slice a1 n1 c1) ∧ w'.cell? ⟨w.heap.size + 1, 0, none⟩ = some (.bool s2) ∧ w'.cell? ⟨w.heap.size + 1, 1, none⟩ = some (.slice a2 n2 c2)) ((go_split_ands; refine KC.out _ ?_; first | assumption | exact Kp.drew (by assumption) | exact Kp.drew (Kp.drewN (by assumption) _) | exact Kp.after (by assumption) (by assumption) | exact (Kp.put2 (by assumption) 2 (by simp) _ _ _ _ (by simp)).1))
   (first
    | (go_at_call 191; go_must (go_split_ands; (with_reducible refine Calls.mono (add_c _ _ _ _ _ _ _ k1 k2 m1 m2 ?_ ?_ (by omega) (by omega)) ?_); exact h1.ext (Kp.ext (by assumption)); exact h2.ext (Kp.ext (by assumption)); rintro e w1 ⟨ao, n, cap, rfl, e1, hm⟩; obtain ⟨xs, hm, hk, _, hv⟩ := hm; have Hv := hid hv; clear hv))
    | (go_at_call 131; go_must (go_split_ands; (with_reducible refine Calls.mono (of_c _ _ _ _ _ xs (z1 + z2) hm ?_) ?_); rw [Hv.out]; exact Hz.out; rintro e w2 ⟨s3, a3, n3, c3, rfl, e2, h3⟩; have KF := Kp.after (by assumption) e2; obtain ⟨⟨_, r0, _⟩, f0⟩ := Kp.res KF 2 2 (by simp) 0 (by omega); obtain ⟨⟨_, r1, _⟩, f1⟩ := Kp.res KF 2 2 (by simp) 1 (by omega))))
  have h3 := h3.mono hk
  go_wp2_with fail
  refine bodyPost_ret (v := .agg #[.bool s3, .slice a3 n3 c3]) (by simp [results, Tryz.results140, go_sem, r0, r1]) rfl (Kp.fin KF 2 (by simp) (by simp) h3)
 ·have hb : (s1 == s2) = false := by simp [hs]
  have hss : Hid (s1 = !s2) := by show _ = _; cases s1 <;> cases s2 <;> simp at hs ⊢
  clear hs
  by_cases hlt : m1 < m2
  ·have hv : cmpI (m1 : Int) (m2 : Int) = -1 := cmpI_lt (by omega)
   rw [hv] at hcm
   have Hz : Hid (z1 + z2 = if s2 then -((m2 - m1 : Nat) : Int) else (m2 - m1 : Nat)) := by
    show _ = _
    rw [Hz1.out, Hz2.out, hss.out]; cases s2 <;> simp <;> omega
   clear hv
   obtain ⟨_, q1, q2, q3, q4⟩ := KC.out _ K0
   go_enter Tryz.func140, Tryz.ntmps140
   go_wp2_with fail
   rw [← hW]
   clear hW
   go_quiet (fail)
   go_wp2_with fail
   refine Calls.mono (hcm.out _ (K0.ext.drewN _)) ?_
   rintro e w0 ⟨rfl, e0⟩
   have K1 := (K0.drewN _).after e0
   clear q1 q2 q3 q4
   obtain ⟨_, q1, q2, q3, q4⟩ := KC.out _ K1
   go_wp2_with fail
   go_region_held3 (fun w' => Kp w w' [(1, [.bool s2, .slice a2 n2 c2]), (0, [.bool s1, .slice a1 n1 c1])] [(2, 2)] ∧ w'.cell? ⟨w.heap.size, 0, none⟩ = some (.bool s1) ∧ w'.cell? ⟨w.heap.size, 1, none⟩ = some (.slice a1 n1 c1) ∧ w'.cell? ⟨w.heap.size + 1, 0, none⟩ = some (.bool s2) ∧ w'.cell? ⟨w.heap.size + 1, 1, none⟩ = some (.slice a2 n2 c2)) ((go_split_ands; refine KC.out _ ?_; first | assumption | exact Kp.drew (by assumption) | exact Kp.drew (Kp.drewN (by assumption) _) | exact Kp.after (by assumption) (by assumption) | exact (Kp.put2 (by assumption) 2 (by simp) _ _ _ _ (by simp)).1))
    (first
     | (go_at_call 193; go_must (go_split_ands; (with_reducible refine Calls.mono (sub_c _ _ _ _ _ _ _ k2 k1 m2 m1 ?_ ?_ (by omega) (by omega)) ?_); exact h2.ext (Kp.ext (by assumption)); exact h1.ext (Kp.ext (by assumption)); rintro e w1 ⟨ao, n, cap, rfl, e1, hm⟩; obtain ⟨xs, hm, hk, _, hv⟩ := hm; have Hv := hid hv; clear hv))
     | (go_at_call 131; go_must (go_split_ands; (with_reducible refine Calls.mono (of_c _ _ _ _ _ xs (z1 + z2) hm ?_) ?_); rw [Hv.out]; exact Hz.out; rintro e w2 ⟨s3, a3, n3, c3, rfl, e2, h3⟩; have KF := Kp.after (by assumption) e2; obtain ⟨⟨_, r0, _⟩, f0⟩ := Kp.res KF 2 2 (by simp) 0 (by omega); obtain ⟨⟨_, r1, _⟩, f1⟩ := Kp.res KF 2 2 (by simp) 1 (by omega))))
   have h3 := h3.mono (show n ≤ max k1 k2 + 1 by omega)
   go_wp2_with fail
   refine bodyPost_ret (v := .agg #[.bool s3, .slice a3 n3 c3]) (by simp [results, Tryz.results140, go_sem, r0, r1]) rfl (Kp.fin KF 2 (by simp) (by simp) h3)
  ·have hv : ∃ c : Int, cmpI (m1 : Int) (m2 : Int) = c ∧ 0 ≤ c := by
    rcases Nat.eq_or_lt_of_le (show m2 ≤ m1 by omega) with h | h
    ·exact ⟨0, cmpI_eq (by omega), by omega⟩
    ·exact ⟨1, cmpI_gt (by omega), by omega⟩
   obtain ⟨c, hv, hc0⟩ := hv
   rw [hv] at hcm
   have Hz : Hid (z1 + z2 = if s1 then -((m1 - m2 : Nat) : Int) else (m1 - m2 : Nat)) := by
    show _ = _
    rw [Hz1.out, Hz2.out, hss.out]; cases s2 <;> simp <;> omega
   clear hv
   obtain ⟨_, q1, q2, q3, q4⟩ := KC.out _ K0
   go_enter Tryz.func140, Tryz.ntmps140
   go_wp2_with fail
   rw [← hW]
   clear hW
   go_quiet (fail)
   go_wp2_with fail
   refine Calls.mono (hcm.out _ (K0.ext.drewN _)) ?_
   rintro e w0 ⟨rfl, e0⟩
   have K1 := (K0.drewN _).after e0
   clear q1 q2 q3 q4
   obtain ⟨_, q1, q2, q3, q4⟩ := KC.out _ K1
   go_wp2_with fail
   go_region_held3 (fun w' => Kp w w' [(1, [.bool s2, .slice a2 n2 c2]), (0, [.bool s1, .slice a1 n1 c1])] [(2, 2)] ∧ w'.cell? ⟨w.heap.size, 0, none⟩ = some (.bool s1) ∧ w'.cell? ⟨w.heap.size, 1, none⟩ = some (.slice a1 n1 c1) ∧ w'.cell? ⟨w.heap.size + 1, 0, none⟩ = some (.bool s2) ∧ w'.cell? ⟨w.heap.size + 1, 1, none⟩ = some (.slice a2 n2 c2)) ((go_split_ands; refine KC.out _ ?_; first | assumption | exact Kp.drew (by assumption) | exact Kp.drew (Kp.drewN (by assumption) _) | exact Kp.after (by assumption) (by assumption) | exact (Kp.put2 (by assumption) 2 (by simp) _ _ _ _ (by simp)).1))
    (first
     | (go_at_call 193; go_must (go_split_ands; (with_reducible refine Calls.mono (sub_c _ _ _ _ _ _ _ k1 k2 m1 m2 ?_ ?_ (by omega) (by omega)) ?_); exact h1.ext (Kp.ext (by assumption)); exact h2.ext (Kp.ext (by assumption)); rintro e w1 ⟨ao, n, cap, rfl, e1, hm⟩; obtain ⟨xs, hm, hk, _, hv⟩ := hm; have Hv := hid hv; clear hv))
     | (go_at_call 131; go_must (go_split_ands; (with_reducible refine Calls.mono (of_c _ _ _ _ _ xs (z1 + z2) hm ?_) ?_); rw [Hv.out]; exact Hz.out; rintro e w2 ⟨s3, a3, n3, c3, rfl, e2, h3⟩; have KF := Kp.after (by assumption) e2; obtain ⟨⟨_, r0, _⟩, f0⟩ := Kp.res KF 2 2 (by simp) 0 (by omega); obtain ⟨⟨_, r1, _⟩, f1⟩ := Kp.res KF 2 2 (by simp) 1 (by omega))))
   have h3 := h3.mono (show n ≤ max k1 k2 + 1 by omega)
   go_wp2_with fail
   refine bodyPost_ret (v := .agg #[.bool s3, .slice a3 n3 c3]) (by simp [results, Tryz.results140, go_sem, r0, r1]) rfl (Kp.fin KF 2 (by simp) (by simp) h3)

set_option maxRecDepth 100000 in
set_option maxHeartbeats 2000000 in
theorem Sub_c (w : World) (s1 s2 : Bool) (a1 a2 : Option Addr) (n1 n2 c1 c2 k1 k2 : Nat) (z1 z2 : Int) (h1 : IntAt w k1 s1 a1 n1 c1 z1) (h2 : IntAt w k2 s2 a2 n2 c2 z2) (l1 : k1 ≤ 268435456) (l2 : k2 ≤ 268435456) :
  Calls Tryz.prog 142 #[.agg #[.bool s1, .slice a1 n1 c1], .agg #[.bool s2, .slice a2 n2 c2]] w (RInt w (max k1 k2 + 1) (z1 - z2)) := by
 obtain ⟨W, hW, K0⟩ := kp2 w s1 s2 a1 a2 n1 n2 c1 c2
 have KC := hid (kc2 w s1 s2 a1 a2 n1 n2 c1 c2)
 go_enter Tryz.func142, Tryz.ntmps142
 go_wp2_with fail
 rw [← hW]
 clear hW
 go_region_held3 (fun w' => Kp w w' [(1, [.bool s2, .slice a2 n2 c2]), (0, [.bool s1, .slice a1 n1 c1])] [(2, 2)] ∧ w'.cell? ⟨w.heap.size, 0, none⟩ = some (.bool s1) ∧ w'.cell? ⟨w.heap.size, 1, none⟩ = some (.slice a1 n1 c1) ∧ w'.cell? ⟨w.heap.size + 1, 0, none⟩ = some (.bool s2) ∧ w'.cell? ⟨w.heap.size + 1, 1, none⟩ = some (.slice a2 n2 c2)) ((go_split_ands; refine KC.out _ ?_; first | assumption | exact Kp.drew (by assumption) | exact Kp.drew (Kp.drewN (by assumption) _) | exact Kp.after (by assumption) (by assumption) | exact (Kp.put2 (by assumption) 2 (by simp) _ _ _ _ (by simp)).1))
  (first
   | (go_at_call 194; go_must (go_split_ands; (with_reducible refine Calls.mono (Neg_c _ _ _ _ _ k2 z2 ?_) ?_); exact h2.ext (Kp.ext (by assumption)); rintro e w1 ⟨s4, a4, n4, c4, rfl, e1, h4⟩))
   | (go_at_call 140; go_must (go_split_ands; (with_reducible refine Calls.mono (Add_c _ _ _ _ _ _ _ _ _ k1 k2 z1 (-z2) ?_ ?_ (by omega) (by omega)) ?_); exact h1.ext (Kp.ext (by assumption)); exact h4; rintro e w2 ⟨s3, a3, n3, c3, rfl, e2, h3⟩; have KF := Kp.after (by assumption) e2; obtain ⟨⟨_, r0, _⟩, f0⟩ := Kp.res KF 2 2 (by simp) 0 (by omega); obtain ⟨⟨_, r1, _⟩, f1⟩ := Kp.res KF 2 2 (by simp) 1 (by omega))))
 rw [← Int.sub_eq_add_neg] at h3
 go_wp2_with fail
 refine bodyPost_ret (v := .agg #[.bool s3, .slice a3 n3 c3]) (by simp [results, Tryz.results142, go_sem, r0, r1]) rfl (Kp.fin KF 2 (by simp) (by simp) h3)
end Go.Proofs.YtkeikfekkdplgaaGreatDoor
namespace Go.Proofs.YtkeikfekkdplgaaGreatDoor
open Go Go.RowKit

/-- A new row of two words. -/
theorem wd_new2 (w : World) (a b : Nat) (ha : a < 4294967296) (hb : b < 4294967296) : Wd (w.alloc (.cells #[.int .u32 (a : Nat), .int .u32 (b : Nat)] 145)) (some ⟨w.heap.size, 0, none⟩) 2 2 [a, b] := by
 have ho : Own (w.alloc (.cells #[.int .u32 (a : Nat), .int .u32 (b : Nat)] 145)) w.heap.size [a, b] := by
  show (w.heap.push _)[w.heap.size]? = _
  simp [wcells]
 have := ho.wd (fun i => by match i with | 0 => simpa using ha | 1 => simpa using hb | i + 2 => simp) 2 (by simp) (by omega)
 simpa using this

theorem of_wrap (n : Int) (h0 : -9223372036854775808 ≤ n) (h1 : n ≤ 9223372036854775807) : IntKind.u64.wrap (max n (wrap64 (-n))) = (n.natAbs : Int) := by
 simp only [wrap64, IntKind.wrap_u64]
 omega
theorem of_val (n : Int) (v a b : Nat) (hv : v = n.natAbs) (ha : a = v % 4294967296) (hb : b = v / 4294967296) : n = if decide (n < 0) then -(natVal [a, b] : Int) else natVal [a, b] := by
 have : natVal [a, b] = v := by simp only [natVal]; omega
 rw [this]
 by_cases h : n < 0 <;> simp [h] <;> omega

set_option maxHeartbeats 1000000 in
theorem Of_c (w : World) (n : Int) (h0 : -9223372036854775808 ≤ n) (h1 : n ≤ 9223372036854775807) : Calls Tryz.prog 108 #[.int .i64 n] w (RInt w 2 n) := by
 obtain ⟨v, hv⟩ : ∃ v : Nat, v = n.natAbs := ⟨_, rfl⟩
 obtain ⟨a, ha⟩ : ∃ a : Nat, a = v % 4294967296 := ⟨_, rfl⟩
 obtain ⟨b, hb⟩ : ∃ b : Nat, b = v / 4294967296 := ⟨_, rfl⟩
 have Hz := hid (of_val n v a b hv ha hb)
 have hE := of_wrap n h0 h1
 rw [← hv] at hE
 have hE2 : max n (-n) = (v : Int) := by omega
 have h2 : (v : Int) % 4294967296 = (a : Int) := by omega
 have h3 : (v : Int) / 4294967296 = (b : Int) := by omega
 have hal : a < 4294967296 := by omega
 have hbl : b < 4294967296 := by omega
 obtain ⟨W, hW⟩ : ∃ W, W = w.alloc (.cells #[.bool false, .slice none 0 0] 28) := ⟨_, rfl⟩
 have hwd := wd_new2 W a b hal hbl
 have hWs : W.heap.size = w.heap.size + 1 := by rw [hW]; simp
 rw [hWs] at hwd
 have hR := hid (fun (s : Bool) (hs : decide (n < 0) = s) => of_c (W.alloc (.cells #[.int .u32 (a : Nat), .int .u32 (b : Nat)] 145)) s _ 2 2 [a, b] n hwd (by rw [← hs]; exact Hz.out))
 clear hwd
 have K0 : Kp w W [] [(0, 2)] := hW ▸ (Kp.start w).out 0 rfl [.bool false, .slice none 0 0] 28 (by
  intro v hv; simp at hv; rcases hv with rfl | rfl
  ·exact NoWord.bool _
  ·exact NoWord.slice _ _ _)
 clear hv ha hb Hz hWs
 by_cases hn : n < 0
 ·go_enter Tryz.func108, Tryz.ntmps108
  go_wp2_with fail
  rw [← hW]
  clear hW
  refine Calls.mono (hR.out true (by simp [hn])) ?_
  rintro e w2 ⟨s3, a3, n3, c3, rfl, e2, h3'⟩
  have KF := (K0.after ((Ext.refl W).alloc _)).after e2
  obtain ⟨⟨_, r0, _⟩, f0⟩ := Kp.res KF 0 2 (by simp) 0 (by omega); obtain ⟨⟨_, r1, _⟩, f1⟩ := Kp.res KF 0 2 (by simp) 1 (by omega)
  simp only [Nat.add_zero] at r0 r1 f0 f1
  have h3 := h3'
  clear hR K0 hE hE2 h2
  go_wp2_with fail
  refine bodyPost_ret (v := .agg #[.bool s3, .slice a3 n3 c3]) (by simp [results, Tryz.results108, go_sem, r0, r1]) rfl (Kp.fin KF 0 (by simp) (by simp) h3)
 ·go_enter Tryz.func108, Tryz.ntmps108
  go_wp2_with fail
  rw [← hW]
  clear hW
  refine Calls.mono (hR.out false (by simp [hn])) ?_
  rintro e w2 ⟨s3, a3, n3, c3, rfl, e2, h3'⟩
  have KF := (K0.after ((Ext.refl W).alloc _)).after e2
  obtain ⟨⟨_, r0, _⟩, f0⟩ := Kp.res KF 0 2 (by simp) 0 (by omega); obtain ⟨⟨_, r1, _⟩, f1⟩ := Kp.res KF 0 2 (by simp) 1 (by omega)
  simp only [Nat.add_zero] at r0 r1 f0 f1
  have h3 := h3'
  clear hR K0 hE hE2 h2
  go_wp2_with fail
  refine bodyPost_ret (v := .agg #[.bool s3, .slice a3 n3 c3]) (by simp [results, Tryz.results108, go_sem, r0, r1]) rfl (Kp.fin KF 0 (by simp) (by simp) h3)
end Go.Proofs.YtkeikfekkdplgaaGreatDoor
