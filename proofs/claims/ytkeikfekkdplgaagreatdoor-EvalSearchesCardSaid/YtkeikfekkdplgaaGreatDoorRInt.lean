/-
 The reference package: Neg, Abs, Add, Sub, Sign, Cmp, Bits. Every two integers of at most 2^28 words.
-/
import Derived.Test.YtkeikfekkdplgaaGreatDoorRRow
namespace Go.Proofs.YtkeikfekkdplgaaGreatDoor
open Go Go.RowKit

theorem plus_c (w : World) (a1 a2 : Option Addr) (n1 n2 c1 c2 k1 k2 x y : Nat) (h1 : NatAt w k1 a1 n1 c1 x) (h2 : NatAt w k2 a2 n2 c2 y) (s1 : k1 ≤ 1073741824) (s2 : k2 ≤ 1073741824) :
  Calls Tryz.prog 74 #[.slice a1 n1 c1, .slice a2 n2 c2] w (Ret w (IsWk (max k1 k2 + 1) (x + y))) := by
 obtain ⟨xs, h1, l1, _, rfl⟩ := h1
 obtain ⟨ys, h2, l2, _, rfl⟩ := h2
 refine (plus_wd w a1 a2 n1 n2 c1 c2 xs ys h1 h2 (by omega) (by omega)).mono ?_
 rintro e w' ⟨x, rfl, e1, a, n, c, zs, rfl, h, hk, hv⟩
 exact ⟨_, rfl, e1, a, n, c, zs, rfl, h, by omega, hv⟩
theorem minus_c (w : World) (a1 a2 : Option Addr) (n1 n2 c1 c2 k1 k2 x y : Nat) (h1 : NatAt w k1 a1 n1 c1 x) (h2 : NatAt w k2 a2 n2 c2 y) (s1 : k1 ≤ 1073741824) (hle : y ≤ x) :
  Calls Tryz.prog 75 #[.slice a1 n1 c1, .slice a2 n2 c2] w (Ret w (IsWk k1 (x - y))) := by
 obtain ⟨xs, h1, l1, _, rfl⟩ := h1
 obtain ⟨ys, h2, l2, _, rfl⟩ := h2
 refine (minus_wd w a1 a2 n1 n2 c1 c2 xs ys h1 h2 (by omega) hle).mono ?_
 rintro e w' ⟨x, rfl, e1, a, n, c, zs, rfl, h, hk, hv⟩
 exact ⟨_, rfl, e1, a, n, c, zs, rfl, h, by omega, hv⟩

set_option maxHeartbeats 400000 in
theorem RNeg_c (w : World) (s1 : Bool) (a1 : Option Addr) (n1 c1 k1 : Nat) (z1 : Int) (h1 : IntAt w k1 s1 a1 n1 c1 z1) : Calls Tryz.prog 76 #[.agg #[.bool s1, .slice a1 n1 c1]] w (RInt w k1 (-z1)) := by
 obtain ⟨m, ⟨xs, hw, hk, _, hm⟩, hs, hz⟩ := h1
 have hz' : -z1 = if (!s1) then -(natVal xs : Int) else natVal xs := by rw [hz, hm]; cases s1 <;> simp
 have Hz := hid hz'
 clear hz hz' hm hs
 obtain ⟨W, hW, K0⟩ := kp1 w s1 a1 n1 c1
 have q0 := K0.cell 0 0 [.bool s1, .slice a1 n1 c1] _ (by simp) rfl
 have q1 := K0.cell 0 1 [.bool s1, .slice a1 n1 c1] _ (by simp) rfl
 have hnot : ∀ (x : Bool) (w : World), (Op.unary .not (.bool x)).run Tryz.prog w = .ok (.bool (!x)) w := fun _ _ => rfl
 go_enter Tryz.func76, Tryz.ntmps76
 go_wp2_with fail
 rw [← hW]
 refine Calls.mono (rmade_c _ (!s1) _ _ _ xs (-z1) (hw.ext K0.ext) Hz.out) ?_
 clear hW
 rintro e w1 ⟨s3, a3, n3, c3, rfl, e1, h3⟩
 have KF := K0.after e1
 obtain ⟨⟨_, r0, _⟩, f0⟩ := Kp.res KF 1 2 (by simp) 0 (by omega); obtain ⟨⟨_, r1, _⟩, f1⟩ := Kp.res KF 1 2 (by simp) 1 (by omega)
 have h3 := h3.mono hk
 clear q0 q1 hnot
 go_wp2_with fail
 refine bodyPost_ret (v := .agg #[.bool s3, .slice a3 n3 c3]) (by simp [results, Tryz.results76, go_sem, r0, r1]) rfl (Kp.fin KF 1 (by simp) (by simp) h3)

set_option maxHeartbeats 400000 in
theorem RAbs_c (w : World) (s : Bool) (ao : Option Addr) (n cap k : Nat) (z : Int) (h : IntAt w k s ao n cap z) :
  Calls Tryz.prog 124 #[.agg #[.bool s, .slice ao n cap]] w (RInt w k z.natAbs) := by
 obtain ⟨m, ⟨xs, hw, hk, _, hm⟩, hs, hz⟩ := h
 have hz' : (z.natAbs : Int) = natVal xs := by rw [hz, hm]; cases s <;> simp
 have Hw := hid hw
 have Hz := hid hz'
 clear hw hz hz' hm
 obtain ⟨W, hW, e0, b0, b1⟩ := pro1 w s ao n cap
 go_enter Tryz.func124, Tryz.ntmps124
 go_wp2_with fail
 refine Calls.mono (rmade_c _ false _ _ _ xs z.natAbs (hW ▸ Hw.out.ext e0) (by rw [Hz.out]; simp)) ?_
 rw [← hW]
 clear hW
 rintro e w1 ⟨s1, a1, n1, c1, rfl, e1, h1⟩
 have b1 := b1.ext e1
 have q0 := b1.c0
 have q1 := b1.c1
 have r0 := b1.f 0
 have r1 := b1.f 1
 have B1 := hid b1
 clear b0 b1
 go_wp2_with fail
 refine bodyPost_ret (v := .agg #[.bool s1, .slice a1 n1 c1]) (by simp [results, Tryz.results124, go_sem, q0, q1]) rfl ?_
 exact ⟨_, _, _, _, rfl, (e0.trans e1).put (Nat.le_succ _), (h1.put B1.out).mono hk⟩

set_option maxHeartbeats 400000 in
theorem RSign_c (w : World) (s : Bool) (ao : Option Addr) (n cap k : Nat) (z : Int) (h : IntAt w k s ao n cap z) :
  Calls Tryz.prog 91 #[.agg #[.bool s, .slice ao n cap]] w (RVal w (.int .i64 z.sign)) := by
 obtain ⟨m, hm, hs, hz⟩ := h
 have hz0 := hm.zero
 rcases Nat.eq_zero_or_pos n with h0 | h0
 ·have : z.sign = 0 := by
   rw [hz, hz0.2 h0]; cases s <;> rfl
  rw [this]
  subst h0
  clear hm hs hz hz0 this
  go_enter Tryz.func91, Tryz.ntmps91
  go_wp2
  go_ret
  exact ⟨rfl, (Ext.refl w).alloc _⟩
 ·have hm0 : m ≠ 0 := fun h => by have := hz0.1 h; omega
  have h1 : ((n : Int) == 0) = false := by rw [beq_eq_false_iff_ne]; omega
  cases s
  ·have : z.sign = 1 := by rw [hz]; exact Int.sign_eq_one_of_pos (by simp; omega)
   rw [this]
   clear hm hs hz hz0 this hm0 h0
   go_enter Tryz.func91, Tryz.ntmps91
   go_wp2
   go_ret
   exact ⟨rfl, (Ext.refl w).alloc _⟩
  ·have : z.sign = -1 := by rw [hz]; exact Int.sign_eq_neg_one_of_neg (by simp; omega)
   rw [this]
   clear hm hs hz hz0 this hm0 h0
   go_enter Tryz.func91, Tryz.ntmps91
   go_wp2
   go_ret
   exact ⟨rfl, (Ext.refl w).alloc _⟩

set_option maxRecDepth 100000 in
set_option maxHeartbeats 2000000 in
theorem RAdd_c (w : World) (s1 s2 : Bool) (a1 a2 : Option Addr) (n1 n2 c1 c2 k1 k2 : Nat) (z1 z2 : Int) (h1 : IntAt w k1 s1 a1 n1 c1 z1) (h2 : IntAt w k2 s2 a2 n2 c2 z2) (l1 : k1 ≤ 268435456) (l2 : k2 ≤ 268435456) :
  Calls Tryz.prog 51 #[.agg #[.bool s1, .slice a1 n1 c1], .agg #[.bool s2, .slice a2 n2 c2]] w (RInt w (max k1 k2 + 1) (z1 + z2)) := by
 obtain ⟨m1, h1, _, hz1⟩ := h1
 obtain ⟨m2, h2, _, hz2⟩ := h2
 obtain ⟨W, hW, K0⟩ := kp2 w s1 s2 a1 a2 n1 n2 c1 c2
 have Hz1 := hid hz1
 have Hz2 := hid hz2
 clear hz1 hz2
 have KC := hid (kc2 w s1 s2 a1 a2 n1 n2 c1 c2)
 have hcm : Hid (∀ W', Ext w W' → Calls Tryz.prog 63 #[.slice a1 n1 c1, .slice a2 n2 c2] W' (RVal W' (.int .i64 (cmpI m1 m2)))) := fun W' e => rsize_c W' a1 a2 n1 n2 c1 c2 k1 k2 m1 m2 (h1.ext e) (h2.ext e) (by omega)
 by_cases hs : s1 = s2
 ·have Hz : Hid (z1 + z2 = if s1 then -((m1 + m2 : Nat) : Int) else (m1 + m2 : Nat)) := by
   show _ = _
   subst hs
   rw [Hz1.out, Hz2.out]; cases s1 <;> simp <;> omega
  have hb : (s1 == s2) = true := by simp [hs]
  clear hs
  obtain ⟨_, q1, q2, q3, q4⟩ := KC.out _ K0
  go_enter Tryz.func51, Tryz.ntmps51
  go_wp2_with fail
  rw [← hW]
  clear hW
  go_region_held3 (fun w' => Kp w w' [(1, [.bool s2, .slice a2 n2 c2]), (0, [.bool s1, .slice a1 n1 c1])] [(2, 2)] ∧ w'.cell? ⟨w.heap.size, 0, none⟩ = some (.bool s1) ∧ w'.cell? ⟨w.heap.size, 1, none⟩ = some (.slice a1 n1 c1) ∧ w'.cell? ⟨w.heap.size + 1, 0, none⟩ = some (.bool s2) ∧ w'.cell? ⟨w.heap.size + 1, 1, none⟩ = some (.slice a2 n2 c2)) ((go_split_ands; refine KC.out _ ?_; first | assumption | exact Kp.drew (by assumption) | exact Kp.drew (Kp.drewN (by assumption) _) | exact Kp.after (by assumption) (by assumption) | exact (Kp.put2 (by assumption) 2 (by simp) _ _ _ _ (by simp)).1))
   (first
    | (go_at_call 74; go_must (go_split_ands; (with_reducible refine Calls.mono (plus_c _ _ _ _ _ _ _ k1 k2 m1 m2 ?_ ?_ (by omega) (by omega)) ?_); exact h1.ext (Kp.ext (by assumption)); exact h2.ext (Kp.ext (by assumption)); rintro e w1 ⟨x0, rfl, e1, ao, n, cap, xs, rfl, hm, hk, hv⟩; have Hv := hid hv; clear hv))
    | (go_at_call 59; go_must (go_split_ands; (with_reducible refine Calls.mono (rmade_c _ _ _ _ _ xs (z1 + z2) hm ?_) ?_); rw [Hv.out]; exact Hz.out; rintro e w2 ⟨s3, a3, n3, c3, rfl, e2, h3⟩; have KF := Kp.after (by assumption) e2; obtain ⟨⟨_, r0, _⟩, f0⟩ := Kp.res KF 2 2 (by simp) 0 (by omega); obtain ⟨⟨_, r1, _⟩, f1⟩ := Kp.res KF 2 2 (by simp) 1 (by omega))))
  have h3 := h3.mono hk
  go_wp2_with fail
  refine bodyPost_ret (v := .agg #[.bool s3, .slice a3 n3 c3]) (by simp [results, Tryz.results51, go_sem, r0, r1]) rfl (Kp.fin KF 2 (by simp) (by simp) h3)
 ·have hb : (s1 == s2) = false := by simp [hs]
  have hss : Hid (s1 = !s2) := by show _ = _; cases s1 <;> cases s2 <;> simp at hs ⊢
  clear hs
  by_cases hlt : m1 < m2
  ·have hv : cmpI (m1 : Int) (m2 : Int) = -1 := cmpI_lt (by omega)
   rw [hv] at hcm
   have Hz : Hid (z1 + z2 = if s2 then -((m2 - m1 : Nat) : Int) else (m2 - m1 : Nat)) := by
    show _ = _
    rw [Hz1.out, Hz2.out, hss.out]; cases s2 <;> simp <;> omega
   clear hv
   obtain ⟨_, q1, q2, q3, q4⟩ := KC.out _ K0
   go_enter Tryz.func51, Tryz.ntmps51
   go_wp2_with fail
   rw [← hW]
   clear hW
   refine Calls.mono (hcm.out _ K0.ext) ?_
   rintro e w0 ⟨rfl, e0⟩
   have K1 := K0.after e0
   clear q1 q2 q3 q4
   obtain ⟨_, q1, q2, q3, q4⟩ := KC.out _ K1
   go_wp2_with fail
   go_region_held3 (fun w' => Kp w w' [(1, [.bool s2, .slice a2 n2 c2]), (0, [.bool s1, .slice a1 n1 c1])] [(2, 2)] ∧ w'.cell? ⟨w.heap.size, 0, none⟩ = some (.bool s1) ∧ w'.cell? ⟨w.heap.size, 1, none⟩ = some (.slice a1 n1 c1) ∧ w'.cell? ⟨w.heap.size + 1, 0, none⟩ = some (.bool s2) ∧ w'.cell? ⟨w.heap.size + 1, 1, none⟩ = some (.slice a2 n2 c2)) ((go_split_ands; refine KC.out _ ?_; first | assumption | exact Kp.drew (by assumption) | exact Kp.drew (Kp.drewN (by assumption) _) | exact Kp.after (by assumption) (by assumption) | exact (Kp.put2 (by assumption) 2 (by simp) _ _ _ _ (by simp)).1))
    (first
     | (go_at_call 75; go_must (go_split_ands; (with_reducible refine Calls.mono (minus_c _ _ _ _ _ _ _ k2 k1 m2 m1 ?_ ?_ (by omega) (by omega)) ?_); exact h2.ext (Kp.ext (by assumption)); exact h1.ext (Kp.ext (by assumption)); rintro e w1 ⟨x0, rfl, e1, ao, n, cap, xs, rfl, hm, hk, hv⟩; have Hv := hid hv; clear hv))
     | (go_at_call 59; go_must (go_split_ands; (with_reducible refine Calls.mono (rmade_c _ _ _ _ _ xs (z1 + z2) hm ?_) ?_); rw [Hv.out]; exact Hz.out; rintro e w2 ⟨s3, a3, n3, c3, rfl, e2, h3⟩; have KF := Kp.after (by assumption) e2; obtain ⟨⟨_, r0, _⟩, f0⟩ := Kp.res KF 2 2 (by simp) 0 (by omega); obtain ⟨⟨_, r1, _⟩, f1⟩ := Kp.res KF 2 2 (by simp) 1 (by omega))))
   have h3 := h3.mono (show n ≤ max k1 k2 + 1 by omega)
   go_wp2_with fail
   refine bodyPost_ret (v := .agg #[.bool s3, .slice a3 n3 c3]) (by simp [results, Tryz.results51, go_sem, r0, r1]) rfl (Kp.fin KF 2 (by simp) (by simp) h3)
  ·have hv : ∃ c : Int, cmpI (m1 : Int) (m2 : Int) = c ∧ 0 ≤ c := by
    rcases Nat.eq_or_lt_of_le (show m2 ≤ m1 by omega) with h | h
    ·exact ⟨0, cmpI_eq (by omega), by omega⟩
    ·exact ⟨1, cmpI_gt (by omega), by omega⟩
   obtain ⟨c, hv, hc0⟩ := hv
   rw [hv] at hcm
   have Hz : Hid (z1 + z2 = if s1 then -((m1 - m2 : Nat) : Int) else (m1 - m2 : Nat)) := by
    show _ = _
    rw [Hz1.out, Hz2.out, hss.out]; cases s2 <;> simp <;> omega
   clear hv
   obtain ⟨_, q1, q2, q3, q4⟩ := KC.out _ K0
   go_enter Tryz.func51, Tryz.ntmps51
   go_wp2_with fail
   rw [← hW]
   clear hW
   refine Calls.mono (hcm.out _ K0.ext) ?_
   rintro e w0 ⟨rfl, e0⟩
   have K1 := K0.after e0
   clear q1 q2 q3 q4
   obtain ⟨_, q1, q2, q3, q4⟩ := KC.out _ K1
   go_wp2_with fail
   go_region_held3 (fun w' => Kp w w' [(1, [.bool s2, .slice a2 n2 c2]), (0, [.bool s1, .slice a1 n1 c1])] [(2, 2)] ∧ w'.cell? ⟨w.heap.size, 0, none⟩ = some (.bool s1) ∧ w'.cell? ⟨w.heap.size, 1, none⟩ = some (.slice a1 n1 c1) ∧ w'.cell? ⟨w.heap.size + 1, 0, none⟩ = some (.bool s2) ∧ w'.cell? ⟨w.heap.size + 1, 1, none⟩ = some (.slice a2 n2 c2)) ((go_split_ands; refine KC.out _ ?_; first | assumption | exact Kp.drew (by assumption) | exact Kp.drew (Kp.drewN (by assumption) _) | exact Kp.after (by assumption) (by assumption) | exact (Kp.put2 (by assumption) 2 (by simp) _ _ _ _ (by simp)).1))
    (first
     | (go_at_call 75; go_must (go_split_ands; (with_reducible refine Calls.mono (minus_c _ _ _ _ _ _ _ k1 k2 m1 m2 ?_ ?_ (by omega) (by omega)) ?_); exact h1.ext (Kp.ext (by assumption)); exact h2.ext (Kp.ext (by assumption)); rintro e w1 ⟨x0, rfl, e1, ao, n, cap, xs, rfl, hm, hk, hv⟩; have Hv := hid hv; clear hv))
     | (go_at_call 59; go_must (go_split_ands; (with_reducible refine Calls.mono (rmade_c _ _ _ _ _ xs (z1 + z2) hm ?_) ?_); rw [Hv.out]; exact Hz.out; rintro e w2 ⟨s3, a3, n3, c3, rfl, e2, h3⟩; have KF := Kp.after (by assumption) e2; obtain ⟨⟨_, r0, _⟩, f0⟩ := Kp.res KF 2 2 (by simp) 0 (by omega); obtain ⟨⟨_, r1, _⟩, f1⟩ := Kp.res KF 2 2 (by simp) 1 (by omega))))
   have h3 := h3.mono (show n ≤ max k1 k2 + 1 by omega)
   go_wp2_with fail
   refine bodyPost_ret (v := .agg #[.bool s3, .slice a3 n3 c3]) (by simp [results, Tryz.results51, go_sem, r0, r1]) rfl (Kp.fin KF 2 (by simp) (by simp) h3)

set_option maxRecDepth 100000 in
set_option maxHeartbeats 2000000 in
theorem RSub_c (w : World) (s1 s2 : Bool) (a1 a2 : Option Addr) (n1 n2 c1 c2 k1 k2 : Nat) (z1 z2 : Int) (h1 : IntAt w k1 s1 a1 n1 c1 z1) (h2 : IntAt w k2 s2 a2 n2 c2 z2) (l1 : k1 ≤ 268435456) (l2 : k2 ≤ 268435456) :
  Calls Tryz.prog 52 #[.agg #[.bool s1, .slice a1 n1 c1], .agg #[.bool s2, .slice a2 n2 c2]] w (RInt w (max k1 k2 + 1) (z1 - z2)) := by
 obtain ⟨W, hW, K0⟩ := kp2 w s1 s2 a1 a2 n1 n2 c1 c2
 have KC := hid (kc2 w s1 s2 a1 a2 n1 n2 c1 c2)
 go_enter Tryz.func52, Tryz.ntmps52
 go_wp2_with fail
 rw [← hW]
 clear hW
 go_region_held3 (fun w' => Kp w w' [(1, [.bool s2, .slice a2 n2 c2]), (0, [.bool s1, .slice a1 n1 c1])] [(2, 2)] ∧ w'.cell? ⟨w.heap.size, 0, none⟩ = some (.bool s1) ∧ w'.cell? ⟨w.heap.size, 1, none⟩ = some (.slice a1 n1 c1) ∧ w'.cell? ⟨w.heap.size + 1, 0, none⟩ = some (.bool s2) ∧ w'.cell? ⟨w.heap.size + 1, 1, none⟩ = some (.slice a2 n2 c2)) ((go_split_ands; refine KC.out _ ?_; first | assumption | exact Kp.drew (by assumption) | exact Kp.drew (Kp.drewN (by assumption) _) | exact Kp.after (by assumption) (by assumption) | exact (Kp.put2 (by assumption) 2 (by simp) _ _ _ _ (by simp)).1))
  (first
   | (go_at_call 76; go_must (go_split_ands; (with_reducible refine Calls.mono (RNeg_c _ _ _ _ _ k2 z2 ?_) ?_); exact h2.ext (Kp.ext (by assumption)); rintro e w1 ⟨s4, a4, n4, c4, rfl, e1, h4⟩))
   | (go_at_call 51; go_must (go_split_ands; (with_reducible refine Calls.mono (RAdd_c _ _ _ _ _ _ _ _ _ k1 k2 z1 (-z2) ?_ ?_ (by omega) (by omega)) ?_); exact h1.ext (Kp.ext (by assumption)); exact h4; rintro e w2 ⟨s3, a3, n3, c3, rfl, e2, h3⟩; have KF := Kp.after (by assumption) e2; obtain ⟨⟨_, r0, _⟩, f0⟩ := Kp.res KF 2 2 (by simp) 0 (by omega); obtain ⟨⟨_, r1, _⟩, f1⟩ := Kp.res KF 2 2 (by simp) 1 (by omega))))
 rw [← Int.sub_eq_add_neg] at h3
 go_wp2_with fail
 refine bodyPost_ret (v := .agg #[.bool s3, .slice a3 n3 c3]) (by simp [results, Tryz.results52, go_sem, r0, r1]) rfl (Kp.fin KF 2 (by simp) (by simp) h3)

theorem bitLen_half (x : Nat) (h : 0 < x) : bitLen x = bitLen (x / 2) + 1 := by
 obtain ⟨k, h1, h2, h3⟩ := bitLen_bounds x (by omega)
 rcases Nat.eq_zero_or_pos k with h0 | h0
 ·subst h0
  have : x = 1 := by omega
  subst this
  decide
 ·obtain ⟨j, rfl⟩ : ∃ j, k = j + 1 := ⟨k - 1, by omega⟩
  rw [h1, bitLen_eq (x / 2) j (by rw [Nat.pow_succ] at h2; omega) (by rw [Nat.pow_succ] at h3; omega)]

set_option maxRecDepth 100000 in
set_option maxHeartbeats 1000000 in
theorem RBits_c (w : World) (s1 : Bool) (a1 : Option Addr) (n1 c1 k1 : Nat) (z1 : Int) (h1 : IntAt w k1 s1 a1 n1 c1 z1) (l1 : k1 ≤ 268435456) : Calls Tryz.prog 120 #[.agg #[.bool s1, .slice a1 n1 c1]] w (RVal w (.int .i64 (bitLen z1.natAbs : Nat))) := by
 obtain ⟨W, hW, K0⟩ : ∃ W, W = w.alloc (.cells #[.bool s1, .slice a1 n1 c1] 28) ∧ Kq w W [(w.heap.size, [.bool s1, .slice a1 n1 c1])] := ⟨_, rfl, by simpa using (Kq.start w).alloc [.bool s1, .slice a1 n1 c1] 28⟩
 have b2 := K0.bx w.heap.size s1 a1 n1 c1 (by simp)
 have E := hid K0.ext
 have F1 := b2.c0; have F2 := b2.c1; have F3 := b2.f0; have F4 := b2.f1
 obtain ⟨m, ⟨xs, hw, hk, htop, hv⟩, hs, hz⟩ := h1
 have hz' : bitLen z1.natAbs = bitLen m := by rw [hz]; cases s1 <;> simp
 rw [hz']
 have hlen := hw.len
 rcases Nat.eq_zero_or_pos n1 with h0 | h0
 ·subst h0
  have hm : bitLen m = 0 := by
   rw [← hv, List.eq_nil_of_length_eq_zero hlen]; rfl
  rw [hm]
  clear hw hk htop hv hs hz hz' hlen b2 K0
  go_enter Tryz.func120, Tryz.ntmps120
  go_wp2_with fail
  rw [← hW]
  clear hW
  go_wp2_with fail
  go_ret
  exact ⟨rfl, E.out⟩
 ·obtain ⟨j, rfl⟩ : ∃ j, n1 = j + 1 := ⟨n1 - 1, by omega⟩
  have hbv := bitLen_natVal xs j hlen hw.lt (by simpa using htop (by omega))
  rw [hv] at hbv
  rcases hw.shape with h9 | ⟨b, off, rfl, hb⟩
  ·omega
  have hw' := hw.ext K0.ext
  have hcell := hw'.cell j (by omega)
  have hcellw := hw.cell j (by omega)
  have hjl : j < 268435456 := by omega
  have hxl := hw.lt j
  have hcapo := hw.capo
  have hbig := hw.big
  obtain ⟨x, hx⟩ : ∃ x, x = xs.getD j 0 := ⟨_, rfl⟩
  rw [← hx] at hbv hcell hxl hcellw
  have Hbv := hid hbv
  obtain ⟨T, hT⟩ : ∃ T, T = bitLen m := ⟨_, rfl⟩
  rw [← hT] at Hbv ⊢
  have hTl : T ≤ 34359738368 := by
   have := (lib_bitLen x hxl).2
   have h2 := Hbv.out
   omega
  have hnz : ((((j + 1 : Nat) : Int)) == 0) = false := by rw [beq_eq_false_iff_ne]; omega
  have hje : (((j + 1 : Nat) : Int) - 1) = (j : Int) := by omega
  clear hw hk htop hv hs hz hz' hlen b2 K0 hw' hbv hT h0 hx
  go_enter Tryz.func120, Tryz.ntmps120
  go_wp2_with fail
  rw [← hW]
  clear hW
  go_wp2_with fail
  have I0 := hid (show 32 * j + bitLen x = T from Hbv.out.symm)
  clear Hbv F1 F2 F3 F4 hcell hcellw
  go_loopg [3, 4] x (fun gk v3 v4 wr => ∃ n : Nat, v3 = .int .i64 (n : Int) ∧ v4 = .int .u32 (gk : Int) ∧ gk < 4294967296 ∧ Hid (n + bitLen gk = T) ∧ wr = W)
  case atStart => exact ⟨32 * j, by go_must (first | rfl | (congr 1; omega)), rfl, hxl, I0, rfl⟩
  case round =>
   clear I0
   obtain ⟨n, rfl, rfl, hgl, hn, rfl⟩ := hrel
   by_cases hg : 0 < gk
   ·have hb := bitLen_half gk hg
    have hn2 := hid (show n + 1 + bitLen (gk / 2) = T by have := hn.out; omega)
    have hnl : n ≤ T := by have := hn.out; omega
    clear hb hn
    go_wp2_with fail
    go_roundg (gk / 2)
    case measure => omega
    case rel => exact ⟨n + 1, by go_num, by go_num, by omega, hn2, rfl⟩
   ·obtain rfl : gk = 0 := by omega
    have hn2 := hid (show n = T by have := hn.out; simpa [bitLen] using this)
    clear hn
    go_wp2_with fail
    go_ret
    exact ⟨by rw [hn2.out]; rfl, E.out⟩
end Go.Proofs.YtkeikfekkdplgaaGreatDoor
