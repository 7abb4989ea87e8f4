/-
  Integers of package integer: Neg, Bits, Mul, Add, Sub. Every integer of at most 2^28 words.
-/
import Derived.Test.YtpflfagjkmeeiaaDoorKeep
import Derived.Test.YtpflfagjkmeeiaaDoorMul
import Derived.Test.YtpflfagjkmeeiaaDoorAdd
import Derived.Test.YtpflfagjkmeeiaaDoorDivL
namespace Go.Proofs.YtpflfagjkmeeiaaDoor
open Go Go.RowKit

theorem neg_mul_val (s1 s2 : Bool) (m1 m2 : Nat) (z1 z2 : Int) (h1 : z1 = if s1 then -(m1 : Int) else m1) (h2 : z2 = if s2 then -(m2 : Int) else m2) : z1 * z2 = if (!(s1 == s2)) then -((m1 * m2 : Nat) : Int) else (m1 * m2 : Nat) := by
  subst h1 h2
  cases s1 <;> cases s2 <;> simp <;> grind
theorem kc2 (w : World) (s1 s2 : Bool) (a1 a2 : Option Addr) (n1 n2 c1 c2 : Nat) : ∀ w', Kp w w' [(1, [.bool s2, .slice a2 n2 c2]), (0, [.bool s1, .slice a1 n1 c1])] [(2, 2)] → (fun w' => Kp w w' [(1, [.bool s2, .slice a2 n2 c2]), (0, [.bool s1, .slice a1 n1 c1])] [(2, 2)] ∧ w'.cell? ⟨w.heap.size, 0, none⟩ = some (.bool s1) ∧ w'.cell? ⟨w.heap.size, 1, none⟩ = some (.slice a1 n1 c1) ∧ w'.cell? ⟨w.heap.size + 1, 0, none⟩ = some (.bool s2) ∧ w'.cell? ⟨w.heap.size + 1, 1, none⟩ = some (.slice a2 n2 c2)) w' := fun w' h =>
    ⟨h, h.cell 0 0 [.bool s1, .slice a1 n1 c1] _ (by simp) rfl, h.cell 0 1 [.bool s1, .slice a1 n1 c1] _ (by simp) rfl, h.cell 1 0 [.bool s2, .slice a2 n2 c2] _ (by simp) rfl, h.cell 1 1 [.bool s2, .slice a2 n2 c2] _ (by simp) rfl⟩

set_option maxRecDepth 100000 in
set_option maxHeartbeats 1000000 in
theorem Mul_c (w : World) (s1 s2 : Bool) (a1 a2 : Option Addr) (n1 n2 c1 c2 k1 k2 : Nat) (z1 z2 : Int) (h1 : IntAt w k1 s1 a1 n1 c1 z1) (h2 : IntAt w k2 s2 a2 n2 c2 z2) (l1 : k1 ≤ 268435456) (l2 : k2 ≤ 268435456) :
    Calls Tryd.prog 13 #[.agg #[.bool s1, .slice a1 n1 c1], .agg #[.bool s2, .slice a2 n2 c2]] w (RInt w (k1 + k2) (z1 * z2)) := by
  obtain ⟨m1, h1, _, hz1⟩ := h1
  obtain ⟨m2, h2, _, hz2⟩ := h2
  obtain ⟨W, hW, K0⟩ := kp2 w s1 s2 a1 a2 n1 n2 c1 c2
  have Hz := hid (neg_mul_val s1 s2 m1 m2 z1 z2 hz1 hz2)
  clear hz1 hz2
  have KC := hid (kc2 w s1 s2 a1 a2 n1 n2 c1 c2)
  go_enter Tryd.func13, Tryd.ntmps13
  go_wp2_with fail
  rw [← hW]
  clear hW
  go_region_held3 (fun w' => Kp w w' [(1, [.bool s2, .slice a2 n2 c2]), (0, [.bool s1, .slice a1 n1 c1])] [(2, 2)] ∧ w'.cell? ⟨w.heap.size, 0, none⟩ = some (.bool s1) ∧ w'.cell? ⟨w.heap.size, 1, none⟩ = some (.slice a1 n1 c1) ∧ w'.cell? ⟨w.heap.size + 1, 0, none⟩ = some (.bool s2) ∧ w'.cell? ⟨w.heap.size + 1, 1, none⟩ = some (.slice a2 n2 c2)) ((go_split_ands; refine KC.out _ ?_; first | assumption | exact Kp.drew (by assumption) | exact Kp.drew (Kp.drewN (by assumption) _) | exact Kp.after (by assumption) (by assumption) | exact (Kp.put2 (by assumption) 2 (by simp) _ _ _ _ (by simp)).1))
    (first
      | (go_at_call 41; go_must (go_split_ands; (with_reducible refine Calls.mono (mul_c _ _ _ _ _ _ _ k1 k2 m1 m2 ?_ ?_ (by omega) (by omega)) ?_); exact h1.ext (Kp.ext (by assumption)); exact h2.ext (Kp.ext (by assumption)); rintro e w1 ⟨ao, n, cap, rfl, e1, hm⟩; obtain ⟨xs, hm, hk, _, hv⟩ := hm; have Hv := hid hv; clear hv))
      | (go_at_call 37; go_must (go_split_ands; (with_reducible refine Calls.mono (of_c _ _ _ _ _ xs (z1 * z2) hm ?_) ?_); rw [Hv.out]; exact Hz.out; rintro e w2 ⟨s3, a3, n3, c3, rfl, e2, h3⟩; have KF := Kp.after (by assumption) e2; obtain ⟨⟨_, r0, _⟩, f0⟩ := Kp.res KF 2 2 (by simp) 0 (by omega); obtain ⟨⟨_, r1, _⟩, f1⟩ := Kp.res KF 2 2 (by simp) 1 (by omega))))
  have h3 := h3.mono hk
  go_wp2_with fail
  refine bodyPost_ret (v := .agg #[.bool s3, .slice a3 n3 c3]) (by simp [results, Tryd.results13, go_sem, r0, r1]) rfl (Kp.fin KF 2 (by simp) (by simp) h3)

set_option maxHeartbeats 400000 in
theorem Neg_c (w : World) (s1 : Bool) (a1 : Option Addr) (n1 c1 k1 : Nat) (z1 : Int) (h1 : IntAt w k1 s1 a1 n1 c1 z1) : Calls Tryd.prog 29 #[.agg #[.bool s1, .slice a1 n1 c1]] w (RInt w k1 (-z1)) := by
  obtain ⟨m, ⟨xs, hw, hk, _, hm⟩, hs, hz⟩ := h1
  have hz' : -z1 = if (!s1) then -(natVal xs : Int) else natVal xs := by rw [hz, hm]; cases s1 <;> simp
  have Hz := hid hz'
  clear hz hz' hm hs
  obtain ⟨W, hW, K0⟩ := kp1 w s1 a1 n1 c1
  have q0 := K0.cell 0 0 [.bool s1, .slice a1 n1 c1] _ (by simp) rfl
  have q1 := K0.cell 0 1 [.bool s1, .slice a1 n1 c1] _ (by simp) rfl
  have hnot : ∀ (x : Bool) (w : World), (Op.unary .not (.bool x)).run Tryd.prog w = .ok (.bool (!x)) w := fun _ _ => rfl
  go_enter Tryd.func29, Tryd.ntmps29
  go_wp2_with fail
  rw [← hW]
  refine Calls.mono (of_c _ (!s1) _ _ _ xs (-z1) (hw.ext K0.ext) Hz.out) ?_
  clear hW
  rintro e w1 ⟨s3, a3, n3, c3, rfl, e1, h3⟩
  have KF := K0.after e1
  obtain ⟨⟨_, r0, _⟩, f0⟩ := Kp.res KF 1 2 (by simp) 0 (by omega); obtain ⟨⟨_, r1, _⟩, f1⟩ := Kp.res KF 1 2 (by simp) 1 (by omega)
  have h3 := h3.mono hk
  clear q0 q1 hnot
  go_wp2_with fail
  refine bodyPost_ret (v := .agg #[.bool s3, .slice a3 n3 c3]) (by simp [results, Tryd.results29, go_sem, r0, r1]) rfl (Kp.fin KF 1 (by simp) (by simp) h3)

set_option maxHeartbeats 400000 in
theorem Bits_c (w : World) (s1 : Bool) (a1 : Option Addr) (n1 c1 k1 : Nat) (z1 : Int) (h1 : IntAt w k1 s1 a1 n1 c1 z1) (l1 : k1 ≤ 268435456) : Calls Tryd.prog 46 #[.agg #[.bool s1, .slice a1 n1 c1]] w (RVal w (.int .i64 (bitLen z1.natAbs : Nat))) := by
  obtain ⟨m, hm, hs, hz⟩ := h1
  have hz' : bitLen z1.natAbs = bitLen m := by rw [hz]; cases s1 <;> simp
  have H := hid (bits_c (boxed w s1 a1 n1 c1) a1 n1 c1 k1 m (hm.ext (boxed_ext w s1 a1 n1 c1)) (by omega))
  rw [hz']
  clear hm hs hz hz'
  go_enter Tryd.func46, Tryd.ntmps46
  go_wp2_with fail
  refine H.out.mono ?_
  rintro e w1 ⟨rfl, rfl⟩
  go_wp2_with fail
  go_ret
  exact ⟨rfl, boxed_ext w s1 a1 n1 c1⟩
end Go.Proofs.YtpflfagjkmeeiaaDoor
