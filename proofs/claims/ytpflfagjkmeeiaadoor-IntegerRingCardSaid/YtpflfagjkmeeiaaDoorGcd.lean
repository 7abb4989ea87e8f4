/-
  Integers of package integer: Gcd. Every two integers of at most 2^27 words.
-/
import Derived.Test.YtpflfagjkmeeiaaDoorIMod
namespace Go.Proofs.YtpflfagjkmeeiaaDoor
open Go Go.RowKit

theorem gcd_step (a b : Int) : Int.gcd b (a % b) = Int.gcd a b := by
  have h := Int.gcd_add_mul_left_right b (a % b) (a / b)
  rw [Int.emod_add_mul_ediv] at h
  rw [← h, Int.gcd_comm]
theorem emod_natAbs_lt (a b : Int) (h : b ≠ 0) : (a % b).natAbs < b.natAbs := by
  have h1 := Int.emod_nonneg a h
  have h2 := Int.emod_lt a h
  omega

/-- What the loop of Gcd keeps. -/
structure GcdInv (w : World) (k : Nat) (g : Nat) (A B : Int) (sA sB : Bool) (aA aB : Option Addr) (nA nB cA cB : Nat) (wr : World) : Prop where
  b2 : Bx wr w.heap.size sA aA nA cA
  b3 : Bx wr (w.heap.size + 1) sB aB nB cB
  b4 : Bx wr (w.heap.size + 1 + 1) false none 0 0
  hA : IntAt wr k sA aA nA cA A
  hB : IntAt wr k sB aB nB cB B
  hg : Int.gcd A B = g
  e : Ext w wr

set_option maxRecDepth 100000 in
theorem Gcd_c (w : World) (s1 s2 : Bool) (a1 a2 : Option Addr) (n1 n2 c1 c2 k1 k2 : Nat) (z1 z2 : Int) (h1 : IntAt w k1 s1 a1 n1 c1 z1) (h2 : IntAt w k2 s2 a2 n2 c2 z2) (l1 : k1 ≤ 134217728) (l2 : k2 ≤ 134217728) :
    Calls Tryd.prog 19 #[.agg #[.bool s1, .slice a1 n1 c1], .agg #[.bool s2, .slice a2 n2 c2]] w (RInt w (max k1 k2) (Int.gcd z1 z2 : Nat)) := by
  obtain ⟨W, hW, K0⟩ := kq21 w s1 s2 a1 a2 n1 n2 c1 c2
  obtain ⟨k, hk⟩ : ∃ k, k = max k1 k2 := ⟨_, rfl⟩
  obtain ⟨g, hg⟩ : ∃ g, g = Int.gcd z1 z2 := ⟨_, rfl⟩
  have kl : k ≤ 134217728 := by omega
  have I0 := hid (show GcdInv w k g z1 z2 s1 s2 a1 a2 n1 n2 c1 c2 W from
    ⟨K0.bx w.heap.size s1 a1 n1 c1 (by simp), K0.bx (w.heap.size + 1) s2 a2 n2 c2 (by simp), K0.bx (w.heap.size + 2) false none 0 0 (by simp),
     (h1.ext K0.ext).mono (by omega), (h2.ext K0.ext).mono (by omega), hg.symm, K0.ext⟩)
  rw [← hk, ← hg]
  clear K0 h1 h2 hk hg l1 l2
  go_enter Tryd.func19, Tryd.ntmps19
  go_wp2_with fail
  rw [← hW]
  clear hW
  go_loopg [] z2.natAbs (fun gk wr => ∃ A B sA sB aA aB nA nB cA cB, B.natAbs = gk ∧ Hid (GcdInv w k g A B sA sB aA aB nA nB cA cB wr))
  case atStart => exact ⟨_, _, _, _, _, _, _, _, _, _, rfl, I0⟩
  case round =>
    clear I0
    obtain ⟨A, B, sA, sB, aA, aB, nA, nB, cA, cB, hgk, I⟩ := hrel
    have hz := I.out.hB.zero_iff
    by_cases hB : nB = 0
    · subst hB
      have hB0 : B = 0 := hz.2 rfl
      subst hB0
      have hgg : g = A.natAbs := by rw [← I.out.hg, Int.gcd_zero_right]
      have hb4 := hid I.out.b4
      have F1 := I.out.b3.c0; have F2 := I.out.b3.c1; have F3 := I.out.b3.f0; have F4 := I.out.b3.f1
      have G1 := I.out.b2.c0; have G2 := I.out.b2.c1; have G3 := I.out.b2.f0; have G4 := I.out.b2.f1
      go_wp2_with fail
      refine Calls.mono (Abs_c _ _ _ _ _ _ _ I.out.hA) ?_
      rintro e w1 ⟨s3, a3, n3, c3, rfl, e1, h3⟩
      have b4 := hb4.out.ext e1
      have E := I.out.e.trans e1
      clear F1 F2 F3 F4 G1 G2 G3 G4
      have F1 := b4.c0; have F2 := b4.c1; have F3 := b4.f0; have F4 := b4.f1
      go_wp2_with fail
      obtain ⟨X1, hX, P1, P2, P3, P4⟩ := b4.put s3 a3 n3 c3
      rw [← hX]; clear hX
      have T0 := P1.c0; have T1 := P1.c1
      exact bodyPost_ret (v := .agg #[.bool s3, .slice a3 n3 c3]) (by simp [results, Tryd.results19, go_sem, T0, T1]) rfl ⟨_, _, _, _, rfl, P4 E (by omega), by rw [hgg]; exact h3.gr P3⟩
    · have hBi : decide ((0 : Int) < (nB : Int)) = true := by simp; omega
      have hBn : B ≠ 0 := fun h => hB (hz.1 h)
      have M1 := gcd_step A B
      have M2 := emod_natAbs_lt A B hBn
      have b2 := hid I.out.b2
      have b3 := hid I.out.b3
      have b4 := hid I.out.b4
      have F1 := I.out.b3.c0; have F2 := I.out.b3.c1; have F3 := I.out.b3.f0; have F4 := I.out.b3.f1
      go_wp2_with fail
      clear F1 F2 F3 F4 hBi
      generalize decide (0 < nB) = b8
      refine wp_region_rg 4 [some 9, some 10, some 11, some 12] [IsV (.agg #[.bool sB, .slice aB nB cB]), IsV (.agg #[.bool sA, .slice aA nA cA]), IsV (.agg #[.bool sB, .slice aB nB cB]), IsI k (A % B)] [] 2 (by kernel_rfl) (by decide) (by kernel_rfl) (by kernel_rfl) (by kernel_rfl) (by kernel_rfl) (by kernel_rfl) ?_ (fun _ h => by cases h) ?_ ?_
      · repeat' (first | exact trivial | exact IsV.stb _ | exact IsI.stb _ _ | exact IsB.stb _ | apply And.intro)
      · refine RgAll.cons (by { intro v w' hE hd; simp only [layL, Act.put, List.setIfInBounds_toArray, List.set_cons_zero, List.set_cons_succ, Nat.reduceAdd]; have L0 := Bx.c0 (b3.out.ext hE); have L1 := Bx.c1 (b3.out.ext hE); skip; intro K hK; go_simp; exact hK.out _ _ (Ext.refl _) rfl (FreshIf.no rfl) }) ?_
        refine RgAll.cons (by { intro v w' hE hd; simp only [layL, Act.put, List.setIfInBounds_toArray, List.set_cons_zero, List.set_cons_succ, Nat.reduceAdd]; have L0 := Bx.c0 (b2.out.ext hE); have L1 := Bx.c1 (b2.out.ext hE); skip; intro K hK; go_simp; exact hK.out _ _ (Ext.refl _) rfl (FreshIf.no rfl) }) ?_
        refine RgAll.cons (by { intro v w' hE hd; simp only [layL, Act.put, List.setIfInBounds_toArray, List.set_cons_zero, List.set_cons_succ, Nat.reduceAdd]; have L0 := Bx.c0 (b3.out.ext hE); have L1 := Bx.c1 (b3.out.ext hE); skip; intro K hK; go_simp; exact hK.out _ _ (Ext.refl _) rfl (FreshIf.no rfl) }) ?_
        refine RgAll.cons (by { intro v w' hE hd; simp only [layL, Act.put, List.setIfInBounds_toArray, List.set_cons_zero, List.set_cons_succ, Nat.reduceAdd]; have d0 : v 1 = .agg #[.bool sA, .slice aA nA cA] := hd 1 (by kernel_rfl); have d1 : v 2 = .agg #[.bool sB, .slice aB nB cB] := hd 2 (by kernel_rfl); rw [d0, d1]; intro K hK; go_simp; go_at_call 45; go_split_ands; (with_reducible refine Calls.mono (mod_c _ sA sB aA aB nA nB cA cB k k A B (I.out.hA.ext hE) (I.out.hB.ext hE) kl kl hBn) ?_); rintro e w2 ⟨s9, a9, n9, c9, rfl, e2, h9⟩; exact hK.out _ _ e2 ⟨_, _, _, _, rfl, h9⟩ (FreshIf.no rfl) }) ?_
        exact RgAll.nil
      intro v w1 e1 hΦ _
      have v0 : v 0 = .agg #[.bool sB, .slice aB nB cB] := hΦ 0 (by decide)
      have d3 : IsI k (A % B) (v 3) w1 := hΦ 3 (by decide)
      obtain ⟨s5, a5, n5, c5, v3, h5⟩ := d3
      have b2 := b2.out.ext e1
      have b3 := b3.out.ext e1
      have b4 := b4.out.ext e1
      have E := I.out.e.trans e1
      have hB := I.out.hB.ext e1
      have hg := I.out.hg
      simp only [layL, Act.put, List.setIfInBounds_toArray, List.set_cons_zero, List.set_cons_succ, Nat.reduceAdd]
      rw [v0, v3]
      clear v0 v3 hΦ I hz
      have F1 := b2.c0; have F2 := b2.c1; have F3 := b2.f0; have F4 := b2.f1
      refine wpAny_ready (rs := [4]) (by kernel_rfl) (by simp) (AllReady.cons rfl (fun K hK => ?_) AllReady.nil); go_simp; refine hK _ _ ?_; clear hK K
      clear F1 F2 F3 F4
      obtain ⟨w2, hW, P1, P2, P3, P4⟩ := b2.put sB aB nB cB; rw [← hW]; clear hW
      have b2 := P1
      have b3 := P2 (show w.heap.size + 1 ≠ w.heap.size by omega) b3
      have b4 := P2 (show w.heap.size + 1 + 1 ≠ w.heap.size by omega) b4
      have E := P4 E (by omega)
      have hB := hB.gr P3
      have h5 := h5.gr P3
      clear P1 P2 P3 P4
      have F1 := b3.c0; have F2 := b3.c1; have F3 := b3.f0; have F4 := b3.f1
      refine wpAny_ready (rs := [5]) (by kernel_rfl) (by simp) (AllReady.cons rfl (fun K hK => ?_) AllReady.nil); go_simp; refine hK _ _ ?_; clear hK K
      clear F1 F2 F3 F4
      obtain ⟨w3, hW, P1, P2, P3, P4⟩ := b3.put s5 a5 n5 c5; rw [← hW]; clear hW
      have b3 := P1
      have b2 := P2 (show w.heap.size ≠ w.heap.size + 1 by omega) b2
      have b4 := P2 (show w.heap.size + 1 + 1 ≠ w.heap.size + 1 by omega) b4
      have E := P4 E (by omega)
      have hB := hB.gr P3
      have h5 := h5.gr P3
      clear P1 P2 P3 P4
      have I1 := hid (show GcdInv w k g B (A % B) sB s5 aB a5 nB n5 cB c5 w3 from ⟨b2, b3, b4, hB, h5, M1.trans hg, E⟩)
      clear b2 b3 b4 E hB h5
      refine wpAny_done (by kernel_rfl) ?_ _
      go_wp2_with fail
      go_roundg (A % B).natAbs
      case measure => omega
      case rel => exact ⟨_, _, _, _, _, _, _, _, _, _, rfl, I1⟩
end Go.Proofs.YtpflfagjkmeeiaaDoor
