/-
  The reference package: Mul. Every two integers of at most 2^28 words.
-/
import Derived.Test.YtcgdkfadcglekaaGreatDoorRInt
namespace Go.Proofs.YtcgdkfadcglekaaGreatDoor
open Go Go.RowKit

theorem rmul_sign (s1 s2 : Bool) (m1 m2 : Nat) (z1 z2 : Int) (h1 : z1 = if s1 then -(m1 : Int) else m1) (h2 : z2 = if s2 then -(m2 : Int) else m2) : z1 * z2 = if (s1 != s2) then -((m1 * m2 : Nat) : Int) else ((m1 * m2 : Nat) : Int) := by
  rw [h1, h2]; cases s1 <;> cases s2 <;> simp [Int.neg_mul, Int.mul_neg]
theorem MulInv.drewN {w0 wr : World} {g N z e r : Nat} (h : MulInv w0 g N z e r wr) (n : Nat) : MulInv w0 g N z e r (wr.drewN n) := by
  obtain ⟨ys, h1, h2, h3, h4, h5, h6⟩ := h
  exact ⟨ys, h1.ext ((Ext.refl _).drewN n), h2, h3, h4, h5, h6.drewN n⟩
theorem drewN_set (w : World) (p : Addr) (v : Value) : ∀ n, (w.drewN n).setCell p v = (w.setCell p v).drewN n
  | 0 => rfl
  | n + 1 => by
    show ((w.drewN n).drew).setCell p v = ((w.setCell p v).drewN n).drew
    rw [← drewN_set w p v n]; rfl

set_option maxRecDepth 100000 in
set_option maxHeartbeats 2000000 in
theorem RMul_c (w : World) (s1 s2 : Bool) (a1 a2 : Option Addr) (n1 n2 c1 c2 k1 k2 : Nat) (z1 z2 : Int) (h1 : IntAt w k1 s1 a1 n1 c1 z1) (h2 : IntAt w k2 s2 a2 n2 c2 z2) (l1 : k1 ≤ 268435456) (l2 : k2 ≤ 268435456) : Calls Tryz.prog 84 #[.agg #[.bool s1, .slice a1 n1 c1], .agg #[.bool s2, .slice a2 n2 c2]] w (RInt w (k1 + k2) (z1 * z2)) := by
  obtain ⟨W, hW, K0⟩ := kq21 w s1 s2 a1 a2 n1 n2 c1 c2
  have b2 := hid (K0.bx w.heap.size s1 a1 n1 c1 (by simp))
  have b3 := hid (K0.bx (w.heap.size + 1) s2 a2 n2 c2 (by simp))
  have b4 := hid (show Bx W (w.heap.size + 1 + 1) false none 0 0 from K0.bx (w.heap.size + 2) false none 0 0 (by simp))
  have E := hid K0.ext
  obtain ⟨m1, ⟨A, hA, lA, _, vA⟩, _, e1⟩ := h1
  obtain ⟨m2, ⟨B, hB, lB, _, vB⟩, _, e2⟩ := h2
  have HZ := hid (rmul_sign s1 s2 m1 m2 z1 z2 e1 e2)
  rw [← vA, ← vB] at HZ
  have HW1 := hid (hA.ext K0.ext)
  have HW2 := hid (hB.ext K0.ext)
  have HA := hid hA.lt
  have HB := hid hB.lt
  have HlB := hid hB.len
  have HlA := hid hA.len
  have sh1 := hA.shape
  have sh2 := hB.shape
  have HK := hid (show n1 + n2 ≤ k1 + k2 by omega)
  have hn1 : n1 ≤ 268435456 := by omega
  have hn2 : n2 ≤ 268435456 := by omega
  clear K0 hA hB e1 e2 vA vB lA lB l1 l2
  rcases sh1 with sh1 | ⟨b1, off1, rfl, hb1⟩ <;> rcases sh2 with sh2 | ⟨b2', off2, rfl, hb2⟩
  all_goals
    go_enter Tryz.func84, Tryz.ntmps84
    go_upto_region 1 with (fail)
    rw [← hW]
    clear hW
    have F1 := b2.out.c0; have F2 := b2.out.c1; have F3 := b2.out.f0; have F4 := b2.out.f1
    have G1 := b3.out.c0; have G2 := b3.out.c1; have G3 := b3.out.f0; have G4 := b3.out.f1
    go_wp2_with (at_make; refine wpl_make rfl _ _ _ rfl (by kernel_rfl) _ _ (n1 + n2) rfl rfl (by omega) (by omega) (by omega) ?_; intro w1 e1 z1 o1)
    have I0 := hid (MulInv.start o1 e1 n2)
    clear o1 e1 z1 F1 F2 F3 F4 G1 G2 G3 G4
    go_loopw [6] (fun i wr => ∃ k : Nat, k ≤ n1 ∧ i = .int .i64 k ∧ Hid (MulInv W W.heap.size (n1 + n2) (k + n2) 0 (pv A k * natVal B) wr)) (fun i _ => n1 - (intOf i).toNat)
    case atStart => exact ⟨0, by omega, rfl, by simpa [pv] using I0⟩
    case round =>
      clear I0
      obtain ⟨i, hi, rfl, hinv⟩ := hrel
      by_cases hi1 : i < n1
      · first
          | (exfalso; omega)
          | (obtain ⟨o0, hc0, ho0, hz0, hf0, hext, hst0⟩ := hinv.out.cell i (by omega)
             have hxl := HA.out i
             clear hc0 ho0 hz0 hf0 hst0
             generalize hxe : A.getD i 0 = x at hxl
             have Hxe := hid hxe
             clear hxe
             have J0 := hid (MulInv.inner (x := x) hinv.out)
             have F1 := (b2.out.ext hext).c0; have F2 := (b2.out.ext hext).c1; have F3 := (b2.out.ext hext).f0; have F4 := (b2.out.ext hext).f1
             clear hinv hext
             go_upto_region 7 with (fail)
             clear F1 F2 F3 F4
             go_loopw [7, 8] (fun c j wi => ∃ k cc : Nat, k ≤ n2 ∧ cc < 4294967296 ∧ j = .int .i64 k ∧ c = .int .u64 cc ∧ Hid (MulInv W W.heap.size (n1 + n2) (i + n2) (4294967296 ^ (i + k) * cc) (pv A i * natVal B + 4294967296 ^ i * x * pv B k) wi)) (fun _ j _ => n2 - (intOf j).toNat)
             case atStart => exact ⟨0, 0, by omega, by omega, rfl, rfl, J0⟩
             case round =>
               clear J0
               obtain ⟨k, cc, hk, hcc, rfl, rfl, hin⟩ := hrel
               by_cases hk1 : k < n2
               · first
                   | (exfalso; omega)
                   | (obtain ⟨o, hco, hol, hz0, hfo, hexi, hsto⟩ := hin.out.cell (i + k) (by omega)
                      have hcA := (HW1.out.ext hexi).cell i hi1
                      have hcB := (HW2.out.ext hexi).cell k hk1
                      rw [Hxe.out] at hcA
                      have hyl := HB.out k
                      clear hz0 hin
                      generalize hye : B.getD k 0 = y at hcB hyl
                      have Hye := hid hye
                      clear hye
                      obtain ⟨hp1, hp2⟩ := prod_lt x y o cc hxl hyl hol hcc
                      have Hst := hid hsto
                      clear hsto
                      generalize hpe : x * y = p at hp1 hp2
                      have hpi : (x : Int) * (y : Int) = (p : Int) := by rw [← hpe]; simp
                      have Hpe := hid hpe
                      clear hpe
                      have hq : (cc + (p + o)) / 4294967296 < 4294967296 := by omega
                      have Hnew := hid (Hst.out ((cc + (p + o)) % 4294967296) (i + n2) (4294967296 ^ (i + (k + 1)) * ((cc + (p + o)) / 4294967296)) (pv A i * natVal B + 4294967296 ^ i * x * pv B (k + 1)) (by omega) (Nat.le_refl _) (Nat.le_refl _) (by omega)
                        (mul_next _ i k x y o cc (cc + (p + o)) _ _ B (by rw [Hpe.out]; omega) Hye.out))
                      clear Hst
                      have F1 := (b2.out.ext hexi).c0; have F2 := (b2.out.ext hexi).c1; have F3 := (b2.out.ext hexi).f0; have F4 := (b2.out.ext hexi).f1
                      have G1 := (b3.out.ext hexi).c0; have G2 := (b3.out.ext hexi).c1; have G3 := (b3.out.ext hexi).f0; have G4 := (b3.out.ext hexi).f1
                      go_wp2_with fail
                      go_quiet (fail)
                      go_wp2_with fail
                      go_roundw
                      case rel => exact ⟨k + 1, _, by omega, hq, by go_num, by go_num, by rw [drewN_set]; exact MulInv.drewN Hnew _⟩
                      case measure => simp [intOf]; omega)
               · obtain rfl : k = n2 := by omega
                 obtain ⟨o, hco, hol, hz0, hfo, hexi, hsto⟩ := hin.out.cell (i + k) (by omega)
                 have Hnew := hid (hsto cc (i + 1 + k) 0 (pv A (i + 1) * natVal B) hcc (Nat.le_refl _) (by omega) (by omega) (mul_end _ i k x o cc A B (hz0 (Nat.le_refl _)) HlB.out Hxe.out))
                 clear hsto hz0 hin
                 have G1 := (b3.out.ext hexi).c0; have G2 := (b3.out.ext hexi).c1; have G3 := (b3.out.ext hexi).f0; have G4 := (b3.out.ext hexi).f1
                 go_wp2_with fail
                 go_roundw
                 case rel => exact ⟨i + 1, by omega, by go_num, Hnew⟩
                 case measure => simp [intOf]; omega)
      · obtain rfl : i = n1 := by omega
        have hinv2 := hinv.out
        rw [pv_all A i (Nat.le_of_eq HlA.out)] at hinv2
        obtain ⟨o0, _, _, _, _, hext0, _⟩ : ∃ o, o = 0 ∧ o = 0 ∧ o = 0 ∧ o = 0 ∧ Ext W wr ∧ True := ⟨0, rfl, rfl, rfl, rfl, by obtain ⟨_, _, _, _, _, _, h⟩ := hinv2; exact h, trivial⟩
        obtain ⟨ys, hw, hv, hext⟩ := hinv2.fin (by omega)
        have HM := hid (rmade_c wr (s1 != s2) _ _ _ ys (z1 * z2) hw (by rw [hv]; exact HZ.out))
        clear hinv hinv2 hw hv
        have F1 := (b2.out.ext hext).c0; have F2 := (b2.out.ext hext).c1; have F3 := (b2.out.ext hext).f0; have F4 := (b2.out.ext hext).f1
        have G1 := (b3.out.ext hext).c0; have G2 := (b3.out.ext hext).c1; have G3 := (b3.out.ext hext).f0; have G4 := (b3.out.ext hext).f1
        go_wp2_with fail
        refine Calls.mono HM.out ?_
        rintro e w3 ⟨s3, a3, n3, c3, rfl, e3, h3⟩
        have B4 := b4.out.ext (hext.trans e3)
        have E3 := E.out.trans (hext.trans e3)
        clear F1 F2 F3 F4 G1 G2 G3 G4
        have H1 := B4.c0; have H2 := B4.c1; have H3 := B4.f0; have H4 := B4.f1
        go_wp2_with fail
        obtain ⟨w4, hW, b5, p⟩ := B4.put' s3 a3 n3 c3
        rw [← hW]; clear hW
        have T0 := b5.c0
        have T1 := b5.c1
        exact bodyPost_ret (v := .agg #[.bool s3, .slice a3 n3 c3]) (by simp [results, Tryz.results84, go_sem, T0, T1]) rfl ⟨_, _, _, _, rfl, E3.pt p (by omega), (h3.pt p).mono HK.out⟩
end Go.Proofs.YtcgdkfadcglekaaGreatDoor
