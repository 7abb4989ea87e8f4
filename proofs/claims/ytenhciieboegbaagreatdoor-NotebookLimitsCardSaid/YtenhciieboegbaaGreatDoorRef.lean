/-
  trim of the reference package: zeros at the end are taken away. Every slice of words. The reference package: made, size, Same, Of, Made. Every slice of words of at most 2^40 words. The reference package: Same, Of, Made. Every two integers of at most 2^28 words; every int64; every description.
-/
import Derived.Test.YtenhciieboegbaaGreatDoorProg
import Derived.Test.YtenhciieboegbaaGreatDoorBase
import Derived.WalkLawsBesides
import Derived.WalkSpells
import Derived.Test.YtenhciieboegbaaGreatDoorFact
import Derived.Deep.AppendSrc
namespace Go.Proofs.YtenhciieboegbaaGreatDoor
open Go Go.RowKit

set_option maxHeartbeats 400000 in
theorem rtrim_wd (w : World) (ao : Option Addr) (n cap : Nat) (xs : List Nat) (h : Wd w ao n cap xs) :
    Calls Tryz.prog 74 #[.slice ao n cap] w fun e w' => ∃ n', e = .returned (.slice ao n' cap) ∧ w = w' ∧ NatAt w n ao n' cap (natVal xs) := by
  have hl := h.len
  have hcapo := h.capo
  have hbig := h.big
  have hfull : natVal (xs.take n) = natVal xs := by rw [List.take_of_length_le (by omega)]
  have fin : ∀ k, k ≤ n → natVal (xs.take k) = natVal (xs.take n) → (0 < k → xs.getD (k - 1) 0 ≠ 0) → NatAt w n ao k cap (natVal xs) := fun k hk he hz =>
    ⟨xs.take k, h.take k hk, hk, fun h0 => by rw [getD_take _ _ _ (by omega)]; exact hz h0, by rw [he, hfull]⟩
  have step : ∀ k, 0 < k → xs.getD (k - 1) 0 = 0 → natVal (xs.take (k - 1)) = natVal (xs.take k) := fun k h0 hz => by
    have := natVal_take_zero xs (k - 1) hz
    rw [show k - 1 + 1 = k from by omega] at this
    exact this.symm
  have Hfin := hid fin
  have Hstep := hid step
  have Hfull := hid hfull
  clear fin step hfull
  rcases h.at_ with rfl | ⟨b, off, rfl, hb, hc⟩
  · clear h
    go_enter Tryz.func74, Tryz.ntmps74
    go_wp2
    refine wp_loop_rounds 1 ?_
    rw [rounds_succ]
    go_wp2
    go_ret
    exact ⟨0, rfl, rfl, Hfin.out 0 (by omega) rfl (by omega)⟩
  · clear h
    have HC := hid hc
    clear hc
    go_enter Tryz.func74, Tryz.ntmps74
    go_wp2
    go_loop [0] (fun v => ∃ k : Nat, k ≤ n ∧ v = .slice (some ⟨b, off, none⟩) k cap ∧ Hid (natVal (xs.take k) = natVal (xs.take n))) (fun v => match v with | .slice _ k _ => k | _ => 0)
    case atStart => exact ⟨n, by omega, rfl, rfl⟩
    case round =>
      obtain ⟨k, hk, rfl, hkeep⟩ := hrel
      by_cases h0 : 0 < k
      · have hcell := HC.out (k - 1) (by omega)
        by_cases hz : xs.getD (k - 1) 0 = 0
        · have hz2 : ((xs.getD (k - 1) 0 : Nat) : Int) = 0 := by omega
          rw [hz2] at hcell
          have Hz := hid hz
          clear hz hz2
          go_wp2
          go_round
          case rel => exact ⟨k - 1, by omega, rfl, (Hstep.out k h0 Hz.out).trans hkeep⟩
          case measure => simp; omega
        · obtain ⟨x, hx⟩ : ∃ x, x = xs.getD (k - 1) 0 := ⟨_, rfl⟩
          rw [← hx] at hcell
          have hz2 : ((x : Int) == 0) = false := by simpa [hx] using hz
          have Hz := hid hz
          clear hz hx
          go_wp2
          go_ret
          exact ⟨k, rfl, rfl, Hfin.out k hk hkeep (fun _ => Hz.out)⟩
      · go_wp2
        go_ret
        exact ⟨k, rfl, rfl, Hfin.out k hk hkeep (fun h => absurd h h0)⟩

end Go.Proofs.YtenhciieboegbaaGreatDoor
namespace Go.Proofs.YtenhciieboegbaaGreatDoor
open Go Go.RowKit

set_option maxHeartbeats 400000 in
theorem rmade_c (w : World) (s : Bool) (ao : Option Addr) (n cap : Nat) (xs : List Nat) (z : Int) (h : Wd w ao n cap xs) (hz : z = if s then -(natVal xs : Int) else natVal xs) :
    Calls Tryz.prog 52 #[.bool s, .slice ao n cap] w (RInt w n z) := by
  have h1 := hid (rtrim_wd _ ao n cap xs (h.ext ((Ext.refl w).alloc (.cells #[.bool false, .slice none 0 0] 29))))
  have Hz := hid hz
  have Hh := hid h
  clear hz h
  go_enter Tryz.func52, Tryz.ntmps52
  go_wp2_with fail
  refine (h1.out).mono ?_
  rintro e w' ⟨n', rfl, rfl, hn⟩
  clear h1
  have hle := hn.le
  have hn := hn.back Hh.out ((Ext.refl w).alloc _) hle
  by_cases h0 : n' = 0
  · have hm := (hn.zero).2 h0
    have hz0 : z = 0 := by rw [Hz.out, hm]; cases s <;> rfl
    subst h0
    go_wp2_with fail
    refine bodyPost_ret (v := .agg #[.bool false, .slice none 0 0]) (by simp [results, Tryz.results52, go_sem]) rfl ?_
    rw [hz0]
    exact ⟨_, _, _, _, rfl, (Ext.refl w).alloc _, IntAt.zero.mono (by omega)⟩
  · have h0' : ((n' : Int) == 0) = false := by rw [beq_eq_false_iff_ne]; omega
    have h00 := hid h0
    clear h0
    go_wp2_with fail
    refine bodyPost_ret (v := .agg #[.bool s, .slice ao n' cap]) (by simp [results, Tryz.results52, go_sem]) rfl ?_
    refine ⟨_, _, _, _, rfl, (Ext.refl w).alloc _, ?_⟩
    rw [Hz.out]
    exact IntAt.mk (hn.ext ((Ext.refl w).alloc _)) s h00.out

set_option maxRecDepth 100000 in
set_option maxHeartbeats 1000000 in
theorem rsize_same (w : World) (a1 a2 : Option Addr) (n c1 c2 : Nat) (A B : List Nat) (h1 : Wd w a1 n c1 A) (h2 : Wd w a2 n c2 B) (s1 : n ≤ 1073741824) :
    Calls Tryz.prog 90 #[.slice a1 n c1, .slice a2 n c2] w (RVal w (.int .i64 (cmpI (natVal A) (natVal B)))) := by
  have HA := hid h1.lt
  have HB := hid h2.lt
  have HlA := hid h1.len
  have HlB := hid h2.len
  have HW1 := hid h1
  have HW2 := hid h2
  have sh1 := h1.shape
  have sh2 := h2.shape
  clear h1 h2
  rcases sh1 with sh1 | ⟨b1, off1, rfl, hb1⟩ <;> rcases sh2 with sh2 | ⟨b2, off2, rfl, hb2⟩
  all_goals
    go_enter Tryz.func90, Tryz.ntmps90
    go_wp2_with fail
    go_loopw [5] (fun i wr => ∃ z : Int, -1 ≤ z ∧ z < n ∧ i = .int .i64 z ∧ Hid (SameFrom A B (z + 1).toNat) ∧ Ext w wr) (fun i _ => (intOf i + 1).toNat)
    case atStart => exact ⟨(n : Int) - 1, by omega, by omega, rfl, fun i hi => by rw [getD_big _ _ (by rw [HlA.out]; omega), getD_big _ _ (by rw [HlB.out]; omega)], Ext.refl _⟩
    case round =>
      obtain ⟨z, hz1, hz2, rfl, hsame, hext⟩ := hrel
      by_cases hz0 : 0 ≤ z
      · obtain ⟨j, rfl⟩ := Int.eq_ofNat_of_zero_le hz0
        first
          | (exfalso; omega)
          | (have c1 := (HW1.out.ext hext).cell j (by omega)
             have c2 := (HW2.out.ext hext).cell j (by omega)
             have hsame' : SameFrom A B (j + 1) := hsame.out
             have HC : ∀ x y : Nat, A.getD j 0 = x → B.getD j 0 = y → (x < y → natVal A < natVal B) ∧ (y < x → natVal B < natVal A) ∧ (x = y → SameFrom A B j) := fun x y hx hy =>
               ⟨fun h => hsame'.lt HA.out (by omega) HlA.out HlB.out (by rw [hx, hy]; exact h), fun h => hsame'.symm.lt HB.out (by omega) HlB.out HlA.out (by rw [hx, hy]; exact h), fun h => hsame'.step (by rw [hx, hy]; exact h)⟩
             have HC := hid (HC _ _ rfl rfl)
             clear hsame hsame'
             generalize A.getD j 0 = x at c1 HC
             generalize B.getD j 0 = y at c2 HC
             go_wp2_with fail
             rcases Nat.lt_trichotomy x y with h | h | h
             · have hv : decide (x < y) = true := by simpa using h
               have hg := hid (HC.out.1 h)
               clear HC
               go_quiet (fail)
               go_wp2_with fail
               go_ret
               exact ⟨ret_int (by rw [cmpI_lt (by exact_mod_cast hg.out)]), hext.drewN _⟩
             · have hv : decide (x < y) = false := by simp; omega
               have hv2 : decide (y < x) = false := by simp; omega
               have hg := hid (HC.out.2.2 h)
               clear HC h
               go_quiet (fail)
               go_wp2_with fail
               go_quiet (fail)
               go_wp2_with fail
               go_roundw
               case rel => exact ⟨(j : Int) - 1, by omega, by omega, rfl, by rw [show ((j : Int) - 1 + 1).toNat = j from by omega]; exact hg, hext.drewN _⟩
               case measure => simp [intOf]
             · have hv : decide (x < y) = false := by simp; omega
               have hv2 : decide (y < x) = true := by simpa using h
               have hg := hid (HC.out.2.1 h)
               clear HC
               go_quiet (fail)
               go_wp2_with fail
               go_quiet (fail)
               go_wp2_with fail
               go_ret
               exact ⟨ret_int (by rw [cmpI_gt (by exact_mod_cast hg.out)]), (hext.drewN _).drewN _⟩)
      · obtain rfl : z = -1 := by omega
        have hv : SameFrom A B 0 := hsame.out
        have hg := hid (hv.eq HlA.out HlB.out)
        clear hv hsame
        go_wp2_with fail
        go_ret
        exact ⟨ret_int (cmpI_eq (congrArg (fun n : Nat => (n : Int)) hg.out)).symm, hext⟩

theorem rsize_c (w : World) (a1 a2 : Option Addr) (n1 n2 c1 c2 k1 k2 x y : Nat) (h1 : NatAt w k1 a1 n1 c1 x) (h2 : NatAt w k2 a2 n2 c2 y) (s1 : k1 ≤ 1073741824) :
    Calls Tryz.prog 90 #[.slice a1 n1 c1, .slice a2 n2 c2] w (RVal w (.int .i64 (cmpI x y))) := by
  obtain ⟨xs, h1, l1, z1, rfl⟩ := h1
  obtain ⟨ys, h2, l2, z2, rfl⟩ := h2
  have e1 := h1.len
  have e2 := h2.len
  have b1 : n1 ≤ 9223372036854775807 := Nat.le_trans h1.capo h1.big
  have b2 : n2 ≤ 9223372036854775807 := Nat.le_trans h2.capo h2.big
  rcases Nat.lt_trichotomy n1 n2 with h | h | h
  · have hv : natVal xs < natVal ys := by
      have a := natVal_lt xs h1.lt
      have b := natVal_ge ys (by omega) (by rw [e2]; exact z2 (by omega))
      have c : 4294967296 ^ xs.length ≤ 4294967296 ^ (ys.length - 1) := Nat.pow_le_pow_right (by omega) (by omega)
      omega
    rw [cmpI_lt (by exact_mod_cast hv)]
    have hc : (n1 == n2) = false := by rw [beq_eq_false_iff_ne]; omega
    have hc2 : decide (n1 < n2) = true := by simpa using h
    clear hv h1 h2 e1 e2 z1 z2
    go_enter Tryz.func90, Tryz.ntmps90
    go_wp2_with fail
    go_ret
    exact ⟨rfl, Ext.refl _⟩
  · subst h
    exact rsize_same w a1 a2 n1 c1 c2 xs ys h1 h2 (by omega)
  · have hv : natVal ys < natVal xs := by
      have a := natVal_lt ys h2.lt
      have b := natVal_ge xs (by omega) (by rw [e1]; exact z1 (by omega))
      have c : 4294967296 ^ ys.length ≤ 4294967296 ^ (xs.length - 1) := Nat.pow_le_pow_right (by omega) (by omega)
      omega
    rw [cmpI_gt (by exact_mod_cast hv)]
    have hc : (n1 == n2) = false := by rw [beq_eq_false_iff_ne]; omega
    have hc2 : decide (n1 < n2) = false := by simp; omega
    clear hv h1 h2 e1 e2 z1 z2
    go_enter Tryz.func90, Tryz.ntmps90
    go_wp2_with fail
    go_ret
    exact ⟨rfl, Ext.refl _⟩
end Go.Proofs.YtenhciieboegbaaGreatDoor
namespace Go.Proofs.YtenhciieboegbaaGreatDoor
open Go Go.RowKit

theorem same_sign (s1 s2 : Bool) (m1 m2 : Nat) (z1 z2 : Int) (h1 : z1 = if s1 then -(m1 : Int) else m1) (h2 : z2 = if s2 then -(m2 : Int) else m2)
    (t1 : m1 = 0 → s1 = false) (t2 : m2 = 0 → s2 = false) : z1 = z2 ↔ (s1 = s2 ∧ m1 = m2) := by
  cases s1 <;> cases s2 <;> simp at h1 h2 t1 t2 <;> simp <;> omega

theorem st20 (w : World) (s1 s2 : Bool) (a1 a2 : Option Addr) (n1 n2 c1 c2 : Nat) :
    ∃ W, W = (w.alloc (.cells #[.bool s1, .slice a1 n1 c1] 29)).alloc (.cells #[.bool s2, .slice a2 n2 c2] 29) ∧
      Bx W w.heap.size s1 a1 n1 c1 ∧ Bx W (w.heap.size + 1) s2 a2 n2 c2 ∧ Ext w W := by
  obtain ⟨W, h1, h2⟩ := kq20 w s1 s2 a1 a2 n1 n2 c1 c2
  exact ⟨W, h1, h2.bx w.heap.size s1 a1 n1 c1 (by simp), h2.bx (w.heap.size + 1) s2 a2 n2 c2 (by simp), h2.ext⟩

theorem Same_c (w : World) (s1 s2 : Bool) (a1 a2 : Option Addr) (n1 n2 c1 c2 k1 k2 : Nat) (z1 z2 : Int) (h1 : IntAt w k1 s1 a1 n1 c1 z1) (h2 : IntAt w k2 s2 a2 n2 c2 z2) (l1 : k1 ≤ 268435456) : Calls Tryz.prog 48 #[.agg #[.bool s1, .slice a1 n1 c1], .agg #[.bool s2, .slice a2 n2 c2]] w (RVal w (.bool (decide (z1 = z2)))) := by
  obtain ⟨W, hW, b2, b3, E'⟩ := st20 w s1 s2 a1 a2 n1 n2 c1 c2
  have E := hid E'
  obtain ⟨m1, g1, t1, e1⟩ := h1
  obtain ⟨m2, g2, t2, e2⟩ := h2
  have HS := hid (same_sign s1 s2 m1 m2 z1 z2 e1 e2 (fun h => t1 (g1.zero.1 h)) (fun h => t2 (g2.zero.1 h)))
  have HC := hid (rsize_c W a1 a2 n1 n2 c1 c2 k1 k2 m1 m2 (g1.ext E') (g2.ext E') (by omega))
  clear g1 g2 t1 t2 e1 e2 E'
  obtain ⟨r, hr⟩ : ∃ r, r = decide (z1 = z2) := ⟨_, rfl⟩
  rw [← hr]
  have Hr := hid hr
  clear hr
  have F1 := b2.c0; have F2 := b2.c1; have F3 := b2.f0; have F4 := b2.f1
  have G1 := b3.c0; have G2 := b3.c1; have G3 := b3.f0; have G4 := b3.f1
  by_cases hs : s1 = s2
  · subst hs
    by_cases hm : m1 = m2
    · have hr1 := hid (show r = true by rw [Hr.out]; simpa using HS.out.2 ⟨rfl, hm⟩)
      have hc : cmpI (m1 : Int) (m2 : Int) = 0 := cmpI_eq (by rw [hm])
      rw [hc] at HC
      clear hc hm
      go_enter Tryz.func48, Tryz.ntmps48
      go_wp2_with fail
      rw [← hW]
      clear hW
      go_wp2_with fail
      refine Calls.mono HC.out ?_
      rintro e w1 ⟨rfl, e1⟩
      go_wp2_with fail
      go_ret
      exact ⟨by rw [hr1.out]; rfl, E.out.trans e1⟩
    · have hr1 := hid (show r = false by rw [Hr.out]; simp only [decide_eq_false_iff_not]; exact fun h => hm (HS.out.1 h).2)
      have hc : ((cmpI (m1 : Int) (m2 : Int)) == 0) = false := by
        rw [beq_eq_false_iff_ne]; rcases Nat.lt_or_gt_of_ne hm with h | h
        · rw [cmpI_lt (by omega)]; decide
        · rw [cmpI_gt (by omega)]; decide
      obtain ⟨c, hcc⟩ : ∃ c, c = cmpI (m1 : Int) (m2 : Int) := ⟨_, rfl⟩
      rw [← hcc] at HC hc
      clear hm hcc
      go_enter Tryz.func48, Tryz.ntmps48
      go_wp2_with fail
      rw [← hW]
      clear hW
      go_wp2_with fail
      refine Calls.mono HC.out ?_
      rintro e w1 ⟨rfl, e1⟩
      go_wp2_with fail
      go_ret
      exact ⟨by rw [hr1.out]; rfl, E.out.trans e1⟩
  · have hr1 := hid (show r = false by rw [Hr.out]; simp only [decide_eq_false_iff_not]; exact fun h => hs (HS.out.1 h).1)
    have hb : (s1 == s2) = false := by simpa using hs
    clear hs
    go_enter Tryz.func48, Tryz.ntmps48
    go_wp2_with fail
    rw [← hW]
    clear hW
    go_wp2_with fail
    go_ret
    exact ⟨by rw [hr1.out]; rfl, E.out⟩

theorem Same_f {k1 k2 : Nat} {z1 z2 : Int} {x y : Value} {w : World} (hx : IsI k1 z1 x w) (hy : IsI k2 z2 y w) (l1 : k1 ≤ 268435456) : Calls Tryz.prog 48 #[x, y] w (Ret w (IsV (.bool (decide (z1 = z2))))) := by
  obtain ⟨s, a, n, c, rfl, h1⟩ := hx; obtain ⟨s', a', n', c', rfl, h2⟩ := hy
  exact Calls.mono (Same_c w s s' a a' n n' c c' k1 k2 z1 z2 h1 h2 l1) fun _ _ h => h.ret
set_option maxHeartbeats 1000000 in
theorem ROf_c (w : World) (n : Int) (h0 : -9223372036854775808 ≤ n) (h1 : n ≤ 9223372036854775807) : Calls Tryz.prog 31 #[.int .i64 n] w (RInt w 2 n) := by
  obtain ⟨v, hv⟩ : ∃ v : Nat, v = n.natAbs := ⟨_, rfl⟩
  obtain ⟨a, ha⟩ : ∃ a : Nat, a = v % 4294967296 := ⟨_, rfl⟩
  obtain ⟨b, hb⟩ : ∃ b : Nat, b = v / 4294967296 := ⟨_, rfl⟩
  have Hz := hid (of_val n v a b hv ha hb)
  have h2 : (v : Int) % 4294967296 = (a : Int) := by omega
  have h3 : (v : Int) / 4294967296 = (b : Int) := by omega
  have hal : a < 4294967296 := by omega
  have hbl : b < 4294967296 := by omega
  obtain ⟨W, hW⟩ : ∃ W, W = w.alloc (.cells #[.bool false, .slice none 0 0] 29) := ⟨_, rfl⟩
  have hwd := wd_new2 W a b hal hbl
  have hWs : W.heap.size = w.heap.size + 1 := by rw [hW]; simp
  rw [hWs] at hwd
  have hR := hid (fun (s : Bool) (hs : decide (n < 0) = s) => rmade_c (W.alloc (.cells #[.int .u32 (a : Nat), .int .u32 (b : Nat)] 97)) s _ 2 2 [a, b] n hwd (by rw [← hs]; exact Hz.out))
  clear hwd
  have K0 : Kp w W [] [(0, 2)] := hW ▸ (Kp.start w).out 0 rfl [.bool false, .slice none 0 0] 29 (by
    intro v hv; simp at hv; rcases hv with rfl | rfl
    · exact NoWord.bool _
    · exact NoWord.slice _ _ _)
  have w1 : IntKind.u64.wrap (-(IntKind.u64.wrap n)) = if n < 0 then (v : Int) else IntKind.u64.wrap (-(IntKind.u64.wrap n)) := by
    split
    · simp only [IntKind.wrap_u64]; omega
    · rfl
  have w2 : 0 ≤ n → IntKind.u64.wrap n = (v : Int) := fun h => by simp only [IntKind.wrap_u64]; omega
  clear hv ha hb Hz hWs
  by_cases hn : n < 0
  · rw [if_pos hn] at w1
    clear w2
    go_enter Tryz.func31, Tryz.ntmps31
    go_wp2_with fail
    rw [← hW]
    clear hW w1
    refine Calls.mono (hR.out true (by simp [hn])) ?_
    rintro e w2 ⟨s3, a3, n3, c3, rfl, e2, h3'⟩
    have KF := (K0.after ((Ext.refl W).alloc _)).after e2
    obtain ⟨⟨_, r0, _⟩, f0⟩ := Kp.res KF 0 2 (by simp) 0 (by omega); obtain ⟨⟨_, r1, _⟩, f1⟩ := Kp.res KF 0 2 (by simp) 1 (by omega)
    simp only [Nat.add_zero] at r0 r1 f0 f1
    have h3 := h3'
    clear hR K0 h2
    go_wp2_with fail
    refine bodyPost_ret (v := .agg #[.bool s3, .slice a3 n3 c3]) (by simp [results, Tryz.results31, go_sem, r0, r1]) rfl (Kp.fin KF 0 (by simp) (by simp) h3)
  · have w2 := w2 (by omega)
    clear w1
    go_enter Tryz.func31, Tryz.ntmps31
    go_wp2_with fail
    rw [← hW]
    clear hW w2
    refine Calls.mono (hR.out false (by simp [hn])) ?_
    rintro e w2 ⟨s3, a3, n3, c3, rfl, e2, h3'⟩
    have KF := (K0.after ((Ext.refl W).alloc _)).after e2
    obtain ⟨⟨_, r0, _⟩, f0⟩ := Kp.res KF 0 2 (by simp) 0 (by omega); obtain ⟨⟨_, r1, _⟩, f1⟩ := Kp.res KF 0 2 (by simp) 1 (by omega)
    simp only [Nat.add_zero] at r0 r1 f0 f1
    have h3 := h3'
    clear hR K0 h2
    go_wp2_with fail
    refine bodyPost_ret (v := .agg #[.bool s3, .slice a3 n3 c3]) (by simp [results, Tryz.results31, go_sem, r0, r1]) rfl (Kp.fin KF 0 (by simp) (by simp) h3)

theorem ROf_f (w : World) (n : Int) (h0 : -9223372036854775808 ≤ n) (h1 : n ≤ 9223372036854775807) : Calls Tryz.prog 31 #[.int .i64 n] w (Ret w (IsI 2 n)) :=
  Calls.mono (ROf_c w n h0 h1) fun _ _ h => h.ret

/-- Words, as a slice. -/
def IsW (xs : List Nat) : Value → World → Prop := fun x w => ∃ a n c, x = .slice a n c ∧ Wd w a n c xs
theorem IsW.stb (xs : List Nat) : Stb (IsW xs) := fun _ _ _ e ⟨a, n, c, h1, h2⟩ => ⟨a, n, c, h1, h2.ext e⟩
end Go.Proofs.YtenhciieboegbaaGreatDoor
