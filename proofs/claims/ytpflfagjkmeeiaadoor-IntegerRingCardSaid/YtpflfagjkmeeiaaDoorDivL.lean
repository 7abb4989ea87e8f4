/-
  Long division of naturals in package integer: the general case, a divisor of two words or more. At most 2^28 words each.
-/
import Derived.Test.YtpflfagjkmeeiaaDoorDivN
import Derived.Deep.LoopGhost
import Derived.Deep.DeepCutAuto
import Derived.Deep.QuietTactic
import Derived.Deep.RegionHeld3
import Derived.BigQuiet
namespace Go.Proofs.YtpflfagjkmeeiaaDoor
open Go Go.RowKit

set_option maxRecDepth 100000 in
set_option maxHeartbeats 4000000 in
theorem div_long (w : World) (a1 a2 : Option Addr) (n1 n2 c1 c2 k1 k2 x y : Nat) (h1 : NatAt w k1 a1 n1 c1 x) (h2 : NatAt w k2 a2 n2 c2 y) (s1 : k1 ≤ 268435456) (hge : y ≤ x) (hn2 : 2 ≤ n2) :
    Calls Tryd.prog 36 #[.slice a1 n1 c1, .slice a2 n2 c2] w (RDiv w k1 k2 (x / y) (x % y)) := by
  have hc := hid (cmp_c w a1 a2 n1 n2 c1 c2 k1 k2 x y h1 h2 (by omega))
  have hv : ∃ c : Int, cmpI (x : Int) (y : Int) = c ∧ 0 ≤ c := by
    rcases Nat.eq_or_lt_of_le hge with h | h
    · exact ⟨0, cmpI_eq (by omega), by omega⟩
    · exact ⟨1, cmpI_gt (by omega), by omega⟩
  obtain ⟨c, hv, hc0⟩ := hv
  rw [hv] at hc
  have hn12 : n2 ≤ n1 := by
    have a := h2.ge (by omega)
    have b := (Nat.pow_lt_pow_iff_right (a := 4294967296) (by omega)).1 (Nat.lt_of_le_of_lt (Nat.le_trans a hge) h1.lt)
    omega
  have hk1 := h1.le
  have hk2 := h2.le
  have hxl := hid h1.lt
  have h2' := h2
  obtain ⟨ys, h2a, _, hz, hy⟩ := h2'
  have hz := hz (by omega)
  rcases h2a.shape with h | ⟨b2, off2, rfl, hb2⟩
  · omega
  have hcb := h2a.cell (n2 - 1) (by omega)
  have htl := h2a.lt (n2 - 1)
  have hsh := hid (divShift y n2 ys hy h2a.len h2a.lt hn2 hz)
  have hyp := hid (h2.ge (by omega))
  have Hy0 : Hid (0 < y) := Nat.lt_of_lt_of_le (Nat.pos_of_ne_zero (by simp)) hyp.out
  have Hylt := hid h2.lt
  have hlz := (lz_bounds _ hz htl).1
  have hcell1 : ((n2 : Int) == 1) = false := by rw [beq_eq_false_iff_ne]; omega
  clear h2a hz hy hge hv
  generalize ys.getD (n2 - 1) 0 = t at *
  have H1 := hid h1
  have H2 := hid (h2.tight h2.lt)
  clear h1 h2
  go_enter Tryd.func36, Tryd.ntmps36
  go_wp2_with fail
  refine (hc.out).mono ?_
  rintro e w' ⟨rfl, he⟩
  have hcb := he.cell hcb
  clear hc
  go_wp2_with fail
  refine (lz_c t htl _).mono ?_
  rintro e w0 ⟨rfl, rfl⟩
  generalize lz t = s at *
  go_wp2_with fail
  refine (shl_c _ _ _ _ s n2 y (H2.out.ext he) (by omega) (by omega)).mono ?_
  rintro e w1 ⟨av, nv, cv, rfl, he1, hv⟩
  obtain rfl : n2 = nv := (shifted_len hv (by omega) (Nat.le_trans (Nat.le_mul_of_pos_right _ (by omega)) hsh.out.1) hsh.out.2).symm
  go_wp2_with (at_make; refine wpl_make rfl _ _ _ rfl Tryd.underlying56 _ _ (n1 + 1) rfl rfl (by omega) (by omega) (by omega) ?_; intro w2 e2 z2 o2)
  refine (shl_c _ _ _ _ s k1 x (H1.out.ext (he.trans (he1.trans e2))) (by omega) (by omega)).mono ?_
  rintro e w3 ⟨au, nu, cu, rfl, he3, hu⟩
  have hul : nu ≤ n1 + 1 := by
    have hB : x * 2 ^ s < 4294967296 ^ (n1 + 1) := by
      rw [Nat.pow_succ]
      have h1 : 2 ^ s ≤ 4294967296 := by rw [show (4294967296 : Nat) = 2 ^ 32 from rfl]; exact Nat.pow_le_pow_right (by omega) (by omega)
      exact Nat.lt_of_le_of_lt (Nat.mul_le_mul_left x h1) (Nat.mul_lt_mul_of_pos_right hxl.out (by omega))
    exact (hu.tight hB).le
  obtain ⟨us, hus, _, _, huv⟩ := hu
  obtain ⟨vs, hvs, _, _, hvv⟩ := hv
  have Hn := hid (divNums x y s n1 n2 vs hsh.out.1 hyp.out hn2 hxl.out hn12 hvv hvs.len hvs.lt)
  rcases hvs.shape with h | ⟨bv, offv, rfl, hbv⟩
  · omega
  have Huv := hid huv
  have Hvs := hid hvs
  clear huv hvv hvs
  go_wp2_with (first
    | (with_reducible refine wpl_copy w1 rfl _ _ _ _ rfl Tryd.underlying56 _ _ _ _ _ rfl rfl _ _ (o2.ext he3) (by simp) hus hul (e2.trans he3) (Nat.le_refl _) ?_; intro w4 o4 e4)
    | (at_make; refine wpl_make rfl _ _ _ rfl Tryd.underlying56 _ _ (n1 + 1 - n2) rfl rfl (by omega) (by omega) (by omega) ?_; intro w5 e5 z5 o5))
  have o4' : Own w4 w1.heap.size (us ++ (List.replicate (n1 + 1) 0).drop us.length) := by rw [hus.len]; exact o4
  have D0 := hid (DOut.start Hn.out (o4'.ext e5) o5 (by rw [hus.len]; exact hul) Huv.out hus.lt (Nat.ne_of_lt o4.lt) (Nat.le_refl _) e4.size (e4.trans e5))
  have HX := hid ((he.trans he1))
  clear o2 e2 z2 he3 o4 o4' e4 e5 z5 o5 hus hul hsh he he1 H1 H2 Huv
  generalize hgu : w1.heap.size = gu at *
  generalize hgq : w4.heap.size = gq at *
  have hM1 : n1 + 1 - n2 + n2 ≤ n1 + 1 := by omega
  have hM2 : n1 + 1 ≤ n1 + 1 - n2 + n2 := by omega
  generalize hM : n1 + 1 - n2 = M at *
  have HM := hid hM
  clear hgu hgq hM hcb htl hc0 hcell1 hyp hb2
  go_loopg [13] M (fun k p wr => ∃ z : Int, p = .int .i64 z ∧ z ≤ (k : Int) - 1 ∧ (k : Int) - 1 ≤ z ∧ k ≤ M ∧ Hid (DOut w1 gu gq (n1 + 1) M vs (x * 2 ^ s) k wr))
  case atStart => exact ⟨_, rfl, by omega, by omega, by omega, D0⟩
  case round =>
    clear D0
    obtain ⟨z, rfl, hz1, hz2, hkM, hout⟩ := hrel
    by_cases hk0 : 1 ≤ gk
    · obtain ⟨j, rfl⟩ : ∃ j, gk = j + 1 := ⟨gk - 1, by omega⟩
      obtain rfl : z = (j : Int) := by omega
      obtain ⟨us, qs, q, x2, x1, x0, v1, v2, R⟩ := hout.out.round Hn.out Hvs.out hn2 hkM hM1
      clear hout
      have R := hid R
      have hc2 := R.out.c2
      have hc1 := R.out.c1
      have hc0 := R.out.c0
      have hd1 := R.out.d1
      have hd2 := R.out.d2
      have hor1 := R.out.or1
      have hx2 := R.out.x2l
      have hx1 := R.out.x1l
      have hx0 := R.out.x0l
      have hv1t := R.out.v1t
      have hv1 := R.out.v1l
      have hv2 := R.out.v2l
      have hG0 := hid R.out.dig.start
      have hfl := R.out.fl
      have hfr := R.out.fr
      generalize hf : x2 * 4294967296 + x1 = first at hor1 hG0 hfl hfr
      have Hf := hid hf
      clear hf
      have hv10 : ¬ (v1 : Int) = 0 := by omega
      go_wp2_with fail
      go_quiet (fail)
      go_wp2_with fail
      go_quiet (fail)
      go_upto_block 2 with (fail)
      go_cut [15, 16] (fun g r wx => ∃ gg : Nat, g = .int .u64 gg ∧ gg < 4294967296 ∧ Hid (q ≤ gg ∧ gg ≤ q + 1) ∧ Ext wr wx)
      case first =>
        go_wp2_with fail
        go_loopw [15, 16] (fun g r wi => ∃ gg rr : Nat, g = .int .u64 gg ∧ r = .int .u64 rr ∧ rr < 4294967296 ∧ gg ≤ 8589934592 ∧ Hid (Gs q gg rr v1 first) ∧ Ext wr wi) (fun g _ _ => (intOf g).toNat)
        case atStart => exact ⟨first / v1, first % v1, by rw [wrap_div _ _ hfl], by rw [Int.natCast_emod], hfr, R.out.dig.bound _ _ (by rw [Hf.out]; exact hG0.out), hG0, ((Ext.refl _).drewN _).drewN _⟩
        case round =>
          obtain ⟨gg, rr, rfl, rfl, hrr, hgg, hG, hext⟩ := hrel
          have hc0 := hext.cell hc0
          have hd1 := hext.cell hd1
          have hd2 := hext.cell hd2
          by_cases hbig : 4294967295 < gg
          · obtain ⟨hg1, hGn⟩ := R.out.dig.step gg rr (by rw [Hf.out]; exact hG) (.inl (by omega))
            have hGn := hid hGn
            have hb8 := R.out.dig.bound _ _ hGn.out
            have hbd : decide ((4294967295 : Int) < (gg : Int)) = true := by simp; omega
            by_cases hst : 4294967295 < rr + v1
            · have hex := hid (R.out.dig.exit _ _ hGn.out (.inr (by omega)))
              have hexB := hex.out.1
              go_wp2_with fail
              go_quiet (fail)
              go_wp2_with fail
              go_meet
              exact ⟨gg - 1, by go_num, hexB, hex.out.2, hext.drewN _⟩
            · go_wp2_with fail
              go_quiet (fail)
              go_wp2_with fail
              go_roundw
              case rel => exact ⟨gg - 1, rr + v1, by go_num, by go_num, by omega, hb8, by rw [← Hf.out]; exact hGn, hext.drewN _⟩
              case measure => simp [intOf]; omega
          · have hgB : gg < 4294967296 := by omega
            have hbd : decide ((4294967295 : Int) < (gg : Int)) = false := by simp; omega
            obtain ⟨p, hp1, hp2, hp3, hor2⟩ := R.out.dig.prod hgB hv2 rr hrr hx0
            have Hp3 := hid hp3
            clear hp3
            by_cases ht : rr * 4294967296 + x0 < p
            · have htd : decide (((rr * 4294967296 + x0 : Nat) : Int) < (p : Int)) = true := by simp; omega
              obtain ⟨hg1, hGn⟩ := R.out.dig.step gg rr (by rw [Hf.out]; exact hG) (.inr (by rw [Hp3.out]; exact ht))
              have hGn := hid hGn
              have hb8 := R.out.dig.bound _ _ hGn.out
              by_cases hst : 4294967295 < rr + v1
              · have hex := hid (R.out.dig.exit _ _ hGn.out (.inr (by omega)))
                have hexB := hex.out.1
                go_wp2_with fail
                go_quiet (fail)
                go_wp2_with fail
                go_meet
                exact ⟨gg - 1, by go_num, hexB, hex.out.2, hext.drewN _⟩
              · go_wp2_with fail
                go_quiet (fail)
                go_wp2_with fail
                go_roundw
                case rel => exact ⟨gg - 1, rr + v1, by go_num, by go_num, by omega, hb8, by rw [← Hf.out]; exact hGn, hext.drewN _⟩
                case measure => simp [intOf]; omega
            · have htd : decide (((rr * 4294967296 + x0 : Nat) : Int) < (p : Int)) = false := by simp; omega
              have hex := hid (R.out.dig.exit gg rr (by rw [Hf.out]; exact hG) (.inl ⟨hgB, by rw [Hp3.out]; omega⟩))
              go_wp2_with fail
              go_quiet (fail)
              go_wp2_with fail
              go_meet
              exact ⟨gg, rfl, hgB, hex.out.2, hext.drewN _⟩
      case rest =>
        obtain ⟨g, rfl, hgB, hGq, hext⟩ := hcut
        clear hc2 hc1 hc0 hd1 hd2 hor1 hx2 hx1 hx0 hv1t hv1 hv2 hG0 hfl hfr Hf hv10
        have M0 := hid (R.out.start g hext)
        clear hext
        go_wp2_with fail
        go_loopw [17, 18, 149] (fun c b i wi => ∃ k cc bb : Nat, k ≤ n2 ∧ cc < 4294967296 ∧ bb ≤ 1 ∧ i = .int .i64 k ∧ c = .int .u64 cc ∧ b = .int .u32 bb ∧ Hid (DMs w1 gu gq (n1 + 1) M vs us qs g j k cc bb wi)) (fun _ _ i _ => n2 - (intOf i).toNat)
        case atStart => exact ⟨0, 0, 0, by omega, by omega, by omega, rfl, rfl, rfl, M0⟩
        case round =>
          clear M0
          obtain ⟨k, cc, bb, hk, hcc, hbb, rfl, rfl, rfl, hms⟩ := hrel
          by_cases hk1 : k < n2
          · obtain ⟨p, t, m, qq, x1, y, b', hy, hc1, hf1, hext, hx1, hyl, e1, e2, e3, e4, hpl, htl, hml, hql, hb', heb, hms'⟩ := hms.out.round (by omega) hbb hcc hgB (Hn.out.words k)
            have hcv := (Hvs.out.ext hext).cell k hk1
            rw [hy] at hcv
            have Heb := hid heb
            have Hms := hid hms'
            clear hy hms' heb hms hext
            go_wp2_with (go_at_call 59; refine (sub32_c x1 m bb hx1 hml hbb _).mono ?_; rintro e w' ⟨rfl, rfl⟩)
            go_roundw
            case rel => exact ⟨k + 1, qq, b', by omega, hql, hb', by go_num, rfl, by rw [Heb.out], Hms⟩
            case measure => simp [intOf]; omega
          · obtain rfl : n2 = k := by omega
            obtain ⟨hc1, hf1, hext, hxl2, hme⟩ := hms.out.last (by omega) hbb hcc Hn.out.len
            rw [R.out.x2e] at hc1 hxl2 hme
            obtain ⟨⟨oq, hcq⟩, hfq, hne1, hne2⟩ := hms.out.cellQ j (by omega)
            clear hms
            have hccm : (cc : Int) % 4294967296 = (cc : Int) := by omega
            by_cases hbo : x2 < cc + bb
            · rw [if_pos hbo] at hme
              obtain ⟨hg1, us1, hab, hrest⟩ := hme.no R.out hGq.out (by omega) (by omega) Hn.out.len
              have Hab := hid hab
              have Hrest := hid hrest
              have Hg1 := hid hg1
              have hg1' : 1 ≤ g := by omega
              clear hab hrest hg1 hme
              go_wp2_with (go_at_call 59; refine (sub32_lt x2 cc bb hxl2 hcc hbb _ hbo).mono ?_; rintro e w' ⟨rfl, rfl⟩)
              go_loopw [22, 205] (fun c i wi => ∃ k c' : Nat, k ≤ n2 ∧ c' ≤ 1 ∧ i = .int .i64 k ∧ c = .int .u32 c' ∧ Hid (DAb w1 gu gq (n1 + 1) M vs us1 qs j k c' wi)) (fun _ i _ => n2 - (intOf i).toNat)
              case atStart => exact ⟨0, 0, by omega, by omega, rfl, rfl, Hab⟩
              case round =>
                clear Hab hc1 hf1 hext hcq hfq
                obtain ⟨k, c', hk, hcb, rfl, rfl, hab⟩ := hrel
                by_cases hk1 : k < n2
                · obtain ⟨x1, y, hy, hc1, hf1, hext, hx1, hyl, hcl, hab'⟩ := hab.out.round (by omega) hcb (Hn.out.words k)
                  have hcv := (Hvs.out.ext hext).cell k hk1
                  rw [hy] at hcv
                  have Hab := hid hab'
                  clear hy hab' hab hext
                  go_wp2_with (go_at_call 60; refine (add32_c x1 y c' hx1 hyl hcb _).mono ?_; rintro e w' ⟨rfl, rfl⟩)
                  go_roundw
                  case rel => exact ⟨k + 1, _, by omega, hcl, by go_num, rfl, Hab⟩
                  case measure => simp [intOf]; omega
                · obtain rfl : n2 = k := by omega
                  obtain ⟨x3, hx3, hc3, hf3, hfin⟩ := Hrest.out _ c' hcb hab.out
                  obtain ⟨⟨oq, hcq⟩, hfq, hne1, hne2⟩ := hab.out.cellQ j (by omega)
                  have Hout := hid (hfin _ rfl).2.2
                  clear hab hfin Hrest
                  go_wp2_with fail
                  go_roundg j
                  case measure => omega
                  case rel => exact ⟨(j : Int) - 1, rfl, by omega, by omega, by omega, by rw [show (((x3 : Int) + c') % 4294967296) = (((x3 + c') % 4294967296 : Nat) : Int) from by omega, show ((g : Int) - 1) = ((q : Nat) : Int) from by have := Hg1.out; omega]; exact Hout⟩
            · rw [if_neg hbo] at hme
              obtain ⟨_, _, hout⟩ := hme.yes R.out hGq.out (by omega)
              have Hout := hid hout
              clear hme hout
              go_wp2_with (go_at_call 59; refine (sub32_ge x2 cc bb hxl2 hcc hbb _ hbo).mono ?_; rintro e w' ⟨rfl, rfl⟩)
              go_roundg j
              case measure => omega
              case rel => exact ⟨(j : Int) - 1, rfl, by omega, by omega, by omega, Hout⟩
    · obtain rfl : gk = 0 := by omega
      obtain rfl : z = -1 := by omega
      have hy0 : 0 < y := Hy0.out
      have hout' := hout.out
      rw [← HM.out] at hout'
      obtain ⟨us, qs, hw1, hq1, hw2, hq2, hext⟩ := hout'.fin Hn.out hn12 (by omega) hy0
      rw [HM.out] at hw1
      clear hout hout'
      have hs32 : s < 32 := hlz
      have hb1 : (0 : Int) ≤ (n2 : Int) := by omega
      have hb3 : (n2 : Int) ≤ (n1 : Int) + 1 := by omega
      go_wp2_with fail
      go_region_held3 (fun w' => Ext wr w') (first | assumption | exact Ext.refl _ | exact Ext.drew (Ext.refl _) | exact Ext.trans (by assumption) (by assumption))
        (first
          | (go_at_call 56; (with_reducible refine (trim_c _ _ _ _ _ (hw1.ext (by assumption))).mono ?_); rintro e wa ⟨aq, nq, cq, rfl, hxa, hna⟩)
          | (go_at_call 56; (with_reducible refine (trim_c _ _ _ _ _ (hw2.ext (by assumption))).mono ?_); rintro e wb ⟨ar, nr, cr, rfl, hxb, hnb⟩)
          | (go_at_call 61; (with_reducible refine (shr_c _ _ _ _ s n2 _ hnb (by omega) hs32).mono ?_); rintro e wc ⟨at2, nt, ct, rfl, hxc, hnc⟩))
      have e1 := hna.ext (hxb.trans hxc)
      rw [hq1] at e1
      rw [hq2, Nat.mul_div_cancel _ (Nat.pos_of_ne_zero (by simp))] at hnc
      have E1 := hid (e1.mono (show M ≤ k1 by omega))
      have E2 := hid (hnc.mono hk2)
      have hSx : Ext wr wc := by assumption
      have E3 := hid (HX.out.trans (hext.trans hSx))
      go_wp2_with fail
      go_ret2
      exact ⟨_, _, _, _, _, _, rfl, E3.out, E1.out, E2.out⟩

theorem div_c (w : World) (a1 a2 : Option Addr) (n1 n2 c1 c2 k1 k2 x y : Nat) (h1 : NatAt w k1 a1 n1 c1 x) (h2 : NatAt w k2 a2 n2 c2 y) (s1 : k1 ≤ 268435456) (hy : 0 < y) :
    Calls Tryd.prog 36 #[.slice a1 n1 c1, .slice a2 n2 c2] w (RDiv w k1 k2 (x / y) (x % y)) := by
  rcases Nat.lt_or_ge x y with h | h
  · exact div_small w a1 a2 n1 n2 c1 c2 k1 k2 x y h1 h2 s1 h
  · have hn : n2 ≠ 0 := fun h0 => by have := (h2.zero).2 h0; omega
    rcases Nat.lt_or_ge n2 2 with h3 | h3
    · obtain rfl : n2 = 1 := by omega
      exact div_word w a1 a2 n1 c1 c2 k1 k2 x y h1 h2 s1 h
    · exact div_long w a1 a2 n1 n2 c1 c2 k1 k2 x y h1 h2 s1 h h3
end Go.Proofs.YtpflfagjkmeeiaaDoor
