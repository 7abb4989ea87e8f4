/-
  Package prime: the strong test at the two primes 43 and 47 that no base divides; Is of them.
  The reckoning that no composite number below 2^20 without a factor up to 41 passes the strong tests to 2 and 3.
  Package prime: mul, strong, isPrime at any word below 2^63: it ends, and below 2^20 it says whether the number is prime.
-/
import Derived.Test.YtknffgdbdadpcaaGreatDoorRwg
import Derived.Test.YtknffgdbdadpcaaGreatDoorPrt
import Derived.Test.YtknffgdbdadpcaaGreatDoorPri4
namespace Go.Proofs.YtknffgdbdadpcaaGreatDoor
open Go Go.RowKit

theorem and1N (a : Nat) (ha : a < 18446744073709551616) : bits .and .u64 ((a : Nat) : Int) 1 = ((a % 2 : Nat) : Int) := by
  have h := bits_and_u64_nat a 1 ha (by omega)
  have e : a &&& 1 = a % 2 := Nat.and_two_pow_sub_one_eq_mod a 1
  rw [e] at h
  exact h
set_option maxRecDepth 100000 in
theorem Div64_f (w : World) (lo n : Nat) (hl : lo < 18446744073709551616) (hn : 0 < n) (hn2 : n < 18446744073709551616) :
    Calls Tryz.prog 196 #[.int .u64 0, .int .u64 ((lo : Nat) : Int), .int .u64 ((n : Nat) : Int)] w (Ret w (IsT2 (IsV (.int .u64 ((lo / n : Nat) : Int))) (IsV (.int .u64 ((lo % n : Nat) : Int))))) := by
  have h0 : (((n : Nat) : Int) == 0) = false := by rw [beq_eq_false_iff_ne]; omega
  have h1 : decide (((n : Nat) : Int) ≤ 0) = false := by rw [decide_eq_false_iff_not]; omega
  have h2 : ((lo : Nat) : Int).tdiv ((n : Nat) : Int) = ((lo / n : Nat) : Int) := by rw [Int.tdiv_eq_ediv_of_nonneg (by omega)]; exact (Int.natCast_ediv lo n).symm
  have h3 : ((lo : Nat) : Int).tmod ((n : Nat) : Int) = ((lo % n : Nat) : Int) := by rw [Int.tmod_eq_emod_of_nonneg (by omega)]; exact (Int.natCast_emod lo n).symm
  have h2' : ((lo : Nat) : Int) / ((n : Nat) : Int) = ((lo / n : Nat) : Int) := (Int.natCast_ediv lo n).symm
  have h3' : ((lo : Nat) : Int) % ((n : Nat) : Int) = ((lo % n : Nat) : Int) := (Int.natCast_emod lo n).symm
  have h4 : lo / n < 18446744073709551616 := Nat.lt_of_le_of_lt (Nat.div_le_self _ _) hl
  have h5 : lo % n < 18446744073709551616 := Nat.lt_of_le_of_lt (Nat.mod_le _ _) hl
  generalize hq : lo / n = q at *
  generalize hr : lo % n = r at *
  have h6 : IntKind.u64.wrap ((q : Nat) : Int) = ((q : Nat) : Int) := by rw [IntKind.wrap_u64]; omega
  have h7 : IntKind.u64.wrap ((r : Nat) : Int) = ((r : Nat) : Int) := by rw [IntKind.wrap_u64]; omega
  have h8 : ¬ ((n : Nat) : Int) ≤ 0 := by omega
  have h9 : n ≠ 0 := by omega
  have hn' := hid hn
  clear hl hn hn2 h4 h5 hq hr
  have H0 := hid h0
  have H2 := hid (And.intro h2 h2')
  have H3 := hid (And.intro h3 h3')
  have H6 := hid h6
  have H7 := hid h7
  clear h2 h2' h3 h3' h6 h7
  obtain ⟨W, hW, S⟩ : ∃ W, W = w ∧ Sto w W [] := ⟨_, rfl, (Sto.start w)⟩
  go_enter Tryz.func196, Tryz.ntmps196
  go_upto_region 1 with (fail)
  rw [← hW]
  clear hW
  go_upto_region 5 with (fail)
  refine rgs 2 [some 26, some 27] [IsV (.int .u64 0), IsV (.bool true)] [] ?_ ?_
  · refine Rc (mv (Od.lit 0)) ?_
    refine Rc (bn (r := .bool true) (Od.loc 0 26) Od.con (hr := fun w => by go_simp)) ?_
    exact RgAll.nil
  intro v W1 e1 hΦ _
  replace S := S.mono e1
  have v1 : v 1 = .bool true := hΦ 1 (by decide)
  simp only [layL, Act.put, uAx, u0x, u1x, Nat.reduceAdd]
  rw [v1]
  clear v1 hΦ e1
  refine wpList_nil ?_
  go_upto_region 6 with (fail)
  refine rg 8 [some 28, some 29, some 30, some 31, some 32, some 33, some 6, some 7] [IsV (.int .u64 ((lo : Nat) : Int)), IsV (.int .u64 ((n : Nat) : Int)), IsV (.int .u64 ((q : Nat) : Int)), IsV (.int .u64 ((lo : Nat) : Int)), IsV (.int .u64 ((n : Nat) : Int)), IsV (.int .u64 ((r : Nat) : Int)), IsV (.int .u64 ((q : Nat) : Int)), IsV (.int .u64 ((r : Nat) : Int))] [] 0 ?_ ?_
  · refine Rc (mv (Od.lit 1)) ?_
    refine Rc (mv (Od.lit 2)) ?_
    refine Rc (bn (r := .int .u64 ((q : Nat) : Int)) (Od.loc 0 28) (Od.loc 1 29) (hr := fun w => by have hx9 := H0.out; obtain ⟨hx8, hx6⟩ := H2.out; have hx7 := H6.out; go_simp)) ?_
    refine Rc (mv (Od.lit 1)) ?_
    refine Rc (mv (Od.lit 2)) ?_
    refine Rc (bn (r := .int .u64 ((r : Nat) : Int)) (Od.loc 3 31) (Od.loc 4 32) (hr := fun w => by have hx9 := H0.out; obtain ⟨hx8, hx6⟩ := H3.out; have hx7 := H7.out; go_simp)) ?_
    refine Rc (mv (Od.lc 2 30)) ?_
    refine Rc (mv (Od.lc 5 33)) ?_
    exact RgAll.nil
  intro v W2 e1 hΦ _
  replace S := S.mono e1
  have v6 : v 6 = .int .u64 ((q : Nat) : Int) := hΦ 6 (by decide)
  have v7 : v 7 = .int .u64 ((r : Nat) : Int) := hΦ 7 (by decide)
  simp only [layL, Act.put, uAx, u0x, u1x, Nat.reduceAdd]
  rw [v6, v7]
  clear v6 v7 hΦ e1
  refine wpAny_done (by kernel_rfl) ?_ _
  go_wp2_with fail
  exact bodyPost_ret (v := .tuple #[.int .u64 ((q : Nat) : Int), .int .u64 ((r : Nat) : Int)]) (by simp [results, Tryz.results196, go_sem]) rfl (⟨_, rfl, S.ext, _, _, rfl, rfl, rfl⟩)
/-- The loop of the power: x a^e is kept. -/
theorem pw_step (n R a x e : Nat) (h : x * a ^ e % n = R) (h1 : e % 2 = 1) : (x * a % n) * (a * a % n) ^ (e / 2) % n = R := by
  have he : e = 2 * (e / 2) + 1 := by omega
  conv at h => lhs; lhs; rw [he, Nat.pow_succ, Nat.pow_mul, Nat.pow_two]
  rw [← h, Nat.mul_mod, Nat.mod_mod, Nat.pow_mod, Nat.mod_mod, ← Nat.pow_mod, ← Nat.mul_mod, Nat.mul_comm ((a * a) ^ (e / 2)) a, Nat.mul_assoc]
theorem pw_skip (n R a x e : Nat) (h : x * a ^ e % n = R) (h1 : e % 2 = 0) : x * (a * a % n) ^ (e / 2) % n = R := by
  have he : e = 2 * (e / 2) := by omega
  conv at h => lhs; lhs; rw [he, Nat.pow_mul, Nat.pow_two]
  rw [← h, Nat.mul_mod, Nat.pow_mod, Nat.mod_mod, ← Nat.pow_mod, ← Nat.mul_mod]
end Go.Proofs.YtknffgdbdadpcaaGreatDoor
namespace Go.Proofs.YtknffgdbdadpcaaGreatDoor
open Go Go.RowKit
set_option maxRecDepth 1000000
theorem chR_a : chR 43 57 = true := by decide +kernel
theorem chR_b : chR 100 200 = true := by decide +kernel
theorem chR_c : chR 300 724 = true := by decide +kernel
theorem chQ_all : ∀ p, 43 ≤ p → p < 1024 → chQ p = true := by
  intro p h1 h2
  rcases Nat.lt_or_ge p 100 with h | h
  · exact chR_spec _ chR_a p h1 (by omega)
  rcases Nat.lt_or_ge p 300 with h' | h'
  · exact chR_spec _ chR_b p h (by omega)
  · exact chR_spec _ chR_c p h' (by omega)
end Go.Proofs.YtknffgdbdadpcaaGreatDoor
namespace Go.Proofs.YtknffgdbdadpcaaGreatDoor
open Go Go.RowKit
set_option maxRecDepth 100000 in
theorem mulp_g (w : World) (n a b : Nat) (hn : 0 < n ∧ n < 9223372036854775808) (ha : a < 2 ^ Lib.bitLen n) (hb : b < 2 ^ Lib.bitLen n) :
    Calls Tryz.prog 173 #[.int .u64 ((a : Nat) : Int), .int .u64 ((b : Nat) : Int), .int .u64 ((n : Nat) : Int)] w (Ret w (fun v _ => ∃ r : Nat, v = .int .u64 ((r : Nat) : Int) ∧ r < 2 ^ Lib.bitLen n ∧ (n < 4294967296 → a < n → b < n → r = a * b % n))) := by
  obtain ⟨hb1, hb2, hb3⟩ := Lib.bitLenAux_bounds 64 n (by omega) (by omega)
  have e64 : Lib.bitLenAux 64 n = Lib.bitLen n := rfl
  rw [e64] at hb1 hb2 hb3
  clear e64
  have ht : Lib.bitLen n ≤ 63 := by
    rcases Nat.lt_or_ge 63 (Lib.bitLen n) with h | h
    · have h1 := Nat.pow_le_pow_right (n := 2) (by decide) (show 63 ≤ Lib.bitLen n - 1 by omega)
      have : (2 : Nat) ^ 63 = 9223372036854775808 := by decide
      omega
    · exact h
  have hT : 2 ^ Lib.bitLen n ≤ 9223372036854775808 := Nat.pow_le_pow_right (n := 2) (by decide) ht
  have hm := Tryz.bits_Mul64 a b (by omega) (by omega)
  have hlo : a * b % 18446744073709551616 < 18446744073709551616 := Nat.mod_lt _ (by decide)
  have hdm := Nat.div_add_mod (a * b) 18446744073709551616
  rcases Nat.eq_zero_or_pos (a * b / 18446744073709551616) with h0 | h0
  · rw [h0, Nat.mul_zero, Nat.zero_add] at hdm
    rw [h0, hdm] at hm
    rw [hdm] at hlo
    have hd := fun w => Div64_f w (a * b) n hlo hn.1 (by omega)
    have hr := Nat.mod_lt (a * b) hn.1
    have HF := hid (show a * b % n < 2 ^ Lib.bitLen n by omega)
    clear hdm hlo h0 hT ht hb1 hb2 hb3 ha hb hn hr
    generalize a * b = c at *
    generalize c / n = q at *
    generalize c % n = r at *
    go_enter Tryz.func173, Tryz.ntmps173
    go_wp2_with (first | (go_at_call 179; go_must (refine Calls.mono (hm _) ?_; rintro e w1 ⟨rfl, rfl⟩; clear hm)) | (go_at_call 196; go_must (refine Calls.mono (hd _) ?_; rintro e w2 ⟨_, rfl, E2, _, _, rfl, rfl, rfl⟩; clear hd)))
    exact bodyPost_ret (v := .int .u64 ((r : Nat) : Int)) (by simp [results, Tryz.results173, go_sem]) rfl ⟨_, rfl, E2, r, rfl, HF.out, fun _ _ _ => rfl⟩
  · have hhi : a * b / 18446744073709551616 < n := by
      have h1 : a * b < 2 ^ Lib.bitLen n * 2 ^ Lib.bitLen n := Nat.mul_lt_mul'' ha hb
      have h2 : 2 ^ Lib.bitLen n * 2 ^ Lib.bitLen n ≤ 2 ^ (Lib.bitLen n - 1) * 18446744073709551616 := by
        rw [show (18446744073709551616 : Nat) = 2 ^ 64 from rfl, ← Nat.pow_add, ← Nat.pow_add]
        exact Nat.pow_le_pow_right (by decide) (by omega)
      have h3 : a * b < n * 18446744073709551616 := Nat.lt_of_lt_of_le h1 (Nat.le_trans h2 (Nat.mul_le_mul_right _ hb2))
      exact (Nat.div_lt_iff_lt_mul (by decide)).2 h3
    have HF := hid (show ∀ r, n < 4294967296 → a < n → b < n → r = a * b % n from fun r h1 h2 h3 => by
      have h4 : a * b < 4294967296 * 4294967296 := Nat.mul_lt_mul'' (by omega) (by omega)
      rw [Nat.div_eq_of_lt (by omega)] at h0
      omega)
    have hd := fun w => Div64_h w _ _ n h0 hhi hlo hn.2
    clear hdm hlo h0 hT ht hb1 hb2 hb3 ha hb hn hhi
    generalize a * b / 18446744073709551616 = hi at *
    generalize a * b % 18446744073709551616 = lo at *
    go_enter Tryz.func173, Tryz.ntmps173
    go_wp2_with (first | (go_at_call 179; go_must (refine Calls.mono (hm _) ?_; rintro e w1 ⟨rfl, rfl⟩; clear hm)) | (go_at_call 196; go_must (refine Calls.mono (hd _) ?_; rintro e w2 ⟨_, rfl, E2, q, r, rfl, hr⟩; clear hd)))
    exact bodyPost_ret (v := .int .u64 ((r : Nat) : Int)) (by simp [results, Tryz.results173, go_sem]) rfl ⟨_, rfl, E2, r, rfl, hr, HF.out r⟩
set_option maxRecDepth 100000 in
set_option maxHeartbeats 4000000 in
theorem strong_g (w : World) (hT : Tzt w) (n b s d T : Nat) (hn : 43 ≤ n ∧ n < 9223372036854775808) (hb : 0 < b ∧ b < 43) (hd : n - 1 = 2 ^ s * d) (hdo : d % 2 = 1) (hTn : n < T)
    (hmul : ∀ w a b, a < T → b < T → Calls Tryz.prog 173 #[.int .u64 ((a : Nat) : Int), .int .u64 ((b : Nat) : Int), .int .u64 ((n : Nat) : Int)] w (Ret w (fun v _ => ∃ r : Nat, v = .int .u64 ((r : Nat) : Int) ∧ r < T ∧ (n < 4294967296 → a < n → b < n → r = a * b % n)))) :
    Calls Tryz.prog 134 #[.int .u64 ((n : Nat) : Int), .int .u64 ((b : Nat) : Int)] w (Ret w (fun v _ => ∃ B : Bool, v = .bool B ∧ (n < 4294967296 → B = stg n s d b))) := by
  have hx1 : ((b : Nat) : Int).tmod ((n : Nat) : Int) = ((b : Nat) : Int) := by rw [Int.tmod_eq_emod_of_nonneg (by omega)]; exact Int.emod_eq_of_lt (by omega) (by omega)
  have hx2 : ((b : Nat) : Int) % ((n : Nat) : Int) = ((b : Nat) : Int) := Int.emod_eq_of_lt (by omega) (by omega)
  have hx0 : ¬ n = 0 := by omega
  have hx3 : IntKind.u64.wrap ((b : Nat) : Int) = ((b : Nat) : Int) := by rw [IntKind.wrap_u64]; omega
  have hx4 : (((b : Nat) : Int) == 0) = false := by rw [beq_eq_false_iff_ne]; omega
  have hx5 : (((n : Nat) : Int) == 0) = false := by rw [beq_eq_false_iff_ne]; omega
  have hx6 : IntKind.u64.wrap (((n : Nat) : Int) - 1) = ((n - 1 : Nat) : Int) := by rw [IntKind.wrap_u64]; omega
  have htz := tz_g w hT s d (n - 1) hd hdo (by omega)
  have hp : 0 < 2 ^ s := Nat.pow_pos (by decide)
  have hs64 : s < 64 := by
    rcases Nat.lt_or_ge s 64 with h1 | h1
    · exact h1
    · have h2 := Nat.pow_le_pow_right (n := 2) (by decide) h1
      have h3 := Nat.le_mul_of_pos_right (2 ^ s) (show 0 < d by omega)
      omega
  have hdiv : (n - 1) / 2 ^ s = d := by rw [hd, Nat.mul_div_cancel_left _ hp]
  obtain ⟨m, hm⟩ : ∃ m, n - 1 = m := ⟨_, rfl⟩
  rw [hm] at hx6 htz hdiv
  have hdv : ((m : Nat) : Int) / 2 ^ s = ((d : Nat) : Int) := by rw [← hdiv]; simp
  have hsn : ((s : Nat) : Int).toNat = s := by simp
  have hs0 : 0 ≤ ((s : Nat) : Int) := by omega
  have hs1 : ((s : Nat) : Int) < 64 := by omega
  have hdm : d ≤ m := by rw [← hdiv]; exact Nat.div_le_self _ _
  have HM := hid (show m + 1 = n ∧ n < 9223372036854775808 ∧ 42 ≤ m ∧ d ≤ m ∧ s < 64 by omega)
  obtain ⟨R, hR⟩ : ∃ R, b ^ d % n = R := ⟨_, rfl⟩
  have HB := hid (And.intro hb (And.intro hR (show stg n s d b = (decide (R = 1) || sqs n s R) by rw [← hR]; rfl)))
  have HTN := hid hTn
  have HMUL := hid hmul
  clear hn hm hb hR hd hdo hp hs64 hdiv hdm hmul hTn hT
  go_enter Tryz.func134, Tryz.ntmps134
  go_upto_region 7 with (go_at_call 172; go_must (refine Calls.mono htz ?_; rintro e w1 ⟨_, rfl, E1, rfl⟩; clear htz))
  clear hx1 hx2 hx3 hx4 hx5 hx0 hx6 hdv hsn hs0 hs1
  have hn0 : ¬ n = 0 := by have := HM.out; omega
  go_loopg [1, 6, 7] d (fun gk v1 v6 v7 wr => ∃ (a x e : Nat) (ze : Int), v1 = .int .u64 ((a : Nat) : Int) ∧ v6 = .int .u64 ((x : Nat) : Int) ∧ v7 = .int .u64 ze ∧ ze = ((e : Nat) : Int) ∧ a < T ∧ x < T ∧ e = gk ∧ e < 9223372036854775808 ∧ (n < 4294967296 → a < n ∧ x < n ∧ x * a ^ e % n = R) ∧ Ext w wr)
  case atStart =>
    have h1 := HB.out
    have h2 := HM.out
    have h3 := HTN.out
    exact ⟨b, 1, d, _, rfl, rfl, rfl, by omega, by omega, by omega, rfl, by omega, fun _ => ⟨by omega, by omega, by rw [Nat.one_mul]; exact h1.2.1⟩, E1⟩
  case round =>
    obtain ⟨a, x, e, ze, rfl, rfl, rfl, hze, ha, hx, he, he6, hp, EW⟩ := hrel
    rcases Nat.eq_zero_or_pos e with h0 | h0
    · obtain rfl : ze = 0 := by omega
      have hxR : n < 4294967296 → x < n ∧ x = R := fun h => ⟨(hp h).2.1, by have h1 := (hp h).2.2; rw [h0, Nat.pow_zero, Nat.mul_one, Nat.mod_eq_of_lt (hp h).2.1] at h1; exact h1⟩
      have HX := hid (And.intro hx hxR)
      clear hze ha hx he he6 hp h0 hxR
      by_cases hone : x = 1
      · subst hone
        go_wp2_with fail
        exact bodyPost_ret (v := .bool true) (by simp [results, Tryz.results134, go_sem]) rfl ⟨_, rfl, EW, _, rfl, fun h => by
          have h1 := (HX.out.2 h).2
          rw [HB.out.2.2, ← h1]; simp⟩
      · have hx1 : (((x : Nat) : Int) == 1) = false := by rw [beq_eq_false_iff_ne]; omega
        go_upto_region 15 with (fail)
        have hm1 : IntKind.u64.wrap (((n : Nat) : Int) - 1) = ((m : Nat) : Int) := by have := HM.out; rw [IntKind.wrap_u64]; omega
        have HSG := hid (show n < 4294967296 → x < n ∧ stg n s d b = sqs n s x from fun h => ⟨(HX.out.2 h).1, by have h1 := (HX.out.2 h).2; rw [HB.out.2.2, ← h1, decide_eq_false hone]; rfl⟩)
        obtain ⟨wz, hwz⟩ : ∃ wz, wr = wz := ⟨_, rfl⟩
        rw [hwz]
        have HWZ := hid (hwz ▸ EW)
        have HXT := hid (HX.out.1)
        clear hwz HX EW hone hx1
        obtain ⟨x0, hx0⟩ : ∃ x0, x0 = x := ⟨_, rfl⟩
        go_loopg [6, 38] s (fun gk2 v6 v38 wr' => ∃ (y i : Nat), v6 = .int .u64 ((y : Nat) : Int) ∧ v38 = .int .i64 ((i : Nat) : Int) ∧ i + gk2 = s ∧ y < T ∧ Hid ((n < 4294967296 → y < n ∧ stg n s d b = sqs n gk2 y) ∧ Ext w wr'))
        case atStart => exact ⟨x, 0, rfl, rfl, by omega, HXT.out, hid ⟨HSG.out, HWZ.out⟩⟩
        case round =>
          clear hx0
          obtain ⟨y, i, rfl, rfl, hi, hyT, HQ⟩ := hrel
          rcases Nat.eq_zero_or_pos gk with hg0 | hg0
          · have hlt : decide (((i : Nat) : Int) < ((s : Nat) : Int)) = false := by rw [decide_eq_false_iff_not]; omega
            have hlt2 : s ≤ i := by omega
            have HG0 := hid hg0
            clear hi hyT hg0
            go_wp2_with fail
            exact bodyPost_ret (v := .bool false) (by simp [results, Tryz.results134, go_sem]) rfl ⟨_, rfl, HQ.out.2, _, rfl, fun h => by
              have h1 := (HQ.out.1 h).2
              rw [h1, HG0.out]; rfl⟩
          · obtain ⟨g3, rfl⟩ : ∃ g3, gk = g3 + 1 := ⟨gk - 1, by omega⟩
            have hlt : decide (((i : Nat) : Int) < ((s : Nat) : Int)) = true := by rw [decide_eq_true_eq]; omega
            have hlt2 : i < s := by omega
            have hi1 : IntKind.i64.wrap (((i : Nat) : Int) + 1) = ((i : Nat) : Int) + 1 := by have := HM.out; simp only [IntKind.wrap_i64]; omega
            by_cases hym : y = m
            · subst hym
              clear hi hyT hg0
              go_wp2_with fail
              exact bodyPost_ret (v := .bool true) (by simp [results, Tryz.results134, go_sem]) rfl ⟨_, rfl, HQ.out.2, _, rfl, fun h => by
                have h1 := (HQ.out.1 h).2
                have h2 := HM.out
                rw [h1, sqs, if_pos (by omega)]⟩
            · have hyb : (((y : Nat) : Int) == ((m : Nat) : Int)) = false := by rw [beq_eq_false_iff_ne]; omega
              have hmu := fun w => HMUL.out w y y hyT hyT
              have HYM := hid hym
              have HI := hid hi
              clear hyT hym hi hg0
              go_wp2_with (go_at_call 173; go_must (refine Calls.mono (hmu _) ?_; rintro e w2 ⟨_, rfl, E2, yy, rfl, hyy, hyq⟩; clear hmu))
              go_roundg g3
              case measure => omega
              case rel =>
                refine ⟨yy, i + 1, rfl, by rw [Int.natCast_add]; rfl, by have := HI.out; omega, hyy, hid ⟨fun h => ?_, HQ.out.2.trans E2⟩⟩
                have h1 := HQ.out.1 h
                have h2 := HM.out
                have h3 := hyq h h1.1 h1.1
                refine ⟨by rw [h3]; exact Nat.mod_lt _ (by omega), ?_⟩
                rw [h1.2, sqs, if_neg (by have := HYM.out; omega), h3]
    · have hz0 : (0 : Int) < ze := by omega
      rcases Nat.mod_two_eq_zero_or_one e with h2 | h2
      · have hb1 : bits .and .u64 ze 1 = 0 := by rw [hze, and1N e (by omega), h2]; rfl
        have H := hid (And.intro hze (And.intro he (And.intro he6 (And.intro hp (And.intro h2 (And.intro ha (And.intro hx h0)))))))
        have hm1 := fun w => HMUL.out w a a ha ha
        have hw2 : ze / 2 = ((e / 2 : Nat) : Int) := by omega
        clear hze he he6 hp h2 ha hx h0
        go_wp2_with (go_at_call 173; go_must (refine Calls.mono (hm1 _) ?_; rintro e w1 ⟨_, rfl, E2, aa, rfl, haa, haq⟩; clear hm1))
        go_roundg (gk / 2)
        case measure => obtain ⟨q1, q2, q3, q4, q5, q6, q7, q8⟩ := H.out; omega
        case rel =>
          obtain ⟨q1, q2, q3, q4, q5, q6, q7, q8⟩ := H.out
          refine ⟨aa, x, e / 2, _, rfl, rfl, rfl, by omega, haa, q7, by omega, by omega, fun h => ?_, EW.trans E2⟩
          obtain ⟨j1, j2, j3⟩ := q4 h
          have j4 := haq h j1 j1
          exact ⟨by rw [j4]; exact Nat.mod_lt _ (by omega), j2, by rw [j4]; exact pw_skip n R a x e j3 q5⟩
      · have hb1 : bits .and .u64 ze 1 = 1 := by rw [hze, and1N e (by omega), h2]; rfl
        have H := hid (And.intro hze (And.intro he (And.intro he6 (And.intro hp (And.intro h2 (And.intro ha (And.intro hx h0)))))))
        have hm1 := fun w => HMUL.out w a a ha ha
        have hm2 := fun w => HMUL.out w x a hx ha
        clear hze he he6 hp h2 ha hx h0
        go_wp2_with (go_at_call 173; go_must (first | (refine Calls.mono (hm2 _) ?_; rintro e w1 ⟨_, rfl, E2, xx, rfl, hxx, hxq⟩; clear hm2) | (refine Calls.mono (hm1 _) ?_; rintro e w2 ⟨_, rfl, E3, aa, rfl, haa, haq⟩; clear hm1)))
        go_roundg (gk / 2)
        case measure => obtain ⟨q1, q2, q3, q4, q5, q6, q7, q8⟩ := H.out; omega
        case rel =>
          obtain ⟨q1, q2, q3, q4, q5, q6, q7, q8⟩ := H.out
          refine ⟨aa, xx, e / 2, _, rfl, rfl, rfl, by omega, haa, hxx, by omega, by omega, fun h => ?_, (EW.trans E2).trans E3⟩
          obtain ⟨j1, j2, j3⟩ := q4 h
          have j4 := haq h j1 j1
          have j5 := hxq h j2 j1
          exact ⟨by rw [j4]; exact Nat.mod_lt _ (by omega), by rw [j5]; exact Nat.mod_lt _ (by omega), by rw [j4, j5]; exact pw_step n R a x e j3 q5⟩
set_option maxRecDepth 100000 in
theorem isPrime1_g (w : World) (pa : Addr) (n b : Nat) (Q : Bool → Prop) (hc : World.cell? w pa = some (.int .u64 ((n : Nat) : Int))) (hs : ∀ w, Tzt w → Calls Tryz.prog 134 #[.int .u64 ((n : Nat) : Int), .int .u64 ((b : Nat) : Int)] w (Ret w (fun v _ => ∃ B : Bool, v = .bool B ∧ Q B))) (hT : Tzt w) :
    Calls Tryz.prog 133 #[.int .u64 ((b : Nat) : Int), .pointer (some pa)] w (Ret w (fun v _ => ∃ B : Bool, v = .bool (!B) ∧ Q B)) := by
  have hs := hs w hT
  clear hT
  go_enter Tryz.func133, Tryz.ntmps133
  go_wp2_with (go_at_call 134; go_must (refine Calls.mono hs ?_; rintro e w1 ⟨_, rfl, E1, B, rfl, hB⟩; clear hs))
  exact bodyPost_ret (v := .bool (!B)) (by simp [results, Tryz.results133, go_sem]) rfl ⟨_, rfl, E1, B, rfl, hB⟩
set_option maxRecDepth 100000 in
theorem ixf_g (w : World) (pa : Addr) (g : Nat) (Q : Nat → Bool → Prop) (hc : ∀ j, j < 13 → World.cell? w ⟨g, j, none⟩ = some (.int .u64 ((prBases.getD j 1 : Nat) : Int)))
    (hF : ∀ j, j < 13 → ∀ w', Ext w w' → Calls Tryz.prog 133 #[.int .u64 ((prBases.getD j 1 : Nat) : Int), .pointer (some pa)] w' (Ret w' (fun v _ => ∃ B : Bool, v = .bool (!B) ∧ Q j B))) :
    Calls Tryz.prog 171 #[.slice (some ⟨g, 0, none⟩) 13 13, .func (.func 133) #[] #[.pointer (some pa)]] w (Ret w (fun v _ => ∃ i : Int, v = .int .i64 i ∧ ((i = -1 ∧ ∀ j, j < 13 → Q j true) ∨ (0 ≤ i ∧ ∃ j, j < 13 ∧ Q j false)))) := by
  go_enter Tryz.func171, Tryz.ntmps171
  go_wp2_with fail
  go_loopg [5, 8] 13 (fun gk _ v8 wr => ∃ (j : Nat) (z : Int), v8 = .int .i64 z ∧ z = ((j : Nat) : Int) ∧ j + gk = 13 ∧ Hid (∀ j', j' < j → Q j' true) ∧ Ext w wr)
  case atStart => exact ⟨0, 0, rfl, rfl, rfl, hid (fun j h => absurd h (Nat.not_lt_zero _)), Ext.refl _⟩
  case round =>
    obtain ⟨j, z, rfl, hz, hg, HQ, EW⟩ := hrel
    rcases Nat.lt_or_ge j 13 with hj | hj
    · have hz1 : z < 13 := by omega
      have hz2 : 0 ≤ z := by omega
      have hcell := EW.cell (hc j hj)
      have hcall := hF j hj wr EW
      obtain ⟨b, hb⟩ : ∃ b : Nat, prBases.getD j 1 = b := ⟨_, rfl⟩
      rw [hb] at hcell hcall
      obtain ⟨jj, rfl⟩ : ∃ jj : Nat, jj = j := ⟨_, rfl⟩
      have H := hid (And.intro hg hj)
      subst hz
      clear hg hj hb hc hF
      go_wp2_with (go_at_call 133; go_must (refine Calls.mono hcall ?_; rintro e w1 ⟨_, rfl, E1, B, rfl, hB⟩; clear hcall; cases B))
      all_goals first
      | (exact bodyPost_ret (v := .int .i64 ((jj : Nat) : Int)) (by simp [results, Tryz.results171, go_sem]) rfl ⟨_, rfl, EW.trans E1, _, rfl, Or.inr ⟨by omega, jj, H.out.2, hB⟩⟩)
      | skip
      go_roundg (gk - 1)
      case measure => have := H.out; omega
      case rel =>
        have := H.out
        exact ⟨jj + 1, _, rfl, by omega, by omega, hid (fun j' hj' => by
          rcases Nat.lt_or_ge j' jj with h | h
          · exact HQ.out j' h
          · obtain rfl : j' = jj := by omega
            exact hB), EW.trans E1⟩
    · obtain rfl : z = 13 := by omega
      have HQ13 := hid (show ∀ j, j < 13 → Q j true from fun j' h' => HQ.out j' (by omega))
      clear hz hg hj
      go_wp2_with fail
      exact bodyPost_ret (v := .int .i64 (-1)) (by simp [results, Tryz.results171, go_sem]) rfl ⟨_, rfl, EW, _, rfl, Or.inl ⟨rfl, HQ13.out⟩⟩
set_option maxRecDepth 100000 in
theorem cof_g (w : World) (pa : Addr) (g : Nat) (Q : Nat → Bool → Prop) (hc : ∀ j, j < 13 → World.cell? w ⟨g, j, none⟩ = some (.int .u64 ((prBases.getD j 1 : Nat) : Int)))
    (hF : ∀ j, j < 13 → ∀ w', Ext w w' → Calls Tryz.prog 133 #[.int .u64 ((prBases.getD j 1 : Nat) : Int), .pointer (some pa)] w' (Ret w' (fun v _ => ∃ B : Bool, v = .bool (!B) ∧ Q j B))) :
    Calls Tryz.prog 132 #[.slice (some ⟨g, 0, none⟩) 13 13, .func (.func 133) #[] #[.pointer (some pa)]] w (Ret w (fun v _ => ∃ C : Bool, v = .bool (!C) ∧ (C = true → ∀ j, j < 13 → Q j true) ∧ (C = false → ∃ j, j < 13 ∧ Q j false))) := by
  have hx := ixf_g w pa g Q hc hF
  clear hc hF
  go_enter Tryz.func132, Tryz.ntmps132
  go_wp2_with (go_at_call 171; go_must (refine Calls.mono hx ?_; rintro e w1 ⟨_, rfl, E1, i, rfl, hi⟩; clear hx))
  refine bodyPost_ret (v := .bool (decide (0 ≤ i))) (by simp [results, Tryz.results132, go_sem]) rfl ⟨_, rfl, E1, !(decide (0 ≤ i)), by simp, ?_, ?_⟩
  · intro h
    rcases hi with ⟨_, h2⟩ | ⟨h1, _⟩
    · exact h2
    · simp [h1] at h
  · intro h
    rcases hi with ⟨h1, _⟩ | ⟨_, h2⟩
    · subst h1; simp at h
    · exact h2
set_option maxRecDepth 100000 in
theorem pri_ixg (w : World) (i : Nat) (hi : i < 13) : (Instr.index 168 (.agg #[.int .u64 2, .int .u64 3, .int .u64 5, .int .u64 7, .int .u64 11, .int .u64 13, .int .u64 17, .int .u64 19, .int .u64 23, .int .u64 29, .int .u64 31, .int .u64 37, .int .u64 41]) (.int .i64 ((i : Nat) : Int))).run Tryz.prog w = .ok (.int .u64 ((prBases.getD i 1 : Nat) : Int)) w := by
  rcases (show i = 0 ∨ i = 1 ∨ i = 2 ∨ i = 3 ∨ i = 4 ∨ i = 5 ∨ i = 6 ∨ i = 7 ∨ i = 8 ∨ i = 9 ∨ i = 10 ∨ i = 11 ∨ i = 12 by omega) with rfl | rfl | rfl | rfl | rfl | rfl | rfl | rfl | rfl | rfl | rfl | rfl | rfl
  all_goals first
  | rfl
  | (simp [Instr.index, go_sem, prBases]; done)
/-- A boolean with a fact. -/
def IsBq (Q : Bool → Prop) : Value → World → Prop := fun v _ => ∃ B : Bool, v = .bool B ∧ Q B
/-- What isPrime is to say below 2^20. -/
def PrS (N : Nat) (v : Bool) : Prop := N < 1048576 → (v = true ↔ Pr N)
set_option maxRecDepth 100000 in
set_option maxHeartbeats 8000000 in
theorem isPrime_g (w : World) (N i0 : Nat) (hN : N < 9223372036854775808) (hi0 : i0 ≤ 13) (hd : i0 < 13 → N % prBases.getD i0 1 = 0) (hlt : ∀ j, j < i0 → N % prBases.getD j 1 ≠ 0) (hT : Tzt w) :
    Calls Tryz.prog 86 #[.int .u64 ((N : Nat) : Int)] w (Ret w (IsBq (PrS N))) := by
  obtain ⟨W, hW, E, C1⟩ : ∃ W, W = w.alloc (.cells #[.int .u64 ((N : Nat) : Int)] 99) ∧ Ext w W ∧ World.cell? W ⟨w.heap.size, 0, none⟩ = some (.int .u64 ((N : Nat) : Int)) :=
    ⟨_, rfl, (Ext.refl _).alloc _, by simp⟩
  have HN := hid hN
  have HD := hid hd
  have HLT := hid hlt
  have HT := hid (hT.ext E)
  have HI := hid hi0
  clear hN hd hlt hT hi0
  go_enter Tryz.func86, Tryz.ntmps86
  go_upto_region 1 with (fail)
  rw [← hW]
  clear hW
  go_upto_region 2 with (fail)
  obtain ⟨W2, hW2⟩ : ∃ W2, W.alloc (.cells #[.int .u64 2, .int .u64 3, .int .u64 5, .int .u64 7, .int .u64 11, .int .u64 13, .int .u64 17, .int .u64 19, .int .u64 23, .int .u64 29, .int .u64 31, .int .u64 37, .int .u64 41] 168) = W2 := ⟨_, rfl⟩
  have E2 : Ext W W2 := by rw [← hW2]; exact (Ext.refl _).alloc _
  have C2 : World.cell? W2 ⟨w.heap.size, 0, none⟩ = some (.int .u64 ((N : Nat) : Int)) := E2.cell C1
  have hld : ∀ (j : Nat) (v : Value), (#[.int .u64 2, .int .u64 3, .int .u64 5, .int .u64 7, .int .u64 11, .int .u64 13, .int .u64 17, .int .u64 19, .int .u64 23, .int .u64 29, .int .u64 31, .int .u64 37, .int .u64 41] : Array Value)[j]? = some v → World.cell? W2 ⟨W.heap.size, j, none⟩ = some v := by
    intro j v hj
    rw [← hW2]
    exact cell_newAt _ _ rfl _ _ _ _ hj
  have M0 := hld 0 _ rfl
  have M1 := hld 1 _ rfl
  have M2 := hld 2 _ rfl
  have M3 := hld 3 _ rfl
  have M4 := hld 4 _ rfl
  have M5 := hld 5 _ rfl
  have M6 := hld 6 _ rfl
  have M7 := hld 7 _ rfl
  have M8 := hld 8 _ rfl
  have M9 := hld 9 _ rfl
  have M10 := hld 10 _ rfl
  have M11 := hld 11 _ rfl
  have M12 := hld 12 _ rfl
  rw [hW2]
  clear hW2
  have HLD := hid hld
  clear hld
  go_wp2_with fail
  clear M0 M1 M2 M3 M4 M5 M6 M7 M8 M9 M10 M11 M12
  go_loopg [8] i0 (fun gk v8 wr => ∃ (i : Nat) (z : Int), v8 = .int .i64 z ∧ z = ((i : Nat) : Int) ∧ i + gk = i0 ∧ wr = W2)
  case atStart => exact ⟨0, 0, rfl, rfl, by omega, rfl⟩
  case round =>
    obtain ⟨i, z, rfl, hz, hg, rfl⟩ := hrel
    have hii := HI.out
    rcases Nat.lt_or_ge i 13 with hi | hi
    · subst hz
      have hix := pri_ixg wr i hi
      have hb2 := prB i hi
      obtain ⟨b, hb⟩ : ∃ b : Nat, prBases.getD i 1 = b := ⟨_, rfl⟩
      rw [hb] at hix hb2
      obtain ⟨r, hr2⟩ : ∃ r, N % b = r := ⟨_, rfl⟩
      have hrb : r < b := by rw [← hr2]; exact Nat.mod_lt _ (by omega)
      have hx1 : ((N : Nat) : Int).tmod ((b : Nat) : Int) = ((r : Nat) : Int) := by rw [Int.tmod_eq_emod_of_nonneg (by omega), ← Int.natCast_emod, hr2]
      have hx2 : ((N : Nat) : Int) % ((b : Nat) : Int) = ((r : Nat) : Int) := by rw [← Int.natCast_emod, hr2]
      have hx4 : IntKind.u64.wrap ((r : Nat) : Int) = ((r : Nat) : Int) := by simp only [IntKind.wrap_u64]; omega
      have hx5 : (((b : Nat) : Int) == 0) = false := by rw [beq_eq_false_iff_ne]; omega
      have hx6 : ¬ b = 0 := by omega
      have hlt13 : decide (((i : Nat) : Int) < 13) = true := by rw [decide_eq_true_eq]; omega
      have hil : ((i : Nat) : Int) < 13 := by omega
      have hi1 : IntKind.i64.wrap (((i : Nat) : Int) + 1) = ((i : Nat) : Int) + 1 := by simp only [IntKind.wrap_i64]; omega
      have HB := hid (And.intro hb (And.intro hi (And.intro hg (And.intro hr2 (And.intro hb2 hrb)))))
      rcases Nat.eq_zero_or_pos r with h0 | h0
      · have HR0 := hid h0
        subst h0
        clear hb hi hg hr2 hb2 hrb hii
        go_wp2_with fail
        refine bodyPost_ret (v := .bool (((N : Nat) : Int) == ((b : Nat) : Int))) (by simp [results, Tryz.results86, go_sem]) rfl ⟨_, rfl, E.trans E2, _, rfl, fun _ => ?_⟩
        obtain ⟨g1, g2, g3, g4, g5, g6⟩ := HB.out
        have h7 := pr_small (n := N) g2 (by rw [g1]; exact g4)
        rw [g1] at h7
        rw [← h7, beq_iff_eq]
        omega
      · have hx3 : (((r : Nat) : Int) == 0) = false := by rw [beq_eq_false_iff_ne]; omega
        have hgk : 0 < gk := by
          rcases Nat.eq_zero_or_pos gk with h1 | h1
          · have h2 : i = i0 := by omega
            have h3 := HD.out (by omega)
            rw [← h2, hb, hr2] at h3
            omega
          · exact h1
        have HGK := hid hgk
        clear hb hi hg hr2 hb2 hrb hii h0 hgk
        go_wp2_with fail
        go_roundg (gk - 1)
        case measure => have := HGK.out; omega
        case rel => exact ⟨i + 1, _, rfl, by omega, by have := HB.out.2.2.1; have := HGK.out; omega, rfl⟩
    · obtain rfl : i = 13 := by omega
      obtain rfl : z = 13 := by omega
      have h13 : i0 = 13 := by omega
      subst h13
      clear hz hg hi hii
      have hall : ∀ j, j < 13 → N % prBases.getD j 1 ≠ 0 := HLT.out
      have hN0 : N ≠ 0 := fun h => hall 0 (by decide) (by rw [h]; exact Nat.zero_mod _)
      rcases Nat.lt_or_ge 1 N with h1 | h1
      · have h43 : 43 ≤ N := by
          rcases Nat.lt_or_ge N 43 with h | h
          · obtain ⟨j, hj, hm⟩ := prLow N h h1
            exact absurd hm (hall j hj)
          · exact h
        obtain ⟨s, d, hsd, hdo⟩ : ∃ s d, N - 1 = 2 ^ s * d ∧ d % 2 = 1 := by
          obtain ⟨m, e, hm, _⟩ := vl_spec (p := 2) (n := N - 1) (by decide) (by omega)
          exact ⟨_, _, e, by rcases Nat.mod_two_eq_zero_or_one m with h | h
                             · exact absurd (Nat.dvd_of_mod_eq_zero h) hm
                             · exact h⟩
        obtain ⟨hb1, hb2', hb3⟩ := Lib.bitLenAux_bounds 64 N (by have := HN.out; omega) (by omega)
        have hst : ∀ j, j < 13 → ∀ w, Tzt w → Calls Tryz.prog 134 #[.int .u64 ((N : Nat) : Int), .int .u64 ((prBases.getD j 1 : Nat) : Int)] w (Ret w (fun v _ => ∃ B : Bool, v = .bool B ∧ (N < 4294967296 → B = stg N s d (prBases.getD j 1)))) := fun j hj w hw => by
          have h5 := prB j hj
          exact strong_g w hw N _ s d (2 ^ Lib.bitLen N) ⟨h43, HN.out⟩ ⟨by omega, by omega⟩ hsd hdo hb3 (fun w a b ha hb => mulp_g w N a b ⟨by omega, HN.out⟩ ha hb)
        have hcon := cof_g wr ⟨w.heap.size, 0, none⟩ W.heap.size (fun j B => N < 4294967296 → B = stg N s d (prBases.getD j 1)) (fun j hj => HLD.out j _ ((show ∀ j, j < 13 → (#[.int .u64 2, .int .u64 3, .int .u64 5, .int .u64 7, .int .u64 11, .int .u64 13, .int .u64 17, .int .u64 19, .int .u64 23, .int .u64 29, .int .u64 31, .int .u64 37, .int .u64 41] : Array Value)[j]? = some (.int .u64 ((prBases.getD j 1 : Nat) : Int)) from fun j hj => by
            rcases (show j = 0 ∨ j = 1 ∨ j = 2 ∨ j = 3 ∨ j = 4 ∨ j = 5 ∨ j = 6 ∨ j = 7 ∨ j = 8 ∨ j = 9 ∨ j = 10 ∨ j = 11 ∨ j = 12 by omega) with rfl | rfl | rfl | rfl | rfl | rfl | rfl | rfl | rfl | rfl | rfl | rfl | rfl <;> rfl) j hj))
          (fun j hj w' E' => isPrime1_g w' _ N _ _ (E'.cell C2) (hst j hj) (HT.out.ext (E2.trans E')))
        have HL := hid (show N < 1048576 → ((∀ j, j < 13 → stg N s d (prBases.getD j 1) = true) ↔ Pr N) from fun h => pr_law chQ_all h43 h hall hsd hdo)
        have hN1 : (1 : Int) < ((N : Nat) : Int) := by omega
        clear hall hN0 h1 h43 hsd hdo hb1 hb2' hb3 hst
        go_wp2_with (go_at_call 132; go_must (refine Calls.mono hcon ?_; rintro e w1 ⟨_, rfl, E1, C, rfl, hC1, hC2⟩; clear hcon))
        refine bodyPost_ret (v := .bool C) (by simp [results, Tryz.results86, go_sem]) rfl ⟨_, rfl, (E.trans E2).trans E1, C, rfl, fun h => ?_⟩
        rw [← HL.out h]
        constructor
        · intro hC j hj
          exact (hC1 hC j hj (by omega)).symm
        · intro hA
          cases hC : C with
          | true => rfl
          | false =>
            obtain ⟨j, hj, hq⟩ := hC2 hC
            rw [hA j hj] at hq
            exact absurd (hq (by omega)) (by decide)
      · have hN1 : N = 1 := by omega
        subst hN1
        clear hall hN0 h1
        go_wp2_with fail
        exact bodyPost_ret (v := .bool false) (by simp [results, Tryz.results86, go_sem]) rfl ⟨_, rfl, E.trans E2, _, rfl, fun _ => ⟨fun h => (by cases h), fun h => absurd h.1 (by decide)⟩⟩
end Go.Proofs.YtknffgdbdadpcaaGreatDoor
