import Derived.Test.YtknlaadcbhhbfaaGreatDoorPri2
import Derived.Test.YtknlaadcbhhbfaaGreatDoorPw
import Derived.Test.YtknlaadcbhhbfaaGreatDoorPri
namespace Go.Proofs.YtknlaadcbhhbfaaGreatDoor
open Go Go.RowKit
def Tryz.lays264_ren : Go.Shelf.Ren := ⟨fun | 264 => 141 | n => n, fun | 53 => 67 | 46 => 70 | n => n, fun | n => n⟩
theorem Tryz.lays264 : Go.Proofs.Lays.n264 Tryz.prog Tryz.lays264_ren := {
 mixed := by kernel_rfl
 f264 := Tryz.func141.trans (congrArg some (by kernel_rfl))
 t46 := Tryz.underlying70
 a46 := Tryz.isAgg70
 z46 := Tryz.sizeOf70
 v46 := Tryz.zeroValue70
 t53 := Tryz.underlying67
 a53 := Tryz.isAgg67
 z53 := Tryz.sizeOf67
 v53 := Tryz.zeroValue67 }
open Go.RowKit Go.Lib in
theorem Tryz.bits_Mul64 (x y : Nat) (hx : x < 18446744073709551616) (hy : y < 18446744073709551616) (w : World) :
    Calls Tryz.prog 141 #[.int .u64 x, .int .u64 y] w fun e w' => e = .returned (.tuple #[.int .u64 ((x * y / 18446744073709551616 : Nat) : Int), .int .u64 ((x * y % 18446744073709551616 : Nat) : Int)]) ∧ w' = w := Any.bits_Mul64 Tryz.lays264 x y hx hy w
theorem and1N (a : Nat) (ha : a < 18446744073709551616) : bits .and .u64 (a : Int) 1 = ((a % 2 : Nat) : Int) := by
 have h := bits_and_u64_nat a 1 ha (by omega)
 have e : a &&& 1 = a % 2 := Nat.and_two_pow_sub_one_eq_mod a 1
 rw [e] at h
 exact h
set_option maxRecDepth 100000 in
theorem Div64_f (w : World) (lo n : Nat) (hl : lo < 18446744073709551616) (hn : 0 < n) (hn2 : n < 18446744073709551616) :
  Calls Tryz.prog 150 #[.int .u64 0, .int .u64 (lo : Int), .int .u64 (n : Int)] w (Ret w (IsT2 (IsV (.int .u64 ((lo / n : Nat) : Int))) (IsV (.int .u64 ((lo % n : Nat) : Int))))) := by
 have h0 : ((n : Int) == 0) = false := by rw [beq_eq_false_iff_ne]; omega
 have h1 : decide ((n : Int) ≤ 0) = false := by rw [decide_eq_false_iff_not]; omega
 have h2 : (lo : Int).tdiv (n : Int) = ((lo / n : Nat) : Int) := by rw [Int.tdiv_eq_ediv_of_nonneg (by omega)]; exact (Int.natCast_ediv lo n).symm
 have h3 : (lo : Int).tmod (n : Int) = ((lo % n : Nat) : Int) := by rw [Int.tmod_eq_emod_of_nonneg (by omega)]; exact (Int.natCast_emod lo n).symm
 have h2' : (lo : Int) / (n : Int) = ((lo / n : Nat) : Int) := (Int.natCast_ediv lo n).symm
 have h3' : (lo : Int) % (n : Int) = ((lo % n : Nat) : Int) := (Int.natCast_emod lo n).symm
 have h4 : lo / n < 18446744073709551616 := Nat.lt_of_le_of_lt (Nat.div_le_self _ _) hl
 have h5 : lo % n < 18446744073709551616 := Nat.lt_of_le_of_lt (Nat.mod_le _ _) hl
 generalize hq : lo / n = q at *
 generalize hr : lo % n = r at *
 have h6 : IntKind.u64.wrap (q : Int) = (q : Int) := by rw [IntKind.wrap_u64]; omega
 have h7 : IntKind.u64.wrap (r : Int) = (r : Int) := by rw [IntKind.wrap_u64]; omega
 have h8 : ¬ (n : Int) ≤ 0 := by omega
 have h9 : n ≠ 0 := by omega
 have hn' := hid hn
 clear hl hn hn2 h4 h5 hq hr
 have H0 := hid h0
 have H2 := hid (And.intro h2 h2')
 have H3 := hid (And.intro h3 h3')
 have H6 := hid h6
 have H7 := hid h7
 clear h2 h2' h3 h3' h6 h7
 obtain ⟨W, hW, S⟩ : ∃ W, W = w ∧ Sto w W [] := ⟨_, rfl, (Sto.start w)⟩
 go_enter Tryz.func150, Tryz.ntmps150
 go_upto_region 1 with (fail)
 rw [← hW]
 clear hW
 go_upto_region 5 with (fail)
 refine rgs 2 [some 26, some 27] [IsV (.int .u64 0), IsV (.bool true)] [] ?_ ?_
 ·refine Rc (mv (Od.lit 0)) ?_
  refine Rc (bn (r := .bool true) (Od.loc 0 26) Od.con (hr := fun w => by go_simp)) ?_
  exact RgAll.nil
 intro v W1 e1 hΦ _
 replace S := S.mono e1
 have v1 : v 1 = .bool true := hΦ 1 (by decide)
 simp only [layL, Act.put, uAx, u0x, u1x, Nat.reduceAdd]
 rw [v1]
 clear v1 hΦ e1
 refine wpList_nil ?_
 go_upto_region 6 with (fail)
 refine rg 8 [some 28, some 29, some 30, some 31, some 32, some 33, some 6, some 7] [IsV (.int .u64 (lo : Int)), IsV (.int .u64 (n : Int)), IsV (.int .u64 (q : Int)), IsV (.int .u64 (lo : Int)), IsV (.int .u64 (n : Int)), IsV (.int .u64 (r : Int)), IsV (.int .u64 (q : Int)), IsV (.int .u64 (r : Int))] [] 0 ?_ ?_
 ·refine Rc (mv (Od.lit 1)) ?_
  refine Rc (mv (Od.lit 2)) ?_
  refine Rc (bn (r := .int .u64 (q : Int)) (Od.loc 0 28) (Od.loc 1 29) (hr := fun w => by have hx9 := H0.out; obtain ⟨hx8, hx6⟩ := H2.out; have hx7 := H6.out; go_simp)) ?_
  refine Rc (mv (Od.lit 1)) ?_
  refine Rc (mv (Od.lit 2)) ?_
  refine Rc (bn (r := .int .u64 (r : Int)) (Od.loc 3 31) (Od.loc 4 32) (hr := fun w => by have hx9 := H0.out; obtain ⟨hx8, hx6⟩ := H3.out; have hx7 := H7.out; go_simp)) ?_
  refine Rc (mv (Od.lc 2 30)) ?_
  refine Rc (mv (Od.lc 5 33)) ?_
  exact RgAll.nil
 intro v W2 e1 hΦ _
 replace S := S.mono e1
 have v6 : v 6 = .int .u64 (q : Int) := hΦ 6 (by decide)
 have v7 : v 7 = .int .u64 (r : Int) := hΦ 7 (by decide)
 simp only [layL, Act.put, uAx, u0x, u1x, Nat.reduceAdd]
 rw [v6, v7]
 clear v6 v7 hΦ e1
 refine wpAny_done (by kernel_rfl) ?_ _
 go_wp2_with fail
 exact bodyPost_ret (v := .tuple #[.int .u64 (q : Int), .int .u64 (r : Int)]) (by simp [results, Tryz.results150, go_sem]) rfl (⟨_, rfl, S.ext, _, _, rfl, rfl, rfl⟩)
set_option maxRecDepth 100000 in
theorem mulp_f (w : World) (a b n : Nat) (ha : a < 65536) (hb : b < 65536) (hn : 0 < n) (hn2 : n < 65536) :
  Calls Tryz.prog 130 #[.int .u64 (a : Int), .int .u64 (b : Int), .int .u64 (n : Int)] w (Ret w (IsV (.int .u64 ((a * b % n : Nat) : Int)))) := by
 have hab : a * b < 65536 * 65536 := Nat.mul_lt_mul'' ha hb
 have hm := Tryz.bits_Mul64 a b (by omega) (by omega)
 rw [show a * b / 18446744073709551616 = 0 from Nat.div_eq_of_lt (by omega), show a * b % 18446744073709551616 = a * b from Nat.mod_eq_of_lt (by omega)] at hm
 have hd := fun w => Div64_f w (a * b) n (by omega) hn (by omega)
 generalize a * b = c at *
 generalize c / n = q at *
 generalize c % n = r at *
 clear hab ha hb hn hn2
 go_enter Tryz.func130, Tryz.ntmps130
 go_wp2_with (first | (go_at_call 141; go_must (refine Calls.mono (hm _) ?_; rintro e w1 ⟨rfl, rfl⟩; clear hm)) | (go_at_call 150; go_must (refine Calls.mono (hd _) ?_; rintro e w2 ⟨_, rfl, E2, _, _, rfl, rfl, rfl⟩; clear hd)))
 exact bodyPost_ret (v := .int .u64 (r : Int)) (by simp [results, Tryz.results130, go_sem]) rfl ⟨_, rfl, E2, rfl⟩
def Tz (w : World) : Prop := World.cell? w ⟨2, 1, none⟩ = some (.int .u8 1)
theorem Tz.ext {w w' : World} (h : Tz w) (e : Ext w w') : Tz w' := e.cell h
set_option maxRecDepth 100000 in
theorem tz_f (w : World) (h : Tz w) (e : Int) (he : e = 42 ∨ e = 46) : Calls Tryz.prog 129 #[.int .u64 e] w (Ret w (IsV (.int .i64 1))) := by
 have hc : World.cell? w ⟨2, 1, none⟩ = some (.int .u8 1) := h
 rcases he with rfl | rfl
 ·have hw1 : IntKind.u64.wrap (-42) = 18446744073709551574 := by decide
  have hw2 : bits .and .u64 42 18446744073709551574 = 2 := by decide
  have hw3 : IntKind.u64.wrap 571740426102707730 = 571740426102707730 := by decide
  go_enter Tryz.func129, Tryz.ntmps129
  go_wp2_with  fail
  exact bodyPost_ret (v := .int .i64 1) (by simp [results, Tryz.results129, go_sem]) rfl ⟨_, rfl, Ext.refl _, rfl⟩
 ·have hw1 : IntKind.u64.wrap (-46) = 18446744073709551570 := by decide
  have hw2 : bits .and .u64 46 18446744073709551570 = 2 := by decide
  have hw3 : IntKind.u64.wrap 571740426102707730 = 571740426102707730 := by decide
  go_enter Tryz.func129, Tryz.ntmps129
  go_wp2_with  fail
  exact bodyPost_ret (v := .int .i64 1) (by simp [results, Tryz.results129, go_sem]) rfl ⟨_, rfl, Ext.refl _, rfl⟩
theorem pw_step (n R a x e : Nat) (h : x * a ^ e % n = R) (h1 : e % 2 = 1) : (x * a % n) * (a * a % n) ^ (e / 2) % n = R := by
 have he : e = 2 * (e / 2) + 1 := by omega
 conv at h => lhs; lhs; rw [he, Nat.pow_succ, Nat.pow_mul, Nat.pow_two]
 rw [← h, Nat.mul_mod, Nat.mod_mod, Nat.pow_mod, Nat.mod_mod, ← Nat.pow_mod, ← Nat.mul_mod, Nat.mul_comm ((a * a) ^ (e / 2)) a, Nat.mul_assoc]
theorem pw_skip (n R a x e : Nat) (h : x * a ^ e % n = R) (h1 : e % 2 = 0) : x * (a * a % n) ^ (e / 2) % n = R := by
 have he : e = 2 * (e / 2) := by omega
 conv at h => lhs; lhs; rw [he, Nat.pow_mul, Nat.pow_two]
 rw [← h, Nat.mul_mod, Nat.pow_mod, Nat.mod_mod, ← Nat.pow_mod, ← Nat.mul_mod]
set_option maxRecDepth 100000 in
set_option maxHeartbeats 4000000 in
theorem strong_f (w : World) (hT : Tz w) (n b R : Nat) (hn : n = 43 ∨ n = 47) (hb : 0 < b ∧ b < n) (hR : b ^ (n / 2) % n = R) (hR1 : R = 1 ∨ R + 1 = n) :
  Calls Tryz.prog 98 #[.int .u64 (n : Int), .int .u64 (b : Int)] w (Ret w (IsV (.bool true))) := by
 have hx1 : (b : Int).tmod (n : Int) = (b : Int) := by rw [Int.tmod_eq_emod_of_nonneg (by omega)]; exact Int.emod_eq_of_lt (by omega) (by omega)
 have hx2 : (b : Int) % (n : Int) = (b : Int) := Int.emod_eq_of_lt (by omega) (by omega)
 have hx0 : ¬ n = 0 := by omega
 have hx3 : IntKind.u64.wrap (b : Int) = (b : Int) := by rw [IntKind.wrap_u64]; omega
 have hx4 : ((b : Int) == 0) = false := by rw [beq_eq_false_iff_ne]; omega
 have hx5 : ((n : Int) == 0) = false := by rw [beq_eq_false_iff_ne]; omega
 have hx6 : IntKind.u64.wrap ((n : Int) - 1) = ((n - 1 : Nat) : Int) := by rw [IntKind.wrap_u64]; omega
 have htz := tz_f w hT ((n - 1 : Nat) : Int) (by omega)
 obtain ⟨m, hm⟩ : ∃ m, n - 1 = m := ⟨_, rfl⟩
 rw [hm] at hx6 htz
 have HM := hid (show m / 2 = n / 2 ∧ m + 1 = n ∧ n < 65536 ∧ 2 ≤ m by omega)
 have HB := hid (And.intro hb (And.intro hR hR1))
 clear hn hm hb hR hR1
 go_enter Tryz.func98, Tryz.ntmps98
 go_wp2_with (go_at_call 129; go_must (refine Calls.mono htz ?_; rintro e w1 ⟨_, rfl, E1, rfl⟩; clear htz))
 clear hx1 hx2 hx3 hx4 hx5 hx0
 have hn0 : ¬ n = 0 := by have := HM.out; omega
 have hmul := fun w a x (ha : a < n) (hx : x < n) => mulp_f w a x n (by have := HM.out; omega) (by have := HM.out; omega) (by omega) HM.out.2.2.1
 go_loopg [1, 6, 7] (m / 2) (fun gk v1 v6 v7 wr => ∃ (a x e : Nat) (ze : Int), v1 = .int .u64 (a : Int) ∧ v6 = .int .u64 (x : Int) ∧ v7 = .int .u64 ze ∧ ze = (e : Int) ∧ a < n ∧ x < n ∧ e = gk ∧ e < 65536 ∧ x * a ^ e % n = R ∧ Ext w wr)
 case atStart =>
  have h1 := HB.out
  have h2 := HM.out
  exact ⟨b, 1, m / 2, _, rfl, rfl, rfl, by omega, h1.1.2, by omega, rfl, by omega, by rw [Nat.one_mul, h2.1]; exact h1.2.1, E1⟩
 case round =>
  obtain ⟨a, x, e, ze, rfl, rfl, rfl, hze, ha, hx, he, he6, hp, EW⟩ := hrel
  rcases Nat.eq_zero_or_pos e with h0 | h0
  ·obtain rfl : ze = 0 := by omega
   have hxR : x = R := by rw [← hp, h0, Nat.pow_zero, Nat.mul_one, Nat.mod_eq_of_lt hx]
   have HX := hid (And.intro hx (And.intro hp (And.intro he he6)))
   have hR1 := HB.out.2.2
   clear hze ha hx he he6 hp h0
   rcases hR1 with hR1 | hR1
   ·have hx1 : (x : Int) = 1 := by omega
    go_wp2_with fail
    exact bodyPost_ret (v := .bool true) (by simp [results, Tryz.results98, go_sem]) rfl ⟨_, rfl, EW, rfl⟩
   ·have hx1 : ((x : Int) == 1) = false := by rw [beq_eq_false_iff_ne]; have := HM.out; omega
    have hx2 : (x : Int) = (m : Int) := by have := HM.out; omega
    clear hxR hR1
    go_wp2_with fail
    go_loopg [6, 38] 0 (fun _ v6 v38 wr' => v6 = .int .u64 (x : Int) ∧ v38 = .int .i64 0 ∧ wr' = wr)
    case atStart => exact ⟨rfl, rfl, rfl⟩
    case round =>
     obtain ⟨rfl, rfl, rfl⟩ := hrel
     go_wp2_with fail
     exact bodyPost_ret (v := .bool true) (by simp [results, Tryz.results98, go_sem]) rfl ⟨_, rfl, EW, rfl⟩
  ·have hz0 : (0 : Int) < ze := by omega
   rcases Nat.mod_two_eq_zero_or_one e with h2 | h2
   ·have hb1 : bits .and .u64 ze 1 = 0 := by rw [hze, and1N e (by omega), h2]; rfl
    have H := hid (And.intro hze (And.intro he (And.intro he6 (And.intro hp (And.intro h2 (And.intro ha (And.intro hx h0)))))))
    have hm1 := fun w => hmul w a a ha ha
    have hw2 : ze / 2 = ((e / 2 : Nat) : Int) := by omega
    clear hze he he6 hp h2 ha hx h0 hmul
    go_wp2_with (go_at_call 130; go_must (refine Calls.mono (hm1 _) ?_; rintro e w1 ⟨_, rfl, E2, rfl⟩; clear hm1))
    go_roundg (gk / 2)
    case measure => obtain ⟨q1, q2, q3, q4, q5, q6, q7, q8⟩ := H.out; omega
    case rel =>
     obtain ⟨q1, q2, q3, q4, q5, q6, q7, q8⟩ := H.out
     exact ⟨a * a % n, x, e / 2, _, rfl, rfl, rfl, by omega, Nat.mod_lt _ (by omega), q7, by omega, by omega, pw_skip n R a x e q4 q5, EW.trans E2⟩
   ·have hb1 : bits .and .u64 ze 1 = 1 := by rw [hze, and1N e (by omega), h2]; rfl
    have H := hid (And.intro hze (And.intro he (And.intro he6 (And.intro hp (And.intro h2 (And.intro ha (And.intro hx h0)))))))
    have hm1 := fun w => hmul w a a ha ha
    have hm2 := fun w => hmul w x a hx ha
    clear hze he he6 hp h2 ha hx h0 hmul
    go_wp2_with (go_at_call 130; go_must (first | (refine Calls.mono (hm2 _) ?_; rintro e w1 ⟨_, rfl, E2, rfl⟩; clear hm2) | (refine Calls.mono (hm1 _) ?_; rintro e w2 ⟨_, rfl, E3, rfl⟩; clear hm1)))
    go_roundg (gk / 2)
    case measure => obtain ⟨q1, q2, q3, q4, q5, q6, q7, q8⟩ := H.out; omega
    case rel =>
     obtain ⟨q1, q2, q3, q4, q5, q6, q7, q8⟩ := H.out
     exact ⟨a * a % n, x * a % n, e / 2, _, rfl, rfl, rfl, by omega, Nat.mod_lt _ (by omega), Nat.mod_lt _ (by omega), by omega, by omega, pw_step n R a x e q4 q5, (EW.trans E2).trans E3⟩
set_option maxRecDepth 100000 in
theorem isPrime1_f (w : World) (pa : Addr) (n b : Nat) (hc : World.cell? w pa = some (.int .u64 (n : Int))) (hs : ∀ w, Tz w → Calls Tryz.prog 98 #[.int .u64 (n : Int), .int .u64 (b : Int)] w (Ret w (IsV (.bool true)))) (hT : Tz w) :
  Calls Tryz.prog 97 #[.int .u64 (b : Int), .pointer (some pa)] w (Ret w (IsV (.bool false))) := by
 have hs := hs w hT
 go_enter Tryz.func97, Tryz.ntmps97
 go_wp2_with (go_at_call 98; go_must (refine Calls.mono hs ?_; rintro e w1 ⟨_, rfl, E1, rfl⟩; clear hs))
 exact bodyPost_ret (v := .bool false) (by simp [results, Tryz.results97, go_sem]) rfl ⟨_, rfl, E1, rfl⟩
set_option maxRecDepth 100000 in
theorem ixf_f (w : World) (pa : Addr) (g : Nat) (hc : ∀ j, j < 13 → World.cell? w ⟨g, j, none⟩ = some (.int .u64 ((prBases.getD j 1 : Nat) : Int)))
  (hF : ∀ j, j < 13 → ∀ w', Ext w w' → Calls Tryz.prog 97 #[.int .u64 ((prBases.getD j 1 : Nat) : Int), .pointer (some pa)] w' (Ret w' (IsV (.bool false)))) :
  Calls Tryz.prog 128 #[.slice (some ⟨g, 0, none⟩) 13 13, .func (.func 97) #[] #[.pointer (some pa)]] w (Ret w (IsV (.int .i64 (-1)))) := by
 go_enter Tryz.func128, Tryz.ntmps128
 go_wp2_with fail
 go_loopg [5, 8] 13 (fun gk _ v8 wr => ∃ (j : Nat) (z : Int), v8 = .int .i64 z ∧ z = (j : Int) ∧ j + gk = 13 ∧ Ext w wr)
 case atStart => exact ⟨0, 0, rfl, rfl, rfl, Ext.refl _⟩
 case round =>
  obtain ⟨j, z, rfl, hz, hg, EW⟩ := hrel
  rcases Nat.lt_or_ge j 13 with hj | hj
  ·have hz1 : z < 13 := by omega
   have hz2 : 0 ≤ z := by omega
   have hcell := EW.cell (hc j hj)
   have hcall := hF j hj wr EW
   obtain ⟨b, hb⟩ : ∃ b : Nat, prBases.getD j 1 = b := ⟨_, rfl⟩
   rw [hb] at hcell hcall
   obtain ⟨jj, rfl⟩ : ∃ jj : Nat, jj = j := ⟨_, rfl⟩
   have H := hid (And.intro hg hj)
   subst hz
   clear hg hj hb hc hF
   go_wp2_with (go_at_call 97; go_must (refine Calls.mono hcall ?_; rintro e w1 ⟨_, rfl, E1, rfl⟩; clear hcall))
   go_roundg (gk - 1)
   case measure => have := H.out; omega
   case rel => have := H.out; exact ⟨jj + 1, _, rfl, by omega, by omega, EW.trans E1⟩
  ·obtain rfl : z = 13 := by omega
   clear hz hg hj
   go_wp2_with fail
   exact bodyPost_ret (v := .int .i64 (-1)) (by simp [results, Tryz.results128, go_sem]) rfl ⟨_, rfl, EW, rfl⟩
set_option maxRecDepth 100000 in
theorem cof_f (w : World) (pa : Addr) (g : Nat) (hc : ∀ j, j < 13 → World.cell? w ⟨g, j, none⟩ = some (.int .u64 ((prBases.getD j 1 : Nat) : Int)))
  (hF : ∀ j, j < 13 → ∀ w', Ext w w' → Calls Tryz.prog 97 #[.int .u64 ((prBases.getD j 1 : Nat) : Int), .pointer (some pa)] w' (Ret w' (IsV (.bool false)))) :
  Calls Tryz.prog 96 #[.slice (some ⟨g, 0, none⟩) 13 13, .func (.func 97) #[] #[.pointer (some pa)]] w (Ret w (IsV (.bool false))) := by
 have hx := ixf_f w pa g hc hF
 clear hc hF
 go_enter Tryz.func96, Tryz.ntmps96
 go_wp2_with (go_at_call 128; go_must (refine Calls.mono hx ?_; rintro e w1 ⟨_, rfl, E1, rfl⟩; clear hx))
 exact bodyPost_ret (v := .bool false) (by simp [results, Tryz.results96, go_sem]) rfl ⟨_, rfl, E1, rfl⟩
set_option maxRecDepth 100000 in
set_option maxHeartbeats 8000000 in
theorem isPrime_s (w : World) (N : Nat) (hN : 1 < N ∧ N < 65536) (hlt : ∀ j, j < 13 → N % prBases.getD j 1 ≠ 0) (hT : Tz w)
  (hS : ∀ j, j < 13 → ∀ w, Tz w → Calls Tryz.prog 98 #[.int .u64 (N : Int), .int .u64 ((prBases.getD j 1 : Nat) : Int)] w (Ret w (IsV (.bool true)))) :
  Calls Tryz.prog 61 #[.int .u64 (N : Int)] w (Ret w (IsV (.bool true))) := by
 obtain ⟨W, hW, E, C1⟩ : ∃ W, W = w.alloc (.cells #[.int .u64 (N : Int)] 67) ∧ Ext w W ∧ World.cell? W ⟨w.heap.size, 0, none⟩ = some (.int .u64 (N : Int)) :=
  ⟨_, rfl, (Ext.refl _).alloc _, by simp⟩
 have HN := hid hN
 have HLT := hid hlt
 have HS := hid hS
 have HT := hid (hT.ext E)
 clear hN hlt hS hT
 go_enter Tryz.func61, Tryz.ntmps61
 go_upto_region 1 with (fail)
 rw [← hW]
 clear hW
 go_upto_region 2 with (fail)
 obtain ⟨W2, hW2⟩ : ∃ W2, W.alloc (.cells #[.int .u64 2, .int .u64 3, .int .u64 5, .int .u64 7, .int .u64 11, .int .u64 13, .int .u64 17, .int .u64 19, .int .u64 23, .int .u64 29, .int .u64 31, .int .u64 37, .int .u64 41] 139) = W2 := ⟨_, rfl⟩
 have E2 : Ext W W2 := by rw [← hW2]; exact (Ext.refl _).alloc _
 have C2 : World.cell? W2 ⟨w.heap.size, 0, none⟩ = some (.int .u64 (N : Int)) := E2.cell C1
 have hld : ∀ (j : Nat) (v : Value), (#[.int .u64 2, .int .u64 3, .int .u64 5, .int .u64 7, .int .u64 11, .int .u64 13, .int .u64 17, .int .u64 19, .int .u64 23, .int .u64 29, .int .u64 31, .int .u64 37, .int .u64 41] : Array Value)[j]? = some v → World.cell? W2 ⟨W.heap.size, j, none⟩ = some v := by
  intro j v hj
  rw [← hW2]
  exact cell_newAt _ _ rfl _ _ _ _ hj
 have M0 := hld 0 _ rfl
 have M1 := hld 1 _ rfl
 have M2 := hld 2 _ rfl
 have M3 := hld 3 _ rfl
 have M4 := hld 4 _ rfl
 have M5 := hld 5 _ rfl
 have M6 := hld 6 _ rfl
 have M7 := hld 7 _ rfl
 have M8 := hld 8 _ rfl
 have M9 := hld 9 _ rfl
 have M10 := hld 10 _ rfl
 have M11 := hld 11 _ rfl
 have M12 := hld 12 _ rfl
 rw [hW2]
 clear hW2
 have HLD := hid hld
 clear hld
 go_wp2_with fail
 clear M0 M1 M2 M3 M4 M5 M6 M7 M8 M9 M10 M11 M12
 go_loopg [8] 13 (fun gk v8 wr => ∃ (i : Nat) (z : Int), v8 = .int .i64 z ∧ z = (i : Int) ∧ i + gk = 13 ∧ wr = W2)
 case atStart => exact ⟨0, 0, rfl, rfl, by omega, rfl⟩
 case round =>
  obtain ⟨i, z, rfl, hz, hg, rfl⟩ := hrel
  rcases (show i = 0 ∨ i = 1 ∨ i = 2 ∨ i = 3 ∨ i = 4 ∨ i = 5 ∨ i = 6 ∨ i = 7 ∨ i = 8 ∨ i = 9 ∨ i = 10 ∨ i = 11 ∨ i = 12 ∨ i = 13 by omega) with rfl | rfl | rfl | rfl | rfl | rfl | rfl | rfl | rfl | rfl | rfl | rfl | rfl | rfl
  ·obtain rfl : z = 0 := by omega
   clear hz
   have hix := pri_ix0 wr
   have hr : N % 2 ≠ 0 := HLT.out 0 (by omega)
   obtain ⟨r, hr2⟩ : ∃ r, N % 2 = r := ⟨_, rfl⟩
   have hrb : r < 2 := by rw [← hr2]; exact Nat.mod_lt _ (by decide)
   have hx1 : (N : Int).tmod 2 = (r : Int) := by rw [Int.tmod_eq_emod_of_nonneg (by omega)]; omega
   have hx2 : (N : Int) % 2 = (r : Int) := by omega
   have hx3 : ((r : Int) == 0) = false := by rw [beq_eq_false_iff_ne]; omega
   have hx4 : IntKind.u64.wrap (r : Int) = (r : Int) := by simp only [IntKind.wrap_u64]; omega
   have HG := hid hg
   clear hg hr hr2 hrb
   go_wp2_with fail
   go_roundg (gk - 1)
   case measure => have := HG.out; omega
   case rel => exact ⟨1, 1, rfl, rfl, by have := HG.out; omega, rfl⟩
  ·obtain rfl : z = 1 := by omega
   clear hz
   have hix := pri_ix1 wr
   have hr : N % 3 ≠ 0 := HLT.out 1 (by omega)
   obtain ⟨r, hr2⟩ : ∃ r, N % 3 = r := ⟨_, rfl⟩
   have hrb : r < 3 := by rw [← hr2]; exact Nat.mod_lt _ (by decide)
   have hx1 : (N : Int).tmod 3 = (r : Int) := by rw [Int.tmod_eq_emod_of_nonneg (by omega)]; omega
   have hx2 : (N : Int) % 3 = (r : Int) := by omega
   have hx3 : ((r : Int) == 0) = false := by rw [beq_eq_false_iff_ne]; omega
   have hx4 : IntKind.u64.wrap (r : Int) = (r : Int) := by simp only [IntKind.wrap_u64]; omega
   have HG := hid hg
   clear hg hr hr2 hrb
   go_wp2_with fail
   go_roundg (gk - 1)
   case measure => have := HG.out; omega
   case rel => exact ⟨2, 2, rfl, rfl, by have := HG.out; omega, rfl⟩
  ·obtain rfl : z = 2 := by omega
   clear hz
   have hix := pri_ix2 wr
   have hr : N % 5 ≠ 0 := HLT.out 2 (by omega)
   obtain ⟨r, hr2⟩ : ∃ r, N % 5 = r := ⟨_, rfl⟩
   have hrb : r < 5 := by rw [← hr2]; exact Nat.mod_lt _ (by decide)
   have hx1 : (N : Int).tmod 5 = (r : Int) := by rw [Int.tmod_eq_emod_of_nonneg (by omega)]; omega
   have hx2 : (N : Int) % 5 = (r : Int) := by omega
   have hx3 : ((r : Int) == 0) = false := by rw [beq_eq_false_iff_ne]; omega
   have hx4 : IntKind.u64.wrap (r : Int) = (r : Int) := by simp only [IntKind.wrap_u64]; omega
   have HG := hid hg
   clear hg hr hr2 hrb
   go_wp2_with fail
   go_roundg (gk - 1)
   case measure => have := HG.out; omega
   case rel => exact ⟨3, 3, rfl, rfl, by have := HG.out; omega, rfl⟩
  ·obtain rfl : z = 3 := by omega
   clear hz
   have hix := pri_ix3 wr
   have hr : N % 7 ≠ 0 := HLT.out 3 (by omega)
   obtain ⟨r, hr2⟩ : ∃ r, N % 7 = r := ⟨_, rfl⟩
   have hrb : r < 7 := by rw [← hr2]; exact Nat.mod_lt _ (by decide)
   have hx1 : (N : Int).tmod 7 = (r : Int) := by rw [Int.tmod_eq_emod_of_nonneg (by omega)]; omega
   have hx2 : (N : Int) % 7 = (r : Int) := by omega
   have hx3 : ((r : Int) == 0) = false := by rw [beq_eq_false_iff_ne]; omega
   have hx4 : IntKind.u64.wrap (r : Int) = (r : Int) := by simp only [IntKind.wrap_u64]; omega
   have HG := hid hg
   clear hg hr hr2 hrb
   go_wp2_with fail
   go_roundg (gk - 1)
   case measure => have := HG.out; omega
   case rel => exact ⟨4, 4, rfl, rfl, by have := HG.out; omega, rfl⟩
  ·obtain rfl : z = 4 := by omega
   clear hz
   have hix := pri_ix4 wr
   have hr : N % 11 ≠ 0 := HLT.out 4 (by omega)
   obtain ⟨r, hr2⟩ : ∃ r, N % 11 = r := ⟨_, rfl⟩
   have hrb : r < 11 := by rw [← hr2]; exact Nat.mod_lt _ (by decide)
   have hx1 : (N : Int).tmod 11 = (r : Int) := by rw [Int.tmod_eq_emod_of_nonneg (by omega)]; omega
   have hx2 : (N : Int) % 11 = (r : Int) := by omega
   have hx3 : ((r : Int) == 0) = false := by rw [beq_eq_false_iff_ne]; omega
   have hx4 : IntKind.u64.wrap (r : Int) = (r : Int) := by simp only [IntKind.wrap_u64]; omega
   have HG := hid hg
   clear hg hr hr2 hrb
   go_wp2_with fail
   go_roundg (gk - 1)
   case measure => have := HG.out; omega
   case rel => exact ⟨5, 5, rfl, rfl, by have := HG.out; omega, rfl⟩
  ·obtain rfl : z = 5 := by omega
   clear hz
   have hix := pri_ix5 wr
   have hr : N % 13 ≠ 0 := HLT.out 5 (by omega)
   obtain ⟨r, hr2⟩ : ∃ r, N % 13 = r := ⟨_, rfl⟩
   have hrb : r < 13 := by rw [← hr2]; exact Nat.mod_lt _ (by decide)
   have hx1 : (N : Int).tmod 13 = (r : Int) := by rw [Int.tmod_eq_emod_of_nonneg (by omega)]; omega
   have hx2 : (N : Int) % 13 = (r : Int) := by omega
   have hx3 : ((r : Int) == 0) = false := by rw [beq_eq_false_iff_ne]; omega
   have hx4 : IntKind.u64.wrap (r : Int) = (r : Int) := by simp only [IntKind.wrap_u64]; omega
   have HG := hid hg
   clear hg hr hr2 hrb
   go_wp2_with fail
   go_roundg (gk - 1)
   case measure => have := HG.out; omega
   case rel => exact ⟨6, 6, rfl, rfl, by have := HG.out; omega, rfl⟩
  ·obtain rfl : z = 6 := by omega
   clear hz
   have hix := pri_ix6 wr
   have hr : N % 17 ≠ 0 := HLT.out 6 (by omega)
   obtain ⟨r, hr2⟩ : ∃ r, N % 17 = r := ⟨_, rfl⟩
   have hrb : r < 17 := by rw [← hr2]; exact Nat.mod_lt _ (by decide)
   have hx1 : (N : Int).tmod 17 = (r : Int) := by rw [Int.tmod_eq_emod_of_nonneg (by omega)]; omega
   have hx2 : (N : Int) % 17 = (r : Int) := by omega
   have hx3 : ((r : Int) == 0) = false := by rw [beq_eq_false_iff_ne]; omega
   have hx4 : IntKind.u64.wrap (r : Int) = (r : Int) := by simp only [IntKind.wrap_u64]; omega
   have HG := hid hg
   clear hg hr hr2 hrb
   go_wp2_with fail
   go_roundg (gk - 1)
   case measure => have := HG.out; omega
   case rel => exact ⟨7, 7, rfl, rfl, by have := HG.out; omega, rfl⟩
  ·obtain rfl : z = 7 := by omega
   clear hz
   have hix := pri_ix7 wr
   have hr : N % 19 ≠ 0 := HLT.out 7 (by omega)
   obtain ⟨r, hr2⟩ : ∃ r, N % 19 = r := ⟨_, rfl⟩
   have hrb : r < 19 := by rw [← hr2]; exact Nat.mod_lt _ (by decide)
   have hx1 : (N : Int).tmod 19 = (r : Int) := by rw [Int.tmod_eq_emod_of_nonneg (by omega)]; omega
   have hx2 : (N : Int) % 19 = (r : Int) := by omega
   have hx3 : ((r : Int) == 0) = false := by rw [beq_eq_false_iff_ne]; omega
   have hx4 : IntKind.u64.wrap (r : Int) = (r : Int) := by simp only [IntKind.wrap_u64]; omega
   have HG := hid hg
   clear hg hr hr2 hrb
   go_wp2_with fail
   go_roundg (gk - 1)
   case measure => have := HG.out; omega
   case rel => exact ⟨8, 8, rfl, rfl, by have := HG.out; omega, rfl⟩
  ·obtain rfl : z = 8 := by omega
   clear hz
   have hix := pri_ix8 wr
   have hr : N % 23 ≠ 0 := HLT.out 8 (by omega)
   obtain ⟨r, hr2⟩ : ∃ r, N % 23 = r := ⟨_, rfl⟩
   have hrb : r < 23 := by rw [← hr2]; exact Nat.mod_lt _ (by decide)
   have hx1 : (N : Int).tmod 23 = (r : Int) := by rw [Int.tmod_eq_emod_of_nonneg (by omega)]; omega
   have hx2 : (N : Int) % 23 = (r : Int) := by omega
   have hx3 : ((r : Int) == 0) = false := by rw [beq_eq_false_iff_ne]; omega
   have hx4 : IntKind.u64.wrap (r : Int) = (r : Int) := by simp only [IntKind.wrap_u64]; omega
   have HG := hid hg
   clear hg hr hr2 hrb
   go_wp2_with fail
   go_roundg (gk - 1)
   case measure => have := HG.out; omega
   case rel => exact ⟨9, 9, rfl, rfl, by have := HG.out; omega, rfl⟩
  ·obtain rfl : z = 9 := by omega
   clear hz
   have hix := pri_ix9 wr
   have hr : N % 29 ≠ 0 := HLT.out 9 (by omega)
   obtain ⟨r, hr2⟩ : ∃ r, N % 29 = r := ⟨_, rfl⟩
   have hrb : r < 29 := by rw [← hr2]; exact Nat.mod_lt _ (by decide)
   have hx1 : (N : Int).tmod 29 = (r : Int) := by rw [Int.tmod_eq_emod_of_nonneg (by omega)]; omega
   have hx2 : (N : Int) % 29 = (r : Int) := by omega
   have hx3 : ((r : Int) == 0) = false := by rw [beq_eq_false_iff_ne]; omega
   have hx4 : IntKind.u64.wrap (r : Int) = (r : Int) := by simp only [IntKind.wrap_u64]; omega
   have HG := hid hg
   clear hg hr hr2 hrb
   go_wp2_with fail
   go_roundg (gk - 1)
   case measure => have := HG.out; omega
   case rel => exact ⟨10, 10, rfl, rfl, by have := HG.out; omega, rfl⟩
  ·obtain rfl : z = 10 := by omega
   clear hz
   have hix := pri_ix10 wr
   have hr : N % 31 ≠ 0 := HLT.out 10 (by omega)
   obtain ⟨r, hr2⟩ : ∃ r, N % 31 = r := ⟨_, rfl⟩
   have hrb : r < 31 := by rw [← hr2]; exact Nat.mod_lt _ (by decide)
   have hx1 : (N : Int).tmod 31 = (r : Int) := by rw [Int.tmod_eq_emod_of_nonneg (by omega)]; omega
   have hx2 : (N : Int) % 31 = (r : Int) := by omega
   have hx3 : ((r : Int) == 0) = false := by rw [beq_eq_false_iff_ne]; omega
   have hx4 : IntKind.u64.wrap (r : Int) = (r : Int) := by simp only [IntKind.wrap_u64]; omega
   have HG := hid hg
   clear hg hr hr2 hrb
   go_wp2_with fail
   go_roundg (gk - 1)
   case measure => have := HG.out; omega
   case rel => exact ⟨11, 11, rfl, rfl, by have := HG.out; omega, rfl⟩
  ·obtain rfl : z = 11 := by omega
   clear hz
   have hix := pri_ix11 wr
   have hr : N % 37 ≠ 0 := HLT.out 11 (by omega)
   obtain ⟨r, hr2⟩ : ∃ r, N % 37 = r := ⟨_, rfl⟩
   have hrb : r < 37 := by rw [← hr2]; exact Nat.mod_lt _ (by decide)
   have hx1 : (N : Int).tmod 37 = (r : Int) := by rw [Int.tmod_eq_emod_of_nonneg (by omega)]; omega
   have hx2 : (N : Int) % 37 = (r : Int) := by omega
   have hx3 : ((r : Int) == 0) = false := by rw [beq_eq_false_iff_ne]; omega
   have hx4 : IntKind.u64.wrap (r : Int) = (r : Int) := by simp only [IntKind.wrap_u64]; omega
   have HG := hid hg
   clear hg hr hr2 hrb
   go_wp2_with fail
   go_roundg (gk - 1)
   case measure => have := HG.out; omega
   case rel => exact ⟨12, 12, rfl, rfl, by have := HG.out; omega, rfl⟩
  ·obtain rfl : z = 12 := by omega
   clear hz
   have hix := pri_ix12 wr
   have hr : N % 41 ≠ 0 := HLT.out 12 (by omega)
   obtain ⟨r, hr2⟩ : ∃ r, N % 41 = r := ⟨_, rfl⟩
   have hrb : r < 41 := by rw [← hr2]; exact Nat.mod_lt _ (by decide)
   have hx1 : (N : Int).tmod 41 = (r : Int) := by rw [Int.tmod_eq_emod_of_nonneg (by omega)]; omega
   have hx2 : (N : Int) % 41 = (r : Int) := by omega
   have hx3 : ((r : Int) == 0) = false := by rw [beq_eq_false_iff_ne]; omega
   have hx4 : IntKind.u64.wrap (r : Int) = (r : Int) := by simp only [IntKind.wrap_u64]; omega
   have HG := hid hg
   clear hg hr hr2 hrb
   go_wp2_with fail
   go_roundg (gk - 1)
   case measure => have := HG.out; omega
   case rel => exact ⟨13, 13, rfl, rfl, by have := HG.out; omega, rfl⟩
  ·obtain rfl : z = 13 := by omega
   clear hz hg
   have hN1 : (1 : Int) < (N : Int) := by have := HN.out; omega
   have hcon := cof_f wr ⟨w.heap.size, 0, none⟩ W.heap.size (fun j hj => HLD.out j _ ((show ∀ j, j < 13 → (#[.int .u64 2, .int .u64 3, .int .u64 5, .int .u64 7, .int .u64 11, .int .u64 13, .int .u64 17, .int .u64 19, .int .u64 23, .int .u64 29, .int .u64 31, .int .u64 37, .int .u64 41] : Array Value)[j]? = some (.int .u64 ((prBases.getD j 1 : Nat) : Int)) from fun j hj => by
     rcases (show j = 0 ∨ j = 1 ∨ j = 2 ∨ j = 3 ∨ j = 4 ∨ j = 5 ∨ j = 6 ∨ j = 7 ∨ j = 8 ∨ j = 9 ∨ j = 10 ∨ j = 11 ∨ j = 12 by omega) with rfl | rfl | rfl | rfl | rfl | rfl | rfl | rfl | rfl | rfl | rfl | rfl | rfl <;> rfl) j hj))
    (fun j hj w' E' => isPrime1_f w' _ N _ (E'.cell C2) (HS.out j hj) (HT.out.ext (E2.trans E')))
   go_wp2_with (go_at_call 96; go_must (refine Calls.mono hcon ?_; rintro e w1 ⟨_, rfl, E1, rfl⟩; clear hcon))
   exact bodyPost_ret (v := .bool true) (by simp [results, Tryz.results61, go_sem]) rfl ⟨_, rfl, (E.trans E2).trans E1, rfl⟩
set_option maxRecDepth 100000 in
set_option maxHeartbeats 8000000 in
theorem Is_s {x : Value} {w : World} (N : Nat) (hN : N = 43 ∨ N = 47) (hT : Tz w) (hx : IsI 2 (N : Int) x w) : Calls Tryz.prog 38 #[x] w (Ret w (IsT2 (IsV (.bool true)) (IsV (.int .i64 0)))) := by
 have hP : ∀ w, Tz w → Calls Tryz.prog 61 #[.int .u64 (N : Int)] w (Ret w (IsV (.bool true))) := fun w hT => by
  have h0 : ∀ N, N = 43 ∨ N = 47 → ∀ j, j < 13 → N % prBases.getD j 1 ≠ 0 ∧ 0 < prBases.getD j 1 ∧ prBases.getD j 1 < N ∧ (prBases.getD j 1 ^ (N / 2) % N = 1 ∨ prBases.getD j 1 ^ (N / 2) % N + 1 = N) := by
   rintro N (rfl | rfl)
   ·decide +kernel
   ·decide +kernel
  exact isPrime_s w N (by omega) (fun j hj => (h0 N hN j hj).1) hT (fun j hj w hT => strong_f w hT N _ _ hN ⟨(h0 N hN j hj).2.1, (h0 N hN j hj).2.2.1⟩ rfl (h0 N hN j hj).2.2.2)
 have f1 : 1 < N ∧ N < 65536 := by omega
 clear hN
 obtain ⟨s1, a1, n1, c1, rfl, h1⟩ := hx
 have h1 : IsI 2 (N : Int) (.agg #[.bool s1, .slice a1 n1 c1]) w := ⟨_, _, _, _, rfl, h1⟩
 have hs : s1 = false := h1.pos' (by omega)
 subst hs
 obtain ⟨W, hW, E, C1, C2⟩ : ∃ W, W = w.alloc (.cells #[.bool false, .slice a1 n1 c1] 30) ∧ Ext w W ∧ World.cell? W ⟨w.heap.size, 0, none⟩ = some (.bool false) ∧ World.cell? W ⟨w.heap.size, 1, none⟩ = some (.slice a1 n1 c1) :=
  ⟨_, rfl, (Ext.refl _).alloc _, by simp, by simp⟩
 have hcon := word_f (IsI.stb _ _ _ _ _ E h1) (by omega)
 rw [decide_eq_true (show (0 : Int) < (N : Int) by omega), Int.natAbs_natCast] at hcon
 clear h1
 go_enter Tryz.func38, Tryz.ntmps38
 go_upto_region 1 with (fail)
 rw [← hW]
 clear hW
 go_upto_region 2 with (go_at_call 60; refine Calls.mono hcon ?_; rintro e w1 ⟨_, rfl, E1, _, _, rfl, rfl, rfl⟩)
 have C1' := Ext.cell E1 C1
 have hT1 := hT.ext (E.trans E1)
 go_wp2_with (go_at_call 61; refine Calls.mono (hP w1 hT1) ?_; rintro e w2 ⟨_, rfl, E2, rfl⟩)
 exact bodyPost_ret (v := .tuple #[.bool true, .int .i64 0]) (by simp [results, Tryz.results38, go_sem]) rfl ⟨_, rfl, (E.trans E1).trans E2, _, _, rfl, rfl, rfl⟩
end Go.Proofs.YtknlaadcbhhbfaaGreatDoor
namespace Go.Proofs.YtknlaadcbhhbfaaGreatDoor
open Go Go.RowKit
structure PI (ch : Nat → Int) (a r p : Nat) (q : Int) : Prop where
 inv : RestInv a r p
 eq : q = Qp (locg ch) a (p - 1)
 nn : 0 ≤ q
 le : q * (r : Int) ≤ (a : Int)
theorem PI.start (ch : Nat → Int) {a : Nat} (ha : 0 < a) : PI ch a a 2 1 := by
 refine ⟨RestInv.start ha, ?_, by decide, by omega⟩
 show (1 : Int) = Qp (locg ch) a 1
 rw [Qp_succ, if_neg (fun h => by have := h.1; omega)]
 rfl
theorem PI.skip {ch : Nat → Int} {a r p : Nat} {q : Int} (h : PI ch a r p q) (hp : 2 ≤ p) (hd : ¬ p ∣ r) : PI ch a r (p + 1) q := by
 obtain ⟨P, rfl⟩ : ∃ P, p = P + 1 := ⟨p - 1, by omega⟩
 refine ⟨h.inv.skip hp hd, ?_, h.nn, h.le⟩
 show q = Qp (locg ch) a (P + 1)
 rw [h.inv.skipQ (locg_0 ch) (by omega) hd]
 exact h.eq
theorem PI.take {ch : Nat → Int} {a r p k r' : Nat} {q : Int} (h : PI ch a r p q) (hp : 2 ≤ p) (hd : p ∣ r) (e : r = p ^ k * r') (hn : ¬ p ∣ r') : PI ch a r' (p + 1) (q * locg ch p (vl p a)) := by
 have hpr := h.inv.takeP hp hd
 have hi := h.inv.take hp hd e hn
 have hv : vl p a = k := by rw [h.inv.val p hpr (Nat.le_refl _)]; exact vl_uniq hp hi.pos e hn
 refine ⟨hi, ?_, Int.mul_nonneg h.nn (locg_nonneg ..), ?_⟩
 ·obtain ⟨P, rfl⟩ : ∃ P, p = P + 1 := ⟨p - 1, by omega⟩
  show _ = Qp (locg ch) a (P + 1)
  rw [h.inv.takeQ (by omega) hd, h.eq]
  rfl
 ·have h1 : locg ch p (vl p a) ≤ ((p ^ k : Nat) : Int) := by
   rw [hv]
   have h1 := locg_le ch p k
   have h2 : k < 2 ^ k := Nat.lt_two_pow_self
   have h3 : 2 ^ k ≤ p ^ k := Nat.pow_le_pow_left hp k
   omega
  have h2 := h.le
  rw [e, Int.natCast_mul, ← Int.mul_assoc] at h2
  refine Int.le_trans (Int.mul_le_mul_of_nonneg_right (Int.mul_le_mul_of_nonneg_left h1 h.nn) (by omega)) h2
theorem PI.end_ {ch : Nat → Int} {a r p : Nat} {q : Int} (h : PI ch a r p q) (hp : 2 ≤ p) (ha : 0 < a) (hr : r = 1) : q = totP (locg ch) a := by
 subst hr
 obtain ⟨P, rfl⟩ : ∃ P, p = P + 1 := ⟨p - 1, by omega⟩
 rw [h.eq]
 exact RestInv.end_ (locg_0 ch) ha h.inv
theorem PI.bound {ch : Nat → Int} {a r p : Nat} {q : Int} (h : PI ch a r p q) : q ≤ (a : Int) := by
 have h1 := h.le
 have h2 := h.inv.pos
 have h3 : q * 1 ≤ q * (r : Int) := Int.mul_le_mul_of_nonneg_left (by omega) h.nn
 omega
theorem PI.rest {ch : Nat → Int} {a r p : Nat} {q : Int} (h : PI ch a r p q) (ha : 0 < a) : r ≤ a := Nat.le_of_dvd ha h.inv.dvd
def prT (p : Nat) : Bool := (List.range 50).all fun d => d == 0 || p % d != 0 || d == 1 || d == p
theorem prT_of {p : Nat} (hp : Pr p) : prT p = true := by
 unfold prT
 rw [List.all_eq_true]
 intro d _
 by_cases h0 : p % d = 0
 ·rcases hp.2 d (Nat.dvd_of_mod_eq_zero h0) with h | h <;> simp [h]
 ·simp [h0]
theorem primes50 {p : Nat} (hp : Pr p) (h : p < 50) : (∃ j, j < 13 ∧ prBases.getD j 1 = p) ∨ p = 43 ∨ p = 47 := by
 have h2 := hp.1
 have key : ∀ p, p < 50 → 2 ≤ p → prT p = true → (prBases.idxOf p < 13 ∧ prBases.getD (prBases.idxOf p) 1 = p) ∨ p = 43 ∨ p = 47 := by decide +kernel
 exact (key p h h2 (prT_of hp)).imp (fun h => ⟨_, h⟩) id
end Go.Proofs.YtknlaadcbhhbfaaGreatDoor
