/-
 Package count: Conductor, at a discriminant. (Printed by wip/gen/den2.py.)
-/
import Derived.Test.YtknffgdbdadpcaaGreatDoorDen1
namespace Go.Proofs.YtknffgdbdadpcaaGreatDoor
open Go Go.RowKit

/-- The fundamental discriminant. -/
def cdD (n L : Nat) : Int := (-((n : Nat) : Int)).tdiv ((cdB n L * cdB n L : Nat) : Int)

set_option maxRecDepth 100000 in
set_option maxHeartbeats 4000000 in
theorem Conductor_f {k1 n L : Nat} {x : Value} {w : World} (hx : IsI k1 (-((n : Nat) : Int)) x w) (l1 : k1 ≤ 16777216) (hn : 1 ≤ n ∧ n ≤ 4194304 ∧ (n % 4 = 0 ∨ n % 4 = 3)) (hL : L * L ≤ n ∧ n < (L + 1) * (L + 1)) : Calls Tryz.prog 29 #[x] w (Ret w (IsT3 (IsI 2 (cdD n L)) (IsI 2 ((cdB n L : Nat) : Int)) (IsV (.int .i64 0)))) := by
 have HK := hid l1
 have HNN := hid hn
 have HL := hid hL
 clear l1 hn hL
 obtain ⟨s1, a1, n1, c1, rfl, h1⟩ := hx
 have h1 : IsI _ _ _ w := ⟨_, _, _, _, rfl, h1⟩
 obtain ⟨W, hW, S⟩ : ∃ W, W = ((w.alloc (.cells #[.bool s1, .slice a1 n1 c1] 33)).alloc (.cells #[.bool false, .slice none 0 0] 33)).alloc (.cells #[.bool false, .slice none 0 0] 33) ∧ Sto w W [((w.heap.size + 1 + 1, 0), IsI 0 0), ((w.heap.size + 1, 0), IsI 0 0), ((w.heap.size, 0), IsI k1 (-((n : Nat) : Int)))] := ⟨_, rfl, ((((Sto.start w).new1 (w.heap.size) (by simp) s1 a1 n1 c1 33 (IsI k1 (-((n : Nat) : Int))) (IsI.gstb _ _) (h1)).new1 (w.heap.size + 1) (by simp) false none 0 0 33 (IsI 0 0) (IsI.gstb _ _) (IsI.nil _ _)).new1 (w.heap.size + 1 + 1) (by simp) false none 0 0 33 (IsI 0 0) (IsI.gstb _ _) (IsI.nil _ _))⟩
 clear h1
 go_enter Tryz.func29, Tryz.ntmps29
 go_upto_region 1 with (fail)
 rw [← hW]
 clear hW
 refine rgs 7 [some 11, some 12, some 10, some 13, some 14, some 5, some 6] [IsI k1 (-((n : Nat) : Int)), IsT2 (IsV (.int .i64 ((n : Nat) : Int))) (IsV (.int .i64 0)), IsT2 (IsV (.int .i64 ((n : Nat) : Int))) (IsV (.int .i64 0)), IsV (.int .i64 ((n : Nat) : Int)), IsV (.int .i64 0), IsV (.int .i64 ((n : Nat) : Int)), IsV (.int .i64 0)] [] ?_ ?_
 ·refine Rc (ldI S 2 (w.heap.size) 0 (Od.lit 1) ld_Int) ?_
  refine Rc (cl1 (en Tryz.func74) (Od.lc (Φ := IsI k1 (-((n : Nat) : Int))) 0 11) (fun x0 w' hE d0 => csize_f d0 HK.out HNN.out)) ?_
  refine Rc (mv (Od.lc 1 12)) ?_
  refine Rc (ex (Od.loc 2 10) t20) ?_
  refine Rc (ex (Od.loc 2 10) t21) ?_
  refine Rc (mv (Od.lc 3 13)) ?_
  refine Rc (mv (Od.lc 4 14)) ?_
  exact RgAll.nil
 intro v W1 e1 hΦ _
 replace S := S.mono e1
 have v5 : v 5 = .int .i64 ((n : Nat) : Int) := hΦ 5 (by decide)
 have v6 : v 6 = .int .i64 0 := hΦ 6 (by decide)
 simp only [layL, Act.put, uAx, u0x, u1x, Nat.reduceAdd]
 rw [v5, v6]
 clear v5 v6 hΦ e1
 refine wpList_nil ?_
 go_upto_region 2 with (fail)
 refine rgs 2 [some 15, some 16] [IsV (.int .i64 0), IsV (.bool false)] [] ?_ ?_
 ·refine Rc (mv (Od.lit 6)) ?_
  refine Rc (bn (r := .bool false) (Od.loc 0 15) Od.con (hr := fun w => by go_simp)) ?_
  exact RgAll.nil
 intro v W2 e1 hΦ _
 replace S := S.mono e1
 have v1 : v 1 = .bool false := hΦ 1 (by decide)
 simp only [layL, Act.put, uAx, u0x, u1x, Nat.reduceAdd]
 rw [v1]
 clear v1 hΦ e1
 refine wpList_nil ?_
 go_upto_region 4 with (fail)
 refine rgs 1 [some 7] [IsV (.int .i64 1)] [] ?_ ?_
 ·refine Rc (mv Od.con) ?_
  exact RgAll.nil
 intro v W3 e1 hΦ _
 replace S := S.mono e1
 have v0 : v 0 = .int .i64 1 := hΦ 0 (by decide)
 simp only [layL, Act.put, uAx, u0x, u1x]
 rw [v0]
 clear v0 hΦ e1
 refine wpList_nil ?_
 go_upto_region 5 with (fail)
 refine rgs 1 [some 8] [IsV (.int .i64 2)] [] ?_ ?_
 ·refine Rc (mv Od.con) ?_
  exact RgAll.nil
 intro v W4 e1 hΦ _
 replace S := S.mono e1
 have v0 : v 0 = .int .i64 2 := hΦ 0 (by decide)
 simp only [layL, Act.put, uAx, u0x, u1x]
 rw [v0]
 clear v0 hΦ e1
 refine wpList_nil ?_
 go_wp2_with fail
 have S0 := hid S; clear S
 have HNI := HNN.out
 go_loopg [7, 8] 2049 (fun gk v7 v8 wr => ∃ K f : Nat, v8 = .int .i64 (((K + 1 : Nat) : Nat) : Int) ∧ v7 = .int .i64 ((f : Nat) : Int) ∧ f = cdB n K ∧ 1 ≤ K ∧ K * K ≤ n ∧ K + gk = 2050 ∧ Hid (Sto w wr [((w.heap.size + 1 + 1, 0), IsI 0 0), ((w.heap.size + 1, 0), IsI 0 0), ((w.heap.size, 0), IsI k1 (-((n : Nat) : Int)))]))
 case atStart => exact ⟨1, 1, rfl, rfl, by simp [cdB], Nat.le_refl _, by omega, rfl, S0⟩
 case round =>
  clear S0
  obtain ⟨K, f, rfl, rfl, hf, hK1, hKn, hg, S⟩ := hrel
  have S := S.out
  obtain ⟨k, hk⟩ : ∃ k, K + 1 = k := ⟨_, rfl⟩
  rw [hk]
  have hK48 : K ≤ 2048 := by refine Nat.not_lt.1 fun h => ?_; have := Nat.mul_le_mul (show 2049 ≤ K from h) (show 2049 ≤ K from h); omega
  obtain ⟨sq, hsq⟩ : ∃ s, k * k = s := ⟨_, rfl⟩
  have hsqI : ((k : Nat) : Int) * ((k : Nat) : Int) = ((sq : Nat) : Int) := by rw [← hsq, Int.natCast_mul]
  have hsqb : sq ≤ 4200000 := by have := Nat.mul_le_mul (show k ≤ 2049 by omega) (show k ≤ 2049 by omega); omega
  have hsqp : 1 ≤ sq := by have := Nat.mul_le_mul (show 1 ≤ k by omega) (show 1 ≤ k by omega); omega
  have HSQ := hid (show IntKind.i64.wrap (((k : Nat) : Int) * ((k : Nat) : Int)) = ((sq : Nat) : Int) by rw [hsqI]; simp only [IntKind.wrap_i64]; omega)
  by_cases hle : sq ≤ n
  ·obtain ⟨qq, hqq⟩ : ∃ q, n / sq = q := ⟨_, rfl⟩
   obtain ⟨rr, hrr⟩ : ∃ q, n % sq = q := ⟨_, rfl⟩
   obtain ⟨g4, hg4⟩ : ∃ q, qq % 4 = q := ⟨_, rfl⟩
   have hqn : qq ≤ n := by rw [← hqq]; exact Nat.div_le_self _ _
   have hrn : rr < sq := by rw [← hrr]; exact Nat.mod_lt _ hsqp
   have HLE := hid (show ((sq : Nat) : Int) ≤ ((n : Nat) : Int) by omega)
   have hz : ¬ ((sq : Nat) : Int) = 0 := by omega
   have hb : (((sq : Nat) : Int) == 0) = false := by rw [beq_eq_false_iff_ne]; omega
   have htd : (((n : Nat) : Int)).tdiv ((sq : Nat) : Int) = ((qq : Nat) : Int) := by rw [Int.tdiv_eq_ediv_of_nonneg (by omega), ← hqq]; rfl
   have htm : (((n : Nat) : Int)).tmod ((sq : Nat) : Int) = ((rr : Nat) : Int) := by rw [Int.tmod_eq_emod_of_nonneg (by omega), ← hrr]; rfl
   have HQ := hid (show (((n : Nat) : Int)).tdiv ((sq : Nat) : Int) = ((qq : Nat) : Int) ∧ IntKind.i64.wrap ((qq : Nat) : Int) = ((qq : Nat) : Int) ∧ ¬ sq = 0 from ⟨htd, by simp only [IntKind.wrap_i64]; omega, by omega⟩)
   have HR := hid (show (((n : Nat) : Int)).tmod ((sq : Nat) : Int) = ((rr : Nat) : Int) ∧ IntKind.i64.wrap ((rr : Nat) : Int) = ((rr : Nat) : Int) ∧ ¬ sq = 0 from ⟨htm, by simp only [IntKind.wrap_i64]; omega, by omega⟩)
   have HG := hid (show ((qq : Nat) : Int) % 4 = ((g4 : Nat) : Int) ∧ (((qq : Nat) : Int)).tmod 4 = ((g4 : Nat) : Int) by rw [Int.tmod_eq_emod_of_nonneg (by omega)]; omega)
   have HADD := hid (show IntKind.i64.wrap (((k : Nat) : Int) + 1) = ((k : Nat) : Int) + 1 by simp only [IntKind.wrap_i64]; omega)
   have HHN := hid (show K + 1 = k ∧ 1 ≤ K ∧ K + gk = 2050 ∧ K ≤ 2048 from ⟨hk, hK1, hg, hK48⟩)
   have HKK2 := hid (show k * k ≤ n by rw [hsq]; exact hle)
   have hcd : cdB n k = if 1 ≤ K ∧ rr = 0 ∧ isD qq = true then k else f := by
    rw [← hk]; unfold cdB; rw [hk, hsq, hrr, hqq, ← hf]
   have hisd : isD qq = (g4 == 0 || g4 == 3) := by unfold isD; rw [hg4]
   by_cases hr0 : rr = 0
   ·by_cases h40 : g4 = 0
    ·skip
     have HR0 := hid (show (((rr : Nat) : Int) == 0) = true by rw [beq_iff_eq]; omega)
     have HG0 := hid (show (((g4 : Nat) : Int) == 0) = true by rw [beq_iff_eq]; omega)
     have HCD := hid (show k = cdB n k by rw [hcd, if_pos ⟨hK1, hr0, by rw [hisd]; simp [h40]⟩])
     clear hf hK1 hKn hg hk hK48 hsq hsqI hsqb hsqp hle hqq hrr hg4 hqn hrn hz hb htd htm hcd hisd HNI hr0 h40
     go_upto_region 6 with (fail)
     refine rgs 5 [some 20, some 21, some 22, some 23, some 24] [IsV (.int .i64 ((k : Nat) : Int)), IsV (.int .i64 ((k : Nat) : Int)), IsV (.int .i64 ((sq : Nat) : Int)), IsV (.int .i64 ((n : Nat) : Int)), IsV (.bool true)] [] ?_ ?_
     ·refine Rc (mv (Od.lit 8)) ?_
      refine Rc (mv (Od.lit 8)) ?_
      refine Rc (bn (r := .int .i64 ((sq : Nat) : Int)) (Od.loc 0 20) (Od.loc 1 21) (hr := fun w => by have hx9 := HSQ.out; go_simp)) ?_
      refine Rc (mv (Od.lit 5)) ?_
      refine Rc (bn (r := .bool true) (Od.loc 2 22) (Od.loc 3 23) (hr := fun w => by have hx9 := HLE.out; go_simp)) ?_
      exact RgAll.nil
     intro v W5 e1 hΦ _
     replace S := S.mono e1
     have v4 : v 4 = .bool true := hΦ 4 (by decide)
     simp only [layL, Act.put, uAx, u0x, u1x, Nat.reduceAdd]
     rw [v4]
     clear v4 hΦ e1
     refine wpList_nil ?_
     go_upto_region 8 with (fail)
     refine rgs 6 [some 27, some 28, some 29, some 30, some 31, some 9] [IsV (.int .i64 ((n : Nat) : Int)), IsV (.int .i64 ((k : Nat) : Int)), IsV (.int .i64 ((k : Nat) : Int)), IsV (.int .i64 ((sq : Nat) : Int)), IsV (.int .i64 ((qq : Nat) : Int)), IsV (.int .i64 ((qq : Nat) : Int))] [] ?_ ?_
     ·refine Rc (mv (Od.lit 5)) ?_
      refine Rc (mv (Od.lit 8)) ?_
      refine Rc (mv (Od.lit 8)) ?_
      refine Rc (bn (r := .int .i64 ((sq : Nat) : Int)) (Od.loc 1 28) (Od.loc 2 29) (hr := fun w => by have hx9 := HSQ.out; go_simp)) ?_
      refine Rc (bn (r := .int .i64 ((qq : Nat) : Int)) (Od.loc 0 27) (Od.loc 3 30) (hr := fun w => by have hx9 := HQ.out.1; have hx8 := HQ.out.2.1; have hx7 := HQ.out.2.2; go_simp)) ?_
      refine Rc (mv (Od.lc 4 31)) ?_
      exact RgAll.nil
     intro v W6 e1 hΦ _
     replace S := S.mono e1
     have v5 : v 5 = .int .i64 ((qq : Nat) : Int) := hΦ 5 (by decide)
     simp only [layL, Act.put, uAx, u0x, u1x, Nat.reduceAdd]
     rw [v5]
     clear v5 hΦ e1
     refine wpList_nil ?_
     go_upto_region 9 with (fail)
     refine rgs 16 [some 32, some 33, some 34, some 35, some 36, some 37, some 38, some 39, some 40, some 41, some 42, some 43, some 44, some 45, some 46, some 47] [IsV (.int .i64 ((n : Nat) : Int)), IsV (.int .i64 ((k : Nat) : Int)), IsV (.int .i64 ((k : Nat) : Int)), IsV (.int .i64 ((sq : Nat) : Int)), IsV (.int .i64 ((rr : Nat) : Int)), IsV (.bool true), IsV (.bool true), IsV (.int .i64 ((qq : Nat) : Int)), IsV (.int .i64 ((g4 : Nat) : Int)), IsV (.bool true), IsV (.bool true), IsV (undef), IsV (undef), IsV (undef), IsV (.bool true), IsV (.bool true)] [] ?_ ?_
     ·refine Rc (mv (Od.lit 5)) ?_
      refine Rc (mv (Od.lit 8)) ?_
      refine Rc (mv (Od.lit 8)) ?_
      refine Rc (bn (r := .int .i64 ((sq : Nat) : Int)) (Od.loc 1 33) (Od.loc 2 34) (hr := fun w => by have hx9 := HSQ.out; go_simp)) ?_
      refine Rc (bn (r := .int .i64 ((rr : Nat) : Int)) (Od.loc 0 32) (Od.loc 3 35) (hr := fun w => by have hx9 := HR.out.1; have hx8 := HR.out.2.1; have hx7 := HR.out.2.2; go_simp)) ?_
      refine Rc (bn (r := .bool true) (Od.loc 4 36) Od.con (hr := fun w => by have hx9 := HR0.out; go_simp)) ?_
      refine Rc (mv (Od.lc 5 37)) ?_
      refine RcG 6 38 true (mv (Od.lit 9)) ?_
      refine RcG 6 38 true (bn (r := .int .i64 ((g4 : Nat) : Int)) (Od.loc 7 39) Od.con (hr := fun w => by have hx9 := HG.out.1; have hx8 := HG.out.2; go_simp)) ?_
      refine RcG 6 38 true (bn (r := .bool true) (Od.loc 8 40) Od.con (hr := fun w => by have hx9 := HG0.out; go_simp)) ?_
      refine RcG 6 38 true (mv (Od.lc 9 41)) ?_
      refine RcN 10 42 true ?_
      refine RcN 10 42 true ?_
      refine RcN 10 42 true ?_
      refine RcG 6 38 true (pk (Od.loc 10 42) Od.con) ?_
      refine Rc (pk (Od.loc 6 38) (Od.lc 14 46)) ?_
      exact RgAll.nil
     intro v W7 e1 hΦ _
     replace S := S.mono e1
     have v15 : v 15 = .bool true := hΦ 15 (by decide)
     simp only [layL, Act.put, uAx, u0x, u1x, Nat.reduceAdd]
     rw [v15]
     clear v15 hΦ e1
     refine wpList_nil ?_
     go_upto_region 10 with (fail)
     refine rgs 2 [some 48, some 7] [IsV (.int .i64 ((k : Nat) : Int)), IsV (.int .i64 ((k : Nat) : Int))] [] ?_ ?_
     ·refine Rc (mv (Od.lit 8)) ?_
      refine Rc (mv (Od.lc 0 48)) ?_
      exact RgAll.nil
     intro v W8 e1 hΦ _
     replace S := S.mono e1
     have v1 : v 1 = .int .i64 ((k : Nat) : Int) := hΦ 1 (by decide)
     simp only [layL, Act.put, uAx, u0x, u1x, Nat.reduceAdd]
     rw [v1]
     clear v1 hΦ e1
     refine wpList_nil ?_
     have hx9 := HADD.out
     have S' := hid S; clear S
     go_wp2_with fail
     go_roundg (gk - 1)
     case measure => have := HHN.out; omega
     case rel => exact ⟨k, k, by rw [Int.natCast_add]; rfl, rfl, HCD.out, by have := HHN.out; omega, HKK2.out, by have := HHN.out; omega, S'⟩
    ·by_cases h43 : g4 = 3
     ·skip
      have HR0 := hid (show (((rr : Nat) : Int) == 0) = true by rw [beq_iff_eq]; omega)
      have HG0 := hid (show (((g4 : Nat) : Int) == 0) = false by rw [beq_eq_false_iff_ne]; omega)
      have HG3 := hid (show (((g4 : Nat) : Int) == 3) = true by rw [beq_iff_eq]; omega)
      have HCD := hid (show k = cdB n k by rw [hcd, if_pos ⟨hK1, hr0, by rw [hisd]; simp [h43]⟩])
      clear hf hK1 hKn hg hk hK48 hsq hsqI hsqb hsqp hle hqq hrr hg4 hqn hrn hz hb htd htm hcd hisd HNI hr0 h40 h43
      go_upto_region 6 with (fail)
      refine rgs 5 [some 20, some 21, some 22, some 23, some 24] [IsV (.int .i64 ((k : Nat) : Int)), IsV (.int .i64 ((k : Nat) : Int)), IsV (.int .i64 ((sq : Nat) : Int)), IsV (.int .i64 ((n : Nat) : Int)), IsV (.bool true)] [] ?_ ?_
      ·refine Rc (mv (Od.lit 8)) ?_
       refine Rc (mv (Od.lit 8)) ?_
       refine Rc (bn (r := .int .i64 ((sq : Nat) : Int)) (Od.loc 0 20) (Od.loc 1 21) (hr := fun w => by have hx9 := HSQ.out; go_simp)) ?_
       refine Rc (mv (Od.lit 5)) ?_
       refine Rc (bn (r := .bool true) (Od.loc 2 22) (Od.loc 3 23) (hr := fun w => by have hx9 := HLE.out; go_simp)) ?_
       exact RgAll.nil
      intro v W9 e1 hΦ _
      replace S := S.mono e1
      have v4 : v 4 = .bool true := hΦ 4 (by decide)
      simp only [layL, Act.put, uAx, u0x, u1x, Nat.reduceAdd]
      rw [v4]
      clear v4 hΦ e1
      refine wpList_nil ?_
      go_upto_region 8 with (fail)
      refine rgs 6 [some 27, some 28, some 29, some 30, some 31, some 9] [IsV (.int .i64 ((n : Nat) : Int)), IsV (.int .i64 ((k : Nat) : Int)), IsV (.int .i64 ((k : Nat) : Int)), IsV (.int .i64 ((sq : Nat) : Int)), IsV (.int .i64 ((qq : Nat) : Int)), IsV (.int .i64 ((qq : Nat) : Int))] [] ?_ ?_
      ·refine Rc (mv (Od.lit 5)) ?_
       refine Rc (mv (Od.lit 8)) ?_
       refine Rc (mv (Od.lit 8)) ?_
       refine Rc (bn (r := .int .i64 ((sq : Nat) : Int)) (Od.loc 1 28) (Od.loc 2 29) (hr := fun w => by have hx9 := HSQ.out; go_simp)) ?_
       refine Rc (bn (r := .int .i64 ((qq : Nat) : Int)) (Od.loc 0 27) (Od.loc 3 30) (hr := fun w => by have hx9 := HQ.out.1; have hx8 := HQ.out.2.1; have hx7 := HQ.out.2.2; go_simp)) ?_
       refine Rc (mv (Od.lc 4 31)) ?_
       exact RgAll.nil
      intro v W10 e1 hΦ _
      replace S := S.mono e1
      have v5 : v 5 = .int .i64 ((qq : Nat) : Int) := hΦ 5 (by decide)
      simp only [layL, Act.put, uAx, u0x, u1x, Nat.reduceAdd]
      rw [v5]
      clear v5 hΦ e1
      refine wpList_nil ?_
      go_upto_region 9 with (fail)
      refine rgs 16 [some 32, some 33, some 34, some 35, some 36, some 37, some 38, some 39, some 40, some 41, some 42, some 43, some 44, some 45, some 46, some 47] [IsV (.int .i64 ((n : Nat) : Int)), IsV (.int .i64 ((k : Nat) : Int)), IsV (.int .i64 ((k : Nat) : Int)), IsV (.int .i64 ((sq : Nat) : Int)), IsV (.int .i64 ((rr : Nat) : Int)), IsV (.bool true), IsV (.bool true), IsV (.int .i64 ((qq : Nat) : Int)), IsV (.int .i64 ((g4 : Nat) : Int)), IsV (.bool false), IsV (.bool false), IsV (.int .i64 ((qq : Nat) : Int)), IsV (.int .i64 ((g4 : Nat) : Int)), IsV (.bool true), IsV (.bool true), IsV (.bool true)] [] ?_ ?_
      ·refine Rc (mv (Od.lit 5)) ?_
       refine Rc (mv (Od.lit 8)) ?_
       refine Rc (mv (Od.lit 8)) ?_
       refine Rc (bn (r := .int .i64 ((sq : Nat) : Int)) (Od.loc 1 33) (Od.loc 2 34) (hr := fun w => by have hx9 := HSQ.out; go_simp)) ?_
       refine Rc (bn (r := .int .i64 ((rr : Nat) : Int)) (Od.loc 0 32) (Od.loc 3 35) (hr := fun w => by have hx9 := HR.out.1; have hx8 := HR.out.2.1; have hx7 := HR.out.2.2; go_simp)) ?_
       refine Rc (bn (r := .bool true) (Od.loc 4 36) Od.con (hr := fun w => by have hx9 := HR0.out; go_simp)) ?_
       refine Rc (mv (Od.lc 5 37)) ?_
       refine RcG 6 38 true (mv (Od.lit 9)) ?_
       refine RcG 6 38 true (bn (r := .int .i64 ((g4 : Nat) : Int)) (Od.loc 7 39) Od.con (hr := fun w => by have hx9 := HG.out.1; have hx8 := HG.out.2; go_simp)) ?_
       refine RcG 6 38 true (bn (r := .bool false) (Od.loc 8 40) Od.con (hr := fun w => by have hx9 := HG0.out; go_simp)) ?_
       refine RcG 6 38 true (mv (Od.lc 9 41)) ?_
       refine RcG 10 42 false (mv (Od.lit 9)) ?_
       refine RcG 10 42 false (bn (r := .int .i64 ((g4 : Nat) : Int)) (Od.loc 11 43) Od.con (hr := fun w => by have hx9 := HG.out.1; have hx8 := HG.out.2; go_simp)) ?_
       refine RcG 10 42 false (bn (r := .bool true) (Od.loc 12 44) Od.con (hr := fun w => by have hx9 := HG3.out; go_simp)) ?_
       refine RcG 6 38 true (pk (Od.loc 10 42) (Od.lc 13 45)) ?_
       refine Rc (pk (Od.loc 6 38) (Od.lc 14 46)) ?_
       exact RgAll.nil
      intro v W11 e1 hΦ _
      replace S := S.mono e1
      have v15 : v 15 = .bool true := hΦ 15 (by decide)
      simp only [layL, Act.put, uAx, u0x, u1x, Nat.reduceAdd]
      rw [v15]
      clear v15 hΦ e1
      refine wpList_nil ?_
      go_upto_region 10 with (fail)
      refine rgs 2 [some 48, some 7] [IsV (.int .i64 ((k : Nat) : Int)), IsV (.int .i64 ((k : Nat) : Int))] [] ?_ ?_
      ·refine Rc (mv (Od.lit 8)) ?_
       refine Rc (mv (Od.lc 0 48)) ?_
       exact RgAll.nil
      intro v W12 e1 hΦ _
      replace S := S.mono e1
      have v1 : v 1 = .int .i64 ((k : Nat) : Int) := hΦ 1 (by decide)
      simp only [layL, Act.put, uAx, u0x, u1x, Nat.reduceAdd]
      rw [v1]
      clear v1 hΦ e1
      refine wpList_nil ?_
      have hx9 := HADD.out
      have S' := hid S; clear S
      go_wp2_with fail
      go_roundg (gk - 1)
      case measure => have := HHN.out; omega
      case rel => exact ⟨k, k, by rw [Int.natCast_add]; rfl, rfl, HCD.out, by have := HHN.out; omega, HKK2.out, by have := HHN.out; omega, S'⟩
     ·skip
      have HR0 := hid (show (((rr : Nat) : Int) == 0) = true by rw [beq_iff_eq]; omega)
      have HG0 := hid (show (((g4 : Nat) : Int) == 0) = false by rw [beq_eq_false_iff_ne]; omega)
      have HG3 := hid (show (((g4 : Nat) : Int) == 3) = false by rw [beq_eq_false_iff_ne]; omega)
      have HCD := hid (show f = cdB n k by rw [hcd, if_neg (by rintro ⟨_, h1, h2⟩; rw [hisd] at h2; simp [h40, h43] at h2)])
      clear hf hK1 hKn hg hk hK48 hsq hsqI hsqb hsqp hle hqq hrr hg4 hqn hrn hz hb htd htm hcd hisd HNI hr0 h40 h43
      go_upto_region 6 with (fail)
      refine rgs 5 [some 20, some 21, some 22, some 23, some 24] [IsV (.int .i64 ((k : Nat) : Int)), IsV (.int .i64 ((k : Nat) : Int)), IsV (.int .i64 ((sq : Nat) : Int)), IsV (.int .i64 ((n : Nat) : Int)), IsV (.bool true)] [] ?_ ?_
      ·refine Rc (mv (Od.lit 8)) ?_
       refine Rc (mv (Od.lit 8)) ?_
       refine Rc (bn (r := .int .i64 ((sq : Nat) : Int)) (Od.loc 0 20) (Od.loc 1 21) (hr := fun w => by have hx9 := HSQ.out; go_simp)) ?_
       refine Rc (mv (Od.lit 5)) ?_
       refine Rc (bn (r := .bool true) (Od.loc 2 22) (Od.loc 3 23) (hr := fun w => by have hx9 := HLE.out; go_simp)) ?_
       exact RgAll.nil
      intro v W13 e1 hΦ _
      replace S := S.mono e1
      have v4 : v 4 = .bool true := hΦ 4 (by decide)
      simp only [layL, Act.put, uAx, u0x, u1x, Nat.reduceAdd]
      rw [v4]
      clear v4 hΦ e1
      refine wpList_nil ?_
      go_upto_region 8 with (fail)
      refine rgs 6 [some 27, some 28, some 29, some 30, some 31, some 9] [IsV (.int .i64 ((n : Nat) : Int)), IsV (.int .i64 ((k : Nat) : Int)), IsV (.int .i64 ((k : Nat) : Int)), IsV (.int .i64 ((sq : Nat) : Int)), IsV (.int .i64 ((qq : Nat) : Int)), IsV (.int .i64 ((qq : Nat) : Int))] [] ?_ ?_
      ·refine Rc (mv (Od.lit 5)) ?_
       refine Rc (mv (Od.lit 8)) ?_
       refine Rc (mv (Od.lit 8)) ?_
       refine Rc (bn (r := .int .i64 ((sq : Nat) : Int)) (Od.loc 1 28) (Od.loc 2 29) (hr := fun w => by have hx9 := HSQ.out; go_simp)) ?_
       refine Rc (bn (r := .int .i64 ((qq : Nat) : Int)) (Od.loc 0 27) (Od.loc 3 30) (hr := fun w => by have hx9 := HQ.out.1; have hx8 := HQ.out.2.1; have hx7 := HQ.out.2.2; go_simp)) ?_
       refine Rc (mv (Od.lc 4 31)) ?_
       exact RgAll.nil
      intro v W14 e1 hΦ _
      replace S := S.mono e1
      have v5 : v 5 = .int .i64 ((qq : Nat) : Int) := hΦ 5 (by decide)
      simp only [layL, Act.put, uAx, u0x, u1x, Nat.reduceAdd]
      rw [v5]
      clear v5 hΦ e1
      refine wpList_nil ?_
      go_upto_region 9 with (fail)
      refine rgs 16 [some 32, some 33, some 34, some 35, some 36, some 37, some 38, some 39, some 40, some 41, some 42, some 43, some 44, some 45, some 46, some 47] [IsV (.int .i64 ((n : Nat) : Int)), IsV (.int .i64 ((k : Nat) : Int)), IsV (.int .i64 ((k : Nat) : Int)), IsV (.int .i64 ((sq : Nat) : Int)), IsV (.int .i64 ((rr : Nat) : Int)), IsV (.bool true), IsV (.bool true), IsV (.int .i64 ((qq : Nat) : Int)), IsV (.int .i64 ((g4 : Nat) : Int)), IsV (.bool false), IsV (.bool false), IsV (.int .i64 ((qq : Nat) : Int)), IsV (.int .i64 ((g4 : Nat) : Int)), IsV (.bool false), IsV (.bool false), IsV (.bool false)] [] ?_ ?_
      ·refine Rc (mv (Od.lit 5)) ?_
       refine Rc (mv (Od.lit 8)) ?_
       refine Rc (mv (Od.lit 8)) ?_
       refine Rc (bn (r := .int .i64 ((sq : Nat) : Int)) (Od.loc 1 33) (Od.loc 2 34) (hr := fun w => by have hx9 := HSQ.out; go_simp)) ?_
       refine Rc (bn (r := .int .i64 ((rr : Nat) : Int)) (Od.loc 0 32) (Od.loc 3 35) (hr := fun w => by have hx9 := HR.out.1; have hx8 := HR.out.2.1; have hx7 := HR.out.2.2; go_simp)) ?_
       refine Rc (bn (r := .bool true) (Od.loc 4 36) Od.con (hr := fun w => by have hx9 := HR0.out; go_simp)) ?_
       refine Rc (mv (Od.lc 5 37)) ?_
       refine RcG 6 38 true (mv (Od.lit 9)) ?_
       refine RcG 6 38 true (bn (r := .int .i64 ((g4 : Nat) : Int)) (Od.loc 7 39) Od.con (hr := fun w => by have hx9 := HG.out.1; have hx8 := HG.out.2; go_simp)) ?_
       refine RcG 6 38 true (bn (r := .bool false) (Od.loc 8 40) Od.con (hr := fun w => by have hx9 := HG0.out; go_simp)) ?_
       refine RcG 6 38 true (mv (Od.lc 9 41)) ?_
       refine RcG 10 42 false (mv (Od.lit 9)) ?_
       refine RcG 10 42 false (bn (r := .int .i64 ((g4 : Nat) : Int)) (Od.loc 11 43) Od.con (hr := fun w => by have hx9 := HG.out.1; have hx8 := HG.out.2; go_simp)) ?_
       refine RcG 10 42 false (bn (r := .bool false) (Od.loc 12 44) Od.con (hr := fun w => by have hx9 := HG3.out; go_simp)) ?_
       refine RcG 6 38 true (pk (Od.loc 10 42) (Od.lc 13 45)) ?_
       refine Rc (pk (Od.loc 6 38) (Od.lc 14 46)) ?_
       exact RgAll.nil
      intro v W15 e1 hΦ _
      replace S := S.mono e1
      have v15 : v 15 = .bool false := hΦ 15 (by decide)
      simp only [layL, Act.put, uAx, u0x, u1x, Nat.reduceAdd]
      rw [v15]
      clear v15 hΦ e1
      refine wpList_nil ?_
      have hx9 := HADD.out
      have S' := hid S; clear S
      go_wp2_with fail
      go_roundg (gk - 1)
      case measure => have := HHN.out; omega
      case rel => exact ⟨k, f, by rw [Int.natCast_add]; rfl, rfl, HCD.out, by have := HHN.out; omega, HKK2.out, by have := HHN.out; omega, S'⟩
   ·skip
    have HR0 := hid (show (((rr : Nat) : Int) == 0) = false by rw [beq_eq_false_iff_ne]; omega)
    have HCD := hid (show f = cdB n k by rw [hcd, if_neg (by rintro ⟨_, h1, h2⟩; exact hr0 h1)])
    clear hf hK1 hKn hg hk hK48 hsq hsqI hsqb hsqp hle hqq hrr hg4 hqn hrn hz hb htd htm hcd hisd HNI hr0
    go_upto_region 6 with (fail)
    refine rgs 5 [some 20, some 21, some 22, some 23, some 24] [IsV (.int .i64 ((k : Nat) : Int)), IsV (.int .i64 ((k : Nat) : Int)), IsV (.int .i64 ((sq : Nat) : Int)), IsV (.int .i64 ((n : Nat) : Int)), IsV (.bool true)] [] ?_ ?_
    ·refine Rc (mv (Od.lit 8)) ?_
     refine Rc (mv (Od.lit 8)) ?_
     refine Rc (bn (r := .int .i64 ((sq : Nat) : Int)) (Od.loc 0 20) (Od.loc 1 21) (hr := fun w => by have hx9 := HSQ.out; go_simp)) ?_
     refine Rc (mv (Od.lit 5)) ?_
     refine Rc (bn (r := .bool true) (Od.loc 2 22) (Od.loc 3 23) (hr := fun w => by have hx9 := HLE.out; go_simp)) ?_
     exact RgAll.nil
    intro v W16 e1 hΦ _
    replace S := S.mono e1
    have v4 : v 4 = .bool true := hΦ 4 (by decide)
    simp only [layL, Act.put, uAx, u0x, u1x, Nat.reduceAdd]
    rw [v4]
    clear v4 hΦ e1
    refine wpList_nil ?_
    go_upto_region 8 with (fail)
    refine rgs 6 [some 27, some 28, some 29, some 30, some 31, some 9] [IsV (.int .i64 ((n : Nat) : Int)), IsV (.int .i64 ((k : Nat) : Int)), IsV (.int .i64 ((k : Nat) : Int)), IsV (.int .i64 ((sq : Nat) : Int)), IsV (.int .i64 ((qq : Nat) : Int)), IsV (.int .i64 ((qq : Nat) : Int))] [] ?_ ?_
    ·refine Rc (mv (Od.lit 5)) ?_
     refine Rc (mv (Od.lit 8)) ?_
     refine Rc (mv (Od.lit 8)) ?_
     refine Rc (bn (r := .int .i64 ((sq : Nat) : Int)) (Od.loc 1 28) (Od.loc 2 29) (hr := fun w => by have hx9 := HSQ.out; go_simp)) ?_
     refine Rc (bn (r := .int .i64 ((qq : Nat) : Int)) (Od.loc 0 27) (Od.loc 3 30) (hr := fun w => by have hx9 := HQ.out.1; have hx8 := HQ.out.2.1; have hx7 := HQ.out.2.2; go_simp)) ?_
     refine Rc (mv (Od.lc 4 31)) ?_
     exact RgAll.nil
    intro v W17 e1 hΦ _
    replace S := S.mono e1
    have v5 : v 5 = .int .i64 ((qq : Nat) : Int) := hΦ 5 (by decide)
    simp only [layL, Act.put, uAx, u0x, u1x, Nat.reduceAdd]
    rw [v5]
    clear v5 hΦ e1
    refine wpList_nil ?_
    go_upto_region 9 with (fail)
    refine rgs 16 [some 32, some 33, some 34, some 35, some 36, some 37, some 38, some 39, some 40, some 41, some 42, some 43, some 44, some 45, some 46, some 47] [IsV (.int .i64 ((n : Nat) : Int)), IsV (.int .i64 ((k : Nat) : Int)), IsV (.int .i64 ((k : Nat) : Int)), IsV (.int .i64 ((sq : Nat) : Int)), IsV (.int .i64 ((rr : Nat) : Int)), IsV (.bool false), IsV (.bool false), IsV (undef), IsV (undef), IsV (undef), IsV (undef), IsV (undef), IsV (undef), IsV (undef), IsV (undef), IsV (.bool false)] [] ?_ ?_
    ·refine Rc (mv (Od.lit 5)) ?_
     refine Rc (mv (Od.lit 8)) ?_
     refine Rc (mv (Od.lit 8)) ?_
     refine Rc (bn (r := .int .i64 ((sq : Nat) : Int)) (Od.loc 1 33) (Od.loc 2 34) (hr := fun w => by have hx9 := HSQ.out; go_simp)) ?_
     refine Rc (bn (r := .int .i64 ((rr : Nat) : Int)) (Od.loc 0 32) (Od.loc 3 35) (hr := fun w => by have hx9 := HR.out.1; have hx8 := HR.out.2.1; have hx7 := HR.out.2.2; go_simp)) ?_
     refine Rc (bn (r := .bool false) (Od.loc 4 36) Od.con (hr := fun w => by have hx9 := HR0.out; go_simp)) ?_
     refine Rc (mv (Od.lc 5 37)) ?_
     refine RcN 6 38 false ?_
     refine RcN 6 38 false ?_
     refine RcN 6 38 false ?_
     refine RcN 6 38 false ?_
     refine RcU 10 42 false ?_
     refine RcU 10 42 false ?_
     refine RcU 10 42 false ?_
     refine RcN 6 38 false ?_
     refine Rc (pk (Od.loc 6 38) Od.con) ?_
     exact RgAll.nil
    intro v W18 e1 hΦ _
    replace S := S.mono e1
    have v15 : v 15 = .bool false := hΦ 15 (by decide)
    simp only [layL, Act.put, uAx, u0x, u1x, Nat.reduceAdd]
    rw [v15]
    clear v15 hΦ e1
    refine wpList_nil ?_
    have hx9 := HADD.out
    have S' := hid S; clear S
    go_wp2_with fail
    go_roundg (gk - 1)
    case measure => have := HHN.out; omega
    case rel => exact ⟨k, f, by rw [Int.natCast_add]; rfl, rfl, HCD.out, by have := HHN.out; omega, HKK2.out, by have := HHN.out; omega, S'⟩
  ·skip
   obtain rfl : K = L := sqrt_uniq hKn (by rw [hk, hsq]; omega) HL.out.1 HL.out.2
   have HGT := hid (show ((n : Nat) : Int) < ((sq : Nat) : Int) ∧ n < sq by omega)
   have hfb := cdB_pos n K; rw [← hf] at hfb
   have HFE := hid hf
   obtain ⟨ff, hff⟩ : ∃ s, f * f = s := ⟨_, rfl⟩
   have hffb : ff ≤ 4200000 ∧ 1 ≤ ff := by have h1 := Nat.mul_le_mul (show f ≤ 2049 by omega) (show f ≤ 2049 by omega); have h2 := Nat.mul_le_mul hfb.1 hfb.1; omega
   have HFF := hid (show IntKind.i64.wrap (((f : Nat) : Int) * ((f : Nat) : Int)) = ((ff : Nat) : Int) by rw [← Int.natCast_mul, hff]; simp only [IntKind.wrap_i64]; omega)
   obtain ⟨dq, hdq⟩ : ∃ q, (-((n : Nat) : Int)).tdiv ((ff : Nat) : Int) = q := ⟨_, rfl⟩
   have hdqb : -((n : Nat) : Int) ≤ dq ∧ dq ≤ 0 := by
    rw [← hdq, Int.neg_tdiv, Int.tdiv_eq_ediv_of_nonneg (by omega)]
    have h2 := Nat.div_le_self n ff
    have h1 : ((n : Nat) : Int) / ((ff : Nat) : Int) = (((n / ff : Nat) : Nat) : Int) := rfl
    rw [h1]; generalize n / ff = e at h2 ⊢
    omega
   have HNG := hid (show IntKind.i64.wrap (-((n : Nat) : Int)) = -((n : Nat) : Int) by simp only [IntKind.wrap_i64]; omega)
   have HDQ := hid (show (-((n : Nat) : Int)).tdiv ((ff : Nat) : Int) = dq ∧ IntKind.i64.wrap dq = dq ∧ ¬ ff = 0 from ⟨hdq, by simp only [IntKind.wrap_i64]; omega, by omega⟩)
   have HDB := hid (show (-9223372036854775808 ≤ dq ∧ dq ≤ 9223372036854775807) ∧ -9223372036854775808 ≤ ((f : Nat) : Int) ∧ ((f : Nat) : Int) ≤ 9223372036854775807 by omega)
   have HDE := hid (show dq = cdD n K by unfold cdD; rw [← hf, hff, hdq])
   clear hf hK1 hKn hg hk hK48 hsq hsqI hsqb hsqp hle hfb hff hffb hdq hdqb HNI
   go_upto_region 6 with (fail)
   refine rgs 5 [some 20, some 21, some 22, some 23, some 24] [IsV (.int .i64 ((k : Nat) : Int)), IsV (.int .i64 ((k : Nat) : Int)), IsV (.int .i64 ((sq : Nat) : Int)), IsV (.int .i64 ((n : Nat) : Int)), IsV (.bool false)] [] ?_ ?_
   ·refine Rc (mv (Od.lit 8)) ?_
    refine Rc (mv (Od.lit 8)) ?_
    refine Rc (bn (r := .int .i64 ((sq : Nat) : Int)) (Od.loc 0 20) (Od.loc 1 21) (hr := fun w => by have hx9 := HSQ.out; go_simp)) ?_
    refine Rc (mv (Od.lit 5)) ?_
    refine Rc (bn (r := .bool false) (Od.loc 2 22) (Od.loc 3 23) (hr := fun w => by have hx9 := HGT.out.1; have hx8 := HGT.out.2; go_simp)) ?_
    exact RgAll.nil
   intro v W19 e1 hΦ _
   replace S := S.mono e1
   have v4 : v 4 = .bool false := hΦ 4 (by decide)
   simp only [layL, Act.put, uAx, u0x, u1x, Nat.reduceAdd]
   rw [v4]
   clear v4 hΦ e1
   refine wpList_nil ?_
   go_upto_region 11 with (fail)
   refine rgs 9 [some 49, some 50, some 51, some 52, some 53, some 54, some 55, some 56, some 57] [IsV (.int .i64 ((n : Nat) : Int)), IsV (.int .i64 (-((n : Nat) : Int))), IsV (.int .i64 ((f : Nat) : Int)), IsV (.int .i64 ((f : Nat) : Int)), IsV (.int .i64 ((ff : Nat) : Int)), IsV (.int .i64 dq), IsI 2 dq, IsV (.int .i64 ((f : Nat) : Int)), IsI 2 (((f : Nat) : Int))] [] ?_ ?_
   ·refine Rc (mv (Od.lit 5)) ?_
    refine Rc (un (r := .int .i64 (-((n : Nat) : Int))) (Od.loc 0 49) (hr := fun w => by have hx9 := HNG.out; go_simp)) ?_
    refine Rc (mv (Od.lit 7)) ?_
    refine Rc (mv (Od.lit 7)) ?_
    refine Rc (bn (r := .int .i64 ((ff : Nat) : Int)) (Od.loc 2 51) (Od.loc 3 52) (hr := fun w => by have hx9 := HFF.out; go_simp)) ?_
    refine Rc (bn (r := .int .i64 dq) (Od.loc 1 50) (Od.loc 4 53) (hr := fun w => by have hx9 := HDQ.out.1; have hx8 := HDQ.out.2.1; have hx7 := HDQ.out.2.2; go_simp)) ?_
    refine Rc (cl1 (en Tryz.func75) (Od.lc (Φ := IsV (.int .i64 dq)) 5 54) (fun x0 w' hE d0 => by { obtain rfl : x0 = .int .i64 dq := d0; exact number_f _ dq HDB.out.1.1 HDB.out.1.2 })) ?_
    refine Rc (mv (Od.lit 7)) ?_
    refine Rc (cl1 (en Tryz.func75) (Od.lc (Φ := IsV (.int .i64 ((f : Nat) : Int))) 7 56) (fun x0 w' hE d0 => by { obtain rfl : x0 = .int .i64 ((f : Nat) : Int) := d0; exact number_f _ ((f : Nat) : Int) HDB.out.2.1 HDB.out.2.2 })) ?_
    exact RgAll.nil
   intro v W20 e1 hΦ _
   replace S := S.mono e1
   have h55 := hΦ 6 (by decide)
   have h57 := hΦ 8 (by decide)
   simp only [layL, Act.put, uAx, u0x, u1x, Nat.reduceAdd]
   clear hΦ e1
   try simp only [List.drop_succ_cons, List.drop_zero]
   (with_reducible refine stL ?_ (by rfl)); intro KK hKK; refine stI S 1 (w.heap.size + 1) 0 h55 st_Int (fun W21 S2 G2 => hKK _ _ ?_) rfl
   replace h57 := (IsI.gstb _ _) _ _ _ G2 h57
   replace S := S2; clear S2 G2 hKK KK h55
   simp only [u0x, u1x] at S
   try simp only [List.drop_succ_cons, List.drop_zero]
   (with_reducible refine stL ?_ (by rfl)); intro KK hKK; refine stI S 0 (w.heap.size + 1 + 1) 0 h57 st_Int (fun W22 S2 G2 => hKK _ _ ?_) rfl
   replace S := S2; clear S2 G2 hKK KK h57
   simp only [u0x] at S
   refine wpList_step fun K hK => ?_; go_simp; refine hK _ _ ?_; clear hK K
   refine wpList_nil ?_
   go_wp2_with fail
   obtain ⟨s90x, a90x, n90x, c90x, b90x, h90x⟩ := S.at 1 (w.heap.size + 1) 0 (IsI 2 dq) rfl; have L90xa : World.cell? W22 ⟨w.heap.size + 1, 0, none⟩ = some (.bool s90x) := b90x.c0; have L90xb : World.cell? W22 ⟨w.heap.size + 1, 1, none⟩ = some (.slice a90x n90x c90x) := b90x.c1
   obtain ⟨s91x, a91x, n91x, c91x, b91x, h91x⟩ := S.at 0 (w.heap.size + 1 + 1) 0 (IsI 2 (((f : Nat) : Int))) rfl; have L91xa : World.cell? W22 ⟨w.heap.size + 1 + 1, 0, none⟩ = some (.bool s91x) := b91x.c0; have L91xb : World.cell? W22 ⟨w.heap.size + 1 + 1, 1, none⟩ = some (.slice a91x n91x c91x) := b91x.c1
   exact bodyPost_ret (v := .tuple #[.agg #[.bool s90x, .slice a90x n90x c90x], .agg #[.bool s91x, .slice a91x n91x c91x], .int .i64 0]) (by simp [results, Tryz.results29, go_sem, L90xa, L90xb, L91xa, L91xb]) rfl (⟨_, rfl, S.ext, ⟨_, _, _, rfl, HDE.out ▸ h90x, HFE.out ▸ h91x, rfl⟩⟩)
end Go.Proofs.YtknffgdbdadpcaaGreatDoor
