/-
 Package density: Class, at a discriminant. (Printed by wip/gen/den14.py.)
-/
import Derived.Test.YtknffgdbdadpcaaGreatDoorDen13
namespace Go.Proofs.YtknffgdbdadpcaaGreatDoor
open Go Go.RowKit

section
variable {P : Program} {ops : Array Oper} {Q : Exit → Act → World → Prop} {o : Oper}
/-- A store into a box, with what lies outside it. -/
theorem stIe {w W : World} {B : List Fld} {a : Act} {K : Act → World → Prop} (S : Sto w W B) (j g q : Nat) {T k : Nat} {z : Int} {x y : Operand} {Φ : Value → World → Prop} {u : Value} (hu : IsI k z u W) (hT : StI P T) (h : ∀ W', Sto w W' (B.set j ((g, q), IsI k z)) → Gr W W' → (∀ w0 : World, Ext w0 W → w0.heap.size ≤ g → Ext w0 W') → K a W')
  (hB : B[j]? = some ((g, q), Φ)) (ho : o.op = .store T x y := by rfl) (hd : o.dst = none := by rfl) (hx : a.eval x = .pointer (some ⟨g, 2 * q, none⟩) := by kernel_rfl) (hy : a.eval y = u := by kernel_rfl) : Oper.wp P o a W K Q := by
 obtain ⟨s, a1, n, c, rfl, h1⟩ := hu
 obtain ⟨s0, a2, n0, c0, b, _⟩ := S.at j g q Φ hB
 obtain ⟨W', hW, S', G⟩ := S.put j g q Φ (IsI k z) hB s a1 n c (IsI.gstb _ _) ⟨_, _, _, _, rfl, h1⟩
 refine st_wp ho hx hy (hT W g (2 * q) _ _ _ _ _ _ _ _ b.c0 b.c1 b.f0 b.f1) ?_
 rw [← hW, hd]
 exact h W' S' G (fun w0 e hg => by rw [hW]; exact (e.set hg _).set hg _)
end
/-- The sum of Class. -/
def clsS (z : Int) : Nat → Int
 | 0 => 0
 | m + 1 => clsS z m - ((m : Nat) : Int) * kr z m
theorem kr_abs (z : Int) (m : Nat) : -1 ≤ kr z m ∧ kr z m ≤ 1 := by
 unfold kr
 split
 ·decide
 ·refine krF_le _ _ _ _ ?_
  split
  ·exact sg8_le _
  ·decide
theorem clsS_le (z : Int) : ∀ m : Nat, -(((m * m : Nat) : Nat) : Int) ≤ clsS z m ∧ clsS z m ≤ ((m * m : Nat) : Int)
 | 0 => by simp [clsS]
 | m + 1 => by
  have h := clsS_le z m
  have hk := kr_abs z m
  unfold clsS
  have h1 : (m + 1) * (m + 1) = m * m + 2 * m + 1 := by rw [Nat.add_mul, Nat.mul_add]; omega
  rw [h1]
  obtain h2 | h2 | h2 : kr z m = -1 ∨ kr z m = 0 ∨ kr z m = 1 := by omega
  all_goals rw [h2]; omega
theorem clsS_b (z : Int) {m : Nat} (h : m ≤ 4096) : -16777216 ≤ clsS z m ∧ clsS z m ≤ 16777216 := by
 have h1 := clsS_le z m
 have h2 : m * m ≤ 4096 * 4096 := Nat.mul_le_mul h h
 generalize m * m = x at h1 h2
 omega

set_option maxRecDepth 100000 in
set_option maxHeartbeats 4000000 in
theorem Class_a {k1 n : Nat} {x : Value} {w : World} (hx : IsI k1 (-((n : Nat) : Int)) x w) (HK : Hid (k1 ≤ 162)) (HNN : Hid (1 ≤ n ∧ n ≤ 4194304 ∧ (n % 4 = 0 ∨ n % 4 = 3))) {c4 : Int} (HC4 : Hid (cmpI (-((n : Nat) : Int)) (-4) = c4)) (HC4B : Hid (decide (0 ≤ c4) = true)) : Calls Tryz.prog 18 #[x] w (Ret w (IsT2 (IsV auNil) (IsV (.int .i64 5)))) := by
 obtain ⟨s1, a1, n1, c1, rfl, h1⟩ := hx
 have h1 : IsI _ _ _ w := ⟨_, _, _, _, rfl, h1⟩
 obtain ⟨W, hW, S, AB⟩ : ∃ W, W = (w.alloc (.cells #[.bool s1, .slice a1 n1 c1] 33)).alloc (.cells #[.slice none 0 0, .bool false, .slice none 0 0, .bool false, .slice none 0 0] 48) ∧ Sto w W [((w.heap.size, 0), IsI k1 (-((n : Nat) : Int)))] ∧ AuBox W (w.heap.size + 1) := ⟨_, rfl, (((Sto.start w).new1 (w.heap.size) (by simp) s1 a1 n1 c1 33 (IsI k1 (-((n : Nat) : Int))) (IsI.gstb _ _) (h1)).mono ((Ext.refl _).alloc _)), AuBox.newE _ _ (by simp)⟩
 clear h1
 have EA := Ext.refl W
 go_enter Tryz.func18, Tryz.ntmps18
 go_upto_region 1 with (fail)
 rw [← hW]
 clear hW
 refine rg 10 [some 14, some 15, some 16, some 17, some 18, some 19, some 20, some 21, some 22, some 13] [IsI k1 (-((n : Nat) : Int)), IsV (.int .i64 0), IsV (.bool false), IsV (.bool false), IsI k1 (-((n : Nat) : Int)), IsI 2 (-4), IsV (.int .i64 c4), IsV (.bool true), IsV (.bool true), IsV (.bool true)] [] 0 ?_ ?_
 ·refine Rc (ldI S 0 (w.heap.size) 0 (Od.lit 1) ld_Int) ?_
  refine Rc (cl1 (en Tryz.func61) (Od.lc (Φ := IsI k1 (-((n : Nat) : Int))) 0 14) (fun x0 w' hE d0 => drefused_f d0 (by have := HK.out; omega) HNN.out)) ?_
  refine Rc (bn (r := .bool false) (Od.loc 1 15) Od.con (hr := fun w => by go_simp)) ?_
  refine Rc (mv (Od.lc 2 16)) ?_
  refine RcG 3 17 false (ldI S 0 (w.heap.size) 0 (Od.lit 1) ld_Int) ?_
  refine RcG 3 17 false (cl1 (en Tryz.func41) Od.con (fun x0 w' hE d0 => by { obtain rfl : x0 = .int .i64 (-4) := d0; exact Of_f _ (-4) (by decide) (by decide) })) ?_
  refine RcG 3 17 false (cl2 (en Tryz.func52) (Od.lc (Φ := IsI k1 (-((n : Nat) : Int))) 4 18) (Od.lc (Φ := IsI 2 (-4)) 5 19) (fun x0 x1 w' hE d0 d1 => Calls.mono (Cmp_f d0 d1 (by have := HK.out; omega) (by decide)) fun _ _ h => h.int HC4.out)) ?_
  refine RcG 3 17 false (bn (r := .bool true) (Od.loc 6 20) Od.con (hr := fun w => by have hx9 := HC4B.out; go_simp)) ?_
  refine Rc (pk (Od.loc 3 17) (Od.lc 7 21)) ?_
  refine Rc (mv (Od.lc 8 22)) ?_
  exact RgAll.nil
 intro v W1 e1 hΦ _
 replace S := S.mono e1
 replace EA := EA.trans e1
 have v9 : v 9 = .bool true := hΦ 9 (by decide)
 simp only [layL, Act.put, uAx, u0x, u1x, Nat.reduceAdd]
 rw [v9]
 clear v9 hΦ e1
 refine wpAny_done (by kernel_rfl) ?_ _
 go_upto_region 2 with (fail)
 have AB9 := AB.ext EA
 have M0 := AB9.m0
 have M1 := AB9.m1
 have M2 := AB9.m2
 have M3 := AB9.m3
 have M4 := AB9.m4
 have N0 := AB9.f 0
 have N1 := AB9.f 1
 have N2 := AB9.f 2
 have N3 := AB9.f 3
 have N4 := AB9.f 4
 have HE := hid S.ext
 clear S EA AB
 go_wp2_with fail
 obtain ⟨W9, hW9, hAt, hbel, _, _⟩ := au_put AB9 none 0 0 false none 0 0 false none 0 0
 rw [hW9]
 have c0 := hAt.m0
 have c1 := hAt.m1
 have c2 := hAt.m2
 have c3 := hAt.m3
 have c4 := hAt.m4
 exact bodyPost_ret (v := .tuple #[auNil, .int .i64 5]) (by simp [results, Tryz.results18, go_sem, c0, c1, c2, c3, c4, auNil]) rfl ⟨_, rfl, hbel _ _ HE.out (by omega), _, _, rfl, rfl, rfl⟩

set_option maxRecDepth 100000 in
set_option maxHeartbeats 4000000 in
theorem Class_n {k1 n : Nat} {x : Value} {w : World} (hx : IsI k1 (-((n : Nat) : Int)) x w) (HK : Hid (k1 ≤ 162)) (HNN : Hid (1 ≤ n ∧ n ≤ 4194304 ∧ (n % 4 = 0 ∨ n % 4 = 3))) {c4 : Int} (HC4 : Hid (cmpI (-((n : Nat) : Int)) (-4) = c4)) (HC4B : Hid (decide (0 ≤ c4) = false)) {c9 : Int} (HC9 : Hid (cmpI (-((n : Nat) : Int)) (-4096) = c9)) (HC9B : Hid (decide (c9 < 0) = false)) {L : Nat} (HL : Hid (L * L ≤ n ∧ n < (L + 1) * (L + 1))) {cf : Int} (HCF : Hid (cmpI ((cdB n L : Nat) : Int) 1 = cf)) (HCFB : Hid ((cf != 0) = true)) : Calls Tryz.prog 18 #[x] w (Ret w (IsT2 (IsV auNil) (IsV (.int .i64 5)))) := by
 obtain ⟨s1, a1, n1, c1, rfl, h1⟩ := hx
 have h1 : IsI _ _ _ w := ⟨_, _, _, _, rfl, h1⟩
 obtain ⟨W, hW, S, AB⟩ : ∃ W, W = (w.alloc (.cells #[.bool s1, .slice a1 n1 c1] 33)).alloc (.cells #[.slice none 0 0, .bool false, .slice none 0 0, .bool false, .slice none 0 0] 48) ∧ Sto w W [((w.heap.size, 0), IsI k1 (-((n : Nat) : Int)))] ∧ AuBox W (w.heap.size + 1) := ⟨_, rfl, (((Sto.start w).new1 (w.heap.size) (by simp) s1 a1 n1 c1 33 (IsI k1 (-((n : Nat) : Int))) (IsI.gstb _ _) (h1)).mono ((Ext.refl _).alloc _)), AuBox.newE _ _ (by simp)⟩
 clear h1
 have EA := Ext.refl W
 go_enter Tryz.func18, Tryz.ntmps18
 go_upto_region 1 with (fail)
 rw [← hW]
 clear hW
 refine rg 10 [some 14, some 15, some 16, some 17, some 18, some 19, some 20, some 21, some 22, some 13] [IsI k1 (-((n : Nat) : Int)), IsV (.int .i64 0), IsV (.bool false), IsV (.bool false), IsI k1 (-((n : Nat) : Int)), IsI 2 (-4), IsV (.int .i64 c4), IsV (.bool false), IsV (.bool false), IsV (.bool false)] [] 0 ?_ ?_
 ·refine Rc (ldI S 0 (w.heap.size) 0 (Od.lit 1) ld_Int) ?_
  refine Rc (cl1 (en Tryz.func61) (Od.lc (Φ := IsI k1 (-((n : Nat) : Int))) 0 14) (fun x0 w' hE d0 => drefused_f d0 (by have := HK.out; omega) HNN.out)) ?_
  refine Rc (bn (r := .bool false) (Od.loc 1 15) Od.con (hr := fun w => by go_simp)) ?_
  refine Rc (mv (Od.lc 2 16)) ?_
  refine RcG 3 17 false (ldI S 0 (w.heap.size) 0 (Od.lit 1) ld_Int) ?_
  refine RcG 3 17 false (cl1 (en Tryz.func41) Od.con (fun x0 w' hE d0 => by { obtain rfl : x0 = .int .i64 (-4) := d0; exact Of_f _ (-4) (by decide) (by decide) })) ?_
  refine RcG 3 17 false (cl2 (en Tryz.func52) (Od.lc (Φ := IsI k1 (-((n : Nat) : Int))) 4 18) (Od.lc (Φ := IsI 2 (-4)) 5 19) (fun x0 x1 w' hE d0 d1 => Calls.mono (Cmp_f d0 d1 (by have := HK.out; omega) (by decide)) fun _ _ h => h.int HC4.out)) ?_
  refine RcG 3 17 false (bn (r := .bool false) (Od.loc 6 20) Od.con (hr := fun w => by have hx9 := HC4B.out; go_simp)) ?_
  refine Rc (pk (Od.loc 3 17) (Od.lc 7 21)) ?_
  refine Rc (mv (Od.lc 8 22)) ?_
  exact RgAll.nil
 intro v W1 e1 hΦ _
 replace S := S.mono e1
 replace EA := EA.trans e1
 have v9 : v 9 = .bool false := hΦ 9 (by decide)
 simp only [layL, Act.put, uAx, u0x, u1x, Nat.reduceAdd]
 rw [v9]
 clear v9 hΦ e1
 refine wpAny_done (by kernel_rfl) ?_ _
 go_upto_region 3 with (fail)
 refine rg 5 [some 25, some 26, some 27, some 28, some 24] [IsI k1 (-((n : Nat) : Int)), IsI 2 (-4096), IsV (.int .i64 c9), IsV (.bool false), IsV (.bool false)] [] 0 ?_ ?_
 ·refine Rc (ldI S 0 (w.heap.size) 0 (Od.lit 1) ld_Int) ?_
  refine Rc (cl1 (en Tryz.func41) Od.con (fun x0 w' hE d0 => by { obtain rfl : x0 = .int .i64 (-4096) := d0; exact Of_f _ (-4096) (by decide) (by decide) })) ?_
  refine Rc (cl2 (en Tryz.func52) (Od.lc (Φ := IsI k1 (-((n : Nat) : Int))) 0 25) (Od.lc (Φ := IsI 2 (-4096)) 1 26) (fun x0 x1 w' hE d0 d1 => Calls.mono (Cmp_f d0 d1 (by have := HK.out; omega) (by decide)) fun _ _ h => h.int HC9.out)) ?_
  refine Rc (bn (r := .bool false) (Od.loc 2 27) Od.con (hr := fun w => by have hx9 := HC9B.out; go_simp)) ?_
  refine Rc (mv (Od.lc 3 28)) ?_
  exact RgAll.nil
 intro v W2 e1 hΦ _
 replace S := S.mono e1
 replace EA := EA.trans e1
 have v4 : v 4 = .bool false := hΦ 4 (by decide)
 simp only [layL, Act.put, uAx, u0x, u1x, Nat.reduceAdd]
 rw [v4]
 clear v4 hΦ e1
 refine wpAny_done (by kernel_rfl) ?_ _
 go_upto_region 5 with (fail)
 have hl := hid S.lt; have hw := S.ext.size
 have EAz := EA.size
 refine rgs 8 [some 31, some 32, some 30, some 33, some 34, some 35, some 4, some 5] [IsI k1 (-((n : Nat) : Int)), IsT3 (IsI 2 (cdD n L)) (IsI 2 (((cdB n L : Nat) : Int))) (IsV (.int .i64 0)), IsT3 (IsI 2 (cdD n L)) (IsI 2 (((cdB n L : Nat) : Int))) (IsV (.int .i64 0)), IsI 2 (cdD n L), IsI 2 (((cdB n L : Nat) : Int)), IsV (.int .i64 0), IsBo W2 1, IsBo W2 1] [6, 7] ?_ ?_
 ·refine Rc (ldI S 0 (w.heap.size) 0 (Od.lit 1) ld_Int) ?_
  refine Rc (cl1 (en Tryz.func29) (Od.lc (Φ := IsI k1 (-((n : Nat) : Int))) 0 31) (fun x0 w' hE d0 => Conductor_f d0 (by have := HK.out; omega) HNN.out HL.out)) ?_
  refine Rc (mv (Od.lc 1 32)) ?_
  refine Rc (ex (Od.loc 2 30) t30) ?_
  refine Rc (ex (Od.loc 2 30) t31) ?_
  refine Rc (ex (Od.loc 2 30) t32) ?_
  refine Rc (al al_Int) ?_
  refine Rc (al al_Int) ?_
  exact RgAll.nil
 intro v W3 e1 hΦ hne
 replace S := S.mono e1
 replace EA := EA.trans e1
 have h33 := hΦ 3 (by decide)
 have h34 := hΦ 4 (by decide)
 have v5 : v 5 = .int .i64 0 := hΦ 5 (by decide)
 obtain ⟨g4, v6, q2, b1, _⟩ := (hΦ 6 (by decide) : IsBo W2 1 (v 6) W3)
 replace S := S.addN 1 (ApartO.old hl.out q2) (Nat.le_trans hw q2) b1
 obtain ⟨g5, v7, q4, b3, _⟩ := (hΦ 7 (by decide) : IsBo W2 1 (v 7) W3)
 replace S := S.addN 1 (ApartO.cons (fun h => hne 6 7 (by decide) (by decide) (by decide) (by decide) (by decide) (by rw [v6, v7, h])) (ApartO.old hl.out q4)) (Nat.le_trans hw q4) b3
 simp only [newF, List.cons_append, List.nil_append] at S
 simp only [layL, Act.put, uAx, u0x, u1x, Nat.reduceAdd]
 rw [v5, v6, v7]
 clear b1 b3 hl hw hne v5 v6 v7 hΦ e1
 try simp only [List.drop_succ_cons, List.drop_zero]
 (with_reducible refine stL ?_ (by rfl)); intro KK hKK; refine stIe S 1 (g4) 0 h33 st_Int (fun W4 S2 G2 X2 => hKK _ _ ?_) rfl
 replace h34 := (IsI.gstb _ _) _ _ _ G2 h34
 replace EA := X2 _ EA (Nat.le_trans EAz q2); clear X2
 replace S := S2; clear S2 G2 hKK KK h33
 simp only [u0x, u1x] at S
 try simp only [List.drop_succ_cons, List.drop_zero]
 (with_reducible refine stL ?_ (by rfl)); intro KK hKK; refine stIe S 0 (g5) 0 h34 st_Int (fun W5 S2 G2 X2 => hKK _ _ ?_) rfl
 replace EA := X2 _ EA (Nat.le_trans EAz q4); clear X2
 replace S := S2; clear S2 G2 hKK KK h34
 simp only [u0x] at S
 refine wpList_step fun K hK => ?_; go_simp; refine hK _ _ ?_; clear hK K
 refine wpList_nil ?_
 go_upto_region 6 with (fail)
 refine rg 4 [some 36, some 37, some 38, some 39] [IsI 2 (((cdB n L : Nat) : Int)), IsI 2 1, IsV (.int .i64 cf), IsV (.bool true)] [] 0 ?_ ?_
 ·refine Rc (ldI S 0 (g5) 0 (Od.lit 5) ld_Int) ?_
  refine Rc (cl1 (en Tryz.func41) Od.con (fun x0 w' hE d0 => by { obtain rfl : x0 = .int .i64 1 := d0; exact Of_f _ 1 (by decide) (by decide) })) ?_
  refine Rc (cl2 (en Tryz.func52) (Od.lc (Φ := IsI 2 (((cdB n L : Nat) : Int))) 0 36) (Od.lc (Φ := IsI 2 1) 1 37) (fun x0 x1 w' hE d0 d1 => Calls.mono (Cmp_f d0 d1 (by decide) (by decide)) fun _ _ h => h.int HCF.out)) ?_
  refine Rc (bn (r := .bool true) (Od.loc 2 38) Od.con (hr := fun w => by have hx9 := HCFB.out; go_simp)) ?_
  exact RgAll.nil
 intro v W6 e1 hΦ _
 replace S := S.mono e1
 replace EA := EA.trans e1
 have v3 : v 3 = .bool true := hΦ 3 (by decide)
 simp only [layL, Act.put, uAx, u0x, u1x, Nat.reduceAdd]
 rw [v3]
 clear v3 hΦ e1
 refine wpAny_done (by kernel_rfl) ?_ _
 go_upto_region 7 with (fail)
 have AB9 := AB.ext EA
 have M0 := AB9.m0
 have M1 := AB9.m1
 have M2 := AB9.m2
 have M3 := AB9.m3
 have M4 := AB9.m4
 have N0 := AB9.f 0
 have N1 := AB9.f 1
 have N2 := AB9.f 2
 have N3 := AB9.f 3
 have N4 := AB9.f 4
 have HE := hid S.ext
 clear S EA AB
 go_wp2_with fail
 obtain ⟨W9, hW9, hAt, hbel, _, _⟩ := au_put AB9 none 0 0 false none 0 0 false none 0 0
 rw [hW9]
 have c0 := hAt.m0
 have c1 := hAt.m1
 have c2 := hAt.m2
 have c3 := hAt.m3
 have c4 := hAt.m4
 exact bodyPost_ret (v := .tuple #[auNil, .int .i64 5]) (by simp [results, Tryz.results18, go_sem, c0, c1, c2, c3, c4, auNil]) rfl ⟨_, rfl, hbel _ _ HE.out (by omega), _, _, rfl, rfl, rfl⟩

set_option maxRecDepth 100000 in
set_option maxHeartbeats 4000000 in
theorem Class_k {k1 n : Nat} {x : Value} {w : World} (hx : IsI k1 (-((n : Nat) : Int)) x w) (HK : Hid (k1 ≤ 162)) (HNN : Hid (1 ≤ n ∧ n ≤ 4194304 ∧ (n % 4 = 0 ∨ n % 4 = 3))) {c4 : Int} (HC4 : Hid (cmpI (-((n : Nat) : Int)) (-4) = c4)) (HC4B : Hid (decide (0 ≤ c4) = false)) {c9 : Int} (HC9 : Hid (cmpI (-((n : Nat) : Int)) (-4096) = c9)) (HC9B : Hid (decide (c9 < 0) = false)) {L : Nat} (HL : Hid (L * L ≤ n ∧ n < (L + 1) * (L + 1))) {cf : Int} (HCF : Hid (cmpI ((cdB n L : Nat) : Int) 1 = cf)) (HCFB : Hid ((cf != 0) = false)) (HNB : Hid (n ≤ 4096)) (HT : Hid (Tab w)) (tn : ByteArray) (HTN : Hid (encS (textS (-((n : Nat) : Int))) = .string tn ∧ textE (-((n : Nat) : Int)) = 0 ∧ tn.size ≤ 1000)) (HSG : Hid (Sg w)) : Calls Tryz.prog 18 #[x] w (Ret w (IsT2 (AuV ((⟨#[99, 58]⟩ : ByteArray) ++ tn) 4 1 (Rat.divInt ((clsS (-((n : Nat) : Int)) n).tdiv ((n : Nat) : Int)) 1)) (IsV (.int .i64 0)))) := by
 obtain ⟨s1, a1, n1, c1, rfl, h1⟩ := hx
 have h1 : IsI _ _ _ w := ⟨_, _, _, _, rfl, h1⟩
 obtain ⟨W, hW, S, AB⟩ : ∃ W, W = (w.alloc (.cells #[.bool s1, .slice a1 n1 c1] 33)).alloc (.cells #[.slice none 0 0, .bool false, .slice none 0 0, .bool false, .slice none 0 0] 48) ∧ Sto w W [((w.heap.size, 0), IsI k1 (-((n : Nat) : Int)))] ∧ AuBox W (w.heap.size + 1) := ⟨_, rfl, (((Sto.start w).new1 (w.heap.size) (by simp) s1 a1 n1 c1 33 (IsI k1 (-((n : Nat) : Int))) (IsI.gstb _ _) (h1)).mono ((Ext.refl _).alloc _)), AuBox.newE _ _ (by simp)⟩
 clear h1
 have EA := Ext.refl W
 go_enter Tryz.func18, Tryz.ntmps18
 go_upto_region 1 with (fail)
 rw [← hW]
 clear hW
 refine rg 10 [some 14, some 15, some 16, some 17, some 18, some 19, some 20, some 21, some 22, some 13] [IsI k1 (-((n : Nat) : Int)), IsV (.int .i64 0), IsV (.bool false), IsV (.bool false), IsI k1 (-((n : Nat) : Int)), IsI 2 (-4), IsV (.int .i64 c4), IsV (.bool false), IsV (.bool false), IsV (.bool false)] [] 0 ?_ ?_
 ·refine Rc (ldI S 0 (w.heap.size) 0 (Od.lit 1) ld_Int) ?_
  refine Rc (cl1 (en Tryz.func61) (Od.lc (Φ := IsI k1 (-((n : Nat) : Int))) 0 14) (fun x0 w' hE d0 => drefused_f d0 (by have := HK.out; omega) HNN.out)) ?_
  refine Rc (bn (r := .bool false) (Od.loc 1 15) Od.con (hr := fun w => by go_simp)) ?_
  refine Rc (mv (Od.lc 2 16)) ?_
  refine RcG 3 17 false (ldI S 0 (w.heap.size) 0 (Od.lit 1) ld_Int) ?_
  refine RcG 3 17 false (cl1 (en Tryz.func41) Od.con (fun x0 w' hE d0 => by { obtain rfl : x0 = .int .i64 (-4) := d0; exact Of_f _ (-4) (by decide) (by decide) })) ?_
  refine RcG 3 17 false (cl2 (en Tryz.func52) (Od.lc (Φ := IsI k1 (-((n : Nat) : Int))) 4 18) (Od.lc (Φ := IsI 2 (-4)) 5 19) (fun x0 x1 w' hE d0 d1 => Calls.mono (Cmp_f d0 d1 (by have := HK.out; omega) (by decide)) fun _ _ h => h.int HC4.out)) ?_
  refine RcG 3 17 false (bn (r := .bool false) (Od.loc 6 20) Od.con (hr := fun w => by have hx9 := HC4B.out; go_simp)) ?_
  refine Rc (pk (Od.loc 3 17) (Od.lc 7 21)) ?_
  refine Rc (mv (Od.lc 8 22)) ?_
  exact RgAll.nil
 intro v W1 e1 hΦ _
 replace S := S.mono e1
 replace EA := EA.trans e1
 have v9 : v 9 = .bool false := hΦ 9 (by decide)
 simp only [layL, Act.put, uAx, u0x, u1x, Nat.reduceAdd]
 rw [v9]
 clear v9 hΦ e1
 refine wpAny_done (by kernel_rfl) ?_ _
 go_upto_region 3 with (fail)
 refine rg 5 [some 25, some 26, some 27, some 28, some 24] [IsI k1 (-((n : Nat) : Int)), IsI 2 (-4096), IsV (.int .i64 c9), IsV (.bool false), IsV (.bool false)] [] 0 ?_ ?_
 ·refine Rc (ldI S 0 (w.heap.size) 0 (Od.lit 1) ld_Int) ?_
  refine Rc (cl1 (en Tryz.func41) Od.con (fun x0 w' hE d0 => by { obtain rfl : x0 = .int .i64 (-4096) := d0; exact Of_f _ (-4096) (by decide) (by decide) })) ?_
  refine Rc (cl2 (en Tryz.func52) (Od.lc (Φ := IsI k1 (-((n : Nat) : Int))) 0 25) (Od.lc (Φ := IsI 2 (-4096)) 1 26) (fun x0 x1 w' hE d0 d1 => Calls.mono (Cmp_f d0 d1 (by have := HK.out; omega) (by decide)) fun _ _ h => h.int HC9.out)) ?_
  refine Rc (bn (r := .bool false) (Od.loc 2 27) Od.con (hr := fun w => by have hx9 := HC9B.out; go_simp)) ?_
  refine Rc (mv (Od.lc 3 28)) ?_
  exact RgAll.nil
 intro v W2 e1 hΦ _
 replace S := S.mono e1
 replace EA := EA.trans e1
 have v4 : v 4 = .bool false := hΦ 4 (by decide)
 simp only [layL, Act.put, uAx, u0x, u1x, Nat.reduceAdd]
 rw [v4]
 clear v4 hΦ e1
 refine wpAny_done (by kernel_rfl) ?_ _
 go_upto_region 5 with (fail)
 have hl := hid S.lt; have hw := S.ext.size
 have EAz := EA.size
 refine rgs 8 [some 31, some 32, some 30, some 33, some 34, some 35, some 4, some 5] [IsI k1 (-((n : Nat) : Int)), IsT3 (IsI 2 (cdD n L)) (IsI 2 (((cdB n L : Nat) : Int))) (IsV (.int .i64 0)), IsT3 (IsI 2 (cdD n L)) (IsI 2 (((cdB n L : Nat) : Int))) (IsV (.int .i64 0)), IsI 2 (cdD n L), IsI 2 (((cdB n L : Nat) : Int)), IsV (.int .i64 0), IsBo W2 1, IsBo W2 1] [6, 7] ?_ ?_
 ·refine Rc (ldI S 0 (w.heap.size) 0 (Od.lit 1) ld_Int) ?_
  refine Rc (cl1 (en Tryz.func29) (Od.lc (Φ := IsI k1 (-((n : Nat) : Int))) 0 31) (fun x0 w' hE d0 => Conductor_f d0 (by have := HK.out; omega) HNN.out HL.out)) ?_
  refine Rc (mv (Od.lc 1 32)) ?_
  refine Rc (ex (Od.loc 2 30) t30) ?_
  refine Rc (ex (Od.loc 2 30) t31) ?_
  refine Rc (ex (Od.loc 2 30) t32) ?_
  refine Rc (al al_Int) ?_
  refine Rc (al al_Int) ?_
  exact RgAll.nil
 intro v W3 e1 hΦ hne
 replace S := S.mono e1
 replace EA := EA.trans e1
 have h33 := hΦ 3 (by decide)
 have h34 := hΦ 4 (by decide)
 have v5 : v 5 = .int .i64 0 := hΦ 5 (by decide)
 obtain ⟨g4, v6, q2, b1, _⟩ := (hΦ 6 (by decide) : IsBo W2 1 (v 6) W3)
 replace S := S.addN 1 (ApartO.old hl.out q2) (Nat.le_trans hw q2) b1
 obtain ⟨g5, v7, q4, b3, _⟩ := (hΦ 7 (by decide) : IsBo W2 1 (v 7) W3)
 replace S := S.addN 1 (ApartO.cons (fun h => hne 6 7 (by decide) (by decide) (by decide) (by decide) (by decide) (by rw [v6, v7, h])) (ApartO.old hl.out q4)) (Nat.le_trans hw q4) b3
 simp only [newF, List.cons_append, List.nil_append] at S
 simp only [layL, Act.put, uAx, u0x, u1x, Nat.reduceAdd]
 rw [v5, v6, v7]
 clear b1 b3 hl hw hne v5 v6 v7 hΦ e1
 try simp only [List.drop_succ_cons, List.drop_zero]
 (with_reducible refine stL ?_ (by rfl)); intro KK hKK; refine stIe S 1 (g4) 0 h33 st_Int (fun W4 S2 G2 X2 => hKK _ _ ?_) rfl
 replace h34 := (IsI.gstb _ _) _ _ _ G2 h34
 replace EA := X2 _ EA (Nat.le_trans EAz q2); clear X2
 replace S := S2; clear S2 G2 hKK KK h33
 simp only [u0x, u1x] at S
 try simp only [List.drop_succ_cons, List.drop_zero]
 (with_reducible refine stL ?_ (by rfl)); intro KK hKK; refine stIe S 0 (g5) 0 h34 st_Int (fun W5 S2 G2 X2 => hKK _ _ ?_) rfl
 replace EA := X2 _ EA (Nat.le_trans EAz q4); clear X2
 replace S := S2; clear S2 G2 hKK KK h34
 simp only [u0x] at S
 refine wpList_step fun K hK => ?_; go_simp; refine hK _ _ ?_; clear hK K
 refine wpList_nil ?_
 go_upto_region 6 with (fail)
 refine rg 4 [some 36, some 37, some 38, some 39] [IsI 2 (((cdB n L : Nat) : Int)), IsI 2 1, IsV (.int .i64 cf), IsV (.bool false)] [] 0 ?_ ?_
 ·refine Rc (ldI S 0 (g5) 0 (Od.lit 5) ld_Int) ?_
  refine Rc (cl1 (en Tryz.func41) Od.con (fun x0 w' hE d0 => by { obtain rfl : x0 = .int .i64 1 := d0; exact Of_f _ 1 (by decide) (by decide) })) ?_
  refine Rc (cl2 (en Tryz.func52) (Od.lc (Φ := IsI 2 (((cdB n L : Nat) : Int))) 0 36) (Od.lc (Φ := IsI 2 1) 1 37) (fun x0 x1 w' hE d0 d1 => Calls.mono (Cmp_f d0 d1 (by decide) (by decide)) fun _ _ h => h.int HCF.out)) ?_
  refine Rc (bn (r := .bool false) (Od.loc 2 38) Od.con (hr := fun w => by have hx9 := HCFB.out; go_simp)) ?_
  exact RgAll.nil
 intro v W6 e1 hΦ _
 replace S := S.mono e1
 replace EA := EA.trans e1
 have v3 : v 3 = .bool false := hΦ 3 (by decide)
 simp only [layL, Act.put, uAx, u0x, u1x, Nat.reduceAdd]
 rw [v3]
 clear v3 hΦ e1
 refine wpAny_done (by kernel_rfl) ?_ _
 go_upto_region 8 with (fail)
 refine rgs 7 [some 42, some 43, some 41, some 44, some 45, some 7, some 8] [IsI k1 (-((n : Nat) : Int)), IsT2 (IsV (.int .i64 (-((n : Nat) : Int)))) (IsV (.bool true)), IsT2 (IsV (.int .i64 (-((n : Nat) : Int)))) (IsV (.bool true)), IsV (.int .i64 (-((n : Nat) : Int))), IsV (.bool true), IsV (.int .i64 (-((n : Nat) : Int))), IsV (.bool true)] [] ?_ ?_
 ·refine Rc (ldI S 2 (w.heap.size) 0 (Od.lit 1) ld_Int) ?_
  refine Rc (cl1 (en Tryz.func42) (Od.lc (Φ := IsI k1 (-((n : Nat) : Int))) 0 42) (fun x0 w' hE d0 => Low_t d0 (by have := HNB.out; omega) (by have := HNB.out; omega))) ?_
  refine Rc (mv (Od.lc 1 43)) ?_
  refine Rc (ex (Od.loc 2 41) t20) ?_
  refine Rc (ex (Od.loc 2 41) t21) ?_
  refine Rc (mv (Od.lc 3 44)) ?_
  refine Rc (mv (Od.lc 4 45)) ?_
  exact RgAll.nil
 intro v W7 e1 hΦ _
 replace S := S.mono e1
 replace EA := EA.trans e1
 have v5 : v 5 = .int .i64 (-((n : Nat) : Int)) := hΦ 5 (by decide)
 simp only [layL, Act.put, uAx, u0x, u1x, Nat.reduceAdd]
 rw [v5]
 clear v5 hΦ e1
 refine wpList_nil ?_
 go_upto_region 9 with (fail)
 refine rgs 1 [some 9] [IsV (.int .i64 0)] [] ?_ ?_
 ·refine Rc (mv Od.con) ?_
  exact RgAll.nil
 intro v W8 e1 hΦ _
 replace S := S.mono e1
 replace EA := EA.trans e1
 have v0 : v 0 = .int .i64 0 := hΦ 0 (by decide)
 simp only [layL, Act.put, uAx, u0x, u1x]
 rw [v0]
 clear v0 hΦ e1
 refine wpList_nil ?_
 go_upto_region 10 with (fail)
 refine rgs 1 [some 10] [IsV (.int .i64 1)] [] ?_ ?_
 ·refine Rc (mv Od.con) ?_
  exact RgAll.nil
 intro v W9 e1 hΦ _
 replace S := S.mono e1
 replace EA := EA.trans e1
 have v0 : v 0 = .int .i64 1 := hΦ 0 (by decide)
 simp only [layL, Act.put, uAx, u0x, u1x]
 rw [v0]
 clear v0 hΦ e1
 refine wpList_nil ?_
 go_wp2_with fail
 have S0 := hid (And.intro S EA); clear S EA
 go_loopg [9, 10] (n - 1) (fun gk v9 v10 wr => ∃ m : Nat, v10 = .int .i64 ((m : Nat) : Int) ∧ v9 = .int .i64 (clsS (-((n : Nat) : Int)) m) ∧ 1 ≤ m ∧ m + gk = n ∧ Hid (Sto w wr [((g5, 0), IsI 2 (((cdB n L : Nat) : Int))), ((g4, 0), IsI 2 (cdD n L)), ((w.heap.size, 0), IsI k1 (-((n : Nat) : Int)))] ∧ Ext W wr))
 case atStart => exact ⟨1, rfl, by simp [clsS], Nat.le_refl _, by have := HNN.out.1; omega, S0⟩
 case round =>
  clear S0
  obtain ⟨m, rfl, rfl, hm1, hmg, S9⟩ := hrel
  obtain ⟨S, EA⟩ := S9.out
  have hsb := clsS_b (-((n : Nat) : Int)) (m := m) (by have := HNB.out; omega)
  have hkb := kr_abs (-((n : Nat) : Int)) m
  obtain ⟨s, hs⟩ : ∃ s, clsS (-((n : Nat) : Int)) m = s := ⟨_, rfl⟩
  obtain ⟨u, hu⟩ : ∃ u, kr (-((n : Nat) : Int)) m = u := ⟨_, rfl⟩
  rw [hs] at hsb ⊢
  rw [hu] at hkb
  have HU := hid hu
  have hn2 := HNB.out
  have HWN := hid (show IntKind.i64.wrap (-(-((n : Nat) : Int))) = ((n : Nat) : Int) ∧ IntKind.i64.wrap ((n : Nat) : Int) = ((n : Nat) : Int) by constructor <;> (simp only [IntKind.wrap_i64]; omega))
  by_cases hlt : m < n
  ·obtain ⟨mu, hmu⟩ : ∃ x, ((m : Nat) : Int) * u = x := ⟨_, rfl⟩
   have hmub : -4096 ≤ mu ∧ mu ≤ 4096 := by
    rw [← hmu]
    obtain h2 | h2 | h2 : u = -1 ∨ u = 0 ∨ u = 1 := by omega
    all_goals rw [h2]; omega
   have HMU := hid (show IntKind.i64.wrap (((m : Nat) : Int) * u) = mu by rw [hmu]; simp only [IntKind.wrap_i64]; omega)
   have HSU := hid (show IntKind.i64.wrap (s - mu) = s - mu by simp only [IntKind.wrap_i64]; omega)
   have HNX := hid (show s - mu = clsS (-((n : Nat) : Int)) (m + 1) by rw [← hs, ← hmu, ← hu]; rfl)
   have HLT := hid (show ((m : Nat) : Int) < ((n : Nat) : Int) ∧ m < n by omega)
   have HM := hid (show (-9223372036854775808 ≤ ((m : Nat) : Int) ∧ ((m : Nat) : Int) ≤ 9223372036854775807) ∧ 0 < m ∧ m ≤ 4611686018427387904 by omega)
   have HADD := hid (show IntKind.i64.wrap (((m : Nat) : Int) + 1) = ((m : Nat) : Int) + 1 by simp only [IntKind.wrap_i64]; omega)
   have HG := hid hmg
   clear hs hu hsb hkb hn2 hmu hmub hlt hm1 hmg
   go_upto_region 11 with (fail)
   refine rgs 4 [some 46, some 47, some 48, some 49] [IsV (.int .i64 ((m : Nat) : Int)), IsV (.int .i64 (-((n : Nat) : Int))), IsV (.int .i64 ((n : Nat) : Int)), IsV (.bool true)] [] ?_ ?_
   ·refine Rc (mv (Od.lit 10)) ?_
    refine Rc (mv (Od.lit 7)) ?_
    refine Rc (un (r := .int .i64 ((n : Nat) : Int)) (Od.loc 1 47) (hr := fun w => by have hx9 := HWN.out.1; have hx8 := HWN.out.2; go_simp)) ?_
    refine Rc (bn (r := .bool true) (Od.loc 0 46) (Od.loc 2 48) (hr := fun w => by have hx9 := HLT.out.1; have hx8 := HLT.out.2; go_simp)) ?_
    exact RgAll.nil
   intro v W10 e1 hΦ _
   replace S := S.mono e1
   replace EA := EA.trans e1
   have v3 : v 3 = .bool true := hΦ 3 (by decide)
   simp only [layL, Act.put, uAx, u0x, u1x, Nat.reduceAdd]
   rw [v3]
   clear v3 hΦ e1
   refine wpList_nil ?_
   go_upto_region 13 with (fail)
   refine rg 8 [some 52, some 53, some 54, some 55, some 56, some 57, some 58, some 59] [IsV (.int .i64 s), IsV (.int .i64 ((m : Nat) : Int)), IsI k1 (-((n : Nat) : Int)), IsV (.int .i64 ((m : Nat) : Int)), IsI 2 (((m : Nat) : Int)), IsV (.int .i64 u), IsV (.int .i64 mu), IsV (.int .i64 (s - mu))] [] 1 ?_ ?_
   ·refine Rc (mv (Od.lit 9)) ?_
    refine Rc (mv (Od.lit 10)) ?_
    refine Rc (ldI S 2 (w.heap.size) 0 (Od.lit 1) ld_Int) ?_
    refine Rc (mv (Od.lit 10)) ?_
    refine Rc (cl1 (en Tryz.func41) (Od.lc (Φ := IsV (.int .i64 ((m : Nat) : Int))) 3 55) (fun x0 w' hE d0 => by { obtain rfl : x0 = .int .i64 ((m : Nat) : Int) := d0; exact Of_f _ ((m : Nat) : Int) HM.out.1.1 HM.out.1.2 })) ?_
    refine Rc (cl2 (en Tryz.func62) (Od.lc (Φ := IsI k1 (-((n : Nat) : Int))) 2 54) (Od.lc (Φ := IsI 2 (((m : Nat) : Int))) 4 56) (fun x0 x1 w' hE d0 d1 => (by have hh := Kron_f d0 d1 (by have := HK.out; omega) (by decide) (HSG.out.ext (S.ext.trans hE)) HM.out.2; rw [HU.out] at hh; exact hh))) ?_
    refine Rc (bn (r := .int .i64 mu) (Od.loc 1 53) (Od.loc 5 57) (hr := fun w => by have hx9 := HMU.out; go_simp)) ?_
    refine Rc (bn (r := .int .i64 (s - mu)) (Od.loc 0 52) (Od.loc 6 58) (hr := fun w => by have hx9 := HSU.out; go_simp)) ?_
    exact RgAll.nil
   intro v W11 e1 hΦ _
   replace S := S.mono e1
   replace EA := EA.trans e1
   have v7 : v 7 = .int .i64 (s - mu) := hΦ 7 (by decide)
   simp only [layL, Act.put, uAx, u0x, u1x, Nat.reduceAdd]
   rw [v7]
   clear v7 hΦ e1
   refine wpAny_ready (rs := [8]) (by kernel_rfl) (by simp) (AllReady.cons rfl (fun K hK => ?_) AllReady.nil); go_simp; refine hK _ _ ?_; clear hK K
   refine wpAny_done (by kernel_rfl) ?_ _
   have hx9 := HADD.out
   have S9 := hid (And.intro S EA)
   clear S EA
   go_wp2_with fail
   go_roundg (gk - 1)
   case measure => have := HG.out; have := HLT.out; omega
   case rel => exact ⟨m + 1, by rw [Int.natCast_add]; rfl, by rw [HNX.out], by omega, by have := HG.out; have := HLT.out; omega, S9⟩
  ·obtain rfl : m = n := by omega
   have HGE := hid (show ¬ ((m : Nat) : Int) < ((m : Nat) : Int) ∧ ¬ m < m by omega)
   obtain ⟨qv, hqv⟩ : ∃ x, s.tdiv ((m : Nat) : Int) = x := ⟨_, rfl⟩
   have hqb : -16777216 ≤ qv ∧ qv ≤ 16777216 := by
    have h1 : qv.natAbs ≤ s.natAbs := by rw [← hqv, Int.natAbs_tdiv]; exact Nat.div_le_self _ _
    omega
   have HQV := hid (show s.tdiv ((m : Nat) : Int) = qv ∧ IntKind.i64.wrap qv = qv ∧ ¬ m = 0 from ⟨hqv, by simp only [IntKind.wrap_i64]; omega, by omega⟩)
   have HQB := hid (show -9223372036854775808 ≤ qv ∧ qv ≤ 9223372036854775807 by omega)
   have HQE := hid (show qv = (clsS (-((m : Nat) : Int)) m).tdiv ((m : Nat) : Int) by rw [hs, hqv])
   clear hs hu hsb hkb hn2 hqv hqb hlt hm1 hmg
   go_upto_region 11 with (fail)
   refine rgs 4 [some 46, some 47, some 48, some 49] [IsV (.int .i64 ((m : Nat) : Int)), IsV (.int .i64 (-((m : Nat) : Int))), IsV (.int .i64 ((m : Nat) : Int)), IsV (.bool false)] [] ?_ ?_
   ·refine Rc (mv (Od.lit 10)) ?_
    refine Rc (mv (Od.lit 7)) ?_
    refine Rc (un (r := .int .i64 ((m : Nat) : Int)) (Od.loc 1 47) (hr := fun w => by have hx9 := HWN.out.1; have hx8 := HWN.out.2; go_simp)) ?_
    refine Rc (bn (r := .bool false) (Od.loc 0 46) (Od.loc 2 48) (hr := fun w => by have hx9 := HGE.out.1; have hx8 := HGE.out.2; go_simp)) ?_
    exact RgAll.nil
   intro v W12 e1 hΦ _
   replace S := S.mono e1
   replace EA := EA.trans e1
   have v3 : v 3 = .bool false := hΦ 3 (by decide)
   simp only [layL, Act.put, uAx, u0x, u1x, Nat.reduceAdd]
   rw [v3]
   clear v3 hΦ e1
   refine wpList_nil ?_
   go_upto_region 14 with (fail)
   refine rgs 7 [some 61, some 62, some 60, some 63, some 64, some 11, some 12] [IsI k1 (-((m : Nat) : Int)), IsT2 (IsV (.string tn)) (IsV (.int .i64 0)), IsT2 (IsV (.string tn)) (IsV (.int .i64 0)), IsV (.string tn), IsV (.int .i64 0), IsV (.string tn), IsV (.int .i64 0)] [] ?_ ?_
   ·refine Rc (ldI S 2 (w.heap.size) 0 (Od.lit 1) ld_Int) ?_
    refine Rc (cl1 (en Tryz.func57) (Od.lc (Φ := IsI k1 (-((m : Nat) : Int))) 0 61) (fun x0 w' hE d0 => (by have hh := Text_f d0 HK.out (HT.out.ext (S.ext.trans hE)); rw [HTN.out.1, HTN.out.2.1] at hh; exact hh))) ?_
    refine Rc (mv (Od.lc 1 62)) ?_
    refine Rc (ex (Od.loc 2 60) t20) ?_
    refine Rc (ex (Od.loc 2 60) t21) ?_
    refine Rc (mv (Od.lc 3 63)) ?_
    refine Rc (mv (Od.lc 4 64)) ?_
    exact RgAll.nil
   intro v W13 e1 hΦ _
   replace S := S.mono e1
   replace EA := EA.trans e1
   have v5 : v 5 = .string tn := hΦ 5 (by decide)
   simp only [layL, Act.put, uAx, u0x, u1x, Nat.reduceAdd]
   rw [v5]
   clear v5 hΦ e1
   refine wpList_nil ?_
   go_upto_region 15 with (fail)
   have HB := hid (show tn.size + 2 ≤ 9223372036854775807 by have := HTN.out.2.2; omega)
   have AB9 := AB.ext EA
   have M0 := AB9.m0
   have M1 := AB9.m1
   have M2 := AB9.m2
   have M3 := AB9.m3
   have M4 := AB9.m4
   have N0 := AB9.f 0
   have N1 := AB9.f 1
   have N2 := AB9.f 2
   have N3 := AB9.f 3
   have N4 := AB9.f 4
   have HE := hid S.ext
   have ht9 := HB.out
   have hx9 := HWN.out.1
   have hx8 := HWN.out.2
   have hx7 := HQV.out.1
   have hx6 := HQV.out.2.1
   have hx5 := HQV.out.2.2
   clear S EA
   go_wp2_with (go_at_call 58; go_must (refine Calls.mono (one_f _ _ _ HQB.out) ?_; rintro e w9 ⟨_, rfl, E9, _, _, rfl, ⟨gp, sA, aA, nA, cA, sB, aB, nB, cB, rfl, hA, hP⟩, rfl⟩; have AB10 := AB9.ext E9; have P0 := AB10.m0; have P1 := AB10.m1; have P2 := AB10.m2; have P3 := AB10.m3; have P4 := AB10.m4; have Q0 := AB10.f 0; have Q1 := AB10.f 1; have Q2 := AB10.f 2; have Q3 := AB10.f 3; have Q4 := AB10.f 4))
   obtain ⟨W9, hW9, hAt, hbel, hoth, hgr⟩ := au_put AB10 (some ⟨gp, 0, none⟩) 1 1 sA aA nA cA sB aB nB cB
   rw [hW9]
   have c0 := hAt.m0
   have c1 := hAt.m1
   have c2 := hAt.m2
   have c3 := hAt.m3
   have c4 := hAt.m4
   have hP9 := hP.put AB10 hoth hgr
   have hA9 := IsQ.gstb (IsI.gstb _ _) (IsI.gstb _ _) _ _ _ hgr hA
   exact bodyPost_ret (v := .tuple #[.agg #[.slice (some ⟨gp, 0, none⟩) 1 1, .bool sA, .slice aA nA cA, .bool sB, .slice aB nB cB], .int .i64 0]) (by simp [results, Tryz.results18, go_sem, c0, c1, c2, c3, c4]) rfl ⟨_, rfl, hbel _ _ (HE.out.trans E9) (by omega), _, _, rfl, by rw [← HQE.out]; exact ⟨_, _, _, _, _, _, _, _, _, rfl, hA9, hP9⟩, rfl⟩
end Go.Proofs.YtknffgdbdadpcaaGreatDoor
