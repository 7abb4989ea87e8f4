/-
 The reference of package rational: New, Of, Whole, sums, products, quotients, the order, signs, floors. Every fraction of at most 2^17 words. (Printed by wip/gen/rat2.py.)
-/
import Derived.Test.YtkeikfekkdplgaaGreatDoorRws
import Derived.Test.YtkeikfekkdplgaaGreatDoorRGcd
namespace Go.Proofs.YtkeikfekkdplgaaGreatDoor
open Go Go.RowKit

set_option maxRecDepth 100000 in
set_option maxHeartbeats 4000000 in
theorem rqNewpos_c {k1 k2 : Nat} {z1 z2 : Int} {x y : Value} {w : World} (hx : IsI k1 z1 x w) (hy : IsI k2 z2 y w) (l1 : k1 ≤ 1048576) (l2 : k2 ≤ 1048576) (hz : 0 < z2) (qn qd : Int) (hn : z1 / ((Int.gcd z1 z2 : Nat) : Int) = qn) (hd : z2 / ((Int.gcd z1 z2 : Nat) : Int) = qd) :
  Calls Tryz.prog 81 #[x, y] w (Ret w (IsT2 (IsQ (IsI k1 qn) (IsI k2 qd)) (IsV (.int .i64 0)))) := by
 obtain ⟨sg, hsg⟩ : ∃ s, z2.sign = s := ⟨_, rfl⟩
 have HSG := hid hsg
 have hs : sg = 1 := by rw [← hsg]; exact Int.sign_eq_one_of_pos hz
 have HS0 := hid (show (sg == 0) = false by rw [hs]; decide)
 have HS1 := hid (show decide (sg < 0) = false by rw [hs]; decide)
 have HG := hid (show ((Int.gcd z1 z2 : Nat) : Int) ≠ 0 by intro h; have := ((Int.gcd_eq_zero_iff (a := z1) (b := z2)).1 (by omega)).2; omega)
 have HN := hid hn
 have HD := hid hd
 clear hz hn hd hsg hs
 obtain ⟨s1, a1, n1, c1, rfl, h1⟩ := hx
 have h1 : IsI _ _ _ w := ⟨_, _, _, _, rfl, h1⟩
 obtain ⟨s2, a2, n2, c2, rfl, h2⟩ := hy
 have h2 : IsI _ _ _ w := ⟨_, _, _, _, rfl, h2⟩
 obtain ⟨W, hW, S⟩ : ∃ W, W = ((w.alloc (.cells #[.bool s1, .slice a1 n1 c1] 28)).alloc (.cells #[.bool s2, .slice a2 n2 c2] 28)).alloc (.cells #[.bool false, .slice none 0 0, .bool false, .slice none 0 0] 45) ∧ Sto w W [((w.heap.size + 1 + 1, 1), IsI 0 0), ((w.heap.size + 1 + 1, 0), IsI 0 0), ((w.heap.size + 1, 0), IsI k2 z2), ((w.heap.size, 0), IsI k1 z1)] := ⟨_, rfl, ((((Sto.start w).new1 (w.heap.size) (by simp) s1 a1 n1 c1 28 (IsI k1 z1) (IsI.gstb _ _) (h1)).new1 (w.heap.size + 1) (by simp) s2 a2 n2 c2 28 (IsI k2 z2) (IsI.gstb _ _) (h2.ext ((Ext.refl _).alloc _))).new2 (w.heap.size + 1 + 1) (by simp) false false none none 0 0 0 0 45 (IsI 0 0) (IsI 0 0) (IsI.gstb _ _) (IsI.nil _ _) (IsI.gstb _ _) (IsI.nil _ _))⟩
 clear h1 h2
 go_enter Tryz.func81, Tryz.ntmps81
 go_upto_region 1 with (fail)
 rw [← hW]
 clear hW
 refine rgs 3 [some 7, some 8, some 9] [IsI k2 z2, IsV (.int .i64 sg), IsV (.bool false)] [] ?_ ?_
 ·refine Rc (ldI S 2 (w.heap.size + 1) 0 (Od.lit 3) ld_Int) ?_
  refine Rc (cl1 (en Tryz.func91) (Od.lc (Φ := IsI k2 z2) 0 7) (fun x0 w' hE d0 => Calls.mono (RSign_f d0) fun _ _ h => h.int (HSG.out))) ?_
  refine Rc (bn (r := .bool false) (Od.loc 1 8) Od.con (hr := fun w => by have hx9 := HS0.out; go_simp)) ?_
  exact RgAll.nil
 intro v W1 e1 hΦ _
 replace S := S.mono e1
 have v2 : v 2 = .bool false := hΦ 2 (by decide)
 simp only [layL, Act.put, uAx, u0x, u1x, Nat.reduceAdd]
 rw [v2]
 clear v2 hΦ e1
 refine wpList_nil ?_
 go_upto_region 3 with (fail)
 have hl := hid S.lt; have hw := S.ext.size
 refine rgs 4 [some 11, some 12, some 13, some 6] [IsI k1 z1, IsI k2 z2, IsI (max k1 k2) (((Int.gcd z1 z2 : Nat) : Int)), IsBo W1 1] [3] ?_ ?_
 ·refine Rc (ldI S 3 (w.heap.size) 0 (Od.lit 2) ld_Int) ?_
  refine Rc (ldI S 2 (w.heap.size + 1) 0 (Od.lit 3) ld_Int) ?_
  refine Rc (cl2 (en Tryz.func104) (Od.lc (Φ := IsI k1 z1) 0 11) (Od.lc (Φ := IsI k2 z2) 1 12) (fun x0 x1 w' hE d0 d1 => RGcd_f d0 d1 (by omega) (by omega))) ?_
  refine Rc (al al_Int) ?_
  exact RgAll.nil
 intro v W2 e1 hΦ _
 replace S := S.mono e1
 have h13 := hΦ 2 (by decide)
 obtain ⟨g6, v3, q2, b1, _⟩ := (hΦ 3 (by decide) : IsBo W1 1 (v 3) W2)
 replace S := S.addN 1 (ApartO.old hl.out q2) (Nat.le_trans hw q2) b1
 simp only [newF, List.cons_append, List.nil_append] at S
 simp only [layL, Act.put, uAx, u0x, u1x, Nat.reduceAdd]
 rw [v3]
 clear b1 hl hw v3 hΦ e1
 try simp only [List.drop_succ_cons, List.drop_zero]
 (with_reducible refine stL ?_ (by rfl)); intro KK hKK; refine stI S 0 (g6) 0 h13 st_Int (fun W3 S2 G2 => hKK _ _ ?_) rfl
 replace S := S2; clear S2 G2 hKK KK h13
 simp only [u0x] at S
 refine wpList_nil ?_
 go_upto_region 4 with (fail)
 refine rgs 3 [some 14, some 15, some 16] [IsI k2 z2, IsV (.int .i64 sg), IsV (.bool false)] [] ?_ ?_
 ·refine Rc (ldI S 3 (w.heap.size + 1) 0 (Od.lit 3) ld_Int) ?_
  refine Rc (cl1 (en Tryz.func91) (Od.lc (Φ := IsI k2 z2) 0 14) (fun x0 w' hE d0 => Calls.mono (RSign_f d0) fun _ _ h => h.int (HSG.out))) ?_
  refine Rc (bn (r := .bool false) (Od.loc 1 15) Od.con (hr := fun w => by have hx9 := HS1.out; go_simp)) ?_
  exact RgAll.nil
 intro v W4 e1 hΦ _
 replace S := S.mono e1
 have v2 : v 2 = .bool false := hΦ 2 (by decide)
 simp only [layL, Act.put, uAx, u0x, u1x, Nat.reduceAdd]
 rw [v2]
 clear v2 hΦ e1
 refine wpList_nil ?_
 go_upto_region 6 with (fail)
 refine rg 7 [some 19, some 20, some 21, some 22, some 23, some 24, some 25] [IsI k1 z1, IsI (max k1 k2) (((Int.gcd z1 z2 : Nat) : Int)), IsI k1 qn, IsI k2 z2, IsI (max k1 k2) (((Int.gcd z1 z2 : Nat) : Int)), IsI k2 qd, IsQ (IsI k1 qn) (IsI k2 qd)] [] 2 ?_ ?_
 ·refine Rc (ldI S 4 (w.heap.size) 0 (Od.lit 2) ld_Int) ?_
  refine Rc (ldI S 0 (g6) 0 (Od.lit 6) ld_Int) ?_
  refine Rc (cl2 (en Tryz.func105) (Od.lc (Φ := IsI k1 z1) 0 19) (Od.lc (Φ := IsI (max k1 k2) (((Int.gcd z1 z2 : Nat) : Int))) 1 20) (fun x0 x1 w' hE d0 d1 => Calls.mono (RDiv_f d0 d1 (by omega) (by omega) HG.out) fun _ _ h => h.eqz HN.out)) ?_
  refine Rc (ldI S 3 (w.heap.size + 1) 0 (Od.lit 3) ld_Int) ?_
  refine Rc (ldI S 0 (g6) 0 (Od.lit 6) ld_Int) ?_
  refine Rc (cl2 (en Tryz.func105) (Od.lc (Φ := IsI k2 z2) 3 22) (Od.lc (Φ := IsI (max k1 k2) (((Int.gcd z1 z2 : Nat) : Int))) 4 23) (fun x0 x1 w' hE d0 d1 => Calls.mono (RDiv_f d0 d1 (by omega) (by omega) HG.out) fun _ _ h => h.eqz HD.out)) ?_
  refine Rc (bq (Od.loc 2 21) (Od.loc 5 24) bd_Rat) ?_
  exact RgAll.nil
 intro v W5 e1 hΦ _
 replace S := S.mono e1
 have h25 := hΦ 6 (by decide)
 simp only [layL, Act.put, uAx, u0x, u1x, Nat.reduceAdd]
 clear hΦ e1
 refine stA 7 (h := fun KK hKK => stQ S 2 1 (w.heap.size + 1 + 1) 0 h25 (IsI.gstb _ _) (IsI.gstb _ _) st_Rat (fun W6 S2 G2 => hKK _ _ ?_) rfl rfl)
 replace S := S2; clear S2 G2 hKK KK h25
 simp only [u0x, u1x] at S
 refine wpAny_ready (rs := [8]) (by kernel_rfl) (by simp) (AllReady.cons rfl (fun K hK => ?_) AllReady.nil); go_simp; refine hK _ _ ?_; clear hK K
 refine wpAny_done (by kernel_rfl) ?_ _
 go_wp2_with fail
 obtain ⟨s90x, a90x, n90x, c90x, b90x, h90x⟩ := S.at 2 (w.heap.size + 1 + 1) 0 (IsI k1 qn) rfl; have L90xa : World.cell? W6 ⟨w.heap.size + 1 + 1, 0, none⟩ = some (.bool s90x) := b90x.c0; have L90xb : World.cell? W6 ⟨w.heap.size + 1 + 1, 1, none⟩ = some (.slice a90x n90x c90x) := b90x.c1
 obtain ⟨s90y, a90y, n90y, c90y, b90y, h90y⟩ := S.at 1 (w.heap.size + 1 + 1) 1 (IsI k2 qd) rfl; have L90ya : World.cell? W6 ⟨w.heap.size + 1 + 1, 2, none⟩ = some (.bool s90y) := b90y.c0; have L90yb : World.cell? W6 ⟨w.heap.size + 1 + 1, 3, none⟩ = some (.slice a90y n90y c90y) := b90y.c1
 exact bodyPost_ret (v := .tuple #[.agg #[.bool s90x, .slice a90x n90x c90x, .bool s90y, .slice a90y n90y c90y], .int .i64 0]) (by simp [results, Tryz.results81, go_sem, L90xa, L90xb, L90ya, L90yb]) rfl (⟨_, rfl, S.ext, _, _, rfl, ⟨_, _, _, _, _, _, _, _, rfl, h90x, h90y⟩, rfl⟩)

set_option maxRecDepth 100000 in
set_option maxHeartbeats 4000000 in
theorem rqNewneg_c {k1 k2 : Nat} {z1 z2 : Int} {x y : Value} {w : World} (hx : IsI k1 z1 x w) (hy : IsI k2 z2 y w) (l1 : k1 ≤ 1048576) (l2 : k2 ≤ 1048576) (hz : z2 < 0) (qn qd : Int) (hn : z1 / (-((Int.gcd z1 z2 : Nat) : Int)) = qn) (hd : z2 / (-((Int.gcd z1 z2 : Nat) : Int)) = qd) :
  Calls Tryz.prog 81 #[x, y] w (Ret w (IsT2 (IsQ (IsI k1 qn) (IsI k2 qd)) (IsV (.int .i64 0)))) := by
 obtain ⟨sg, hsg⟩ : ∃ s, z2.sign = s := ⟨_, rfl⟩
 have HSG := hid hsg
 have hs : sg = -1 := by rw [← hsg]; exact Int.sign_eq_neg_one_of_neg hz
 have HS0 := hid (show (sg == 0) = false by rw [hs]; decide)
 have HS1 := hid (show decide (sg < 0) = true by rw [hs]; decide)
 have HG := hid (show (-((Int.gcd z1 z2 : Nat) : Int)) ≠ 0 by intro h; have := ((Int.gcd_eq_zero_iff (a := z1) (b := z2)).1 (by omega)).2; omega)
 have HN := hid hn
 have HD := hid hd
 clear hz hn hd hsg hs
 obtain ⟨s1, a1, n1, c1, rfl, h1⟩ := hx
 have h1 : IsI _ _ _ w := ⟨_, _, _, _, rfl, h1⟩
 obtain ⟨s2, a2, n2, c2, rfl, h2⟩ := hy
 have h2 : IsI _ _ _ w := ⟨_, _, _, _, rfl, h2⟩
 obtain ⟨W, hW, S⟩ : ∃ W, W = ((w.alloc (.cells #[.bool s1, .slice a1 n1 c1] 28)).alloc (.cells #[.bool s2, .slice a2 n2 c2] 28)).alloc (.cells #[.bool false, .slice none 0 0, .bool false, .slice none 0 0] 45) ∧ Sto w W [((w.heap.size + 1 + 1, 1), IsI 0 0), ((w.heap.size + 1 + 1, 0), IsI 0 0), ((w.heap.size + 1, 0), IsI k2 z2), ((w.heap.size, 0), IsI k1 z1)] := ⟨_, rfl, ((((Sto.start w).new1 (w.heap.size) (by simp) s1 a1 n1 c1 28 (IsI k1 z1) (IsI.gstb _ _) (h1)).new1 (w.heap.size + 1) (by simp) s2 a2 n2 c2 28 (IsI k2 z2) (IsI.gstb _ _) (h2.ext ((Ext.refl _).alloc _))).new2 (w.heap.size + 1 + 1) (by simp) false false none none 0 0 0 0 45 (IsI 0 0) (IsI 0 0) (IsI.gstb _ _) (IsI.nil _ _) (IsI.gstb _ _) (IsI.nil _ _))⟩
 clear h1 h2
 go_enter Tryz.func81, Tryz.ntmps81
 go_upto_region 1 with (fail)
 rw [← hW]
 clear hW
 refine rgs 3 [some 7, some 8, some 9] [IsI k2 z2, IsV (.int .i64 sg), IsV (.bool false)] [] ?_ ?_
 ·refine Rc (ldI S 2 (w.heap.size + 1) 0 (Od.lit 3) ld_Int) ?_
  refine Rc (cl1 (en Tryz.func91) (Od.lc (Φ := IsI k2 z2) 0 7) (fun x0 w' hE d0 => Calls.mono (RSign_f d0) fun _ _ h => h.int (HSG.out))) ?_
  refine Rc (bn (r := .bool false) (Od.loc 1 8) Od.con (hr := fun w => by have hx9 := HS0.out; go_simp)) ?_
  exact RgAll.nil
 intro v W1 e1 hΦ _
 replace S := S.mono e1
 have v2 : v 2 = .bool false := hΦ 2 (by decide)
 simp only [layL, Act.put, uAx, u0x, u1x, Nat.reduceAdd]
 rw [v2]
 clear v2 hΦ e1
 refine wpList_nil ?_
 go_upto_region 3 with (fail)
 have hl := hid S.lt; have hw := S.ext.size
 refine rgs 4 [some 11, some 12, some 13, some 6] [IsI k1 z1, IsI k2 z2, IsI (max k1 k2) (((Int.gcd z1 z2 : Nat) : Int)), IsBo W1 1] [3] ?_ ?_
 ·refine Rc (ldI S 3 (w.heap.size) 0 (Od.lit 2) ld_Int) ?_
  refine Rc (ldI S 2 (w.heap.size + 1) 0 (Od.lit 3) ld_Int) ?_
  refine Rc (cl2 (en Tryz.func104) (Od.lc (Φ := IsI k1 z1) 0 11) (Od.lc (Φ := IsI k2 z2) 1 12) (fun x0 x1 w' hE d0 d1 => RGcd_f d0 d1 (by omega) (by omega))) ?_
  refine Rc (al al_Int) ?_
  exact RgAll.nil
 intro v W2 e1 hΦ _
 replace S := S.mono e1
 have h13 := hΦ 2 (by decide)
 obtain ⟨g6, v3, q2, b1, _⟩ := (hΦ 3 (by decide) : IsBo W1 1 (v 3) W2)
 replace S := S.addN 1 (ApartO.old hl.out q2) (Nat.le_trans hw q2) b1
 simp only [newF, List.cons_append, List.nil_append] at S
 simp only [layL, Act.put, uAx, u0x, u1x, Nat.reduceAdd]
 rw [v3]
 clear b1 hl hw v3 hΦ e1
 try simp only [List.drop_succ_cons, List.drop_zero]
 (with_reducible refine stL ?_ (by rfl)); intro KK hKK; refine stI S 0 (g6) 0 h13 st_Int (fun W3 S2 G2 => hKK _ _ ?_) rfl
 replace S := S2; clear S2 G2 hKK KK h13
 simp only [u0x] at S
 refine wpList_nil ?_
 go_upto_region 4 with (fail)
 refine rgs 3 [some 14, some 15, some 16] [IsI k2 z2, IsV (.int .i64 sg), IsV (.bool true)] [] ?_ ?_
 ·refine Rc (ldI S 3 (w.heap.size + 1) 0 (Od.lit 3) ld_Int) ?_
  refine Rc (cl1 (en Tryz.func91) (Od.lc (Φ := IsI k2 z2) 0 14) (fun x0 w' hE d0 => Calls.mono (RSign_f d0) fun _ _ h => h.int (HSG.out))) ?_
  refine Rc (bn (r := .bool true) (Od.loc 1 15) Od.con (hr := fun w => by have hx9 := HS1.out; go_simp)) ?_
  exact RgAll.nil
 intro v W4 e1 hΦ _
 replace S := S.mono e1
 have v2 : v 2 = .bool true := hΦ 2 (by decide)
 simp only [layL, Act.put, uAx, u0x, u1x, Nat.reduceAdd]
 rw [v2]
 clear v2 hΦ e1
 refine wpList_nil ?_
 go_upto_region 5 with (fail)
 refine rgs 2 [some 17, some 18] [IsI (max k1 k2) (((Int.gcd z1 z2 : Nat) : Int)), IsI (max k1 k2) (-(((Int.gcd z1 z2 : Nat) : Int)))] [] ?_ ?_
 ·refine Rc (ldI S 0 (g6) 0 (Od.lit 6) ld_Int) ?_
  refine Rc (cl1 (en Tryz.func76) (Od.lc (Φ := IsI (max k1 k2) (((Int.gcd z1 z2 : Nat) : Int))) 0 17) (fun x0 w' hE d0 => RNeg_f d0)) ?_
  exact RgAll.nil
 intro v W5 e1 hΦ _
 replace S := S.mono e1
 have h18 := hΦ 1 (by decide)
 simp only [layL, Act.put, uAx, u0x, u1x, Nat.reduceAdd]
 clear hΦ e1
 try simp only [List.drop_succ_cons, List.drop_zero]
 (with_reducible refine stL ?_ (by rfl)); intro KK hKK; refine stI S 0 (g6) 0 h18 st_Int (fun W6 S2 G2 => hKK _ _ ?_) rfl
 replace S := S2; clear S2 G2 hKK KK h18
 simp only [u0x] at S
 refine wpList_nil ?_
 go_upto_region 6 with (fail)
 refine rg 7 [some 19, some 20, some 21, some 22, some 23, some 24, some 25] [IsI k1 z1, IsI (max k1 k2) (-(((Int.gcd z1 z2 : Nat) : Int))), IsI k1 qn, IsI k2 z2, IsI (max k1 k2) (-(((Int.gcd z1 z2 : Nat) : Int))), IsI k2 qd, IsQ (IsI k1 qn) (IsI k2 qd)] [] 2 ?_ ?_
 ·refine Rc (ldI S 4 (w.heap.size) 0 (Od.lit 2) ld_Int) ?_
  refine Rc (ldI S 0 (g6) 0 (Od.lit 6) ld_Int) ?_
  refine Rc (cl2 (en Tryz.func105) (Od.lc (Φ := IsI k1 z1) 0 19) (Od.lc (Φ := IsI (max k1 k2) (-(((Int.gcd z1 z2 : Nat) : Int)))) 1 20) (fun x0 x1 w' hE d0 d1 => Calls.mono (RDiv_f d0 d1 (by omega) (by omega) HG.out) fun _ _ h => h.eqz HN.out)) ?_
  refine Rc (ldI S 3 (w.heap.size + 1) 0 (Od.lit 3) ld_Int) ?_
  refine Rc (ldI S 0 (g6) 0 (Od.lit 6) ld_Int) ?_
  refine Rc (cl2 (en Tryz.func105) (Od.lc (Φ := IsI k2 z2) 3 22) (Od.lc (Φ := IsI (max k1 k2) (-(((Int.gcd z1 z2 : Nat) : Int)))) 4 23) (fun x0 x1 w' hE d0 d1 => Calls.mono (RDiv_f d0 d1 (by omega) (by omega) HG.out) fun _ _ h => h.eqz HD.out)) ?_
  refine Rc (bq (Od.loc 2 21) (Od.loc 5 24) bd_Rat) ?_
  exact RgAll.nil
 intro v W7 e1 hΦ _
 replace S := S.mono e1
 have h25 := hΦ 6 (by decide)
 simp only [layL, Act.put, uAx, u0x, u1x, Nat.reduceAdd]
 clear hΦ e1
 refine stA 7 (h := fun KK hKK => stQ S 2 1 (w.heap.size + 1 + 1) 0 h25 (IsI.gstb _ _) (IsI.gstb _ _) st_Rat (fun W8 S2 G2 => hKK _ _ ?_) rfl rfl)
 replace S := S2; clear S2 G2 hKK KK h25
 simp only [u0x, u1x] at S
 refine wpAny_ready (rs := [8]) (by kernel_rfl) (by simp) (AllReady.cons rfl (fun K hK => ?_) AllReady.nil); go_simp; refine hK _ _ ?_; clear hK K
 refine wpAny_done (by kernel_rfl) ?_ _
 go_wp2_with fail
 obtain ⟨s90x, a90x, n90x, c90x, b90x, h90x⟩ := S.at 2 (w.heap.size + 1 + 1) 0 (IsI k1 qn) rfl; have L90xa : World.cell? W8 ⟨w.heap.size + 1 + 1, 0, none⟩ = some (.bool s90x) := b90x.c0; have L90xb : World.cell? W8 ⟨w.heap.size + 1 + 1, 1, none⟩ = some (.slice a90x n90x c90x) := b90x.c1
 obtain ⟨s90y, a90y, n90y, c90y, b90y, h90y⟩ := S.at 1 (w.heap.size + 1 + 1) 1 (IsI k2 qd) rfl; have L90ya : World.cell? W8 ⟨w.heap.size + 1 + 1, 2, none⟩ = some (.bool s90y) := b90y.c0; have L90yb : World.cell? W8 ⟨w.heap.size + 1 + 1, 3, none⟩ = some (.slice a90y n90y c90y) := b90y.c1
 exact bodyPost_ret (v := .tuple #[.agg #[.bool s90x, .slice a90x n90x c90x, .bool s90y, .slice a90y n90y c90y], .int .i64 0]) (by simp [results, Tryz.results81, go_sem, L90xa, L90xb, L90ya, L90yb]) rfl (⟨_, rfl, S.ext, _, _, rfl, ⟨_, _, _, _, _, _, _, _, rfl, h90x, h90y⟩, rfl⟩)

theorem rqNew_f {k1 k2 : Nat} {z1 z2 : Int} {x y : Value} {w : World} (hx : IsI k1 z1 x w) (hy : IsI k2 z2 y w) (l1 : k1 ≤ 1048576) (l2 : k2 ≤ 1048576) (hz : z2 ≠ 0) :
  Calls Tryz.prog 81 #[x, y] w (Ret w (IsT2 (IsRat (max k1 k2) (Rat.divInt z1 z2)) (IsV (.int .i64 0)))) := by
 have key : Calls Tryz.prog 81 #[x, y] w (Ret w (IsT2 (IsQ (IsI k1 (Rat.divInt z1 z2).num) (IsI k2 ((Rat.divInt z1 z2).den : Int))) (IsV (.int .i64 0)))) := by
  rcases Int.lt_or_gt_of_ne hz with h | h
  ·exact rqNewneg_c hx hy l1 l2 h _ _ (rat_num_neg z1 z2 h) (rat_den_neg z1 z2 h)
  ·exact rqNewpos_c hx hy l1 l2 h _ _ (rat_num_pos z1 z2 h) (rat_den_pos z1 z2 h)
 exact Calls.mono key fun _ _ h => h.mono fun _ _ ⟨u, v, e, ⟨s, a, n, c, s', a', n', c', h1, h2, h3⟩, h4⟩ => ⟨u, v, e, ⟨s, a, n, c, s', a', n', c', h1, h2.mono (by omega), h3.mono (by omega)⟩, h4⟩

set_option maxRecDepth 100000 in
set_option maxHeartbeats 4000000 in
theorem rqover_f {k1 k2 : Nat} {z1 z2 : Int} {x y : Value} {w : World} (hx : IsI k1 z1 x w) (hy : IsI k2 z2 y w) (l1 : k1 ≤ 1048576) (l2 : k2 ≤ 1048576) (hz : z2 ≠ 0) :
  Calls Tryz.prog 65 #[x, y] w (Ret w (IsRat (max k1 k2) (Rat.divInt z1 z2))) := by
 have HZ := hid hz
 clear hz
 obtain ⟨s1, a1, n1, c1, rfl, h1⟩ := hx
 have h1 : IsI _ _ _ w := ⟨_, _, _, _, rfl, h1⟩
 obtain ⟨s2, a2, n2, c2, rfl, h2⟩ := hy
 have h2 : IsI _ _ _ w := ⟨_, _, _, _, rfl, h2⟩
 obtain ⟨W, hW, S⟩ : ∃ W, W = ((w.alloc (.cells #[.bool s1, .slice a1 n1 c1] 28)).alloc (.cells #[.bool s2, .slice a2 n2 c2] 28)).alloc (.cells #[.bool false, .slice none 0 0, .bool false, .slice none 0 0] 45) ∧ Sto w W [((w.heap.size + 1 + 1, 1), IsI 0 0), ((w.heap.size + 1 + 1, 0), IsI 0 0), ((w.heap.size + 1, 0), IsI k2 z2), ((w.heap.size, 0), IsI k1 z1)] := ⟨_, rfl, ((((Sto.start w).new1 (w.heap.size) (by simp) s1 a1 n1 c1 28 (IsI k1 z1) (IsI.gstb _ _) (h1)).new1 (w.heap.size + 1) (by simp) s2 a2 n2 c2 28 (IsI k2 z2) (IsI.gstb _ _) (h2.ext ((Ext.refl _).alloc _))).new2 (w.heap.size + 1 + 1) (by simp) false false none none 0 0 0 0 45 (IsI 0 0) (IsI 0 0) (IsI.gstb _ _) (IsI.nil _ _) (IsI.gstb _ _) (IsI.nil _ _))⟩
 clear h1 h2
 go_enter Tryz.func65, Tryz.ntmps65
 go_upto_region 1 with (fail)
 rw [← hW]
 clear hW
 have hl := hid S.lt; have hw := S.ext.size
 refine rgs 7 [some 8, some 9, some 10, some 7, some 11, some 12, some 5] [IsI k1 z1, IsI k2 z2, IsT2 (IsQ (IsI (max k1 k2) ((Rat.divInt z1 z2).num)) (IsI (max k1 k2) (((Rat.divInt z1 z2).den : Int)))) (IsV (.int .i64 0)), IsT2 (IsQ (IsI (max k1 k2) ((Rat.divInt z1 z2).num)) (IsI (max k1 k2) (((Rat.divInt z1 z2).den : Int)))) (IsV (.int .i64 0)), IsQ (IsI (max k1 k2) ((Rat.divInt z1 z2).num)) (IsI (max k1 k2) (((Rat.divInt z1 z2).den : Int))), IsV (.int .i64 0), IsBo W 2] [6] ?_ ?_
 ·refine Rc (ldI S 3 (w.heap.size) 0 (Od.lit 2) ld_Int) ?_
  refine Rc (ldI S 2 (w.heap.size + 1) 0 (Od.lit 3) ld_Int) ?_
  refine Rc (cl2 (en Tryz.func81) (Od.lc (Φ := IsI k1 z1) 0 8) (Od.lc (Φ := IsI k2 z2) 1 9) (fun x0 x1 w' hE d0 d1 => rqNew_f d0 d1 (by omega) (by omega) HZ.out)) ?_
  refine Rc (mv (Od.lc 2 10)) ?_
  refine Rc (ex (Od.loc 3 7) t20) ?_
  refine Rc (ex (Od.loc 3 7) t21) ?_
  refine Rc (al al_Rat) ?_
  exact RgAll.nil
 intro v W1 e1 hΦ _
 replace S := S.mono e1
 have h11 := hΦ 4 (by decide)
 have v5 : v 5 = .int .i64 0 := hΦ 5 (by decide)
 obtain ⟨g5, v6, q2, b1, _⟩ := (hΦ 6 (by decide) : IsBo W 2 (v 6) W1)
 replace S := S.addN 2 (ApartO.old hl.out q2) (Nat.le_trans hw q2) b1
 simp only [newF, List.cons_append, List.nil_append] at S
 simp only [layL, Act.put, uAx, u0x, u1x, Nat.reduceAdd]
 rw [v5, v6]
 clear b1 hl hw v5 v6 hΦ e1
 try simp only [List.drop_succ_cons, List.drop_zero]
 (with_reducible refine stL ?_ (by rfl)); intro KK hKK; refine stQ S 1 0 (g5) 0 h11 (IsI.gstb _ _) (IsI.gstb _ _) st_Rat (fun W2 S2 G2 => hKK _ _ ?_) rfl rfl
 replace S := S2; clear S2 G2 hKK KK h11
 simp only [u0x, u1x] at S
 refine wpList_step fun K hK => ?_; go_simp; refine hK _ _ ?_; clear hK K
 refine wpList_nil ?_
 go_upto_region 2 with (fail)
 refine rgs 1 [some 13] [IsQ (IsI (max k1 k2) ((Rat.divInt z1 z2).num)) (IsI (max k1 k2) (((Rat.divInt z1 z2).den : Int)))] [] ?_ ?_
 ·refine Rc (ldQ S 1 0 (g5) 0 (Od.lit 5) ld_Rat rfl rfl) ?_
  exact RgAll.nil
 intro v W3 e1 hΦ _
 replace S := S.mono e1
 have h13 := hΦ 0 (by decide)
 simp only [layL, Act.put, uAx, u0x, u1x]
 clear hΦ e1
 try simp only [List.drop_succ_cons, List.drop_zero]
 (with_reducible refine stL ?_ (by rfl)); intro KK hKK; refine stQ S 3 2 (w.heap.size + 1 + 1) 0 h13 (IsI.gstb _ _) (IsI.gstb _ _) st_Rat (fun W4 S2 G2 => hKK _ _ ?_) rfl rfl
 replace S := S2; clear S2 G2 hKK KK h13
 simp only [u0x, u1x] at S
 refine wpList_nil ?_
 go_wp2_with fail
 obtain ⟨s90x, a90x, n90x, c90x, b90x, h90x⟩ := S.at 3 (w.heap.size + 1 + 1) 0 (IsI (max k1 k2) ((Rat.divInt z1 z2).num)) rfl; have L90xa : World.cell? W4 ⟨w.heap.size + 1 + 1, 0, none⟩ = some (.bool s90x) := b90x.c0; have L90xb : World.cell? W4 ⟨w.heap.size + 1 + 1, 1, none⟩ = some (.slice a90x n90x c90x) := b90x.c1
 obtain ⟨s90y, a90y, n90y, c90y, b90y, h90y⟩ := S.at 2 (w.heap.size + 1 + 1) 1 (IsI (max k1 k2) (((Rat.divInt z1 z2).den : Int))) rfl; have L90ya : World.cell? W4 ⟨w.heap.size + 1 + 1, 2, none⟩ = some (.bool s90y) := b90y.c0; have L90yb : World.cell? W4 ⟨w.heap.size + 1 + 1, 3, none⟩ = some (.slice a90y n90y c90y) := b90y.c1
 exact bodyPost_ret (v := .agg #[.bool s90x, .slice a90x n90x c90x, .bool s90y, .slice a90y n90y c90y]) (by simp [results, Tryz.results65, go_sem, L90xa, L90xb, L90ya, L90yb]) rfl (⟨_, rfl, S.ext, ⟨_, _, _, _, _, _, _, _, rfl, h90x, h90y⟩⟩)

end Go.Proofs.YtkeikfekkdplgaaGreatDoor
