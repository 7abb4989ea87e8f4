/-
 Package rational: New, sums, products, quotients, the order, signs, floors. Every fraction of at most 2^20 words. (Printed by wip/gen/rat1.py.)
-/
import Derived.Test.YtcgdkfadcglekaaGreatDoorRgn
import Derived.Test.YtcgdkfadcglekaaGreatDoorRat
import Derived.Test.YtcgdkfadcglekaaGreatDoorRgm
namespace Go.Proofs.YtcgdkfadcglekaaGreatDoor
open Go Go.RowKit

/-- A fraction in lowest terms, of at most K words each. -/
abbrev IsRat (K : Nat) (q : Rat) : Value → World → Prop := IsQ (IsI K q.num) (IsI K (q.den : Int))
theorem IsRat.mono {K K' : Nat} {q : Rat} {x : Value} {w : World} (h : IsRat K q x w) (hk : K ≤ K') : IsRat K' q x w :=
 let ⟨s, a, n, c, s', a', n', c', h1, h2, h3⟩ := h; ⟨s, a, n, c, s', a', n', c', h1, h2.mono hk, h3.mono hk⟩

set_option maxRecDepth 100000 in
set_option maxHeartbeats 4000000 in
theorem quotient_f {k1 k2 : Nat} {z1 z2 : Int} {x y : Value} {w : World} (hx : IsI k1 z1 x w) (hy : IsI k2 z2 y w) (l1 : k1 ≤ 33554432) (l2 : k2 ≤ 33554432) (hz : z2 ≠ 0) :
  Calls Tryz.prog 88 #[x, y] w (Ret w (IsI k1 (z1 / z2))) := by
 have HZ := hid hz
 clear hz
 obtain ⟨s1, a1, n1, c1, rfl, h1⟩ := hx
 have h1 : IsI _ _ _ w := ⟨_, _, _, _, rfl, h1⟩
 obtain ⟨s2, a2, n2, c2, rfl, h2⟩ := hy
 have h2 : IsI _ _ _ w := ⟨_, _, _, _, rfl, h2⟩
 obtain ⟨W, hW, S⟩ : ∃ W, W = ((w.alloc (.cells #[.bool s1, .slice a1 n1 c1] 29)).alloc (.cells #[.bool s2, .slice a2 n2 c2] 29)).alloc (.cells #[.bool false, .slice none 0 0] 29) ∧ Sto w W [((w.heap.size + 1 + 1, 0), IsI 0 0), ((w.heap.size + 1, 0), IsI k2 z2), ((w.heap.size, 0), IsI k1 z1)] := ⟨_, rfl, ((((Sto.start w).new1 (w.heap.size) (by simp) s1 a1 n1 c1 29 (IsI k1 z1) (IsI.gstb _ _) (h1)).new1 (w.heap.size + 1) (by simp) s2 a2 n2 c2 29 (IsI k2 z2) (IsI.gstb _ _) (h2.ext ((Ext.refl _).alloc _))).new1 (w.heap.size + 1 + 1) (by simp) false none 0 0 29 (IsI 0 0) (IsI.gstb _ _) (IsI.nil _ _))⟩
 clear h1 h2
 go_enter Tryz.func88, Tryz.ntmps88
 go_upto_region 1 with (fail)
 rw [← hW]
 clear hW
 have hl := hid S.lt; have hw := S.ext.size
 refine rgs 9 [some 9, some 10, some 11, some 8, some 12, some 13, some 14, some 5, some 6] [IsI k1 z1, IsI k2 z2, IsT3 (IsI k1 (z1 / z2)) (IsI k2 (z1 % z2)) (IsV (.int .i64 0)), IsT3 (IsI k1 (z1 / z2)) (IsI k2 (z1 % z2)) (IsV (.int .i64 0)), IsI k1 (z1 / z2), IsI k2 (z1 % z2), IsV (.int .i64 0), IsBo W 1, IsBo W 1] [7, 8] ?_ ?_
 ·refine Rc (ldI S 2 (w.heap.size) 0 (Od.lit 2) ld_Int) ?_
  refine Rc (ldI S 1 (w.heap.size + 1) 0 (Od.lit 3) ld_Int) ?_
  refine Rc (cl2 (en Tryz.func116) (Od.lc (Φ := IsI k1 z1) 0 9) (Od.lc (Φ := IsI k2 z2) 1 10) (fun x0 x1 w' hE d0 d1 => DivMod_f d0 d1 (by omega) (by omega) HZ.out)) ?_
  refine Rc (mv (Od.lc 2 11)) ?_
  refine Rc (ex (Od.loc 3 8) t30) ?_
  refine Rc (ex (Od.loc 3 8) t31) ?_
  refine Rc (ex (Od.loc 3 8) t32) ?_
  refine Rc (al al_Int) ?_
  refine Rc (al al_Int) ?_
  exact RgAll.nil
 intro v W1 e1 hΦ hne
 replace S := S.mono e1
 have h12 := hΦ 4 (by decide)
 have h13 := hΦ 5 (by decide)
 have v6 : v 6 = .int .i64 0 := hΦ 6 (by decide)
 obtain ⟨g5, v7, q2, b1, _⟩ := (hΦ 7 (by decide) : IsBo W 1 (v 7) W1)
 replace S := S.addN 1 (ApartO.old hl.out q2) (Nat.le_trans hw q2) b1
 obtain ⟨g6, v8, q4, b3, _⟩ := (hΦ 8 (by decide) : IsBo W 1 (v 8) W1)
 replace S := S.addN 1 (ApartO.cons (fun h => hne 7 8 (by decide) (by decide) (by decide) (by decide) (by decide) (by rw [v7, v8, h])) (ApartO.old hl.out q4)) (Nat.le_trans hw q4) b3
 simp only [newF, List.cons_append, List.nil_append] at S
 simp only [layL, Act.put, List.setIfInBounds_toArray, List.set_cons_zero, List.set_cons_succ, Nat.reduceAdd]
 rw [v6, v7, v8]
 clear b1 b3 hl hw hne v6 v7 v8 hΦ e1
 try simp only [List.drop_succ_cons, List.drop_zero]
 (with_reducible refine stL ?_ (by rfl)); intro KK hKK; refine stI S 1 (g5) 0 h12 st_Int (fun W2 S2 G2 => hKK _ _ ?_) rfl
 replace h13 := (IsI.gstb _ _) _ _ _ G2 h13
 replace S := S2; clear S2 G2 hKK KK h12
 simp only [List.set_cons_zero, List.set_cons_succ] at S
 try simp only [List.drop_succ_cons, List.drop_zero]
 (with_reducible refine stL ?_ (by rfl)); intro KK hKK; refine stI S 0 (g6) 0 h13 st_Int (fun W3 S2 G2 => hKK _ _ ?_) rfl
 replace S := S2; clear S2 G2 hKK KK h13
 simp only [List.set_cons_zero] at S
 refine wpList_step fun K hK => ?_; go_simp; refine hK _ _ ?_; clear hK K
 refine wpList_nil ?_
 go_upto_region 2 with (fail)
 refine rgs 1 [some 15] [IsI k1 (z1 / z2)] [] ?_ ?_
 ·refine Rc (ldI S 1 (g5) 0 (Od.lit 5) ld_Int) ?_
  exact RgAll.nil
 intro v W4 e1 hΦ _
 replace S := S.mono e1
 have h15 := hΦ 0 (by decide)
 simp only [layL, Act.put, List.setIfInBounds_toArray, List.set_cons_zero, List.set_cons_succ]
 clear hΦ e1
 try simp only [List.drop_succ_cons, List.drop_zero]
 (with_reducible refine stL ?_ (by rfl)); intro KK hKK; refine stI S 2 (w.heap.size + 1 + 1) 0 h15 st_Int (fun W5 S2 G2 => hKK _ _ ?_) rfl
 replace S := S2; clear S2 G2 hKK KK h15
 simp only [List.set_cons_zero, List.set_cons_succ] at S
 refine wpList_nil ?_
 go_wp2_with fail
 obtain ⟨s90x, a90x, n90x, c90x, b90x, h90x⟩ := S.at 2 (w.heap.size + 1 + 1) 0 (IsI k1 (z1 / z2)) rfl; have L90xa : World.cell? W5 ⟨w.heap.size + 1 + 1, 0, none⟩ = some (.bool s90x) := b90x.c0; have L90xb : World.cell? W5 ⟨w.heap.size + 1 + 1, 1, none⟩ = some (.slice a90x n90x c90x) := b90x.c1
 exact bodyPost_ret (v := .agg #[.bool s90x, .slice a90x n90x c90x]) (by simp [results, Tryz.results88, go_sem, L90xa, L90xb]) rfl (⟨_, rfl, S.ext, h90x⟩)

set_option maxRecDepth 100000 in
set_option maxHeartbeats 4000000 in
theorem reduced_c {k1 k2 : Nat} {z1 z2 : Int} {x y : Value} {w : World} (hx : IsI k1 z1 x w) (hy : IsI k2 z2 y w) (l1 : k1 ≤ 33554432) (l2 : k2 ≤ 33554432) (hz : z2 ≠ 0) (qn qd : Int) (hn : z1 / (Int.gcd z1 z2 : Nat) = qn) (hd : z2 / (Int.gcd z1 z2 : Nat) = qd) :
  Calls Tryz.prog 86 #[x, y] w (Ret w (IsQ (IsI k1 qn) (IsI k2 qd))) := by
 have HG := hid (show ((Int.gcd z1 z2 : Nat) : Int) ≠ 0 by intro h; exact hz ((Int.gcd_eq_zero_iff (a := z1) (b := z2)).1 (by omega)).2)
 have HN := hid hn
 have HD := hid hd
 clear hz hn hd
 obtain ⟨s1, a1, n1, c1, rfl, h1⟩ := hx
 have h1 : IsI _ _ _ w := ⟨_, _, _, _, rfl, h1⟩
 obtain ⟨s2, a2, n2, c2, rfl, h2⟩ := hy
 have h2 : IsI _ _ _ w := ⟨_, _, _, _, rfl, h2⟩
 obtain ⟨W, hW, S⟩ : ∃ W, W = ((w.alloc (.cells #[.bool s1, .slice a1 n1 c1] 29)).alloc (.cells #[.bool s2, .slice a2 n2 c2] 29)).alloc (.cells #[.bool false, .slice none 0 0, .bool false, .slice none 0 0] 31) ∧ Sto w W [((w.heap.size + 1 + 1, 1), IsI 0 0), ((w.heap.size + 1 + 1, 0), IsI 0 0), ((w.heap.size + 1, 0), IsI k2 z2), ((w.heap.size, 0), IsI k1 z1)] := ⟨_, rfl, ((((Sto.start w).new1 (w.heap.size) (by simp) s1 a1 n1 c1 29 (IsI k1 z1) (IsI.gstb _ _) (h1)).new1 (w.heap.size + 1) (by simp) s2 a2 n2 c2 29 (IsI k2 z2) (IsI.gstb _ _) (h2.ext ((Ext.refl _).alloc _))).new2 (w.heap.size + 1 + 1) (by simp) false false none none 0 0 0 0 31 (IsI 0 0) (IsI 0 0) (IsI.gstb _ _) (IsI.nil _ _) (IsI.gstb _ _) (IsI.nil _ _))⟩
 clear h1 h2
 go_enter Tryz.func86, Tryz.ntmps86
 go_upto_region 1 with (fail)
 rw [← hW]
 clear hW
 have hl := hid S.lt; have hw := S.ext.size
 refine rgs 4 [some 6, some 7, some 8, some 5] [IsI k1 z1, IsI k2 z2, IsI (max k1 k2) ((Int.gcd z1 z2 : Nat)), IsBo W 1] [3] ?_ ?_
 ·refine Rc (ldI S 3 (w.heap.size) 0 (Od.lit 2) ld_Int) ?_
  refine Rc (ldI S 2 (w.heap.size + 1) 0 (Od.lit 3) ld_Int) ?_
  refine Rc (cl2 (en Tryz.func92) (Od.lc (Φ := IsI k1 z1) 0 6) (Od.lc (Φ := IsI k2 z2) 1 7) (fun x0 x1 w' hE d0 d1 => Gcd_f d0 d1 (by omega) (by omega))) ?_
  refine Rc (al al_Int) ?_
  exact RgAll.nil
 intro v W1 e1 hΦ _
 replace S := S.mono e1
 have h8 := hΦ 2 (by decide)
 obtain ⟨g5, v3, q2, b1, _⟩ := (hΦ 3 (by decide) : IsBo W 1 (v 3) W1)
 replace S := S.addN 1 (ApartO.old hl.out q2) (Nat.le_trans hw q2) b1
 simp only [newF, List.cons_append, List.nil_append] at S
 simp only [layL, Act.put, List.setIfInBounds_toArray, List.set_cons_zero, List.set_cons_succ, Nat.reduceAdd]
 rw [v3]
 clear b1 hl hw v3 hΦ e1
 try simp only [List.drop_succ_cons, List.drop_zero]
 (with_reducible refine stL ?_ (by rfl)); intro KK hKK; refine stI S 0 (g5) 0 h8 st_Int (fun W2 S2 G2 => hKK _ _ ?_) rfl
 replace S := S2; clear S2 G2 hKK KK h8
 simp only [List.set_cons_zero] at S
 refine wpList_nil ?_
 go_upto_region 2 with (fail)
 refine rg 7 [some 9, some 10, some 11, some 12, some 13, some 14, some 15] [IsI k1 z1, IsI (max k1 k2) ((Int.gcd z1 z2 : Nat)), IsI k1 qn, IsI k2 z2, IsI (max k1 k2) ((Int.gcd z1 z2 : Nat)), IsI k2 qd, IsQ (IsI k1 qn) (IsI k2 qd)] [] 1 ?_ ?_
 ·refine Rc (ldI S 4 (w.heap.size) 0 (Od.lit 2) ld_Int) ?_
  refine Rc (ldI S 0 (g5) 0 (Od.lit 5) ld_Int) ?_
  refine Rc (cl2 (en Tryz.func88) (Od.lc (Φ := IsI k1 z1) 0 9) (Od.lc (Φ := IsI (max k1 k2) ((Int.gcd z1 z2 : Nat))) 1 10) (fun x0 x1 w' hE d0 d1 => Calls.mono (quotient_f d0 d1 (by omega) (by omega) HG.out) fun _ _ h => h.eqz HN.out)) ?_
  refine Rc (ldI S 3 (w.heap.size + 1) 0 (Od.lit 3) ld_Int) ?_
  refine Rc (ldI S 0 (g5) 0 (Od.lit 5) ld_Int) ?_
  refine Rc (cl2 (en Tryz.func88) (Od.lc (Φ := IsI k2 z2) 3 12) (Od.lc (Φ := IsI (max k1 k2) ((Int.gcd z1 z2 : Nat))) 4 13) (fun x0 x1 w' hE d0 d1 => Calls.mono (quotient_f d0 d1 (by omega) (by omega) HG.out) fun _ _ h => h.eqz HD.out)) ?_
  refine Rc (bq (Od.loc 2 11) (Od.loc 5 14) bd_Rat) ?_
  exact RgAll.nil
 intro v W3 e1 hΦ _
 replace S := S.mono e1
 have h15 := hΦ 6 (by decide)
 simp only [layL, Act.put, List.setIfInBounds_toArray, List.set_cons_zero, List.set_cons_succ, Nat.reduceAdd]
 clear hΦ e1
 refine stA 7 (h := fun KK hKK => stQ S 2 1 (w.heap.size + 1 + 1) 0 h15 (IsI.gstb _ _) (IsI.gstb _ _) st_Rat (fun W4 S2 G2 => hKK _ _ ?_) rfl rfl)
 replace S := S2; clear S2 G2 hKK KK h15
 simp only [List.set_cons_zero, List.set_cons_succ] at S
 refine wpAny_done (by kernel_rfl) ?_ _
 go_wp2_with fail
 obtain ⟨s90x, a90x, n90x, c90x, b90x, h90x⟩ := S.at 2 (w.heap.size + 1 + 1) 0 (IsI k1 qn) rfl; have L90xa : World.cell? W4 ⟨w.heap.size + 1 + 1, 0, none⟩ = some (.bool s90x) := b90x.c0; have L90xb : World.cell? W4 ⟨w.heap.size + 1 + 1, 1, none⟩ = some (.slice a90x n90x c90x) := b90x.c1
 obtain ⟨s90y, a90y, n90y, c90y, b90y, h90y⟩ := S.at 1 (w.heap.size + 1 + 1) 1 (IsI k2 qd) rfl; have L90ya : World.cell? W4 ⟨w.heap.size + 1 + 1, 2, none⟩ = some (.bool s90y) := b90y.c0; have L90yb : World.cell? W4 ⟨w.heap.size + 1 + 1, 3, none⟩ = some (.slice a90y n90y c90y) := b90y.c1
 exact bodyPost_ret (v := .agg #[.bool s90x, .slice a90x n90x c90x, .bool s90y, .slice a90y n90y c90y]) (by simp [results, Tryz.results86, go_sem, L90xa, L90xb, L90ya, L90yb]) rfl (⟨_, rfl, S.ext, ⟨_, _, _, _, _, _, _, _, rfl, h90x, h90y⟩⟩)
theorem reduced_f {k1 k2 : Nat} {z1 z2 : Int} {x y : Value} {w : World} (hx : IsI k1 z1 x w) (hy : IsI k2 z2 y w) (l1 : k1 ≤ 33554432) (l2 : k2 ≤ 33554432) (hz : 0 < z2) :
  Calls Tryz.prog 86 #[x, y] w (Ret w (IsRat (max k1 k2) (Rat.divInt z1 z2))) := by
 refine Calls.mono (reduced_c hx hy l1 l2 (by omega) _ _ (rat_num_pos z1 z2 hz) (rat_den_pos z1 z2 hz)) fun _ _ h => h.mono fun _ _ ⟨s, a, n, c, s', a', n', c', h1, h2, h3⟩ => ⟨s, a, n, c, s', a', n', c', h1, h2.mono (by omega), h3.mono (by omega)⟩

theorem Ret.ratz {w : World} {K K' : Nat} {q q' : Rat} {e : Ending} {w' : World} (h : Ret w (IsRat K q) e w') (hq : q = q') (hk : K ≤ K') : Ret w (IsRat K' q') e w' := by
 subst hq; exact h.mono fun _ _ h => h.mono hk
theorem new_sign (n d : Int) (hd : d ≠ 0) : Rat.divInt (n * d.sign) (d.natAbs : Int) = Rat.divInt n d := by
 rw [← Int.mul_sign_self d]
 exact Rat.divInt_mul_right (by intro h; exact hd (Int.sign_eq_zero_iff_zero.1 h))

set_option maxRecDepth 100000 in
set_option maxHeartbeats 4000000 in
theorem qNew0_f {k1 k2 : Nat} {z1 z2 : Int} {x y : Value} {w : World} (hx : IsI k1 z1 x w) (hy : IsI k2 z2 y w) (hz : z2 = 0) :
  Calls Tryz.prog 30 #[x, y] w (Ret w (IsT2 (IsQ (IsI 0 0) (IsI 0 0)) (IsV (.int .i64 4)))) := by
 obtain ⟨sg, hsg⟩ : ∃ s, z2.sign = s := ⟨_, rfl⟩
 have HSG := hid hsg
 have HS0 := hid (show (sg == 0) = true by rw [← hsg, hz]; rfl)
 clear hz hsg
 obtain ⟨s1, a1, n1, c1, rfl, h1⟩ := hx
 have h1 : IsI _ _ _ w := ⟨_, _, _, _, rfl, h1⟩
 obtain ⟨s2, a2, n2, c2, rfl, h2⟩ := hy
 have h2 : IsI _ _ _ w := ⟨_, _, _, _, rfl, h2⟩
 obtain ⟨W, hW, S⟩ : ∃ W, W = ((w.alloc (.cells #[.bool s1, .slice a1 n1 c1] 29)).alloc (.cells #[.bool s2, .slice a2 n2 c2] 29)).alloc (.cells #[.bool false, .slice none 0 0, .bool false, .slice none 0 0] 31) ∧ Sto w W [((w.heap.size + 1 + 1, 1), IsI 0 0), ((w.heap.size + 1 + 1, 0), IsI 0 0), ((w.heap.size + 1, 0), IsI k2 z2), ((w.heap.size, 0), IsI k1 z1)] := ⟨_, rfl, ((((Sto.start w).new1 (w.heap.size) (by simp) s1 a1 n1 c1 29 (IsI k1 z1) (IsI.gstb _ _) (h1)).new1 (w.heap.size + 1) (by simp) s2 a2 n2 c2 29 (IsI k2 z2) (IsI.gstb _ _) (h2.ext ((Ext.refl _).alloc _))).new2 (w.heap.size + 1 + 1) (by simp) false false none none 0 0 0 0 31 (IsI 0 0) (IsI 0 0) (IsI.gstb _ _) (IsI.nil _ _) (IsI.gstb _ _) (IsI.nil _ _))⟩
 clear h1 h2
 go_enter Tryz.func30, Tryz.ntmps30
 go_upto_region 1 with (fail)
 rw [← hW]
 clear hW
 refine rgs 3 [some 7, some 8, some 6] [IsI k2 z2, IsV (.int .i64 sg), IsV (.int .i64 sg)] [] ?_ ?_
 ·refine Rc (ldI S 2 (w.heap.size + 1) 0 (Od.lit 3) ld_Int) ?_
  refine Rc (cl1 (en Tryz.func85) (Od.lc (Φ := IsI k2 z2) 0 7) (fun x0 w' hE d0 => Calls.mono (Sign_f d0) fun _ _ h => h.int (HSG.out))) ?_
  refine Rc (mv (Od.lc 1 8)) ?_
  exact RgAll.nil
 intro v W1 e1 hΦ _
 replace S := S.mono e1
 have v2 : v 2 = .int .i64 sg := hΦ 2 (by decide)
 simp only [layL, Act.put, List.setIfInBounds_toArray, List.set_cons_zero, List.set_cons_succ, Nat.reduceAdd]
 rw [v2]
 clear v2 hΦ e1
 refine wpList_nil ?_
 go_upto_region 2 with (fail)
 refine rgs 2 [some 9, some 10] [IsV (.int .i64 sg), IsV (.bool true)] [] ?_ ?_
 ·refine Rc (mv (Od.lit 6)) ?_
  refine Rc (bn (r := .bool true) (Od.loc 0 9) Od.con (hr := fun w => by have hx9 := HS0.out; go_simp)) ?_
  exact RgAll.nil
 intro v W2 e1 hΦ _
 replace S := S.mono e1
 have v1 : v 1 = .bool true := hΦ 1 (by decide)
 simp only [layL, Act.put, List.setIfInBounds_toArray, List.set_cons_zero, List.set_cons_succ, Nat.reduceAdd]
 rw [v1]
 clear v1 hΦ e1
 refine wpList_nil ?_
 go_upto_region 3 with (fail)
 refine rgs 1 [some 11] [IsQ (IsI 0 0) (IsI 0 0)] [] ?_ ?_
 ·refine Rc (b0 z_Rat nilQ) ?_
  exact RgAll.nil
 intro v W3 e1 hΦ _
 replace S := S.mono e1
 have h11 := hΦ 0 (by decide)
 simp only [layL, Act.put, List.setIfInBounds_toArray, List.set_cons_zero, List.set_cons_succ]
 clear hΦ e1
 try simp only [List.drop_succ_cons, List.drop_zero]
 (with_reducible refine stL ?_ (by rfl)); intro KK hKK; refine stQ S 1 0 (w.heap.size + 1 + 1) 0 h11 (IsI.gstb _ _) (IsI.gstb _ _) st_Rat (fun W4 S2 G2 => hKK _ _ ?_) rfl rfl
 replace S := S2; clear S2 G2 hKK KK h11
 simp only [List.set_cons_zero, List.set_cons_succ] at S
 refine wpList_step fun K hK => ?_; go_simp; refine hK _ _ ?_; clear hK K
 refine wpList_nil ?_
 go_wp2_with fail
 obtain ⟨s90x, a90x, n90x, c90x, b90x, h90x⟩ := S.at 1 (w.heap.size + 1 + 1) 0 (IsI 0 0) rfl; have L90xa : World.cell? W4 ⟨w.heap.size + 1 + 1, 0, none⟩ = some (.bool s90x) := b90x.c0; have L90xb : World.cell? W4 ⟨w.heap.size + 1 + 1, 1, none⟩ = some (.slice a90x n90x c90x) := b90x.c1
 obtain ⟨s90y, a90y, n90y, c90y, b90y, h90y⟩ := S.at 0 (w.heap.size + 1 + 1) 1 (IsI 0 0) rfl; have L90ya : World.cell? W4 ⟨w.heap.size + 1 + 1, 2, none⟩ = some (.bool s90y) := b90y.c0; have L90yb : World.cell? W4 ⟨w.heap.size + 1 + 1, 3, none⟩ = some (.slice a90y n90y c90y) := b90y.c1
 exact bodyPost_ret (v := .tuple #[.agg #[.bool s90x, .slice a90x n90x c90x, .bool s90y, .slice a90y n90y c90y], .int .i64 4]) (by simp [results, Tryz.results30, go_sem, L90xa, L90xb, L90ya, L90yb]) rfl (⟨_, rfl, S.ext, _, _, rfl, ⟨_, _, _, _, _, _, _, _, rfl, h90x, h90y⟩, rfl⟩)

set_option maxRecDepth 100000 in
set_option maxHeartbeats 4000000 in
theorem qNew_c {k1 k2 : Nat} {z1 z2 : Int} {x y : Value} {w : World} (hx : IsI k1 z1 x w) (hy : IsI k2 z2 y w) (l1 : k1 ≤ 16777216) (l2 : k2 ≤ 16777216) (hz : z2 ≠ 0) (q : Rat) (hq : Rat.divInt z1 z2 = q) :
  Calls Tryz.prog 30 #[x, y] w (Ret w (IsT2 (IsRat (max (k1 + 2) k2) q) (IsV (.int .i64 0)))) := by
 obtain ⟨sg, hsg⟩ : ∃ s, z2.sign = s := ⟨_, rfl⟩
 have HSG := hid hsg
 have HS0 := hid (show (sg == 0) = false by rw [beq_eq_false_iff_ne, ← hsg]; intro h; exact hz (Int.sign_eq_zero_iff_zero.1 h))
 have HSB := hid (show -9223372036854775808 ≤ sg ∧ sg ≤ 9223372036854775807 by rw [← hsg]; rcases Int.lt_trichotomy z2 0 with h | h | h <;> simp [Int.sign_eq_neg_one_of_neg, Int.sign_eq_one_of_pos, h])
 have HP := hid (show 0 < ((z2.natAbs : Nat) : Int) by omega)
 have HQ := hid (show Rat.divInt (z1 * sg) ((z2.natAbs : Nat) : Int) = q by rw [← hsg, new_sign z1 z2 hz]; exact hq)
 clear hz hsg hq
 obtain ⟨s1, a1, n1, c1, rfl, h1⟩ := hx
 have h1 : IsI _ _ _ w := ⟨_, _, _, _, rfl, h1⟩
 obtain ⟨s2, a2, n2, c2, rfl, h2⟩ := hy
 have h2 : IsI _ _ _ w := ⟨_, _, _, _, rfl, h2⟩
 obtain ⟨W, hW, S⟩ : ∃ W, W = ((w.alloc (.cells #[.bool s1, .slice a1 n1 c1] 29)).alloc (.cells #[.bool s2, .slice a2 n2 c2] 29)).alloc (.cells #[.bool false, .slice none 0 0, .bool false, .slice none 0 0] 31) ∧ Sto w W [((w.heap.size + 1 + 1, 1), IsI 0 0), ((w.heap.size + 1 + 1, 0), IsI 0 0), ((w.heap.size + 1, 0), IsI k2 z2), ((w.heap.size, 0), IsI k1 z1)] := ⟨_, rfl, ((((Sto.start w).new1 (w.heap.size) (by simp) s1 a1 n1 c1 29 (IsI k1 z1) (IsI.gstb _ _) (h1)).new1 (w.heap.size + 1) (by simp) s2 a2 n2 c2 29 (IsI k2 z2) (IsI.gstb _ _) (h2.ext ((Ext.refl _).alloc _))).new2 (w.heap.size + 1 + 1) (by simp) false false none none 0 0 0 0 31 (IsI 0 0) (IsI 0 0) (IsI.gstb _ _) (IsI.nil _ _) (IsI.gstb _ _) (IsI.nil _ _))⟩
 clear h1 h2
 go_enter Tryz.func30, Tryz.ntmps30
 go_upto_region 1 with (fail)
 rw [← hW]
 clear hW
 refine rgs 3 [some 7, some 8, some 6] [IsI k2 z2, IsV (.int .i64 sg), IsV (.int .i64 sg)] [] ?_ ?_
 ·refine Rc (ldI S 2 (w.heap.size + 1) 0 (Od.lit 3) ld_Int) ?_
  refine Rc (cl1 (en Tryz.func85) (Od.lc (Φ := IsI k2 z2) 0 7) (fun x0 w' hE d0 => Calls.mono (Sign_f d0) fun _ _ h => h.int (HSG.out))) ?_
  refine Rc (mv (Od.lc 1 8)) ?_
  exact RgAll.nil
 intro v W1 e1 hΦ _
 replace S := S.mono e1
 have v2 : v 2 = .int .i64 sg := hΦ 2 (by decide)
 simp only [layL, Act.put, List.setIfInBounds_toArray, List.set_cons_zero, List.set_cons_succ, Nat.reduceAdd]
 rw [v2]
 clear v2 hΦ e1
 refine wpList_nil ?_
 go_upto_region 2 with (fail)
 refine rgs 2 [some 9, some 10] [IsV (.int .i64 sg), IsV (.bool false)] [] ?_ ?_
 ·refine Rc (mv (Od.lit 6)) ?_
  refine Rc (bn (r := .bool false) (Od.loc 0 9) Od.con (hr := fun w => by have hx9 := HS0.out; go_simp)) ?_
  exact RgAll.nil
 intro v W2 e1 hΦ _
 replace S := S.mono e1
 have v1 : v 1 = .bool false := hΦ 1 (by decide)
 simp only [layL, Act.put, List.setIfInBounds_toArray, List.set_cons_zero, List.set_cons_succ, Nat.reduceAdd]
 rw [v1]
 clear v1 hΦ e1
 refine wpList_nil ?_
 go_upto_region 4 with (fail)
 refine rg 7 [some 12, some 13, some 14, some 15, some 16, some 17, some 18] [IsI k1 z1, IsV (.int .i64 sg), IsI 2 sg, IsI (k1 + 2) (z1 * sg), IsI k2 z2, IsI k2 z2.natAbs, IsQ (IsI (max (k1 + 2) k2) q.num) (IsI (max (k1 + 2) k2) ((q.den : Int)))] [] 2 ?_ ?_
 ·refine Rc (ldI S 3 (w.heap.size) 0 (Od.lit 2) ld_Int) ?_
  refine Rc (mv (Od.lit 6)) ?_
  refine Rc (cl1 (en Tryz.func78) (Od.lc (Φ := IsV (.int .i64 sg)) 1 13) (fun x0 w' hE d0 => by { obtain rfl : x0 = .int .i64 sg := d0; exact Of_f _ sg HSB.out.1 HSB.out.2 })) ?_
  refine Rc (cl2 (en Tryz.func49) (Od.lc (Φ := IsI k1 z1) 0 12) (Od.lc (Φ := IsI 2 sg) 2 14) (fun x0 x1 w' hE d0 d1 => Mul_f d0 d1 (by omega) (by omega))) ?_
  refine Rc (ldI S 2 (w.heap.size + 1) 0 (Od.lit 3) ld_Int) ?_
  refine Rc (cl1 (en Tryz.func87) (Od.lc (Φ := IsI k2 z2) 4 16) (fun x0 w' hE d0 => Abs_f d0)) ?_
  refine Rc (cl2 (en Tryz.func86) (Od.lc (Φ := IsI (k1 + 2) (z1 * sg)) 3 15) (Od.lc (Φ := IsI k2 z2.natAbs) 5 17) (fun x0 x1 w' hE d0 d1 => Calls.mono (reduced_f d0 d1 (by omega) (by omega) HP.out) fun _ _ h => h.ratz HQ.out (Nat.le_refl _))) ?_
  exact RgAll.nil
 intro v W3 e1 hΦ _
 replace S := S.mono e1
 have h18 := hΦ 6 (by decide)
 simp only [layL, Act.put, List.setIfInBounds_toArray, List.set_cons_zero, List.set_cons_succ, Nat.reduceAdd]
 clear hΦ e1
 refine stA 7 (h := fun KK hKK => stQ S 1 0 (w.heap.size + 1 + 1) 0 h18 (IsI.gstb _ _) (IsI.gstb _ _) st_Rat (fun W4 S2 G2 => hKK _ _ ?_) rfl rfl)
 replace S := S2; clear S2 G2 hKK KK h18
 simp only [List.set_cons_zero, List.set_cons_succ] at S
 refine wpAny_ready (rs := [8]) (by kernel_rfl) (by simp) (AllReady.cons rfl (fun K hK => ?_) AllReady.nil); go_simp; refine hK _ _ ?_; clear hK K
 refine wpAny_done (by kernel_rfl) ?_ _
 go_wp2_with fail
 obtain ⟨s90x, a90x, n90x, c90x, b90x, h90x⟩ := S.at 1 (w.heap.size + 1 + 1) 0 (IsI (max (k1 + 2) k2) q.num) rfl; have L90xa : World.cell? W4 ⟨w.heap.size + 1 + 1, 0, none⟩ = some (.bool s90x) := b90x.c0; have L90xb : World.cell? W4 ⟨w.heap.size + 1 + 1, 1, none⟩ = some (.slice a90x n90x c90x) := b90x.c1
 obtain ⟨s90y, a90y, n90y, c90y, b90y, h90y⟩ := S.at 0 (w.heap.size + 1 + 1) 1 (IsI (max (k1 + 2) k2) ((q.den : Int))) rfl; have L90ya : World.cell? W4 ⟨w.heap.size + 1 + 1, 2, none⟩ = some (.bool s90y) := b90y.c0; have L90yb : World.cell? W4 ⟨w.heap.size + 1 + 1, 3, none⟩ = some (.slice a90y n90y c90y) := b90y.c1
 exact bodyPost_ret (v := .tuple #[.agg #[.bool s90x, .slice a90x n90x c90x, .bool s90y, .slice a90y n90y c90y], .int .i64 0]) (by simp [results, Tryz.results30, go_sem, L90xa, L90xb, L90ya, L90yb]) rfl (⟨_, rfl, S.ext, _, _, rfl, ⟨_, _, _, _, _, _, _, _, rfl, h90x, h90y⟩, rfl⟩)
theorem qNew_f {k1 k2 : Nat} {z1 z2 : Int} {x y : Value} {w : World} (hx : IsI k1 z1 x w) (hy : IsI k2 z2 y w) (l1 : k1 ≤ 16777216) (l2 : k2 ≤ 16777216) (hz : z2 ≠ 0) :
  Calls Tryz.prog 30 #[x, y] w (Ret w (IsT2 (IsRat (max (k1 + 2) k2) (Rat.divInt z1 z2)) (IsV (.int .i64 0)))) := qNew_c hx hy l1 l2 hz _ rfl

set_option maxRecDepth 100000 in
set_option maxHeartbeats 4000000 in
theorem qAdd_f {k1 k2 : Nat} {p q : Rat} {x y : Value} {w : World} (hx : IsRat k1 p x w) (hy : IsRat k2 q y w) (l1 : k1 ≤ 1048576) (l2 : k2 ≤ 1048576) : Calls Tryz.prog 37 #[x, y] w (Ret w (IsRat (k1 + k2 + 1) (p + q))) := by
 obtain ⟨r, hr⟩ : ∃ r, p + q = r := ⟨_, rfl⟩
 rw [hr]
 have HQ := hid (show Rat.divInt (p.num * (q.den : Int) + q.num * (p.den : Int)) ((p.den : Int) * (q.den : Int)) = r by rw [← hr]; exact rat_add p q)
 have HK := hid (show max (max (k1 + k2) (k2 + k1) + 1) (k1 + k2) ≤ k1 + k2 + 1 by omega)
 clear hr
 have HP := hid (show 0 < (p.den : Int) * (q.den : Int) from Int.mul_pos (by have := p.den_pos; omega) (by have := q.den_pos; omega))
 obtain ⟨s1x, a1x, n1x, c1x, s1y, a1y, n1y, c1y, rfl, h1x, h1y⟩ := hx
 obtain ⟨s2x, a2x, n2x, c2x, s2y, a2y, n2y, c2y, rfl, h2x, h2y⟩ := hy
 obtain ⟨W, hW, S⟩ : ∃ W, W = ((w.alloc (.cells #[.bool s1x, .slice a1x n1x c1x, .bool s1y, .slice a1y n1y c1y] 31)).alloc (.cells #[.bool s2x, .slice a2x n2x c2x, .bool s2y, .slice a2y n2y c2y] 31)).alloc (.cells #[.bool false, .slice none 0 0, .bool false, .slice none 0 0] 31) ∧ Sto w W [((w.heap.size + 1 + 1, 1), IsI 0 0), ((w.heap.size + 1 + 1, 0), IsI 0 0), ((w.heap.size + 1, 1), IsI k2 ((q.den : Int))), ((w.heap.size + 1, 0), IsI k2 q.num), ((w.heap.size, 1), IsI k1 ((p.den : Int))), ((w.heap.size, 0), IsI k1 p.num)] := ⟨_, rfl, ((((Sto.start w).new2 (w.heap.size) (by simp) s1x s1y a1x a1y n1x c1x n1y c1y 31 (IsI k1 p.num) (IsI k1 ((p.den : Int))) (IsI.gstb _ _) (h1x) (IsI.gstb _ _) (h1y)).new2 (w.heap.size + 1) (by simp) s2x s2y a2x a2y n2x c2x n2y c2y 31 (IsI k2 q.num) (IsI k2 ((q.den : Int))) (IsI.gstb _ _) (h2x.ext ((Ext.refl _).alloc _)) (IsI.gstb _ _) (h2y.ext ((Ext.refl _).alloc _))).new2 (w.heap.size + 1 + 1) (by simp) false false none none 0 0 0 0 31 (IsI 0 0) (IsI 0 0) (IsI.gstb _ _) (IsI.nil _ _) (IsI.gstb _ _) (IsI.nil _ _))⟩
 clear h1x h1y h2x h2y
 go_enter Tryz.func37, Tryz.ntmps37
 go_upto_region 1 with (fail)
 rw [← hW]
 clear hW
 refine rg 17 [some 5, some 6, some 7, some 8, some 9, some 10, some 11, some 12, some 13, some 14, some 15, some 16, some 17, some 18, some 19, some 20, some 21] [IsV (.pointer (some ⟨w.heap.size, 0, none⟩)), IsI k1 p.num, IsV (.pointer (some ⟨w.heap.size + 1, 2, none⟩)), IsI k2 ((q.den : Int)), IsI (k1 + k2) (p.num * (q.den : Int)), IsV (.pointer (some ⟨w.heap.size + 1, 0, none⟩)), IsI k2 q.num, IsV (.pointer (some ⟨w.heap.size, 2, none⟩)), IsI k1 ((p.den : Int)), IsI (k2 + k1) (q.num * (p.den : Int)), IsI (max (k1 + k2) (k2 + k1) + 1) (p.num * (q.den : Int) + q.num * (p.den : Int)), IsV (.pointer (some ⟨w.heap.size, 2, none⟩)), IsI k1 ((p.den : Int)), IsV (.pointer (some ⟨w.heap.size + 1, 2, none⟩)), IsI k2 ((q.den : Int)), IsI (k1 + k2) ((p.den : Int) * (q.den : Int)), IsQ (IsI (k1 + k2 + 1) r.num) (IsI (k1 + k2 + 1) ((r.den : Int)))] [] 1 ?_ ?_
 ·refine Rc (fa (fa_Rat0 (w.heap.size) 0) (Od.lit 2)) ?_
  refine Rc (ldI S 5 (w.heap.size) 0 (Od.lc 0 5) ld_Int) ?_
  refine Rc (fa (fa_Rat1 (w.heap.size + 1) 0) (Od.lit 3)) ?_
  refine Rc (ldI S 2 (w.heap.size + 1) 1 (Od.lc 2 7) ld_Int) ?_
  refine Rc (cl2 (en Tryz.func49) (Od.lc (Φ := IsI k1 p.num) 1 6) (Od.lc (Φ := IsI k2 ((q.den : Int))) 3 8) (fun x0 x1 w' hE d0 d1 => Mul_f d0 d1 (by omega) (by omega))) ?_
  refine Rc (fa (fa_Rat0 (w.heap.size + 1) 0) (Od.lit 3)) ?_
  refine Rc (ldI S 3 (w.heap.size + 1) 0 (Od.lc 5 10) ld_Int) ?_
  refine Rc (fa (fa_Rat1 (w.heap.size) 0) (Od.lit 2)) ?_
  refine Rc (ldI S 4 (w.heap.size) 1 (Od.lc 7 12) ld_Int) ?_
  refine Rc (cl2 (en Tryz.func49) (Od.lc (Φ := IsI k2 q.num) 6 11) (Od.lc (Φ := IsI k1 ((p.den : Int))) 8 13) (fun x0 x1 w' hE d0 d1 => Mul_f d0 d1 (by omega) (by omega))) ?_
  refine Rc (cl2 (en Tryz.func48) (Od.lc (Φ := IsI (k1 + k2) (p.num * (q.den : Int))) 4 9) (Od.lc (Φ := IsI (k2 + k1) (q.num * (p.den : Int))) 9 14) (fun x0 x1 w' hE d0 d1 => Add_f d0 d1 (by omega) (by omega))) ?_
  refine Rc (fa (fa_Rat1 (w.heap.size) 0) (Od.lit 2)) ?_
  refine Rc (ldI S 4 (w.heap.size) 1 (Od.lc 11 16) ld_Int) ?_
  refine Rc (fa (fa_Rat1 (w.heap.size + 1) 0) (Od.lit 3)) ?_
  refine Rc (ldI S 2 (w.heap.size + 1) 1 (Od.lc 13 18) ld_Int) ?_
  refine Rc (cl2 (en Tryz.func49) (Od.lc (Φ := IsI k1 ((p.den : Int))) 12 17) (Od.lc (Φ := IsI k2 ((q.den : Int))) 14 19) (fun x0 x1 w' hE d0 d1 => Mul_f d0 d1 (by omega) (by omega))) ?_
  refine Rc (cl2 (en Tryz.func86) (Od.lc (Φ := IsI (max (k1 + k2) (k2 + k1) + 1) (p.num * (q.den : Int) + q.num * (p.den : Int))) 10 15) (Od.lc (Φ := IsI (k1 + k2) ((p.den : Int) * (q.den : Int))) 15 20) (fun x0 x1 w' hE d0 d1 => Calls.mono (reduced_f d0 d1 (by omega) (by omega) HP.out) fun _ _ h => h.ratz HQ.out HK.out)) ?_
  exact RgAll.nil
 intro v W1 e1 hΦ _
 replace S := S.mono e1
 have h21 := hΦ 16 (by decide)
 simp only [layL, Act.put, List.setIfInBounds_toArray, List.set_cons_zero, List.set_cons_succ, Nat.reduceAdd]
 clear hΦ e1
 refine stA 17 (h := fun KK hKK => stQ S 1 0 (w.heap.size + 1 + 1) 0 h21 (IsI.gstb _ _) (IsI.gstb _ _) st_Rat (fun W2 S2 G2 => hKK _ _ ?_) rfl rfl)
 replace S := S2; clear S2 G2 hKK KK h21
 simp only [List.set_cons_zero, List.set_cons_succ] at S
 refine wpAny_done (by kernel_rfl) ?_ _
 go_wp2_with fail
 obtain ⟨s90x, a90x, n90x, c90x, b90x, h90x⟩ := S.at 1 (w.heap.size + 1 + 1) 0 (IsI (k1 + k2 + 1) r.num) rfl; have L90xa : World.cell? W2 ⟨w.heap.size + 1 + 1, 0, none⟩ = some (.bool s90x) := b90x.c0; have L90xb : World.cell? W2 ⟨w.heap.size + 1 + 1, 1, none⟩ = some (.slice a90x n90x c90x) := b90x.c1
 obtain ⟨s90y, a90y, n90y, c90y, b90y, h90y⟩ := S.at 0 (w.heap.size + 1 + 1) 1 (IsI (k1 + k2 + 1) ((r.den : Int))) rfl; have L90ya : World.cell? W2 ⟨w.heap.size + 1 + 1, 2, none⟩ = some (.bool s90y) := b90y.c0; have L90yb : World.cell? W2 ⟨w.heap.size + 1 + 1, 3, none⟩ = some (.slice a90y n90y c90y) := b90y.c1
 exact bodyPost_ret (v := .agg #[.bool s90x, .slice a90x n90x c90x, .bool s90y, .slice a90y n90y c90y]) (by simp [results, Tryz.results37, go_sem, L90xa, L90xb, L90ya, L90yb]) rfl (⟨_, rfl, S.ext, ⟨_, _, _, _, _, _, _, _, rfl, h90x, h90y⟩⟩)

set_option maxRecDepth 100000 in
set_option maxHeartbeats 4000000 in
theorem qneg_c {k1 : Nat} {p : Rat} {x : Value} {w : World} (hx : IsRat k1 p x w) : Calls Tryz.prog 79 #[x] w (Ret w (IsQ (IsI k1 (-p.num)) (IsI k1 (p.den : Int)))) := by
 obtain ⟨s1x, a1x, n1x, c1x, s1y, a1y, n1y, c1y, rfl, h1x, h1y⟩ := hx
 obtain ⟨W, hW, S⟩ : ∃ W, W = (w.alloc (.cells #[.bool s1x, .slice a1x n1x c1x, .bool s1y, .slice a1y n1y c1y] 31)).alloc (.cells #[.bool false, .slice none 0 0, .bool false, .slice none 0 0] 31) ∧ Sto w W [((w.heap.size + 1, 1), IsI 0 0), ((w.heap.size + 1, 0), IsI 0 0), ((w.heap.size, 1), IsI k1 ((p.den : Int))), ((w.heap.size, 0), IsI k1 p.num)] := ⟨_, rfl, (((Sto.start w).new2 (w.heap.size) (by simp) s1x s1y a1x a1y n1x c1x n1y c1y 31 (IsI k1 p.num) (IsI k1 ((p.den : Int))) (IsI.gstb _ _) (h1x) (IsI.gstb _ _) (h1y)).new2 (w.heap.size + 1) (by simp) false false none none 0 0 0 0 31 (IsI 0 0) (IsI 0 0) (IsI.gstb _ _) (IsI.nil _ _) (IsI.gstb _ _) (IsI.nil _ _))⟩
 clear h1x h1y
 go_enter Tryz.func79, Tryz.ntmps79
 go_upto_region 1 with (fail)
 rw [← hW]
 clear hW
 refine rg 6 [some 3, some 4, some 5, some 6, some 7, some 8] [IsV (.pointer (some ⟨w.heap.size, 0, none⟩)), IsI k1 p.num, IsI k1 (-p.num), IsV (.pointer (some ⟨w.heap.size, 2, none⟩)), IsI k1 ((p.den : Int)), IsQ (IsI k1 (-p.num)) (IsI k1 ((p.den : Int)))] [] 1 ?_ ?_
 ·refine Rc (fa (fa_Rat0 (w.heap.size) 0) (Od.lit 1)) ?_
  refine Rc (ldI S 3 (w.heap.size) 0 (Od.lc 0 3) ld_Int) ?_
  refine Rc (cl1 (en Tryz.func114) (Od.lc (Φ := IsI k1 p.num) 1 4) (fun x0 w' hE d0 => Neg_f d0)) ?_
  refine Rc (fa (fa_Rat1 (w.heap.size) 0) (Od.lit 1)) ?_
  refine Rc (ldI S 2 (w.heap.size) 1 (Od.lc 3 6) ld_Int) ?_
  refine Rc (bq (Od.loc 2 5) (Od.loc 4 7) bd_Rat) ?_
  exact RgAll.nil
 intro v W1 e1 hΦ _
 replace S := S.mono e1
 have h8 := hΦ 5 (by decide)
 simp only [layL, Act.put, List.setIfInBounds_toArray, List.set_cons_zero, List.set_cons_succ, Nat.reduceAdd]
 clear hΦ e1
 refine stA 6 (h := fun KK hKK => stQ S 1 0 (w.heap.size + 1) 0 h8 (IsI.gstb _ _) (IsI.gstb _ _) st_Rat (fun W2 S2 G2 => hKK _ _ ?_) rfl rfl)
 replace S := S2; clear S2 G2 hKK KK h8
 simp only [List.set_cons_zero, List.set_cons_succ] at S
 refine wpAny_done (by kernel_rfl) ?_ _
 go_wp2_with fail
 obtain ⟨s90x, a90x, n90x, c90x, b90x, h90x⟩ := S.at 1 (w.heap.size + 1) 0 (IsI k1 (-p.num)) rfl; have L90xa : World.cell? W2 ⟨w.heap.size + 1, 0, none⟩ = some (.bool s90x) := b90x.c0; have L90xb : World.cell? W2 ⟨w.heap.size + 1, 1, none⟩ = some (.slice a90x n90x c90x) := b90x.c1
 obtain ⟨s90y, a90y, n90y, c90y, b90y, h90y⟩ := S.at 0 (w.heap.size + 1) 1 (IsI k1 ((p.den : Int))) rfl; have L90ya : World.cell? W2 ⟨w.heap.size + 1, 2, none⟩ = some (.bool s90y) := b90y.c0; have L90yb : World.cell? W2 ⟨w.heap.size + 1, 3, none⟩ = some (.slice a90y n90y c90y) := b90y.c1
 exact bodyPost_ret (v := .agg #[.bool s90x, .slice a90x n90x c90x, .bool s90y, .slice a90y n90y c90y]) (by simp [results, Tryz.results79, go_sem, L90xa, L90xb, L90ya, L90yb]) rfl (⟨_, rfl, S.ext, ⟨_, _, _, _, _, _, _, _, rfl, h90x, h90y⟩⟩)
theorem qneg_f {k1 : Nat} {p : Rat} {x : Value} {w : World} (hx : IsRat k1 p x w) : Calls Tryz.prog 79 #[x] w (Ret w (IsRat k1 (-p))) := qneg_c hx

set_option maxRecDepth 100000 in
set_option maxHeartbeats 4000000 in
theorem qSub_f {k1 k2 : Nat} {p q : Rat} {x y : Value} {w : World} (hx : IsRat k1 p x w) (hy : IsRat k2 q y w) (l1 : k1 ≤ 1048576) (l2 : k2 ≤ 1048576) : Calls Tryz.prog 36 #[x, y] w (Ret w (IsRat (k1 + k2 + 1) (p - q))) := by
 rw [Rat.sub_eq_add_neg]
 obtain ⟨s1x, a1x, n1x, c1x, s1y, a1y, n1y, c1y, rfl, h1x, h1y⟩ := hx
 obtain ⟨s2x, a2x, n2x, c2x, s2y, a2y, n2y, c2y, rfl, h2x, h2y⟩ := hy
 obtain ⟨W, hW, S⟩ : ∃ W, W = ((w.alloc (.cells #[.bool s1x, .slice a1x n1x c1x, .bool s1y, .slice a1y n1y c1y] 31)).alloc (.cells #[.bool s2x, .slice a2x n2x c2x, .bool s2y, .slice a2y n2y c2y] 31)).alloc (.cells #[.bool false, .slice none 0 0, .bool false, .slice none 0 0] 31) ∧ Sto w W [((w.heap.size + 1 + 1, 1), IsI 0 0), ((w.heap.size + 1 + 1, 0), IsI 0 0), ((w.heap.size + 1, 1), IsI k2 ((q.den : Int))), ((w.heap.size + 1, 0), IsI k2 q.num), ((w.heap.size, 1), IsI k1 ((p.den : Int))), ((w.heap.size, 0), IsI k1 p.num)] := ⟨_, rfl, ((((Sto.start w).new2 (w.heap.size) (by simp) s1x s1y a1x a1y n1x c1x n1y c1y 31 (IsI k1 p.num) (IsI k1 ((p.den : Int))) (IsI.gstb _ _) (h1x) (IsI.gstb _ _) (h1y)).new2 (w.heap.size + 1) (by simp) s2x s2y a2x a2y n2x c2x n2y c2y 31 (IsI k2 q.num) (IsI k2 ((q.den : Int))) (IsI.gstb _ _) (h2x.ext ((Ext.refl _).alloc _)) (IsI.gstb _ _) (h2y.ext ((Ext.refl _).alloc _))).new2 (w.heap.size + 1 + 1) (by simp) false false none none 0 0 0 0 31 (IsI 0 0) (IsI 0 0) (IsI.gstb _ _) (IsI.nil _ _) (IsI.gstb _ _) (IsI.nil _ _))⟩
 clear h1x h1y h2x h2y
 go_enter Tryz.func36, Tryz.ntmps36
 go_upto_region 1 with (fail)
 rw [← hW]
 clear hW
 refine rg 4 [some 5, some 6, some 7, some 8] [IsQ (IsI k1 p.num) (IsI k1 ((p.den : Int))), IsQ (IsI k2 q.num) (IsI k2 ((q.den : Int))), IsQ (IsI k2 ((-q).num)) (IsI k2 (((-q).den : Int))), IsQ (IsI (k1 + k2 + 1) ((p + -q).num)) (IsI (k1 + k2 + 1) (((p + -q).den : Int)))] [] 1 ?_ ?_
 ·refine Rc (ldQ S 5 4 (w.heap.size) 0 (Od.lit 2) ld_Rat rfl rfl) ?_
  refine Rc (ldQ S 3 2 (w.heap.size + 1) 0 (Od.lit 3) ld_Rat rfl rfl) ?_
  refine Rc (cl1 (en Tryz.func79) (Od.lc (Φ := IsQ (IsI k2 q.num) (IsI k2 ((q.den : Int)))) 1 6) (fun x0 w' hE d0 => qneg_f d0)) ?_
  refine Rc (cl2 (en Tryz.func37) (Od.lc (Φ := IsQ (IsI k1 p.num) (IsI k1 ((p.den : Int)))) 0 5) (Od.lc (Φ := IsQ (IsI k2 ((-q).num)) (IsI k2 (((-q).den : Int)))) 2 7) (fun x0 x1 w' hE d0 d1 => qAdd_f d0 d1 (by omega) (by omega))) ?_
  exact RgAll.nil
 intro v W1 e1 hΦ _
 replace S := S.mono e1
 have h8 := hΦ 3 (by decide)
 simp only [layL, Act.put, List.setIfInBounds_toArray, List.set_cons_zero, List.set_cons_succ, Nat.reduceAdd]
 clear hΦ e1
 refine stA 4 (h := fun KK hKK => stQ S 1 0 (w.heap.size + 1 + 1) 0 h8 (IsI.gstb _ _) (IsI.gstb _ _) st_Rat (fun W2 S2 G2 => hKK _ _ ?_) rfl rfl)
 replace S := S2; clear S2 G2 hKK KK h8
 simp only [List.set_cons_zero, List.set_cons_succ] at S
 refine wpAny_done (by kernel_rfl) ?_ _
 go_wp2_with fail
 obtain ⟨s90x, a90x, n90x, c90x, b90x, h90x⟩ := S.at 1 (w.heap.size + 1 + 1) 0 (IsI (k1 + k2 + 1) ((p + -q).num)) rfl; have L90xa : World.cell? W2 ⟨w.heap.size + 1 + 1, 0, none⟩ = some (.bool s90x) := b90x.c0; have L90xb : World.cell? W2 ⟨w.heap.size + 1 + 1, 1, none⟩ = some (.slice a90x n90x c90x) := b90x.c1
 obtain ⟨s90y, a90y, n90y, c90y, b90y, h90y⟩ := S.at 0 (w.heap.size + 1 + 1) 1 (IsI (k1 + k2 + 1) (((p + -q).den : Int))) rfl; have L90ya : World.cell? W2 ⟨w.heap.size + 1 + 1, 2, none⟩ = some (.bool s90y) := b90y.c0; have L90yb : World.cell? W2 ⟨w.heap.size + 1 + 1, 3, none⟩ = some (.slice a90y n90y c90y) := b90y.c1
 exact bodyPost_ret (v := .agg #[.bool s90x, .slice a90x n90x c90x, .bool s90y, .slice a90y n90y c90y]) (by simp [results, Tryz.results36, go_sem, L90xa, L90xb, L90ya, L90yb]) rfl (⟨_, rfl, S.ext, ⟨_, _, _, _, _, _, _, _, rfl, h90x, h90y⟩⟩)

/-- The order, as a number. -/
def cmpQ (p q : Rat) : Int := cmpI (p.num * (q.den : Int)) (q.num * (p.den : Int))
theorem cmpQ_gt {p q : Rat} (h : q < p) : cmpQ p q = 1 := cmpI_gt ((Rat.lt_iff q p).1 h)
set_option maxRecDepth 100000 in
set_option maxHeartbeats 4000000 in
theorem qCmp_f {k1 k2 : Nat} {p q : Rat} {x y : Value} {w : World} (hx : IsRat k1 p x w) (hy : IsRat k2 q y w) (l1 : k1 ≤ 1048576) (l2 : k2 ≤ 1048576) : Calls Tryz.prog 21 #[x, y] w (Ret w (IsV (.int .i64 (cmpQ p q)))) := by
 unfold cmpQ
 obtain ⟨s1x, a1x, n1x, c1x, s1y, a1y, n1y, c1y, rfl, h1x, h1y⟩ := hx
 obtain ⟨s2x, a2x, n2x, c2x, s2y, a2y, n2y, c2y, rfl, h2x, h2y⟩ := hy
 obtain ⟨W, hW, S⟩ : ∃ W, W = (w.alloc (.cells #[.bool s1x, .slice a1x n1x c1x, .bool s1y, .slice a1y n1y c1y] 31)).alloc (.cells #[.bool s2x, .slice a2x n2x c2x, .bool s2y, .slice a2y n2y c2y] 31) ∧ Sto w W [((w.heap.size + 1, 1), IsI k2 ((q.den : Int))), ((w.heap.size + 1, 0), IsI k2 q.num), ((w.heap.size, 1), IsI k1 ((p.den : Int))), ((w.heap.size, 0), IsI k1 p.num)] := ⟨_, rfl, (((Sto.start w).new2 (w.heap.size) (by simp) s1x s1y a1x a1y n1x c1x n1y c1y 31 (IsI k1 p.num) (IsI k1 ((p.den : Int))) (IsI.gstb _ _) (h1x) (IsI.gstb _ _) (h1y)).new2 (w.heap.size + 1) (by simp) s2x s2y a2x a2y n2x c2x n2y c2y 31 (IsI k2 q.num) (IsI k2 ((q.den : Int))) (IsI.gstb _ _) (h2x.ext ((Ext.refl _).alloc _)) (IsI.gstb _ _) (h2y.ext ((Ext.refl _).alloc _)))⟩
 clear h1x h1y h2x h2y
 go_enter Tryz.func21, Tryz.ntmps21
 go_upto_region 1 with (fail)
 rw [← hW]
 clear hW
 refine rg 12 [some 5, some 6, some 7, some 8, some 9, some 10, some 11, some 12, some 13, some 14, some 15, some 4] [IsV (.pointer (some ⟨w.heap.size, 0, none⟩)), IsI k1 p.num, IsV (.pointer (some ⟨w.heap.size + 1, 2, none⟩)), IsI k2 ((q.den : Int)), IsI (k1 + k2) (p.num * (q.den : Int)), IsV (.pointer (some ⟨w.heap.size + 1, 0, none⟩)), IsI k2 q.num, IsV (.pointer (some ⟨w.heap.size, 2, none⟩)), IsI k1 ((p.den : Int)), IsI (k2 + k1) (q.num * (p.den : Int)), IsV (.int .i64 (cmpI (p.num * (q.den : Int)) (q.num * (p.den : Int)))), IsV (.int .i64 (cmpI (p.num * (q.den : Int)) (q.num * (p.den : Int))))] [] 0 ?_ ?_
 ·refine Rc (fa (fa_Rat0 (w.heap.size) 0) (Od.lit 2)) ?_
  refine Rc (ldI S 3 (w.heap.size) 0 (Od.lc 0 5) ld_Int) ?_
  refine Rc (fa (fa_Rat1 (w.heap.size + 1) 0) (Od.lit 3)) ?_
  refine Rc (ldI S 0 (w.heap.size + 1) 1 (Od.lc 2 7) ld_Int) ?_
  refine Rc (cl2 (en Tryz.func49) (Od.lc (Φ := IsI k1 p.num) 1 6) (Od.lc (Φ := IsI k2 ((q.den : Int))) 3 8) (fun x0 x1 w' hE d0 d1 => Mul_f d0 d1 (by omega) (by omega))) ?_
  refine Rc (fa (fa_Rat0 (w.heap.size + 1) 0) (Od.lit 3)) ?_
  refine Rc (ldI S 1 (w.heap.size + 1) 0 (Od.lc 5 10) ld_Int) ?_
  refine Rc (fa (fa_Rat1 (w.heap.size) 0) (Od.lit 2)) ?_
  refine Rc (ldI S 2 (w.heap.size) 1 (Od.lc 7 12) ld_Int) ?_
  refine Rc (cl2 (en Tryz.func49) (Od.lc (Φ := IsI k2 q.num) 6 11) (Od.lc (Φ := IsI k1 ((p.den : Int))) 8 13) (fun x0 x1 w' hE d0 d1 => Mul_f d0 d1 (by omega) (by omega))) ?_
  refine Rc (cl2 (en Tryz.func46) (Od.lc (Φ := IsI (k1 + k2) (p.num * (q.den : Int))) 4 9) (Od.lc (Φ := IsI (k2 + k1) (q.num * (p.den : Int))) 9 14) (fun x0 x1 w' hE d0 d1 => Cmp_f d0 d1 (by omega) (by omega))) ?_
  refine Rc (mv (Od.lc 10 15)) ?_
  exact RgAll.nil
 intro v W1 e1 hΦ _
 replace S := S.mono e1
 have v11 : v 11 = .int .i64 (cmpI (p.num * (q.den : Int)) (q.num * (p.den : Int))) := hΦ 11 (by decide)
 simp only [layL, Act.put, List.setIfInBounds_toArray, List.set_cons_zero, List.set_cons_succ, Nat.reduceAdd]
 rw [v11]
 clear v11 hΦ e1
 refine wpAny_done (by kernel_rfl) ?_ _
 go_wp2_with fail
 exact bodyPost_ret (v := .int .i64 (cmpI (p.num * (q.den : Int)) (q.num * (p.den : Int)))) (by simp [results, Tryz.results21, go_sem]) rfl (⟨_, rfl, S.ext, rfl⟩)

set_option maxRecDepth 100000 in
set_option maxHeartbeats 4000000 in
theorem qSign_f {k1 : Nat} {p : Rat} {x : Value} {w : World} (hx : IsRat k1 p x w) : Calls Tryz.prog 35 #[x] w (Ret w (IsV (.int .i64 p.num.sign))) := by
 obtain ⟨s1x, a1x, n1x, c1x, s1y, a1y, n1y, c1y, rfl, h1x, h1y⟩ := hx
 obtain ⟨W, hW, S⟩ : ∃ W, W = w.alloc (.cells #[.bool s1x, .slice a1x n1x c1x, .bool s1y, .slice a1y n1y c1y] 31) ∧ Sto w W [((w.heap.size, 1), IsI k1 ((p.den : Int))), ((w.heap.size, 0), IsI k1 p.num)] := ⟨_, rfl, ((Sto.start w).new2 (w.heap.size) (by simp) s1x s1y a1x a1y n1x c1x n1y c1y 31 (IsI k1 p.num) (IsI k1 ((p.den : Int))) (IsI.gstb _ _) (h1x) (IsI.gstb _ _) (h1y))⟩
 clear h1x h1y
 go_enter Tryz.func35, Tryz.ntmps35
 go_upto_region 1 with (fail)
 rw [← hW]
 clear hW
 refine rgs 4 [some 3, some 4, some 5, some 2] [IsV (.pointer (some ⟨w.heap.size, 0, none⟩)), IsI k1 p.num, IsV (.int .i64 (p.num.sign)), IsV (.int .i64 (p.num.sign))] [] ?_ ?_
 ·refine Rc (fa (fa_Rat0 (w.heap.size) 0) (Od.lit 1)) ?_
  refine Rc (ldI S 1 (w.heap.size) 0 (Od.lc 0 3) ld_Int) ?_
  refine Rc (cl1 (en Tryz.func85) (Od.lc (Φ := IsI k1 p.num) 1 4) (fun x0 w' hE d0 => Sign_f d0)) ?_
  refine Rc (mv (Od.lc 2 5)) ?_
  exact RgAll.nil
 intro v W1 e1 hΦ _
 replace S := S.mono e1
 have v3 : v 3 = .int .i64 (p.num.sign) := hΦ 3 (by decide)
 simp only [layL, Act.put, List.setIfInBounds_toArray, List.set_cons_zero, List.set_cons_succ, Nat.reduceAdd]
 rw [v3]
 clear v3 hΦ e1
 refine wpList_nil ?_
 go_wp2_with fail
 exact bodyPost_ret (v := .int .i64 (p.num.sign)) (by simp [results, Tryz.results35, go_sem]) rfl (⟨_, rfl, S.ext, rfl⟩)

set_option maxRecDepth 100000 in
set_option maxHeartbeats 4000000 in
theorem qFloor_f {k1 : Nat} {p : Rat} {x : Value} {w : World} (hx : IsRat k1 p x w) (l1 : k1 ≤ 1048576) : Calls Tryz.prog 39 #[x] w (Ret w (IsI k1 p.floor)) := by
 have HZ := hid (show (p.den : Int) ≠ 0 by have := p.den_pos; omega)
 rw [← rat_floor]
 obtain ⟨s1x, a1x, n1x, c1x, s1y, a1y, n1y, c1y, rfl, h1x, h1y⟩ := hx
 obtain ⟨W, hW, S⟩ : ∃ W, W = (w.alloc (.cells #[.bool s1x, .slice a1x n1x c1x, .bool s1y, .slice a1y n1y c1y] 31)).alloc (.cells #[.bool false, .slice none 0 0] 29) ∧ Sto w W [((w.heap.size + 1, 0), IsI 0 0), ((w.heap.size, 1), IsI k1 ((p.den : Int))), ((w.heap.size, 0), IsI k1 p.num)] := ⟨_, rfl, (((Sto.start w).new2 (w.heap.size) (by simp) s1x s1y a1x a1y n1x c1x n1y c1y 31 (IsI k1 p.num) (IsI k1 ((p.den : Int))) (IsI.gstb _ _) (h1x) (IsI.gstb _ _) (h1y)).new1 (w.heap.size + 1) (by simp) false none 0 0 29 (IsI 0 0) (IsI.gstb _ _) (IsI.nil _ _))⟩
 clear h1x h1y
 go_enter Tryz.func39, Tryz.ntmps39
 go_upto_region 1 with (fail)
 rw [← hW]
 clear hW
 refine rgs 5 [some 3, some 4, some 5, some 6, some 7] [IsV (.pointer (some ⟨w.heap.size, 0, none⟩)), IsI k1 p.num, IsV (.pointer (some ⟨w.heap.size, 2, none⟩)), IsI k1 ((p.den : Int)), IsI k1 (p.num / (p.den : Int))] [] ?_ ?_
 ·refine Rc (fa (fa_Rat0 (w.heap.size) 0) (Od.lit 1)) ?_
  refine Rc (ldI S 2 (w.heap.size) 0 (Od.lc 0 3) ld_Int) ?_
  refine Rc (fa (fa_Rat1 (w.heap.size) 0) (Od.lit 1)) ?_
  refine Rc (ldI S 1 (w.heap.size) 1 (Od.lc 2 5) ld_Int) ?_
  refine Rc (cl2 (en Tryz.func88) (Od.lc (Φ := IsI k1 p.num) 1 4) (Od.lc (Φ := IsI k1 ((p.den : Int))) 3 6) (fun x0 x1 w' hE d0 d1 => quotient_f d0 d1 (by omega) (by omega) HZ.out)) ?_
  exact RgAll.nil
 intro v W1 e1 hΦ _
 replace S := S.mono e1
 have h7 := hΦ 4 (by decide)
 simp only [layL, Act.put, List.setIfInBounds_toArray, List.set_cons_zero, List.set_cons_succ, Nat.reduceAdd]
 clear hΦ e1
 try simp only [List.drop_succ_cons, List.drop_zero]
 (with_reducible refine stL ?_ (by rfl)); intro KK hKK; refine stI S 0 (w.heap.size + 1) 0 h7 st_Int (fun W2 S2 G2 => hKK _ _ ?_) rfl
 replace S := S2; clear S2 G2 hKK KK h7
 simp only [List.set_cons_zero] at S
 refine wpList_nil ?_
 go_wp2_with fail
 obtain ⟨s90x, a90x, n90x, c90x, b90x, h90x⟩ := S.at 0 (w.heap.size + 1) 0 (IsI k1 (p.num / (p.den : Int))) rfl; have L90xa : World.cell? W2 ⟨w.heap.size + 1, 0, none⟩ = some (.bool s90x) := b90x.c0; have L90xb : World.cell? W2 ⟨w.heap.size + 1, 1, none⟩ = some (.slice a90x n90x c90x) := b90x.c1
 exact bodyPost_ret (v := .agg #[.bool s90x, .slice a90x n90x c90x]) (by simp [results, Tryz.results39, go_sem, L90xa, L90xb]) rfl (⟨_, rfl, S.ext, h90x⟩)

set_option maxRecDepth 100000 in
set_option maxHeartbeats 4000000 in
theorem qwhole_c {k1 : Nat} {z1 : Int} {x : Value} {w : World} (hx : IsI k1 z1 x w) : Calls Tryz.prog 77 #[x] w (Ret w (IsQ (IsI k1 z1) (IsI 2 1))) := by
 obtain ⟨s1, a1, n1, c1, rfl, h1⟩ := hx
 have h1 : IsI _ _ _ w := ⟨_, _, _, _, rfl, h1⟩
 obtain ⟨W, hW, S⟩ : ∃ W, W = (w.alloc (.cells #[.bool s1, .slice a1 n1 c1] 29)).alloc (.cells #[.bool false, .slice none 0 0, .bool false, .slice none 0 0] 31) ∧ Sto w W [((w.heap.size + 1, 1), IsI 0 0), ((w.heap.size + 1, 0), IsI 0 0), ((w.heap.size, 0), IsI k1 z1)] := ⟨_, rfl, (((Sto.start w).new1 (w.heap.size) (by simp) s1 a1 n1 c1 29 (IsI k1 z1) (IsI.gstb _ _) (h1)).new2 (w.heap.size + 1) (by simp) false false none none 0 0 0 0 31 (IsI 0 0) (IsI 0 0) (IsI.gstb _ _) (IsI.nil _ _) (IsI.gstb _ _) (IsI.nil _ _))⟩
 clear h1
 go_enter Tryz.func77, Tryz.ntmps77
 go_upto_region 1 with (fail)
 rw [← hW]
 clear hW
 refine rg 3 [some 3, some 4, some 5] [IsI k1 z1, IsI 2 1, IsQ (IsI k1 z1) (IsI 2 1)] [] 1 ?_ ?_
 ·refine Rc (ldI S 2 (w.heap.size) 0 (Od.lit 1) ld_Int) ?_
  refine Rc (cl1 (en Tryz.func78) Od.con (fun x0 w' hE d0 => by { obtain rfl : x0 = .int .i64 1 := d0; exact Of_f _ 1 (by decide) (by decide) })) ?_
  refine Rc (bq (Od.loc 0 3) (Od.loc 1 4) bd_Rat) ?_
  exact RgAll.nil
 intro v W1 e1 hΦ _
 replace S := S.mono e1
 have h5 := hΦ 2 (by decide)
 simp only [layL, Act.put, List.setIfInBounds_toArray, List.set_cons_zero, List.set_cons_succ, Nat.reduceAdd]
 clear hΦ e1
 refine stA 3 (h := fun KK hKK => stQ S 1 0 (w.heap.size + 1) 0 h5 (IsI.gstb _ _) (IsI.gstb _ _) st_Rat (fun W2 S2 G2 => hKK _ _ ?_) rfl rfl)
 replace S := S2; clear S2 G2 hKK KK h5
 simp only [List.set_cons_zero, List.set_cons_succ] at S
 refine wpAny_done (by kernel_rfl) ?_ _
 go_wp2_with fail
 obtain ⟨s90x, a90x, n90x, c90x, b90x, h90x⟩ := S.at 1 (w.heap.size + 1) 0 (IsI k1 z1) rfl; have L90xa : World.cell? W2 ⟨w.heap.size + 1, 0, none⟩ = some (.bool s90x) := b90x.c0; have L90xb : World.cell? W2 ⟨w.heap.size + 1, 1, none⟩ = some (.slice a90x n90x c90x) := b90x.c1
 obtain ⟨s90y, a90y, n90y, c90y, b90y, h90y⟩ := S.at 0 (w.heap.size + 1) 1 (IsI 2 1) rfl; have L90ya : World.cell? W2 ⟨w.heap.size + 1, 2, none⟩ = some (.bool s90y) := b90y.c0; have L90yb : World.cell? W2 ⟨w.heap.size + 1, 3, none⟩ = some (.slice a90y n90y c90y) := b90y.c1
 exact bodyPost_ret (v := .agg #[.bool s90x, .slice a90x n90x c90x, .bool s90y, .slice a90y n90y c90y]) (by simp [results, Tryz.results77, go_sem, L90xa, L90xb, L90ya, L90yb]) rfl (⟨_, rfl, S.ext, ⟨_, _, _, _, _, _, _, _, rfl, h90x, h90y⟩⟩)
end Go.Proofs.YtcgdkfadcglekaaGreatDoor
