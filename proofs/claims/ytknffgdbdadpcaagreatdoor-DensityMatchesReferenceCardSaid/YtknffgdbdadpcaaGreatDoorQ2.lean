/-
 Fractions as Lean's Rat: what New, Add, Mul, Div, Cmp and Floor of package rational compute. Plain laws, no program. The simplest fraction of an interval of positive fractions, as package rational's Between finds it. Plain laws, no program.
 Package rational: New, sums, products, quotients, the order, signs, floors. Every fraction of at most 2^20 words. (Printed by wip/gen/rat1.py.)
 The reference of package rational: New, Of, Whole, sums, products, quotients, the order, signs, floors. Every fraction of at most 2^17 words. (Printed by wip/gen/rat2.py.)
-/
import Derived.Test.YtknffgdbdadpcaaGreatDoorAdd
import Derived.Test.YtknffgdbdadpcaaGreatDoorMod2
import Derived.Test.YtknffgdbdadpcaaGreatDoorRgm
import Derived.Test.YtknffgdbdadpcaaGreatDoorRGcd
namespace Go.Proofs.YtknffgdbdadpcaaGreatDoor
open Go Go.RowKit

theorem rat_num_pos (n d : Int) (hd : 0 < d) : n / (Int.gcd n d : Int) = (Rat.divInt n d).num := by
 rw [Rat.num_divInt, Int.sign_eq_one_of_pos hd, Int.one_mul, Int.gcd_comm]
theorem rat_den_pos (n d : Int) (hd : 0 < d) : d / (Int.gcd n d : Int) = ((Rat.divInt n d).den : Int) := by
 rw [Rat.den_divInt, if_neg (by omega), Int.natCast_ediv, Int.gcd_comm, show (d.natAbs : Int) = d by omega]
theorem rat_num_neg (n d : Int) (hd : d < 0) : n / (-(Int.gcd n d : Int)) = (Rat.divInt n d).num := by
 rw [Rat.num_divInt, Int.sign_eq_neg_one_of_neg hd, Int.gcd_comm, Int.ediv_neg]
 have h : ((Int.gcd d n : Nat) : Int) ∣ n := Int.gcd_dvd_right d n
 rw [show -1 * n = -n by omega, Int.neg_ediv_of_dvd h]
theorem rat_den_neg (n d : Int) (hd : d < 0) : d / (-(Int.gcd n d : Int)) = ((Rat.divInt n d).den : Int) := by
 rw [Rat.den_divInt, if_neg (by omega), Int.natCast_ediv, Int.gcd_comm, Int.ediv_neg]
 have h : ((Int.gcd d n : Nat) : Int) ∣ d := Int.gcd_dvd_left d n
 rw [← Int.neg_ediv_of_dvd h, show (d.natAbs : Int) = -d by omega]
end Go.Proofs.YtknffgdbdadpcaaGreatDoor
namespace Go.Proofs.YtknffgdbdadpcaaGreatDoor
open Go Go.RowKit

end Go.Proofs.YtknffgdbdadpcaaGreatDoor
namespace Go.Proofs.YtknffgdbdadpcaaGreatDoor
open Go Go.RowKit

/-- A fraction in lowest terms, of at most K words each. -/
abbrev IsRat (K : Nat) (q : Rat) : Value → World → Prop := IsQ (IsI K q.num) (IsI K (q.den : Int))
theorem IsRat.mono {K K' : Nat} {q : Rat} {x : Value} {w : World} (h : IsRat K q x w) (hk : K ≤ K') : IsRat K' q x w :=
 let ⟨s, a, n, c, s', a', n', c', h1, h2, h3⟩ := h; ⟨s, a, n, c, s', a', n', c', h1, h2.mono hk, h3.mono hk⟩

set_option maxRecDepth 100000 in
set_option maxHeartbeats 4000000 in
theorem quotient_f {k1 k2 : Nat} {z1 z2 : Int} {x y : Value} {w : World} (hx : IsI k1 z1 x w) (hy : IsI k2 z2 y w) (l1 : k1 ≤ 33554432) (l2 : k2 ≤ 33554432) (hz : z2 ≠ 0) :
  Calls Tryz.prog 183 #[x, y] w (Ret w (IsI k1 (z1 / z2))) := by
 have HZ := hid hz
 clear hz
 obtain ⟨s1, a1, n1, c1, rfl, h1⟩ := hx
 have h1 : IsI _ _ _ w := ⟨_, _, _, _, rfl, h1⟩
 obtain ⟨s2, a2, n2, c2, rfl, h2⟩ := hy
 have h2 : IsI _ _ _ w := ⟨_, _, _, _, rfl, h2⟩
 obtain ⟨W, hW, S⟩ : ∃ W, W = ((w.alloc (.cells #[.bool s1, .slice a1 n1 c1] 33)).alloc (.cells #[.bool s2, .slice a2 n2 c2] 33)).alloc (.cells #[.bool false, .slice none 0 0] 33) ∧ Sto w W [((w.heap.size + 1 + 1, 0), IsI 0 0), ((w.heap.size + 1, 0), IsI k2 z2), ((w.heap.size, 0), IsI k1 z1)] := ⟨_, rfl, ((((Sto.start w).new1 (w.heap.size) (by simp) s1 a1 n1 c1 33 (IsI k1 z1) (IsI.gstb _ _) (h1)).new1 (w.heap.size + 1) (by simp) s2 a2 n2 c2 33 (IsI k2 z2) (IsI.gstb _ _) (h2.ext ((Ext.refl _).alloc _))).new1 (w.heap.size + 1 + 1) (by simp) false none 0 0 33 (IsI 0 0) (IsI.gstb _ _) (IsI.nil _ _))⟩
 clear h1 h2
 go_enter Tryz.func183, Tryz.ntmps183
 go_upto_region 1 with (fail)
 rw [← hW]
 clear hW
 have hl := hid S.lt; have hw := S.ext.size
 refine rgs 9 [some 9, some 10, some 11, some 8, some 12, some 13, some 14, some 5, some 6] [IsI k1 z1, IsI k2 z2, IsT3 (IsI k1 (z1 / z2)) (IsI k2 (z1 % z2)) (IsV (.int .i64 0)), IsT3 (IsI k1 (z1 / z2)) (IsI k2 (z1 % z2)) (IsV (.int .i64 0)), IsI k1 (z1 / z2), IsI k2 (z1 % z2), IsV (.int .i64 0), IsBo W 1, IsBo W 1] [7, 8] ?_ ?_
 ·refine Rc (ldI S 2 (w.heap.size) 0 (Od.lit 2) ld_Int) ?_
  refine Rc (ldI S 1 (w.heap.size + 1) 0 (Od.lit 3) ld_Int) ?_
  refine Rc (cl2 (en Tryz.func111) (Od.lc (Φ := IsI k1 z1) 0 9) (Od.lc (Φ := IsI k2 z2) 1 10) (fun x0 x1 w' hE d0 d1 => DivMod_f d0 d1 (by omega) (by omega) HZ.out)) ?_
  refine Rc (mv (Od.lc 2 11)) ?_
  refine Rc (ex (Od.loc 3 8) t30) ?_
  refine Rc (ex (Od.loc 3 8) t31) ?_
  refine Rc (ex (Od.loc 3 8) t32) ?_
  refine Rc (al al_Int) ?_
  refine Rc (al al_Int) ?_
  exact RgAll.nil
 intro v W1 e1 hΦ hne
 replace S := S.mono e1
 have h12 := hΦ 4 (by decide)
 have h13 := hΦ 5 (by decide)
 have v6 : v 6 = .int .i64 0 := hΦ 6 (by decide)
 obtain ⟨g5, v7, q2, b1, _⟩ := (hΦ 7 (by decide) : IsBo W 1 (v 7) W1)
 replace S := S.addN 1 (ApartO.old hl.out q2) (Nat.le_trans hw q2) b1
 obtain ⟨g6, v8, q4, b3, _⟩ := (hΦ 8 (by decide) : IsBo W 1 (v 8) W1)
 replace S := S.addN 1 (ApartO.cons (fun h => hne 7 8 (by decide) (by decide) (by decide) (by decide) (by decide) (by rw [v7, v8, h])) (ApartO.old hl.out q4)) (Nat.le_trans hw q4) b3
 simp only [newF, List.cons_append, List.nil_append] at S
 simp only [layL, Act.put, uAx, u0x, u1x, Nat.reduceAdd]
 rw [v6, v7, v8]
 clear b1 b3 hl hw hne v6 v7 v8 hΦ e1
 try simp only [List.drop_succ_cons, List.drop_zero]
 (with_reducible refine stL ?_ (by rfl)); intro KK hKK; refine stI S 1 (g5) 0 h12 st_Int (fun W2 S2 G2 => hKK _ _ ?_) rfl
 replace h13 := (IsI.gstb _ _) _ _ _ G2 h13
 replace S := S2; clear S2 G2 hKK KK h12
 simp only [u0x, u1x] at S
 try simp only [List.drop_succ_cons, List.drop_zero]
 (with_reducible refine stL ?_ (by rfl)); intro KK hKK; refine stI S 0 (g6) 0 h13 st_Int (fun W3 S2 G2 => hKK _ _ ?_) rfl
 replace S := S2; clear S2 G2 hKK KK h13
 simp only [u0x] at S
 refine wpList_step fun K hK => ?_; go_simp; refine hK _ _ ?_; clear hK K
 refine wpList_nil ?_
 go_upto_region 2 with (fail)
 refine rgs 1 [some 15] [IsI k1 (z1 / z2)] [] ?_ ?_
 ·refine Rc (ldI S 1 (g5) 0 (Od.lit 5) ld_Int) ?_
  exact RgAll.nil
 intro v W4 e1 hΦ _
 replace S := S.mono e1
 have h15 := hΦ 0 (by decide)
 simp only [layL, Act.put, uAx, u0x, u1x]
 clear hΦ e1
 try simp only [List.drop_succ_cons, List.drop_zero]
 (with_reducible refine stL ?_ (by rfl)); intro KK hKK; refine stI S 2 (w.heap.size + 1 + 1) 0 h15 st_Int (fun W5 S2 G2 => hKK _ _ ?_) rfl
 replace S := S2; clear S2 G2 hKK KK h15
 simp only [u0x, u1x] at S
 refine wpList_nil ?_
 go_wp2_with fail
 obtain ⟨s90x, a90x, n90x, c90x, b90x, h90x⟩ := S.at 2 (w.heap.size + 1 + 1) 0 (IsI k1 (z1 / z2)) rfl; have L90xa : World.cell? W5 ⟨w.heap.size + 1 + 1, 0, none⟩ = some (.bool s90x) := b90x.c0; have L90xb : World.cell? W5 ⟨w.heap.size + 1 + 1, 1, none⟩ = some (.slice a90x n90x c90x) := b90x.c1
 exact bodyPost_ret (v := .agg #[.bool s90x, .slice a90x n90x c90x]) (by simp [results, Tryz.results183, go_sem, L90xa, L90xb]) rfl (⟨_, rfl, S.ext, h90x⟩)

set_option maxRecDepth 100000 in
set_option maxHeartbeats 4000000 in
theorem reduced_c {k1 k2 : Nat} {z1 z2 : Int} {x y : Value} {w : World} (hx : IsI k1 z1 x w) (hy : IsI k2 z2 y w) (l1 : k1 ≤ 33554432) (l2 : k2 ≤ 33554432) (hz : z2 ≠ 0) (qn qd : Int) (hn : z1 / (Int.gcd z1 z2 : Nat) = qn) (hd : z2 / (Int.gcd z1 z2 : Nat) = qd) :
  Calls Tryz.prog 148 #[x, y] w (Ret w (IsQ (IsI k1 qn) (IsI k2 qd))) := by
 have HG := hid (show ((Int.gcd z1 z2 : Nat) : Int) ≠ 0 by intro h; exact hz ((Int.gcd_eq_zero_iff (a := z1) (b := z2)).1 (by omega)).2)
 have HN := hid hn
 have HD := hid hd
 clear hz hn hd
 obtain ⟨s1, a1, n1, c1, rfl, h1⟩ := hx
 have h1 : IsI _ _ _ w := ⟨_, _, _, _, rfl, h1⟩
 obtain ⟨s2, a2, n2, c2, rfl, h2⟩ := hy
 have h2 : IsI _ _ _ w := ⟨_, _, _, _, rfl, h2⟩
 obtain ⟨W, hW, S⟩ : ∃ W, W = ((w.alloc (.cells #[.bool s1, .slice a1 n1 c1] 33)).alloc (.cells #[.bool s2, .slice a2 n2 c2] 33)).alloc (.cells #[.bool false, .slice none 0 0, .bool false, .slice none 0 0] 46) ∧ Sto w W [((w.heap.size + 1 + 1, 1), IsI 0 0), ((w.heap.size + 1 + 1, 0), IsI 0 0), ((w.heap.size + 1, 0), IsI k2 z2), ((w.heap.size, 0), IsI k1 z1)] := ⟨_, rfl, ((((Sto.start w).new1 (w.heap.size) (by simp) s1 a1 n1 c1 33 (IsI k1 z1) (IsI.gstb _ _) (h1)).new1 (w.heap.size + 1) (by simp) s2 a2 n2 c2 33 (IsI k2 z2) (IsI.gstb _ _) (h2.ext ((Ext.refl _).alloc _))).new2 (w.heap.size + 1 + 1) (by simp) false false none none 0 0 0 0 46 (IsI 0 0) (IsI 0 0) (IsI.gstb _ _) (IsI.nil _ _) (IsI.gstb _ _) (IsI.nil _ _))⟩
 clear h1 h2
 go_enter Tryz.func148, Tryz.ntmps148
 go_upto_region 1 with (fail)
 rw [← hW]
 clear hW
 have hl := hid S.lt; have hw := S.ext.size
 refine rgs 4 [some 6, some 7, some 8, some 5] [IsI k1 z1, IsI k2 z2, IsI (max k1 k2) ((Int.gcd z1 z2 : Nat)), IsBo W 1] [3] ?_ ?_
 ·refine Rc (ldI S 3 (w.heap.size) 0 (Od.lit 2) ld_Int) ?_
  refine Rc (ldI S 2 (w.heap.size + 1) 0 (Od.lit 3) ld_Int) ?_
  refine Rc (cl2 (en Tryz.func50) (Od.lc (Φ := IsI k1 z1) 0 6) (Od.lc (Φ := IsI k2 z2) 1 7) (fun x0 x1 w' hE d0 d1 => Gcd_f d0 d1 (by omega) (by omega))) ?_
  refine Rc (al al_Int) ?_
  exact RgAll.nil
 intro v W1 e1 hΦ _
 replace S := S.mono e1
 have h8 := hΦ 2 (by decide)
 obtain ⟨g5, v3, q2, b1, _⟩ := (hΦ 3 (by decide) : IsBo W 1 (v 3) W1)
 replace S := S.addN 1 (ApartO.old hl.out q2) (Nat.le_trans hw q2) b1
 simp only [newF, List.cons_append, List.nil_append] at S
 simp only [layL, Act.put, uAx, u0x, u1x, Nat.reduceAdd]
 rw [v3]
 clear b1 hl hw v3 hΦ e1
 try simp only [List.drop_succ_cons, List.drop_zero]
 (with_reducible refine stL ?_ (by rfl)); intro KK hKK; refine stI S 0 (g5) 0 h8 st_Int (fun W2 S2 G2 => hKK _ _ ?_) rfl
 replace S := S2; clear S2 G2 hKK KK h8
 simp only [u0x] at S
 refine wpList_nil ?_
 go_upto_region 2 with (fail)
 refine rg 7 [some 9, some 10, some 11, some 12, some 13, some 14, some 15] [IsI k1 z1, IsI (max k1 k2) ((Int.gcd z1 z2 : Nat)), IsI k1 qn, IsI k2 z2, IsI (max k1 k2) ((Int.gcd z1 z2 : Nat)), IsI k2 qd, IsQ (IsI k1 qn) (IsI k2 qd)] [] 1 ?_ ?_
 ·refine Rc (ldI S 4 (w.heap.size) 0 (Od.lit 2) ld_Int) ?_
  refine Rc (ldI S 0 (g5) 0 (Od.lit 5) ld_Int) ?_
  refine Rc (cl2 (en Tryz.func183) (Od.lc (Φ := IsI k1 z1) 0 9) (Od.lc (Φ := IsI (max k1 k2) ((Int.gcd z1 z2 : Nat))) 1 10) (fun x0 x1 w' hE d0 d1 => Calls.mono (quotient_f d0 d1 (by omega) (by omega) HG.out) fun _ _ h => h.eqz HN.out)) ?_
  refine Rc (ldI S 3 (w.heap.size + 1) 0 (Od.lit 3) ld_Int) ?_
  refine Rc (ldI S 0 (g5) 0 (Od.lit 5) ld_Int) ?_
  refine Rc (cl2 (en Tryz.func183) (Od.lc (Φ := IsI k2 z2) 3 12) (Od.lc (Φ := IsI (max k1 k2) ((Int.gcd z1 z2 : Nat))) 4 13) (fun x0 x1 w' hE d0 d1 => Calls.mono (quotient_f d0 d1 (by omega) (by omega) HG.out) fun _ _ h => h.eqz HD.out)) ?_
  refine Rc (bq (Od.loc 2 11) (Od.loc 5 14) bd_Rat) ?_
  exact RgAll.nil
 intro v W3 e1 hΦ _
 replace S := S.mono e1
 have h15 := hΦ 6 (by decide)
 simp only [layL, Act.put, uAx, u0x, u1x, Nat.reduceAdd]
 clear hΦ e1
 refine stA 7 (h := fun KK hKK => stQ S 2 1 (w.heap.size + 1 + 1) 0 h15 (IsI.gstb _ _) (IsI.gstb _ _) st_Rat (fun W4 S2 G2 => hKK _ _ ?_) rfl rfl)
 replace S := S2; clear S2 G2 hKK KK h15
 simp only [u0x, u1x] at S
 refine wpAny_done (by kernel_rfl) ?_ _
 go_wp2_with fail
 obtain ⟨s90x, a90x, n90x, c90x, b90x, h90x⟩ := S.at 2 (w.heap.size + 1 + 1) 0 (IsI k1 qn) rfl; have L90xa : World.cell? W4 ⟨w.heap.size + 1 + 1, 0, none⟩ = some (.bool s90x) := b90x.c0; have L90xb : World.cell? W4 ⟨w.heap.size + 1 + 1, 1, none⟩ = some (.slice a90x n90x c90x) := b90x.c1
 obtain ⟨s90y, a90y, n90y, c90y, b90y, h90y⟩ := S.at 1 (w.heap.size + 1 + 1) 1 (IsI k2 qd) rfl; have L90ya : World.cell? W4 ⟨w.heap.size + 1 + 1, 2, none⟩ = some (.bool s90y) := b90y.c0; have L90yb : World.cell? W4 ⟨w.heap.size + 1 + 1, 3, none⟩ = some (.slice a90y n90y c90y) := b90y.c1
 exact bodyPost_ret (v := .agg #[.bool s90x, .slice a90x n90x c90x, .bool s90y, .slice a90y n90y c90y]) (by simp [results, Tryz.results148, go_sem, L90xa, L90xb, L90ya, L90yb]) rfl (⟨_, rfl, S.ext, ⟨_, _, _, _, _, _, _, _, rfl, h90x, h90y⟩⟩)
theorem reduced_f {k1 k2 : Nat} {z1 z2 : Int} {x y : Value} {w : World} (hx : IsI k1 z1 x w) (hy : IsI k2 z2 y w) (l1 : k1 ≤ 33554432) (l2 : k2 ≤ 33554432) (hz : 0 < z2) :
  Calls Tryz.prog 148 #[x, y] w (Ret w (IsRat (max k1 k2) (Rat.divInt z1 z2))) := by
 refine Calls.mono (reduced_c hx hy l1 l2 (by omega) _ _ (rat_num_pos z1 z2 hz) (rat_den_pos z1 z2 hz)) fun _ _ h => h.mono fun _ _ ⟨s, a, n, c, s', a', n', c', h1, h2, h3⟩ => ⟨s, a, n, c, s', a', n', c', h1, h2.mono (by omega), h3.mono (by omega)⟩

theorem Ret.ratz {w : World} {K K' : Nat} {q q' : Rat} {e : Ending} {w' : World} (h : Ret w (IsRat K q) e w') (hq : q = q') (hk : K ≤ K') : Ret w (IsRat K' q') e w' := by
 subst hq; exact h.mono fun _ _ h => h.mono hk
theorem new_sign (n d : Int) (hd : d ≠ 0) : Rat.divInt (n * d.sign) (d.natAbs : Int) = Rat.divInt n d := by
 rw [← Int.mul_sign_self d]
 exact Rat.divInt_mul_right (by intro h; exact hd (Int.sign_eq_zero_iff_zero.1 h))

set_option maxRecDepth 100000 in
set_option maxHeartbeats 4000000 in
theorem qNew_c {k1 k2 : Nat} {z1 z2 : Int} {x y : Value} {w : World} (hx : IsI k1 z1 x w) (hy : IsI k2 z2 y w) (l1 : k1 ≤ 16777216) (l2 : k2 ≤ 16777216) (hz : z2 ≠ 0) (q : Rat) (hq : Rat.divInt z1 z2 = q) :
  Calls Tryz.prog 110 #[x, y] w (Ret w (IsT2 (IsRat (max (k1 + 2) k2) q) (IsV (.int .i64 0)))) := by
 obtain ⟨sg, hsg⟩ : ∃ s, z2.sign = s := ⟨_, rfl⟩
 have HSG := hid hsg
 have HS0 := hid (show (sg == 0) = false by rw [beq_eq_false_iff_ne, ← hsg]; intro h; exact hz (Int.sign_eq_zero_iff_zero.1 h))
 have HSB := hid (show -9223372036854775808 ≤ sg ∧ sg ≤ 9223372036854775807 by rw [← hsg]; rcases Int.lt_trichotomy z2 0 with h | h | h <;> simp [Int.sign_eq_neg_one_of_neg, Int.sign_eq_one_of_pos, h])
 have HP := hid (show 0 < ((z2.natAbs : Nat) : Int) by omega)
 have HQ := hid (show Rat.divInt (z1 * sg) ((z2.natAbs : Nat) : Int) = q by rw [← hsg, new_sign z1 z2 hz]; exact hq)
 clear hz hsg hq
 obtain ⟨s1, a1, n1, c1, rfl, h1⟩ := hx
 have h1 : IsI _ _ _ w := ⟨_, _, _, _, rfl, h1⟩
 obtain ⟨s2, a2, n2, c2, rfl, h2⟩ := hy
 have h2 : IsI _ _ _ w := ⟨_, _, _, _, rfl, h2⟩
 obtain ⟨W, hW, S⟩ : ∃ W, W = ((w.alloc (.cells #[.bool s1, .slice a1 n1 c1] 33)).alloc (.cells #[.bool s2, .slice a2 n2 c2] 33)).alloc (.cells #[.bool false, .slice none 0 0, .bool false, .slice none 0 0] 46) ∧ Sto w W [((w.heap.size + 1 + 1, 1), IsI 0 0), ((w.heap.size + 1 + 1, 0), IsI 0 0), ((w.heap.size + 1, 0), IsI k2 z2), ((w.heap.size, 0), IsI k1 z1)] := ⟨_, rfl, ((((Sto.start w).new1 (w.heap.size) (by simp) s1 a1 n1 c1 33 (IsI k1 z1) (IsI.gstb _ _) (h1)).new1 (w.heap.size + 1) (by simp) s2 a2 n2 c2 33 (IsI k2 z2) (IsI.gstb _ _) (h2.ext ((Ext.refl _).alloc _))).new2 (w.heap.size + 1 + 1) (by simp) false false none none 0 0 0 0 46 (IsI 0 0) (IsI 0 0) (IsI.gstb _ _) (IsI.nil _ _) (IsI.gstb _ _) (IsI.nil _ _))⟩
 clear h1 h2
 go_enter Tryz.func110, Tryz.ntmps110
 go_upto_region 1 with (fail)
 rw [← hW]
 clear hW
 refine rgs 3 [some 7, some 8, some 6] [IsI k2 z2, IsV (.int .i64 sg), IsV (.int .i64 sg)] [] ?_ ?_
 ·refine Rc (ldI S 2 (w.heap.size + 1) 0 (Od.lit 3) ld_Int) ?_
  refine Rc (cl1 (en Tryz.func84) (Od.lc (Φ := IsI k2 z2) 0 7) (fun x0 w' hE d0 => Calls.mono (Sign_f d0) fun _ _ h => h.int (HSG.out))) ?_
  refine Rc (mv (Od.lc 1 8)) ?_
  exact RgAll.nil
 intro v W1 e1 hΦ _
 replace S := S.mono e1
 have v2 : v 2 = .int .i64 sg := hΦ 2 (by decide)
 simp only [layL, Act.put, uAx, u0x, u1x, Nat.reduceAdd]
 rw [v2]
 clear v2 hΦ e1
 refine wpList_nil ?_
 go_upto_region 2 with (fail)
 refine rgs 2 [some 9, some 10] [IsV (.int .i64 sg), IsV (.bool false)] [] ?_ ?_
 ·refine Rc (mv (Od.lit 6)) ?_
  refine Rc (bn (r := .bool false) (Od.loc 0 9) Od.con (hr := fun w => by have hx9 := HS0.out; go_simp)) ?_
  exact RgAll.nil
 intro v W2 e1 hΦ _
 replace S := S.mono e1
 have v1 : v 1 = .bool false := hΦ 1 (by decide)
 simp only [layL, Act.put, uAx, u0x, u1x, Nat.reduceAdd]
 rw [v1]
 clear v1 hΦ e1
 refine wpList_nil ?_
 go_upto_region 4 with (fail)
 refine rg 7 [some 12, some 13, some 14, some 15, some 16, some 17, some 18] [IsI k1 z1, IsV (.int .i64 sg), IsI 2 sg, IsI (k1 + 2) (z1 * sg), IsI k2 z2, IsI k2 z2.natAbs, IsQ (IsI (max (k1 + 2) k2) q.num) (IsI (max (k1 + 2) k2) ((q.den : Int)))] [] 2 ?_ ?_
 ·refine Rc (ldI S 3 (w.heap.size) 0 (Od.lit 2) ld_Int) ?_
  refine Rc (mv (Od.lit 6)) ?_
  refine Rc (cl1 (en Tryz.func41) (Od.lc (Φ := IsV (.int .i64 sg)) 1 13) (fun x0 w' hE d0 => by { obtain rfl : x0 = .int .i64 sg := d0; exact Of_f _ sg HSB.out.1 HSB.out.2 })) ?_
  refine Rc (cl2 (en Tryz.func51) (Od.lc (Φ := IsI k1 z1) 0 12) (Od.lc (Φ := IsI 2 sg) 2 14) (fun x0 x1 w' hE d0 d1 => Mul_f d0 d1 (by omega) (by omega))) ?_
  refine Rc (ldI S 2 (w.heap.size + 1) 0 (Od.lit 3) ld_Int) ?_
  refine Rc (cl1 (en Tryz.func96) (Od.lc (Φ := IsI k2 z2) 4 16) (fun x0 w' hE d0 => Abs_f d0)) ?_
  refine Rc (cl2 (en Tryz.func148) (Od.lc (Φ := IsI (k1 + 2) (z1 * sg)) 3 15) (Od.lc (Φ := IsI k2 z2.natAbs) 5 17) (fun x0 x1 w' hE d0 d1 => Calls.mono (reduced_f d0 d1 (by omega) (by omega) HP.out) fun _ _ h => h.ratz HQ.out (Nat.le_refl _))) ?_
  exact RgAll.nil
 intro v W3 e1 hΦ _
 replace S := S.mono e1
 have h18 := hΦ 6 (by decide)
 simp only [layL, Act.put, uAx, u0x, u1x, Nat.reduceAdd]
 clear hΦ e1
 refine stA 7 (h := fun KK hKK => stQ S 1 0 (w.heap.size + 1 + 1) 0 h18 (IsI.gstb _ _) (IsI.gstb _ _) st_Rat (fun W4 S2 G2 => hKK _ _ ?_) rfl rfl)
 replace S := S2; clear S2 G2 hKK KK h18
 simp only [u0x, u1x] at S
 refine wpAny_ready (rs := [8]) (by kernel_rfl) (by simp) (AllReady.cons rfl (fun K hK => ?_) AllReady.nil); go_simp; refine hK _ _ ?_; clear hK K
 refine wpAny_done (by kernel_rfl) ?_ _
 go_wp2_with fail
 obtain ⟨s90x, a90x, n90x, c90x, b90x, h90x⟩ := S.at 1 (w.heap.size + 1 + 1) 0 (IsI (max (k1 + 2) k2) q.num) rfl; have L90xa : World.cell? W4 ⟨w.heap.size + 1 + 1, 0, none⟩ = some (.bool s90x) := b90x.c0; have L90xb : World.cell? W4 ⟨w.heap.size + 1 + 1, 1, none⟩ = some (.slice a90x n90x c90x) := b90x.c1
 obtain ⟨s90y, a90y, n90y, c90y, b90y, h90y⟩ := S.at 0 (w.heap.size + 1 + 1) 1 (IsI (max (k1 + 2) k2) ((q.den : Int))) rfl; have L90ya : World.cell? W4 ⟨w.heap.size + 1 + 1, 2, none⟩ = some (.bool s90y) := b90y.c0; have L90yb : World.cell? W4 ⟨w.heap.size + 1 + 1, 3, none⟩ = some (.slice a90y n90y c90y) := b90y.c1
 exact bodyPost_ret (v := .tuple #[.agg #[.bool s90x, .slice a90x n90x c90x, .bool s90y, .slice a90y n90y c90y], .int .i64 0]) (by simp [results, Tryz.results110, go_sem, L90xa, L90xb, L90ya, L90yb]) rfl (⟨_, rfl, S.ext, _, _, rfl, ⟨_, _, _, _, _, _, _, _, rfl, h90x, h90y⟩, rfl⟩)
end Go.Proofs.YtknffgdbdadpcaaGreatDoor
namespace Go.Proofs.YtknffgdbdadpcaaGreatDoor
open Go Go.RowKit

set_option maxRecDepth 100000 in
set_option maxHeartbeats 4000000 in
theorem rqNewpos_c {k1 k2 : Nat} {z1 z2 : Int} {x y : Value} {w : World} (hx : IsI k1 z1 x w) (hy : IsI k2 z2 y w) (l1 : k1 ≤ 1048576) (l2 : k2 ≤ 1048576) (hz : 0 < z2) (qn qd : Int) (hn : z1 / ((Int.gcd z1 z2 : Nat) : Int) = qn) (hd : z2 / ((Int.gcd z1 z2 : Nat) : Int) = qd) :
  Calls Tryz.prog 126 #[x, y] w (Ret w (IsT2 (IsQ (IsI k1 qn) (IsI k2 qd)) (IsV (.int .i64 0)))) := by
 obtain ⟨sg, hsg⟩ : ∃ s, z2.sign = s := ⟨_, rfl⟩
 have HSG := hid hsg
 have hs : sg = 1 := by rw [← hsg]; exact Int.sign_eq_one_of_pos hz
 have HS0 := hid (show (sg == 0) = false by rw [hs]; decide)
 have HS1 := hid (show decide (sg < 0) = false by rw [hs]; decide)
 have HG := hid (show ((Int.gcd z1 z2 : Nat) : Int) ≠ 0 by intro h; have := ((Int.gcd_eq_zero_iff (a := z1) (b := z2)).1 (by omega)).2; omega)
 have HN := hid hn
 have HD := hid hd
 clear hz hn hd hsg hs
 obtain ⟨s1, a1, n1, c1, rfl, h1⟩ := hx
 have h1 : IsI _ _ _ w := ⟨_, _, _, _, rfl, h1⟩
 obtain ⟨s2, a2, n2, c2, rfl, h2⟩ := hy
 have h2 : IsI _ _ _ w := ⟨_, _, _, _, rfl, h2⟩
 obtain ⟨W, hW, S⟩ : ∃ W, W = ((w.alloc (.cells #[.bool s1, .slice a1 n1 c1] 33)).alloc (.cells #[.bool s2, .slice a2 n2 c2] 33)).alloc (.cells #[.bool false, .slice none 0 0, .bool false, .slice none 0 0] 46) ∧ Sto w W [((w.heap.size + 1 + 1, 1), IsI 0 0), ((w.heap.size + 1 + 1, 0), IsI 0 0), ((w.heap.size + 1, 0), IsI k2 z2), ((w.heap.size, 0), IsI k1 z1)] := ⟨_, rfl, ((((Sto.start w).new1 (w.heap.size) (by simp) s1 a1 n1 c1 33 (IsI k1 z1) (IsI.gstb _ _) (h1)).new1 (w.heap.size + 1) (by simp) s2 a2 n2 c2 33 (IsI k2 z2) (IsI.gstb _ _) (h2.ext ((Ext.refl _).alloc _))).new2 (w.heap.size + 1 + 1) (by simp) false false none none 0 0 0 0 46 (IsI 0 0) (IsI 0 0) (IsI.gstb _ _) (IsI.nil _ _) (IsI.gstb _ _) (IsI.nil _ _))⟩
 clear h1 h2
 go_enter Tryz.func126, Tryz.ntmps126
 go_upto_region 1 with (fail)
 rw [← hW]
 clear hW
 refine rgs 3 [some 7, some 8, some 9] [IsI k2 z2, IsV (.int .i64 sg), IsV (.bool false)] [] ?_ ?_
 ·refine Rc (ldI S 2 (w.heap.size + 1) 0 (Od.lit 3) ld_Int) ?_
  refine Rc (cl1 (en Tryz.func65) (Od.lc (Φ := IsI k2 z2) 0 7) (fun x0 w' hE d0 => Calls.mono (RSign_f d0) fun _ _ h => h.int (HSG.out))) ?_
  refine Rc (bn (r := .bool false) (Od.loc 1 8) Od.con (hr := fun w => by have hx9 := HS0.out; go_simp)) ?_
  exact RgAll.nil
 intro v W1 e1 hΦ _
 replace S := S.mono e1
 have v2 : v 2 = .bool false := hΦ 2 (by decide)
 simp only [layL, Act.put, uAx, u0x, u1x, Nat.reduceAdd]
 rw [v2]
 clear v2 hΦ e1
 refine wpList_nil ?_
 go_upto_region 3 with (fail)
 have hl := hid S.lt; have hw := S.ext.size
 refine rgs 4 [some 11, some 12, some 13, some 6] [IsI k1 z1, IsI k2 z2, IsI (max k1 k2) (((Int.gcd z1 z2 : Nat) : Int)), IsBo W1 1] [3] ?_ ?_
 ·refine Rc (ldI S 3 (w.heap.size) 0 (Od.lit 2) ld_Int) ?_
  refine Rc (ldI S 2 (w.heap.size + 1) 0 (Od.lit 3) ld_Int) ?_
  refine Rc (cl2 (en Tryz.func66) (Od.lc (Φ := IsI k1 z1) 0 11) (Od.lc (Φ := IsI k2 z2) 1 12) (fun x0 x1 w' hE d0 d1 => RGcd_f d0 d1 (by omega) (by omega))) ?_
  refine Rc (al al_Int) ?_
  exact RgAll.nil
 intro v W2 e1 hΦ _
 replace S := S.mono e1
 have h13 := hΦ 2 (by decide)
 obtain ⟨g6, v3, q2, b1, _⟩ := (hΦ 3 (by decide) : IsBo W1 1 (v 3) W2)
 replace S := S.addN 1 (ApartO.old hl.out q2) (Nat.le_trans hw q2) b1
 simp only [newF, List.cons_append, List.nil_append] at S
 simp only [layL, Act.put, uAx, u0x, u1x, Nat.reduceAdd]
 rw [v3]
 clear b1 hl hw v3 hΦ e1
 try simp only [List.drop_succ_cons, List.drop_zero]
 (with_reducible refine stL ?_ (by rfl)); intro KK hKK; refine stI S 0 (g6) 0 h13 st_Int (fun W3 S2 G2 => hKK _ _ ?_) rfl
 replace S := S2; clear S2 G2 hKK KK h13
 simp only [u0x] at S
 refine wpList_nil ?_
 go_upto_region 4 with (fail)
 refine rgs 3 [some 14, some 15, some 16] [IsI k2 z2, IsV (.int .i64 sg), IsV (.bool false)] [] ?_ ?_
 ·refine Rc (ldI S 3 (w.heap.size + 1) 0 (Od.lit 3) ld_Int) ?_
  refine Rc (cl1 (en Tryz.func65) (Od.lc (Φ := IsI k2 z2) 0 14) (fun x0 w' hE d0 => Calls.mono (RSign_f d0) fun _ _ h => h.int (HSG.out))) ?_
  refine Rc (bn (r := .bool false) (Od.loc 1 15) Od.con (hr := fun w => by have hx9 := HS1.out; go_simp)) ?_
  exact RgAll.nil
 intro v W4 e1 hΦ _
 replace S := S.mono e1
 have v2 : v 2 = .bool false := hΦ 2 (by decide)
 simp only [layL, Act.put, uAx, u0x, u1x, Nat.reduceAdd]
 rw [v2]
 clear v2 hΦ e1
 refine wpList_nil ?_
 go_upto_region 6 with (fail)
 refine rg 7 [some 19, some 20, some 21, some 22, some 23, some 24, some 25] [IsI k1 z1, IsI (max k1 k2) (((Int.gcd z1 z2 : Nat) : Int)), IsI k1 qn, IsI k2 z2, IsI (max k1 k2) (((Int.gcd z1 z2 : Nat) : Int)), IsI k2 qd, IsQ (IsI k1 qn) (IsI k2 qd)] [] 2 ?_ ?_
 ·refine Rc (ldI S 4 (w.heap.size) 0 (Od.lit 2) ld_Int) ?_
  refine Rc (ldI S 0 (g6) 0 (Od.lit 6) ld_Int) ?_
  refine Rc (cl2 (en Tryz.func93) (Od.lc (Φ := IsI k1 z1) 0 19) (Od.lc (Φ := IsI (max k1 k2) (((Int.gcd z1 z2 : Nat) : Int))) 1 20) (fun x0 x1 w' hE d0 d1 => Calls.mono (RDiv_f d0 d1 (by omega) (by omega) HG.out) fun _ _ h => h.eqz HN.out)) ?_
  refine Rc (ldI S 3 (w.heap.size + 1) 0 (Od.lit 3) ld_Int) ?_
  refine Rc (ldI S 0 (g6) 0 (Od.lit 6) ld_Int) ?_
  refine Rc (cl2 (en Tryz.func93) (Od.lc (Φ := IsI k2 z2) 3 22) (Od.lc (Φ := IsI (max k1 k2) (((Int.gcd z1 z2 : Nat) : Int))) 4 23) (fun x0 x1 w' hE d0 d1 => Calls.mono (RDiv_f d0 d1 (by omega) (by omega) HG.out) fun _ _ h => h.eqz HD.out)) ?_
  refine Rc (bq (Od.loc 2 21) (Od.loc 5 24) bd_Rat) ?_
  exact RgAll.nil
 intro v W5 e1 hΦ _
 replace S := S.mono e1
 have h25 := hΦ 6 (by decide)
 simp only [layL, Act.put, uAx, u0x, u1x, Nat.reduceAdd]
 clear hΦ e1
 refine stA 7 (h := fun KK hKK => stQ S 2 1 (w.heap.size + 1 + 1) 0 h25 (IsI.gstb _ _) (IsI.gstb _ _) st_Rat (fun W6 S2 G2 => hKK _ _ ?_) rfl rfl)
 replace S := S2; clear S2 G2 hKK KK h25
 simp only [u0x, u1x] at S
 refine wpAny_ready (rs := [8]) (by kernel_rfl) (by simp) (AllReady.cons rfl (fun K hK => ?_) AllReady.nil); go_simp; refine hK _ _ ?_; clear hK K
 refine wpAny_done (by kernel_rfl) ?_ _
 go_wp2_with fail
 obtain ⟨s90x, a90x, n90x, c90x, b90x, h90x⟩ := S.at 2 (w.heap.size + 1 + 1) 0 (IsI k1 qn) rfl; have L90xa : World.cell? W6 ⟨w.heap.size + 1 + 1, 0, none⟩ = some (.bool s90x) := b90x.c0; have L90xb : World.cell? W6 ⟨w.heap.size + 1 + 1, 1, none⟩ = some (.slice a90x n90x c90x) := b90x.c1
 obtain ⟨s90y, a90y, n90y, c90y, b90y, h90y⟩ := S.at 1 (w.heap.size + 1 + 1) 1 (IsI k2 qd) rfl; have L90ya : World.cell? W6 ⟨w.heap.size + 1 + 1, 2, none⟩ = some (.bool s90y) := b90y.c0; have L90yb : World.cell? W6 ⟨w.heap.size + 1 + 1, 3, none⟩ = some (.slice a90y n90y c90y) := b90y.c1
 exact bodyPost_ret (v := .tuple #[.agg #[.bool s90x, .slice a90x n90x c90x, .bool s90y, .slice a90y n90y c90y], .int .i64 0]) (by simp [results, Tryz.results126, go_sem, L90xa, L90xb, L90ya, L90yb]) rfl (⟨_, rfl, S.ext, _, _, rfl, ⟨_, _, _, _, _, _, _, _, rfl, h90x, h90y⟩, rfl⟩)

set_option maxRecDepth 100000 in
set_option maxHeartbeats 4000000 in
theorem rqNewneg_c {k1 k2 : Nat} {z1 z2 : Int} {x y : Value} {w : World} (hx : IsI k1 z1 x w) (hy : IsI k2 z2 y w) (l1 : k1 ≤ 1048576) (l2 : k2 ≤ 1048576) (hz : z2 < 0) (qn qd : Int) (hn : z1 / (-((Int.gcd z1 z2 : Nat) : Int)) = qn) (hd : z2 / (-((Int.gcd z1 z2 : Nat) : Int)) = qd) :
  Calls Tryz.prog 126 #[x, y] w (Ret w (IsT2 (IsQ (IsI k1 qn) (IsI k2 qd)) (IsV (.int .i64 0)))) := by
 obtain ⟨sg, hsg⟩ : ∃ s, z2.sign = s := ⟨_, rfl⟩
 have HSG := hid hsg
 have hs : sg = -1 := by rw [← hsg]; exact Int.sign_eq_neg_one_of_neg hz
 have HS0 := hid (show (sg == 0) = false by rw [hs]; decide)
 have HS1 := hid (show decide (sg < 0) = true by rw [hs]; decide)
 have HG := hid (show (-((Int.gcd z1 z2 : Nat) : Int)) ≠ 0 by intro h; have := ((Int.gcd_eq_zero_iff (a := z1) (b := z2)).1 (by omega)).2; omega)
 have HN := hid hn
 have HD := hid hd
 clear hz hn hd hsg hs
 obtain ⟨s1, a1, n1, c1, rfl, h1⟩ := hx
 have h1 : IsI _ _ _ w := ⟨_, _, _, _, rfl, h1⟩
 obtain ⟨s2, a2, n2, c2, rfl, h2⟩ := hy
 have h2 : IsI _ _ _ w := ⟨_, _, _, _, rfl, h2⟩
 obtain ⟨W, hW, S⟩ : ∃ W, W = ((w.alloc (.cells #[.bool s1, .slice a1 n1 c1] 33)).alloc (.cells #[.bool s2, .slice a2 n2 c2] 33)).alloc (.cells #[.bool false, .slice none 0 0, .bool false, .slice none 0 0] 46) ∧ Sto w W [((w.heap.size + 1 + 1, 1), IsI 0 0), ((w.heap.size + 1 + 1, 0), IsI 0 0), ((w.heap.size + 1, 0), IsI k2 z2), ((w.heap.size, 0), IsI k1 z1)] := ⟨_, rfl, ((((Sto.start w).new1 (w.heap.size) (by simp) s1 a1 n1 c1 33 (IsI k1 z1) (IsI.gstb _ _) (h1)).new1 (w.heap.size + 1) (by simp) s2 a2 n2 c2 33 (IsI k2 z2) (IsI.gstb _ _) (h2.ext ((Ext.refl _).alloc _))).new2 (w.heap.size + 1 + 1) (by simp) false false none none 0 0 0 0 46 (IsI 0 0) (IsI 0 0) (IsI.gstb _ _) (IsI.nil _ _) (IsI.gstb _ _) (IsI.nil _ _))⟩
 clear h1 h2
 go_enter Tryz.func126, Tryz.ntmps126
 go_upto_region 1 with (fail)
 rw [← hW]
 clear hW
 refine rgs 3 [some 7, some 8, some 9] [IsI k2 z2, IsV (.int .i64 sg), IsV (.bool false)] [] ?_ ?_
 ·refine Rc (ldI S 2 (w.heap.size + 1) 0 (Od.lit 3) ld_Int) ?_
  refine Rc (cl1 (en Tryz.func65) (Od.lc (Φ := IsI k2 z2) 0 7) (fun x0 w' hE d0 => Calls.mono (RSign_f d0) fun _ _ h => h.int (HSG.out))) ?_
  refine Rc (bn (r := .bool false) (Od.loc 1 8) Od.con (hr := fun w => by have hx9 := HS0.out; go_simp)) ?_
  exact RgAll.nil
 intro v W1 e1 hΦ _
 replace S := S.mono e1
 have v2 : v 2 = .bool false := hΦ 2 (by decide)
 simp only [layL, Act.put, uAx, u0x, u1x, Nat.reduceAdd]
 rw [v2]
 clear v2 hΦ e1
 refine wpList_nil ?_
 go_upto_region 3 with (fail)
 have hl := hid S.lt; have hw := S.ext.size
 refine rgs 4 [some 11, some 12, some 13, some 6] [IsI k1 z1, IsI k2 z2, IsI (max k1 k2) (((Int.gcd z1 z2 : Nat) : Int)), IsBo W1 1] [3] ?_ ?_
 ·refine Rc (ldI S 3 (w.heap.size) 0 (Od.lit 2) ld_Int) ?_
  refine Rc (ldI S 2 (w.heap.size + 1) 0 (Od.lit 3) ld_Int) ?_
  refine Rc (cl2 (en Tryz.func66) (Od.lc (Φ := IsI k1 z1) 0 11) (Od.lc (Φ := IsI k2 z2) 1 12) (fun x0 x1 w' hE d0 d1 => RGcd_f d0 d1 (by omega) (by omega))) ?_
  refine Rc (al al_Int) ?_
  exact RgAll.nil
 intro v W2 e1 hΦ _
 replace S := S.mono e1
 have h13 := hΦ 2 (by decide)
 obtain ⟨g6, v3, q2, b1, _⟩ := (hΦ 3 (by decide) : IsBo W1 1 (v 3) W2)
 replace S := S.addN 1 (ApartO.old hl.out q2) (Nat.le_trans hw q2) b1
 simp only [newF, List.cons_append, List.nil_append] at S
 simp only [layL, Act.put, uAx, u0x, u1x, Nat.reduceAdd]
 rw [v3]
 clear b1 hl hw v3 hΦ e1
 try simp only [List.drop_succ_cons, List.drop_zero]
 (with_reducible refine stL ?_ (by rfl)); intro KK hKK; refine stI S 0 (g6) 0 h13 st_Int (fun W3 S2 G2 => hKK _ _ ?_) rfl
 replace S := S2; clear S2 G2 hKK KK h13
 simp only [u0x] at S
 refine wpList_nil ?_
 go_upto_region 4 with (fail)
 refine rgs 3 [some 14, some 15, some 16] [IsI k2 z2, IsV (.int .i64 sg), IsV (.bool true)] [] ?_ ?_
 ·refine Rc (ldI S 3 (w.heap.size + 1) 0 (Od.lit 3) ld_Int) ?_
  refine Rc (cl1 (en Tryz.func65) (Od.lc (Φ := IsI k2 z2) 0 14) (fun x0 w' hE d0 => Calls.mono (RSign_f d0) fun _ _ h => h.int (HSG.out))) ?_
  refine Rc (bn (r := .bool true) (Od.loc 1 15) Od.con (hr := fun w => by have hx9 := HS1.out; go_simp)) ?_
  exact RgAll.nil
 intro v W4 e1 hΦ _
 replace S := S.mono e1
 have v2 : v 2 = .bool true := hΦ 2 (by decide)
 simp only [layL, Act.put, uAx, u0x, u1x, Nat.reduceAdd]
 rw [v2]
 clear v2 hΦ e1
 refine wpList_nil ?_
 go_upto_region 5 with (fail)
 refine rgs 2 [some 17, some 18] [IsI (max k1 k2) (((Int.gcd z1 z2 : Nat) : Int)), IsI (max k1 k2) (-(((Int.gcd z1 z2 : Nat) : Int)))] [] ?_ ?_
 ·refine Rc (ldI S 0 (g6) 0 (Od.lit 6) ld_Int) ?_
  refine Rc (cl1 (en Tryz.func154) (Od.lc (Φ := IsI (max k1 k2) (((Int.gcd z1 z2 : Nat) : Int))) 0 17) (fun x0 w' hE d0 => RNeg_f d0)) ?_
  exact RgAll.nil
 intro v W5 e1 hΦ _
 replace S := S.mono e1
 have h18 := hΦ 1 (by decide)
 simp only [layL, Act.put, uAx, u0x, u1x, Nat.reduceAdd]
 clear hΦ e1
 try simp only [List.drop_succ_cons, List.drop_zero]
 (with_reducible refine stL ?_ (by rfl)); intro KK hKK; refine stI S 0 (g6) 0 h18 st_Int (fun W6 S2 G2 => hKK _ _ ?_) rfl
 replace S := S2; clear S2 G2 hKK KK h18
 simp only [u0x] at S
 refine wpList_nil ?_
 go_upto_region 6 with (fail)
 refine rg 7 [some 19, some 20, some 21, some 22, some 23, some 24, some 25] [IsI k1 z1, IsI (max k1 k2) (-(((Int.gcd z1 z2 : Nat) : Int))), IsI k1 qn, IsI k2 z2, IsI (max k1 k2) (-(((Int.gcd z1 z2 : Nat) : Int))), IsI k2 qd, IsQ (IsI k1 qn) (IsI k2 qd)] [] 2 ?_ ?_
 ·refine Rc (ldI S 4 (w.heap.size) 0 (Od.lit 2) ld_Int) ?_
  refine Rc (ldI S 0 (g6) 0 (Od.lit 6) ld_Int) ?_
  refine Rc (cl2 (en Tryz.func93) (Od.lc (Φ := IsI k1 z1) 0 19) (Od.lc (Φ := IsI (max k1 k2) (-(((Int.gcd z1 z2 : Nat) : Int)))) 1 20) (fun x0 x1 w' hE d0 d1 => Calls.mono (RDiv_f d0 d1 (by omega) (by omega) HG.out) fun _ _ h => h.eqz HN.out)) ?_
  refine Rc (ldI S 3 (w.heap.size + 1) 0 (Od.lit 3) ld_Int) ?_
  refine Rc (ldI S 0 (g6) 0 (Od.lit 6) ld_Int) ?_
  refine Rc (cl2 (en Tryz.func93) (Od.lc (Φ := IsI k2 z2) 3 22) (Od.lc (Φ := IsI (max k1 k2) (-(((Int.gcd z1 z2 : Nat) : Int)))) 4 23) (fun x0 x1 w' hE d0 d1 => Calls.mono (RDiv_f d0 d1 (by omega) (by omega) HG.out) fun _ _ h => h.eqz HD.out)) ?_
  refine Rc (bq (Od.loc 2 21) (Od.loc 5 24) bd_Rat) ?_
  exact RgAll.nil
 intro v W7 e1 hΦ _
 replace S := S.mono e1
 have h25 := hΦ 6 (by decide)
 simp only [layL, Act.put, uAx, u0x, u1x, Nat.reduceAdd]
 clear hΦ e1
 refine stA 7 (h := fun KK hKK => stQ S 2 1 (w.heap.size + 1 + 1) 0 h25 (IsI.gstb _ _) (IsI.gstb _ _) st_Rat (fun W8 S2 G2 => hKK _ _ ?_) rfl rfl)
 replace S := S2; clear S2 G2 hKK KK h25
 simp only [u0x, u1x] at S
 refine wpAny_ready (rs := [8]) (by kernel_rfl) (by simp) (AllReady.cons rfl (fun K hK => ?_) AllReady.nil); go_simp; refine hK _ _ ?_; clear hK K
 refine wpAny_done (by kernel_rfl) ?_ _
 go_wp2_with fail
 obtain ⟨s90x, a90x, n90x, c90x, b90x, h90x⟩ := S.at 2 (w.heap.size + 1 + 1) 0 (IsI k1 qn) rfl; have L90xa : World.cell? W8 ⟨w.heap.size + 1 + 1, 0, none⟩ = some (.bool s90x) := b90x.c0; have L90xb : World.cell? W8 ⟨w.heap.size + 1 + 1, 1, none⟩ = some (.slice a90x n90x c90x) := b90x.c1
 obtain ⟨s90y, a90y, n90y, c90y, b90y, h90y⟩ := S.at 1 (w.heap.size + 1 + 1) 1 (IsI k2 qd) rfl; have L90ya : World.cell? W8 ⟨w.heap.size + 1 + 1, 2, none⟩ = some (.bool s90y) := b90y.c0; have L90yb : World.cell? W8 ⟨w.heap.size + 1 + 1, 3, none⟩ = some (.slice a90y n90y c90y) := b90y.c1
 exact bodyPost_ret (v := .tuple #[.agg #[.bool s90x, .slice a90x n90x c90x, .bool s90y, .slice a90y n90y c90y], .int .i64 0]) (by simp [results, Tryz.results126, go_sem, L90xa, L90xb, L90ya, L90yb]) rfl (⟨_, rfl, S.ext, _, _, rfl, ⟨_, _, _, _, _, _, _, _, rfl, h90x, h90y⟩, rfl⟩)

theorem rqNew_f {k1 k2 : Nat} {z1 z2 : Int} {x y : Value} {w : World} (hx : IsI k1 z1 x w) (hy : IsI k2 z2 y w) (l1 : k1 ≤ 1048576) (l2 : k2 ≤ 1048576) (hz : z2 ≠ 0) :
  Calls Tryz.prog 126 #[x, y] w (Ret w (IsT2 (IsRat (max k1 k2) (Rat.divInt z1 z2)) (IsV (.int .i64 0)))) := by
 have key : Calls Tryz.prog 126 #[x, y] w (Ret w (IsT2 (IsQ (IsI k1 (Rat.divInt z1 z2).num) (IsI k2 ((Rat.divInt z1 z2).den : Int))) (IsV (.int .i64 0)))) := by
  rcases Int.lt_or_gt_of_ne hz with h | h
  ·exact rqNewneg_c hx hy l1 l2 h _ _ (rat_num_neg z1 z2 h) (rat_den_neg z1 z2 h)
  ·exact rqNewpos_c hx hy l1 l2 h _ _ (rat_num_pos z1 z2 h) (rat_den_pos z1 z2 h)
 exact Calls.mono key fun _ _ h => h.mono fun _ _ ⟨u, v, e, ⟨s, a, n, c, s', a', n', c', h1, h2, h3⟩, h4⟩ => ⟨u, v, e, ⟨s, a, n, c, s', a', n', c', h1, h2.mono (by omega), h3.mono (by omega)⟩, h4⟩

set_option maxRecDepth 100000 in
set_option maxHeartbeats 4000000 in
theorem rqover_f {k1 k2 : Nat} {z1 z2 : Int} {x y : Value} {w : World} (hx : IsI k1 z1 x w) (hy : IsI k2 z2 y w) (l1 : k1 ≤ 1048576) (l2 : k2 ≤ 1048576) (hz : z2 ≠ 0) :
  Calls Tryz.prog 78 #[x, y] w (Ret w (IsRat (max k1 k2) (Rat.divInt z1 z2))) := by
 have HZ := hid hz
 clear hz
 obtain ⟨s1, a1, n1, c1, rfl, h1⟩ := hx
 have h1 : IsI _ _ _ w := ⟨_, _, _, _, rfl, h1⟩
 obtain ⟨s2, a2, n2, c2, rfl, h2⟩ := hy
 have h2 : IsI _ _ _ w := ⟨_, _, _, _, rfl, h2⟩
 obtain ⟨W, hW, S⟩ : ∃ W, W = ((w.alloc (.cells #[.bool s1, .slice a1 n1 c1] 33)).alloc (.cells #[.bool s2, .slice a2 n2 c2] 33)).alloc (.cells #[.bool false, .slice none 0 0, .bool false, .slice none 0 0] 46) ∧ Sto w W [((w.heap.size + 1 + 1, 1), IsI 0 0), ((w.heap.size + 1 + 1, 0), IsI 0 0), ((w.heap.size + 1, 0), IsI k2 z2), ((w.heap.size, 0), IsI k1 z1)] := ⟨_, rfl, ((((Sto.start w).new1 (w.heap.size) (by simp) s1 a1 n1 c1 33 (IsI k1 z1) (IsI.gstb _ _) (h1)).new1 (w.heap.size + 1) (by simp) s2 a2 n2 c2 33 (IsI k2 z2) (IsI.gstb _ _) (h2.ext ((Ext.refl _).alloc _))).new2 (w.heap.size + 1 + 1) (by simp) false false none none 0 0 0 0 46 (IsI 0 0) (IsI 0 0) (IsI.gstb _ _) (IsI.nil _ _) (IsI.gstb _ _) (IsI.nil _ _))⟩
 clear h1 h2
 go_enter Tryz.func78, Tryz.ntmps78
 go_upto_region 1 with (fail)
 rw [← hW]
 clear hW
 have hl := hid S.lt; have hw := S.ext.size
 refine rgs 7 [some 8, some 9, some 10, some 7, some 11, some 12, some 5] [IsI k1 z1, IsI k2 z2, IsT2 (IsQ (IsI (max k1 k2) ((Rat.divInt z1 z2).num)) (IsI (max k1 k2) (((Rat.divInt z1 z2).den : Int)))) (IsV (.int .i64 0)), IsT2 (IsQ (IsI (max k1 k2) ((Rat.divInt z1 z2).num)) (IsI (max k1 k2) (((Rat.divInt z1 z2).den : Int)))) (IsV (.int .i64 0)), IsQ (IsI (max k1 k2) ((Rat.divInt z1 z2).num)) (IsI (max k1 k2) (((Rat.divInt z1 z2).den : Int))), IsV (.int .i64 0), IsBo W 2] [6] ?_ ?_
 ·refine Rc (ldI S 3 (w.heap.size) 0 (Od.lit 2) ld_Int) ?_
  refine Rc (ldI S 2 (w.heap.size + 1) 0 (Od.lit 3) ld_Int) ?_
  refine Rc (cl2 (en Tryz.func126) (Od.lc (Φ := IsI k1 z1) 0 8) (Od.lc (Φ := IsI k2 z2) 1 9) (fun x0 x1 w' hE d0 d1 => rqNew_f d0 d1 (by omega) (by omega) HZ.out)) ?_
  refine Rc (mv (Od.lc 2 10)) ?_
  refine Rc (ex (Od.loc 3 7) t20) ?_
  refine Rc (ex (Od.loc 3 7) t21) ?_
  refine Rc (al al_Rat) ?_
  exact RgAll.nil
 intro v W1 e1 hΦ _
 replace S := S.mono e1
 have h11 := hΦ 4 (by decide)
 have v5 : v 5 = .int .i64 0 := hΦ 5 (by decide)
 obtain ⟨g5, v6, q2, b1, _⟩ := (hΦ 6 (by decide) : IsBo W 2 (v 6) W1)
 replace S := S.addN 2 (ApartO.old hl.out q2) (Nat.le_trans hw q2) b1
 simp only [newF, List.cons_append, List.nil_append] at S
 simp only [layL, Act.put, uAx, u0x, u1x, Nat.reduceAdd]
 rw [v5, v6]
 clear b1 hl hw v5 v6 hΦ e1
 try simp only [List.drop_succ_cons, List.drop_zero]
 (with_reducible refine stL ?_ (by rfl)); intro KK hKK; refine stQ S 1 0 (g5) 0 h11 (IsI.gstb _ _) (IsI.gstb _ _) st_Rat (fun W2 S2 G2 => hKK _ _ ?_) rfl rfl
 replace S := S2; clear S2 G2 hKK KK h11
 simp only [u0x, u1x] at S
 refine wpList_step fun K hK => ?_; go_simp; refine hK _ _ ?_; clear hK K
 refine wpList_nil ?_
 go_upto_region 2 with (fail)
 refine rgs 1 [some 13] [IsQ (IsI (max k1 k2) ((Rat.divInt z1 z2).num)) (IsI (max k1 k2) (((Rat.divInt z1 z2).den : Int)))] [] ?_ ?_
 ·refine Rc (ldQ S 1 0 (g5) 0 (Od.lit 5) ld_Rat rfl rfl) ?_
  exact RgAll.nil
 intro v W3 e1 hΦ _
 replace S := S.mono e1
 have h13 := hΦ 0 (by decide)
 simp only [layL, Act.put, uAx, u0x, u1x]
 clear hΦ e1
 try simp only [List.drop_succ_cons, List.drop_zero]
 (with_reducible refine stL ?_ (by rfl)); intro KK hKK; refine stQ S 3 2 (w.heap.size + 1 + 1) 0 h13 (IsI.gstb _ _) (IsI.gstb _ _) st_Rat (fun W4 S2 G2 => hKK _ _ ?_) rfl rfl
 replace S := S2; clear S2 G2 hKK KK h13
 simp only [u0x, u1x] at S
 refine wpList_nil ?_
 go_wp2_with fail
 obtain ⟨s90x, a90x, n90x, c90x, b90x, h90x⟩ := S.at 3 (w.heap.size + 1 + 1) 0 (IsI (max k1 k2) ((Rat.divInt z1 z2).num)) rfl; have L90xa : World.cell? W4 ⟨w.heap.size + 1 + 1, 0, none⟩ = some (.bool s90x) := b90x.c0; have L90xb : World.cell? W4 ⟨w.heap.size + 1 + 1, 1, none⟩ = some (.slice a90x n90x c90x) := b90x.c1
 obtain ⟨s90y, a90y, n90y, c90y, b90y, h90y⟩ := S.at 2 (w.heap.size + 1 + 1) 1 (IsI (max k1 k2) (((Rat.divInt z1 z2).den : Int))) rfl; have L90ya : World.cell? W4 ⟨w.heap.size + 1 + 1, 2, none⟩ = some (.bool s90y) := b90y.c0; have L90yb : World.cell? W4 ⟨w.heap.size + 1 + 1, 3, none⟩ = some (.slice a90y n90y c90y) := b90y.c1
 exact bodyPost_ret (v := .agg #[.bool s90x, .slice a90x n90x c90x, .bool s90y, .slice a90y n90y c90y]) (by simp [results, Tryz.results78, go_sem, L90xa, L90xb, L90ya, L90yb]) rfl (⟨_, rfl, S.ext, ⟨_, _, _, _, _, _, _, _, rfl, h90x, h90y⟩⟩)

end Go.Proofs.YtknffgdbdadpcaaGreatDoor
