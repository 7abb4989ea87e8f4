/-
 Fractions as Lean's Rat: what New, Add, Mul, Div, Cmp and Floor of package rational compute. Plain laws, no program. The simplest fraction of an interval of positive fractions, as package rational's Between finds it. Plain laws, no program.
 Package rational: New, sums, products, quotients, the order, signs, floors. Every fraction of at most 2^20 words. (Printed by wip/gen/rat1.py.)
 Rows of words that a call has made, as slices with room: written, read, appended to. No condition.
-/
import Derived.Test.YtkeikfekkdplgaaGreatDoorBase
import Derived.Test.YtkeikfekkdplgaaGreatDoorRgn
import Derived.Test.YtkeikfekkdplgaaGreatDoorRgm
namespace Go.Proofs.YtkeikfekkdplgaaGreatDoor
open Go Go.RowKit

theorem rat_num_pos (n d : Int) (hd : 0 < d) : n / (Int.gcd n d : Int) = (Rat.divInt n d).num := by
 rw [Rat.num_divInt, Int.sign_eq_one_of_pos hd, Int.one_mul, Int.gcd_comm]
theorem rat_den_pos (n d : Int) (hd : 0 < d) : d / (Int.gcd n d : Int) = ((Rat.divInt n d).den : Int) := by
 rw [Rat.den_divInt, if_neg (by omega), Int.natCast_ediv, Int.gcd_comm, show (d.natAbs : Int) = d by omega]
theorem rat_num_neg (n d : Int) (hd : d < 0) : n / (-(Int.gcd n d : Int)) = (Rat.divInt n d).num := by
 rw [Rat.num_divInt, Int.sign_eq_neg_one_of_neg hd, Int.gcd_comm, Int.ediv_neg]
 have h : ((Int.gcd d n : Nat) : Int) ∣ n := Int.gcd_dvd_right d n
 rw [show -1 * n = -n by omega, Int.neg_ediv_of_dvd h]
theorem rat_den_neg (n d : Int) (hd : d < 0) : d / (-(Int.gcd n d : Int)) = ((Rat.divInt n d).den : Int) := by
 rw [Rat.den_divInt, if_neg (by omega), Int.natCast_ediv, Int.gcd_comm, Int.ediv_neg]
 have h : ((Int.gcd d n : Nat) : Int) ∣ d := Int.gcd_dvd_left d n
 rw [← Int.neg_ediv_of_dvd h, show (d.natAbs : Int) = -d by omega]
end Go.Proofs.YtkeikfekkdplgaaGreatDoor
namespace Go.Proofs.YtkeikfekkdplgaaGreatDoor
open Go Go.RowKit

end Go.Proofs.YtkeikfekkdplgaaGreatDoor
namespace Go.Proofs.YtkeikfekkdplgaaGreatDoor
open Go Go.RowKit

/-- A fraction in lowest terms, of at most K words each. -/
abbrev IsRat (K : Nat) (q : Rat) : Value → World → Prop := IsQ (IsI K q.num) (IsI K (q.den : Int))
theorem IsRat.mono {K K' : Nat} {q : Rat} {x : Value} {w : World} (h : IsRat K q x w) (hk : K ≤ K') : IsRat K' q x w :=
 let ⟨s, a, n, c, s', a', n', c', h1, h2, h3⟩ := h; ⟨s, a, n, c, s', a', n', c', h1, h2.mono hk, h3.mono hk⟩

set_option maxRecDepth 100000 in
set_option maxHeartbeats 4000000 in
theorem quotient_f {k1 k2 : Nat} {z1 z2 : Int} {x y : Value} {w : World} (hx : IsI k1 z1 x w) (hy : IsI k2 z2 y w) (l1 : k1 ≤ 33554432) (l2 : k2 ≤ 33554432) (hz : z2 ≠ 0) :
  Calls Tryz.prog 176 #[x, y] w (Ret w (IsI k1 (z1 / z2))) := by
 have HZ := hid hz
 clear hz
 obtain ⟨s1, a1, n1, c1, rfl, h1⟩ := hx
 have h1 : IsI _ _ _ w := ⟨_, _, _, _, rfl, h1⟩
 obtain ⟨s2, a2, n2, c2, rfl, h2⟩ := hy
 have h2 : IsI _ _ _ w := ⟨_, _, _, _, rfl, h2⟩
 obtain ⟨W, hW, S⟩ : ∃ W, W = ((w.alloc (.cells #[.bool s1, .slice a1 n1 c1] 28)).alloc (.cells #[.bool s2, .slice a2 n2 c2] 28)).alloc (.cells #[.bool false, .slice none 0 0] 28) ∧ Sto w W [((w.heap.size + 1 + 1, 0), IsI 0 0), ((w.heap.size + 1, 0), IsI k2 z2), ((w.heap.size, 0), IsI k1 z1)] := ⟨_, rfl, ((((Sto.start w).new1 (w.heap.size) (by simp) s1 a1 n1 c1 28 (IsI k1 z1) (IsI.gstb _ _) (h1)).new1 (w.heap.size + 1) (by simp) s2 a2 n2 c2 28 (IsI k2 z2) (IsI.gstb _ _) (h2.ext ((Ext.refl _).alloc _))).new1 (w.heap.size + 1 + 1) (by simp) false none 0 0 28 (IsI 0 0) (IsI.gstb _ _) (IsI.nil _ _))⟩
 clear h1 h2
 go_enter Tryz.func176, Tryz.ntmps176
 go_upto_region 1 with (fail)
 rw [← hW]
 clear hW
 have hl := hid S.lt; have hw := S.ext.size
 refine rgs 9 [some 9, some 10, some 11, some 8, some 12, some 13, some 14, some 5, some 6] [IsI k1 z1, IsI k2 z2, IsT3 (IsI k1 (z1 / z2)) (IsI k2 (z1 % z2)) (IsV (.int .i64 0)), IsT3 (IsI k1 (z1 / z2)) (IsI k2 (z1 % z2)) (IsV (.int .i64 0)), IsI k1 (z1 / z2), IsI k2 (z1 % z2), IsV (.int .i64 0), IsBo W 1, IsBo W 1] [7, 8] ?_ ?_
 ·refine Rc (ldI S 2 (w.heap.size) 0 (Od.lit 2) ld_Int) ?_
  refine Rc (ldI S 1 (w.heap.size + 1) 0 (Od.lit 3) ld_Int) ?_
  refine Rc (cl2 (en Tryz.func213) (Od.lc (Φ := IsI k1 z1) 0 9) (Od.lc (Φ := IsI k2 z2) 1 10) (fun x0 x1 w' hE d0 d1 => DivMod_f d0 d1 (by omega) (by omega) HZ.out)) ?_
  refine Rc (mv (Od.lc 2 11)) ?_
  refine Rc (ex (Od.loc 3 8) t30) ?_
  refine Rc (ex (Od.loc 3 8) t31) ?_
  refine Rc (ex (Od.loc 3 8) t32) ?_
  refine Rc (al al_Int) ?_
  refine Rc (al al_Int) ?_
  exact RgAll.nil
 intro v W1 e1 hΦ hne
 replace S := S.mono e1
 have h12 := hΦ 4 (by decide)
 have h13 := hΦ 5 (by decide)
 have v6 : v 6 = .int .i64 0 := hΦ 6 (by decide)
 obtain ⟨g5, v7, q2, b1, _⟩ := (hΦ 7 (by decide) : IsBo W 1 (v 7) W1)
 replace S := S.addN 1 (ApartO.old hl.out q2) (Nat.le_trans hw q2) b1
 obtain ⟨g6, v8, q4, b3, _⟩ := (hΦ 8 (by decide) : IsBo W 1 (v 8) W1)
 replace S := S.addN 1 (ApartO.cons (fun h => hne 7 8 (by decide) (by decide) (by decide) (by decide) (by decide) (by rw [v7, v8, h])) (ApartO.old hl.out q4)) (Nat.le_trans hw q4) b3
 simp only [newF, List.cons_append, List.nil_append] at S
 simp only [layL, Act.put, uAx, u0x, u1x, Nat.reduceAdd]
 rw [v6, v7, v8]
 clear b1 b3 hl hw hne v6 v7 v8 hΦ e1
 try simp only [List.drop_succ_cons, List.drop_zero]
 (with_reducible refine stL ?_ (by rfl)); intro KK hKK; refine stI S 1 (g5) 0 h12 st_Int (fun W2 S2 G2 => hKK _ _ ?_) rfl
 replace h13 := (IsI.gstb _ _) _ _ _ G2 h13
 replace S := S2; clear S2 G2 hKK KK h12
 simp only [u0x, u1x] at S
 try simp only [List.drop_succ_cons, List.drop_zero]
 (with_reducible refine stL ?_ (by rfl)); intro KK hKK; refine stI S 0 (g6) 0 h13 st_Int (fun W3 S2 G2 => hKK _ _ ?_) rfl
 replace S := S2; clear S2 G2 hKK KK h13
 simp only [u0x] at S
 refine wpList_step fun K hK => ?_; go_simp; refine hK _ _ ?_; clear hK K
 refine wpList_nil ?_
 go_upto_region 2 with (fail)
 refine rgs 1 [some 15] [IsI k1 (z1 / z2)] [] ?_ ?_
 ·refine Rc (ldI S 1 (g5) 0 (Od.lit 5) ld_Int) ?_
  exact RgAll.nil
 intro v W4 e1 hΦ _
 replace S := S.mono e1
 have h15 := hΦ 0 (by decide)
 simp only [layL, Act.put, uAx, u0x, u1x]
 clear hΦ e1
 try simp only [List.drop_succ_cons, List.drop_zero]
 (with_reducible refine stL ?_ (by rfl)); intro KK hKK; refine stI S 2 (w.heap.size + 1 + 1) 0 h15 st_Int (fun W5 S2 G2 => hKK _ _ ?_) rfl
 replace S := S2; clear S2 G2 hKK KK h15
 simp only [u0x, u1x] at S
 refine wpList_nil ?_
 go_wp2_with fail
 obtain ⟨s90x, a90x, n90x, c90x, b90x, h90x⟩ := S.at 2 (w.heap.size + 1 + 1) 0 (IsI k1 (z1 / z2)) rfl; have L90xa : World.cell? W5 ⟨w.heap.size + 1 + 1, 0, none⟩ = some (.bool s90x) := b90x.c0; have L90xb : World.cell? W5 ⟨w.heap.size + 1 + 1, 1, none⟩ = some (.slice a90x n90x c90x) := b90x.c1
 exact bodyPost_ret (v := .agg #[.bool s90x, .slice a90x n90x c90x]) (by simp [results, Tryz.results176, go_sem, L90xa, L90xb]) rfl (⟨_, rfl, S.ext, h90x⟩)

set_option maxRecDepth 100000 in
set_option maxHeartbeats 4000000 in
theorem reduced_c {k1 k2 : Nat} {z1 z2 : Int} {x y : Value} {w : World} (hx : IsI k1 z1 x w) (hy : IsI k2 z2 y w) (l1 : k1 ≤ 33554432) (l2 : k2 ≤ 33554432) (hz : z2 ≠ 0) (qn qd : Int) (hn : z1 / (Int.gcd z1 z2 : Nat) = qn) (hd : z2 / (Int.gcd z1 z2 : Nat) = qd) :
  Calls Tryz.prog 128 #[x, y] w (Ret w (IsQ (IsI k1 qn) (IsI k2 qd))) := by
 have HG := hid (show ((Int.gcd z1 z2 : Nat) : Int) ≠ 0 by intro h; exact hz ((Int.gcd_eq_zero_iff (a := z1) (b := z2)).1 (by omega)).2)
 have HN := hid hn
 have HD := hid hd
 clear hz hn hd
 obtain ⟨s1, a1, n1, c1, rfl, h1⟩ := hx
 have h1 : IsI _ _ _ w := ⟨_, _, _, _, rfl, h1⟩
 obtain ⟨s2, a2, n2, c2, rfl, h2⟩ := hy
 have h2 : IsI _ _ _ w := ⟨_, _, _, _, rfl, h2⟩
 obtain ⟨W, hW, S⟩ : ∃ W, W = ((w.alloc (.cells #[.bool s1, .slice a1 n1 c1] 28)).alloc (.cells #[.bool s2, .slice a2 n2 c2] 28)).alloc (.cells #[.bool false, .slice none 0 0, .bool false, .slice none 0 0] 45) ∧ Sto w W [((w.heap.size + 1 + 1, 1), IsI 0 0), ((w.heap.size + 1 + 1, 0), IsI 0 0), ((w.heap.size + 1, 0), IsI k2 z2), ((w.heap.size, 0), IsI k1 z1)] := ⟨_, rfl, ((((Sto.start w).new1 (w.heap.size) (by simp) s1 a1 n1 c1 28 (IsI k1 z1) (IsI.gstb _ _) (h1)).new1 (w.heap.size + 1) (by simp) s2 a2 n2 c2 28 (IsI k2 z2) (IsI.gstb _ _) (h2.ext ((Ext.refl _).alloc _))).new2 (w.heap.size + 1 + 1) (by simp) false false none none 0 0 0 0 45 (IsI 0 0) (IsI 0 0) (IsI.gstb _ _) (IsI.nil _ _) (IsI.gstb _ _) (IsI.nil _ _))⟩
 clear h1 h2
 go_enter Tryz.func128, Tryz.ntmps128
 go_upto_region 1 with (fail)
 rw [← hW]
 clear hW
 have hl := hid S.lt; have hw := S.ext.size
 refine rgs 4 [some 6, some 7, some 8, some 5] [IsI k1 z1, IsI k2 z2, IsI (max k1 k2) ((Int.gcd z1 z2 : Nat)), IsBo W 1] [3] ?_ ?_
 ·refine Rc (ldI S 3 (w.heap.size) 0 (Od.lit 2) ld_Int) ?_
  refine Rc (ldI S 2 (w.heap.size + 1) 0 (Od.lit 3) ld_Int) ?_
  refine Rc (cl2 (en Tryz.func175) (Od.lc (Φ := IsI k1 z1) 0 6) (Od.lc (Φ := IsI k2 z2) 1 7) (fun x0 x1 w' hE d0 d1 => Gcd_f d0 d1 (by omega) (by omega))) ?_
  refine Rc (al al_Int) ?_
  exact RgAll.nil
 intro v W1 e1 hΦ _
 replace S := S.mono e1
 have h8 := hΦ 2 (by decide)
 obtain ⟨g5, v3, q2, b1, _⟩ := (hΦ 3 (by decide) : IsBo W 1 (v 3) W1)
 replace S := S.addN 1 (ApartO.old hl.out q2) (Nat.le_trans hw q2) b1
 simp only [newF, List.cons_append, List.nil_append] at S
 simp only [layL, Act.put, uAx, u0x, u1x, Nat.reduceAdd]
 rw [v3]
 clear b1 hl hw v3 hΦ e1
 try simp only [List.drop_succ_cons, List.drop_zero]
 (with_reducible refine stL ?_ (by rfl)); intro KK hKK; refine stI S 0 (g5) 0 h8 st_Int (fun W2 S2 G2 => hKK _ _ ?_) rfl
 replace S := S2; clear S2 G2 hKK KK h8
 simp only [u0x] at S
 refine wpList_nil ?_
 go_upto_region 2 with (fail)
 refine rg 7 [some 9, some 10, some 11, some 12, some 13, some 14, some 15] [IsI k1 z1, IsI (max k1 k2) ((Int.gcd z1 z2 : Nat)), IsI k1 qn, IsI k2 z2, IsI (max k1 k2) ((Int.gcd z1 z2 : Nat)), IsI k2 qd, IsQ (IsI k1 qn) (IsI k2 qd)] [] 1 ?_ ?_
 ·refine Rc (ldI S 4 (w.heap.size) 0 (Od.lit 2) ld_Int) ?_
  refine Rc (ldI S 0 (g5) 0 (Od.lit 5) ld_Int) ?_
  refine Rc (cl2 (en Tryz.func176) (Od.lc (Φ := IsI k1 z1) 0 9) (Od.lc (Φ := IsI (max k1 k2) ((Int.gcd z1 z2 : Nat))) 1 10) (fun x0 x1 w' hE d0 d1 => Calls.mono (quotient_f d0 d1 (by omega) (by omega) HG.out) fun _ _ h => h.eqz HN.out)) ?_
  refine Rc (ldI S 3 (w.heap.size + 1) 0 (Od.lit 3) ld_Int) ?_
  refine Rc (ldI S 0 (g5) 0 (Od.lit 5) ld_Int) ?_
  refine Rc (cl2 (en Tryz.func176) (Od.lc (Φ := IsI k2 z2) 3 12) (Od.lc (Φ := IsI (max k1 k2) ((Int.gcd z1 z2 : Nat))) 4 13) (fun x0 x1 w' hE d0 d1 => Calls.mono (quotient_f d0 d1 (by omega) (by omega) HG.out) fun _ _ h => h.eqz HD.out)) ?_
  refine Rc (bq (Od.loc 2 11) (Od.loc 5 14) bd_Rat) ?_
  exact RgAll.nil
 intro v W3 e1 hΦ _
 replace S := S.mono e1
 have h15 := hΦ 6 (by decide)
 simp only [layL, Act.put, uAx, u0x, u1x, Nat.reduceAdd]
 clear hΦ e1
 refine stA 7 (h := fun KK hKK => stQ S 2 1 (w.heap.size + 1 + 1) 0 h15 (IsI.gstb _ _) (IsI.gstb _ _) st_Rat (fun W4 S2 G2 => hKK _ _ ?_) rfl rfl)
 replace S := S2; clear S2 G2 hKK KK h15
 simp only [u0x, u1x] at S
 refine wpAny_done (by kernel_rfl) ?_ _
 go_wp2_with fail
 obtain ⟨s90x, a90x, n90x, c90x, b90x, h90x⟩ := S.at 2 (w.heap.size + 1 + 1) 0 (IsI k1 qn) rfl; have L90xa : World.cell? W4 ⟨w.heap.size + 1 + 1, 0, none⟩ = some (.bool s90x) := b90x.c0; have L90xb : World.cell? W4 ⟨w.heap.size + 1 + 1, 1, none⟩ = some (.slice a90x n90x c90x) := b90x.c1
 obtain ⟨s90y, a90y, n90y, c90y, b90y, h90y⟩ := S.at 1 (w.heap.size + 1 + 1) 1 (IsI k2 qd) rfl; have L90ya : World.cell? W4 ⟨w.heap.size + 1 + 1, 2, none⟩ = some (.bool s90y) := b90y.c0; have L90yb : World.cell? W4 ⟨w.heap.size + 1 + 1, 3, none⟩ = some (.slice a90y n90y c90y) := b90y.c1
 exact bodyPost_ret (v := .agg #[.bool s90x, .slice a90x n90x c90x, .bool s90y, .slice a90y n90y c90y]) (by simp [results, Tryz.results128, go_sem, L90xa, L90xb, L90ya, L90yb]) rfl (⟨_, rfl, S.ext, ⟨_, _, _, _, _, _, _, _, rfl, h90x, h90y⟩⟩)
theorem reduced_f {k1 k2 : Nat} {z1 z2 : Int} {x y : Value} {w : World} (hx : IsI k1 z1 x w) (hy : IsI k2 z2 y w) (l1 : k1 ≤ 33554432) (l2 : k2 ≤ 33554432) (hz : 0 < z2) :
  Calls Tryz.prog 128 #[x, y] w (Ret w (IsRat (max k1 k2) (Rat.divInt z1 z2))) := by
 refine Calls.mono (reduced_c hx hy l1 l2 (by omega) _ _ (rat_num_pos z1 z2 hz) (rat_den_pos z1 z2 hz)) fun _ _ h => h.mono fun _ _ ⟨s, a, n, c, s', a', n', c', h1, h2, h3⟩ => ⟨s, a, n, c, s', a', n', c', h1, h2.mono (by omega), h3.mono (by omega)⟩

theorem Ret.ratz {w : World} {K K' : Nat} {q q' : Rat} {e : Ending} {w' : World} (h : Ret w (IsRat K q) e w') (hq : q = q') (hk : K ≤ K') : Ret w (IsRat K' q') e w' := by
 subst hq; exact h.mono fun _ _ h => h.mono hk
theorem new_sign (n d : Int) (hd : d ≠ 0) : Rat.divInt (n * d.sign) (d.natAbs : Int) = Rat.divInt n d := by
 rw [← Int.mul_sign_self d]
 exact Rat.divInt_mul_right (by intro h; exact hd (Int.sign_eq_zero_iff_zero.1 h))

set_option maxRecDepth 100000 in
set_option maxHeartbeats 4000000 in
theorem qNew_c {k1 k2 : Nat} {z1 z2 : Int} {x y : Value} {w : World} (hx : IsI k1 z1 x w) (hy : IsI k2 z2 y w) (l1 : k1 ≤ 16777216) (l2 : k2 ≤ 16777216) (hz : z2 ≠ 0) (q : Rat) (hq : Rat.divInt z1 z2 = q) :
  Calls Tryz.prog 107 #[x, y] w (Ret w (IsT2 (IsRat (max (k1 + 2) k2) q) (IsV (.int .i64 0)))) := by
 obtain ⟨sg, hsg⟩ : ∃ s, z2.sign = s := ⟨_, rfl⟩
 have HSG := hid hsg
 have HS0 := hid (show (sg == 0) = false by rw [beq_eq_false_iff_ne, ← hsg]; intro h; exact hz (Int.sign_eq_zero_iff_zero.1 h))
 have HSB := hid (show -9223372036854775808 ≤ sg ∧ sg ≤ 9223372036854775807 by rw [← hsg]; rcases Int.lt_trichotomy z2 0 with h | h | h <;> simp [Int.sign_eq_neg_one_of_neg, Int.sign_eq_one_of_pos, h])
 have HP := hid (show 0 < ((z2.natAbs : Nat) : Int) by omega)
 have HQ := hid (show Rat.divInt (z1 * sg) ((z2.natAbs : Nat) : Int) = q by rw [← hsg, new_sign z1 z2 hz]; exact hq)
 clear hz hsg hq
 obtain ⟨s1, a1, n1, c1, rfl, h1⟩ := hx
 have h1 : IsI _ _ _ w := ⟨_, _, _, _, rfl, h1⟩
 obtain ⟨s2, a2, n2, c2, rfl, h2⟩ := hy
 have h2 : IsI _ _ _ w := ⟨_, _, _, _, rfl, h2⟩
 obtain ⟨W, hW, S⟩ : ∃ W, W = ((w.alloc (.cells #[.bool s1, .slice a1 n1 c1] 28)).alloc (.cells #[.bool s2, .slice a2 n2 c2] 28)).alloc (.cells #[.bool false, .slice none 0 0, .bool false, .slice none 0 0] 45) ∧ Sto w W [((w.heap.size + 1 + 1, 1), IsI 0 0), ((w.heap.size + 1 + 1, 0), IsI 0 0), ((w.heap.size + 1, 0), IsI k2 z2), ((w.heap.size, 0), IsI k1 z1)] := ⟨_, rfl, ((((Sto.start w).new1 (w.heap.size) (by simp) s1 a1 n1 c1 28 (IsI k1 z1) (IsI.gstb _ _) (h1)).new1 (w.heap.size + 1) (by simp) s2 a2 n2 c2 28 (IsI k2 z2) (IsI.gstb _ _) (h2.ext ((Ext.refl _).alloc _))).new2 (w.heap.size + 1 + 1) (by simp) false false none none 0 0 0 0 45 (IsI 0 0) (IsI 0 0) (IsI.gstb _ _) (IsI.nil _ _) (IsI.gstb _ _) (IsI.nil _ _))⟩
 clear h1 h2
 go_enter Tryz.func107, Tryz.ntmps107
 go_upto_region 1 with (fail)
 rw [← hW]
 clear hW
 refine rgs 3 [some 7, some 8, some 6] [IsI k2 z2, IsV (.int .i64 sg), IsV (.int .i64 sg)] [] ?_ ?_
 ·refine Rc (ldI S 2 (w.heap.size + 1) 0 (Od.lit 3) ld_Int) ?_
  refine Rc (cl1 (en Tryz.func127) (Od.lc (Φ := IsI k2 z2) 0 7) (fun x0 w' hE d0 => Calls.mono (Sign_f d0) fun _ _ h => h.int (HSG.out))) ?_
  refine Rc (mv (Od.lc 1 8)) ?_
  exact RgAll.nil
 intro v W1 e1 hΦ _
 replace S := S.mono e1
 have v2 : v 2 = .int .i64 sg := hΦ 2 (by decide)
 simp only [layL, Act.put, uAx, u0x, u1x, Nat.reduceAdd]
 rw [v2]
 clear v2 hΦ e1
 refine wpList_nil ?_
 go_upto_region 2 with (fail)
 refine rgs 2 [some 9, some 10] [IsV (.int .i64 sg), IsV (.bool false)] [] ?_ ?_
 ·refine Rc (mv (Od.lit 6)) ?_
  refine Rc (bn (r := .bool false) (Od.loc 0 9) Od.con (hr := fun w => by have hx9 := HS0.out; go_simp)) ?_
  exact RgAll.nil
 intro v W2 e1 hΦ _
 replace S := S.mono e1
 have v1 : v 1 = .bool false := hΦ 1 (by decide)
 simp only [layL, Act.put, uAx, u0x, u1x, Nat.reduceAdd]
 rw [v1]
 clear v1 hΦ e1
 refine wpList_nil ?_
 go_upto_region 4 with (fail)
 refine rg 7 [some 12, some 13, some 14, some 15, some 16, some 17, some 18] [IsI k1 z1, IsV (.int .i64 sg), IsI 2 sg, IsI (k1 + 2) (z1 * sg), IsI k2 z2, IsI k2 z2.natAbs, IsQ (IsI (max (k1 + 2) k2) q.num) (IsI (max (k1 + 2) k2) ((q.den : Int)))] [] 2 ?_ ?_
 ·refine Rc (ldI S 3 (w.heap.size) 0 (Od.lit 2) ld_Int) ?_
  refine Rc (mv (Od.lit 6)) ?_
  refine Rc (cl1 (en Tryz.func108) (Od.lc (Φ := IsV (.int .i64 sg)) 1 13) (fun x0 w' hE d0 => by { obtain rfl : x0 = .int .i64 sg := d0; exact Of_f _ sg HSB.out.1 HSB.out.2 })) ?_
  refine Rc (cl2 (en Tryz.func129) (Od.lc (Φ := IsI k1 z1) 0 12) (Od.lc (Φ := IsI 2 sg) 2 14) (fun x0 x1 w' hE d0 d1 => Mul_f d0 d1 (by omega) (by omega))) ?_
  refine Rc (ldI S 2 (w.heap.size + 1) 0 (Od.lit 3) ld_Int) ?_
  refine Rc (cl1 (en Tryz.func130) (Od.lc (Φ := IsI k2 z2) 4 16) (fun x0 w' hE d0 => Abs_f d0)) ?_
  refine Rc (cl2 (en Tryz.func128) (Od.lc (Φ := IsI (k1 + 2) (z1 * sg)) 3 15) (Od.lc (Φ := IsI k2 z2.natAbs) 5 17) (fun x0 x1 w' hE d0 d1 => Calls.mono (reduced_f d0 d1 (by omega) (by omega) HP.out) fun _ _ h => h.ratz HQ.out (Nat.le_refl _))) ?_
  exact RgAll.nil
 intro v W3 e1 hΦ _
 replace S := S.mono e1
 have h18 := hΦ 6 (by decide)
 simp only [layL, Act.put, uAx, u0x, u1x, Nat.reduceAdd]
 clear hΦ e1
 refine stA 7 (h := fun KK hKK => stQ S 1 0 (w.heap.size + 1 + 1) 0 h18 (IsI.gstb _ _) (IsI.gstb _ _) st_Rat (fun W4 S2 G2 => hKK _ _ ?_) rfl rfl)
 replace S := S2; clear S2 G2 hKK KK h18
 simp only [u0x, u1x] at S
 refine wpAny_ready (rs := [8]) (by kernel_rfl) (by simp) (AllReady.cons rfl (fun K hK => ?_) AllReady.nil); go_simp; refine hK _ _ ?_; clear hK K
 refine wpAny_done (by kernel_rfl) ?_ _
 go_wp2_with fail
 obtain ⟨s90x, a90x, n90x, c90x, b90x, h90x⟩ := S.at 1 (w.heap.size + 1 + 1) 0 (IsI (max (k1 + 2) k2) q.num) rfl; have L90xa : World.cell? W4 ⟨w.heap.size + 1 + 1, 0, none⟩ = some (.bool s90x) := b90x.c0; have L90xb : World.cell? W4 ⟨w.heap.size + 1 + 1, 1, none⟩ = some (.slice a90x n90x c90x) := b90x.c1
 obtain ⟨s90y, a90y, n90y, c90y, b90y, h90y⟩ := S.at 0 (w.heap.size + 1 + 1) 1 (IsI (max (k1 + 2) k2) ((q.den : Int))) rfl; have L90ya : World.cell? W4 ⟨w.heap.size + 1 + 1, 2, none⟩ = some (.bool s90y) := b90y.c0; have L90yb : World.cell? W4 ⟨w.heap.size + 1 + 1, 3, none⟩ = some (.slice a90y n90y c90y) := b90y.c1
 exact bodyPost_ret (v := .tuple #[.agg #[.bool s90x, .slice a90x n90x c90x, .bool s90y, .slice a90y n90y c90y], .int .i64 0]) (by simp [results, Tryz.results107, go_sem, L90xa, L90xb, L90ya, L90yb]) rfl (⟨_, rfl, S.ext, _, _, rfl, ⟨_, _, _, _, _, _, _, _, rfl, h90x, h90y⟩, rfl⟩)
end Go.Proofs.YtkeikfekkdplgaaGreatDoor
namespace Go.Proofs.YtkeikfekkdplgaaGreatDoor
open Go Go.RowKit

theorem RowOf.set {e : TypeId} {ok : Value → Prop} {w : World} {base : Nat} {xs : List Value} {g n cap : Nat} (h : RowOf e ok w base (.slice (some ⟨g, 0, none⟩) n cap) xs) (j : Nat) (u : Value) (hu : ok u) :
  RowOf e ok (w.setCell ⟨g, j, none⟩ u) base (.slice (some ⟨g, 0, none⟩) n cap) (xs.set j u) ∧ Below base w (w.setCell ⟨g, j, none⟩ u) := by
 rcases h with ⟨h, rfl⟩ | ⟨g', cap', cur, h1, h2, h3, h4, h5, h6, h7, h8⟩
 ·cases h
 ·simp only [Value.slice.injEq, Option.some.injEq, Addr.mk.injEq, and_true] at h1
  obtain ⟨rfl, rfl, rfl⟩ := h1
  refine ⟨.inr ⟨g, cap, cur.setIfInBounds j u, by simp, h2, ?_, by simpa using h4, h5, by simpa using h6, ?_, ?_⟩, (Below.refl base w).setCell h2 u⟩
  ·simp only [World.setCell, Array.getElem?_modify, if_true]
   rw [h3]
   simp
  ·rw [Array.toList_setIfInBounds, List.length_set, List.take_set, h7]
  ·intro i v hv
   rw [Array.getElem?_setIfInBounds] at hv
   split at hv
   ·split at hv
    ·simp at hv; rw [← hv]; exact hu
    ·simp at hv
   ·exact h8 i v hv

def isU32 (x : Value) : Prop := ∃ n : Nat, x = .int .u32 (n : Int)
theorem RowOf.wd {w : World} {base n cap : Nat} {ao : Option Addr} {xs : List Nat} (h : RowOf 145 isU32 w base (.slice ao n cap) (wcells xs)) (hx : ∀ i, xs.getD i 0 < 4294967296) : Wd w ao n cap xs := by
 have h0 := h
 rcases h with ⟨h, hw⟩ | ⟨g, cap', cur, h1, h2, h3, h4, h5, h6, h7, h8⟩
 ·simp only [Value.slice.injEq] at h
  obtain ⟨rfl, rfl, rfl⟩ := h
  have : xs = [] := by simpa [wcells] using hw
  rw [this]; exact wd_nil _ _ _ (by omega)
 ·simp only [Value.slice.injEq] at h1
  obtain ⟨rfl, rfl, rfl⟩ := h1
  refine ⟨(wcells_length xs).symm, h4, h5, hx, .inr ⟨g, 0, rfl, heap_lt h3, fun j hj => ?_⟩⟩
  rw [Nat.zero_add]
  exact h0.cell j _ (wcells_getElem? xs j (by rw [wcells_length] at hj; exact hj))

/-- A row of words of the call's own, made since 'base'. -/
def Rw (w : World) (base : Nat) (v : Value) (xs : List Nat) : Prop := RowOf 145 isU32 w base v (wcells xs) ∧ ∀ i, xs.getD i 0 < 4294967296
theorem Rw.ext {w w' : World} {base : Nat} {v : Value} {xs : List Nat} (h : Rw w base v xs) (e : Ext w w') : Rw w' base v xs := ⟨h.1.ext e, h.2⟩
theorem Rw.shape {w : World} {base : Nat} {v : Value} {xs : List Nat} (h : Rw w base v xs) : ∃ ao cap, v = .slice ao xs.length cap ∧ (xs ≠ [] → ∃ g, ao = some ⟨g, 0, none⟩ ∧ base ≤ g ∧ g < w.heap.size) ∧ xs.length ≤ cap ∧ cap ≤ 9223372036854775807 := by
 obtain ⟨ao, cap, h1, h2, h3, h4⟩ := h.1.shape
 rw [wcells_length] at h1 h3
 exact ⟨ao, cap, h1, fun hx => h2 (fun h => hx (List.map_eq_nil_iff.1 h)), h3, h4⟩
theorem Rw.wd {w : World} {base : Nat} {v : Value} {xs : List Nat} (h : Rw w base v xs) : ∃ ao cap, v = .slice ao xs.length cap ∧ Wd w ao xs.length cap xs := by
 obtain ⟨ao, cap, rfl, _⟩ := h.shape
 exact ⟨ao, cap, rfl, h.1.wd h.2⟩
theorem Rw.start (w : World) (base : Nat) (h : base ≤ w.heap.size) : Rw (w.alloc (.cells #[] 145)) base (.slice (some ⟨w.heap.size, 0, none⟩) 0 0) [] :=
 ⟨.inr ⟨w.heap.size, 0, #[], rfl, h, heap_alloc_new _ _, by simp [wcells], by omega, rfl, by simp [wcells], by simp⟩, fun i => by simp⟩
theorem Rw.own {w : World} {g base : Nat} {ys : List Nat} (h : Own w g ys) (hb : base ≤ g) (hx : ∀ i, ys.getD i 0 < 4294967296) (hl : ys.length ≤ 9223372036854775807) : Rw w base (.slice (some ⟨g, 0, none⟩) ys.length ys.length) ys :=
 ⟨.inr ⟨g, ys.length, (wcells ys).toArray, by rw [wcells_length], hb, h, by rw [wcells_length]; omega, hl, by simp [wcells_length], by rw [List.take_of_length_le (by rw [wcells_length]; exact Nat.le_refl _)], fun j u hu => by
  have := List.mem_of_getElem? (by simpa using hu)
  simp only [wcells, List.mem_map] at this
  obtain ⟨y, _, rfl⟩ := this
  exact ⟨y, rfl⟩⟩, hx⟩
theorem wcells_snoc (xs : List Nat) (y : Nat) : wcells xs ++ [.int .u32 (y : Int)] = wcells (xs ++ [y]) := by simp [wcells]

/-- Words with a value: at most k of them. -/
def IsWk (k m : Nat) : Value → World → Prop := fun x w => ∃ a n c xs, x = .slice a n c ∧ Wd w a n c xs ∧ n ≤ k ∧ natVal xs = m
theorem IsWk.gstb (k m : Nat) : GStb (IsWk k m) := fun _ _ _ e ⟨a, n, c, xs, h1, h2, h3⟩ => ⟨a, n, c, xs, h1, h2.gr e, h3⟩
theorem IsWk.stb (k m : Nat) : Stb (IsWk k m) := (IsWk.gstb k m).stb
theorem Rw.isWk {w : World} {base k m : Nat} {v : Value} {xs : List Nat} (h : Rw w base v xs) (hk : xs.length ≤ k) (hm : natVal xs = m) : IsWk k m v w := by
 obtain ⟨ao, cap, rfl, hw⟩ := h.wd
 exact ⟨ao, _, cap, xs, rfl, hw, hk, hm⟩
/-- append([]uint32{}, x...): a row of the call's own. -/
theorem app_row (w : World) (base g : Nat) (ao : Option Addr) (n cap : Nat) (xs : List Nat) (h : Wd w ao n cap xs) (hn : n ≤ 1099511627776) (hr : Rw w base (.slice (some ⟨g, 0, none⟩) 0 0) []) (hbase : base ≤ w.heap.size) (ty : TypeId) :
  ∃ v w', (Builtin.append_ #[26, 26] ty #[.slice (some ⟨g, 0, none⟩) 0 0, .slice ao n cap]).run Tryz.prog w = .ok v w' ∧ Ext w w' ∧ Rw w' base v xs := by
 obtain ⟨i, hi, hz0, hz1, hz2⟩ := info_parts Tryz.infoU32
 have hu : Tryz.prog.underlying 26 = some (.slice 145) := by kernel_rfl
 have hlen := h.len
 rcases Nat.eq_zero_or_pos n with h0 | h0
 ·subst h0
  obtain rfl : xs = [] := List.eq_nil_of_length_eq_zero hlen
  have hsrc : Src Tryz.prog i.size 26 (.slice ao 0 cap) 0 [] w := by
   cases ao with
   | none => exact Src.ofNil w hu cap
   | some a => exact Src.ofSlice w hu a 0 cap [] (by simp) (by simp) (fun _ h => by cases h)
  have := run_append_room_src w 26 26 ty 145 i hu hi g 0 0 0 (.slice ao 0 cap) 0 [] hsrc (by omega) (fun j hj => by simp at hj) (fun j hj => by simp at hj)
  exact ⟨_, _, this, Ext.refl w, hr⟩
 ·rcases h.at_ with h1 | ⟨b, off, rfl, hb, hc⟩
  ·omega
  ·have hnews : ∀ j u, (wcells xs)[j]? = some u → w.cell? ((⟨b, off, none⟩ : Addr).add j) = some u := fun j u hj => by
    have hjn : j < n := by
     rcases Nat.lt_or_ge j n with h | h
     ·exact h
     ·rw [List.getElem?_eq_none (by rw [wcells_length]; omega)] at hj; cases hj
    rw [wcells_getElem? _ _ (by omega)] at hj
    rw [Addr.add_lit, hc j hjn]; exact hj
   have hsrc : Src Tryz.prog i.size 26 (.slice (some ⟨b, off, none⟩) n cap) n (wcells xs) w :=
    Src.ofSlice w hu _ n cap (wcells xs) (by rw [wcells_length, hlen, hz1, Nat.mul_one]) hnews (fun v hv => by
     simp only [wcells, List.mem_map] at hv
     obtain ⟨y, _, rfl⟩ := hv
     rfl)
   have hge := grownCap_ge w n 0 145
   have hle := grownCap_le_maxLen w n 0 145 (by unfold maxLen; omega)
   have hrun := run_append_grow_src w 26 26 ty 145 i (.int .u32 0) hu hi hz0 (some ⟨g, 0, none⟩) 0 0 [] (run_firstCells_some w.drew i.size 0 ⟨g, 0, none⟩ 0 0 [] (by simp) (by simp)) (.slice (some ⟨b, off, none⟩) n cap) n (wcells xs) hsrc
    (by omega) (by omega) (by rw [Nat.zero_add]; exact growslice_fits (by omega) (by rw [hz2]; omega))
   rw [Nat.zero_add] at hrun
   refine ⟨_, _, hrun, (Ext.refl w).drew.alloc _, ⟨.inr ⟨w.heap.size, _, _, by rw [wcells_length, hlen], hbase, heap_alloc_new w.drew _, ?_, ?_, ?_, ?_, ?_⟩, h.lt⟩⟩
   ·rw [wcells_length, hlen]; exact hge
   ·unfold maxLen at hle; omega
   ·simp only [List.nil_append, Array.size_append, List.size_toArray, wcells_length, hlen, size_zeroCells]
    first | (simp [Value.cells]; done) | (simp [Value.cells]; omega)
   ·rw [Array.toList_append]; exact List.take_left
   ·intro j y hj
    have hmem := List.mem_of_getElem? (by rw [Array.getElem?_toList]; exact hj)
    rw [Array.toList_append] at hmem
    rcases List.mem_append.1 hmem with h | h
    ·have h9 : y ∈ wcells xs := by simpa using h
     simp only [wcells, List.mem_map] at h9
     obtain ⟨z, _, rfl⟩ := h9
     exact ⟨z, rfl⟩
    ·have hz : (Value.int .u32 0).cells = #[.int .u32 0] := rfl
     rw [hz, toList_zeroCells_one] at h
     rw [(List.mem_replicate.1 h).2]; exact ⟨0, rfl⟩
theorem wpl_app {w : World} {ops : Array Oper} {rest : List Oper} {o : Oper} {a : Act} {Q : Exit → Act → World → Prop} (hgd : o.guard = none) (s x : Operand)
  (ho : o.op = Op.call { callee := Callee.builtin Builtin.append, args := #[s, x], argTypes := #[26, 26] })
  (base g : Nat) (ao : Option Addr) (n cap : Nat) (xs : List Nat) (hs : a.eval s = .slice (some ⟨g, 0, none⟩) 0 0) (hx : a.eval x = .slice ao n cap) (h : Wd w ao n cap xs) (hn : n ≤ 1099511627776) (hr : Rw w base (.slice (some ⟨g, 0, none⟩) 0 0) []) (hbase : base ≤ w.heap.size)
  (hK : ∀ v w', Ext w w' → Rw w' base v xs → wpList Tryz.prog ops Q rest (a.put o.dst v) w') : wpList Tryz.prog ops Q (o :: rest) a w := by
 obtain ⟨v, w', hrun, e, hv⟩ := app_row w base g ao n cap xs h hn hr hbase o.type
 refine wpList_plain hgd fun K hK' => ?_
 unfold Oper.wp
 simp [execOp, ho, resolve, invoke, builtin, hs, hx, hrun, Result.andThen]
 exact hK' _ _ (hK v w' e hv)

/-- Only block g has changed among those that were there; the heap may have grown. -/
def Upd (g : Nat) (w w' : World) : Prop := Below g w w' ∧ ∀ b, b ≠ g → b < w.heap.size → w'.heap[b]? = w.heap[b]?
theorem Upd.refl (g : Nat) (w : World) : Upd g w w := ⟨Below.refl _ _, fun _ _ _ => rfl⟩
theorem Upd.trans {g : Nat} {a b c : World} (h : Upd g a b) (k : Upd g b c) : Upd g a c :=
 ⟨Below.trans h.1 k.1, fun x hx hl => (k.2 x hx (Nat.lt_of_lt_of_le hl (Below.size h.1))).trans (h.2 x hx hl)⟩
theorem Upd.of {g : Nat} {w w' : World} (e : Ext w w') (hg : g ≤ w.heap.size) : Upd g w w' := ⟨Below.mono e hg, fun _ _ hl => Below.block e _ hl⟩
theorem Upd.set (g j : Nat) (w : World) (v : Value) : Upd g w (w.setCell ⟨g, j, none⟩ v) :=
 ⟨(Below.refl g w).setCell (Nat.le_refl _) v, fun _ hb _ => Below.heap_setCell _ _ _ _ hb⟩
theorem Upd.ext {g : Nat} {w0 w w' : World} (u : Upd g w w') (e : Ext w0 w) (hg : w0.heap.size ≤ g) : Ext w0 w' := Below.ext e u.1 hg
theorem Upd.heap {g b : Nat} {w w' : World} {o : Obj} (u : Upd g w w') (hb : b ≠ g) (h : w.heap[b]? = some o) : w'.heap[b]? = some o := by
 rw [u.2 b hb (heap_lt h)]; exact h
theorem Wd.upd {g : Nat} {w w' : World} {ao : Option Addr} {n cap : Nat} {xs : List Nat} (h : Wd w ao n cap xs) (u : Upd g w w') (hb : ∀ b off, ao = some ⟨b, off, none⟩ → b ≠ g) : Wd w' ao n cap xs := by
 refine ⟨h.len, h.capo, h.big, h.lt, h.at_.imp id fun ⟨b, off, h1, h2, h3⟩ => ⟨b, off, h1, Nat.lt_of_lt_of_le h2 (Below.size u.1), fun j hj => ?_⟩⟩
 have h4 := h3 j hj
 have h5 := u.2 b (hb b off h1) h2
 simp only [World.cell?] at h4 ⊢
 rw [h5]; exact h4
theorem Rw.upd {g base : Nat} {w w' : World} {v : Value} {xs : List Nat} (h : Rw w base v xs) (u : Upd g w w') (hb : ∀ b n c, v = .slice (some ⟨b, 0, none⟩) n c → b ≠ g) : Rw w' base v xs := by
 refine ⟨?_, h.2⟩
 rcases h.1 with h1 | ⟨b, cap, cur, rfl, h2, h3, h4⟩
 ·exact .inl h1
 ·exact .inr ⟨b, cap, cur, rfl, h2, u.heap (hb b _ _ rfl) h3, h4⟩
/-- A write of one word. -/
theorem Rw.put {w : World} {base g n cap : Nat} {xs : List Nat} (h : Rw w base (.slice (some ⟨g, 0, none⟩) n cap) xs) (j y : Nat) (hj : j < xs.length) (hy : y < 4294967296) : Rw (w.setCell ⟨g, j, none⟩ (.int .u32 (y : Int))) base (.slice (some ⟨g, 0, none⟩) n cap) (xs.set j y) := by
 refine ⟨?_, fun i => ?_⟩
 ·have := (h.1.set j (.int .u32 (y : Int)) ⟨y, rfl⟩).1
  rwa [show (wcells xs).set j (Value.int .u32 (y : Int)) = wcells (xs.set j y) by simp [wcells, List.map_set]] at this
 ·rw [getD_set _ _ _ _ hj]; split
  ·exact hy
  ·exact h.2 i
theorem Rw.cell {w : World} {base g n cap : Nat} {xs : List Nat} (h : Rw w base (.slice (some ⟨g, 0, none⟩) n cap) xs) (j : Nat) (hj : j < xs.length) : w.cell? ⟨g, j, none⟩ = some (.int .u32 ((xs.getD j 0 : Nat) : Int)) := h.1.cell j _ (wcells_getElem? xs j hj)
theorem Rw.free {w : World} {base g n cap : Nat} {xs : List Nat} (h : Rw w base (.slice (some ⟨g, 0, none⟩) n cap) xs) (j : Nat) : w.frozen? ⟨g, j, none⟩ = false := h.1.free j
end Go.Proofs.YtkeikfekkdplgaaGreatDoor
