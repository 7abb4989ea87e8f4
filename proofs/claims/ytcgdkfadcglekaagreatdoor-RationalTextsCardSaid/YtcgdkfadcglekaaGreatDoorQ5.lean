/-
  Between of both packages: the simplest fraction of an interval. (Printed by wip/gen/rat5.py.)
-/
import Derived.Test.YtcgdkfadcglekaaGreatDoorQ3
import Derived.Test.YtcgdkfadcglekaaGreatDoorRat
namespace Go.Proofs.YtcgdkfadcglekaaGreatDoor
open Go Go.RowKit

/-- A fraction of two counts, at most K words each. -/
abbrev IsP (K n d : Nat) : Value → World → Prop := IsQ (IsI K ((n : Nat) : Int)) (IsI K ((d : Nat) : Int))
theorem IsQ.up {k l K : Nat} {a b : Int} {x : Value} {w : World} (h : IsQ (IsI k a) (IsI l b) x w) (hk : k ≤ K) (hl : l ≤ K) : IsQ (IsI K a) (IsI K b) x w :=
  let ⟨s, a, n, c, s', a', n', c', h1, h2, h3⟩ := h; ⟨s, a, n, c, s', a', n', c', h1, h2.mono hk, h3.mono hl⟩
theorem IsQ.tight {k l K : Nat} {a b : Int} {x : Value} {w : World} (h : IsQ (IsI k a) (IsI l b) x w) (hk : a.natAbs < 4294967296 ^ K) (hl : b.natAbs < 4294967296 ^ K) : IsQ (IsI K a) (IsI K b) x w :=
  let ⟨s, a, n, c, s', a', n', c', h1, h2, h3⟩ := h; ⟨s, a, n, c, s', a', n', c', h1, h2.tight hk, h3.tight hl⟩
theorem IsQ.sizes {k l : Nat} {a b : Int} {x : Value} {w : World} (h : IsQ (IsI k a) (IsI l b) x w) : a.natAbs < 4294967296 ^ k ∧ b.natAbs < 4294967296 ^ l :=
  let ⟨_, _, _, _, _, _, _, _, _, h2, h3⟩ := h; ⟨h2.size, h3.size⟩
theorem IsQ.eqz {k l : Nat} {a b a' b' : Int} {x : Value} {w : World} (h : IsQ (IsI k a) (IsI l b) x w) (ha : a = a') (hb : b = b') : IsQ (IsI k a') (IsI l b') x w := by rw [← ha, ← hb]; exact h
theorem IsP.rat {K n d : Nat} {x : Value} {w : World} (h : IsP K n d x w) (g : Nat.gcd n d = 1) (hd : 0 < d) : IsRat K (frac n d) x w := h.eqz (frac_num g hd).symm (frac_den g hd).symm
theorem IsRat.pair {K n d : Nat} {x : Value} {w : World} (h : IsRat K (frac n d) x w) (g : Nat.gcd n d = 1) (hd : 0 < d) : IsP K n d x w := h.eqz (frac_num g hd) (frac_den g hd)
theorem isQ_int {K f : Nat} {x : Value} {w : World} (h : IsQ (IsI K ((f : Nat) : Int)) (IsI 2 1) x w) (hK : 2 ≤ K) : IsRat K ((((f : Nat) : Int) : Rat)) x w := h.up (Nat.le_refl _) hK
theorem int_frac (f : Nat) : ((((f : Nat) : Int) : Rat)) = frac f 1 := by unfold frac; exact rat_int _

theorem qpFloor {K n d f : Nat} {x : Value} {w : World} (hx : IsP K n d x w) (g : Nat.gcd n d = 1) (hd : 0 < d) (hK : K ≤ 1000) (hf : n / d = f) : Calls Tryz.prog 39 #[x] w (Ret w (IsI K ((f : Nat) : Int))) :=
  Calls.mono (qFloor_f (hx.rat g hd) (by omega)) fun _ _ h => h.eqz (by rw [frac_floor g hd, hf])
theorem qpSub {K n d f r : Nat} {x y : Value} {w : World} (hx : IsP K n d x w) (hy : IsQ (IsI K ((f : Nat) : Int)) (IsI 2 1) y w) (g : Nat.gcd n d = 1) (hd : 0 < d) (h2 : 2 ≤ K) (hK : K ≤ 1000) (hf : f * d ≤ n) (hr : n - f * d = r) :
    Calls Tryz.prog 36 #[x, y] w (Ret w (IsP K r d)) :=
  Calls.mono (qSub_f (hx.rat g hd) (isQ_int hy h2) (by omega) (by omega)) fun _ _ h => h.mono fun _ _ h => by
    rw [frac_sub hd hf, hr] at h
    have g2 := gcd_sub g hf
    rw [hr] at g2
    have hs := hx.sizes
    exact (h.pair g2 hd).tight (by omega) (by omega)
theorem qpUp {K f : Nat} {x y : Value} {w : World} (hx : IsQ (IsI K ((f : Nat) : Int)) (IsI 2 1) x w) (hy : IsQ (IsI 2 1) (IsI 2 1) y w) (h2 : 2 ≤ K) (hK : K ≤ 1000) :
    Calls Tryz.prog 37 #[x, y] w (Ret w (IsP (K + 3) (f + 1) 1)) := by
  have hy : IsRat 2 ((((1 : Nat) : Int) : Rat)) y w := isQ_int hy (by decide)
  refine Calls.mono (qAdd_f (isQ_int hx h2) hy (by omega) (by omega)) fun _ _ h => h.mono fun _ _ h => ?_
  rw [show ((((f : Nat) : Int) : Rat)) + ((((1 : Nat) : Int) : Rat)) = frac (f + 1) 1 by rw [int_frac 1, frac_add (by decide), Nat.mul_one]] at h
  exact (h.pair (Nat.gcd_one_right _) (by decide)).up (by omega) (by omega)
theorem qpAdd {K f p q : Nat} {x y : Value} {w : World} (hx : IsQ (IsI K ((f : Nat) : Int)) (IsI 2 1) x w) (hy : IsP K q p y w) (g : Nat.gcd q p = 1) (hp : 0 < p) (h2 : 2 ≤ K) (hK : K ≤ 1000) (hs : f * p + q < 4294967296 ^ K) :
    Calls Tryz.prog 37 #[x, y] w (Ret w (IsP K (f * p + q) p)) :=
  Calls.mono (qAdd_f (isQ_int hx h2) (hy.rat g hp) (by omega) (by omega)) fun _ _ h => h.mono fun _ _ h => by
    rw [frac_add hp] at h
    have g2 : Nat.gcd (f * p + q) p = 1 := by rw [Nat.gcd_comm, Nat.gcd_mul_right_add_right, Nat.gcd_comm]; exact g
    have hz := hy.sizes
    exact (h.pair g2 hp).tight (by omega) (by omega)
theorem qpCmp {k l n1 d1 n2 d2 : Nat} {c : Int} {x y : Value} {w : World} (hx : IsP k n1 d1 x w) (hy : IsP l n2 d2 y w) (g1 : Nat.gcd n1 d1 = 1) (h1 : 0 < d1) (g2 : Nat.gcd n2 d2 = 1) (h2 : 0 < d2) (hk : k ≤ 1003) (hl : l ≤ 1003) (hc : cmpI ((n1 * d2 : Nat) : Int) ((n2 * d1 : Nat) : Int) = c) :
    Calls Tryz.prog 21 #[x, y] w (Ret w (IsV (.int .i64 c))) :=
  Calls.mono (qCmp_f (hx.rat g1 h1) (hy.rat g2 h2) (by omega) (by omega)) fun _ _ h => h.int (by unfold cmpQ; rw [frac_num g1 h1, frac_num g2 h2, frac_den g1 h1, frac_den g2 h2, ← hc, Int.natCast_mul, Int.natCast_mul])

set_option maxRecDepth 100000 in
set_option maxHeartbeats 4000000 in
theorem qflip_f {k l : Nat} {z u : Int} {x : Value} {w : World} (hx : IsQ (IsI k z) (IsI l u) x w) : Calls Tryz.prog 75 #[x] w (Ret w (IsQ (IsI l u) (IsI k z))) := by
  obtain ⟨s1x, a1x, n1x, c1x, s1y, a1y, n1y, c1y, rfl, h1x, h1y⟩ := hx
  obtain ⟨W, hW, S⟩ : ∃ W, W = (w.alloc (.cells #[.bool s1x, .slice a1x n1x c1x, .bool s1y, .slice a1y n1y c1y] 31)).alloc (.cells #[.bool false, .slice none 0 0, .bool false, .slice none 0 0] 31) ∧ Sto w W [((w.heap.size + 1, 1), IsI 0 0), ((w.heap.size + 1, 0), IsI 0 0), ((w.heap.size, 1), IsI l u), ((w.heap.size, 0), IsI k z)] := ⟨_, rfl, (((Sto.start w).new2 (w.heap.size) (by simp) s1x s1y a1x a1y n1x c1x n1y c1y 31 (IsI k z) (IsI l u) (IsI.gstb _ _) (h1x) (IsI.gstb _ _) (h1y)).new2 (w.heap.size + 1) (by simp) false false none none 0 0 0 0 31 (IsI 0 0) (IsI 0 0) (IsI.gstb _ _) (IsI.nil _ _) (IsI.gstb _ _) (IsI.nil _ _))⟩
  clear h1x h1y
  go_enter Tryz.func75, Tryz.ntmps75
  go_upto_region 1 with (fail)
  rw [← hW]
  clear hW
  refine rgs 5 [some 3, some 4, some 5, some 6, some 7] [IsV (.pointer (some ⟨w.heap.size, 2, none⟩)), IsI l u, IsV (.pointer (some ⟨w.heap.size, 0, none⟩)), IsI k z, IsQ (IsI l u) (IsI k z)] [] ?_ ?_
  · refine Rc (fa (fa_Rat1 (w.heap.size) 0) (Od.lit 1)) ?_
    refine Rc (ldI S 2 (w.heap.size) 1 (Od.lc 0 3) ld_Int) ?_
    refine Rc (fa (fa_Rat0 (w.heap.size) 0) (Od.lit 1)) ?_
    refine Rc (ldI S 3 (w.heap.size) 0 (Od.lc 2 5) ld_Int) ?_
    refine Rc (bq (Od.loc 1 4) (Od.loc 3 6) bd_Rat) ?_
    exact RgAll.nil
  intro v W1 e1 hΦ _
  replace S := S.mono e1
  have h7 := hΦ 4 (by decide)
  simp only [layL, Act.put, List.setIfInBounds_toArray, List.set_cons_zero, List.set_cons_succ, Nat.reduceAdd]
  clear hΦ e1
  try simp only [List.drop_succ_cons, List.drop_zero]
  (with_reducible refine stL ?_ (by rfl)); intro KK hKK; refine stQ S 1 0 (w.heap.size + 1) 0 h7 (IsI.gstb _ _) (IsI.gstb _ _) st_Rat (fun W2 S2 G2 => hKK _ _ ?_) rfl rfl
  replace S := S2; clear S2 G2 hKK KK h7
  simp only [List.set_cons_zero, List.set_cons_succ] at S
  refine wpList_nil ?_
  go_wp2_with fail
  obtain ⟨s90x, a90x, n90x, c90x, b90x, h90x⟩ := S.at 1 (w.heap.size + 1) 0 (IsI l u) rfl; have L90xa : World.cell? W2 ⟨w.heap.size + 1, 0, none⟩ = some (.bool s90x) := b90x.c0; have L90xb : World.cell? W2 ⟨w.heap.size + 1, 1, none⟩ = some (.slice a90x n90x c90x) := b90x.c1
  obtain ⟨s90y, a90y, n90y, c90y, b90y, h90y⟩ := S.at 0 (w.heap.size + 1) 1 (IsI k z) rfl; have L90ya : World.cell? W2 ⟨w.heap.size + 1, 2, none⟩ = some (.bool s90y) := b90y.c0; have L90yb : World.cell? W2 ⟨w.heap.size + 1, 3, none⟩ = some (.slice a90y n90y c90y) := b90y.c1
  exact bodyPost_ret (v := .agg #[.bool s90x, .slice a90x n90x c90x, .bool s90y, .slice a90y n90y c90y]) (by simp [results, Tryz.results75, go_sem, L90xa, L90xb, L90ya, L90yb]) rfl (⟨_, rfl, S.ext, ⟨_, _, _, _, _, _, _, _, rfl, h90x, h90y⟩⟩)

set_option maxRecDepth 100000 in
set_option maxHeartbeats 4000000 in
theorem simplest_A {K n1 d1 n2 d2 f gF gS : Nat} {c1 : Int} {x y : Value} {w : World} (hx : IsP K n1 d1 x w) (hy : IsP K n2 d2 y w) (hK : 2 ≤ K ∧ K ≤ 1000) (ha : Nat.gcd n1 d1 = 1 ∧ 0 < d1) (hf : n1 / d1 = f) (hc : cmpI ((f * d1 : Nat) : Int) ((n1 * 1 : Nat) : Int) = c1) (hc1 : (c1 == 0) = true) : Calls Tryz.prog 76 #[x, y, .pointer (some ⟨gF, 0, none⟩), .pointer (some ⟨gS, 0, none⟩)] w (Ret w (IsQ (IsI K ((f : Nat) : Int)) (IsI 2 1))) := by
  have HK := hid hK
  have HA := hid ha
  have HF := hid hf
  have HC := hid hc
  have HC1 := hid hc1
  clear hK ha hf hc hc1
  obtain ⟨s1x, a1x, n1x, c1x, s1y, a1y, n1y, c1y, rfl, h1x, h1y⟩ := hx
  obtain ⟨s2x, a2x, n2x, c2x, s2y, a2y, n2y, c2y, rfl, h2x, h2y⟩ := hy
  obtain ⟨W, hW, S⟩ : ∃ W, W = ((w.alloc (.cells #[.bool s1x, .slice a1x n1x c1x, .bool s1y, .slice a1y n1y c1y] 31)).alloc (.cells #[.bool s2x, .slice a2x n2x c2x, .bool s2y, .slice a2y n2y c2y] 31)).alloc (.cells #[.bool false, .slice none 0 0, .bool false, .slice none 0 0] 31) ∧ Sto w W [((w.heap.size + 1 + 1, 1), IsI 0 0), ((w.heap.size + 1 + 1, 0), IsI 0 0), ((w.heap.size + 1, 1), IsI K (((d2 : Nat) : Int))), ((w.heap.size + 1, 0), IsI K (((n2 : Nat) : Int))), ((w.heap.size, 1), IsI K (((d1 : Nat) : Int))), ((w.heap.size, 0), IsI K (((n1 : Nat) : Int)))] := ⟨_, rfl, ((((Sto.start w).new2 (w.heap.size) (by simp) s1x s1y a1x a1y n1x c1x n1y c1y 31 (IsI K (((n1 : Nat) : Int))) (IsI K (((d1 : Nat) : Int))) (IsI.gstb _ _) (h1x) (IsI.gstb _ _) (h1y)).new2 (w.heap.size + 1) (by simp) s2x s2y a2x a2y n2x c2x n2y c2y 31 (IsI K (((n2 : Nat) : Int))) (IsI K (((d2 : Nat) : Int))) (IsI.gstb _ _) (h2x.ext ((Ext.refl _).alloc _)) (IsI.gstb _ _) (h2y.ext ((Ext.refl _).alloc _))).new2 (w.heap.size + 1 + 1) (by simp) false false none none 0 0 0 0 31 (IsI 0 0) (IsI 0 0) (IsI.gstb _ _) (IsI.nil _ _) (IsI.gstb _ _) (IsI.nil _ _))⟩
  clear h1x h1y h2x h2y
  go_enter Tryz.func76, Tryz.ntmps76
  go_upto_region 1 with (fail)
  rw [← hW]
  clear hW
  have hl := hid S.lt; have hw := S.ext.size
  refine rgs 4 [some 9, some 10, some 11, some 7] [IsQ (IsI K (((n1 : Nat) : Int))) (IsI K (((d1 : Nat) : Int))), IsI K (((f : Nat) : Int)), IsQ (IsI K (((f : Nat) : Int))) (IsI 2 1), IsBo W 2] [3] ?_ ?_
  · refine Rc (ldQ S 5 4 (w.heap.size) 0 (Od.lit 4) ld_Rat rfl rfl) ?_
    refine Rc (cl1 (en Tryz.func39) (Od.lc (Φ := IsQ (IsI K (((n1 : Nat) : Int))) (IsI K (((d1 : Nat) : Int)))) 0 9) (fun x0 w' hE d0 => qpFloor d0 HA.out.1 HA.out.2 HK.out.2 HF.out)) ?_
    refine Rc (cl1 (en Tryz.func77) (Od.lc (Φ := IsI K (((f : Nat) : Int))) 1 10) (fun x0 w' hE d0 => qwhole_c d0)) ?_
    refine Rc (al al_Rat) ?_
    exact RgAll.nil
  intro v W1 e1 hΦ _
  replace S := S.mono e1
  have h11 := hΦ 2 (by decide)
  obtain ⟨g7, v3, q2, b1, _⟩ := (hΦ 3 (by decide) : IsBo W 2 (v 3) W1)
  replace S := S.addN 2 (ApartO.old hl.out q2) (Nat.le_trans hw q2) b1
  simp only [newF, List.cons_append, List.nil_append] at S
  simp only [layL, Act.put, List.setIfInBounds_toArray, List.set_cons_zero, List.set_cons_succ, Nat.reduceAdd]
  rw [v3]
  clear b1 hl hw v3 hΦ e1
  try simp only [List.drop_succ_cons, List.drop_zero]
  (with_reducible refine stL ?_ (by rfl)); intro KK hKK; refine stQ S 1 0 (g7) 0 h11 (IsI.gstb _ _) (IsI.gstb _ _) st_Rat (fun W2 S2 G2 => hKK _ _ ?_) rfl rfl
  replace S := S2; clear S2 G2 hKK KK h11
  simp only [List.set_cons_zero, List.set_cons_succ] at S
  refine wpList_nil ?_
  go_upto_region 2 with (fail)
  refine rgs 4 [some 12, some 13, some 14, some 15] [IsQ (IsI K (((f : Nat) : Int))) (IsI 2 1), IsQ (IsI K (((n1 : Nat) : Int))) (IsI K (((d1 : Nat) : Int))), IsV (.int .i64 c1), IsV (.bool true)] [] ?_ ?_
  · refine Rc (ldQ S 1 0 (g7) 0 (Od.lit 7) ld_Rat rfl rfl) ?_
    refine Rc (ldQ S 7 6 (w.heap.size) 0 (Od.lit 4) ld_Rat rfl rfl) ?_
    refine Rc (cl2 (en Tryz.func21) (Od.lc (Φ := IsQ (IsI K (((f : Nat) : Int))) (IsI 2 1)) 0 12) (Od.lc (Φ := IsQ (IsI K (((n1 : Nat) : Int))) (IsI K (((d1 : Nat) : Int)))) 1 13) (fun x0 x1 w' hE d0 d1 => qpCmp (l := K) (d0.up (Nat.le_refl _) HK.out.1) d1 (Nat.gcd_one_right _) (by decide) HA.out.1 HA.out.2 (by have := HK.out; omega) (by have := HK.out; omega) HC.out)) ?_
    refine Rc (bn (r := .bool true) (Od.loc 2 14) Od.con (hr := fun w => by have hx9 := HC1.out; go_simp)) ?_
    exact RgAll.nil
  intro v W3 e1 hΦ _
  replace S := S.mono e1
  have v3 : v 3 = .bool true := hΦ 3 (by decide)
  simp only [layL, Act.put, List.setIfInBounds_toArray, List.set_cons_zero, List.set_cons_succ, Nat.reduceAdd]
  rw [v3]
  clear v3 hΦ e1
  refine wpList_nil ?_
  go_upto_region 3 with (fail)
  refine rgs 1 [some 16] [IsQ (IsI K (((f : Nat) : Int))) (IsI 2 1)] [] ?_ ?_
  · refine Rc (ldQ S 1 0 (g7) 0 (Od.lit 7) ld_Rat rfl rfl) ?_
    exact RgAll.nil
  intro v W4 e1 hΦ _
  replace S := S.mono e1
  have h16 := hΦ 0 (by decide)
  simp only [layL, Act.put, List.setIfInBounds_toArray, List.set_cons_zero, List.set_cons_succ]
  clear hΦ e1
  try simp only [List.drop_succ_cons, List.drop_zero]
  (with_reducible refine stL ?_ (by rfl)); intro KK hKK; refine stQ S 3 2 (w.heap.size + 1 + 1) 0 h16 (IsI.gstb _ _) (IsI.gstb _ _) st_Rat (fun W5 S2 G2 => hKK _ _ ?_) rfl rfl
  replace S := S2; clear S2 G2 hKK KK h16
  simp only [List.set_cons_zero, List.set_cons_succ] at S
  refine wpList_nil ?_
  go_wp2_with fail
  obtain ⟨s90x, a90x, n90x, c90x, b90x, h90x⟩ := S.at 3 (w.heap.size + 1 + 1) 0 (IsI K (((f : Nat) : Int))) rfl; have L90xa : World.cell? W5 ⟨w.heap.size + 1 + 1, 0, none⟩ = some (.bool s90x) := b90x.c0; have L90xb : World.cell? W5 ⟨w.heap.size + 1 + 1, 1, none⟩ = some (.slice a90x n90x c90x) := b90x.c1
  obtain ⟨s90y, a90y, n90y, c90y, b90y, h90y⟩ := S.at 2 (w.heap.size + 1 + 1) 1 (IsI 2 1) rfl; have L90ya : World.cell? W5 ⟨w.heap.size + 1 + 1, 2, none⟩ = some (.bool s90y) := b90y.c0; have L90yb : World.cell? W5 ⟨w.heap.size + 1 + 1, 3, none⟩ = some (.slice a90y n90y c90y) := b90y.c1
  exact bodyPost_ret (v := .agg #[.bool s90x, .slice a90x n90x c90x, .bool s90y, .slice a90y n90y c90y]) (by simp [results, Tryz.results76, go_sem, L90xa, L90xb, L90ya, L90yb]) rfl (⟨_, rfl, S.ext, ⟨_, _, _, _, _, _, _, _, rfl, h90x, h90y⟩⟩)

set_option maxRecDepth 100000 in
set_option maxHeartbeats 4000000 in
theorem simplest_B {K n1 d1 n2 d2 f gF gS : Nat} {c1 : Int} {x y : Value} {w : World} (hx : IsP K n1 d1 x w) (hy : IsP K n2 d2 y w) (hK : 2 ≤ K ∧ K ≤ 1000) (ha : Nat.gcd n1 d1 = 1 ∧ 0 < d1) (hf : n1 / d1 = f) (hc : cmpI ((f * d1 : Nat) : Int) ((n1 * 1 : Nat) : Int) = c1) (hc1 : (c1 == 0) = false) {c2 : Int} (hb : Nat.gcd n2 d2 = 1 ∧ 0 < d2) (hd : cmpI (((f + 1) * d2 : Nat) : Int) ((n2 * 1 : Nat) : Int) = c2) (hd1 : decide (c2 ≤ 0) = true) : Calls Tryz.prog 76 #[x, y, .pointer (some ⟨gF, 0, none⟩), .pointer (some ⟨gS, 0, none⟩)] w (Ret w (IsP (K + 3) (f + 1) 1)) := by
  have HK := hid hK
  have HA := hid ha
  have HF := hid hf
  have HC := hid hc
  have HC1 := hid hc1
  have HB := hid hb
  have HD := hid hd
  have HD1 := hid hd1
  clear hK ha hf hc hc1 hb hd hd1
  obtain ⟨s1x, a1x, n1x, c1x, s1y, a1y, n1y, c1y, rfl, h1x, h1y⟩ := hx
  obtain ⟨s2x, a2x, n2x, c2x, s2y, a2y, n2y, c2y, rfl, h2x, h2y⟩ := hy
  obtain ⟨W, hW, S⟩ : ∃ W, W = ((w.alloc (.cells #[.bool s1x, .slice a1x n1x c1x, .bool s1y, .slice a1y n1y c1y] 31)).alloc (.cells #[.bool s2x, .slice a2x n2x c2x, .bool s2y, .slice a2y n2y c2y] 31)).alloc (.cells #[.bool false, .slice none 0 0, .bool false, .slice none 0 0] 31) ∧ Sto w W [((w.heap.size + 1 + 1, 1), IsI 0 0), ((w.heap.size + 1 + 1, 0), IsI 0 0), ((w.heap.size + 1, 1), IsI K (((d2 : Nat) : Int))), ((w.heap.size + 1, 0), IsI K (((n2 : Nat) : Int))), ((w.heap.size, 1), IsI K (((d1 : Nat) : Int))), ((w.heap.size, 0), IsI K (((n1 : Nat) : Int)))] := ⟨_, rfl, ((((Sto.start w).new2 (w.heap.size) (by simp) s1x s1y a1x a1y n1x c1x n1y c1y 31 (IsI K (((n1 : Nat) : Int))) (IsI K (((d1 : Nat) : Int))) (IsI.gstb _ _) (h1x) (IsI.gstb _ _) (h1y)).new2 (w.heap.size + 1) (by simp) s2x s2y a2x a2y n2x c2x n2y c2y 31 (IsI K (((n2 : Nat) : Int))) (IsI K (((d2 : Nat) : Int))) (IsI.gstb _ _) (h2x.ext ((Ext.refl _).alloc _)) (IsI.gstb _ _) (h2y.ext ((Ext.refl _).alloc _))).new2 (w.heap.size + 1 + 1) (by simp) false false none none 0 0 0 0 31 (IsI 0 0) (IsI 0 0) (IsI.gstb _ _) (IsI.nil _ _) (IsI.gstb _ _) (IsI.nil _ _))⟩
  clear h1x h1y h2x h2y
  go_enter Tryz.func76, Tryz.ntmps76
  go_upto_region 1 with (fail)
  rw [← hW]
  clear hW
  have hl := hid S.lt; have hw := S.ext.size
  refine rgs 4 [some 9, some 10, some 11, some 7] [IsQ (IsI K (((n1 : Nat) : Int))) (IsI K (((d1 : Nat) : Int))), IsI K (((f : Nat) : Int)), IsQ (IsI K (((f : Nat) : Int))) (IsI 2 1), IsBo W 2] [3] ?_ ?_
  · refine Rc (ldQ S 5 4 (w.heap.size) 0 (Od.lit 4) ld_Rat rfl rfl) ?_
    refine Rc (cl1 (en Tryz.func39) (Od.lc (Φ := IsQ (IsI K (((n1 : Nat) : Int))) (IsI K (((d1 : Nat) : Int)))) 0 9) (fun x0 w' hE d0 => qpFloor d0 HA.out.1 HA.out.2 HK.out.2 HF.out)) ?_
    refine Rc (cl1 (en Tryz.func77) (Od.lc (Φ := IsI K (((f : Nat) : Int))) 1 10) (fun x0 w' hE d0 => qwhole_c d0)) ?_
    refine Rc (al al_Rat) ?_
    exact RgAll.nil
  intro v W1 e1 hΦ _
  replace S := S.mono e1
  have h11 := hΦ 2 (by decide)
  obtain ⟨g7, v3, q2, b1, _⟩ := (hΦ 3 (by decide) : IsBo W 2 (v 3) W1)
  replace S := S.addN 2 (ApartO.old hl.out q2) (Nat.le_trans hw q2) b1
  simp only [newF, List.cons_append, List.nil_append] at S
  simp only [layL, Act.put, List.setIfInBounds_toArray, List.set_cons_zero, List.set_cons_succ, Nat.reduceAdd]
  rw [v3]
  clear b1 hl hw v3 hΦ e1
  try simp only [List.drop_succ_cons, List.drop_zero]
  (with_reducible refine stL ?_ (by rfl)); intro KK hKK; refine stQ S 1 0 (g7) 0 h11 (IsI.gstb _ _) (IsI.gstb _ _) st_Rat (fun W2 S2 G2 => hKK _ _ ?_) rfl rfl
  replace S := S2; clear S2 G2 hKK KK h11
  simp only [List.set_cons_zero, List.set_cons_succ] at S
  refine wpList_nil ?_
  go_upto_region 2 with (fail)
  refine rgs 4 [some 12, some 13, some 14, some 15] [IsQ (IsI K (((f : Nat) : Int))) (IsI 2 1), IsQ (IsI K (((n1 : Nat) : Int))) (IsI K (((d1 : Nat) : Int))), IsV (.int .i64 c1), IsV (.bool false)] [] ?_ ?_
  · refine Rc (ldQ S 1 0 (g7) 0 (Od.lit 7) ld_Rat rfl rfl) ?_
    refine Rc (ldQ S 7 6 (w.heap.size) 0 (Od.lit 4) ld_Rat rfl rfl) ?_
    refine Rc (cl2 (en Tryz.func21) (Od.lc (Φ := IsQ (IsI K (((f : Nat) : Int))) (IsI 2 1)) 0 12) (Od.lc (Φ := IsQ (IsI K (((n1 : Nat) : Int))) (IsI K (((d1 : Nat) : Int)))) 1 13) (fun x0 x1 w' hE d0 d1 => qpCmp (l := K) (d0.up (Nat.le_refl _) HK.out.1) d1 (Nat.gcd_one_right _) (by decide) HA.out.1 HA.out.2 (by have := HK.out; omega) (by have := HK.out; omega) HC.out)) ?_
    refine Rc (bn (r := .bool false) (Od.loc 2 14) Od.con (hr := fun w => by have hx9 := HC1.out; go_simp)) ?_
    exact RgAll.nil
  intro v W3 e1 hΦ _
  replace S := S.mono e1
  have v3 : v 3 = .bool false := hΦ 3 (by decide)
  simp only [layL, Act.put, List.setIfInBounds_toArray, List.set_cons_zero, List.set_cons_succ, Nat.reduceAdd]
  rw [v3]
  clear v3 hΦ e1
  refine wpList_nil ?_
  go_upto_region 4 with (fail)
  have hl := hid S.lt; have hw := S.ext.size
  refine rgn 6 [some 17, some 18, some 19, some 20, some 8, none] [IsQ (IsI K (((f : Nat) : Int))) (IsI 2 1), IsI 2 1, IsQ (IsI 2 (((1 : Nat) : Int))) (IsI 2 1), IsQ (IsI (K + 3) (((f + 1 : Nat) : Int))) (IsI (K + 3) (((1 : Nat) : Int))), IsNw W3 2, TT] [4] [none, none, none, none, none, some (4, [IsI (K + 3) (((f + 1 : Nat) : Int)), IsI (K + 3) (((1 : Nat) : Int))])] [none, none, none, none, none, some 4] 0 ?_ ?_
  · refine RcK (ldQ S 1 0 (g7) 0 (Od.lit 7) ld_Rat rfl rfl) ?_
    refine RcK (cl1 (en Tryz.func78) Od.con (fun x0 w' hE d0 => by { obtain rfl : x0 = .int .i64 1 := d0; exact Of_f _ 1 (by decide) (by decide) })) ?_
    refine RcK (cl1 (en Tryz.func77) (Od.lc (Φ := IsI 2 1) 1 18) (fun x0 w' hE d0 => qwhole_c d0)) ?_
    refine RcK (cl2 (en Tryz.func37) (Od.lc (Φ := IsQ (IsI K (((f : Nat) : Int))) (IsI 2 1)) 0 17) (Od.lc (Φ := IsQ (IsI 2 (((1 : Nat) : Int))) (IsI 2 1)) 2 19) (fun x0 x1 w' hE d0 d1 => qpUp d0 d1 HK.out.1 HK.out.2)) ?_
    refine RcK (alN al_Rat) ?_
    refine RcS 4 (sQ st_Rat (Od.lc (Φ := IsQ (IsI (K + 3) (((f + 1 : Nat) : Int))) (IsI (K + 3) (((1 : Nat) : Int)))) 3 20) (IsI.gstb _ _) (IsI.gstb _ _)) ?_
    exact RgAllN.nil
  intro v W4 e1 hΦ hS _
  replace S := S.mono e1
  obtain ⟨g8, v4, q3, S2⟩ := S.addQ (hΦ 4 (by decide) rfl) (hS 5 (by decide) _ _ rfl) hw (IsI.gstb _ _) (IsI.gstb _ _)
  replace S := S2 (ApartO.old hl.out q3); clear S2
  simp only [layL, Act.put, List.setIfInBounds_toArray, List.set_cons_zero, List.set_cons_succ, Nat.reduceAdd]
  rw [v4]
  clear hl hw v4 hΦ hS e1
  refine wpAny_done (by kernel_rfl) ?_ _
  go_upto_region 5 with (fail)
  refine rgs 4 [some 21, some 22, some 23, some 24] [IsQ (IsI (K + 3) (((f + 1 : Nat) : Int))) (IsI (K + 3) (((1 : Nat) : Int))), IsQ (IsI K (((n2 : Nat) : Int))) (IsI K (((d2 : Nat) : Int))), IsV (.int .i64 c2), IsV (.bool true)] [] ?_ ?_
  · refine Rc (ldQ S 1 0 (g8) 0 (Od.lit 8) ld_Rat rfl rfl) ?_
    refine Rc (ldQ S 7 6 (w.heap.size + 1) 0 (Od.lit 5) ld_Rat rfl rfl) ?_
    refine Rc (cl2 (en Tryz.func21) (Od.lc (Φ := IsQ (IsI (K + 3) (((f + 1 : Nat) : Int))) (IsI (K + 3) (((1 : Nat) : Int)))) 0 21) (Od.lc (Φ := IsQ (IsI K (((n2 : Nat) : Int))) (IsI K (((d2 : Nat) : Int)))) 1 22) (fun x0 x1 w' hE d0 d1 => qpCmp d0 d1 (Nat.gcd_one_right _) (by decide) HB.out.1 HB.out.2 (by have := HK.out; omega) (by have := HK.out; omega) HD.out)) ?_
    refine Rc (bn (r := .bool true) (Od.loc 2 23) Od.con (hr := fun w => by have hx9 := HD1.out; go_simp)) ?_
    exact RgAll.nil
  intro v W5 e1 hΦ _
  replace S := S.mono e1
  have v3 : v 3 = .bool true := hΦ 3 (by decide)
  simp only [layL, Act.put, List.setIfInBounds_toArray, List.set_cons_zero, List.set_cons_succ, Nat.reduceAdd]
  rw [v3]
  clear v3 hΦ e1
  refine wpList_nil ?_
  go_upto_region 6 with (fail)
  refine rgs 1 [some 25] [IsQ (IsI (K + 3) (((f + 1 : Nat) : Int))) (IsI (K + 3) (((1 : Nat) : Int)))] [] ?_ ?_
  · refine Rc (ldQ S 1 0 (g8) 0 (Od.lit 8) ld_Rat rfl rfl) ?_
    exact RgAll.nil
  intro v W6 e1 hΦ _
  replace S := S.mono e1
  have h25 := hΦ 0 (by decide)
  simp only [layL, Act.put, List.setIfInBounds_toArray, List.set_cons_zero, List.set_cons_succ]
  clear hΦ e1
  try simp only [List.drop_succ_cons, List.drop_zero]
  (with_reducible refine stL ?_ (by rfl)); intro KK hKK; refine stQ S 5 4 (w.heap.size + 1 + 1) 0 h25 (IsI.gstb _ _) (IsI.gstb _ _) st_Rat (fun W7 S2 G2 => hKK _ _ ?_) rfl rfl
  replace S := S2; clear S2 G2 hKK KK h25
  simp only [List.set_cons_zero, List.set_cons_succ] at S
  refine wpList_nil ?_
  go_wp2_with fail
  obtain ⟨s90x, a90x, n90x, c90x, b90x, h90x⟩ := S.at 5 (w.heap.size + 1 + 1) 0 (IsI (K + 3) (((f + 1 : Nat) : Int))) rfl; have L90xa : World.cell? W7 ⟨w.heap.size + 1 + 1, 0, none⟩ = some (.bool s90x) := b90x.c0; have L90xb : World.cell? W7 ⟨w.heap.size + 1 + 1, 1, none⟩ = some (.slice a90x n90x c90x) := b90x.c1
  obtain ⟨s90y, a90y, n90y, c90y, b90y, h90y⟩ := S.at 4 (w.heap.size + 1 + 1) 1 (IsI (K + 3) (((1 : Nat) : Int))) rfl; have L90ya : World.cell? W7 ⟨w.heap.size + 1 + 1, 2, none⟩ = some (.bool s90y) := b90y.c0; have L90yb : World.cell? W7 ⟨w.heap.size + 1 + 1, 3, none⟩ = some (.slice a90y n90y c90y) := b90y.c1
  exact bodyPost_ret (v := .agg #[.bool s90x, .slice a90x n90x c90x, .bool s90y, .slice a90y n90y c90y]) (by simp [results, Tryz.results76, go_sem, L90xa, L90xb, L90ya, L90yb]) rfl (⟨_, rfl, S.ext, ⟨_, _, _, _, _, _, _, _, rfl, h90x, h90y⟩⟩)

set_option maxRecDepth 100000 in
set_option maxHeartbeats 4000000 in
theorem simplest_C {K n1 d1 n2 d2 f gF gS : Nat} {c1 : Int} {x y : Value} {w : World} (hx : IsP K n1 d1 x w) (hy : IsP K n2 d2 y w) (hK : 2 ≤ K ∧ K ≤ 1000) (ha : Nat.gcd n1 d1 = 1 ∧ 0 < d1) (hf : n1 / d1 = f) (hc : cmpI ((f * d1 : Nat) : Int) ((n1 * 1 : Nat) : Int) = c1) (hc1 : (c1 == 0) = false) {c2 : Int} (hb : Nat.gcd n2 d2 = 1 ∧ 0 < d2) (hd : cmpI (((f + 1) * d2 : Nat) : Int) ((n2 * 1 : Nat) : Int) = c2) (hd1 : decide (c2 ≤ 0) = false) {r1 r2 p q : Nat} (hr1 : f * d1 ≤ n1 ∧ n1 - f * d1 = r1) (hr2 : f * d2 ≤ n2 ∧ n2 - f * d2 = r2) (hg : Nat.gcd q p = 1 ∧ 0 < p ∧ f * p + q < 4294967296 ^ K)
    (hFb : w.cell? ⟨gF, 0, none⟩ = some (.func (.func 75) #[] #[])) (hSb : w.cell? ⟨gS, 0, none⟩ = some (.func (.func 76) #[] #[.pointer (some ⟨gF, 0, none⟩), .pointer (some ⟨gS, 0, none⟩)]))
    (ih : ∀ (w' : World) (x y : Value), Ext w w' → IsP K d2 r2 x w' → IsP K d1 r1 y w' → Calls Tryz.prog 76 #[x, y, .pointer (some ⟨gF, 0, none⟩), .pointer (some ⟨gS, 0, none⟩)] w' (Ret w' (IsP K p q))) : Calls Tryz.prog 76 #[x, y, .pointer (some ⟨gF, 0, none⟩), .pointer (some ⟨gS, 0, none⟩)] w (Ret w (IsP K (f * p + q) p)) := by
  have HK := hid hK
  have HA := hid ha
  have HF := hid hf
  have HC := hid hc
  have HC1 := hid hc1
  have HB := hid hb
  have HD := hid hd
  have HD1 := hid hd1
  have HR1 := hid hr1
  have HR2 := hid hr2
  have HG := hid hg
  have HFb := hid hFb
  have HSb := hid hSb
  have IH := hid ih
  clear hK ha hf hc hc1 hb hd hd1 hr1 hr2 hg hFb hSb ih
  obtain ⟨s1x, a1x, n1x, c1x, s1y, a1y, n1y, c1y, rfl, h1x, h1y⟩ := hx
  obtain ⟨s2x, a2x, n2x, c2x, s2y, a2y, n2y, c2y, rfl, h2x, h2y⟩ := hy
  obtain ⟨W, hW, S⟩ : ∃ W, W = ((w.alloc (.cells #[.bool s1x, .slice a1x n1x c1x, .bool s1y, .slice a1y n1y c1y] 31)).alloc (.cells #[.bool s2x, .slice a2x n2x c2x, .bool s2y, .slice a2y n2y c2y] 31)).alloc (.cells #[.bool false, .slice none 0 0, .bool false, .slice none 0 0] 31) ∧ Sto w W [((w.heap.size + 1 + 1, 1), IsI 0 0), ((w.heap.size + 1 + 1, 0), IsI 0 0), ((w.heap.size + 1, 1), IsI K (((d2 : Nat) : Int))), ((w.heap.size + 1, 0), IsI K (((n2 : Nat) : Int))), ((w.heap.size, 1), IsI K (((d1 : Nat) : Int))), ((w.heap.size, 0), IsI K (((n1 : Nat) : Int)))] := ⟨_, rfl, ((((Sto.start w).new2 (w.heap.size) (by simp) s1x s1y a1x a1y n1x c1x n1y c1y 31 (IsI K (((n1 : Nat) : Int))) (IsI K (((d1 : Nat) : Int))) (IsI.gstb _ _) (h1x) (IsI.gstb _ _) (h1y)).new2 (w.heap.size + 1) (by simp) s2x s2y a2x a2y n2x c2x n2y c2y 31 (IsI K (((n2 : Nat) : Int))) (IsI K (((d2 : Nat) : Int))) (IsI.gstb _ _) (h2x.ext ((Ext.refl _).alloc _)) (IsI.gstb _ _) (h2y.ext ((Ext.refl _).alloc _))).new2 (w.heap.size + 1 + 1) (by simp) false false none none 0 0 0 0 31 (IsI 0 0) (IsI 0 0) (IsI.gstb _ _) (IsI.nil _ _) (IsI.gstb _ _) (IsI.nil _ _))⟩
  clear h1x h1y h2x h2y
  go_enter Tryz.func76, Tryz.ntmps76
  go_upto_region 1 with (fail)
  rw [← hW]
  clear hW
  have hl := hid S.lt; have hw := S.ext.size
  refine rgs 4 [some 9, some 10, some 11, some 7] [IsQ (IsI K (((n1 : Nat) : Int))) (IsI K (((d1 : Nat) : Int))), IsI K (((f : Nat) : Int)), IsQ (IsI K (((f : Nat) : Int))) (IsI 2 1), IsBo W 2] [3] ?_ ?_
  · refine Rc (ldQ S 5 4 (w.heap.size) 0 (Od.lit 4) ld_Rat rfl rfl) ?_
    refine Rc (cl1 (en Tryz.func39) (Od.lc (Φ := IsQ (IsI K (((n1 : Nat) : Int))) (IsI K (((d1 : Nat) : Int)))) 0 9) (fun x0 w' hE d0 => qpFloor d0 HA.out.1 HA.out.2 HK.out.2 HF.out)) ?_
    refine Rc (cl1 (en Tryz.func77) (Od.lc (Φ := IsI K (((f : Nat) : Int))) 1 10) (fun x0 w' hE d0 => qwhole_c d0)) ?_
    refine Rc (al al_Rat) ?_
    exact RgAll.nil
  intro v W1 e1 hΦ _
  replace S := S.mono e1
  have h11 := hΦ 2 (by decide)
  obtain ⟨g7, v3, q2, b1, _⟩ := (hΦ 3 (by decide) : IsBo W 2 (v 3) W1)
  replace S := S.addN 2 (ApartO.old hl.out q2) (Nat.le_trans hw q2) b1
  simp only [newF, List.cons_append, List.nil_append] at S
  simp only [layL, Act.put, List.setIfInBounds_toArray, List.set_cons_zero, List.set_cons_succ, Nat.reduceAdd]
  rw [v3]
  clear b1 hl hw v3 hΦ e1
  try simp only [List.drop_succ_cons, List.drop_zero]
  (with_reducible refine stL ?_ (by rfl)); intro KK hKK; refine stQ S 1 0 (g7) 0 h11 (IsI.gstb _ _) (IsI.gstb _ _) st_Rat (fun W2 S2 G2 => hKK _ _ ?_) rfl rfl
  replace S := S2; clear S2 G2 hKK KK h11
  simp only [List.set_cons_zero, List.set_cons_succ] at S
  refine wpList_nil ?_
  go_upto_region 2 with (fail)
  refine rgs 4 [some 12, some 13, some 14, some 15] [IsQ (IsI K (((f : Nat) : Int))) (IsI 2 1), IsQ (IsI K (((n1 : Nat) : Int))) (IsI K (((d1 : Nat) : Int))), IsV (.int .i64 c1), IsV (.bool false)] [] ?_ ?_
  · refine Rc (ldQ S 1 0 (g7) 0 (Od.lit 7) ld_Rat rfl rfl) ?_
    refine Rc (ldQ S 7 6 (w.heap.size) 0 (Od.lit 4) ld_Rat rfl rfl) ?_
    refine Rc (cl2 (en Tryz.func21) (Od.lc (Φ := IsQ (IsI K (((f : Nat) : Int))) (IsI 2 1)) 0 12) (Od.lc (Φ := IsQ (IsI K (((n1 : Nat) : Int))) (IsI K (((d1 : Nat) : Int)))) 1 13) (fun x0 x1 w' hE d0 d1 => qpCmp (l := K) (d0.up (Nat.le_refl _) HK.out.1) d1 (Nat.gcd_one_right _) (by decide) HA.out.1 HA.out.2 (by have := HK.out; omega) (by have := HK.out; omega) HC.out)) ?_
    refine Rc (bn (r := .bool false) (Od.loc 2 14) Od.con (hr := fun w => by have hx9 := HC1.out; go_simp)) ?_
    exact RgAll.nil
  intro v W3 e1 hΦ _
  replace S := S.mono e1
  have v3 : v 3 = .bool false := hΦ 3 (by decide)
  simp only [layL, Act.put, List.setIfInBounds_toArray, List.set_cons_zero, List.set_cons_succ, Nat.reduceAdd]
  rw [v3]
  clear v3 hΦ e1
  refine wpList_nil ?_
  go_upto_region 4 with (fail)
  have hl := hid S.lt; have hw := S.ext.size
  refine rgn 6 [some 17, some 18, some 19, some 20, some 8, none] [IsQ (IsI K (((f : Nat) : Int))) (IsI 2 1), IsI 2 1, IsQ (IsI 2 (((1 : Nat) : Int))) (IsI 2 1), IsQ (IsI (K + 3) (((f + 1 : Nat) : Int))) (IsI (K + 3) (((1 : Nat) : Int))), IsNw W3 2, TT] [4] [none, none, none, none, none, some (4, [IsI (K + 3) (((f + 1 : Nat) : Int)), IsI (K + 3) (((1 : Nat) : Int))])] [none, none, none, none, none, some 4] 0 ?_ ?_
  · refine RcK (ldQ S 1 0 (g7) 0 (Od.lit 7) ld_Rat rfl rfl) ?_
    refine RcK (cl1 (en Tryz.func78) Od.con (fun x0 w' hE d0 => by { obtain rfl : x0 = .int .i64 1 := d0; exact Of_f _ 1 (by decide) (by decide) })) ?_
    refine RcK (cl1 (en Tryz.func77) (Od.lc (Φ := IsI 2 1) 1 18) (fun x0 w' hE d0 => qwhole_c d0)) ?_
    refine RcK (cl2 (en Tryz.func37) (Od.lc (Φ := IsQ (IsI K (((f : Nat) : Int))) (IsI 2 1)) 0 17) (Od.lc (Φ := IsQ (IsI 2 (((1 : Nat) : Int))) (IsI 2 1)) 2 19) (fun x0 x1 w' hE d0 d1 => qpUp d0 d1 HK.out.1 HK.out.2)) ?_
    refine RcK (alN al_Rat) ?_
    refine RcS 4 (sQ st_Rat (Od.lc (Φ := IsQ (IsI (K + 3) (((f + 1 : Nat) : Int))) (IsI (K + 3) (((1 : Nat) : Int)))) 3 20) (IsI.gstb _ _) (IsI.gstb _ _)) ?_
    exact RgAllN.nil
  intro v W4 e1 hΦ hS _
  replace S := S.mono e1
  obtain ⟨g8, v4, q3, S2⟩ := S.addQ (hΦ 4 (by decide) rfl) (hS 5 (by decide) _ _ rfl) hw (IsI.gstb _ _) (IsI.gstb _ _)
  replace S := S2 (ApartO.old hl.out q3); clear S2
  simp only [layL, Act.put, List.setIfInBounds_toArray, List.set_cons_zero, List.set_cons_succ, Nat.reduceAdd]
  rw [v4]
  clear hl hw v4 hΦ hS e1
  refine wpAny_done (by kernel_rfl) ?_ _
  go_upto_region 5 with (fail)
  refine rgs 4 [some 21, some 22, some 23, some 24] [IsQ (IsI (K + 3) (((f + 1 : Nat) : Int))) (IsI (K + 3) (((1 : Nat) : Int))), IsQ (IsI K (((n2 : Nat) : Int))) (IsI K (((d2 : Nat) : Int))), IsV (.int .i64 c2), IsV (.bool false)] [] ?_ ?_
  · refine Rc (ldQ S 1 0 (g8) 0 (Od.lit 8) ld_Rat rfl rfl) ?_
    refine Rc (ldQ S 7 6 (w.heap.size + 1) 0 (Od.lit 5) ld_Rat rfl rfl) ?_
    refine Rc (cl2 (en Tryz.func21) (Od.lc (Φ := IsQ (IsI (K + 3) (((f + 1 : Nat) : Int))) (IsI (K + 3) (((1 : Nat) : Int)))) 0 21) (Od.lc (Φ := IsQ (IsI K (((n2 : Nat) : Int))) (IsI K (((d2 : Nat) : Int)))) 1 22) (fun x0 x1 w' hE d0 d1 => qpCmp d0 d1 (Nat.gcd_one_right _) (by decide) HB.out.1 HB.out.2 (by have := HK.out; omega) (by have := HK.out; omega) HD.out)) ?_
    refine Rc (bn (r := .bool false) (Od.loc 2 23) Od.con (hr := fun w => by have hx9 := HD1.out; go_simp)) ?_
    exact RgAll.nil
  intro v W5 e1 hΦ _
  replace S := S.mono e1
  have v3 : v 3 = .bool false := hΦ 3 (by decide)
  simp only [layL, Act.put, List.setIfInBounds_toArray, List.set_cons_zero, List.set_cons_succ, Nat.reduceAdd]
  rw [v3]
  clear v3 hΦ e1
  refine wpList_nil ?_
  go_upto_region 7 with (fail)
  refine rg 16 [some 26, some 27, some 28, some 29, some 30, some 31, some 32, some 33, some 34, some 35, some 36, some 37, some 38, some 39, some 40, some 41] [IsQ (IsI K (((f : Nat) : Int))) (IsI 2 1), IsV (.func (.func 75) #[] #[]), IsV (.func (.func 76) #[] #[.pointer (some ⟨gF, 0, none⟩), .pointer (some ⟨gS, 0, none⟩)]), IsV (.func (.func 75) #[] #[]), IsQ (IsI K (((n2 : Nat) : Int))) (IsI K (((d2 : Nat) : Int))), IsQ (IsI K (((f : Nat) : Int))) (IsI 2 1), IsQ (IsI K (((r2 : Nat) : Int))) (IsI K (((d2 : Nat) : Int))), IsQ (IsI K (((d2 : Nat) : Int))) (IsI K (((r2 : Nat) : Int))), IsV (.func (.func 75) #[] #[]), IsQ (IsI K (((n1 : Nat) : Int))) (IsI K (((d1 : Nat) : Int))), IsQ (IsI K (((f : Nat) : Int))) (IsI 2 1), IsQ (IsI K (((r1 : Nat) : Int))) (IsI K (((d1 : Nat) : Int))), IsQ (IsI K (((d1 : Nat) : Int))) (IsI K (((r1 : Nat) : Int))), IsQ (IsI K (((p : Nat) : Int))) (IsI K (((q : Nat) : Int))), IsQ (IsI K (((q : Nat) : Int))) (IsI K (((p : Nat) : Int))), IsQ (IsI K (((f * p + q : Nat) : Int))) (IsI K (((p : Nat) : Int)))] [] 1 ?_ ?_
  · refine Rc (ldQ S 3 2 (g7) 0 (Od.lit 7) ld_Rat rfl rfl) ?_
    refine RgAll.cons (by { (with_reducible refine RgL.mk (by rfl) ?_); intro v a w' hE hd hf; have ev0 := hf.lit 2 (.pointer (some ⟨gF, 0, none⟩)) (by kernel_rfl) (by kernel_rfl); have L0 := (S.ext.trans hE).cell HFb.out; clear hd hf; intro K hK; go_simp; exact hK.out _ _ (Ext.refl _) rfl (FreshIf.no rfl) }) ?_
    refine RgAll.cons (by { (with_reducible refine RgL.mk (by rfl) ?_); intro v a w' hE hd hf; have ev0 := hf.lit 3 (.pointer (some ⟨gS, 0, none⟩)) (by kernel_rfl) (by kernel_rfl); have L0 := (S.ext.trans hE).cell HSb.out; clear hd hf; intro K hK; go_simp; exact hK.out _ _ (Ext.refl _) rfl (FreshIf.no rfl) }) ?_
    refine RgAll.cons (by { (with_reducible refine RgL.mk (by rfl) ?_); intro v a w' hE hd hf; have ev0 := hf.lit 2 (.pointer (some ⟨gF, 0, none⟩)) (by kernel_rfl) (by kernel_rfl); have L0 := (S.ext.trans hE).cell HFb.out; clear hd hf; intro K hK; go_simp; exact hK.out _ _ (Ext.refl _) rfl (FreshIf.no rfl) }) ?_
    refine Rc (ldQ S 7 6 (w.heap.size + 1) 0 (Od.lit 5) ld_Rat rfl rfl) ?_
    refine Rc (ldQ S 3 2 (g7) 0 (Od.lit 7) ld_Rat rfl rfl) ?_
    refine Rc (cl2 (en Tryz.func36) (Od.lc (Φ := IsQ (IsI K (((n2 : Nat) : Int))) (IsI K (((d2 : Nat) : Int)))) 4 30) (Od.lc (Φ := IsQ (IsI K (((f : Nat) : Int))) (IsI 2 1)) 5 31) (fun x0 x1 w' hE d0 d1 => qpSub d0 d1 HB.out.1 HB.out.2 HK.out.1 HK.out.2 HR2.out.1 HR2.out.2)) ?_
    refine Rc (cv1 (en Tryz.func75) (Od.loc 3 29) (Od.lc (Φ := IsQ (IsI K (((r2 : Nat) : Int))) (IsI K (((d2 : Nat) : Int)))) 6 32) (fun x0 w' hE d0 => qflip_f d0)) ?_
    refine RgAll.cons (by { (with_reducible refine RgL.mk (by rfl) ?_); intro v a w' hE hd hf; have ev0 := hf.lit 2 (.pointer (some ⟨gF, 0, none⟩)) (by kernel_rfl) (by kernel_rfl); have L0 := (S.ext.trans hE).cell HFb.out; clear hd hf; intro K hK; go_simp; exact hK.out _ _ (Ext.refl _) rfl (FreshIf.no rfl) }) ?_
    refine Rc (ldQ S 9 8 (w.heap.size) 0 (Od.lit 4) ld_Rat rfl rfl) ?_
    refine Rc (ldQ S 3 2 (g7) 0 (Od.lit 7) ld_Rat rfl rfl) ?_
    refine Rc (cl2 (en Tryz.func36) (Od.lc (Φ := IsQ (IsI K (((n1 : Nat) : Int))) (IsI K (((d1 : Nat) : Int)))) 9 35) (Od.lc (Φ := IsQ (IsI K (((f : Nat) : Int))) (IsI 2 1)) 10 36) (fun x0 x1 w' hE d0 d1 => qpSub d0 d1 HA.out.1 HA.out.2 HK.out.1 HK.out.2 HR1.out.1 HR1.out.2)) ?_
    refine Rc (cv1 (en Tryz.func75) (Od.loc 8 34) (Od.lc (Φ := IsQ (IsI K (((r1 : Nat) : Int))) (IsI K (((d1 : Nat) : Int)))) 11 37) (fun x0 w' hE d0 => qflip_f d0)) ?_
    refine Rc (cv2 (en Tryz.func76) (Od.loc 2 28) (Od.lc (Φ := IsQ (IsI K (((d2 : Nat) : Int))) (IsI K (((r2 : Nat) : Int)))) 7 33) (Od.lc (Φ := IsQ (IsI K (((d1 : Nat) : Int))) (IsI K (((r1 : Nat) : Int)))) 12 38) (fun x0 x1 w' hE d0 d1 => IH.out _ _ _ (S.ext.trans hE) d0 d1)) ?_
    refine Rc (cv1 (en Tryz.func75) (Od.loc 1 27) (Od.lc (Φ := IsQ (IsI K (((p : Nat) : Int))) (IsI K (((q : Nat) : Int)))) 13 39) (fun x0 w' hE d0 => qflip_f d0)) ?_
    refine Rc (cl2 (en Tryz.func37) (Od.lc (Φ := IsQ (IsI K (((f : Nat) : Int))) (IsI 2 1)) 0 26) (Od.lc (Φ := IsQ (IsI K (((q : Nat) : Int))) (IsI K (((p : Nat) : Int)))) 14 40) (fun x0 x1 w' hE d0 d1 => qpAdd d0 d1 HG.out.1 HG.out.2.1 HK.out.1 HK.out.2 HG.out.2.2)) ?_
    exact RgAll.nil
  intro v W6 e1 hΦ _
  replace S := S.mono e1
  have h41 := hΦ 15 (by decide)
  simp only [layL, Act.put, List.setIfInBounds_toArray, List.set_cons_zero, List.set_cons_succ, Nat.reduceAdd]
  clear hΦ e1
  refine stA 16 (h := fun KK hKK => stQ S 5 4 (w.heap.size + 1 + 1) 0 h41 (IsI.gstb _ _) (IsI.gstb _ _) st_Rat (fun W7 S2 G2 => hKK _ _ ?_) rfl rfl)
  replace S := S2; clear S2 G2 hKK KK h41
  simp only [List.set_cons_zero, List.set_cons_succ] at S
  refine wpAny_done (by kernel_rfl) ?_ _
  go_wp2_with fail
  obtain ⟨s90x, a90x, n90x, c90x, b90x, h90x⟩ := S.at 5 (w.heap.size + 1 + 1) 0 (IsI K (((f * p + q : Nat) : Int))) rfl; have L90xa : World.cell? W7 ⟨w.heap.size + 1 + 1, 0, none⟩ = some (.bool s90x) := b90x.c0; have L90xb : World.cell? W7 ⟨w.heap.size + 1 + 1, 1, none⟩ = some (.slice a90x n90x c90x) := b90x.c1
  obtain ⟨s90y, a90y, n90y, c90y, b90y, h90y⟩ := S.at 4 (w.heap.size + 1 + 1) 1 (IsI K (((p : Nat) : Int))) rfl; have L90ya : World.cell? W7 ⟨w.heap.size + 1 + 1, 2, none⟩ = some (.bool s90y) := b90y.c0; have L90yb : World.cell? W7 ⟨w.heap.size + 1 + 1, 3, none⟩ = some (.slice a90y n90y c90y) := b90y.c1
  exact bodyPost_ret (v := .agg #[.bool s90x, .slice a90x n90x c90x, .bool s90y, .slice a90y n90y c90y]) (by simp [results, Tryz.results76, go_sem, L90xa, L90xb, L90ya, L90yb]) rfl (⟨_, rfl, S.ext, ⟨_, _, _, _, _, _, _, _, rfl, h90x, h90y⟩⟩)
end Go.Proofs.YtcgdkfadcglekaaGreatDoor
