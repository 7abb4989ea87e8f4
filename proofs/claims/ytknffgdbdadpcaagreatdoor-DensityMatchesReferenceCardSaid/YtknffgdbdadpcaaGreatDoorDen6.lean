/-
 Reference of package integer: Low at numbers below 2^32. Reference of package count: size, Conductor. (Printed by wip/gen/den6.py.)
-/
import Derived.Test.YtknffgdbdadpcaaGreatDoorDen5
namespace Go.Proofs.YtknffgdbdadpcaaGreatDoor
open Go Go.RowKit

/-- The words of m. -/
def IsWz (m : Nat) : Value → World → Prop := fun x w => ∃ a n c xs, x = .slice a n c ∧ Wd w a n c xs ∧ (0 < n → xs.getD (n - 1) 0 ≠ 0) ∧ natVal xs = m
theorem IsWz.stb (m : Nat) : Stb (IsWz m) := fun _ _ _ e ⟨a, n, c, xs, h1, h2, h3⟩ => ⟨a, n, c, xs, h1, h2.ext e, h3⟩
theorem wz_len {w : World} {a : Option Addr} {n c m : Nat} {xs : List Nat} (h : Wd w a n c xs) (ht : 0 < n → xs.getD (n - 1) 0 ≠ 0) (hv : natVal xs = m) (hm : m < 4294967296) : n = if m = 0 then 0 else 1 := by
 have hl := h.len
 have h1 : n ≤ 1 := by
  refine Nat.not_lt.1 fun h2 => ?_
  have := natVal_ge xs (by omega) (by rw [hl]; exact ht (by omega))
  rw [hv, hl] at this
  have h3 : 4294967296 ^ 1 ≤ 4294967296 ^ (n - 1) := Nat.pow_le_pow_right (by decide) (by omega)
  omega
 by_cases h0 : m = 0
 ·rw [if_pos h0]
  refine Nat.eq_zero_of_not_pos fun h2 => ?_
  have := natVal_ge xs (by omega) (by rw [hl]; exact ht h2)
  have h3 : 0 < 4294967296 ^ (xs.length - 1) := Nat.pow_pos (by decide)
  omega
 ·rw [if_neg h0]
  refine Nat.le_antisymm h1 (Nat.pos_of_ne_zero fun h2 => ?_)
  have : xs = [] := List.eq_nil_of_length_eq_zero (by omega)
  subst this
  exact h0 hv.symm
theorem wz_word {m i : Nat} {x : Value} {w : World} (hx : IsWz m x w) (hi : i ≤ 1) : Calls Tryz.prog 90 #[x, .int .i64 ((i : Nat) : Int)] w (Ret w (IsV (.int .u64 ((m / 4294967296 ^ i % 4294967296 : Nat) : Int)))) := by
 obtain ⟨a, n, c, xs, rfl, h, _, hv⟩ := hx
 refine Calls.mono (word_c w a n c xs h i (by omega)) ?_
 rintro e w' ⟨rfl, rfl⟩
 refine ⟨_, rfl, Ext.refl _, ?_⟩
 rw [word_of xs h.lt i, hv]; exact rfl
section
variable {ops : Array Oper} {Q : Exit → Act → World → Prop} {ds : List (Option Tmp)} {a0 : Act} {w0 : World} {L : List (Value → World → Prop)} {boxes : List Nat} {i : Nat} {o : Oper}
theorem ldWz {W : World} {B : List Fld} (S : Sto W w0 B) (j g q : Nat) {k m : Nat} {x : Operand} (hx : Od ops ds a0 w0 L i x (IsV (.pointer (some ⟨g, 2 * q + 1, none⟩)))) (h1 : B[j]? = some ((g, q), IsI k ((m : Nat) : Int)) := by rfl) (ho : o.op = .load 27 x := by rfl) (hi : L.getD i (fun _ _ => True) = IsWz m := by kernel_rfl) (hb : boxes.contains i = false := by kernel_rfl) : Ok Tryz.prog ops Q ds a0 w0 L boxes i o :=
 Ok.of hb fun v a w hE hd hf => by
  have h : a.eval x = _ := hx.out v a w hE hd hf
  obtain ⟨s', a', n, c, b, h'⟩ := (S.mono hE).at j g q _ h1
  have hc := b.c1
  have hp := h'.pos' (by omega)
  obtain ⟨m', ⟨xs, hw, _, ht, hv⟩, _, hz⟩ := h'.int
  subst hp
  rw [if_neg (by decide)] at hz
  exact ⟨.slice a' n c, ld_run ho h (by go_simp), by rw [hi]; exact ⟨_, _, _, xs, rfl, hw, ht, by omega⟩⟩
theorem lenz {m nw : Nat} (hm : (if m = 0 then 0 else 1) = nw ∧ m < 4294967296) {x : Operand} (hx : Od ops ds a0 w0 L i x (IsWz m)) (ho : o.op = .call { callee := .builtin .len, args := #[x], argTypes := #[27] } := by rfl) (hi : L.getD i (fun _ _ => True) = IsV (.int .i64 ((nw : Nat) : Int)) := by kernel_rfl) (hb : boxes.contains i = false := by kernel_rfl) : Ok Tryz.prog ops Q ds a0 w0 L boxes i o :=
 Ok.of hb fun v a w hE hd hf => by
  obtain ⟨a1, n, c, xs, h1, h2, h3, h4⟩ := hx.out v a w hE hd hf
  have hn := (wz_len h2 h3 h4 hm.2).trans hm.1
  subst hn
  have hcap := h2.capo
  have hbig := h2.big
  refine ⟨_, ?_, by rw [hi]; exact rfl⟩
  unfold execOp
  rw [ho]
  dsimp only
  unfold resolve
  simp only [List.map_toArray, List.map_cons, List.map_nil, h1]
  go_simp
end
theorem or_zero64 (m : Nat) (h : m < 4294967296) : bits .or .u64 ((m : Nat) : Int) 0 = ((m : Nat) : Int) := by
 have := u64_or_nat m 0 (by omega) (by decide)
 simpa using this

set_option maxRecDepth 100000 in
set_option maxHeartbeats 4000000 in
theorem RLow_f {k1 m : Nat} {x : Value} {w : World} (hx : IsI k1 ((m : Nat) : Int) x w) (hm : m < 4294967296) : Calls Tryz.prog 47 #[x] w (Ret w (IsT2 (IsV (.int .i64 ((m : Nat) : Int))) (IsV (.bool true)))) := by
 have HW0 := hid (show m / 4294967296 ^ 0 % 4294967296 = m by rw [Nat.pow_zero, Nat.div_one]; exact Nat.mod_eq_of_lt hm)
 have HW1 := hid (show m / 4294967296 ^ 1 % 4294967296 = 0 by rw [Nat.pow_one, Nat.div_eq_of_lt hm])
 have HOZ := hid (or_zero64 m hm)
 obtain ⟨nw, hnw⟩ : ∃ x, (if m = 0 then 0 else 1) = x := ⟨_, rfl⟩
 have HNW := hid (And.intro hnw hm)
 have HN1 := hid (show ((nw : Nat) : Int) ≤ 2 by rw [← hnw]; split <;> omega)
 have HMB := hid (show ((m : Nat) : Int) ≤ 9223372036854775808 ∧ m ≤ 9223372036854775808 ∧ (((m : Nat) : Int) == 9223372036854775808) = false ∧ ¬ m = 9223372036854775808 from ⟨by omega, by omega, by rw [beq_eq_false_iff_ne]; omega, by omega⟩)
 have HCV := hid (show IntKind.i64.wrap ((m : Nat) : Int) = ((m : Nat) : Int) by simp only [IntKind.wrap_i64]; omega)
 clear hm hnw
 obtain ⟨s1, a1, n1, c1, rfl, h1⟩ := hx
 have h1 : IsI _ _ _ w := ⟨_, _, _, _, rfl, h1⟩
 obtain ⟨W, hW, S⟩ : ∃ W, W = w.alloc (.cells #[.bool s1, .slice a1 n1 c1] 33) ∧ Sto w W [((w.heap.size, 0), IsI k1 (((m : Nat) : Int)))] := ⟨_, rfl, ((Sto.start w).new1 (w.heap.size) (by simp) s1 a1 n1 c1 33 (IsI k1 (((m : Nat) : Int))) (IsI.gstb _ _) (h1))⟩
 clear h1
 go_enter Tryz.func47, Tryz.ntmps47
 go_upto_region 1 with (fail)
 rw [← hW]
 clear hW
 refine rg 9 [some 5, some 6, some 7, some 8, some 9, some 10, some 11, some 12, some 4] [IsV (.pointer (some ⟨w.heap.size, 1, none⟩)), IsWz m, IsV (.int .u64 ((m : Nat) : Int)), IsV (.pointer (some ⟨w.heap.size, 1, none⟩)), IsWz m, IsV (.int .u64 ((0 : Nat) : Int)), IsV (.int .u64 0), IsV (.int .u64 ((m : Nat) : Int)), IsV (.int .u64 ((m : Nat) : Int))] [] 0 ?_ ?_ (hst := by repeat' (first | exact trivial | exact IsWz.stb _ | exact IsV.stb _ | exact IsI.stb _ _ | exact IsBo.stb _ _ | apply IsJ.stb | apply IsQ.stb | apply And.intro))
 ·refine RgAll.cons (by { (with_reducible refine RgL.mk (by rfl) ?_); intro v a w' hE hd hf; have ev0 := hf.lit 1 (.pointer (some ⟨w.heap.size, 0, none⟩)) (by kernel_rfl) (by kernel_rfl); clear hd hf; intro K hK; go_simp; exact hK.out _ _ (Ext.refl _) rfl (FreshIf.no rfl) }) ?_
  refine Rc (ldWz S 0 (w.heap.size) 0 (Od.lc 0 5)) ?_
  refine Rc (cl2 (en Tryz.func90) (Od.lc (Φ := IsWz m) 1 6) Od.con (fun x0 x1 w' hE d0 d1 => by { obtain rfl : x1 = .int .i64 0 := d1; exact (by have hh := wz_word (i := 0) d0 (by decide); rw [HW0.out] at hh; exact hh) })) ?_
  refine RgAll.cons (by { (with_reducible refine RgL.mk (by rfl) ?_); intro v a w' hE hd hf; have ev0 := hf.lit 1 (.pointer (some ⟨w.heap.size, 0, none⟩)) (by kernel_rfl) (by kernel_rfl); clear hd hf; intro K hK; go_simp; exact hK.out _ _ (Ext.refl _) rfl (FreshIf.no rfl) }) ?_
  refine Rc (ldWz S 0 (w.heap.size) 0 (Od.lc 3 8)) ?_
  refine Rc (cl2 (en Tryz.func90) (Od.lc (Φ := IsWz m) 4 9) Od.con (fun x0 x1 w' hE d0 d1 => by { obtain rfl : x1 = .int .i64 1 := d1; exact (by have hh := wz_word (i := 1) d0 (by decide); rw [HW1.out] at hh; exact hh) })) ?_
  refine Rc (bn (r := .int .u64 0) (Od.loc 5 10) Od.con (hr := fun w => by have hx9 : IntKind.u64.wrap 0 = 0 := (by decide); go_simp)) ?_
  refine Rc (bn (r := .int .u64 ((m : Nat) : Int)) (Od.loc 2 7) (Od.loc 6 11) (hr := fun w => by have hx9 := HOZ.out; go_simp)) ?_
  refine Rc (mv (Od.lc 7 12)) ?_
  exact RgAll.nil
 intro v W1 e1 hΦ _
 replace S := S.mono e1
 have v8 : v 8 = .int .u64 ((m : Nat) : Int) := hΦ 8 (by decide)
 simp only [layL, Act.put, uAx, u0x, u1x, Nat.reduceAdd]
 rw [v8]
 clear v8 hΦ e1
 refine wpAny_done (by kernel_rfl) ?_ _
 go_upto_region 2 with (fail)
 refine rgs 17 [some 13, some 14, some 15, some 16, some 17, some 18, some 19, some 20, some 21, some 22, some 23, some 24, some 25, some 26, some 27, some 28, some 29] [IsV (.pointer (some ⟨w.heap.size, 1, none⟩)), IsWz m, IsV (.int .i64 ((nw : Nat) : Int)), IsV (.bool false), IsV (.bool false), IsV (.int .u64 ((m : Nat) : Int)), IsV (.bool false), IsV (.bool false), IsV (.bool false), IsV (.int .u64 ((m : Nat) : Int)), IsV (.bool false), IsV (.bool false), IsV (undef), IsV (undef), IsV (undef), IsV (.bool false), IsV (.bool false)] [] ?_ ?_ (hst := by repeat' (first | exact trivial | exact IsWz.stb _ | exact IsV.stb _ | exact IsI.stb _ _ | exact IsBo.stb _ _ | apply IsJ.stb | apply IsQ.stb | apply And.intro))
 ·refine RgAll.cons (by { (with_reducible refine RgL.mk (by rfl) ?_); intro v a w' hE hd hf; have ev0 := hf.lit 1 (.pointer (some ⟨w.heap.size, 0, none⟩)) (by kernel_rfl) (by kernel_rfl); clear hd hf; intro K hK; go_simp; exact hK.out _ _ (Ext.refl _) rfl (FreshIf.no rfl) }) ?_
  refine Rc (ldWz S 0 (w.heap.size) 0 (Od.lc 0 13)) ?_
  refine Rc (lenz (HNW.out) (Od.lc 1 14)) ?_
  refine Rc (bn (r := .bool false) (Od.loc 2 15) Od.con (hr := fun w => by have hx9 := HN1.out; go_simp)) ?_
  refine Rc (mv (Od.lc 3 16)) ?_
  refine RcG 4 17 false (mv (Od.lit 4)) ?_
  refine RcG 4 17 false (bn (r := .bool false) (Od.loc 5 18) Od.con (hr := fun w => by have hx9 := HMB.out.1; have hx8 := HMB.out.2.1; go_simp)) ?_
  refine Rc (pk (Od.loc 4 17) (Od.lc 6 19)) ?_
  refine Rc (mv (Od.lc 7 20)) ?_
  refine RcG 8 21 false (mv (Od.lit 4)) ?_
  refine RcG 8 21 false (bn (r := .bool false) (Od.loc 9 22) Od.con (hr := fun w => by have hx9 := HMB.out.2.2.1; have hx8 := HMB.out.2.2.2; go_simp)) ?_
  refine RcG 8 21 false (mv (Od.lc 10 23)) ?_
  refine RcN 11 24 false ?_
  refine RcN 11 24 false ?_
  refine RcN 11 24 false ?_
  refine RcG 8 21 false (pk (Od.loc 11 24) Od.con) ?_
  refine Rc (pk (Od.loc 8 21) (Od.lc 15 28)) ?_
  exact RgAll.nil
 intro v W2 e1 hΦ _
 replace S := S.mono e1
 have v16 : v 16 = .bool false := hΦ 16 (by decide)
 simp only [layL, Act.put, uAx, u0x, u1x, Nat.reduceAdd]
 rw [v16]
 clear v16 hΦ e1
 refine wpList_nil ?_
 go_upto_region 4 with (fail)
 refine rgs 2 [some 30, some 31] [IsV (.pointer (some ⟨w.heap.size, 0, none⟩)), IsV (.bool false)] [] ?_ ?_
 ·refine RgAll.cons (by { (with_reducible refine RgL.mk (by rfl) ?_); intro v a w' hE hd hf; have ev0 := hf.lit 1 (.pointer (some ⟨w.heap.size, 0, none⟩)) (by kernel_rfl) (by kernel_rfl); clear hd hf; intro K hK; go_simp; exact hK.out _ _ (Ext.refl _) rfl (FreshIf.no rfl) }) ?_
  refine RgAll.cons (by { (with_reducible refine RgL.mk (by rfl) ?_); intro v a w' hE hd hf; have d0 : v 0 = .pointer (some ⟨w.heap.size, 0, none⟩) := hd 0 (by kernel_rfl); have ev0 := hf.val 0 30 _ d0 (by kernel_rfl) (by kernel_rfl) (by kernel_rfl); clear d0; obtain ⟨szx, azx, nzx, czx, bzx, hzx⟩ := (S.mono hE).at 0 (w.heap.size) 0 (IsI k1 (((m : Nat) : Int))) rfl; have Lzxa : World.cell? w' ⟨w.heap.size, 0, none⟩ = some (.bool szx) := bzx.c0; have Lzxb : World.cell? w' ⟨w.heap.size, 1, none⟩ = some (.slice azx nzx czx) := bzx.c1; obtain rfl := hzx.pos' (by omega); clear hd hf; intro K hK; go_simp; exact hK.out _ _ (Ext.refl _) rfl (FreshIf.no rfl) }) ?_
  exact RgAll.nil
 intro v W3 e1 hΦ _
 replace S := S.mono e1
 have v1 : v 1 = .bool false := hΦ 1 (by decide)
 simp only [layL, Act.put, uAx, u0x, u1x, Nat.reduceAdd]
 rw [v1]
 clear v1 hΦ e1
 refine wpList_nil ?_
 go_upto_region 6 with (fail)
 refine rgs 4 [some 35, some 36, some 2, some 3] [IsV (.int .u64 ((m : Nat) : Int)), IsV (.int .i64 ((m : Nat) : Int)), IsV (.int .i64 ((m : Nat) : Int)), IsV (.bool true)] [] ?_ ?_
 ·refine Rc (mv (Od.lit 4)) ?_
  refine RgAll.cons (by { (with_reducible refine RgL.mk (by rfl) ?_); intro v a w' hE hd hf; have d0 : v 0 = .int .u64 ((m : Nat) : Int) := hd 0 (by kernel_rfl); have ev0 := hf.val 0 35 _ d0 (by kernel_rfl) (by kernel_rfl) (by kernel_rfl); clear d0; have hx9 := HCV.out; clear hd hf; intro K hK; go_simp; exact hK.out _ _ (Ext.refl _) rfl (FreshIf.no rfl) }) ?_
  refine Rc (mv (Od.lc 1 36)) ?_
  refine Rc (mv Od.con) ?_
  exact RgAll.nil
 intro v W4 e1 hΦ _
 replace S := S.mono e1
 have v2 : v 2 = .int .i64 ((m : Nat) : Int) := hΦ 2 (by decide)
 have v3 : v 3 = .bool true := hΦ 3 (by decide)
 simp only [layL, Act.put, uAx, u0x, u1x, Nat.reduceAdd]
 rw [v2, v3]
 clear v2 v3 hΦ e1
 refine wpList_nil ?_
 go_wp2_with fail
 exact bodyPost_ret (v := .tuple #[.int .i64 ((m : Nat) : Int), .bool true]) (by simp [results, Tryz.results47, go_sem]) rfl (⟨_, rfl, S.ext, ⟨_, _, rfl, rfl, rfl⟩⟩)

set_option maxRecDepth 100000 in
set_option maxHeartbeats 4000000 in
theorem Edge_f (w : World) : Calls Tryz.prog 155 #[] w (Ret w (IsV (.int .i64 4194304))) := by
 obtain ⟨W, hW, S⟩ : ∃ W, W = w ∧ Sto w W [] := ⟨_, rfl, (Sto.start w)⟩
 go_enter Tryz.func155, Tryz.ntmps155
 go_upto_region 1 with (fail)
 rw [← hW]
 clear hW
 go_wp2_with fail
 exact bodyPost_ret (v := .int .i64 4194304) (by simp [results, Tryz.results155, go_sem]) rfl (⟨_, rfl, S.ext, rfl⟩)

set_option maxRecDepth 100000 in
set_option maxHeartbeats 4000000 in
theorem rsize_f {k1 n : Nat} {x : Value} {w : World} (hx : IsI k1 (-((n : Nat) : Int)) x w) (l1 : k1 ≤ 131072) (hn : 1 ≤ n ∧ n ≤ 4194304 ∧ (n % 4 = 0 ∨ n % 4 = 3)) : Calls Tryz.prog 118 #[x] w (Ret w (IsT2 (IsV (.int .i64 ((n : Nat) : Int))) (IsV (.int .i64 0)))) := by
 have HK := hid l1
 obtain ⟨r, hr⟩ : ∃ r : Nat, (-((n : Nat) : Int)) % 4 = ((r : Nat) : Int) := ⟨((-((n : Nat) : Int)) % 4).toNat, by omega⟩
 have HR := hid hr
 have HRL := hid (show r < 4294967296 by omega)
 have HR1 := hid (show ((r : Nat) : Int) ≤ 1 ∧ r ≤ 1 by omega)
 have HSG := hid (show (-((n : Nat) : Int)).sign = -1 from Int.sign_eq_neg_one_of_neg (by omega))
 have HNL := hid (show n < 4294967296 by omega)
 have HNB := hid (show ((n : Nat) : Int) ≤ 4194304 ∧ n ≤ 4194304 by omega)
 clear l1 hn hr
 obtain ⟨s1, a1, n1, c1, rfl, h1⟩ := hx
 have h1 : IsI _ _ _ w := ⟨_, _, _, _, rfl, h1⟩
 obtain ⟨W, hW, S⟩ : ∃ W, W = w.alloc (.cells #[.bool s1, .slice a1 n1 c1] 33) ∧ Sto w W [((w.heap.size, 0), IsI k1 (-((n : Nat) : Int)))] := ⟨_, rfl, ((Sto.start w).new1 (w.heap.size) (by simp) s1 a1 n1 c1 33 (IsI k1 (-((n : Nat) : Int))) (IsI.gstb _ _) (h1))⟩
 clear h1
 go_enter Tryz.func118, Tryz.ntmps118
 go_upto_region 1 with (fail)
 rw [← hW]
 clear hW
 refine rg 9 [some 9, some 10, some 11, some 12, some 8, some 13, some 14, some 4, some 5] [IsI k1 (-((n : Nat) : Int)), IsI 2 4, IsI 2 (((r : Nat) : Int)), IsT2 (IsV (.int .i64 ((r : Nat) : Int))) (IsV (.bool true)), IsT2 (IsV (.int .i64 ((r : Nat) : Int))) (IsV (.bool true)), IsV (.int .i64 ((r : Nat) : Int)), IsV (.bool true), IsV (.int .i64 ((r : Nat) : Int)), IsV (.bool true)] [] 0 ?_ ?_
 ·refine Rc (ldI S 0 (w.heap.size) 0 (Od.lit 1) ld_Int) ?_
  refine Rc (cl1 (en Tryz.func22) Od.con (fun x0 w' hE d0 => by { obtain rfl : x0 = .int .i64 4 := d0; exact ROf_f _ 4 (by decide) (by decide) })) ?_
  refine Rc (cl2 (en Tryz.func94) (Od.lc (Φ := IsI k1 (-((n : Nat) : Int))) 0 9) (Od.lc (Φ := IsI 2 4) 1 10) (fun x0 x1 w' hE d0 d1 => Calls.mono (RMod_f d0 d1 (by have := HK.out; omega) (by decide) (by decide)) fun _ _ h => h.eqz HR.out)) ?_
  refine Rc (cl1 (en Tryz.func47) (Od.lc (Φ := IsI 2 (((r : Nat) : Int))) 2 11) (fun x0 w' hE d0 => RLow_f d0 HRL.out)) ?_
  refine Rc (mv (Od.lc 3 12)) ?_
  refine Rc (ex (Od.loc 4 8) t20) ?_
  refine Rc (ex (Od.loc 4 8) t21) ?_
  refine Rc (mv (Od.lc 5 13)) ?_
  refine Rc (mv (Od.lc 6 14)) ?_
  exact RgAll.nil
 intro v W1 e1 hΦ _
 replace S := S.mono e1
 have v7 : v 7 = .int .i64 ((r : Nat) : Int) := hΦ 7 (by decide)
 have v8 : v 8 = .bool true := hΦ 8 (by decide)
 simp only [layL, Act.put, uAx, u0x, u1x, Nat.reduceAdd]
 rw [v7, v8]
 clear v7 v8 hΦ e1
 refine wpAny_done (by kernel_rfl) ?_ _
 go_upto_region 2 with (fail)
 refine rgs 11 [some 15, some 16, some 17, some 18, some 19, some 20, some 21, some 22, some 23, some 24, some 25] [IsI k1 (-((n : Nat) : Int)), IsV (.int .i64 (-1)), IsV (.bool false), IsV (.bool false), IsV (.bool true), IsV (.bool false), IsV (.bool false), IsV (.bool false), IsV (.int .i64 ((r : Nat) : Int)), IsV (.bool false), IsV (.bool false)] [] ?_ ?_
 ·refine Rc (ldI S 0 (w.heap.size) 0 (Od.lit 1) ld_Int) ?_
  refine Rc (cl1 (en Tryz.func65) (Od.lc (Φ := IsI k1 (-((n : Nat) : Int))) 0 15) (fun x0 w' hE d0 => Calls.mono (RSign_f d0) fun _ _ h => h.int HSG.out)) ?_
  refine Rc (bn (r := .bool false) (Od.loc 1 16) Od.con (hr := fun w => by go_simp)) ?_
  refine Rc (mv (Od.lc 2 17)) ?_
  refine RcG 3 18 false (mv (Od.lit 5)) ?_
  refine RcG 3 18 false (nt (Od.loc 4 19)) ?_
  refine Rc (pk (Od.loc 3 18) (Od.lc 5 20)) ?_
  refine Rc (mv (Od.lc 6 21)) ?_
  refine RcG 7 22 false (mv (Od.lit 4)) ?_
  refine RcG 7 22 false (bn (r := .bool false) (Od.loc 8 23) Od.con (hr := fun w => by have hx9 := HR1.out.1; have hx8 := HR1.out.2; go_simp)) ?_
  refine Rc (pk (Od.loc 7 22) (Od.lc 9 24)) ?_
  exact RgAll.nil
 intro v W2 e1 hΦ _
 replace S := S.mono e1
 have v10 : v 10 = .bool false := hΦ 10 (by decide)
 simp only [layL, Act.put, uAx, u0x, u1x, Nat.reduceAdd]
 rw [v10]
 clear v10 hΦ e1
 refine wpList_nil ?_
 go_upto_region 4 with (fail)
 refine rgs 8 [some 27, some 28, some 29, some 26, some 30, some 31, some 6, some 7] [IsI k1 (-((n : Nat) : Int)), IsI k1 (((n : Nat) : Int)), IsT2 (IsV (.int .i64 ((n : Nat) : Int))) (IsV (.bool true)), IsT2 (IsV (.int .i64 ((n : Nat) : Int))) (IsV (.bool true)), IsV (.int .i64 ((n : Nat) : Int)), IsV (.bool true), IsV (.int .i64 ((n : Nat) : Int)), IsV (.bool true)] [] ?_ ?_
 ·refine Rc (ldI S 0 (w.heap.size) 0 (Od.lit 1) ld_Int) ?_
  refine Rc (cl1 (en Tryz.func154) (Od.lc (Φ := IsI k1 (-((n : Nat) : Int))) 0 27) (fun x0 w' hE d0 => Calls.mono (RNeg_f d0) fun _ _ h => h.eqz (Int.neg_neg _))) ?_
  refine Rc (cl1 (en Tryz.func47) (Od.lc (Φ := IsI k1 (((n : Nat) : Int))) 1 28) (fun x0 w' hE d0 => RLow_f d0 HNL.out)) ?_
  refine Rc (mv (Od.lc 2 29)) ?_
  refine Rc (ex (Od.loc 3 26) t20) ?_
  refine Rc (ex (Od.loc 3 26) t21) ?_
  refine Rc (mv (Od.lc 4 30)) ?_
  refine Rc (mv (Od.lc 5 31)) ?_
  exact RgAll.nil
 intro v W3 e1 hΦ _
 replace S := S.mono e1
 have v6 : v 6 = .int .i64 ((n : Nat) : Int) := hΦ 6 (by decide)
 have v7 : v 7 = .bool true := hΦ 7 (by decide)
 simp only [layL, Act.put, uAx, u0x, u1x, Nat.reduceAdd]
 rw [v6, v7]
 clear v6 v7 hΦ e1
 refine wpList_nil ?_
 go_upto_region 5 with (fail)
 refine rgs 7 [some 32, some 33, some 34, some 35, some 36, some 37, some 38] [IsV (.bool true), IsV (.bool false), IsV (.bool false), IsV (.int .i64 ((n : Nat) : Int)), IsV (.int .i64 4194304), IsV (.bool false), IsV (.bool false)] [] ?_ ?_
 ·refine Rc (mv (Od.lit 7)) ?_
  refine Rc (nt (Od.loc 0 32)) ?_
  refine Rc (mv (Od.lc 1 33)) ?_
  refine RcG 2 34 false (mv (Od.lit 6)) ?_
  refine RcG 2 34 false (cl0 (en Tryz.func155)  (fun w' hE => Edge_f _)) ?_
  refine RcG 2 34 false (bn (r := .bool false) (Od.loc 3 35) (Od.loc 4 36) (hr := fun w => by have hx9 := HNB.out.1; have hx8 := HNB.out.2; go_simp)) ?_
  refine Rc (pk (Od.loc 2 34) (Od.lc 5 37)) ?_
  exact RgAll.nil
 intro v W4 e1 hΦ _
 replace S := S.mono e1
 have v6 : v 6 = .bool false := hΦ 6 (by decide)
 simp only [layL, Act.put, uAx, u0x, u1x, Nat.reduceAdd]
 rw [v6]
 clear v6 hΦ e1
 refine wpList_nil ?_
 go_upto_region 7 with (fail)
 refine rgs 3 [some 39, some 2, some 3] [IsV (.int .i64 ((n : Nat) : Int)), IsV (.int .i64 ((n : Nat) : Int)), IsV (.int .i64 0)] [] ?_ ?_
 ·refine Rc (mv (Od.lit 6)) ?_
  refine Rc (mv (Od.lc 0 39)) ?_
  refine Rc (mv Od.con) ?_
  exact RgAll.nil
 intro v W5 e1 hΦ _
 replace S := S.mono e1
 have v1 : v 1 = .int .i64 ((n : Nat) : Int) := hΦ 1 (by decide)
 have v2 : v 2 = .int .i64 0 := hΦ 2 (by decide)
 simp only [layL, Act.put, uAx, u0x, u1x, Nat.reduceAdd]
 rw [v1, v2]
 clear v1 v2 hΦ e1
 refine wpList_nil ?_
 go_wp2_with fail
 exact bodyPost_ret (v := .tuple #[.int .i64 ((n : Nat) : Int), .int .i64 0]) (by simp [results, Tryz.results118, go_sem]) rfl (⟨_, rfl, S.ext, ⟨_, _, rfl, rfl, rfl⟩⟩)

set_option maxRecDepth 100000 in
set_option maxHeartbeats 4000000 in
theorem rConductor_f {L : Nat} {k1 n : Nat} {x : Value} {w : World} (hx : IsI k1 (-((n : Nat) : Int)) x w) (l1 : k1 ≤ 131072) (hn : 1 ≤ n ∧ n ≤ 4194304 ∧ (n % 4 = 0 ∨ n % 4 = 3)) (hL : L * L ≤ n ∧ n < (L + 1) * (L + 1)) : Calls Tryz.prog 64 #[x] w (Ret w (IsT3 (IsI 2 (-((n / (cdB n L * cdB n L) : Nat) : Int))) (IsI 2 ((cdB n L : Nat) : Int)) (IsV (.int .i64 0)))) := by
 have HK := hid l1
 have HNN := hid hn
 have HL := hid hL
 have hb := Nat.div_le_self n (cdB n L * cdB n L)
 have hc := cdB_pos n L
 have hLb : L ≤ 2048 := by refine Nat.not_lt.1 fun h => ?_; have := Nat.mul_le_mul (show 2049 ≤ L from h) (show 2049 ≤ L from h); omega
 obtain ⟨q, hq⟩ : ∃ q, n / (cdB n L * cdB n L) = q := ⟨_, rfl⟩
 rw [hq] at hb
 have HNG := hid (show IntKind.i64.wrap (-((n / (cdB n L * cdB n L) : Nat) : Int)) = -((n / (cdB n L * cdB n L) : Nat) : Int) ∧ IntKind.i64.wrap (-((n : Int) / (((cdB n L : Nat) : Int) * ((cdB n L : Nat) : Int)))) = -((n : Int) / (((cdB n L : Nat) : Int) * ((cdB n L : Nat) : Int))) from by
  have e : (n : Int) / (((cdB n L : Nat) : Int) * ((cdB n L : Nat) : Int)) = ((q : Nat) : Int) := by rw [← hq]; rfl
  rw [e, hq]; simp only [IntKind.wrap_i64]; omega)
 have HOB := hid (show -9223372036854775808 ≤ -((n / (cdB n L * cdB n L) : Nat) : Int) ∧ -((n / (cdB n L * cdB n L) : Nat) : Int) ≤ 9223372036854775807 ∧ -9223372036854775808 ≤ ((cdB n L : Nat) : Int) ∧ ((cdB n L : Nat) : Int) ≤ 9223372036854775807 from by rw [hq]; omega)
 clear l1 hn hL hb hc hLb hq
 obtain ⟨s1, a1, n1, c1, rfl, h1⟩ := hx
 have h1 : IsI _ _ _ w := ⟨_, _, _, _, rfl, h1⟩
 obtain ⟨W, hW, S⟩ : ∃ W, W = ((w.alloc (.cells #[.bool s1, .slice a1 n1 c1] 33)).alloc (.cells #[.bool false, .slice none 0 0] 33)).alloc (.cells #[.bool false, .slice none 0 0] 33) ∧ Sto w W [((w.heap.size + 1 + 1, 0), IsI 0 0), ((w.heap.size + 1, 0), IsI 0 0), ((w.heap.size, 0), IsI k1 (-((n : Nat) : Int)))] := ⟨_, rfl, ((((Sto.start w).new1 (w.heap.size) (by simp) s1 a1 n1 c1 33 (IsI k1 (-((n : Nat) : Int))) (IsI.gstb _ _) (h1)).new1 (w.heap.size + 1) (by simp) false none 0 0 33 (IsI 0 0) (IsI.gstb _ _) (IsI.nil _ _)).new1 (w.heap.size + 1 + 1) (by simp) false none 0 0 33 (IsI 0 0) (IsI.gstb _ _) (IsI.nil _ _))⟩
 clear h1
 go_enter Tryz.func64, Tryz.ntmps64
 go_upto_region 1 with (fail)
 rw [← hW]
 clear hW
 refine rgs 7 [some 10, some 11, some 9, some 12, some 13, some 5, some 6] [IsI k1 (-((n : Nat) : Int)), IsT2 (IsV (.int .i64 ((n : Nat) : Int))) (IsV (.int .i64 0)), IsT2 (IsV (.int .i64 ((n : Nat) : Int))) (IsV (.int .i64 0)), IsV (.int .i64 ((n : Nat) : Int)), IsV (.int .i64 0), IsV (.int .i64 ((n : Nat) : Int)), IsV (.int .i64 0)] [] ?_ ?_
 ·refine Rc (ldI S 2 (w.heap.size) 0 (Od.lit 1) ld_Int) ?_
  refine Rc (cl1 (en Tryz.func118) (Od.lc (Φ := IsI k1 (-((n : Nat) : Int))) 0 10) (fun x0 w' hE d0 => rsize_f d0 HK.out HNN.out)) ?_
  refine Rc (mv (Od.lc 1 11)) ?_
  refine Rc (ex (Od.loc 2 9) t20) ?_
  refine Rc (ex (Od.loc 2 9) t21) ?_
  refine Rc (mv (Od.lc 3 12)) ?_
  refine Rc (mv (Od.lc 4 13)) ?_
  exact RgAll.nil
 intro v W1 e1 hΦ _
 replace S := S.mono e1
 have v5 : v 5 = .int .i64 ((n : Nat) : Int) := hΦ 5 (by decide)
 have v6 : v 6 = .int .i64 0 := hΦ 6 (by decide)
 simp only [layL, Act.put, uAx, u0x, u1x, Nat.reduceAdd]
 rw [v5, v6]
 clear v5 v6 hΦ e1
 refine wpList_nil ?_
 go_upto_region 2 with (fail)
 refine rgs 2 [some 14, some 15] [IsV (.int .i64 0), IsV (.bool false)] [] ?_ ?_
 ·refine Rc (mv (Od.lit 6)) ?_
  refine Rc (bn (r := .bool false) (Od.loc 0 14) Od.con (hr := fun w => by go_simp)) ?_
  exact RgAll.nil
 intro v W2 e1 hΦ _
 replace S := S.mono e1
 have v1 : v 1 = .bool false := hΦ 1 (by decide)
 simp only [layL, Act.put, uAx, u0x, u1x, Nat.reduceAdd]
 rw [v1]
 clear v1 hΦ e1
 refine wpList_nil ?_
 go_upto_region 4 with (fail)
 refine rgs 7 [some 20, some 21, some 19, some 22, some 23, some 7, some 8] [IsV (.int .i64 ((n : Nat) : Int)), IsT2 (IsV (.int .i64 ((n / (cdB n L * cdB n L) : Nat) : Int))) (IsV (.int .i64 ((cdB n L : Nat) : Int))), IsT2 (IsV (.int .i64 ((n / (cdB n L * cdB n L) : Nat) : Int))) (IsV (.int .i64 ((cdB n L : Nat) : Int))), IsV (.int .i64 ((n / (cdB n L * cdB n L) : Nat) : Int)), IsV (.int .i64 ((cdB n L : Nat) : Int)), IsV (.int .i64 ((n / (cdB n L * cdB n L) : Nat) : Int)), IsV (.int .i64 ((cdB n L : Nat) : Int))] [] ?_ ?_
 ·refine Rc (mv (Od.lit 5)) ?_
  refine Rc (cl1 (en Tryz.func119) (Od.lc (Φ := IsV (.int .i64 ((n : Nat) : Int))) 0 20) (fun x0 w' hE d0 => by { obtain rfl : x0 = .int .i64 ((n : Nat) : Int) := d0; exact Split_f _ n L ⟨HNN.out.1, HNN.out.2.1⟩ HL.out })) ?_
  refine Rc (mv (Od.lc 1 21)) ?_
  refine Rc (ex (Od.loc 2 19) t20) ?_
  refine Rc (ex (Od.loc 2 19) t21) ?_
  refine Rc (mv (Od.lc 3 22)) ?_
  refine Rc (mv (Od.lc 4 23)) ?_
  exact RgAll.nil
 intro v W3 e1 hΦ _
 replace S := S.mono e1
 have v5 : v 5 = .int .i64 ((n / (cdB n L * cdB n L) : Nat) : Int) := hΦ 5 (by decide)
 have v6 : v 6 = .int .i64 ((cdB n L : Nat) : Int) := hΦ 6 (by decide)
 simp only [layL, Act.put, uAx, u0x, u1x, Nat.reduceAdd]
 rw [v5, v6]
 clear v5 v6 hΦ e1
 refine wpList_nil ?_
 go_upto_region 5 with (fail)
 refine rgs 5 [some 24, some 25, some 26, some 27, some 28] [IsV (.int .i64 ((n / (cdB n L * cdB n L) : Nat) : Int)), IsV (.int .i64 (-((n / (cdB n L * cdB n L) : Nat) : Int))), IsI 2 (-((n / (cdB n L * cdB n L) : Nat) : Int)), IsV (.int .i64 ((cdB n L : Nat) : Int)), IsI 2 (((cdB n L : Nat) : Int))] [] ?_ ?_
 ·refine Rc (mv (Od.lit 7)) ?_
  refine Rc (un (r := .int .i64 (-((n / (cdB n L * cdB n L) : Nat) : Int))) (Od.loc 0 24) (hr := fun w => by have hx9 := HNG.out.1; have hx8 := HNG.out.2; go_simp)) ?_
  refine Rc (cl1 (en Tryz.func22) (Od.lc (Φ := IsV (.int .i64 (-((n / (cdB n L * cdB n L) : Nat) : Int)))) 1 25) (fun x0 w' hE d0 => by { obtain rfl : x0 = .int .i64 (-((n / (cdB n L * cdB n L) : Nat) : Int)) := d0; exact ROf_f _ _ HOB.out.1 HOB.out.2.1 })) ?_
  refine Rc (mv (Od.lit 8)) ?_
  refine Rc (cl1 (en Tryz.func22) (Od.lc (Φ := IsV (.int .i64 ((cdB n L : Nat) : Int))) 3 27) (fun x0 w' hE d0 => by { obtain rfl : x0 = .int .i64 ((cdB n L : Nat) : Int) := d0; exact ROf_f _ _ HOB.out.2.2.1 HOB.out.2.2.2 })) ?_
  exact RgAll.nil
 intro v W4 e1 hΦ _
 replace S := S.mono e1
 have h26 := hΦ 2 (by decide)
 have h28 := hΦ 4 (by decide)
 simp only [layL, Act.put, uAx, u0x, u1x, Nat.reduceAdd]
 clear hΦ e1
 try simp only [List.drop_succ_cons, List.drop_zero]
 (with_reducible refine stL ?_ (by rfl)); intro KK hKK; refine stI S 1 (w.heap.size + 1) 0 h26 st_Int (fun W5 S2 G2 => hKK _ _ ?_) rfl
 replace h28 := (IsI.gstb _ _) _ _ _ G2 h28
 replace S := S2; clear S2 G2 hKK KK h26
 simp only [u0x, u1x] at S
 try simp only [List.drop_succ_cons, List.drop_zero]
 (with_reducible refine stL ?_ (by rfl)); intro KK hKK; refine stI S 0 (w.heap.size + 1 + 1) 0 h28 st_Int (fun W6 S2 G2 => hKK _ _ ?_) rfl
 replace S := S2; clear S2 G2 hKK KK h28
 simp only [u0x] at S
 refine wpList_step fun K hK => ?_; go_simp; refine hK _ _ ?_; clear hK K
 refine wpList_nil ?_
 go_wp2_with fail
 obtain ⟨s90x, a90x, n90x, c90x, b90x, h90x⟩ := S.at 1 (w.heap.size + 1) 0 (IsI 2 (-((n / (cdB n L * cdB n L) : Nat) : Int))) rfl; have L90xa : World.cell? W6 ⟨w.heap.size + 1, 0, none⟩ = some (.bool s90x) := b90x.c0; have L90xb : World.cell? W6 ⟨w.heap.size + 1, 1, none⟩ = some (.slice a90x n90x c90x) := b90x.c1
 obtain ⟨s91x, a91x, n91x, c91x, b91x, h91x⟩ := S.at 0 (w.heap.size + 1 + 1) 0 (IsI 2 (((cdB n L : Nat) : Int))) rfl; have L91xa : World.cell? W6 ⟨w.heap.size + 1 + 1, 0, none⟩ = some (.bool s91x) := b91x.c0; have L91xb : World.cell? W6 ⟨w.heap.size + 1 + 1, 1, none⟩ = some (.slice a91x n91x c91x) := b91x.c1
 exact bodyPost_ret (v := .tuple #[.agg #[.bool s90x, .slice a90x n90x c90x], .agg #[.bool s91x, .slice a91x n91x c91x], .int .i64 0]) (by simp [results, Tryz.results64, go_sem, L90xa, L90xb, L91xa, L91xb]) rfl (⟨_, rfl, S.ext, ⟨_, _, _, rfl, h90x, h91x, rfl⟩⟩)
end Go.Proofs.YtknffgdbdadpcaaGreatDoor
