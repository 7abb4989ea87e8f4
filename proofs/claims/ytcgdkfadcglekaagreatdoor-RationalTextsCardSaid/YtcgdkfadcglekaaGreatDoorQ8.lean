/-
  Between of package rational. (Printed by wip/gen/rat8.py.)
-/
import Derived.Test.YtcgdkfadcglekaaGreatDoorQ5
namespace Go.Proofs.YtcgdkfadcglekaaGreatDoor
open Go Go.RowKit

theorem simplest_f (K : Nat) (hK : 2 ≤ K ∧ K ≤ 1000) (gF gS : Nat) : ∀ (m n1 d1 n2 d2 : Nat) (x y : Value) (w : World), IsP K n1 d1 x w → IsP K n2 d2 y w → Nat.gcd n1 d1 = 1 → Nat.gcd n2 d2 = 1 → 0 < n1 → 0 < d1 → 0 < d2 → n1 * d2 ≤ n2 * d1 → d1 + d2 < m →
    w.cell? ⟨gF, 0, none⟩ = some (.func (.func 75) #[] #[]) → w.cell? ⟨gS, 0, none⟩ = some (.func (.func 76) #[] #[.pointer (some ⟨gF, 0, none⟩), .pointer (some ⟨gS, 0, none⟩)]) →
    Calls Tryz.prog 76 #[x, y, .pointer (some ⟨gF, 0, none⟩), .pointer (some ⟨gS, 0, none⟩)] w (Ret w (IsP K (smp m n1 d1 n2 d2).1 (smp m n1 d1 n2 d2).2)) := by
  intro m
  induction m with
  | zero => intros; omega
  | succ m ih =>
    intro n1 d1 n2 d2 x y w hx hy g1 g2 hn h1 h2 hle hm hF hS
    have hdm : n1 = n1 / d1 * d1 + n1 % d1 := by rw [Nat.mul_comm]; exact (Nat.div_add_mod n1 d1).symm
    have hlt := Nat.mod_lt n1 h1
    have hall := smp_ok (m + 1) n1 d1 n2 d2 hn h1 h2 hle hm
    have hb := hall.num_le h1 hle
    have hs1 : n1 < 4294967296 ^ K := by have := hx.sizes.1; rwa [Int.natAbs_natCast] at this
    unfold smp at hall hb ⊢
    by_cases h0 : n1 % d1 = 0
    · rw [if_pos h0]
      refine Calls.mono (simplest_A hx hy hK ⟨g1, h1⟩ rfl rfl ?_) fun _ _ h => h.mono fun _ _ h => h.up (Nat.le_refl _) hK.1
      rw [cmpI_eq (by omega)]; rfl
    · rw [if_neg h0] at hall hb ⊢
      have hc1 : (cmpI ((n1 / d1 * d1 : Nat) : Int) ((n1 * 1 : Nat) : Int) == 0) = false := by rw [cmpI_lt (by omega)]; rfl
      by_cases hup : (n1 / d1 + 1) * d2 ≤ n2
      · rw [if_pos hup] at hall hb ⊢
        refine Calls.mono (simplest_B hx hy hK ⟨g1, h1⟩ rfl rfl hc1 ⟨g2, h2⟩ rfl ?_) fun _ _ h => h.mono fun _ _ h => h.tight (by rw [Int.natAbs_natCast]; exact Nat.lt_of_le_of_lt hb.1 hs1) ?_
        · rw [decide_eq_true_iff]
          unfold cmpI
          split
          · decide
          · rw [if_neg (by omega)]; decide
        · exact (Nat.one_lt_pow (by omega) (by decide) : 1 < 4294967296 ^ K)
      · rw [if_neg hup] at hall hb ⊢
        have k1 : 0 < n1 % d1 := Nat.pos_of_ne_zero h0
        have hfd : n1 / d1 * d2 ≤ n2 := by
          refine Nat.le_of_mul_le_mul_right (?_ : n1 / d1 * d2 * d1 ≤ n2 * d1) h1
          refine Nat.le_trans ?_ hle
          rw [Nat.mul_assoc, Nat.mul_comm d2 d1, ← Nat.mul_assoc]
          exact Nat.mul_le_mul_right _ (by omega)
        have hr2 : n2 - n1 / d1 * d2 < d2 := by rw [Nat.add_mul] at hup; omega
        obtain ⟨k2, k3⟩ := smp_step h2 hdm (show n2 = n1 / d1 * d2 + (n2 - n1 / d1 * d2) by omega) k1 hle
        have g1' : Nat.gcd d1 (n1 % d1) = 1 := by have := gcd_sub (f := n1 / d1) g1 (by omega); rw [Nat.gcd_comm, show n1 % d1 = n1 - n1 / d1 * d1 by omega]; exact this
        have g2' : Nat.gcd d2 (n2 - n1 / d1 * d2) = 1 := by rw [Nat.gcd_comm]; exact gcd_sub g2 hfd
        have hsm := smp_ok m d2 (n2 - n1 / d1 * d2) d1 (n1 % d1) h2 k2 k1 k3 (by omega)
        have hbb := hb.1
        dsimp only at hbb
        refine simplest_C hx hy hK ⟨g1, h1⟩ rfl rfl hc1 ⟨g2, h2⟩ rfl ?_ ⟨by omega, by omega⟩ ⟨hfd, rfl⟩ ⟨by rw [Nat.gcd_comm]; exact hsm.co, hsm.p0, Nat.lt_of_le_of_lt hbb hs1⟩ hF hS fun w' x y e hx' hy' =>
          ih d2 (n2 - n1 / d1 * d2) d1 (n1 % d1) x y w' hx' hy' g2' g1' h2 k2 k1 k3 (by omega) (e.cell hF) (e.cell hS)
        rw [decide_eq_false_iff_not]
        rw [cmpI_gt (by omega)]
        decide

set_option maxRecDepth 100000 in
set_option maxHeartbeats 4000000 in
theorem qBtw_E {k : Nat} {pa pb : Rat} {x y : Value} {w : World} (hx : IsRat k pa x w) (hy : IsRat k pb y w) (hk : k ≤ 1000) {cc : Int} (hc : cmpQ pa pb = cc) (hc1 : decide (0 < cc) = true) : Calls Tryz.prog 19 #[x, y] w (Ret w (IsT2 (IsQ (IsI 0 0) (IsI 0 0)) (IsV (.int .i64 1)))) := by
  have HK := hid hk
  have HC := hid hc
  have HC1 := hid hc1
  clear hk hc hc1
  obtain ⟨s1x, a1x, n1x, c1x, s1y, a1y, n1y, c1y, rfl, h1x, h1y⟩ := hx
  obtain ⟨s2x, a2x, n2x, c2x, s2y, a2y, n2y, c2y, rfl, h2x, h2y⟩ := hy
  obtain ⟨W, hW, S⟩ : ∃ W, W = ((w.alloc (.cells #[.bool s1x, .slice a1x n1x c1x, .bool s1y, .slice a1y n1y c1y] 31)).alloc (.cells #[.bool s2x, .slice a2x n2x c2x, .bool s2y, .slice a2y n2y c2y] 31)).alloc (.cells #[.bool false, .slice none 0 0, .bool false, .slice none 0 0] 31) ∧ Sto w W [((w.heap.size + 1 + 1, 1), IsI 0 0), ((w.heap.size + 1 + 1, 0), IsI 0 0), ((w.heap.size + 1, 1), IsI k ((pb.den : Int))), ((w.heap.size + 1, 0), IsI k pb.num), ((w.heap.size, 1), IsI k ((pa.den : Int))), ((w.heap.size, 0), IsI k pa.num)] := ⟨_, rfl, ((((Sto.start w).new2 (w.heap.size) (by simp) s1x s1y a1x a1y n1x c1x n1y c1y 31 (IsI k pa.num) (IsI k ((pa.den : Int))) (IsI.gstb _ _) (h1x) (IsI.gstb _ _) (h1y)).new2 (w.heap.size + 1) (by simp) s2x s2y a2x a2y n2x c2x n2y c2y 31 (IsI k pb.num) (IsI k ((pb.den : Int))) (IsI.gstb _ _) (h2x.ext ((Ext.refl _).alloc _)) (IsI.gstb _ _) (h2y.ext ((Ext.refl _).alloc _))).new2 (w.heap.size + 1 + 1) (by simp) false false none none 0 0 0 0 31 (IsI 0 0) (IsI 0 0) (IsI.gstb _ _) (IsI.nil _ _) (IsI.gstb _ _) (IsI.nil _ _))⟩
  clear h1x h1y h2x h2y
  go_enter Tryz.func19, Tryz.ntmps19
  go_upto_region 1 with (fail)
  rw [← hW]
  clear hW
  refine rgs 4 [some 8, some 9, some 10, some 11] [IsQ (IsI k pa.num) (IsI k ((pa.den : Int))), IsQ (IsI k pb.num) (IsI k ((pb.den : Int))), IsV (.int .i64 cc), IsV (.bool true)] [] ?_ ?_
  · refine Rc (ldQ S 5 4 (w.heap.size) 0 (Od.lit 2) ld_Rat rfl rfl) ?_
    refine Rc (ldQ S 3 2 (w.heap.size + 1) 0 (Od.lit 3) ld_Rat rfl rfl) ?_
    refine Rc (cl2 (en Tryz.func21) (Od.lc (Φ := IsQ (IsI k pa.num) (IsI k ((pa.den : Int)))) 0 8) (Od.lc (Φ := IsQ (IsI k pb.num) (IsI k ((pb.den : Int)))) 1 9) (fun x0 x1 w' hE d0 d1 => Calls.mono (qCmp_f d0 d1 (by have := HK.out; omega) (by have := HK.out; omega)) fun _ _ h => h.int HC.out)) ?_
    refine Rc (bn (r := .bool true) (Od.loc 2 10) Od.con (hr := fun w => by have hx9 := HC1.out; go_simp)) ?_
    exact RgAll.nil
  intro v W1 e1 hΦ _
  replace S := S.mono e1
  have v3 : v 3 = .bool true := hΦ 3 (by decide)
  simp only [layL, Act.put, List.setIfInBounds_toArray, List.set_cons_zero, List.set_cons_succ, Nat.reduceAdd]
  rw [v3]
  clear v3 hΦ e1
  refine wpList_nil ?_
  go_upto_region 2 with (fail)
  refine rgs 1 [some 12] [IsQ (IsI 0 0) (IsI 0 0)] [] ?_ ?_
  · refine Rc (b0 z_Rat nilQ) ?_
    exact RgAll.nil
  intro v W2 e1 hΦ _
  replace S := S.mono e1
  have h12 := hΦ 0 (by decide)
  simp only [layL, Act.put, List.setIfInBounds_toArray, List.set_cons_zero, List.set_cons_succ]
  clear hΦ e1
  try simp only [List.drop_succ_cons, List.drop_zero]
  (with_reducible refine stL ?_ (by rfl)); intro KK hKK; refine stQ S 1 0 (w.heap.size + 1 + 1) 0 h12 (IsI.gstb _ _) (IsI.gstb _ _) st_Rat (fun W3 S2 G2 => hKK _ _ ?_) rfl rfl
  replace S := S2; clear S2 G2 hKK KK h12
  simp only [List.set_cons_zero, List.set_cons_succ] at S
  refine wpList_step fun K hK => ?_; go_simp; refine hK _ _ ?_; clear hK K
  refine wpList_nil ?_
  go_wp2_with fail
  obtain ⟨s90x, a90x, n90x, c90x, b90x, h90x⟩ := S.at 1 (w.heap.size + 1 + 1) 0 (IsI 0 0) rfl; have L90xa : World.cell? W3 ⟨w.heap.size + 1 + 1, 0, none⟩ = some (.bool s90x) := b90x.c0; have L90xb : World.cell? W3 ⟨w.heap.size + 1 + 1, 1, none⟩ = some (.slice a90x n90x c90x) := b90x.c1
  obtain ⟨s90y, a90y, n90y, c90y, b90y, h90y⟩ := S.at 0 (w.heap.size + 1 + 1) 1 (IsI 0 0) rfl; have L90ya : World.cell? W3 ⟨w.heap.size + 1 + 1, 2, none⟩ = some (.bool s90y) := b90y.c0; have L90yb : World.cell? W3 ⟨w.heap.size + 1 + 1, 3, none⟩ = some (.slice a90y n90y c90y) := b90y.c1
  exact bodyPost_ret (v := .tuple #[.agg #[.bool s90x, .slice a90x n90x c90x, .bool s90y, .slice a90y n90y c90y], .int .i64 1]) (by simp [results, Tryz.results19, go_sem, L90xa, L90xb, L90ya, L90yb]) rfl (⟨_, rfl, S.ext, ⟨_, _, rfl, ⟨_, _, _, _, _, _, _, _, rfl, h90x, h90y⟩, rfl⟩⟩)

set_option maxRecDepth 100000 in
set_option maxHeartbeats 4000000 in
theorem qBtw_P {k : Nat} {pa pb r : Rat} {x y : Value} {w : World} (hx : IsRat k pa x w) (hy : IsRat k pb y w) (hk : k ≤ 1000) {cc sa : Int} (hc : cmpQ pa pb = cc) (hc1 : decide (0 < cc) = false) (hsa : pa.num.sign = sa) (hsa1 : decide (0 < sa) = true) (hcl : ∀ (w' : World) (gF gS : Nat) (x y : Value), w'.cell? ⟨gF, 0, none⟩ = some (.func (.func 75) #[] #[]) → w'.cell? ⟨gS, 0, none⟩ = some (.func (.func 76) #[] #[.pointer (some ⟨gF, 0, none⟩), .pointer (some ⟨gS, 0, none⟩)]) → IsRat k (pa) x w' → IsRat k (pb) y w' → Calls Tryz.prog 76 #[x, y, .pointer (some ⟨gF, 0, none⟩), .pointer (some ⟨gS, 0, none⟩)] w' (Ret w' (IsRat k r))) : Calls Tryz.prog 19 #[x, y] w (Ret w (IsT2 (IsRat k r) (IsV (.int .i64 0)))) := by
  have HK := hid hk
  have HC := hid hc
  have HC1 := hid hc1
  have HSA := hid hsa
  have HSA1 := hid hsa1
  have HCL := hid hcl
  clear hk hc hc1 hsa hsa1 hcl
  obtain ⟨s1x, a1x, n1x, c1x, s1y, a1y, n1y, c1y, rfl, h1x, h1y⟩ := hx
  obtain ⟨s2x, a2x, n2x, c2x, s2y, a2y, n2y, c2y, rfl, h2x, h2y⟩ := hy
  obtain ⟨W, hW, S⟩ : ∃ W, W = ((w.alloc (.cells #[.bool s1x, .slice a1x n1x c1x, .bool s1y, .slice a1y n1y c1y] 31)).alloc (.cells #[.bool s2x, .slice a2x n2x c2x, .bool s2y, .slice a2y n2y c2y] 31)).alloc (.cells #[.bool false, .slice none 0 0, .bool false, .slice none 0 0] 31) ∧ Sto w W [((w.heap.size + 1 + 1, 1), IsI 0 0), ((w.heap.size + 1 + 1, 0), IsI 0 0), ((w.heap.size + 1, 1), IsI k ((pb.den : Int))), ((w.heap.size + 1, 0), IsI k pb.num), ((w.heap.size, 1), IsI k ((pa.den : Int))), ((w.heap.size, 0), IsI k pa.num)] := ⟨_, rfl, ((((Sto.start w).new2 (w.heap.size) (by simp) s1x s1y a1x a1y n1x c1x n1y c1y 31 (IsI k pa.num) (IsI k ((pa.den : Int))) (IsI.gstb _ _) (h1x) (IsI.gstb _ _) (h1y)).new2 (w.heap.size + 1) (by simp) s2x s2y a2x a2y n2x c2x n2y c2y 31 (IsI k pb.num) (IsI k ((pb.den : Int))) (IsI.gstb _ _) (h2x.ext ((Ext.refl _).alloc _)) (IsI.gstb _ _) (h2y.ext ((Ext.refl _).alloc _))).new2 (w.heap.size + 1 + 1) (by simp) false false none none 0 0 0 0 31 (IsI 0 0) (IsI 0 0) (IsI.gstb _ _) (IsI.nil _ _) (IsI.gstb _ _) (IsI.nil _ _))⟩
  clear h1x h1y h2x h2y
  go_enter Tryz.func19, Tryz.ntmps19
  go_upto_region 1 with (fail)
  rw [← hW]
  clear hW
  refine rgs 4 [some 8, some 9, some 10, some 11] [IsQ (IsI k pa.num) (IsI k ((pa.den : Int))), IsQ (IsI k pb.num) (IsI k ((pb.den : Int))), IsV (.int .i64 cc), IsV (.bool false)] [] ?_ ?_
  · refine Rc (ldQ S 5 4 (w.heap.size) 0 (Od.lit 2) ld_Rat rfl rfl) ?_
    refine Rc (ldQ S 3 2 (w.heap.size + 1) 0 (Od.lit 3) ld_Rat rfl rfl) ?_
    refine Rc (cl2 (en Tryz.func21) (Od.lc (Φ := IsQ (IsI k pa.num) (IsI k ((pa.den : Int)))) 0 8) (Od.lc (Φ := IsQ (IsI k pb.num) (IsI k ((pb.den : Int)))) 1 9) (fun x0 x1 w' hE d0 d1 => Calls.mono (qCmp_f d0 d1 (by have := HK.out; omega) (by have := HK.out; omega)) fun _ _ h => h.int HC.out)) ?_
    refine Rc (bn (r := .bool false) (Od.loc 2 10) Od.con (hr := fun w => by have hx9 := HC1.out; go_simp)) ?_
    exact RgAll.nil
  intro v W1 e1 hΦ _
  replace S := S.mono e1
  have v3 : v 3 = .bool false := hΦ 3 (by decide)
  simp only [layL, Act.put, List.setIfInBounds_toArray, List.set_cons_zero, List.set_cons_succ, Nat.reduceAdd]
  rw [v3]
  clear v3 hΦ e1
  refine wpList_nil ?_
  go_upto_region 3 with (fail)
  have hmf : ∀ (fn : Fn) (first cap : Array Value) (w : World), (Instr.makeFunc fn first cap).run Tryz.prog w = .ok (.func fn first cap) w := fun _ _ _ _ => rfl
  have hstf : ∀ (a : Addr) (fn : Fn) (first cap : Array Value) (w : World), (store a (.func fn first cap)).run Tryz.prog w = stored Tryz.prog w a (.func fn first cap) .plain := fun a fn first cap w => run_store Tryz.prog w a _ .plain rfl
  go_upto_region 6 with (fail)
  clear hmf hstf
  obtain ⟨W9, hW9, S9, hFb, hSb⟩ : ∃ W9, W9 = (W1.alloc (.cells #[.func (.func 75) #[] #[]] 55)).alloc (.cells #[.func (.func 76) #[] #[.pointer (some ⟨W1.heap.size, 0, none⟩), .pointer (some ⟨(W1.heap.size + 1), 0, none⟩)]] 48) ∧ Sto w W9 [((w.heap.size + 1 + 1, 1), IsI 0 0), ((w.heap.size + 1 + 1, 0), IsI 0 0), ((w.heap.size + 1, 1), IsI k ((pb.den : Int))), ((w.heap.size + 1, 0), IsI k pb.num), ((w.heap.size, 1), IsI k ((pa.den : Int))), ((w.heap.size, 0), IsI k pa.num)] ∧ W9.cell? ⟨W1.heap.size, 0, none⟩ = some (.func (.func 75) #[] #[]) ∧ W9.cell? ⟨(W1.heap.size + 1), 0, none⟩ = some (.func (.func 76) #[] #[.pointer (some ⟨W1.heap.size, 0, none⟩), .pointer (some ⟨(W1.heap.size + 1), 0, none⟩)]) := by
    refine ⟨_, rfl, S.mono (((Ext.refl _).alloc _).alloc _), ?_, ?_⟩
    · exact ((Ext.refl _).alloc _).cell (by simp)
    · simp
  rw [← hW9]; clear hW9 S; have S := S9; clear S9
  refine rgs 4 [some 15, some 16, some 17, some 14] [IsQ (IsI k pa.num) (IsI k ((pa.den : Int))), IsV (.int .i64 sa), IsV (.bool true), IsV (.bool true)] [] ?_ ?_
  · refine Rc (ldQ S 5 4 (w.heap.size) 0 (Od.lit 2) ld_Rat rfl rfl) ?_
    refine Rc (cl1 (en Tryz.func35) (Od.lc (Φ := IsQ (IsI k pa.num) (IsI k ((pa.den : Int)))) 0 15) (fun x0 w' hE d0 => Calls.mono (qSign_f d0) fun _ _ h => h.int HSA.out)) ?_
    refine Rc (bn (r := .bool true) (Od.loc 1 16) Od.con (hr := fun w => by have hx9 := HSA1.out; go_simp)) ?_
    refine Rc (mv (Od.lc 2 17)) ?_
    exact RgAll.nil
  intro v W2 e1 hΦ _
  replace S := S.mono e1
  replace hFb := e1.cell hFb
  replace hSb := e1.cell hSb
  have v3 : v 3 = .bool true := hΦ 3 (by decide)
  simp only [layL, Act.put, List.setIfInBounds_toArray, List.set_cons_zero, List.set_cons_succ, Nat.reduceAdd]
  rw [v3]
  clear v3 hΦ e1
  refine wpList_nil ?_
  go_upto_region 7 with (fail)
  refine rgs 4 [some 18, some 19, some 20, some 21] [IsV (.func (.func 76) #[] #[.pointer (some ⟨W1.heap.size, 0, none⟩), .pointer (some ⟨(W1.heap.size + 1), 0, none⟩)]), IsQ (IsI k pa.num) (IsI k ((pa.den : Int))), IsQ (IsI k pb.num) (IsI k ((pb.den : Int))), IsQ (IsI k r.num) (IsI k ((r.den : Int)))] [] ?_ ?_
  · refine RgAll.cons (by { (with_reducible refine RgL.mk (by rfl) ?_); intro v a w' hE hd hf; have ev0 := hf.lit 7 (.pointer (some ⟨(W1.heap.size + 1), 0, none⟩)) (by kernel_rfl) (by kernel_rfl); have L0 := hE.cell hSb; clear hd hf; intro K hK; go_simp; exact hK.out _ _ (Ext.refl _) rfl (FreshIf.no rfl) }) ?_
    refine Rc (ldQ S 5 4 (w.heap.size) 0 (Od.lit 2) ld_Rat rfl rfl) ?_
    refine Rc (ldQ S 3 2 (w.heap.size + 1) 0 (Od.lit 3) ld_Rat rfl rfl) ?_
    refine Rc (cv2 (en Tryz.func76) (Od.loc 0 18) (Od.lc (Φ := IsQ (IsI k pa.num) (IsI k ((pa.den : Int)))) 1 19) (Od.lc (Φ := IsQ (IsI k pb.num) (IsI k ((pb.den : Int)))) 2 20) (fun x0 x1 w' hE d0 d1 => HCL.out w' _ _ _ _ (hE.cell hFb) (hE.cell hSb) d0 d1)) ?_
    exact RgAll.nil
  intro v W3 e1 hΦ _
  replace S := S.mono e1
  replace hFb := e1.cell hFb
  replace hSb := e1.cell hSb
  have h21 := hΦ 3 (by decide)
  simp only [layL, Act.put, List.setIfInBounds_toArray, List.set_cons_zero, List.set_cons_succ, Nat.reduceAdd]
  clear hΦ e1
  try simp only [List.drop_succ_cons, List.drop_zero]
  (with_reducible refine stL ?_ (by rfl)); intro KK hKK; refine stQ S 1 0 (w.heap.size + 1 + 1) 0 h21 (IsI.gstb _ _) (IsI.gstb _ _) st_Rat (fun W4 S2 G2 => hKK _ _ ?_) rfl rfl
  replace S := S2; clear S2 G2 hKK KK h21
  simp only [List.set_cons_zero, List.set_cons_succ] at S
  refine wpList_step fun K hK => ?_; go_simp; refine hK _ _ ?_; clear hK K
  refine wpList_nil ?_
  go_wp2_with fail
  obtain ⟨s90x, a90x, n90x, c90x, b90x, h90x⟩ := S.at 1 (w.heap.size + 1 + 1) 0 (IsI k r.num) rfl; have L90xa : World.cell? W4 ⟨w.heap.size + 1 + 1, 0, none⟩ = some (.bool s90x) := b90x.c0; have L90xb : World.cell? W4 ⟨w.heap.size + 1 + 1, 1, none⟩ = some (.slice a90x n90x c90x) := b90x.c1
  obtain ⟨s90y, a90y, n90y, c90y, b90y, h90y⟩ := S.at 0 (w.heap.size + 1 + 1) 1 (IsI k ((r.den : Int))) rfl; have L90ya : World.cell? W4 ⟨w.heap.size + 1 + 1, 2, none⟩ = some (.bool s90y) := b90y.c0; have L90yb : World.cell? W4 ⟨w.heap.size + 1 + 1, 3, none⟩ = some (.slice a90y n90y c90y) := b90y.c1
  exact bodyPost_ret (v := .tuple #[.agg #[.bool s90x, .slice a90x n90x c90x, .bool s90y, .slice a90y n90y c90y], .int .i64 0]) (by simp [results, Tryz.results19, go_sem, L90xa, L90xb, L90ya, L90yb]) rfl (⟨_, rfl, S.ext, ⟨_, _, rfl, ⟨_, _, _, _, _, _, _, _, rfl, h90x, h90y⟩, rfl⟩⟩)

set_option maxRecDepth 100000 in
set_option maxHeartbeats 4000000 in
theorem qBtw_N {k : Nat} {pa pb r : Rat} {x y : Value} {w : World} (hx : IsRat k pa x w) (hy : IsRat k pb y w) (hk : k ≤ 1000) {cc sa sb : Int} (hc : cmpQ pa pb = cc) (hc1 : decide (0 < cc) = false) (hsa : pa.num.sign = sa) (hsa1 : decide (0 < sa) = false) (hsb : pb.num.sign = sb) (hsb1 : decide (sb < 0) = true) (hcl : ∀ (w' : World) (gF gS : Nat) (x y : Value), w'.cell? ⟨gF, 0, none⟩ = some (.func (.func 75) #[] #[]) → w'.cell? ⟨gS, 0, none⟩ = some (.func (.func 76) #[] #[.pointer (some ⟨gF, 0, none⟩), .pointer (some ⟨gS, 0, none⟩)]) → IsRat k (-pb) x w' → IsRat k (-pa) y w' → Calls Tryz.prog 76 #[x, y, .pointer (some ⟨gF, 0, none⟩), .pointer (some ⟨gS, 0, none⟩)] w' (Ret w' (IsRat k r))) : Calls Tryz.prog 19 #[x, y] w (Ret w (IsT2 (IsRat k (-r)) (IsV (.int .i64 0)))) := by
  have HK := hid hk
  have HC := hid hc
  have HC1 := hid hc1
  have HSA := hid hsa
  have HSA1 := hid hsa1
  have HSB := hid hsb
  have HSB1 := hid hsb1
  have HCL := hid hcl
  clear hk hc hc1 hsa hsa1 hsb hsb1 hcl
  obtain ⟨s1x, a1x, n1x, c1x, s1y, a1y, n1y, c1y, rfl, h1x, h1y⟩ := hx
  obtain ⟨s2x, a2x, n2x, c2x, s2y, a2y, n2y, c2y, rfl, h2x, h2y⟩ := hy
  obtain ⟨W, hW, S⟩ : ∃ W, W = ((w.alloc (.cells #[.bool s1x, .slice a1x n1x c1x, .bool s1y, .slice a1y n1y c1y] 31)).alloc (.cells #[.bool s2x, .slice a2x n2x c2x, .bool s2y, .slice a2y n2y c2y] 31)).alloc (.cells #[.bool false, .slice none 0 0, .bool false, .slice none 0 0] 31) ∧ Sto w W [((w.heap.size + 1 + 1, 1), IsI 0 0), ((w.heap.size + 1 + 1, 0), IsI 0 0), ((w.heap.size + 1, 1), IsI k ((pb.den : Int))), ((w.heap.size + 1, 0), IsI k pb.num), ((w.heap.size, 1), IsI k ((pa.den : Int))), ((w.heap.size, 0), IsI k pa.num)] := ⟨_, rfl, ((((Sto.start w).new2 (w.heap.size) (by simp) s1x s1y a1x a1y n1x c1x n1y c1y 31 (IsI k pa.num) (IsI k ((pa.den : Int))) (IsI.gstb _ _) (h1x) (IsI.gstb _ _) (h1y)).new2 (w.heap.size + 1) (by simp) s2x s2y a2x a2y n2x c2x n2y c2y 31 (IsI k pb.num) (IsI k ((pb.den : Int))) (IsI.gstb _ _) (h2x.ext ((Ext.refl _).alloc _)) (IsI.gstb _ _) (h2y.ext ((Ext.refl _).alloc _))).new2 (w.heap.size + 1 + 1) (by simp) false false none none 0 0 0 0 31 (IsI 0 0) (IsI 0 0) (IsI.gstb _ _) (IsI.nil _ _) (IsI.gstb _ _) (IsI.nil _ _))⟩
  clear h1x h1y h2x h2y
  go_enter Tryz.func19, Tryz.ntmps19
  go_upto_region 1 with (fail)
  rw [← hW]
  clear hW
  refine rgs 4 [some 8, some 9, some 10, some 11] [IsQ (IsI k pa.num) (IsI k ((pa.den : Int))), IsQ (IsI k pb.num) (IsI k ((pb.den : Int))), IsV (.int .i64 cc), IsV (.bool false)] [] ?_ ?_
  · refine Rc (ldQ S 5 4 (w.heap.size) 0 (Od.lit 2) ld_Rat rfl rfl) ?_
    refine Rc (ldQ S 3 2 (w.heap.size + 1) 0 (Od.lit 3) ld_Rat rfl rfl) ?_
    refine Rc (cl2 (en Tryz.func21) (Od.lc (Φ := IsQ (IsI k pa.num) (IsI k ((pa.den : Int)))) 0 8) (Od.lc (Φ := IsQ (IsI k pb.num) (IsI k ((pb.den : Int)))) 1 9) (fun x0 x1 w' hE d0 d1 => Calls.mono (qCmp_f d0 d1 (by have := HK.out; omega) (by have := HK.out; omega)) fun _ _ h => h.int HC.out)) ?_
    refine Rc (bn (r := .bool false) (Od.loc 2 10) Od.con (hr := fun w => by have hx9 := HC1.out; go_simp)) ?_
    exact RgAll.nil
  intro v W1 e1 hΦ _
  replace S := S.mono e1
  have v3 : v 3 = .bool false := hΦ 3 (by decide)
  simp only [layL, Act.put, List.setIfInBounds_toArray, List.set_cons_zero, List.set_cons_succ, Nat.reduceAdd]
  rw [v3]
  clear v3 hΦ e1
  refine wpList_nil ?_
  go_upto_region 3 with (fail)
  have hmf : ∀ (fn : Fn) (first cap : Array Value) (w : World), (Instr.makeFunc fn first cap).run Tryz.prog w = .ok (.func fn first cap) w := fun _ _ _ _ => rfl
  have hstf : ∀ (a : Addr) (fn : Fn) (first cap : Array Value) (w : World), (store a (.func fn first cap)).run Tryz.prog w = stored Tryz.prog w a (.func fn first cap) .plain := fun a fn first cap w => run_store Tryz.prog w a _ .plain rfl
  go_upto_region 6 with (fail)
  clear hmf hstf
  obtain ⟨W9, hW9, S9, hFb, hSb⟩ : ∃ W9, W9 = (W1.alloc (.cells #[.func (.func 75) #[] #[]] 55)).alloc (.cells #[.func (.func 76) #[] #[.pointer (some ⟨W1.heap.size, 0, none⟩), .pointer (some ⟨(W1.heap.size + 1), 0, none⟩)]] 48) ∧ Sto w W9 [((w.heap.size + 1 + 1, 1), IsI 0 0), ((w.heap.size + 1 + 1, 0), IsI 0 0), ((w.heap.size + 1, 1), IsI k ((pb.den : Int))), ((w.heap.size + 1, 0), IsI k pb.num), ((w.heap.size, 1), IsI k ((pa.den : Int))), ((w.heap.size, 0), IsI k pa.num)] ∧ W9.cell? ⟨W1.heap.size, 0, none⟩ = some (.func (.func 75) #[] #[]) ∧ W9.cell? ⟨(W1.heap.size + 1), 0, none⟩ = some (.func (.func 76) #[] #[.pointer (some ⟨W1.heap.size, 0, none⟩), .pointer (some ⟨(W1.heap.size + 1), 0, none⟩)]) := by
    refine ⟨_, rfl, S.mono (((Ext.refl _).alloc _).alloc _), ?_, ?_⟩
    · exact ((Ext.refl _).alloc _).cell (by simp)
    · simp
  rw [← hW9]; clear hW9 S; have S := S9; clear S9
  refine rgs 4 [some 15, some 16, some 17, some 14] [IsQ (IsI k pa.num) (IsI k ((pa.den : Int))), IsV (.int .i64 sa), IsV (.bool false), IsV (.bool false)] [] ?_ ?_
  · refine Rc (ldQ S 5 4 (w.heap.size) 0 (Od.lit 2) ld_Rat rfl rfl) ?_
    refine Rc (cl1 (en Tryz.func35) (Od.lc (Φ := IsQ (IsI k pa.num) (IsI k ((pa.den : Int)))) 0 15) (fun x0 w' hE d0 => Calls.mono (qSign_f d0) fun _ _ h => h.int HSA.out)) ?_
    refine Rc (bn (r := .bool false) (Od.loc 1 16) Od.con (hr := fun w => by have hx9 := HSA1.out; go_simp)) ?_
    refine Rc (mv (Od.lc 2 17)) ?_
    exact RgAll.nil
  intro v W2 e1 hΦ _
  replace S := S.mono e1
  replace hFb := e1.cell hFb
  replace hSb := e1.cell hSb
  have v3 : v 3 = .bool false := hΦ 3 (by decide)
  simp only [layL, Act.put, List.setIfInBounds_toArray, List.set_cons_zero, List.set_cons_succ, Nat.reduceAdd]
  rw [v3]
  clear v3 hΦ e1
  refine wpList_nil ?_
  go_upto_region 8 with (fail)
  refine rgs 4 [some 23, some 24, some 25, some 22] [IsQ (IsI k pb.num) (IsI k ((pb.den : Int))), IsV (.int .i64 sb), IsV (.bool true), IsV (.bool true)] [] ?_ ?_
  · refine Rc (ldQ S 3 2 (w.heap.size + 1) 0 (Od.lit 3) ld_Rat rfl rfl) ?_
    refine Rc (cl1 (en Tryz.func35) (Od.lc (Φ := IsQ (IsI k pb.num) (IsI k ((pb.den : Int)))) 0 23) (fun x0 w' hE d0 => Calls.mono (qSign_f d0) fun _ _ h => h.int HSB.out)) ?_
    refine Rc (bn (r := .bool true) (Od.loc 1 24) Od.con (hr := fun w => by have hx9 := HSB1.out; go_simp)) ?_
    refine Rc (mv (Od.lc 2 25)) ?_
    exact RgAll.nil
  intro v W3 e1 hΦ _
  replace S := S.mono e1
  replace hFb := e1.cell hFb
  replace hSb := e1.cell hSb
  have v3 : v 3 = .bool true := hΦ 3 (by decide)
  simp only [layL, Act.put, List.setIfInBounds_toArray, List.set_cons_zero, List.set_cons_succ, Nat.reduceAdd]
  rw [v3]
  clear v3 hΦ e1
  refine wpList_nil ?_
  go_upto_region 9 with (fail)
  refine rg 7 [some 26, some 27, some 28, some 29, some 30, some 31, some 32] [IsV (.func (.func 76) #[] #[.pointer (some ⟨W1.heap.size, 0, none⟩), .pointer (some ⟨(W1.heap.size + 1), 0, none⟩)]), IsQ (IsI k pb.num) (IsI k ((pb.den : Int))), IsQ (IsI k ((-pb).num)) (IsI k (((-pb).den : Int))), IsQ (IsI k pa.num) (IsI k ((pa.den : Int))), IsQ (IsI k ((-pa).num)) (IsI k (((-pa).den : Int))), IsQ (IsI k r.num) (IsI k ((r.den : Int))), IsQ (IsI k ((-r).num)) (IsI k (((-r).den : Int)))] [] 2 ?_ ?_
  · refine RgAll.cons (by { (with_reducible refine RgL.mk (by rfl) ?_); intro v a w' hE hd hf; have ev0 := hf.lit 7 (.pointer (some ⟨(W1.heap.size + 1), 0, none⟩)) (by kernel_rfl) (by kernel_rfl); have L0 := hE.cell hSb; clear hd hf; intro K hK; go_simp; exact hK.out _ _ (Ext.refl _) rfl (FreshIf.no rfl) }) ?_
    refine Rc (ldQ S 3 2 (w.heap.size + 1) 0 (Od.lit 3) ld_Rat rfl rfl) ?_
    refine Rc (cl1 (en Tryz.func79) (Od.lc (Φ := IsQ (IsI k pb.num) (IsI k ((pb.den : Int)))) 1 27) (fun x0 w' hE d0 => qneg_f d0)) ?_
    refine Rc (ldQ S 5 4 (w.heap.size) 0 (Od.lit 2) ld_Rat rfl rfl) ?_
    refine Rc (cl1 (en Tryz.func79) (Od.lc (Φ := IsQ (IsI k pa.num) (IsI k ((pa.den : Int)))) 3 29) (fun x0 w' hE d0 => qneg_f d0)) ?_
    refine Rc (cv2 (en Tryz.func76) (Od.loc 0 26) (Od.lc (Φ := IsQ (IsI k ((-pb).num)) (IsI k (((-pb).den : Int)))) 2 28) (Od.lc (Φ := IsQ (IsI k ((-pa).num)) (IsI k (((-pa).den : Int)))) 4 30) (fun x0 x1 w' hE d0 d1 => HCL.out w' _ _ _ _ (hE.cell hFb) (hE.cell hSb) d0 d1)) ?_
    refine Rc (cl1 (en Tryz.func79) (Od.lc (Φ := IsQ (IsI k r.num) (IsI k ((r.den : Int)))) 5 31) (fun x0 w' hE d0 => qneg_f d0)) ?_
    exact RgAll.nil
  intro v W4 e1 hΦ _
  replace S := S.mono e1
  replace hFb := e1.cell hFb
  replace hSb := e1.cell hSb
  have h32 := hΦ 6 (by decide)
  simp only [layL, Act.put, List.setIfInBounds_toArray, List.set_cons_zero, List.set_cons_succ, Nat.reduceAdd]
  clear hΦ e1
  refine stA 7 (h := fun KK hKK => stQ S 1 0 (w.heap.size + 1 + 1) 0 h32 (IsI.gstb _ _) (IsI.gstb _ _) st_Rat (fun W5 S2 G2 => hKK _ _ ?_) rfl rfl)
  replace S := S2; clear S2 G2 hKK KK h32
  simp only [List.set_cons_zero, List.set_cons_succ] at S
  refine wpAny_ready (rs := [8]) (by kernel_rfl) (by simp) (AllReady.cons rfl (fun K hK => ?_) AllReady.nil); go_simp; refine hK _ _ ?_; clear hK K
  refine wpAny_done (by kernel_rfl) ?_ _
  go_wp2_with fail
  obtain ⟨s90x, a90x, n90x, c90x, b90x, h90x⟩ := S.at 1 (w.heap.size + 1 + 1) 0 (IsI k ((-r).num)) rfl; have L90xa : World.cell? W5 ⟨w.heap.size + 1 + 1, 0, none⟩ = some (.bool s90x) := b90x.c0; have L90xb : World.cell? W5 ⟨w.heap.size + 1 + 1, 1, none⟩ = some (.slice a90x n90x c90x) := b90x.c1
  obtain ⟨s90y, a90y, n90y, c90y, b90y, h90y⟩ := S.at 0 (w.heap.size + 1 + 1) 1 (IsI k (((-r).den : Int))) rfl; have L90ya : World.cell? W5 ⟨w.heap.size + 1 + 1, 2, none⟩ = some (.bool s90y) := b90y.c0; have L90yb : World.cell? W5 ⟨w.heap.size + 1 + 1, 3, none⟩ = some (.slice a90y n90y c90y) := b90y.c1
  exact bodyPost_ret (v := .tuple #[.agg #[.bool s90x, .slice a90x n90x c90x, .bool s90y, .slice a90y n90y c90y], .int .i64 0]) (by simp [results, Tryz.results19, go_sem, L90xa, L90xb, L90ya, L90yb]) rfl (⟨_, rfl, S.ext, ⟨_, _, rfl, ⟨_, _, _, _, _, _, _, _, rfl, h90x, h90y⟩, rfl⟩⟩)

set_option maxRecDepth 100000 in
set_option maxHeartbeats 4000000 in
theorem qBtw_Z {k : Nat} {pa pb : Rat} {x y : Value} {w : World} (hx : IsRat k pa x w) (hy : IsRat k pb y w) (hk : k ≤ 1000) {cc sa sb : Int} (hc : cmpQ pa pb = cc) (hc1 : decide (0 < cc) = false) (hsa : pa.num.sign = sa) (hsa1 : decide (0 < sa) = false) (hsb : pb.num.sign = sb) (hsb1 : decide (sb < 0) = false) : Calls Tryz.prog 19 #[x, y] w (Ret w (IsT2 (IsQ (IsI 2 0) (IsI 2 1)) (IsV (.int .i64 0)))) := by
  have HK := hid hk
  have HC := hid hc
  have HC1 := hid hc1
  have HSA := hid hsa
  have HSA1 := hid hsa1
  have HSB := hid hsb
  have HSB1 := hid hsb1
  clear hk hc hc1 hsa hsa1 hsb hsb1
  obtain ⟨s1x, a1x, n1x, c1x, s1y, a1y, n1y, c1y, rfl, h1x, h1y⟩ := hx
  obtain ⟨s2x, a2x, n2x, c2x, s2y, a2y, n2y, c2y, rfl, h2x, h2y⟩ := hy
  obtain ⟨W, hW, S⟩ : ∃ W, W = ((w.alloc (.cells #[.bool s1x, .slice a1x n1x c1x, .bool s1y, .slice a1y n1y c1y] 31)).alloc (.cells #[.bool s2x, .slice a2x n2x c2x, .bool s2y, .slice a2y n2y c2y] 31)).alloc (.cells #[.bool false, .slice none 0 0, .bool false, .slice none 0 0] 31) ∧ Sto w W [((w.heap.size + 1 + 1, 1), IsI 0 0), ((w.heap.size + 1 + 1, 0), IsI 0 0), ((w.heap.size + 1, 1), IsI k ((pb.den : Int))), ((w.heap.size + 1, 0), IsI k pb.num), ((w.heap.size, 1), IsI k ((pa.den : Int))), ((w.heap.size, 0), IsI k pa.num)] := ⟨_, rfl, ((((Sto.start w).new2 (w.heap.size) (by simp) s1x s1y a1x a1y n1x c1x n1y c1y 31 (IsI k pa.num) (IsI k ((pa.den : Int))) (IsI.gstb _ _) (h1x) (IsI.gstb _ _) (h1y)).new2 (w.heap.size + 1) (by simp) s2x s2y a2x a2y n2x c2x n2y c2y 31 (IsI k pb.num) (IsI k ((pb.den : Int))) (IsI.gstb _ _) (h2x.ext ((Ext.refl _).alloc _)) (IsI.gstb _ _) (h2y.ext ((Ext.refl _).alloc _))).new2 (w.heap.size + 1 + 1) (by simp) false false none none 0 0 0 0 31 (IsI 0 0) (IsI 0 0) (IsI.gstb _ _) (IsI.nil _ _) (IsI.gstb _ _) (IsI.nil _ _))⟩
  clear h1x h1y h2x h2y
  go_enter Tryz.func19, Tryz.ntmps19
  go_upto_region 1 with (fail)
  rw [← hW]
  clear hW
  refine rgs 4 [some 8, some 9, some 10, some 11] [IsQ (IsI k pa.num) (IsI k ((pa.den : Int))), IsQ (IsI k pb.num) (IsI k ((pb.den : Int))), IsV (.int .i64 cc), IsV (.bool false)] [] ?_ ?_
  · refine Rc (ldQ S 5 4 (w.heap.size) 0 (Od.lit 2) ld_Rat rfl rfl) ?_
    refine Rc (ldQ S 3 2 (w.heap.size + 1) 0 (Od.lit 3) ld_Rat rfl rfl) ?_
    refine Rc (cl2 (en Tryz.func21) (Od.lc (Φ := IsQ (IsI k pa.num) (IsI k ((pa.den : Int)))) 0 8) (Od.lc (Φ := IsQ (IsI k pb.num) (IsI k ((pb.den : Int)))) 1 9) (fun x0 x1 w' hE d0 d1 => Calls.mono (qCmp_f d0 d1 (by have := HK.out; omega) (by have := HK.out; omega)) fun _ _ h => h.int HC.out)) ?_
    refine Rc (bn (r := .bool false) (Od.loc 2 10) Od.con (hr := fun w => by have hx9 := HC1.out; go_simp)) ?_
    exact RgAll.nil
  intro v W1 e1 hΦ _
  replace S := S.mono e1
  have v3 : v 3 = .bool false := hΦ 3 (by decide)
  simp only [layL, Act.put, List.setIfInBounds_toArray, List.set_cons_zero, List.set_cons_succ, Nat.reduceAdd]
  rw [v3]
  clear v3 hΦ e1
  refine wpList_nil ?_
  go_upto_region 3 with (fail)
  have hmf : ∀ (fn : Fn) (first cap : Array Value) (w : World), (Instr.makeFunc fn first cap).run Tryz.prog w = .ok (.func fn first cap) w := fun _ _ _ _ => rfl
  have hstf : ∀ (a : Addr) (fn : Fn) (first cap : Array Value) (w : World), (store a (.func fn first cap)).run Tryz.prog w = stored Tryz.prog w a (.func fn first cap) .plain := fun a fn first cap w => run_store Tryz.prog w a _ .plain rfl
  go_upto_region 6 with (fail)
  clear hmf hstf
  obtain ⟨W9, hW9, S9, hFb, hSb⟩ : ∃ W9, W9 = (W1.alloc (.cells #[.func (.func 75) #[] #[]] 55)).alloc (.cells #[.func (.func 76) #[] #[.pointer (some ⟨W1.heap.size, 0, none⟩), .pointer (some ⟨(W1.heap.size + 1), 0, none⟩)]] 48) ∧ Sto w W9 [((w.heap.size + 1 + 1, 1), IsI 0 0), ((w.heap.size + 1 + 1, 0), IsI 0 0), ((w.heap.size + 1, 1), IsI k ((pb.den : Int))), ((w.heap.size + 1, 0), IsI k pb.num), ((w.heap.size, 1), IsI k ((pa.den : Int))), ((w.heap.size, 0), IsI k pa.num)] ∧ W9.cell? ⟨W1.heap.size, 0, none⟩ = some (.func (.func 75) #[] #[]) ∧ W9.cell? ⟨(W1.heap.size + 1), 0, none⟩ = some (.func (.func 76) #[] #[.pointer (some ⟨W1.heap.size, 0, none⟩), .pointer (some ⟨(W1.heap.size + 1), 0, none⟩)]) := by
    refine ⟨_, rfl, S.mono (((Ext.refl _).alloc _).alloc _), ?_, ?_⟩
    · exact ((Ext.refl _).alloc _).cell (by simp)
    · simp
  rw [← hW9]; clear hW9 S; have S := S9; clear S9
  refine rgs 4 [some 15, some 16, some 17, some 14] [IsQ (IsI k pa.num) (IsI k ((pa.den : Int))), IsV (.int .i64 sa), IsV (.bool false), IsV (.bool false)] [] ?_ ?_
  · refine Rc (ldQ S 5 4 (w.heap.size) 0 (Od.lit 2) ld_Rat rfl rfl) ?_
    refine Rc (cl1 (en Tryz.func35) (Od.lc (Φ := IsQ (IsI k pa.num) (IsI k ((pa.den : Int)))) 0 15) (fun x0 w' hE d0 => Calls.mono (qSign_f d0) fun _ _ h => h.int HSA.out)) ?_
    refine Rc (bn (r := .bool false) (Od.loc 1 16) Od.con (hr := fun w => by have hx9 := HSA1.out; go_simp)) ?_
    refine Rc (mv (Od.lc 2 17)) ?_
    exact RgAll.nil
  intro v W2 e1 hΦ _
  replace S := S.mono e1
  replace hFb := e1.cell hFb
  replace hSb := e1.cell hSb
  have v3 : v 3 = .bool false := hΦ 3 (by decide)
  simp only [layL, Act.put, List.setIfInBounds_toArray, List.set_cons_zero, List.set_cons_succ, Nat.reduceAdd]
  rw [v3]
  clear v3 hΦ e1
  refine wpList_nil ?_
  go_upto_region 8 with (fail)
  refine rgs 4 [some 23, some 24, some 25, some 22] [IsQ (IsI k pb.num) (IsI k ((pb.den : Int))), IsV (.int .i64 sb), IsV (.bool false), IsV (.bool false)] [] ?_ ?_
  · refine Rc (ldQ S 3 2 (w.heap.size + 1) 0 (Od.lit 3) ld_Rat rfl rfl) ?_
    refine Rc (cl1 (en Tryz.func35) (Od.lc (Φ := IsQ (IsI k pb.num) (IsI k ((pb.den : Int)))) 0 23) (fun x0 w' hE d0 => Calls.mono (qSign_f d0) fun _ _ h => h.int HSB.out)) ?_
    refine Rc (bn (r := .bool false) (Od.loc 1 24) Od.con (hr := fun w => by have hx9 := HSB1.out; go_simp)) ?_
    refine Rc (mv (Od.lc 2 25)) ?_
    exact RgAll.nil
  intro v W3 e1 hΦ _
  replace S := S.mono e1
  replace hFb := e1.cell hFb
  replace hSb := e1.cell hSb
  have v3 : v 3 = .bool false := hΦ 3 (by decide)
  simp only [layL, Act.put, List.setIfInBounds_toArray, List.set_cons_zero, List.set_cons_succ, Nat.reduceAdd]
  rw [v3]
  clear v3 hΦ e1
  refine wpList_nil ?_
  go_upto_region 10 with (fail)
  refine rgs 2 [some 33, some 34] [IsI 2 0, IsQ (IsI 2 0) (IsI 2 1)] [] ?_ ?_
  · refine Rc (cl1 (en Tryz.func78) Od.con (fun x0 w' hE d0 => by { obtain rfl : x0 = .int .i64 0 := d0; exact Of_f _ 0 (by decide) (by decide) })) ?_
    refine Rc (cl1 (en Tryz.func77) (Od.lc (Φ := IsI 2 0) 0 33) (fun x0 w' hE d0 => qwhole_c d0)) ?_
    exact RgAll.nil
  intro v W4 e1 hΦ _
  replace S := S.mono e1
  replace hFb := e1.cell hFb
  replace hSb := e1.cell hSb
  have h34 := hΦ 1 (by decide)
  simp only [layL, Act.put, List.setIfInBounds_toArray, List.set_cons_zero, List.set_cons_succ, Nat.reduceAdd]
  clear hΦ e1
  try simp only [List.drop_succ_cons, List.drop_zero]
  (with_reducible refine stL ?_ (by rfl)); intro KK hKK; refine stQ S 1 0 (w.heap.size + 1 + 1) 0 h34 (IsI.gstb _ _) (IsI.gstb _ _) st_Rat (fun W5 S2 G2 => hKK _ _ ?_) rfl rfl
  replace S := S2; clear S2 G2 hKK KK h34
  simp only [List.set_cons_zero, List.set_cons_succ] at S
  refine wpList_step fun K hK => ?_; go_simp; refine hK _ _ ?_; clear hK K
  refine wpList_nil ?_
  go_wp2_with fail
  obtain ⟨s90x, a90x, n90x, c90x, b90x, h90x⟩ := S.at 1 (w.heap.size + 1 + 1) 0 (IsI 2 0) rfl; have L90xa : World.cell? W5 ⟨w.heap.size + 1 + 1, 0, none⟩ = some (.bool s90x) := b90x.c0; have L90xb : World.cell? W5 ⟨w.heap.size + 1 + 1, 1, none⟩ = some (.slice a90x n90x c90x) := b90x.c1
  obtain ⟨s90y, a90y, n90y, c90y, b90y, h90y⟩ := S.at 0 (w.heap.size + 1 + 1) 1 (IsI 2 1) rfl; have L90ya : World.cell? W5 ⟨w.heap.size + 1 + 1, 2, none⟩ = some (.bool s90y) := b90y.c0; have L90yb : World.cell? W5 ⟨w.heap.size + 1 + 1, 3, none⟩ = some (.slice a90y n90y c90y) := b90y.c1
  exact bodyPost_ret (v := .tuple #[.agg #[.bool s90x, .slice a90x n90x c90x, .bool s90y, .slice a90y n90y c90y], .int .i64 0]) (by simp [results, Tryz.results19, go_sem, L90xa, L90xb, L90ya, L90yb]) rfl (⟨_, rfl, S.ext, ⟨_, _, rfl, ⟨_, _, _, _, _, _, _, _, rfl, h90x, h90y⟩, rfl⟩⟩)

theorem cop_pos {p : Rat} (h : 0 < p.num) : Nat.gcd p.num.toNat p.den = 1 := by
  have := p.reduced
  unfold Nat.Coprime at this
  rwa [show p.num.natAbs = p.num.toNat by omega] at this
theorem IsRat.toP {k : Nat} {p : Rat} {x : Value} {w : World} (h : IsRat k p x w) (hp : 0 < p.num) : IsP k p.num.toNat p.den x w := h.eqz (Int.toNat_of_nonneg (by omega)).symm rfl
theorem smp_rat {p q : Rat} (hp : 0 < p.num) (hle : p ≤ q) : Smp p.num.toNat p.den q.num.toNat q.den (smp (p.den + q.den + 1) p.num.toNat p.den q.num.toNat q.den).1 (smp (p.den + q.den + 1) p.num.toNat p.den q.num.toNat q.den).2 :=
  smp_ok _ _ _ _ _ (by omega) p.den_pos q.den_pos (le_smp hp hle).1 (by omega)
theorem clo_f {k : Nat} (h2 : 2 ≤ k) (hk : k ≤ 1000) {p q : Rat} (hp : 0 < p.num) (hle : p ≤ q) (w : World) (gF gS : Nat) (x y : Value) (hF : w.cell? ⟨gF, 0, none⟩ = some (.func (.func 75) #[] #[])) (hS : w.cell? ⟨gS, 0, none⟩ = some (.func (.func 76) #[] #[.pointer (some ⟨gF, 0, none⟩), .pointer (some ⟨gS, 0, none⟩)])) (hx : IsRat k p x w) (hy : IsRat k q y w) :
    Calls Tryz.prog 76 #[x, y, .pointer (some ⟨gF, 0, none⟩), .pointer (some ⟨gS, 0, none⟩)] w (Ret w (IsRat k (frac (smp (p.den + q.den + 1) p.num.toNat p.den q.num.toNat q.den).1 (smp (p.den + q.den + 1) p.num.toNat p.den q.num.toNat q.den).2))) := by
  have hs := smp_rat hp hle
  have hl := le_smp hp hle
  exact Calls.mono (simplest_f k ⟨h2, hk⟩ gF gS _ _ _ _ _ x y w (hx.toP hp) (hy.toP hl.2) (cop_pos hp) (cop_pos hl.2) (by omega) p.den_pos q.den_pos hl.1 (by omega) hF hS) fun _ _ h => h.mono fun _ _ h => h.rat hs.co hs.q0
theorem qBetweenE_f {k : Nat} {p q : Rat} {x y : Value} {w : World} (hx : IsRat k p x w) (hy : IsRat k q y w) (hk : k ≤ 1000) (hlt : q < p) : Calls Tryz.prog 19 #[x, y] w (Ret w (IsT2 (IsQ (IsI 0 0) (IsI 0 0)) (IsV (.int .i64 1)))) :=
  qBtw_E hx hy hk (cmpQ_gt hlt) (by decide)
theorem cmpQ_le {p q : Rat} (h : p ≤ q) : decide (0 < cmpQ p q) = false := by
  rw [decide_eq_false_iff_not]
  have := (Rat.le_iff p q).1 h
  unfold cmpQ cmpI
  split
  · decide
  · rw [if_neg (by omega)]; decide
theorem qBetween_f {k : Nat} {p q : Rat} {x y : Value} {w : World} (hx : IsRat k p x w) (hy : IsRat k q y w) (h2 : 2 ≤ k) (hk : k ≤ 1000) (hle : p ≤ q) : Calls Tryz.prog 19 #[x, y] w (Ret w (IsT2 (IsRat k (btwQ p q)) (IsV (.int .i64 0)))) := by
  unfold btwQ
  by_cases hp : 0 < p.num
  · rw [if_pos hp]
    exact qBtw_P hx hy hk rfl (cmpQ_le hle) rfl (by rw [decide_eq_true_iff, Int.sign_pos_iff]; exact hp) (clo_f h2 hk hp hle)
  · rw [if_neg hp]
    have hs0 : decide (0 < p.num.sign) = false := by rw [decide_eq_false_iff_not, Int.sign_pos_iff]; exact hp
    by_cases hq : q.num < 0
    · rw [if_pos hq]
      refine qBtw_N hx hy hk rfl (cmpQ_le hle) rfl hs0 rfl (by rw [decide_eq_true_iff, Int.sign_neg_iff]; exact hq) ?_
      exact clo_f (p := -q) (q := -p) h2 hk (by show 0 < -q.num; omega) (le_neg hle)
    · rw [if_neg hq]
      exact Calls.mono (qBtw_Z hx hy hk rfl (cmpQ_le hle) rfl hs0 rfl (by rw [decide_eq_false_iff_not, Int.sign_neg_iff]; exact hq)) fun _ _ h => h.mono fun _ _ ⟨a, b, h1, h3, h4⟩ => ⟨a, b, h1, h3.up h2 h2, h4⟩
end Go.Proofs.YtcgdkfadcglekaaGreatDoor
