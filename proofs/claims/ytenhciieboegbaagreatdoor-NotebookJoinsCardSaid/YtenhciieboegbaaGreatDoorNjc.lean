/-
  Package notebook: the checks of cells, variables, values of entries. (Printed by wip/gen/njc.py.)
-/
import Derived.Test.YtenhciieboegbaaGreatDoorNjb
namespace Go.Proofs.YtenhciieboegbaaGreatDoor
open Go Go.RowKit
theorem leaf_ok {b : Sc} {x : Nd} (h : x.op = 2 ∨ x.op = 11 ∨ x.op = 3 ∨ x.op = 1) : inS b x = b ∧
    (x.op = 2 → okN b x = (nameB x.nm && !b.contains x.nm && decide (x.n = 0 ∧ x.lo = 0 ∧ x.hi = 0 ∧ x.v = 0 ∧ x.ps.length = 0))) ∧
    (x.op = 11 → okN b x = (nameB x.nm && b.contains x.nm && decide (x.n = 0 ∧ x.lo = 0 ∧ x.hi = 0 ∧ x.v = 0 ∧ x.ps.length = 0))) ∧
    (x.op = 3 → okN b x = (patB b x.nm && decide (0 ≤ x.n) && decide (x.n ≤ 63) && decide (x.lo = 0 ∧ x.hi = 0 ∧ x.v = 0 ∧ x.ps.length = 0))) ∧
    (x.op = 1 → okN b x = (decide (x.v.natAbs < 2 ^ 256) && decide (x.nm = [] ∧ x.n = 0 ∧ x.lo = 0 ∧ x.hi = 0 ∧ x.ps.length = 0))) := by
  have hb : bindO x.op = false := by rcases h with h | h | h | h <;> rw [h] <;> rfl
  refine ⟨by rw [inS, hb]; rfl, fun e => ?_, fun e => ?_, fun e => ?_, fun e => ?_⟩
  all_goals
    unfold okN okF
    rw [e]
    simp only [Bool.decide_and, Bool.and_assoc]
    simp
set_option maxRecDepth 100000 in
set_option maxHeartbeats 4000000 in
theorem check2_f {b : Sc} {x : Nd} {us : List Value} {v : Value} {w : World} (hv : IsSc 0 b v w) (hb : b.length ≤ 4611686018427387904) (hx : NdC 0 w x us) (hl : x.nm.length ≤ 4611686018427387904) (hop : x.op = 2) : Calls Tryz.prog 101 #[v, .agg us.toArray] w (CkP b x w) := by
  obtain ⟨h2, h1⟩ := leaf_ok (b := b) (x := x) (by omega)
  obtain ⟨r, hr⟩ : ∃ r, okN b x = r := ⟨_, rfl⟩
  unfold CkP
  rw [hr, h2]
  obtain ⟨s, a, m, c, ao, cp, rfl, hI, -, -, -⟩ := hx.out
  have hz := hI.zr
  have hr2 := h1.1 hop
  rw [hr] at hr2
  obtain ⟨z, hzz⟩ : ∃ z, decide (x.n = 0 ∧ x.lo = 0 ∧ x.hi = 0 ∧ x.v = 0 ∧ x.ps.length = 0) = z := ⟨_, rfl⟩
  have hp : decide (x.nm = x.nm ∧ x.n = 0 ∧ x.lo = 0 ∧ x.hi = 0 ∧ m = 0 ∧ s = false ∧ x.ps.length = 0) = z := by rw [← hzz]; apply decide_eq_decide.2; rw [← hz]; simp [and_assoc]
  rw [hzz] at hr2
  clear h1 h2 hr hI hx hop hz hzz
  generalize x.op = op at *
  generalize x.nm = nm at *
  generalize x.n = n at *
  generalize x.lo = lo at *
  generalize x.hi = hi at *
  generalize x.ps.length = l at *
  have hN := fun w => isName_f vlsC nm w hl
  have hC := fun w' (e : Ext w w') => containsS_f ((hv.sr).ext e) nm hb
  obtain ⟨p1, hp1⟩ : ∃ q, nameB nm = q := ⟨_, rfl⟩
  obtain ⟨p2, hp2⟩ : ∃ q, b.contains nm = q := ⟨_, rfl⟩
  rw [hp1, hp2] at hr2
  obtain ⟨sb, hsb⟩ : ∃ y, (⟨nm.toArray⟩ : ByteArray) = y := ⟨_, rfl⟩
  have hx1 : encS nm = .string sb := by rw [encS, hsb]
  have hP : ∀ w : World, Calls Tryz.prog 100 #[.agg #[.int .i64 op, encS nm, .int .i64 n, .bool s, .slice a m c, .int .i64 lo, .int .i64 hi, .slice ao l cp], .agg #[.int .i64 0, encS nm, .int .i64 0, .bool false, .slice none 0 0, .int .i64 0, .int .i64 0, .slice none 0 0]] w (RVal w (.bool z)) := fun w => by rw [← hp]; exact plain_f
  simp only [hp1, hp2, hx1] at hN hC hP
  have HN := hid hN
  have HC := hid hC
  have HP := hid hP
  have HV := hid hv
  have HR := hid hr2
  rw [hx1]
  clear hr2 hv hN hC hP hx1 hsb hp hp1 hp2 hl hb
  obtain ⟨W, hW, E, B⟩ : ∃ W, W = w.alloc (.cells #[.int .i64 op, .string sb, .int .i64 n, .bool s, .slice a m c, .int .i64 lo, .int .i64 hi, .slice ao l cp] 32) ∧ Ext w W ∧ Bk W w.heap.size [.int .i64 op, .string sb, .int .i64 n, .bool s, .slice a m c, .int .i64 lo, .int .i64 hi, .slice ao l cp] :=
    ⟨_, rfl, (Ext.refl w).alloc _, Bk.new w _ _⟩
  have B0 := hid B
  have E0 := hid E
  clear B E
  cases p1
  all_goals cases p2
  all_goals
    go_enter Tryz.func101, Tryz.ntmps101
    go_upto_region 1 with (fail)
    rw [← hW]
    clear hW
    have B := B0.out
    have c1 := B.c 1 _ rfl
    go_wp2_with (first
      | (go_at_call 32; refine Calls.mono (HN.out _) ?_; rintro e w1 ⟨rfl, e1⟩; have B1 := B.ext e1; have c0 := B1.c 0 _ rfl; have c1 := B1.c 1 _ rfl; have c2 := B1.c 2 _ rfl; have c3 := B1.c 3 _ rfl; have c4 := B1.c 4 _ rfl; have c5 := B1.c 5 _ rfl; have c6 := B1.c 6 _ rfl; have c7 := B1.c 7 _ rfl)
      | (go_at_call 102; refine Calls.mono (HC.out _ (E0.out.trans e1)) ?_; rintro e w2 ⟨rfl, rfl⟩)
      | (go_at_call 100; go_must (refine Calls.mono (HP.out _) ?_); rintro e w3 ⟨rfl, e3⟩))
    all_goals first
      | (go_ret2; exact ⟨(E0.out.trans e1).trans e3, v, by rw [HR.out]; rfl, fun _ => HV.out.ext ((E0.out.trans e1).trans e3)⟩)
      | (go_ret2; exact ⟨E0.out.trans e1, v, by rw [HR.out]; rfl, fun _ => HV.out.ext (E0.out.trans e1)⟩)
set_option maxRecDepth 100000 in
set_option maxHeartbeats 4000000 in
theorem check3_f {b : Sc} {x : Nd} {us : List Value} {v : Value} {w : World} (hv : IsSc 0 b v w) (hb : b.length ≤ 4611686018427387904) (hx : NdC 0 w x us) (hl : x.nm.length ≤ 4611686018427387904) (hop : x.op = 11) : Calls Tryz.prog 103 #[v, .agg us.toArray] w (CkP b x w) := by
  obtain ⟨h2, h1⟩ := leaf_ok (b := b) (x := x) (by omega)
  obtain ⟨r, hr⟩ : ∃ r, okN b x = r := ⟨_, rfl⟩
  unfold CkP
  rw [hr, h2]
  obtain ⟨s, a, m, c, ao, cp, rfl, hI, -, -, -⟩ := hx.out
  have hz := hI.zr
  have hr2 := h1.2.1 hop
  rw [hr] at hr2
  obtain ⟨z, hzz⟩ : ∃ z, decide (x.n = 0 ∧ x.lo = 0 ∧ x.hi = 0 ∧ x.v = 0 ∧ x.ps.length = 0) = z := ⟨_, rfl⟩
  have hp : decide (x.nm = x.nm ∧ x.n = 0 ∧ x.lo = 0 ∧ x.hi = 0 ∧ m = 0 ∧ s = false ∧ x.ps.length = 0) = z := by rw [← hzz]; apply decide_eq_decide.2; rw [← hz]; simp [and_assoc]
  rw [hzz] at hr2
  clear h1 h2 hr hI hx hop hz hzz
  generalize x.op = op at *
  generalize x.nm = nm at *
  generalize x.n = n at *
  generalize x.lo = lo at *
  generalize x.hi = hi at *
  generalize x.ps.length = l at *
  have hN := fun w => isName_f vlsC nm w hl
  have hC := fun w' (e : Ext w w') => containsS_f ((hv.sr).ext e) nm hb
  obtain ⟨p1, hp1⟩ : ∃ q, nameB nm = q := ⟨_, rfl⟩
  obtain ⟨p2, hp2⟩ : ∃ q, b.contains nm = q := ⟨_, rfl⟩
  rw [hp1, hp2] at hr2
  obtain ⟨sb, hsb⟩ : ∃ y, (⟨nm.toArray⟩ : ByteArray) = y := ⟨_, rfl⟩
  have hx1 : encS nm = .string sb := by rw [encS, hsb]
  have hP : ∀ w : World, Calls Tryz.prog 100 #[.agg #[.int .i64 op, encS nm, .int .i64 n, .bool s, .slice a m c, .int .i64 lo, .int .i64 hi, .slice ao l cp], .agg #[.int .i64 0, encS nm, .int .i64 0, .bool false, .slice none 0 0, .int .i64 0, .int .i64 0, .slice none 0 0]] w (RVal w (.bool z)) := fun w => by rw [← hp]; exact plain_f
  simp only [hp1, hp2, hx1] at hN hC hP
  have HN := hid hN
  have HC := hid hC
  have HP := hid hP
  have HV := hid hv
  have HR := hid hr2
  rw [hx1]
  clear hr2 hv hN hC hP hx1 hsb hp hp1 hp2 hl hb
  obtain ⟨W, hW, E, B⟩ : ∃ W, W = w.alloc (.cells #[.int .i64 op, .string sb, .int .i64 n, .bool s, .slice a m c, .int .i64 lo, .int .i64 hi, .slice ao l cp] 32) ∧ Ext w W ∧ Bk W w.heap.size [.int .i64 op, .string sb, .int .i64 n, .bool s, .slice a m c, .int .i64 lo, .int .i64 hi, .slice ao l cp] :=
    ⟨_, rfl, (Ext.refl w).alloc _, Bk.new w _ _⟩
  have B0 := hid B
  have E0 := hid E
  clear B E
  cases p1
  all_goals cases p2
  all_goals
    go_enter Tryz.func103, Tryz.ntmps103
    go_upto_region 1 with (fail)
    rw [← hW]
    clear hW
    have B := B0.out
    have c1 := B.c 1 _ rfl
    go_wp2_with (first
      | (go_at_call 32; refine Calls.mono (HN.out _) ?_; rintro e w1 ⟨rfl, e1⟩; have B1 := B.ext e1; have c0 := B1.c 0 _ rfl; have c1 := B1.c 1 _ rfl; have c2 := B1.c 2 _ rfl; have c3 := B1.c 3 _ rfl; have c4 := B1.c 4 _ rfl; have c5 := B1.c 5 _ rfl; have c6 := B1.c 6 _ rfl; have c7 := B1.c 7 _ rfl)
      | (go_at_call 102; refine Calls.mono (HC.out _ (E0.out.trans e1)) ?_; rintro e w2 ⟨rfl, rfl⟩)
      | (go_at_call 100; go_must (refine Calls.mono (HP.out _) ?_); rintro e w3 ⟨rfl, e3⟩))
    all_goals first
      | (go_ret2; exact ⟨(E0.out.trans e1).trans e3, v, by rw [HR.out]; rfl, fun _ => HV.out.ext ((E0.out.trans e1).trans e3)⟩)
      | (go_ret2; exact ⟨E0.out.trans e1, v, by rw [HR.out]; rfl, fun _ => HV.out.ext (E0.out.trans e1)⟩)
set_option maxRecDepth 100000 in
set_option maxHeartbeats 4000000 in
theorem check4_f {b : Sc} {x : Nd} {us : List Value} {v : Value} {w : World} (hv : IsSc 0 b v w) (hb : b.length ≤ 4611686018427387904) (hx : NdC 0 w x us) (hl : x.nm.length ≤ 4611686018427387904) (hop : x.op = 3) : Calls Tryz.prog 104 #[v, .agg us.toArray] w (CkP b x w) := by
  obtain ⟨h2, h1⟩ := leaf_ok (b := b) (x := x) (by omega)
  obtain ⟨r, hr⟩ : ∃ r, okN b x = r := ⟨_, rfl⟩
  unfold CkP
  rw [hr, h2]
  obtain ⟨s, a, m, c, ao, cp, rfl, hI, -, -, -⟩ := hx.out
  have hz := hI.zr
  have hr2 := h1.2.2.1 hop
  rw [hr] at hr2
  obtain ⟨z, hzz⟩ : ∃ z, decide (x.lo = 0 ∧ x.hi = 0 ∧ x.v = 0 ∧ x.ps.length = 0) = z := ⟨_, rfl⟩
  have hp : decide (x.nm = x.nm ∧ x.n = x.n ∧ x.lo = 0 ∧ x.hi = 0 ∧ m = 0 ∧ s = false ∧ x.ps.length = 0) = z := by rw [← hzz]; apply decide_eq_decide.2; rw [← hz]; simp [and_assoc]
  rw [hzz] at hr2
  clear h1 h2 hr hI hx hop hz hzz
  generalize x.op = op at *
  generalize x.nm = nm at *
  generalize x.n = n at *
  generalize x.lo = lo at *
  generalize x.hi = hi at *
  generalize x.ps.length = l at *
  have hN := fun w' (e : Ext w w') => pattern_f ((hv.sr).ext e) hb nm hl
  obtain ⟨p1, hp1⟩ : ∃ q, patB b nm = q := ⟨_, rfl⟩
  rw [hp1] at hr2
  obtain ⟨sb, hsb⟩ : ∃ y, (⟨nm.toArray⟩ : ByteArray) = y := ⟨_, rfl⟩
  have hx1 : encS nm = .string sb := by rw [encS, hsb]
  have hP : ∀ w : World, Calls Tryz.prog 100 #[.agg #[.int .i64 op, encS nm, .int .i64 n, .bool s, .slice a m c, .int .i64 lo, .int .i64 hi, .slice ao l cp], .agg #[.int .i64 0, encS nm, .int .i64 n, .bool false, .slice none 0 0, .int .i64 0, .int .i64 0, .slice none 0 0]] w (RVal w (.bool z)) := fun w => by rw [← hp]; exact plain_f
  simp only [hp1, hx1] at hN hP
  have HN := hid hN
  have HP := hid hP
  have HV := hid hv
  have HR := hid hr2
  rw [hx1]
  clear hr2 hv hN hP hx1 hsb hp hp1 hl hb
  obtain ⟨W, hW, E, B⟩ : ∃ W, W = w.alloc (.cells #[.int .i64 op, .string sb, .int .i64 n, .bool s, .slice a m c, .int .i64 lo, .int .i64 hi, .slice ao l cp] 32) ∧ Ext w W ∧ Bk W w.heap.size [.int .i64 op, .string sb, .int .i64 n, .bool s, .slice a m c, .int .i64 lo, .int .i64 hi, .slice ao l cp] :=
    ⟨_, rfl, (Ext.refl w).alloc _, Bk.new w _ _⟩
  have B0 := hid B
  have E0 := hid E
  clear B E
  cases p1
  all_goals
    go_enter Tryz.func104, Tryz.ntmps104
    go_upto_region 1 with (fail)
    rw [← hW]
    clear hW
    have B := B0.out
    have c1 := B.c 1 _ rfl
    go_wp2_with (first
      | (go_at_call 105; refine Calls.mono (HN.out _ E0.out) ?_; rintro e w1 ⟨rfl, e1⟩; have B1 := B.ext e1; have c0 := B1.c 0 _ rfl; have c1 := B1.c 1 _ rfl; have c2 := B1.c 2 _ rfl; have c3 := B1.c 3 _ rfl; have c4 := B1.c 4 _ rfl; have c5 := B1.c 5 _ rfl; have c6 := B1.c 6 _ rfl; have c7 := B1.c 7 _ rfl)
      | (go_at_call 100; go_must (refine Calls.mono (HP.out _) ?_); rintro e w3 ⟨rfl, e3⟩))
    all_goals first
      | (go_ret2; exact ⟨(E0.out.trans e1).trans e3, v, by rw [HR.out]; by_cases q1 : 0 ≤ n <;> by_cases q2 : n ≤ 63 <;> first | (exfalso; omega) | (simp [q1, q2]), fun _ => HV.out.ext ((E0.out.trans e1).trans e3)⟩)
      | (go_ret2; exact ⟨E0.out.trans e1, v, by rw [HR.out]; by_cases q1 : 0 ≤ n <;> by_cases q2 : n ≤ 63 <;> first | (exfalso; omega) | (simp [q1, q2]), fun _ => HV.out.ext (E0.out.trans e1)⟩)
end Go.Proofs.YtenhciieboegbaaGreatDoor
