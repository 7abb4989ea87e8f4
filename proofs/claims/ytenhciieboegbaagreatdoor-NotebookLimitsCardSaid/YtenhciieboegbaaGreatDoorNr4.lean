/-
  The reference: which expressions are as described (good). (Printed by wip/gen/nr4.py.)
-/
import Derived.Test.YtenhciieboegbaaGreatDoorNr5
import Derived.Test.YtenhciieboegbaaGreatDoorVld
namespace Go.Proofs.YtenhciieboegbaaGreatDoor
open Go Go.RowKit Go.Maps
section
variable {ops : Array Oper} {Q : Exit → Act → World → Prop} {ds : List (Option Tmp)} {a0 : Act} {w0 : World} {L : List (Value → World → Prop)} {boxes : List Nat} {i k : Nat} {o : Oper} {os : List Oper}
theorem lenNd {ao : Option Addr} {n c : Nat} {x : Operand} (hx : Od ops ds a0 w0 L i x (IsV (.slice ao n c))) (ho : o.op = .call { callee := .builtin .len, args := #[x], argTypes := #[30] } := by rfl) (hi : L.getD i (fun _ _ => True) = IsV (.int .i64 ((n : Nat) : Int)) := by kernel_rfl) (hb : boxes.contains i = false := by kernel_rfl) : Ok Tryz.prog ops Q ds a0 w0 L boxes i o :=
  Ok.of hb fun v a w hE hd hf => by
    have h1 : a.eval x = _ := hx.out v a w hE hd hf
    refine ⟨_, ?_, by rw [hi]; exact rfl⟩
    unfold execOp
    rw [ho]
    dsimp only
    unfold resolve
    simp only [List.map_toArray, List.map_cons, List.map_nil, h1]
    go_simp
end
theorem RBitsI_f {k1 : Nat} {z1 : Int} {x : Value} {w : World} (hx : IsI k1 z1 x w) (l1 : k1 ≤ 268435456) : Calls Tryz.prog 67 #[x] w (Ret w (IsV (.int .i64 (bitLen z1.natAbs : Nat)))) := by
  obtain ⟨s, a, n, c, rfl, h1⟩ := hx
  exact Calls.mono (RBits_c w s a n c k1 z1 h1 l1) fun _ _ h => h.ret
theorem fa_Nd3 (g : Nat) (w : World) : (Instr.fieldAt 32 (.pointer (some ⟨g, 0, none⟩)) 3).run Tryz.prog w = .ok (.pointer (some ⟨g, 3, none⟩)) w := by go_simp
theorem ld_NdV {w : World} {g : Nat} {v0 v1 v2 : Value} {s : Bool} {a : Option Addr} {m c : Nat} {l : List Value} (B : Bk w g (v0 :: v1 :: v2 :: .bool s :: .slice a m c :: l)) : (Instr.loadAt 29 (.pointer (some ⟨g, 3, none⟩))).run Tryz.prog w = .ok (.agg #[.bool s, .slice a m c]) w :=
  ldM (T := 29) (m := 2) (vs := [.bool s, .slice a m c]) (by kernel_rfl) (by kernel_rfl) rfl (fun j v hj => B.c (3 + j) v (by have h := apL _ l hj; rw [Nat.add_comm]; simpa using h))
theorem gdN_two {k : Nat} {b : Sc} {op : Int} {nm : List UInt8} {xn z lo hi : Int} {y0 y1 : Nd} (h : joinO op = true) : gdN (k + 1) b (.mk op nm xn z lo hi [y0, y1]) = (decide (nm = []) && (decide (xn = 0) && (decide (z = 0) && ((decide (lo = 0) && decide (hi = 0)) && (gdN k b y0 && gdN k b y1))))) := by
  have h1 := joins_ok (b := b) (x := .mk op nm xn z lo hi [y0, y1]) h
  rw [gdN, h1.1, h1.2, Bool.eq_iff_iff]
  simp only [Nd.nm, Nd.n, Nd.lo, Nd.hi, Nd.v, Nd.ps, List.all_cons, List.all_nil, Bool.and_true, Bool.and_eq_true, decide_eq_true_eq, List.length_cons, List.length_nil]
  constructor
  · rintro ⟨⟨q1, q2, q3, q4, q5, -⟩, q6, q7⟩; exact ⟨q1, q2, q5, ⟨q3, q4⟩, q6, q7⟩
  · rintro ⟨q1, q2, q5, ⟨q3, q4⟩, q6, q7⟩; exact ⟨⟨q1, q2, q3, q4, q5, trivial⟩, q6, q7⟩
theorem gdN_two_no {k : Nat} {b : Sc} {x : Nd} (h : joinO x.op = true) (hl : x.ps.length ≠ 2) : gdN (k + 1) b x = false := by
  rw [gdN, (joins_ok h).1, decide_eq_false (fun q => hl q.2.2.2.2.2)]; rfl
theorem gdN_bind {k : Nat} {b : Sc} {op : Int} {nm : List UInt8} {xn z lo hi : Int} {ps : List Nd} (h : bindO op = true) : gdN (k + 1) b (.mk op nm xn z lo hi ps) = (!(((((((decide (xn ≠ 0) || !decide (z = 0)) || !nameB nm) || decide (lo < -1000000)) || decide (1000000 < hi)) || decide (hi < lo)) || decide (1000 ≤ hi - lo)) || decide (ps.length ≠ 1)) && ps.all (gdN k (b ++ [nm]))) := by
  have hin : inS b (.mk op nm xn z lo hi ps) = b ++ [nm] := by simp [inS, Nd.op, Nd.nm, h]
  have h6 : op = 9 ∨ op = 10 := by simpa [bindO] using h
  have hok : okN b (.mk op nm xn z lo hi ps) = !(((((((decide (xn ≠ 0) || !decide (z = 0)) || !nameB nm) || decide (lo < -1000000)) || decide (1000000 < hi)) || decide (hi < lo)) || decide (1000 ≤ hi - lo)) || decide (ps.length ≠ 1)) := by
    show okF b op nm xn z lo hi ps.length = _
    unfold okF
    rw [if_neg (by omega), if_neg (by omega), if_neg (by omega), if_neg (by omega), if_pos h, Bool.eq_iff_iff]
    simp only [Bool.and_eq_true, decide_eq_true_eq, Bool.not_eq_true', Bool.or_eq_false_iff, decide_eq_false_iff_not, Bool.not_eq_false']
    constructor
    · rintro ⟨⟨⟨⟨⟨q1, q2⟩, q3⟩, q4⟩, q5⟩, ⟨q6, q7⟩, q8⟩; exact ⟨⟨⟨⟨⟨⟨⟨by omega, q7⟩, q1⟩, by omega⟩, by omega⟩, by omega⟩, by omega⟩, by omega⟩
    · rintro ⟨⟨⟨⟨⟨⟨⟨q1, q2⟩, q3⟩, q4⟩, q5⟩, q6⟩, q7⟩, q8⟩; exact ⟨⟨⟨⟨⟨q3, by omega⟩, by omega⟩, by omega⟩, by omega⟩, ⟨by omega, q2⟩, by omega⟩
  rw [gdN, hok, hin]
  rfl
theorem gdN_leaf {k : Nat} {b : Sc} {op : Int} {nm : List UInt8} {xn z lo hi : Int} {ps : List Nd} (h1 : joinO op = false) (h2 : bindO op = false) : (¬ (ps.length = 0 ∧ lo = 0 ∧ hi = 0) → gdN (k + 1) b (.mk op nm xn z lo hi ps) = false) ∧
    (¬ (op = 1 ∨ op = 3 ∨ op = 2 ∨ op = 11) → gdN (k + 1) b (.mk op nm xn z lo hi ps) = false) ∧ (ps = [] → lo = 0 → hi = 0 →
    (op = 1 → gdN (k + 1) b (.mk op nm xn z lo hi ps) = ((decide (nm = []) && decide (xn = 0)) && decide (z.natAbs < 2 ^ 256))) ∧
    (op = 3 → gdN (k + 1) b (.mk op nm xn z lo hi ps) = (((decide (z = 0) && decide (0 ≤ xn)) && decide (xn ≤ 63)) && patB b nm)) ∧
    (op = 2 ∨ op = 11 → gdN (k + 1) b (.mk op nm xn z lo hi ps) = (((decide (z = 0) && decide (xn = 0)) && nameB nm) && (decide (nm ∈ b) == decide (op = 11))))) := by
  have key : gdN (k + 1) b (.mk op nm xn z lo hi ps) = (okF b op nm xn z lo hi ps.length && ps.all (gdN k (inS b (.mk op nm xn z lo hi ps)))) := rfl
  refine ⟨fun h => ?_, fun h => ?_, ?_⟩
  · rw [key]
    have : okF b op nm xn z lo hi ps.length = false := by
      unfold okF
      rw [h1, h2]
      rw [Bool.eq_false_iff]
      intro h9
      apply h
      split at h9
      · simp only [Bool.and_eq_true, decide_eq_true_eq] at h9; omega
      split at h9
      · simp only [Bool.and_eq_true, decide_eq_true_eq] at h9; omega
      split at h9
      · simp only [Bool.and_eq_true, decide_eq_true_eq] at h9; omega
      split at h9
      · simp only [Bool.and_eq_true, decide_eq_true_eq] at h9; omega
      · simp at h9
    rw [this]; rfl
  · rw [key]
    have : okF b op nm xn z lo hi ps.length = false := by
      unfold okF
      rw [if_neg (by omega), if_neg (by omega), if_neg (by omega), if_neg (by omega), h1, h2]; rfl
    rw [this]; rfl
  · rintro rfl rfl rfl
    rw [key]
    refine ⟨fun e => ?_, fun e => ?_, fun e => ?_⟩
    · subst e; simp [okF]; rw [Bool.eq_iff_iff]; simp only [Bool.and_eq_true, decide_eq_true_eq]; constructor
      · rintro ⟨q1, q2, q3⟩; exact ⟨⟨q2, q3⟩, q1⟩
      · rintro ⟨⟨q2, q3⟩, q1⟩; exact ⟨q1, q2, q3⟩
    · subst e; simp [okF]; rw [Bool.eq_iff_iff]; simp only [Bool.and_eq_true, decide_eq_true_eq]; constructor
      · rintro ⟨⟨⟨q1, q2⟩, q3⟩, q4⟩; exact ⟨⟨⟨q4, q2⟩, q3⟩, q1⟩
      · rintro ⟨⟨⟨q4, q2⟩, q3⟩, q1⟩; exact ⟨⟨⟨q1, q2⟩, q3⟩, q4⟩
    · rcases e with rfl | rfl
      · by_cases hm : nm ∈ b <;> by_cases h3 : xn = 0 <;> by_cases h4 : z = 0 <;> simp [okF, hm, h3, h4]
      · by_cases hm : nm ∈ b <;> by_cases h3 : xn = 0 <;> by_cases h4 : z = 0 <;> simp [okF, hm, h3, h4]
section
set_option maxRecDepth 100000
set_option maxHeartbeats 16000000
theorem good_f : ∀ (k : Nat) (b : Sc) (x : Nd) (us : List Value) (v : Value) (w : World), IsSg b v w → b.length + k ≤ 900000 → NdC 0 w x us → Calls Tryz.prog 36 #[.agg us.toArray, v, .int .i64 ((k : Nat) : Int)] w (RVal w (.bool (gdN k b x))) := by
  intro k
  induction k with
  | zero =>
    intro b x us v w hv hb hx
    obtain ⟨s, a, m, c, ao, cp, rfl, -⟩ := hx.out
    obtain ⟨W, hW, E, -⟩ := nd_block w [.int .i64 x.op, encS x.nm, .int .i64 x.n, .bool s, .slice a m c, .int .i64 x.lo, .int .i64 x.hi, .slice ao x.ps.length cp]
    have HE := hid E
    rw [gdN]
    clear hv hb hx E
    go_enter Tryz.func36, Tryz.ntmps36
    go_upto_region 1 with (fail)
    rw [← hW]
    clear hW
    go_wp2_with fail
    go_ret
    exact ⟨rfl, HE.out⟩
  | succ k ih =>
    rintro b ⟨op, nm, xn, z, lo, hi, ps⟩ us v w hv hb hx
    obtain ⟨s, a, m, c, ao, cp, rfl, hI, hc1, hc2, hps⟩ := hx.out
    simp only [Nd.op, Nd.nm, Nd.n, Nd.v, Nd.lo, Nd.hi, Nd.ps] at *
    have IH := hid ih
    have HV := hid (And.intro hv hb)
    have HX := hid hx
    have HI := hid hI
    have HP := hid hps
    obtain ⟨n, hn⟩ : ∃ n, ps.length = n := ⟨_, rfl⟩
    have HN := hid (show ps.length = n ∧ n ≤ cp ∧ cp ≤ 9223372036854775807 from ⟨hn, hn ▸ hc1, hc2⟩)
    rw [hn] at HX
    rw [hn]
    obtain ⟨d, hd⟩ : ∃ d : Int, ((k + 1 : Nat) : Int) = d := ⟨_, rfl⟩
    have hd1 : ¬ d < 1 := by omega
    have HDW := hid (show IntKind.i64.wrap (d - 1) = ((k : Nat) : Int) by have := hb; simp only [IntKind.wrap_i64]; omega)
    rw [hd]
    obtain ⟨W, hW, E, B⟩ := nd_block w [.int .i64 op, encS nm, .int .i64 xn, .bool s, .slice a m c, .int .i64 lo, .int .i64 hi, .slice ao n cp]
    have HB := hid B
    have HE := hid E
    clear ih hv hb hx hI hps hn hd hc1 hc2 B E
    go_enter Tryz.func36, Tryz.ntmps36
    go_upto_region 1 with (fail)
    rw [← hW]
    clear hW
    go_upto_region 3 with (fail)
    obtain ⟨l1, hl1⟩ : ∃ r, decide (lo = 0) = r := ⟨_, rfl⟩
    have Hl1 := hid hl1
    clear hl1
    obtain ⟨l2, hl2⟩ : ∃ r, decide (hi = 0) = r := ⟨_, rfl⟩
    have Hl2 := hid hl2
    clear hl2
    obtain ⟨sp, hsp⟩ : ∃ r, (l1 && l2) = r := ⟨_, rfl⟩
    have Hsp := hid hsp
    clear hsp
    refine rgs 9 [some 10, some 11, some 12, some 13, some 14, some 15, some 16, some 17, some 7] [IsV (.pointer (some ⟨w.heap.size, 5, none⟩)), IsV (.int .i64 lo), IsV (.bool l1), IsV (.bool l1), IsIf l1 (IsV (.pointer (some ⟨w.heap.size, 6, none⟩))), IsIf l1 (IsV (.int .i64 hi)), IsIf l1 (IsV (.bool l2)), IsV (.bool sp), IsV (.bool sp)] [] ?_ ?_ (hst := by repeat' (first | exact trivial | exact IsV.stb _ | apply IsIf.stb | apply And.intro))
    · refine Rc (fa (fa_Nd4 w.heap.size) (Od.lit 3)) ?_
      refine Rc (lvC 5 (HB.out) ld_i (Od.lc 0 10)) ?_
      refine Rc (bn (r := .bool l1) (Od.lc (Φ := IsV (.int .i64 lo)) 1 11) Od.con (hr := fun w => by have hx9 := (show (lo == 0) = l1 from Hl1.out); go_simp)) ?_
      refine Rc (mv (Od.lc (Φ := IsV (.bool l1)) 2 12)) ?_
      refine RcB 3 13 l1 true (fun hb => by subst hb; exact fa (fa_Nd5 w.heap.size) (Od.lit 3)) ?_
      refine RcB 3 13 l1 true (fun hb => by subst hb; exact lvC 6 (HB.out) ld_i (Od.lc 4 14)) ?_
      refine RcB 3 13 l1 true (fun hb => by subst hb; exact bn (r := .bool l2) (Od.lc (Φ := IsV (.int .i64 hi)) 5 15) Od.con (hr := fun w => by have hx9 := (show (hi == 0) = l2 from Hl2.out); go_simp)) ?_
      refine Rc (pkA (Od.lc (Φ := IsV (.bool l1)) 3 13) (fun hb => by subst hb; exact (Od.lc (Φ := IsV (.bool l2)) 6 16)) Hsp.out) ?_
      refine Rc (mv (Od.lc (Φ := IsV (.bool sp)) 7 17)) ?_
      exact RgAll.nil
    intro u X3 e3 hΦ _
    have q9 : u 8 = .bool sp := hΦ 8 (by decide)
    simp only [layL, Act.put, List.setIfInBounds_toArray, List.set_cons_zero, List.set_cons_succ, Nat.reduceAdd]
    rw [q9]
    clear hΦ q9
    have HB3 := hid (HB.out.ext e3)
    have HE3 := hid (HE.out.trans e3)
    have c0 := HB3.out.c 0 _ rfl
    clear HB HE e3
    refine wpList_nil ?_
    by_cases hj : joinO op = true
    · have HJ := hid hj
      have HT := hid (fun w => by have h := two_f op w; rw [hj] at h; exact h)
      have HT : Hid (∀ w, Calls Tryz.prog 63 #[.int .i64 op] w (RSame w (.bool true))) := HT
      clear hj
      go_upto_region 5 with (go_at_call 63; refine Calls.mono (HT.out _) ?_; rintro e w4 ⟨rfl, rfl⟩)
      clear c0
      obtain ⟨b1, hb1⟩ : ∃ r, decide (nm = []) = r := ⟨_, rfl⟩
      have Hb1 := hid hb1
      clear hb1
      obtain ⟨b2, hb2⟩ : ∃ r, decide (xn = 0) = r := ⟨_, rfl⟩
      have Hb2 := hid hb2
      clear hb2
      obtain ⟨b3, hb3⟩ : ∃ r, decide (z = 0) = r := ⟨_, rfl⟩
      have Hb3 := hid hb3
      clear hb3
      obtain ⟨r2, hr2⟩ : ∃ r, (b1 && b2) = r := ⟨_, rfl⟩
      have Hr2 := hid hr2
      clear hr2
      obtain ⟨r3, hr3⟩ : ∃ r, (r2 && b3) = r := ⟨_, rfl⟩
      have Hr3 := hid hr3
      clear hr3
      obtain ⟨r4, hr4⟩ : ∃ r, (r3 && sp) = r := ⟨_, rfl⟩
      have Hr4 := hid hr4
      clear hr4
      have HZ := hid (show ∀ w', Ext w w' → Calls Tryz.prog 64 #[.agg [.int .i64 op, encS nm, .int .i64 xn, .bool s, .slice a m c, .int .i64 lo, .int .i64 hi, .slice ao n cp].toArray] w' (RVal w' (.bool (decide (z = 0)))) from fun w' e => zero_f (HX.out.ext e))
      rw [Hb3.out] at HZ
      by_cases hn2 : n = 2
      · subst hn2
        obtain ⟨y0, y1, rfl⟩ : ∃ y0 y1, ps = [y0, y1] := by
          have h := HN.out.1
          match ps, h with
          | [p, q], _ => exact ⟨p, q, rfl⟩
        obtain ⟨g, o, rfl, -, hR⟩ := HP.out (by simp)
        obtain ⟨us0, hl0, hc0, hy0⟩ := hR.get (i := 0) (x := y0) rfl
        obtain ⟨us1, hl1', hc1', hy1⟩ := hR.get (i := 1) (x := y1) rfl
        have HC0 := hid (And.intro hl0 (And.intro hc0 hy0))
        have HC1 := hid (And.intro hl1' (And.intro hc1' hy1))
        clear hR hl0 hc0 hy0 hl1' hc1' hy1
        have HZ : Hid (∀ w', Ext w w' → Calls Tryz.prog 64 #[.agg [.int .i64 op, encS nm, .int .i64 xn, .bool s, .slice a m c, .int .i64 lo, .int .i64 hi, .slice (some ⟨g, o, none⟩) 2 cp].toArray] w' (RVal w' (.bool b3))) := HZ
        obtain ⟨r5, hr5⟩ : ∃ r, (r4 && true) = r := ⟨_, rfl⟩
        have Hr5 := hid hr5
        clear hr5
        obtain ⟨q0, hq0⟩ : ∃ r, gdN k b y0 = r := ⟨_, rfl⟩
        have Hq0 := hid hq0
        clear hq0
        obtain ⟨q1, hq1⟩ : ∃ r, gdN k b y1 = r := ⟨_, rfl⟩
        have Hq1 := hid hq1
        clear hq1
        obtain ⟨r6, hr6⟩ : ∃ r, (r5 && q0) = r := ⟨_, rfl⟩
        have Hr6 := hid hr6
        clear hr6
        obtain ⟨r7, hr7⟩ : ∃ r, (r6 && q1) = r := ⟨_, rfl⟩
        have Hr7 := hid hr7
        clear hr7
        have HG := hid (show gdN (k + 1) b (.mk op nm xn z lo hi [y0, y1]) = r7 by
          rw [gdN_two HJ.out, Hq0.out, Hq1.out, Hb1.out, Hb2.out, Hb3.out, Hl1.out, Hl2.out, Hsp.out, ← Hr7.out, ← Hr6.out, ← Hr5.out, ← Hr4.out, ← Hr3.out, ← Hr2.out]
          simp only [Bool.and_assoc, Bool.and_true])
        have HD0 := hid (fun w' (e : Ext w w') => IH.out b y0 us0 v w' (HV.out.1.ext e) (by have := HV.out.2; omega) (HC0.out.2.2.ext e))
        have HD1 := hid (fun w' (e : Ext w w') => IH.out b y1 us1 v w' (HV.out.1.ext e) (by have := HV.out.2; omega) (HC1.out.2.2.ext e))
        rw [Hq0.out] at HD0
        rw [Hq1.out] at HD1
        have HD0 : Hid (∀ w', Ext w w' → Calls Tryz.prog 36 #[.agg us0.toArray, v, .int .i64 ((k : Nat) : Int)] w' (RVal w' (.bool q0))) := HD0
        have HD1 : Hid (∀ w', Ext w w' → Calls Tryz.prog 36 #[.agg us1.toArray, v, .int .i64 ((k : Nat) : Int)] w' (RVal w' (.bool q1))) := HD1
        refine rgs 42 [some 21, some 22, some 23, some 24, some 25, some 26, some 27, some 28, some 29, some 30, some 31, some 32, some 33, some 34, some 35, some 36, some 37, some 38, some 39, some 40, some 41, some 42, some 43, some 44, some 45, some 46, some 47, some 48, some 49, some 50, some 51, some 52, some 53, some 54, some 55, some 56, some 57, some 58, some 59, some 60, some 61, some 6] [IsV (.pointer (some ⟨w.heap.size, 1, none⟩)), IsV (encS nm), IsV (.bool b1), IsV (.bool b1), IsIf b1 (IsV (.pointer (some ⟨w.heap.size, 2, none⟩))), IsIf b1 (IsV (.int .i64 xn)), IsIf b1 (IsV (.bool b2)), IsV (.bool r2), IsV (.bool r2), IsIf r2 (IsV (.agg [.int .i64 op, encS nm, .int .i64 xn, .bool s, .slice a m c, .int .i64 lo, .int .i64 hi, .slice (some ⟨g, o, none⟩) 2 cp].toArray)), IsIf r2 (IsV (.bool b3)), IsV (.bool r3), IsV (.bool r3), IsIf r3 (IsV (.bool sp)), IsV (.bool r4), IsV (.bool r4), IsIf r4 (IsV (.pointer (some ⟨w.heap.size, 7, none⟩))), IsIf r4 (IsV (.slice (some ⟨g, o, none⟩) 2 cp)), IsIf r4 (IsV (.int .i64 ((2 : Nat) : Int))), IsIf r4 (IsV (.bool true)), IsV (.bool r5), IsV (.bool r5), IsIf r5 (IsV (.pointer (some ⟨w.heap.size, 7, none⟩))), IsIf r5 (IsV (.slice (some ⟨g, o, none⟩) 2 cp)), IsIf r5 (IsV (.pointer (some ⟨g, o + 8 * 0, none⟩))), IsIf r5 (IsV (.agg us0.toArray)), IsIf r5 (IsV (v)), IsIf r5 (IsV (.int .i64 d)), IsIf r5 (IsV (.int .i64 ((k : Nat) : Int))), IsIf r5 (IsV (.bool q0)), IsV (.bool r6), IsV (.bool r6), IsIf r6 (IsV (.pointer (some ⟨w.heap.size, 7, none⟩))), IsIf r6 (IsV (.slice (some ⟨g, o, none⟩) 2 cp)), IsIf r6 (IsV (.pointer (some ⟨g, o + 8 * 1, none⟩))), IsIf r6 (IsV (.agg us1.toArray)), IsIf r6 (IsV (v)), IsIf r6 (IsV (.int .i64 d)), IsIf r6 (IsV (.int .i64 ((k : Nat) : Int))), IsIf r6 (IsV (.bool q1)), IsV (.bool r7), IsV (.bool r7)] [] ?_ ?_ (hst := by repeat' (first | exact trivial | exact IsV.stb _ | apply IsIf.stb | apply And.intro))
        · refine Rc (fa (fa_Nd1 w.heap.size) (Od.lit 3)) ?_
          refine Rc (lvC 1 (HB3.out) ld_str (Od.lc 0 21)) ?_
          refine Rc (bn (r := .bool b1) (Od.lc (Φ := IsV (encS nm)) 1 22) Od.con (hr := fun w => by rw [encS]; have hx9 := (show (nm == []) = b1 from by rw [← Hb1.out]; cases nm <;> simp); go_simp)) ?_
          refine Rc (mv (Od.lc (Φ := IsV (.bool b1)) 2 23)) ?_
          refine RcB 3 24 b1 true (fun hb => by subst hb; exact fa (fa_Nd2 w.heap.size) (Od.lit 3)) ?_
          refine RcB 3 24 b1 true (fun hb => by subst hb; exact lvC 2 (HB3.out) ld_i (Od.lc 4 25)) ?_
          refine RcB 3 24 b1 true (fun hb => by subst hb; exact bn (r := .bool b2) (Od.lc (Φ := IsV (.int .i64 xn)) 5 26) Od.con (hr := fun w => by have hx9 := (show (xn == 0) = b2 from Hb2.out); go_simp)) ?_
          refine Rc (pkA (Od.lc (Φ := IsV (.bool b1)) 3 24) (fun hb => by subst hb; exact (Od.lc (Φ := IsV (.bool b2)) 6 27)) Hr2.out) ?_
          refine Rc (mv (Od.lc (Φ := IsV (.bool r2)) 7 28)) ?_
          refine RcB 8 29 r2 true (fun hb => by subst hb; exact lvV (HB3.out) ld_Nd (Od.lit 3)) ?_
          refine RcB 8 29 r2 true (fun hb => by subst hb; exact cl1 (Φ := IsV (.agg [.int .i64 op, encS nm, .int .i64 xn, .bool s, .slice a m c, .int .i64 lo, .int .i64 hi, .slice (some ⟨g, o, none⟩) 2 cp].toArray)) (Χ := IsV (.bool b3)) (en Tryz.func64) (Od.lc 9 30) (fun x0 w' hE d0 => by { obtain rfl : x0 = .agg [.int .i64 op, encS nm, .int .i64 xn, .bool s, .slice a m c, .int .i64 lo, .int .i64 hi, .slice (some ⟨g, o, none⟩) 2 cp].toArray := d0; exact Calls.mono (HZ.out w' (HE3.out.trans hE)) (fun e w2 h => ⟨_, h.1, h.2, rfl⟩) })) ?_
          refine Rc (pkA (Od.lc (Φ := IsV (.bool r2)) 8 29) (fun hb => by subst hb; exact (Od.lc (Φ := IsV (.bool b3)) 10 31)) Hr3.out) ?_
          refine Rc (mv (Od.lc (Φ := IsV (.bool r3)) 11 32)) ?_
          refine RcB 12 33 r3 true (fun hb => by subst hb; exact mv (Od.lit (x := .bool sp) 7)) ?_
          refine Rc (pkA (Od.lc (Φ := IsV (.bool r3)) 12 33) (fun hb => by subst hb; exact (Od.lc (Φ := IsV (.bool sp)) 13 34)) Hr4.out) ?_
          refine Rc (mv (Od.lc (Φ := IsV (.bool r4)) 14 35)) ?_
          refine RcB 15 36 r4 true (fun hb => by subst hb; exact fa (fa_Nd6 w.heap.size) (Od.lit 3)) ?_
          refine RcB 15 36 r4 true (fun hb => by subst hb; exact lvC 7 (HB3.out) ld_Nds (Od.lc 16 37)) ?_
          refine RcB 15 36 r4 true (fun hb => by subst hb; exact lenNd (Od.lc (Φ := IsV (.slice (some ⟨g, o, none⟩) 2 cp)) 17 38)) ?_
          refine RcB 15 36 r4 true (fun hb => by subst hb; exact bn (r := .bool true) (Od.lc (Φ := IsV (.int .i64 ((2 : Nat) : Int))) 18 39) Od.con (hr := fun w => by go_simp)) ?_
          refine Rc (pkA (Od.lc (Φ := IsV (.bool r4)) 15 36) (fun hb => by subst hb; exact (Od.lc (Φ := IsV (.bool true)) 19 40)) Hr5.out) ?_
          refine Rc (mv (Od.lc (Φ := IsV (.bool r5)) 20 41)) ?_
          refine RcB 21 42 r5 true (fun hb => by subst hb; exact fa (fa_Nd6 w.heap.size) (Od.lit 3)) ?_
          refine RcB 21 42 r5 true (fun hb => by subst hb; exact lvC 7 (HB3.out) ld_Nds (Od.lc 22 43)) ?_
          refine RcB 21 42 r5 true (fun hb => by subst hb; exact ixq (ix_Nd g o cp 2 0 (by decide)) (Od.lc (Φ := IsV (.slice (some ⟨g, o, none⟩) 2 cp)) 23 44) Od.con) ?_
          refine RcB 21 42 r5 true (fun hb => by subst hb; exact lv (Φ := IsV (.agg us0.toArray)) _ (fun w' e => ldM (by kernel_rfl) (by kernel_rfl) HC0.out.1 (fun j v hj => (HE3.out.trans e).cell (HC0.out.2.1 j v hj))) (Od.lc (Φ := IsV (.pointer (some ⟨g, o + 8 * 0, none⟩))) 24 45) (fun _ _ => rfl)) ?_
          refine RcB 21 42 r5 true (fun hb => by subst hb; exact mv (Od.lit (x := v) 1)) ?_
          refine RcB 21 42 r5 true (fun hb => by subst hb; exact mv (Od.lit (x := .int .i64 d) 2)) ?_
          refine RcB 21 42 r5 true (fun hb => by subst hb; exact bn (r := .int .i64 ((k : Nat) : Int)) (Od.lc (Φ := IsV (.int .i64 d)) 27 48) Od.con (hr := fun w => by have hx9 := HDW.out; go_simp)) ?_
          refine RcB 21 42 r5 true (fun hb => by subst hb; exact cl3 (Χ := IsV (.bool q0)) (en Tryz.func36) (Od.lc (Φ := IsV (.agg us0.toArray)) 25 46) (Od.lc (Φ := IsV v) 26 47) (Od.lc (Φ := IsV (.int .i64 ((k : Nat) : Int))) 28 49) (fun x0 y0 z0 w' hE d0 d1 d2 => by { obtain rfl : x0 = .agg us0.toArray := d0; obtain rfl : y0 = v := d1; obtain rfl : z0 = .int .i64 ((k : Nat) : Int) := d2; exact Calls.mono (HD0.out w' (HE3.out.trans hE)) (fun e w2 h => ⟨_, h.1, h.2, rfl⟩) })) ?_
          refine Rc (pkA (Od.lc (Φ := IsV (.bool r5)) 21 42) (fun hb => by subst hb; exact (Od.lc (Φ := IsV (.bool q0)) 29 50)) Hr6.out) ?_
          refine Rc (mv (Od.lc (Φ := IsV (.bool r6)) 30 51)) ?_
          refine RcB 31 52 r6 true (fun hb => by subst hb; exact fa (fa_Nd6 w.heap.size) (Od.lit 3)) ?_
          refine RcB 31 52 r6 true (fun hb => by subst hb; exact lvC 7 (HB3.out) ld_Nds (Od.lc 32 53)) ?_
          refine RcB 31 52 r6 true (fun hb => by subst hb; exact ixq (ix_Nd g o cp 2 1 (by decide)) (Od.lc (Φ := IsV (.slice (some ⟨g, o, none⟩) 2 cp)) 33 54) Od.con) ?_
          refine RcB 31 52 r6 true (fun hb => by subst hb; exact lv (Φ := IsV (.agg us1.toArray)) _ (fun w' e => ldM (by kernel_rfl) (by kernel_rfl) HC1.out.1 (fun j v hj => (HE3.out.trans e).cell (HC1.out.2.1 j v hj))) (Od.lc (Φ := IsV (.pointer (some ⟨g, o + 8 * 1, none⟩))) 34 55) (fun _ _ => rfl)) ?_
          refine RcB 31 52 r6 true (fun hb => by subst hb; exact mv (Od.lit (x := v) 1)) ?_
          refine RcB 31 52 r6 true (fun hb => by subst hb; exact mv (Od.lit (x := .int .i64 d) 2)) ?_
          refine RcB 31 52 r6 true (fun hb => by subst hb; exact bn (r := .int .i64 ((k : Nat) : Int)) (Od.lc (Φ := IsV (.int .i64 d)) 37 58) Od.con (hr := fun w => by have hx9 := HDW.out; go_simp)) ?_
          refine RcB 31 52 r6 true (fun hb => by subst hb; exact cl3 (Χ := IsV (.bool q1)) (en Tryz.func36) (Od.lc (Φ := IsV (.agg us1.toArray)) 35 56) (Od.lc (Φ := IsV v) 36 57) (Od.lc (Φ := IsV (.int .i64 ((k : Nat) : Int))) 38 59) (fun x0 y0 z0 w' hE d0 d1 d2 => by { obtain rfl : x0 = .agg us1.toArray := d0; obtain rfl : y0 = v := d1; obtain rfl : z0 = .int .i64 ((k : Nat) : Int) := d2; exact Calls.mono (HD1.out w' (HE3.out.trans hE)) (fun e w2 h => ⟨_, h.1, h.2, rfl⟩) })) ?_
          refine Rc (pkA (Od.lc (Φ := IsV (.bool r6)) 31 52) (fun hb => by subst hb; exact (Od.lc (Φ := IsV (.bool q1)) 39 60)) Hr7.out) ?_
          refine Rc (mv (Od.lc (Φ := IsV (.bool r7)) 40 61)) ?_
          exact RgAll.nil
        intro u X5 e5 hΦ _
        have q9 : u 41 = .bool r7 := hΦ 41 (by decide)
        simp only [layL, Act.put, List.setIfInBounds_toArray, List.set_cons_zero, List.set_cons_succ, Nat.reduceAdd]
        rw [q9]
        clear hΦ q9
        have HE5 := hid (HE3.out.trans e5)
        clear e5
        refine wpList_nil ?_
        go_wp2_with fail
        go_ret
        exact ⟨by rw [HG.out] <;> rfl, HE5.out⟩
      · have HZ : Hid (∀ w', Ext w w' → Calls Tryz.prog 64 #[.agg [.int .i64 op, encS nm, .int .i64 xn, .bool s, .slice a m c, .int .i64 lo, .int .i64 hi, .slice ao n cp].toArray] w' (RVal w' (.bool b3))) := HZ
        have HG := hid (show gdN (k + 1) b (.mk op nm xn z lo hi ps) = false from gdN_two_no HJ.out (by show ps.length ≠ 2; rw [HN.out.1]; exact hn2))
        have hn9 : ((n : Int) == 2) = false := by simp; omega
        have HN9 := hid hn9
        clear hn2 hn9
        refine rgs 42 [some 21, some 22, some 23, some 24, some 25, some 26, some 27, some 28, some 29, some 30, some 31, some 32, some 33, some 34, some 35, some 36, some 37, some 38, some 39, some 40, some 41, some 42, some 43, some 44, some 45, some 46, some 47, some 48, some 49, some 50, some 51, some 52, some 53, some 54, some 55, some 56, some 57, some 58, some 59, some 60, some 61, some 6] [IsV (.pointer (some ⟨w.heap.size, 1, none⟩)), IsV (encS nm), IsV (.bool b1), IsV (.bool b1), IsIf b1 (IsV (.pointer (some ⟨w.heap.size, 2, none⟩))), IsIf b1 (IsV (.int .i64 xn)), IsIf b1 (IsV (.bool b2)), IsV (.bool r2), IsV (.bool r2), IsIf r2 (IsV (.agg [.int .i64 op, encS nm, .int .i64 xn, .bool s, .slice a m c, .int .i64 lo, .int .i64 hi, .slice ao n cp].toArray)), IsIf r2 (IsV (.bool b3)), IsV (.bool r3), IsV (.bool r3), IsIf r3 (IsV (.bool sp)), IsV (.bool r4), IsV (.bool r4), IsIf r4 (IsV (.pointer (some ⟨w.heap.size, 7, none⟩))), IsIf r4 (IsV (.slice ao n cp)), IsIf r4 (IsV (.int .i64 ((n : Nat) : Int))), IsIf r4 (IsV (.bool false)), IsV (.bool false), IsV (.bool false), IsV undef, IsV undef, IsV undef, IsV undef, IsV undef, IsV undef, IsV undef, IsV undef, IsV (.bool false), IsV (.bool false), IsV undef, IsV undef, IsV undef, IsV undef, IsV undef, IsV undef, IsV undef, IsV undef, IsV (.bool false), IsV (.bool false)] [] ?_ ?_ (hst := by repeat' (first | exact trivial | exact IsV.stb _ | apply IsIf.stb | apply And.intro))
        · refine Rc (fa (fa_Nd1 w.heap.size) (Od.lit 3)) ?_
          refine Rc (lvC 1 (HB3.out) ld_str (Od.lc 0 21)) ?_
          refine Rc (bn (r := .bool b1) (Od.lc (Φ := IsV (encS nm)) 1 22) Od.con (hr := fun w => by rw [encS]; have hx9 := (show (nm == []) = b1 from by rw [← Hb1.out]; cases nm <;> simp); go_simp)) ?_
          refine Rc (mv (Od.lc (Φ := IsV (.bool b1)) 2 23)) ?_
          refine RcB 3 24 b1 true (fun hb => by subst hb; exact fa (fa_Nd2 w.heap.size) (Od.lit 3)) ?_
          refine RcB 3 24 b1 true (fun hb => by subst hb; exact lvC 2 (HB3.out) ld_i (Od.lc 4 25)) ?_
          refine RcB 3 24 b1 true (fun hb => by subst hb; exact bn (r := .bool b2) (Od.lc (Φ := IsV (.int .i64 xn)) 5 26) Od.con (hr := fun w => by have hx9 := (show (xn == 0) = b2 from Hb2.out); go_simp)) ?_
          refine Rc (pkA (Od.lc (Φ := IsV (.bool b1)) 3 24) (fun hb => by subst hb; exact (Od.lc (Φ := IsV (.bool b2)) 6 27)) Hr2.out) ?_
          refine Rc (mv (Od.lc (Φ := IsV (.bool r2)) 7 28)) ?_
          refine RcB 8 29 r2 true (fun hb => by subst hb; exact lvV (HB3.out) ld_Nd (Od.lit 3)) ?_
          refine RcB 8 29 r2 true (fun hb => by subst hb; exact cl1 (Φ := IsV (.agg [.int .i64 op, encS nm, .int .i64 xn, .bool s, .slice a m c, .int .i64 lo, .int .i64 hi, .slice ao n cp].toArray)) (Χ := IsV (.bool b3)) (en Tryz.func64) (Od.lc 9 30) (fun x0 w' hE d0 => by { obtain rfl : x0 = .agg [.int .i64 op, encS nm, .int .i64 xn, .bool s, .slice a m c, .int .i64 lo, .int .i64 hi, .slice ao n cp].toArray := d0; exact Calls.mono (HZ.out w' (HE3.out.trans hE)) (fun e w2 h => ⟨_, h.1, h.2, rfl⟩) })) ?_
          refine Rc (pkA (Od.lc (Φ := IsV (.bool r2)) 8 29) (fun hb => by subst hb; exact (Od.lc (Φ := IsV (.bool b3)) 10 31)) Hr3.out) ?_
          refine Rc (mv (Od.lc (Φ := IsV (.bool r3)) 11 32)) ?_
          refine RcB 12 33 r3 true (fun hb => by subst hb; exact mv (Od.lit (x := .bool sp) 7)) ?_
          refine Rc (pkA (Od.lc (Φ := IsV (.bool r3)) 12 33) (fun hb => by subst hb; exact (Od.lc (Φ := IsV (.bool sp)) 13 34)) Hr4.out) ?_
          refine Rc (mv (Od.lc (Φ := IsV (.bool r4)) 14 35)) ?_
          refine RcB 15 36 r4 true (fun hb => by subst hb; exact fa (fa_Nd6 w.heap.size) (Od.lit 3)) ?_
          refine RcB 15 36 r4 true (fun hb => by subst hb; exact lvC 7 (HB3.out) ld_Nds (Od.lc 16 37)) ?_
          refine RcB 15 36 r4 true (fun hb => by subst hb; exact lenNd (Od.lc (Φ := IsV (.slice ao n cp)) 17 38)) ?_
          refine RcB 15 36 r4 true (fun hb => by subst hb; exact bn (r := .bool false) (Od.lc (Φ := IsV (.int .i64 ((n : Nat) : Int))) 18 39) Od.con (hr := fun w => by have hx9 := HN9.out; go_simp)) ?_
          refine Rc (pkA (Od.lc (Φ := IsV (.bool r4)) 15 36) (fun hb => by subst hb; exact (Od.lc (Φ := IsV (.bool false)) 19 40)) (by cases r4 <;> rfl)) ?_
          refine Rc (mv (Od.lc (Φ := IsV (.bool false)) 20 41)) ?_
          refine RcN 21 42 false ?_
          refine RcN 21 42 false ?_
          refine RcN 21 42 false ?_
          refine RcN 21 42 false ?_
          refine RcN 21 42 false ?_
          refine RcN 21 42 false ?_
          refine RcN 21 42 false ?_
          refine RcN 21 42 false ?_
          refine Rc (pk (b := false) (Od.lc (Φ := IsV (.bool false)) 21 42) Od.con) ?_
          refine Rc (mv (Od.lc (Φ := IsV (.bool false)) 30 51)) ?_
          refine RcN 31 52 false ?_
          refine RcN 31 52 false ?_
          refine RcN 31 52 false ?_
          refine RcN 31 52 false ?_
          refine RcN 31 52 false ?_
          refine RcN 31 52 false ?_
          refine RcN 31 52 false ?_
          refine RcN 31 52 false ?_
          refine Rc (pk (b := false) (Od.lc (Φ := IsV (.bool false)) 31 52) Od.con) ?_
          refine Rc (mv (Od.lc (Φ := IsV (.bool false)) 40 61)) ?_
          exact RgAll.nil
        intro u X5 e5 hΦ _
        have q9 : u 41 = .bool false := hΦ 41 (by decide)
        simp only [layL, Act.put, List.setIfInBounds_toArray, List.set_cons_zero, List.set_cons_succ, Nat.reduceAdd]
        rw [q9]
        clear hΦ q9
        have HE5 := hid (HE3.out.trans e5)
        clear e5
        refine wpList_nil ?_
        go_wp2_with fail
        go_ret
        exact ⟨by rw [HG.out] <;> rfl, HE5.out⟩
    · have HJ := hid (show joinO op = false by simpa using hj)
      have HT := hid (fun w => by have h := two_f op w; rw [show joinO op = false by simpa using hj] at h; exact h)
      have HT : Hid (∀ w, Calls Tryz.prog 63 #[.int .i64 op] w (RSame w (.bool false))) := HT
      clear hj
      by_cases hk : bindO op = true
      · have HK := hid hk
        have HU := hid (fun w => by have h := bind_f op w; rw [hk] at h; exact h)
        have HU : Hid (∀ w, Calls Tryz.prog 65 #[.int .i64 op] w (RSame w (.bool true))) := HU
        clear hk
        go_upto_region 7 with (first | (go_at_call 63; go_must (refine Calls.mono (HT.out _) ?_; rintro e w4 ⟨rfl, rfl⟩)) | (go_at_call 65; go_must (refine Calls.mono (HU.out _) ?_; rintro e w4 ⟨rfl, rfl⟩)))
        clear c0
        obtain ⟨c1, hc1⟩ : ∃ r, decide (xn ≠ 0) = r := ⟨_, rfl⟩
        have Hc1 := hid hc1
        clear hc1
        obtain ⟨b3, hb3⟩ : ∃ r, decide (z = 0) = r := ⟨_, rfl⟩
        have Hb3 := hid hb3
        clear hb3
        obtain ⟨nb3, hnb3⟩ : ∃ r, (!b3) = r := ⟨_, rfl⟩
        have Hnb3 := hid hnb3
        clear hnb3
        obtain ⟨r2, hr2⟩ : ∃ r, (c1 || nb3) = r := ⟨_, rfl⟩
        have Hr2 := hid hr2
        clear hr2
        obtain ⟨p4, hp4⟩ : ∃ r, nameB nm = r := ⟨_, rfl⟩
        have Hp4 := hid hp4
        clear hp4
        obtain ⟨np4, hnp4⟩ : ∃ r, (!p4) = r := ⟨_, rfl⟩
        have Hnp4 := hid hnp4
        clear hnp4
        obtain ⟨r3, hr3⟩ : ∃ r, (r2 || np4) = r := ⟨_, rfl⟩
        have Hr3 := hid hr3
        clear hr3
        obtain ⟨c5, hc5⟩ : ∃ r, decide (lo < -1000000) = r := ⟨_, rfl⟩
        have Hc5 := hid hc5
        clear hc5
        obtain ⟨r4, hr4⟩ : ∃ r, (r3 || c5) = r := ⟨_, rfl⟩
        have Hr4 := hid hr4
        clear hr4
        obtain ⟨c6, hc6⟩ : ∃ r, decide (1000000 < hi) = r := ⟨_, rfl⟩
        have Hc6 := hid hc6
        clear hc6
        obtain ⟨r5, hr5⟩ : ∃ r, (r4 || c6) = r := ⟨_, rfl⟩
        have Hr5 := hid hr5
        clear hr5
        obtain ⟨c7, hc7⟩ : ∃ r, decide (hi < lo) = r := ⟨_, rfl⟩
        have Hc7 := hid hc7
        clear hc7
        obtain ⟨r6, hr6⟩ : ∃ r, (r5 || c7) = r := ⟨_, rfl⟩
        have Hr6 := hid hr6
        clear hr6
        obtain ⟨c8, hc8⟩ : ∃ r, decide (1000 ≤ hi - lo) = r := ⟨_, rfl⟩
        have Hc8 := hid hc8
        clear hc8
        obtain ⟨r7, hr7⟩ : ∃ r, (r6 || c8) = r := ⟨_, rfl⟩
        have Hr7 := hid hr7
        clear hr7
        obtain ⟨c9, hc9⟩ : ∃ r, decide (n ≠ 1) = r := ⟨_, rfl⟩
        have Hc9 := hid hc9
        clear hc9
        obtain ⟨r8, hr8⟩ : ∃ r, (r7 || c9) = r := ⟨_, rfl⟩
        have Hr8 := hid hr8
        clear hr8
        have HZ := hid (show ∀ w', Ext w w' → Calls Tryz.prog 64 #[.agg [.int .i64 op, encS nm, .int .i64 xn, .bool s, .slice a m c, .int .i64 lo, .int .i64 hi, .slice ao n cp].toArray] w' (RVal w' (.bool (decide (z = 0)))) from fun w' e => zero_f (HX.out.ext e))
        rw [Hb3.out] at HZ
        have HZ : Hid (∀ w', Ext w w' → Calls Tryz.prog 64 #[.agg [.int .i64 op, encS nm, .int .i64 xn, .bool s, .slice a m c, .int .i64 lo, .int .i64 hi, .slice ao n cp].toArray] w' (RVal w' (.bool b3))) := HZ
        have HNA := hid (fun w' => Name_f nm w')
        rw [Hp4.out] at HNA
        have HNA : Hid (∀ w', Calls Tryz.prog 34 #[encS nm] w' (RVal w' (.bool p4))) := HNA
        have HG := hid (show gdN (k + 1) b (.mk op nm xn z lo hi ps) = (!r8 && ps.all (gdN k (b ++ [nm]))) by
          rw [gdN_bind HK.out, HN.out.1, Hc1.out, Hb3.out, Hp4.out, Hc5.out, Hc6.out, Hc7.out, Hc8.out, Hc9.out, Hnb3.out, Hr2.out, Hnp4.out, Hr3.out, Hr4.out, Hr5.out, Hr6.out, Hr7.out, Hr8.out])
        have HWW := hid (show r6 = false → IntKind.i64.wrap (hi - lo) = hi - lo from fun h => by
          have h1 : c5 = false ∧ c6 = false ∧ c7 = false := by
            rw [← Hr6.out, ← Hr5.out, ← Hr4.out] at h
            simp only [Bool.or_eq_false_iff] at h
            exact ⟨h.1.1.2, h.1.2, h.2⟩
          have h5 := h1.1; have h6 := h1.2.1; have h7 := h1.2.2
          rw [← Hc5.out, decide_eq_false_iff_not] at h5
          rw [← Hc6.out, decide_eq_false_iff_not] at h6
          rw [← Hc7.out, decide_eq_false_iff_not] at h7
          simp only [IntKind.wrap_i64]; omega)
        refine rgs 45 [some 65, some 66, some 67, some 68, some 69, some 70, some 71, some 72, some 73, some 74, some 75, some 76, some 77, some 78, some 79, some 80, some 81, some 82, some 83, some 84, some 85, some 86, some 87, some 88, some 89, some 90, some 91, some 92, some 93, some 94, some 95, some 96, some 97, some 98, some 99, some 100, some 101, some 102, some 103, some 104, some 105, some 106, some 107, some 108, some 109] [IsV (.pointer (some ⟨w.heap.size, 2, none⟩)), IsV (.int .i64 xn), IsV (.bool c1), IsV (.bool c1), IsIf (!c1) (IsV (.agg [.int .i64 op, encS nm, .int .i64 xn, .bool s, .slice a m c, .int .i64 lo, .int .i64 hi, .slice ao n cp].toArray)), IsIf (!c1) (IsV (.bool b3)), IsIf (!c1) (IsV (.bool nb3)), IsV (.bool r2), IsV (.bool r2), IsIf (!r2) (IsV (.pointer (some ⟨w.heap.size, 1, none⟩))), IsIf (!r2) (IsV (encS nm)), IsIf (!r2) (IsV (.bool p4)), IsIf (!r2) (IsV (.bool np4)), IsV (.bool r3), IsV (.bool r3), IsIf (!r3) (IsV (.pointer (some ⟨w.heap.size, 5, none⟩))), IsIf (!r3) (IsV (.int .i64 lo)), IsIf (!r3) (IsV (.bool c5)), IsV (.bool r4), IsV (.bool r4), IsIf (!r4) (IsV (.pointer (some ⟨w.heap.size, 6, none⟩))), IsIf (!r4) (IsV (.int .i64 hi)), IsIf (!r4) (IsV (.bool c6)), IsV (.bool r5), IsV (.bool r5), IsIf (!r5) (IsV (.pointer (some ⟨w.heap.size, 5, none⟩))), IsIf (!r5) (IsV (.int .i64 lo)), IsIf (!r5) (IsV (.pointer (some ⟨w.heap.size, 6, none⟩))), IsIf (!r5) (IsV (.int .i64 hi)), IsIf (!r5) (IsV (.bool c7)), IsV (.bool r6), IsV (.bool r6), IsIf (!r6) (IsV (.pointer (some ⟨w.heap.size, 6, none⟩))), IsIf (!r6) (IsV (.int .i64 hi)), IsIf (!r6) (IsV (.pointer (some ⟨w.heap.size, 5, none⟩))), IsIf (!r6) (IsV (.int .i64 lo)), IsIf (!r6) (IsV (.int .i64 (hi - lo))), IsIf (!r6) (IsV (.bool c8)), IsV (.bool r7), IsV (.bool r7), IsIf (!r7) (IsV (.pointer (some ⟨w.heap.size, 7, none⟩))), IsIf (!r7) (IsV (.slice ao n cp)), IsIf (!r7) (IsV (.int .i64 ((n : Nat) : Int))), IsIf (!r7) (IsV (.bool c9)), IsV (.bool r8)] [] ?_ ?_ (hst := by repeat' (first | exact trivial | exact IsV.stb _ | apply IsIf.stb | apply And.intro))
        · refine Rc (fa (fa_Nd2 w.heap.size) (Od.lit 3)) ?_
          refine Rc (lvC 2 (HB3.out) ld_i (Od.lc 0 65)) ?_
          refine Rc (bn (r := .bool c1) (Od.lc (Φ := IsV (.int .i64 xn)) 1 66) Od.con (hr := fun w => by have hx9 := (show (xn != 0) = c1 from by rw [← Hc1.out]; by_cases h : xn = 0 <;> simp [h]); go_simp)) ?_
          refine Rc (mv (Od.lc (Φ := IsV (.bool c1)) 2 67)) ?_
          refine RcB 3 68 c1 false (fun hb => by subst hb; exact lvV (HB3.out) ld_Nd (Od.lit 3)) ?_
          refine RcB 3 68 c1 false (fun hb => by subst hb; exact cl1 (Φ := IsV (.agg [.int .i64 op, encS nm, .int .i64 xn, .bool s, .slice a m c, .int .i64 lo, .int .i64 hi, .slice ao n cp].toArray)) (Χ := IsV (.bool b3)) (en Tryz.func64) (Od.lc 4 69) (fun x0 w' hE d0 => by { obtain rfl : x0 = .agg [.int .i64 op, encS nm, .int .i64 xn, .bool s, .slice a m c, .int .i64 lo, .int .i64 hi, .slice ao n cp].toArray := d0; exact Calls.mono (HZ.out w' (HE3.out.trans hE)) (fun e w2 h => ⟨_, h.1, h.2, rfl⟩) })) ?_
          refine RcB 3 68 c1 false (fun hb => by subst hb; exact un (p := .bool b3) (r := .bool nb3) (Od.lc (Φ := IsV (.bool b3)) 5 70) rfl (fun w => by rw [← Hnb3.out]; go_simp)) ?_
          refine Rc (pkO (Od.lc (Φ := IsV (.bool c1)) 3 68) (fun hb => by subst hb; exact (Od.lc (Φ := IsV (.bool nb3)) 6 71)) Hr2.out) ?_
          refine Rc (mv (Od.lc (Φ := IsV (.bool r2)) 7 72)) ?_
          refine RcB 8 73 r2 false (fun hb => by subst hb; exact fa (fa_Nd1 w.heap.size) (Od.lit 3)) ?_
          refine RcB 8 73 r2 false (fun hb => by subst hb; exact lvC 1 (HB3.out) ld_str (Od.lc 9 74)) ?_
          refine RcB 8 73 r2 false (fun hb => by subst hb; exact cl1 (Φ := IsV (encS nm)) (Χ := IsV (.bool p4)) (en Tryz.func34) (Od.lc 10 75) (fun x0 w' hE d0 => by { obtain rfl : x0 = encS nm := d0; exact Calls.mono (HNA.out w') (fun e w2 h => ⟨_, h.1, h.2, rfl⟩) })) ?_
          refine RcB 8 73 r2 false (fun hb => by subst hb; exact un (p := .bool p4) (r := .bool np4) (Od.lc (Φ := IsV (.bool p4)) 11 76) rfl (fun w => by rw [← Hnp4.out]; go_simp)) ?_
          refine Rc (pkO (Od.lc (Φ := IsV (.bool r2)) 8 73) (fun hb => by subst hb; exact (Od.lc (Φ := IsV (.bool np4)) 12 77)) Hr3.out) ?_
          refine Rc (mv (Od.lc (Φ := IsV (.bool r3)) 13 78)) ?_
          refine RcB 14 79 r3 false (fun hb => by subst hb; exact fa (fa_Nd4 w.heap.size) (Od.lit 3)) ?_
          refine RcB 14 79 r3 false (fun hb => by subst hb; exact lvC 5 (HB3.out) ld_i (Od.lc 15 80)) ?_
          refine RcB 14 79 r3 false (fun hb => by subst hb; exact bn (r := .bool c5) (Od.lc (Φ := IsV (.int .i64 lo)) 16 81) Od.con (hr := fun w => by have hx9 := Hc5.out; go_simp)) ?_
          refine Rc (pkO (Od.lc (Φ := IsV (.bool r3)) 14 79) (fun hb => by subst hb; exact (Od.lc (Φ := IsV (.bool c5)) 17 82)) Hr4.out) ?_
          refine Rc (mv (Od.lc (Φ := IsV (.bool r4)) 18 83)) ?_
          refine RcB 19 84 r4 false (fun hb => by subst hb; exact fa (fa_Nd5 w.heap.size) (Od.lit 3)) ?_
          refine RcB 19 84 r4 false (fun hb => by subst hb; exact lvC 6 (HB3.out) ld_i (Od.lc 20 85)) ?_
          refine RcB 19 84 r4 false (fun hb => by subst hb; exact bn (r := .bool c6) (Od.lc (Φ := IsV (.int .i64 hi)) 21 86) Od.con (hr := fun w => by have hx9 := Hc6.out; go_simp)) ?_
          refine Rc (pkO (Od.lc (Φ := IsV (.bool r4)) 19 84) (fun hb => by subst hb; exact (Od.lc (Φ := IsV (.bool c6)) 22 87)) Hr5.out) ?_
          refine Rc (mv (Od.lc (Φ := IsV (.bool r5)) 23 88)) ?_
          refine RcB 24 89 r5 false (fun hb => by subst hb; exact fa (fa_Nd4 w.heap.size) (Od.lit 3)) ?_
          refine RcB 24 89 r5 false (fun hb => by subst hb; exact lvC 5 (HB3.out) ld_i (Od.lc 25 90)) ?_
          refine RcB 24 89 r5 false (fun hb => by subst hb; exact fa (fa_Nd5 w.heap.size) (Od.lit 3)) ?_
          refine RcB 24 89 r5 false (fun hb => by subst hb; exact lvC 6 (HB3.out) ld_i (Od.lc 27 92)) ?_
          refine RcB 24 89 r5 false (fun hb => by subst hb; exact bn (r := .bool c7) (Od.lc (Φ := IsV (.int .i64 lo)) 26 91) (Od.lc (Φ := IsV (.int .i64 hi)) 28 93) (hr := fun w => by have hx9 := Hc7.out; go_simp)) ?_
          refine Rc (pkO (Od.lc (Φ := IsV (.bool r5)) 24 89) (fun hb => by subst hb; exact (Od.lc (Φ := IsV (.bool c7)) 29 94)) Hr6.out) ?_
          refine Rc (mv (Od.lc (Φ := IsV (.bool r6)) 30 95)) ?_
          refine RcB 31 96 r6 false (fun hb => by subst hb; exact fa (fa_Nd5 w.heap.size) (Od.lit 3)) ?_
          refine RcB 31 96 r6 false (fun hb => by subst hb; exact lvC 6 (HB3.out) ld_i (Od.lc 32 97)) ?_
          refine RcB 31 96 r6 false (fun hb => by subst hb; exact fa (fa_Nd4 w.heap.size) (Od.lit 3)) ?_
          refine RcB 31 96 r6 false (fun hb => by subst hb; exact lvC 5 (HB3.out) ld_i (Od.lc 34 99)) ?_
          refine RcB 31 96 r6 false (fun hb => by subst hb; exact bn (p := .int .i64 hi) (q := .int .i64 lo) (r := .int .i64 (hi - lo)) (Od.lc 33 98) (Od.lc 35 100) (hr := fun w => by have hx9 := HWW.out rfl; go_simp)) ?_
          refine RcB 31 96 r6 false (fun hb => by subst hb; exact bn (r := .bool c8) (Od.lc (Φ := IsV (.int .i64 (hi - lo))) 36 101) Od.con (hr := fun w => by have hx9 := Hc8.out; go_simp)) ?_
          refine Rc (pkO (Od.lc (Φ := IsV (.bool r6)) 31 96) (fun hb => by subst hb; exact (Od.lc (Φ := IsV (.bool c8)) 37 102)) Hr7.out) ?_
          refine Rc (mv (Od.lc (Φ := IsV (.bool r7)) 38 103)) ?_
          refine RcB 39 104 r7 false (fun hb => by subst hb; exact fa (fa_Nd6 w.heap.size) (Od.lit 3)) ?_
          refine RcB 39 104 r7 false (fun hb => by subst hb; exact lvC 7 (HB3.out) ld_Nds (Od.lc 40 105)) ?_
          refine RcB 39 104 r7 false (fun hb => by subst hb; exact lenNd (Od.lc (Φ := IsV (.slice ao n cp)) 41 106)) ?_
          refine RcB 39 104 r7 false (fun hb => by subst hb; exact bn (r := .bool c9) (Od.lc (Φ := IsV (.int .i64 ((n : Nat) : Int))) 42 107) Od.con (hr := fun w => by have hx9 := (show ((n : Int) != 1) = c9 from by rw [← Hc9.out]; by_cases h : n = 1 <;> simp [h] <;> omega); go_simp)) ?_
          refine Rc (pkO (Od.lc (Φ := IsV (.bool r7)) 39 104) (fun hb => by subst hb; exact (Od.lc (Φ := IsV (.bool c9)) 43 108)) Hr8.out) ?_
          exact RgAll.nil
        intro u X5 e5 hΦ _
        have q9 : u 44 = .bool r8 := hΦ 44 (by decide)
        simp only [layL, Act.put, List.setIfInBounds_toArray, List.set_cons_zero, List.set_cons_succ, Nat.reduceAdd]
        rw [q9]
        clear hΦ q9
        have HE5 := hid (HE3.out.trans e5)
        have HB5 := hid (HB3.out.ext e5)
        clear e5 HB3 HE3
        refine wpList_nil ?_
        cases r8 with
        | true =>
          have HG2 := hid (show gdN (k + 1) b (.mk op nm xn z lo hi ps) = false by rw [HG.out]; rfl)
          go_wp2_with fail
          go_ret
          exact ⟨by rw [HG2.out] <;> rfl, HE5.out⟩
        | false =>
          have hn1 : n = 1 := by
            have h := Hr8.out
            rw [Bool.or_eq_false_iff, ← Hc9.out, decide_eq_false_iff_not] at h
            omega
          subst hn1
          obtain ⟨y0, rfl⟩ : ∃ y0, ps = [y0] := by
            have h := HN.out.1
            match ps, h with
            | [p], _ => exact ⟨p, rfl⟩
          obtain ⟨g, o, rfl, -, hR⟩ := HP.out (by simp)
          obtain ⟨us0, hl0, hc0, hy0⟩ := hR.get (i := 0) (x := y0) rfl
          have HC0 := hid (And.intro hl0 (And.intro hc0 hy0))
          clear hR hl0 hc0 hy0
          obtain ⟨q0, hq0⟩ : ∃ q, gdN k (b ++ [nm]) y0 = q := ⟨_, rfl⟩
          have HG2 := hid (show gdN (k + 1) b (.mk op nm xn z lo hi [y0]) = q0 by rw [HG.out]; simp [hq0])
          have HD0 := hid (fun w' vv (e : Ext w w') (hs : IsSg (b ++ [nm]) vv w') => IH.out (b ++ [nm]) y0 us0 vv w' hs (by have := HV.out.2; rw [List.length_append]; simp; omega) (HC0.out.2.2.ext e))
          rw [hq0] at HD0
          have HD0 : Hid (∀ w' vv, Ext w w' → IsSg (b ++ [nm]) vv w' → Calls Tryz.prog 36 #[.agg us0.toArray, vv, .int .i64 ((k : Nat) : Int)] w' (RVal w' (.bool q0))) := HD0
          have HVS := hid (show IsSg b v X5 ∧ b.length ≤ 900000 from ⟨HV.out.1.ext HE5.out, by have := HV.out.2; omega⟩)
          clear hq0 Hr8 Hr7 Hr6 Hr5 Hr4 Hr3 Hr2 HG
          go_upto_region 9 with (fail)
          refine wp_region_rgj (Jg X5 b nm) (fun a b => Ext X5 a → Ext X5 b) 15 [some 110, some 111, some 112, some 113, some 114, some 115, some 116, some 117, some 118, some 119, some 120, some 121, some 122, some 123, some 6]
            [IsV (.pointer (some ⟨w.heap.size, 7, none⟩)), IsV (.slice (some ⟨g, o, none⟩) 1 cp), IsV (.pointer (some ⟨g, o + 8 * 0, none⟩)), IsV (.agg us0.toArray), TT, IsV v, TT, IsV (.pointer (some ⟨w.heap.size, 1, none⟩)), IsV (encS nm), TT, TT, IsV (.int .i64 d), IsV (.int .i64 ((k : Nat) : Int)), IsV (.bool q0), IsV (.bool q0)] (by kernel_rfl) (by kernel_rfl) (by kernel_rfl) (by kernel_rfl) (by kernel_rfl) (fun h k e => k (h e)) (fun e h => h.trans e) ?_ ?_ (fun v => Jg.start _ _ _ _ _ _) ?_
          · exact ⟨fun _ _ _ _ h => h, fun _ _ _ _ h => h, fun _ _ _ _ h => h, fun _ _ _ _ h => h, fun _ _ _ _ h => h, fun _ _ _ _ h => h, fun _ _ _ _ h => h, fun _ _ _ _ h => h, fun _ _ _ _ h => h, fun _ _ _ _ h => h, fun _ _ _ _ h => h, fun _ _ _ _ h => h, fun _ _ _ _ h => h, fun _ _ _ _ h => h, fun _ _ _ _ h => h, trivial⟩
          · intro i o' hi ho
            match i, hi, ho with
            | 0, _, ho =>
              obtain rfl : _ = o' := Option.some.inj ho
              exact ⟨rfl, RgSj.ok (fun e h => h.trans e) (fun listed v a b x h e _ _ => h.plain x e (by decide) (by decide) (by decide) (by decide)) (fun w' q => fa (fa_Nd6 w.heap.size) (Od.lit 3))⟩
            | 1, _, ho =>
              obtain rfl : _ = o' := Option.some.inj ho
              exact ⟨rfl, RgSj.ok (fun e h => h.trans e) (fun listed v a b x h e _ _ => h.plain x e (by decide) (by decide) (by decide) (by decide)) (fun w' q => lvC 7 (HB5.out.ext (q (Ext.refl _))) ld_Nds (Od.lc 0 110))⟩
            | 2, _, ho =>
              obtain rfl : _ = o' := Option.some.inj ho
              exact ⟨rfl, RgSj.ok (fun e h => h.trans e) (fun listed v a b x h e _ _ => h.plain x e (by decide) (by decide) (by decide) (by decide)) (fun w' q => ixq (ix_Nd g o cp 1 0 (by decide)) (Od.lc 1 111) Od.con)⟩
            | 3, _, ho =>
              obtain rfl : _ = o' := Option.some.inj ho
              exact ⟨rfl, RgSj.ok (fun e h => h.trans e) (fun listed v a b x h e _ _ => h.plain x e (by decide) (by decide) (by decide) (by decide)) (fun w' q => lv (Φ := IsV (.agg us0.toArray)) _ (fun w2 e => ldM (by kernel_rfl) (by kernel_rfl) HC0.out.1 (fun j v hj => (HE5.out.trans ((q (Ext.refl _)).trans e)).cell (HC0.out.2.1 j v hj))) (Od.lc 2 112) (fun _ _ => rfl))⟩
            | 4, _, ho =>
              obtain rfl : _ = o' := Option.some.inj ho
              refine ⟨rfl, ⟨fun listed v w' hs hj hR hun hne hd hf K hK => ?_⟩⟩
              have hr : (Instr.buildSlice 53 0 #[]).run Tryz.prog w' = .ok (.slice (some ⟨w'.heap.size, 0, none⟩) 0 0) (w'.alloc (.cells #[] 9)) := by go_simp
              have h2 := hK.out (.slice (some ⟨w'.heap.size, 0, none⟩) 0 0) (w'.alloc (.cells #[] 9)) (fun h => h.trans ((Ext.refl _).alloc _)) (hj.s4 (hR (Ext.refl _)).size) trivial
              have hrun : ∀ (f : Operand → Value) (o2 : Oper), o2.op = .buildSlice 53 0 #[] → (execOp f o2).run Tryz.prog w' = .ok (.value (.slice (some ⟨w'.heap.size, 0, none⟩) 0 0)) (w'.alloc (.cells #[] 9)) := fun f o2 ho2 => by
                unfold execOp
                rw [ho2]
                dsimp only
                simp [hr]
              unfold Oper.wp
              rw [hrun _ _ rfl]
              exact h2
            | 5, _, ho =>
              obtain rfl : _ = o' := Option.some.inj ho
              exact ⟨rfl, RgSj.ok (fun e h => h.trans e) (fun listed v a b x h e _ _ => h.plain x e (by decide) (by decide) (by decide) (by decide)) (fun w' q => mv (Od.lit (x := v) 1))⟩
            | 6, _, ho =>
              obtain rfl : _ = o' := Option.some.inj ho
              refine ⟨rfl, ⟨fun listed v' w' hs hj hR hun hne hd hf K hK => ?_⟩⟩
              have h4 : listed.getD 4 false = true := hne 4 (List.contains_iff_mem.1 (by kernel_rfl))
              obtain ⟨g4, k1, k2, -⟩ := hj.j4 h4 hun
              have e4 := (eval_tmp _ _).trans (hf.val 4 114 _ rfl (by kernel_rfl) (by kernel_rfl) (by kernel_rfl))
              have e5 := (eval_tmp _ _).trans (hf.val 5 115 _ (hd 5 (by kernel_rfl)) (by kernel_rfl) (by kernel_rfl) (by kernel_rfl))
              refine wp_sx (.tmp 114) (.tmp 115) rfl X5.heap.size [] b (v' 4) v e4 e5 k2 (HVS.out.1.ext (hR (Ext.refl _))).src (by have := HVS.out.2; simp; omega) (hR (Ext.refl _)).size (fun x w2 q1 q2 q3 q4 => ?_)
              exact hK.out x w2 (fun h => Below.grown h q2 h.size (fun j hj2 => ((World.ownsRow.lt k2.1) j hj2).1)) (hj.s6 h4 hun (by rw [hs]; exact of_decide_eq_true (by kernel_rfl)) (by simpa using q1) q2) trivial
            | 7, _, ho =>
              obtain rfl : _ = o' := Option.some.inj ho
              exact ⟨rfl, RgSj.ok (fun e h => h.trans e) (fun listed v a b x h e _ _ => h.plain x e (by decide) (by decide) (by decide) (by decide)) (fun w' q => fa (fa_Nd1 w.heap.size) (Od.lit 3))⟩
            | 8, _, ho =>
              obtain rfl : _ = o' := Option.some.inj ho
              exact ⟨rfl, RgSj.ok (fun e h => h.trans e) (fun listed v a b x h e _ _ => h.plain x e (by decide) (by decide) (by decide) (by decide)) (fun w' q => lvC 1 (HB5.out.ext (q (Ext.refl _))) ld_str (Od.lc 7 117))⟩
            | 9, _, ho =>
              obtain rfl : _ = o' := Option.some.inj ho
              refine ⟨rfl, ⟨fun listed v' w' hs hj hR hun hne hd hf K hK => ?_⟩⟩
              have e8 := (eval_tmp _ _).trans (hf.val 8 118 _ (hd 8 (by kernel_rfl)) (by kernel_rfl) (by kernel_rfl) (by kernel_rfl))
              have hr : (Instr.buildSlice 53 1 #[(0, encS nm)]).run Tryz.prog w' = .ok (.slice (some ⟨w'.heap.size, 0, none⟩) 1 1) (w'.alloc (.cells #[encS nm] 9)) := by rw [encS]; go_simp
              have h2 := hK.out (.slice (some ⟨w'.heap.size, 0, none⟩) 1 1) (w'.alloc (.cells #[encS nm] 9)) (fun h => h.trans ((Ext.refl _).alloc _)) hj.s9 trivial
              have hrun : ∀ (f : Operand → Value) (o2 : Oper), o2.op = .buildSlice 53 1 #[(0, .tmp 118)] → f (.tmp 118) = encS nm → (execOp f o2).run Tryz.prog w' = .ok (.value (.slice (some ⟨w'.heap.size, 0, none⟩) 1 1)) (w'.alloc (.cells #[encS nm] 9)) := fun f o2 ho2 hf2 => by
                unfold execOp
                rw [ho2]
                dsimp only
                simp only [List.map_toArray, List.map_cons, List.map_nil]
                rw [hf2]
                simp [hr]
              unfold Oper.wp
              rw [hrun _ _ rfl e8]
              exact h2
            | 10, _, ho =>
              obtain rfl : _ = o' := Option.some.inj ho
              refine ⟨rfl, ⟨fun listed v' w' hs hj hR hun hne hd hf K hK => ?_⟩⟩
              have h6 : listed.getD 6 false = true := hne 6 (List.contains_iff_mem.1 (by kernel_rfl))
              have h9 : listed.getD 9 false = true := hne 9 (List.contains_iff_mem.1 (by kernel_rfl))
              have k2 := hj.j6 h6 hun
              obtain ⟨g9, m1, -, m3⟩ := hj.j9 h9
              have e4 := (eval_tmp _ _).trans (hf.val 6 116 _ rfl (by kernel_rfl) (by kernel_rfl) (by kernel_rfl))
              have e5 := (eval_tmp _ _).trans (hf.val 9 119 _ rfl (by kernel_rfl) (by kernel_rfl) (by kernel_rfl))
              refine wp_sx (.tmp 116) (.tmp 119) rfl X5.heap.size b [nm] (v' 6) (v' 9) e4 e5 k2 (.inr ⟨g9, 0, 1, m1, fun j u hj2 => ?_⟩) (by have := HVS.out.2; simp; omega) (hR (Ext.refl _)).size (fun x w2 q1 q2 q3 q4 => ?_)
              · cases j with
                | zero => obtain rfl : encS nm = u := by simpa using hj2
                          exact m3 hun
                | succ j => simp at hj2
              · exact hK.out x w2 (fun h => Below.grown h q2 h.size (fun j hj2 => ((World.ownsRow.lt k2.1) j hj2).1)) (hj.s10 h6 (by rw [hs]; exact of_decide_eq_true (by kernel_rfl)) q2.size q1) trivial
            | 11, _, ho =>
              obtain rfl : _ = o' := Option.some.inj ho
              exact ⟨rfl, RgSj.ok (fun e h => h.trans e) (fun listed v a b x h e _ _ => h.plain x e (by decide) (by decide) (by decide) (by decide)) (fun w' q => mv (Od.lit (x := .int .i64 d) 2))⟩
            | 12, _, ho =>
              obtain rfl : _ = o' := Option.some.inj ho
              exact ⟨rfl, RgSj.ok (fun e h => h.trans e) (fun listed v a b x h e _ _ => h.plain x e (by decide) (by decide) (by decide) (by decide)) (fun w' q => bn (p := .int .i64 d) (r := .int .i64 ((k : Nat) : Int)) (Od.lc 11 121) Od.con (hr := fun w => by have hx9 := HDW.out; go_simp))⟩
            | 13, _, ho =>
              obtain rfl : _ = o' := Option.some.inj ho
              refine ⟨rfl, ⟨fun listed v' w' hs hj hR hun hne hd hf K hK => ?_⟩⟩
              have h10 : listed.getD 10 false = true := hne 10 (List.contains_iff_mem.1 (by kernel_rfl))
              have k2 := (hj.j10 h10).2.sg (by simp)
              have e3 := (eval_tmp _ _).trans (hf.val 3 113 _ (hd 3 (by kernel_rfl)) (by kernel_rfl) (by kernel_rfl) (by kernel_rfl))
              have e10 := (eval_tmp _ _).trans (hf.val 10 120 _ rfl (by kernel_rfl) (by kernel_rfl) (by kernel_rfl))
              have e12 := (eval_tmp _ _).trans (hf.val 12 122 _ (hd 12 (by kernel_rfl)) (by kernel_rfl) (by kernel_rfl) (by kernel_rfl))
              refine wp_callN (xs := [.tmp 113, .tmp 120, .tmp 122]) (us := [.agg us0.toArray, v' 10, .int .i64 ((k : Nat) : Int)]) (en Tryz.func36) (by simp only [List.map_cons, List.map_nil]; rw [e3, e10, e12]) (HD0.out w' (v' 10) (HE5.out.trans (hR (Ext.refl _))) k2) (fun x w2 h => ?_) (fun ch X2 h => by { obtain ⟨hx, _⟩ := h; cases hx }) (fun X2 h => by { obtain ⟨hx, _⟩ := h; cases hx })
              obtain ⟨hx, e9⟩ := h
              obtain rfl : x = _ := by injection hx
              exact hK.out _ w2 (fun h => h.trans e9) (hj.plain _ e9 (by decide) (by decide) (by decide) (by decide)) rfl
            | 14, _, ho =>
              obtain rfl : _ = o' := Option.some.inj ho
              exact ⟨rfl, RgSj.ok (fun e h => h.trans e) (fun listed v a b x h e _ _ => h.plain x e (by decide) (by decide) (by decide) (by decide)) (fun w' q => mv (Od.lc (Φ := IsV (.bool q0)) 13 123))⟩
            | n + 15, hi, _ => omega
          intro u X6 q hΦ _
          have q9 : u 14 = .bool q0 := hΦ 14 (by decide)
          have HE6 := hid (HE5.out.trans (q (Ext.refl _)))
          simp only [layL, Act.put, List.setIfInBounds_toArray, List.set_cons_zero, List.set_cons_succ, Nat.reduceAdd]
          rw [q9]
          clear hΦ q9 q
          refine wpAny_done (by kernel_rfl) ?_ _
          go_wp2_with fail
          go_ret
          exact ⟨by rw [HG2.out] <;> rfl, HE6.out⟩
      · have HK := hid (show bindO op = false by simpa using hk)
        have HU := hid (fun w => by have h := bind_f op w; rw [show bindO op = false by simpa using hk] at h; exact h)
        have HU : Hid (∀ w, Calls Tryz.prog 65 #[.int .i64 op] w (RSame w (.bool false))) := HU
        clear hk
        have HLF := hid (gdN_leaf (k := k) (b := b) (nm := nm) (xn := xn) (z := z) (lo := lo) (hi := hi) (ps := ps) HJ.out HK.out)
        go_upto_region 10 with (first | (go_at_call 63; go_must (refine Calls.mono (HT.out _) ?_; rintro e w4 ⟨rfl, rfl⟩)) | (go_at_call 65; go_must (refine Calls.mono (HU.out _) ?_; rintro e w4 ⟨rfl, rfl⟩)))
        obtain ⟨c1, hc1⟩ : ∃ r, decide (n ≠ 0) = r := ⟨_, rfl⟩
        have Hc1 := hid hc1
        clear hc1
        obtain ⟨nsp, hnsp⟩ : ∃ r, (!sp) = r := ⟨_, rfl⟩
        have Hnsp := hid hnsp
        clear hnsp
        obtain ⟨r1, hr1⟩ : ∃ r, (c1 || nsp) = r := ⟨_, rfl⟩
        have Hr1 := hid hr1
        clear hr1
        refine rgs 8 [some 124, some 125, some 126, some 127, some 128, some 129, some 130, some 131] [IsV (.pointer (some ⟨w.heap.size, 7, none⟩)), IsV (.slice ao n cp), IsV (.int .i64 ((n : Nat) : Int)), IsV (.bool c1), IsV (.bool c1), IsIf (!c1) (IsV (.bool sp)), IsIf (!c1) (IsV (.bool nsp)), IsV (.bool r1)] [] ?_ ?_ (hst := by repeat' (first | exact trivial | exact IsV.stb _ | apply IsIf.stb | apply And.intro))
        · refine Rc (fa (fa_Nd6 w.heap.size) (Od.lit 3)) ?_
          refine Rc (lvC 7 (HB3.out) ld_Nds (Od.lc 0 124)) ?_
          refine Rc (lenNd (Od.lc (Φ := IsV (.slice ao n cp)) 1 125)) ?_
          refine Rc (bn (r := .bool c1) (Od.lc (Φ := IsV (.int .i64 ((n : Nat) : Int))) 2 126) Od.con (hr := fun w => by have hx9 := (show ((n : Int) != 0) = c1 from by rw [← Hc1.out]; by_cases h : n = 0 <;> simp [h] <;> omega); go_simp)) ?_
          refine Rc (mv (Od.lc (Φ := IsV (.bool c1)) 3 127)) ?_
          refine RcB 4 128 c1 false (fun hb => by subst hb; exact mv (Od.lit (x := .bool sp) 7)) ?_
          refine RcB 4 128 c1 false (fun hb => by subst hb; exact un (p := .bool sp) (r := .bool nsp) (Od.lc (Φ := IsV (.bool sp)) 5 129) rfl (fun w => by rw [← Hnsp.out]; go_simp)) ?_
          refine Rc (pkO (Od.lc (Φ := IsV (.bool c1)) 4 128) (fun hb => by subst hb; exact (Od.lc (Φ := IsV (.bool nsp)) 6 130)) Hr1.out) ?_
          exact RgAll.nil
        intro u X5 e5 hΦ _
        have q9 : u 7 = .bool r1 := hΦ 7 (by decide)
        simp only [layL, Act.put, List.setIfInBounds_toArray, List.set_cons_zero, List.set_cons_succ, Nat.reduceAdd]
        rw [q9]
        clear hΦ q9
        have HE5 := hid (HE3.out.trans e5)
        have HB5 := hid (HB3.out.ext e5)
        clear e5 HB3 HE3 c0
        refine wpList_nil ?_
        cases r1 with
        | true =>
          have HG2 := hid (show gdN (k + 1) b (.mk op nm xn z lo hi ps) = false from HLF.out.1 (fun h => by
            have h1 := Hr1.out
            rw [← Hnsp.out, ← Hsp.out, ← Hl1.out, ← Hl2.out, ← Hc1.out, ← HN.out.1] at h1
            simp [h.1, h.2.1, h.2.2] at h1))
          go_wp2_with fail
          go_ret
          exact ⟨by rw [HG2.out] <;> rfl, HE5.out⟩
        | false =>
          have h1 := Hr1.out
          rw [← Hnsp.out, ← Hsp.out, ← Hl1.out, ← Hl2.out, ← Hc1.out] at h1
          simp only [Bool.or_eq_false_iff, Bool.not_eq_false', Bool.and_eq_true, decide_eq_true_eq, decide_eq_false_iff_not, ne_eq, Decidable.not_not] at h1
          obtain ⟨rfl, rfl, rfl⟩ := h1
          obtain rfl : ps = [] := List.length_eq_zero_iff.1 HN.out.1
          have HL3 := hid (HLF.out.2.2 rfl rfl rfl)
          have HL2 := hid HLF.out.2.1
          clear HLF
          have c0 := HB5.out.c 0 _ rfl
          by_cases h1 : op = 1
          · subst h1
            have HG := hid (HL3.out.1 rfl)
            have HVL := hid (fun w' (e : Ext w w') => RValid_f (HI.out.ext e))
            have HBT := hid (fun w' (e : Ext w w') => RBitsI_f (HI.out.ext e) (by decide))
            obtain ⟨bl, hbl⟩ : ∃ y, bitLen z.natAbs = y := ⟨_, rfl⟩
            rw [hbl] at HBT
            have HBT : Hid (∀ w', Ext w w' → Calls Tryz.prog 67 #[.agg #[.bool s, .slice a m c]] w' (Ret w' (IsV (.int .i64 ((bl : Nat) : Int))))) := HBT
            have hq : decide (z.natAbs < 2 ^ 256) = decide (bl ≤ 256) := by rw [← hbl]; apply decide_eq_decide.2; exact (bits_256 _).symm.trans (by omega)
            rw [hq] at HG
            clear hbl hq
            obtain ⟨b1, hb1⟩ : ∃ r, decide (nm = []) = r := ⟨_, rfl⟩
            have Hb1 := hid hb1
            clear hb1
            obtain ⟨b2, hb2⟩ : ∃ r, decide (xn = 0) = r := ⟨_, rfl⟩
            have Hb2 := hid hb2
            clear hb2
            obtain ⟨r2, hr2⟩ : ∃ r, (b1 && b2) = r := ⟨_, rfl⟩
            have Hr2 := hid hr2
            clear hr2
            obtain ⟨r3, hr3⟩ : ∃ r, (r2 && true) = r := ⟨_, rfl⟩
            have Hr3 := hid hr3
            clear hr3
            obtain ⟨c4, hc4⟩ : ∃ r, decide (bl ≤ 256) = r := ⟨_, rfl⟩
            have Hc4 := hid hc4
            clear hc4
            obtain ⟨r4, hr4⟩ : ∃ r, (r3 && c4) = r := ⟨_, rfl⟩
            have Hr4 := hid hr4
            clear hr4
            have HG2 := hid (show gdN (k + 1) b (.mk 1 nm xn z 0 0 []) = r4 by rw [HG.out, Hb1.out, Hb2.out, Hc4.out, ← Hr4.out, ← Hr3.out, ← Hr2.out]; simp)
            go_upto_region 13 with (fail)
            clear c0
            refine rgs 20 [some 135, some 136, some 137, some 138, some 139, some 140, some 141, some 142, some 143, some 144, some 145, some 146, some 147, some 148, some 149, some 150, some 151, some 152, some 153, some 6] [IsV (.pointer (some ⟨w.heap.size, 1, none⟩)), IsV (encS nm), IsV (.bool b1), IsV (.bool b1), IsIf b1 (IsV (.pointer (some ⟨w.heap.size, 2, none⟩))), IsIf b1 (IsV (.int .i64 xn)), IsIf b1 (IsV (.bool b2)), IsV (.bool r2), IsV (.bool r2), IsIf r2 (IsV (.pointer (some ⟨w.heap.size, 3, none⟩))), IsIf r2 (IsV (.agg #[.bool s, .slice a m c])), IsIf r2 (IsV (.bool true)), IsV (.bool r3), IsV (.bool r3), IsIf r3 (IsV (.pointer (some ⟨w.heap.size, 3, none⟩))), IsIf r3 (IsV (.agg #[.bool s, .slice a m c])), IsIf r3 (IsV (.int .i64 ((bl : Nat) : Int))), IsIf r3 (IsV (.bool c4)), IsV (.bool r4), IsV (.bool r4)] [] ?_ ?_ (hst := by repeat' (first | exact trivial | exact IsV.stb _ | apply IsIf.stb | apply And.intro))
            · refine Rc (fa (fa_Nd1 w.heap.size) (Od.lit 3)) ?_
              refine Rc (lvC 1 (HB5.out) ld_str (Od.lc 0 135)) ?_
              refine Rc (bn (r := .bool b1) (Od.lc (Φ := IsV (encS nm)) 1 136) Od.con (hr := fun w => by rw [encS]; have hx9 := (show (nm == []) = b1 from by rw [← Hb1.out]; cases nm <;> simp); go_simp)) ?_
              refine Rc (mv (Od.lc (Φ := IsV (.bool b1)) 2 137)) ?_
              refine RcB 3 138 b1 true (fun hb => by subst hb; exact fa (fa_Nd2 w.heap.size) (Od.lit 3)) ?_
              refine RcB 3 138 b1 true (fun hb => by subst hb; exact lvC 2 (HB5.out) ld_i (Od.lc 4 139)) ?_
              refine RcB 3 138 b1 true (fun hb => by subst hb; exact bn (r := .bool b2) (Od.lc (Φ := IsV (.int .i64 xn)) 5 140) Od.con (hr := fun w => by have hx9 := (show (xn == 0) = b2 from Hb2.out); go_simp)) ?_
              refine Rc (pkA (Od.lc (Φ := IsV (.bool b1)) 3 138) (fun hb => by subst hb; exact (Od.lc (Φ := IsV (.bool b2)) 6 141)) Hr2.out) ?_
              refine Rc (mv (Od.lc (Φ := IsV (.bool r2)) 7 142)) ?_
              refine RcB 8 143 r2 true (fun hb => by subst hb; exact fa (fa_Nd3 w.heap.size) (Od.lit 3)) ?_
              refine RcB 8 143 r2 true (fun hb => by subst hb; exact lv (Φ := IsV (.agg #[.bool s, .slice a m c])) _ (fun w' e => ld_NdV (HB5.out.ext e)) (Od.lc (Φ := IsV (.pointer (some ⟨w.heap.size, 3, none⟩))) 9 144) (fun _ _ => rfl)) ?_
              refine RcB 8 143 r2 true (fun hb => by subst hb; exact cl1 (Φ := IsV (.agg #[.bool s, .slice a m c])) (Χ := IsV (.bool true)) (en Tryz.func66) (Od.lc 10 145) (fun x0 w' hE d0 => by { obtain rfl : x0 = .agg #[.bool s, .slice a m c] := d0; exact HVL.out w' (HE5.out.trans hE) })) ?_
              refine Rc (pkA (Od.lc (Φ := IsV (.bool r2)) 8 143) (fun hb => by subst hb; exact (Od.lc (Φ := IsV (.bool true)) 11 146)) Hr3.out) ?_
              refine Rc (mv (Od.lc (Φ := IsV (.bool r3)) 12 147)) ?_
              refine RcB 13 148 r3 true (fun hb => by subst hb; exact fa (fa_Nd3 w.heap.size) (Od.lit 3)) ?_
              refine RcB 13 148 r3 true (fun hb => by subst hb; exact lv (Φ := IsV (.agg #[.bool s, .slice a m c])) _ (fun w' e => ld_NdV (HB5.out.ext e)) (Od.lc (Φ := IsV (.pointer (some ⟨w.heap.size, 3, none⟩))) 14 149) (fun _ _ => rfl)) ?_
              refine RcB 13 148 r3 true (fun hb => by subst hb; exact cl1 (Φ := IsV (.agg #[.bool s, .slice a m c])) (Χ := IsV (.int .i64 ((bl : Nat) : Int))) (en Tryz.func67) (Od.lc 15 150) (fun x0 w' hE d0 => by { obtain rfl : x0 = .agg #[.bool s, .slice a m c] := d0; exact HBT.out w' (HE5.out.trans hE) })) ?_
              refine RcB 13 148 r3 true (fun hb => by subst hb; exact bn (r := .bool c4) (Od.lc (Φ := IsV (.int .i64 ((bl : Nat) : Int))) 16 151) Od.con (hr := fun w => by have hx9 := (show decide ((bl : Int) ≤ 256) = c4 from by rw [← Hc4.out]; apply decide_eq_decide.2; omega); go_simp)) ?_
              refine Rc (pkA (Od.lc (Φ := IsV (.bool r3)) 13 148) (fun hb => by subst hb; exact (Od.lc (Φ := IsV (.bool c4)) 17 152)) Hr4.out) ?_
              refine Rc (mv (Od.lc (Φ := IsV (.bool r4)) 18 153)) ?_
              exact RgAll.nil
            intro u X6 e6 hΦ _
            have q9 : u 19 = .bool r4 := hΦ 19 (by decide)
            simp only [layL, Act.put, List.setIfInBounds_toArray, List.set_cons_zero, List.set_cons_succ, Nat.reduceAdd]
            rw [q9]
            have HE6 := hid (HE5.out.trans e6)
            clear hΦ q9 e6
            refine wpList_nil ?_
            go_wp2_with fail
            go_ret
            exact ⟨by rw [HG2.out] <;> rfl, HE6.out⟩
          have hn1 : (op == 1) = false := by simpa using h1
          by_cases h3 : op = 3
          · subst h3
            have HG := hid (HL3.out.2.1 rfl)
            obtain ⟨b3, hb3⟩ : ∃ r, decide (z = 0) = r := ⟨_, rfl⟩
            have Hb3 := hid hb3
            clear hb3
            obtain ⟨b2, hb2⟩ : ∃ r, decide (0 ≤ xn) = r := ⟨_, rfl⟩
            have Hb2 := hid hb2
            clear hb2
            obtain ⟨r2, hr2⟩ : ∃ r, (b3 && b2) = r := ⟨_, rfl⟩
            have Hr2 := hid hr2
            clear hr2
            obtain ⟨c3, hc3⟩ : ∃ r, decide (xn ≤ 63) = r := ⟨_, rfl⟩
            have Hc3 := hid hc3
            clear hc3
            obtain ⟨r3, hr3⟩ : ∃ r, (r2 && c3) = r := ⟨_, rfl⟩
            have Hr3 := hid hr3
            clear hr3
            obtain ⟨p4, hp4⟩ : ∃ r, patB b nm = r := ⟨_, rfl⟩
            have Hp4 := hid hp4
            clear hp4
            obtain ⟨r4, hr4⟩ : ∃ r, (r3 && p4) = r := ⟨_, rfl⟩
            have Hr4 := hid hr4
            clear hr4
            have HZ := hid (show ∀ w', Ext w w' → Calls Tryz.prog 64 #[.agg [.int .i64 3, encS nm, .int .i64 xn, .bool s, .slice a m c, .int .i64 0, .int .i64 0, .slice ao 0 cp].toArray] w' (RVal w' (.bool (decide (z = 0)))) from fun w' e => zero_f (HX.out.ext e))
            rw [Hb3.out] at HZ
            have HZ : Hid (∀ w', Ext w w' → Calls Tryz.prog 64 #[.agg [.int .i64 3, encS nm, .int .i64 xn, .bool s, .slice a m c, .int .i64 0, .int .i64 0, .slice ao 0 cp].toArray] w' (RVal w' (.bool b3))) := HZ
            have HPT := hid (fun w' (e : Ext w w') => rpat_f ((HV.out.1.ext e).sr (by have := HV.out.2; omega)) (by have := HV.out.2; omega) nm)
            rw [Hp4.out] at HPT
            have HPT : Hid (∀ w', Ext w w' → Calls Tryz.prog 68 #[encS nm, v] w' (RVal w' (.bool p4))) := HPT
            have HG2 := hid (show gdN (k + 1) b (.mk 3 nm xn z 0 0 []) = r4 by rw [HG.out, Hb3.out, Hb2.out, Hc3.out, Hp4.out, Hr2.out, Hr3.out, Hr4.out])
            go_upto_region 15 with (fail)
            clear c0
            refine rgs 19 [some 157, some 158, some 159, some 160, some 161, some 162, some 163, some 164, some 165, some 166, some 167, some 168, some 169, some 170, some 171, some 172, some 173, some 174, some 6] [IsV (.agg [.int .i64 3, encS nm, .int .i64 xn, .bool s, .slice a m c, .int .i64 0, .int .i64 0, .slice ao 0 cp].toArray), IsV (.bool b3), IsV (.bool b3), IsIf b3 (IsV (.pointer (some ⟨w.heap.size, 2, none⟩))), IsIf b3 (IsV (.int .i64 xn)), IsIf b3 (IsV (.bool b2)), IsV (.bool r2), IsV (.bool r2), IsIf r2 (IsV (.pointer (some ⟨w.heap.size, 2, none⟩))), IsIf r2 (IsV (.int .i64 xn)), IsIf r2 (IsV (.bool c3)), IsV (.bool r3), IsV (.bool r3), IsIf r3 (IsV (.pointer (some ⟨w.heap.size, 1, none⟩))), IsIf r3 (IsV (encS nm)), IsIf r3 (IsV (v)), IsIf r3 (IsV (.bool p4)), IsV (.bool r4), IsV (.bool r4)] [] ?_ ?_ (hst := by repeat' (first | exact trivial | exact IsV.stb _ | apply IsIf.stb | apply And.intro))
            · refine Rc (lvV (HB5.out) ld_Nd (Od.lit 3)) ?_
              refine Rc (cl1 (Φ := IsV (.agg [.int .i64 3, encS nm, .int .i64 xn, .bool s, .slice a m c, .int .i64 0, .int .i64 0, .slice ao 0 cp].toArray)) (Χ := IsV (.bool b3)) (en Tryz.func64) (Od.lc 0 157) (fun x0 w' hE d0 => by { obtain rfl : x0 = .agg [.int .i64 3, encS nm, .int .i64 xn, .bool s, .slice a m c, .int .i64 0, .int .i64 0, .slice ao 0 cp].toArray := d0; exact Calls.mono (HZ.out w' (HE5.out.trans hE)) (fun e w2 h => ⟨_, h.1, h.2, rfl⟩) })) ?_
              refine Rc (mv (Od.lc (Φ := IsV (.bool b3)) 1 158)) ?_
              refine RcB 2 159 b3 true (fun hb => by subst hb; exact fa (fa_Nd2 w.heap.size) (Od.lit 3)) ?_
              refine RcB 2 159 b3 true (fun hb => by subst hb; exact lvC 2 (HB5.out) ld_i (Od.lc 3 160)) ?_
              refine RcB 2 159 b3 true (fun hb => by subst hb; exact bn (r := .bool b2) (Od.lc (Φ := IsV (.int .i64 xn)) 4 161) Od.con (hr := fun w => by have hx9 := Hb2.out; go_simp)) ?_
              refine Rc (pkA (Od.lc (Φ := IsV (.bool b3)) 2 159) (fun hb => by subst hb; exact (Od.lc (Φ := IsV (.bool b2)) 5 162)) Hr2.out) ?_
              refine Rc (mv (Od.lc (Φ := IsV (.bool r2)) 6 163)) ?_
              refine RcB 7 164 r2 true (fun hb => by subst hb; exact fa (fa_Nd2 w.heap.size) (Od.lit 3)) ?_
              refine RcB 7 164 r2 true (fun hb => by subst hb; exact lvC 2 (HB5.out) ld_i (Od.lc 8 165)) ?_
              refine RcB 7 164 r2 true (fun hb => by subst hb; exact bn (r := .bool c3) (Od.lc (Φ := IsV (.int .i64 xn)) 9 166) Od.con (hr := fun w => by have hx9 := Hc3.out; go_simp)) ?_
              refine Rc (pkA (Od.lc (Φ := IsV (.bool r2)) 7 164) (fun hb => by subst hb; exact (Od.lc (Φ := IsV (.bool c3)) 10 167)) Hr3.out) ?_
              refine Rc (mv (Od.lc (Φ := IsV (.bool r3)) 11 168)) ?_
              refine RcB 12 169 r3 true (fun hb => by subst hb; exact fa (fa_Nd1 w.heap.size) (Od.lit 3)) ?_
              refine RcB 12 169 r3 true (fun hb => by subst hb; exact lvC 1 (HB5.out) ld_str (Od.lc 13 170)) ?_
              refine RcB 12 169 r3 true (fun hb => by subst hb; exact mv (Od.lit (x := v) 1)) ?_
              refine RcB 12 169 r3 true (fun hb => by subst hb; exact cl2 (Φ := IsV (encS nm)) (Ψ := IsV v) (Χ := IsV (.bool p4)) (en Tryz.func68) (Od.lc 14 171) (Od.lc 15 172) (fun x0 y0 w' hE d0 d1 => by { obtain rfl : x0 = encS nm := d0; obtain rfl : y0 = v := d1; exact Calls.mono (HPT.out w' (HE5.out.trans hE)) (fun e w2 h => ⟨_, h.1, h.2, rfl⟩) })) ?_
              refine Rc (pkA (Od.lc (Φ := IsV (.bool r3)) 12 169) (fun hb => by subst hb; exact (Od.lc (Φ := IsV (.bool p4)) 16 173)) Hr4.out) ?_
              refine Rc (mv (Od.lc (Φ := IsV (.bool r4)) 17 174)) ?_
              exact RgAll.nil
            intro u X6 e6 hΦ _
            have q9 : u 18 = .bool r4 := hΦ 18 (by decide)
            simp only [layL, Act.put, List.setIfInBounds_toArray, List.set_cons_zero, List.set_cons_succ, Nat.reduceAdd]
            rw [q9]
            have HE6 := hid (HE5.out.trans e6)
            clear hΦ q9 e6
            refine wpList_nil ?_
            go_wp2_with fail
            go_ret
            exact ⟨by rw [HG2.out] <;> rfl, HE6.out⟩
          have hn3 : (op == 3) = false := by simpa using h3
          by_cases h2 : op = 2
          · subst h2
            have HG := hid (HL3.out.2.2 (by simp))
            obtain ⟨b3, hb3⟩ : ∃ r, decide (z = 0) = r := ⟨_, rfl⟩
            have Hb3 := hid hb3
            clear hb3
            obtain ⟨b2, hb2⟩ : ∃ r, decide (xn = 0) = r := ⟨_, rfl⟩
            have Hb2 := hid hb2
            clear hb2
            obtain ⟨r2, hr2⟩ : ∃ r, (b3 && b2) = r := ⟨_, rfl⟩
            have Hr2 := hid hr2
            clear hr2
            obtain ⟨p4, hp4⟩ : ∃ r, nameB nm = r := ⟨_, rfl⟩
            have Hp4 := hid hp4
            clear hp4
            obtain ⟨r3, hr3⟩ : ∃ r, (r2 && p4) = r := ⟨_, rfl⟩
            have Hr3 := hid hr3
            clear hr3
            obtain ⟨p5, hp5⟩ : ∃ r, decide (nm ∈ b) = r := ⟨_, rfl⟩
            have Hp5 := hid hp5
            clear hp5
            obtain ⟨p6, hp6⟩ : ∃ r, (p5 == false) = r := ⟨_, rfl⟩
            have Hp6 := hid hp6
            clear hp6
            obtain ⟨r4, hr4⟩ : ∃ r, (r3 && p6) = r := ⟨_, rfl⟩
            have Hr4 := hid hr4
            clear hr4
            have HZ := hid (show ∀ w', Ext w w' → Calls Tryz.prog 64 #[.agg [.int .i64 2, encS nm, .int .i64 xn, .bool s, .slice a m c, .int .i64 0, .int .i64 0, .slice ao 0 cp].toArray] w' (RVal w' (.bool (decide (z = 0)))) from fun w' e => zero_f (HX.out.ext e))
            rw [Hb3.out] at HZ
            have HZ : Hid (∀ w', Ext w w' → Calls Tryz.prog 64 #[.agg [.int .i64 2, encS nm, .int .i64 xn, .bool s, .slice a m c, .int .i64 0, .int .i64 0, .slice ao 0 cp].toArray] w' (RVal w' (.bool b3))) := HZ
            have HNA := hid (fun w' => Name_f nm w')
            rw [Hp4.out] at HNA
            have HNA : Hid (∀ w', Calls Tryz.prog 34 #[encS nm] w' (RVal w' (.bool p4))) := HNA
            have HHS := hid (fun w' (e : Ext w w') => Has_f (s := nm) ((HV.out.1.ext e).sr (by have := HV.out.2; omega)) (by have := HV.out.2; omega))
            rw [Hp5.out] at HHS
            have HHS : Hid (∀ w', Ext w w' → Calls Tryz.prog 26 #[v, encS nm] w' (Ret w' (IsV (.bool p5)))) := HHS
            have HG2 := hid (show gdN (k + 1) b (.mk 2 nm xn z 0 0 []) = r4 by rw [HG.out, Hb3.out, Hb2.out, Hp4.out, Hp5.out, Hr2.out, Hr3.out, show decide ((2 : Int) = 11) = false from rfl, Hp6.out, Hr4.out])
            go_upto_region 18 with (fail)
            clear c0
            refine rg 23 [some 183, some 184, some 185, some 186, some 187, some 188, some 189, some 190, some 191, some 192, some 193, some 194, some 195, some 196, some 197, some 198, some 199, some 200, some 201, some 202, some 203, some 204, some 6] [IsV (.agg [.int .i64 2, encS nm, .int .i64 xn, .bool s, .slice a m c, .int .i64 0, .int .i64 0, .slice ao 0 cp].toArray), IsV (.bool b3), IsV (.bool b3), IsIf b3 (IsV (.pointer (some ⟨w.heap.size, 2, none⟩))), IsIf b3 (IsV (.int .i64 xn)), IsIf b3 (IsV (.bool b2)), IsV (.bool r2), IsV (.bool r2), IsIf r2 (IsV (.pointer (some ⟨w.heap.size, 1, none⟩))), IsIf r2 (IsV (encS nm)), IsIf r2 (IsV (.bool p4)), IsV (.bool r3), IsV (.bool r3), IsIf r3 (IsV (v)), IsIf r3 (IsV (.pointer (some ⟨w.heap.size, 1, none⟩))), IsIf r3 (IsV (encS nm)), IsIf r3 (IsV (.bool p5)), IsIf r3 (IsV (.pointer (some ⟨w.heap.size, 0, none⟩))), IsIf r3 (IsV (.int .i64 2)), IsIf r3 (IsV (.bool false)), IsIf r3 (IsV (.bool p6)), IsV (.bool r4), IsV (.bool r4)] [] 0 ?_ ?_ (hst := by repeat' (first | exact trivial | exact IsV.stb _ | apply IsIf.stb | apply And.intro))
            · refine Rc (lvV (HB5.out) ld_Nd (Od.lit 3)) ?_
              refine Rc (cl1 (Φ := IsV (.agg [.int .i64 2, encS nm, .int .i64 xn, .bool s, .slice a m c, .int .i64 0, .int .i64 0, .slice ao 0 cp].toArray)) (Χ := IsV (.bool b3)) (en Tryz.func64) (Od.lc 0 183) (fun x0 w' hE d0 => by { obtain rfl : x0 = .agg [.int .i64 2, encS nm, .int .i64 xn, .bool s, .slice a m c, .int .i64 0, .int .i64 0, .slice ao 0 cp].toArray := d0; exact Calls.mono (HZ.out w' (HE5.out.trans hE)) (fun e w2 h => ⟨_, h.1, h.2, rfl⟩) })) ?_
              refine Rc (mv (Od.lc (Φ := IsV (.bool b3)) 1 184)) ?_
              refine RcB 2 185 b3 true (fun hb => by subst hb; exact fa (fa_Nd2 w.heap.size) (Od.lit 3)) ?_
              refine RcB 2 185 b3 true (fun hb => by subst hb; exact lvC 2 (HB5.out) ld_i (Od.lc 3 186)) ?_
              refine RcB 2 185 b3 true (fun hb => by subst hb; exact bn (r := .bool b2) (Od.lc (Φ := IsV (.int .i64 xn)) 4 187) Od.con (hr := fun w => by have hx9 := (show (xn == 0) = b2 from Hb2.out); go_simp)) ?_
              refine Rc (pkA (Od.lc (Φ := IsV (.bool b3)) 2 185) (fun hb => by subst hb; exact (Od.lc (Φ := IsV (.bool b2)) 5 188)) Hr2.out) ?_
              refine Rc (mv (Od.lc (Φ := IsV (.bool r2)) 6 189)) ?_
              refine RcB 7 190 r2 true (fun hb => by subst hb; exact fa (fa_Nd1 w.heap.size) (Od.lit 3)) ?_
              refine RcB 7 190 r2 true (fun hb => by subst hb; exact lvC 1 (HB5.out) ld_str (Od.lc 8 191)) ?_
              refine RcB 7 190 r2 true (fun hb => by subst hb; exact cl1 (Φ := IsV (encS nm)) (Χ := IsV (.bool p4)) (en Tryz.func34) (Od.lc 9 192) (fun x0 w' hE d0 => by { obtain rfl : x0 = encS nm := d0; exact Calls.mono (HNA.out w') (fun e w2 h => ⟨_, h.1, h.2, rfl⟩) })) ?_
              refine Rc (pkA (Od.lc (Φ := IsV (.bool r2)) 7 190) (fun hb => by subst hb; exact (Od.lc (Φ := IsV (.bool p4)) 10 193)) Hr3.out) ?_
              refine Rc (mv (Od.lc (Φ := IsV (.bool r3)) 11 194)) ?_
              refine RcB 12 195 r3 true (fun hb => by subst hb; exact mv (Od.lit (x := v) 1)) ?_
              refine RcB 12 195 r3 true (fun hb => by subst hb; exact fa (fa_Nd1 w.heap.size) (Od.lit 3)) ?_
              refine RcB 12 195 r3 true (fun hb => by subst hb; exact lvC 1 (HB5.out) ld_str (Od.lc 14 197)) ?_
              refine RcB 12 195 r3 true (fun hb => by subst hb; exact cl2 (Φ := IsV v) (Ψ := IsV (encS nm)) (Χ := IsV (.bool p5)) (en Tryz.func26) (Od.lc 13 196) (Od.lc 15 198) (fun x0 y0 w' hE d0 d1 => by { obtain rfl : x0 = v := d0; obtain rfl : y0 = encS nm := d1; exact HHS.out w' (HE5.out.trans hE) })) ?_
              refine RcB 12 195 r3 true (fun hb => by subst hb; exact fa (fa_Nd0 w.heap.size) (Od.lit 3)) ?_
              refine RcB 12 195 r3 true (fun hb => by subst hb; exact lvC 0 (HB5.out) ld_i (Od.lc 17 200)) ?_
              refine RcB 12 195 r3 true (fun hb => by subst hb; exact bn (p := .int .i64 2) (r := .bool false) (Od.lc 18 201) Od.con (hr := fun w => by go_simp)) ?_
              refine RcB 12 195 r3 true (fun hb => by subst hb; exact bn (p := .bool p5) (q := .bool false) (r := .bool p6) (Od.lc 16 199) (Od.lc 19 202) (hr := fun w => by rw [← Hp6.out]; cases p5 <;> go_simp)) ?_
              refine Rc (pkA (Od.lc (Φ := IsV (.bool r3)) 12 195) (fun hb => by subst hb; exact (Od.lc (Φ := IsV (.bool p6)) 20 203)) Hr4.out) ?_
              refine Rc (mv (Od.lc (Φ := IsV (.bool r4)) 21 204)) ?_
              exact RgAll.nil
            intro u X6 e6 hΦ _
            have q9 : u 22 = .bool r4 := hΦ 22 (by decide)
            simp only [layL, Act.put, List.setIfInBounds_toArray, List.set_cons_zero, List.set_cons_succ, Nat.reduceAdd]
            rw [q9]
            have HE6 := hid (HE5.out.trans e6)
            clear hΦ q9 e6
            refine wpAny_done (by kernel_rfl) ?_ _
            go_wp2_with fail
            go_ret
            exact ⟨by rw [HG2.out] <;> rfl, HE6.out⟩
          have hn2 : (op == 2) = false := by simpa using h2
          have hm2 : (op != 2) = true := by simpa using h2
          clear h2
          by_cases h2 : op = 11
          · subst h2
            have HG := hid (HL3.out.2.2 (by simp))
            obtain ⟨b3, hb3⟩ : ∃ r, decide (z = 0) = r := ⟨_, rfl⟩
            have Hb3 := hid hb3
            clear hb3
            obtain ⟨b2, hb2⟩ : ∃ r, decide (xn = 0) = r := ⟨_, rfl⟩
            have Hb2 := hid hb2
            clear hb2
            obtain ⟨r2, hr2⟩ : ∃ r, (b3 && b2) = r := ⟨_, rfl⟩
            have Hr2 := hid hr2
            clear hr2
            obtain ⟨p4, hp4⟩ : ∃ r, nameB nm = r := ⟨_, rfl⟩
            have Hp4 := hid hp4
            clear hp4
            obtain ⟨r3, hr3⟩ : ∃ r, (r2 && p4) = r := ⟨_, rfl⟩
            have Hr3 := hid hr3
            clear hr3
            obtain ⟨p5, hp5⟩ : ∃ r, decide (nm ∈ b) = r := ⟨_, rfl⟩
            have Hp5 := hid hp5
            clear hp5
            obtain ⟨p6, hp6⟩ : ∃ r, (p5 == true) = r := ⟨_, rfl⟩
            have Hp6 := hid hp6
            clear hp6
            obtain ⟨r4, hr4⟩ : ∃ r, (r3 && p6) = r := ⟨_, rfl⟩
            have Hr4 := hid hr4
            clear hr4
            have HZ := hid (show ∀ w', Ext w w' → Calls Tryz.prog 64 #[.agg [.int .i64 11, encS nm, .int .i64 xn, .bool s, .slice a m c, .int .i64 0, .int .i64 0, .slice ao 0 cp].toArray] w' (RVal w' (.bool (decide (z = 0)))) from fun w' e => zero_f (HX.out.ext e))
            rw [Hb3.out] at HZ
            have HZ : Hid (∀ w', Ext w w' → Calls Tryz.prog 64 #[.agg [.int .i64 11, encS nm, .int .i64 xn, .bool s, .slice a m c, .int .i64 0, .int .i64 0, .slice ao 0 cp].toArray] w' (RVal w' (.bool b3))) := HZ
            have HNA := hid (fun w' => Name_f nm w')
            rw [Hp4.out] at HNA
            have HNA : Hid (∀ w', Calls Tryz.prog 34 #[encS nm] w' (RVal w' (.bool p4))) := HNA
            have HHS := hid (fun w' (e : Ext w w') => Has_f (s := nm) ((HV.out.1.ext e).sr (by have := HV.out.2; omega)) (by have := HV.out.2; omega))
            rw [Hp5.out] at HHS
            have HHS : Hid (∀ w', Ext w w' → Calls Tryz.prog 26 #[v, encS nm] w' (Ret w' (IsV (.bool p5)))) := HHS
            have HG2 := hid (show gdN (k + 1) b (.mk 11 nm xn z 0 0 []) = r4 by rw [HG.out, Hb3.out, Hb2.out, Hp4.out, Hp5.out, Hr2.out, Hr3.out, show decide ((11 : Int) = 11) = true from rfl, Hp6.out, Hr4.out])
            go_upto_region 18 with (fail)
            clear c0
            refine rg 23 [some 183, some 184, some 185, some 186, some 187, some 188, some 189, some 190, some 191, some 192, some 193, some 194, some 195, some 196, some 197, some 198, some 199, some 200, some 201, some 202, some 203, some 204, some 6] [IsV (.agg [.int .i64 11, encS nm, .int .i64 xn, .bool s, .slice a m c, .int .i64 0, .int .i64 0, .slice ao 0 cp].toArray), IsV (.bool b3), IsV (.bool b3), IsIf b3 (IsV (.pointer (some ⟨w.heap.size, 2, none⟩))), IsIf b3 (IsV (.int .i64 xn)), IsIf b3 (IsV (.bool b2)), IsV (.bool r2), IsV (.bool r2), IsIf r2 (IsV (.pointer (some ⟨w.heap.size, 1, none⟩))), IsIf r2 (IsV (encS nm)), IsIf r2 (IsV (.bool p4)), IsV (.bool r3), IsV (.bool r3), IsIf r3 (IsV (v)), IsIf r3 (IsV (.pointer (some ⟨w.heap.size, 1, none⟩))), IsIf r3 (IsV (encS nm)), IsIf r3 (IsV (.bool p5)), IsIf r3 (IsV (.pointer (some ⟨w.heap.size, 0, none⟩))), IsIf r3 (IsV (.int .i64 11)), IsIf r3 (IsV (.bool true)), IsIf r3 (IsV (.bool p6)), IsV (.bool r4), IsV (.bool r4)] [] 0 ?_ ?_ (hst := by repeat' (first | exact trivial | exact IsV.stb _ | apply IsIf.stb | apply And.intro))
            · refine Rc (lvV (HB5.out) ld_Nd (Od.lit 3)) ?_
              refine Rc (cl1 (Φ := IsV (.agg [.int .i64 11, encS nm, .int .i64 xn, .bool s, .slice a m c, .int .i64 0, .int .i64 0, .slice ao 0 cp].toArray)) (Χ := IsV (.bool b3)) (en Tryz.func64) (Od.lc 0 183) (fun x0 w' hE d0 => by { obtain rfl : x0 = .agg [.int .i64 11, encS nm, .int .i64 xn, .bool s, .slice a m c, .int .i64 0, .int .i64 0, .slice ao 0 cp].toArray := d0; exact Calls.mono (HZ.out w' (HE5.out.trans hE)) (fun e w2 h => ⟨_, h.1, h.2, rfl⟩) })) ?_
              refine Rc (mv (Od.lc (Φ := IsV (.bool b3)) 1 184)) ?_
              refine RcB 2 185 b3 true (fun hb => by subst hb; exact fa (fa_Nd2 w.heap.size) (Od.lit 3)) ?_
              refine RcB 2 185 b3 true (fun hb => by subst hb; exact lvC 2 (HB5.out) ld_i (Od.lc 3 186)) ?_
              refine RcB 2 185 b3 true (fun hb => by subst hb; exact bn (r := .bool b2) (Od.lc (Φ := IsV (.int .i64 xn)) 4 187) Od.con (hr := fun w => by have hx9 := (show (xn == 0) = b2 from Hb2.out); go_simp)) ?_
              refine Rc (pkA (Od.lc (Φ := IsV (.bool b3)) 2 185) (fun hb => by subst hb; exact (Od.lc (Φ := IsV (.bool b2)) 5 188)) Hr2.out) ?_
              refine Rc (mv (Od.lc (Φ := IsV (.bool r2)) 6 189)) ?_
              refine RcB 7 190 r2 true (fun hb => by subst hb; exact fa (fa_Nd1 w.heap.size) (Od.lit 3)) ?_
              refine RcB 7 190 r2 true (fun hb => by subst hb; exact lvC 1 (HB5.out) ld_str (Od.lc 8 191)) ?_
              refine RcB 7 190 r2 true (fun hb => by subst hb; exact cl1 (Φ := IsV (encS nm)) (Χ := IsV (.bool p4)) (en Tryz.func34) (Od.lc 9 192) (fun x0 w' hE d0 => by { obtain rfl : x0 = encS nm := d0; exact Calls.mono (HNA.out w') (fun e w2 h => ⟨_, h.1, h.2, rfl⟩) })) ?_
              refine Rc (pkA (Od.lc (Φ := IsV (.bool r2)) 7 190) (fun hb => by subst hb; exact (Od.lc (Φ := IsV (.bool p4)) 10 193)) Hr3.out) ?_
              refine Rc (mv (Od.lc (Φ := IsV (.bool r3)) 11 194)) ?_
              refine RcB 12 195 r3 true (fun hb => by subst hb; exact mv (Od.lit (x := v) 1)) ?_
              refine RcB 12 195 r3 true (fun hb => by subst hb; exact fa (fa_Nd1 w.heap.size) (Od.lit 3)) ?_
              refine RcB 12 195 r3 true (fun hb => by subst hb; exact lvC 1 (HB5.out) ld_str (Od.lc 14 197)) ?_
              refine RcB 12 195 r3 true (fun hb => by subst hb; exact cl2 (Φ := IsV v) (Ψ := IsV (encS nm)) (Χ := IsV (.bool p5)) (en Tryz.func26) (Od.lc 13 196) (Od.lc 15 198) (fun x0 y0 w' hE d0 d1 => by { obtain rfl : x0 = v := d0; obtain rfl : y0 = encS nm := d1; exact HHS.out w' (HE5.out.trans hE) })) ?_
              refine RcB 12 195 r3 true (fun hb => by subst hb; exact fa (fa_Nd0 w.heap.size) (Od.lit 3)) ?_
              refine RcB 12 195 r3 true (fun hb => by subst hb; exact lvC 0 (HB5.out) ld_i (Od.lc 17 200)) ?_
              refine RcB 12 195 r3 true (fun hb => by subst hb; exact bn (p := .int .i64 11) (r := .bool true) (Od.lc 18 201) Od.con (hr := fun w => by go_simp)) ?_
              refine RcB 12 195 r3 true (fun hb => by subst hb; exact bn (p := .bool p5) (q := .bool true) (r := .bool p6) (Od.lc 16 199) (Od.lc 19 202) (hr := fun w => by rw [← Hp6.out]; cases p5 <;> go_simp)) ?_
              refine Rc (pkA (Od.lc (Φ := IsV (.bool r3)) 12 195) (fun hb => by subst hb; exact (Od.lc (Φ := IsV (.bool p6)) 20 203)) Hr4.out) ?_
              refine Rc (mv (Od.lc (Φ := IsV (.bool r4)) 21 204)) ?_
              exact RgAll.nil
            intro u X6 e6 hΦ _
            have q9 : u 22 = .bool r4 := hΦ 22 (by decide)
            simp only [layL, Act.put, List.setIfInBounds_toArray, List.set_cons_zero, List.set_cons_succ, Nat.reduceAdd]
            rw [q9]
            have HE6 := hid (HE5.out.trans e6)
            clear hΦ q9 e6
            refine wpAny_done (by kernel_rfl) ?_ _
            go_wp2_with fail
            go_ret
            exact ⟨by rw [HG2.out] <;> rfl, HE6.out⟩
          have hn11 : (op == 11) = false := by simpa using h2
          have hm11 : (op != 11) = true := by simpa using h2
          have HG2 := hid (HL2.out (by simp at hn2; omega))
          go_wp2_with fail
          go_ret
          exact ⟨by rw [HG2.out] <;> rfl, HE5.out⟩
end
end Go.Proofs.YtenhciieboegbaaGreatDoor
