/-
  The law NotebookJoins at every input. (Printed by wip/gen/njo.py.)
-/
import Derived.Test.YtenhciieboegbaaGreatDoorNjm
namespace Go.Proofs.YtenhciieboegbaaGreatDoor
open Go Go.RowKit Go.Maps
theorem flat_lenK {k : Nat} : ∀ {L : List (List Value)}, (∀ r ∈ L, r.length = k) → L.flatten.length = L.length * k
  | [], _ => by simp
  | r :: L, h => by
    rw [List.flatten_cons, List.length_append, h r (by simp), flat_lenK (fun x hx => h x (by simp [hx])), List.length_cons, Nat.succ_mul]; omega
theorem fld_Pa (a : Option Addr) (c : Nat) (w : World) : (Instr.field 47 (.agg #[.slice a 0 c, .int .i64 420]) 1).run Tryz.prog w = .ok (.int .i64 420) w := by
  unfold Instr.field
  go_simp
  try simp [asAgg]
structure JnW (X : World) (l : List Cl) (M : List (List Value)) (lv : Value) (Y : World) : Prop where
  e : Ext X Y
  rw : RwK 34 9 X.heap.size M lv Y
  cr : CsR 0 lv.ownBlock Y l M
section
variable {ops : Array Oper} {Q : Exit → Act → World → Prop} {ds : List (Option Tmp)} {a0 : Act} {w0 : World} {L : List (Value → World → Prop)} {boxes : List Nat} {i k : Nat} {o : Oper} {os : List Oper}
theorem lenC {ao : Option Addr} {n c : Nat} {x : Operand} (hx : Od ops ds a0 w0 L i x (IsV (.slice ao n c))) (ho : o.op = .call { callee := .builtin .len, args := #[x], argTypes := #[25] } := by rfl) (hi : L.getD i (fun _ _ => True) = IsV (.int .i64 ((n : Nat) : Int)) := by kernel_rfl) (hb : boxes.contains i = false := by kernel_rfl) : Ok Tryz.prog ops Q ds a0 w0 L boxes i o :=
  Ok.of hb fun v a w hE hd hf => by
    have h1 : a.eval x = _ := hx.out v a w hE hd hf
    refine ⟨_, ?_, by rw [hi]; exact rfl⟩
    unfold execOp
    rw [ho]
    dsimp only
    unfold resolve
    simp only [List.map_toArray, List.map_cons, List.map_nil, h1]
    go_simp
/-- v[n:] of a row of cells. -/
theorem slO {v v' : Value} {n : Nat} {x y : Operand} (hx : Od ops ds a0 w0 L i x (IsV v)) (hy : Od ops ds a0 w0 L i y (IsV (.int .i64 ((n : Nat) : Int)))) (h : (v = .slice none 0 0 ∧ n = 0 ∧ v' = .slice none 0 0) ∨ ∃ g len cap, v = .slice (some ⟨g, 0, none⟩) len cap ∧ n ≤ len ∧ len ≤ cap ∧ cap ≤ 9223372036854775807 ∧ v' = .slice (some ⟨g, if cap = n then 0 else 9 * n, none⟩) (len - n) (cap - n))
    (ho : o.op = .slice 25 x (some y) none none := by rfl) (hi : L.getD i (fun _ _ => True) = IsV v' := by kernel_rfl) (hb : boxes.contains i = false := by kernel_rfl) : Ok Tryz.prog ops Q ds a0 w0 L boxes i o :=
  Ok.of hb fun v0 a w hE hd hf => by
    have h1 : a.eval x = _ := hx.out v0 a w hE hd hf
    have h2 : a.eval y = _ := hy.out v0 a w hE hd hf
    refine ⟨v', ?_, by rw [hi]; exact rfl⟩
    unfold execOp
    rw [ho]
    dsimp only
    rw [h1]
    simp only [Option.map_some, Option.map_none, h2]
    rcases h with ⟨rfl, rfl, rfl⟩ | ⟨g, len, cap, rfl, q1, q2, q3, rfl⟩
    · go_simp
    · have e1 : ((n : Nat) : Int) ≤ (len : Int) := by omega
      have e2 : (0 : Int) ≤ (n : Int) := by omega
      have e3 : ((len : Nat) : Int) ≤ (cap : Int) := by omega
      have e4 : n * 9 = 9 * n := Nat.mul_comm _ _
      by_cases e5 : cap = n
      · rw [if_pos e5]; go_simp
      · rw [if_neg e5]; go_simp
end
section
set_option maxRecDepth 100000
set_option maxHeartbeats 16000000
theorem Joins_w {w : World} {v1 v2 : Value} (hT : TabM w) (hb1 : IsBys v1 w) (hb2 : IsBys v2 w) : Calls Tryz.prog 7 #[v1, v2] w (Ret w (IsV (.bool true))) := by
  have HT := hid hT
  have HB := hid (And.intro hb1 hb2)
  clear hT hb1 hb2
  go_enter Tryz.func7, Tryz.ntmps7
  go_upto_region 4 with (go_at_call 9; refine Calls.mono (examples_f HT.out) ?_; rintro e w1 ⟨x, rfl, e1, hx⟩; obtain rfl : x = .bool true := hx; have e1 := hid e1)
  refine wp_region_lit ?_
  refine stL (fun K hK => wp_mv (hK _ _ ?_))
  clear hK K
  go_simp
  refine stL (fun K hK => ?_)
  refine wp_callN (us := [v1]) (en Tryz.func10) (by kernel_rfl) (Made_s (HB.out.1.ext e1.out)) (fun u w2 h => hK _ _ ?_) (fun ch X h => by { obtain ⟨x, hx, _⟩ := h; cases hx }) (fun X h => by { obtain ⟨x, hx, _⟩ := h; cases hx })
  clear hK K
  obtain ⟨u', h0, e2, l1, M1, hl1, hc1, hs1, hm1, hv1⟩ := h
  cases h0
  obtain ⟨a1, n1, c1, hu1⟩ : ∃ a n c, u = .slice a n c := let ⟨ao, c, h, _⟩ := hc1; ⟨ao, _, c, h⟩
  have HE2 := hid (e1.out.trans e2)
  have HA := hid (And.intro hl1 (And.intro (hc1.low (Nat.zero_le _)) (And.intro hs1 (And.intro hm1 (fun i c hi => let ⟨us, q1, q2⟩ := hv1 i c hi; (⟨us, q1, NdC.low (Nat.zero_le _) _ _ q2⟩ : ∃ us : List Value, M1[i]? = some (encS c.nm :: us) ∧ NdC 0 w2 c.e us))))))
  clear e1 e2 hl1 hc1 hs1 hm1 hv1
  subst hu1
  go_simp
  refine stL (fun K hK => wp_mv (hK _ _ ?_))
  clear hK K
  go_simp
  refine stL (fun K hK => ?_)
  refine wp_callN (us := [v2]) (en Tryz.func10) (by kernel_rfl) (Made_s (HB.out.2.ext HE2.out)) (fun y w4 h => hK _ _ ?_) (fun ch X h => by { obtain ⟨x, hx, _⟩ := h; cases hx }) (fun X h => by { obtain ⟨x, hx, _⟩ := h; cases hx })
  clear hK K
  obtain ⟨y', h0, e4, l2, M2, hl2, hc2, -, -, -⟩ := h
  cases h0
  obtain ⟨a2, c2, hu2, -⟩ := id hc2
  obtain ⟨n2, hn2⟩ : ∃ n, l2.length = n := ⟨_, rfl⟩
  rw [hn2] at hu2
  subst hu2
  have HE4 := hid (HE2.out.trans e4)
  have HL1 := hid HA.out.1
  have HC1 := hid (HA.out.2.1.ext e4)
  have HS1 := hid (HA.out.2.2.1.ext e4)
  have HM1 := hid HA.out.2.2.2.1
  have HV1 := hid (show ∀ (i : Nat) (c : Cl), l1[i]? = some c → ∃ us : List Value, M1[i]? = some (encS c.nm :: us) ∧ NdC 0 w4 c.e us from fun i c hi => let ⟨us, q1, q2⟩ := HA.out.2.2.2.2 i c hi; ⟨us, q1, q2.ext e4⟩)
  have HL2 := hid (And.intro hl2 hn2)
  have HC2 := hid (hc2.low (Nat.zero_le _))
  clear e4 HA HE2 hl2 hn2 hc2
  go_simp
  refine stL (fun K hK => wp_mv (hK _ _ ?_))
  clear hK K
  go_simp
  refine stL (fun K hK => wp_mv (hK _ _ ?_))
  clear hK K
  go_simp
  refine wpList_nil ?_
  go_upto_region 5 with (fail)
  obtain ⟨W, hW, E5, R5⟩ : ∃ W, W = w4.alloc (.cells #[] 34) ∧ Ext w4 W ∧ RwK 34 9 w4.heap.size [] (.slice (some ⟨w4.heap.size, 0, none⟩) 0 0) W := ⟨_, rfl, (Ext.refl _).alloc _, RwC.zero w4⟩
  refine wp_region_lit ?_
  refine wpList_step fun K hK => ?_
  go_simp
  refine hK _ _ ?_
  clear hK K
  rw [← hW]
  clear hW
  refine stL (fun K hK => wp_mv (hK _ _ ?_))
  clear hK K
  go_simp
  have hnw : ∀ u ∈ M1.flatten, u.oneCell' = true ∧ NoWord u := fun u hu => by
    obtain ⟨r, hr, hur⟩ := List.mem_flatten.1 hu
    obtain ⟨i, hi⟩ := List.getElem?_of_mem hr
    have hil : i < l1.length := by rw [← HM1.out]; exact (List.getElem?_eq_some_iff.1 hi).1
    obtain ⟨us, q1, q2⟩ := HV1.out i l1[i] (List.getElem?_eq_getElem hil)
    rw [hi] at q1
    cases q1
    rcases List.mem_cons.1 hur with rfl | h
    · exact ⟨rfl, NoWord.string _⟩
    · exact ⟨List.all_eq_true.1 q2.nw.2 u h, q2.nw.1 u h⟩
  have hln : M1.flatten.length = l1.length * 9 := by
    rw [← HM1.out]
    refine flat_lenK (fun r hr => ?_)
    obtain ⟨i, hi⟩ := List.getElem?_of_mem hr
    have hil : i < l1.length := by rw [← HM1.out]; exact (List.getElem?_eq_some_iff.1 hi).1
    obtain ⟨us, q1, q2⟩ := HV1.out i l1[i] (List.getElem?_eq_getElem hil)
    rw [hi] at q1
    cases q1
    rw [List.length_cons, q2.len]
  obtain ⟨bytes, hbi, hbb⟩ := infoCl
  refine stL (fun K hK => wp_rwnS (.tmp 20) (.tmp 21) 25 rfl w4.heap.size 34 (.agg zCl.toArray) 9 bytes (by kernel_rfl) hbi rfl (by decide) (fun u hu => nwZCl u (by simpa [Value.cells] using hu)) (.slice (some ⟨w4.heap.size, 0, none⟩) 0 0) 0 [] rfl R5.1 R5.2 l1.length M1.flatten (.slice a1 n1 c1) rfl hln (HS1.out.ext E5) (fun u hu => (hnw u hu).1) (fun u hu => (hnw u hu).2) (by have := HL1.out.1; omega) (by have := HL1.out.1; have := Nat.mul_le_mul (show 0 + l1.length ≤ 4 by omega) hbb; omega) E5.size (fun v5 X5 q1 q2 q3 q4 q5 q6 => hK _ _ ?_))
  have RW5 : RwK 34 9 w4.heap.size M1 v5 X5 := ⟨by rw [HM1.out]; simpa using q1, q2⟩
  have HNO5 : ∀ g, v5.ownBlock = some g → w4.heap.size ≤ g ∧ g < X5.heap.size := World.ownsRow.lt RW5.1
  have EX5 : Ext w4 X5 := Below.grown E5 q3 E5.size (fun k hk => by have : w4.heap.size = k := (by injection hk); omega)
  have CR5 : CsR 0 v5.ownBlock X5 l1 M1 := ⟨HM1.out, fun i c hi => let ⟨us, r1, r2⟩ := HV1.out i c hi; ⟨HL1.out.ok.2.2 c (List.mem_of_getElem? hi), us, r1, NdI.old r2 EX5 (fun g e => (HNO5 g e).1)⟩⟩
  have HS5 := hid (show JnW w4 l1 M1 v5 X5 from ⟨EX5, RW5, CR5⟩)
  clear hK K hnw hln hbi hbb bytes q1 q2 q3 q4 q5 q6 R5 E5 RW5 HNO5 EX5 CR5
  try go_simp
  refine stL (fun K hK => wp_mv (hK _ _ ?_))
  clear hK K
  go_simp
  refine wpList_nil ?_
  go_wp2_with fail
  go_loopg [8, 9] n2 (fun gk v8 v9 wr => ∃ i : Nat, v9 = .int .i64 ((i : Nat) : Int) ∧ i + gk = n2 ∧ Hid (∃ M, JnW w4 (l1 ++ (rnQ l2).take i) M v8 wr))
  case atStart => exact ⟨0, rfl, by omega, hid ⟨M1, by simpa using HS5.out⟩⟩
  case round =>
    obtain ⟨i, rfl, hg, S⟩ := hrel
    obtain ⟨M, hS⟩ := S.out
    have HS := hid hS
    clear S hS
    by_cases hi : i < n2
    · have hil : (i : Int) < (n2 : Int) := by omega
      have hiw : IntKind.i64.wrap ((i : Int) + 1) = ((i + 1 : Nat) : Int) := by have := HL2.out; have := HL2.out.1.1; simp only [IntKind.wrap_i64]; omega
      have hi4 : i < 4 := by have := HL2.out.1.1; have := HL2.out.2; omega
      obtain ⟨s, hs1, hs2⟩ := nmQ_at hi4
      obtain ⟨c, hc⟩ : ∃ c, l2[i]? = some c := ⟨_, List.getElem?_eq_getElem (by rw [HL2.out.2]; exact hi)⟩
      obtain ⟨ao, cp, hv9, -, -, hP⟩ := HC2.out
      rw [HL2.out.2] at hv9
      obtain ⟨rfl, rfl⟩ : a2 = ao ∧ c2 = cp := by injection hv9 with q1 q2 q3; exact ⟨q1, q3⟩
      obtain ⟨g, o, rfl, -, hcs⟩ := hP (fun e => by rw [e] at hc; cases hc)
      obtain ⟨us, hu1, hu2, -⟩ := hcs i c hc
      obtain ⟨qb, hqb⟩ : ∃ y : ByteArray, (⟨s.toArray⟩ : ByteArray) = y := ⟨_, rfl⟩
      have HQ := hid (And.intro hs1 (And.intro hs2 hqb))
      have HI := hid (And.intro hi (And.intro hi4 (And.intro hg hc)))
      have HU := hid (And.intro hu1 hu2)
      clear hs1 hs2 hqb hi hi4 hg hc hv9 hP hcs hu1 hu2
      go_upto_region 9 with (fail)
      refine rg 11 [some 29, some 30, some 31, some 32, some 33, some 34, some 35, some 36, some 37, some 38, some 39] [IsV u8, IsV (.int .i64 ((i : Nat) : Int)), IsV (encS (Lib.itoa ((i : Nat) : Int))), IsV (encS ([113] ++ Lib.itoa ((i : Nat) : Int))), IsV (.slice (some ⟨g, o, none⟩) n2 c2), IsV (.int .i64 ((i : Nat) : Int)), IsV (.pointer (some ⟨g, o + 9 * i, none⟩)), IsV (.pointer (some ⟨g, o + 9 * i + 1, none⟩)), IsV (.agg us.toArray), IsV (.agg (Value.string qb :: us).toArray), IsNr wr.heap.size 1 (Value.string qb :: us)] [] 2 ?_ ?_ (hst := by repeat' (first | exact trivial | exact IsV.stb _ | exact IsNr.stb _ _ _ | apply And.intro))
      · refine Rc (mv (Od.lit 8)) ?_
        refine Rc (mv (Od.lit (x := .int .i64 ((i : Nat) : Int)) 9)) ?_
        refine Rc (cl1 (Φ := IsV (.int .i64 ((i : Nat) : Int))) (Χ := IsV (encS (Lib.itoa ((i : Nat) : Int)))) (en Tryz.func17) (Od.lc 1 30) (fun x0 w' hE d0 => by { obtain rfl : x0 = .int .i64 ((i : Nat) : Int) := d0; exact Number_f (by have := HI.out.2.1; omega) })) ?_
        refine Rc (ct (s := [113]) (t := Lib.itoa ((i : Nat) : Int)) Od.con (Od.lc 2 31) (by have h := itoa_lenK (z := (i : Int)) 78 (by have := HI.out.2.1; omega) (by decide); simp only [List.length_cons, List.length_nil]; omega)) ?_
        refine Rc (mv (Od.lit 7)) ?_
        refine Rc (mv (Od.lit (x := .int .i64 ((i : Nat) : Int)) 9)) ?_
        refine Rc (ixq (ix_Cl g o c2 n2 i HI.out.1) (Od.lc 4 33) (Od.lc (Φ := IsV (.int .i64 ((i : Nat) : Int))) 5 34)) ?_
        refine Rc (fa (fa_Cl1 g (o + 9 * i)) (Od.lc 6 35)) ?_
        refine Rc (lv (Φ := IsV (.agg us.toArray)) _ (fun w' e => ldM (by kernel_rfl) (by kernel_rfl) HU.out.2.len (fun j v hj => (HS.out.e.trans e).cell (HU.out.1 j v hj))) (Od.lc 7 36) (fun _ _ => rfl)) ?_
        refine Rc (bd2 (T := 34) (f := 0) (g := 1) (p := encS ([113] ++ Lib.itoa ((i : Nat) : Int))) (q := .agg us.toArray) (r := .agg (Value.string qb :: us).toArray) (Od.lc 3 32) (Od.lc (Φ := IsV (.agg us.toArray)) 8 37) (fun w => by rw [HQ.out.2.1, encS, HQ.out.2.2]; exact bdCl_run HU.out.2.len w)) ?_
        refine Rc (bs1 (p := .agg (Value.string qb :: us).toArray) (Od.lc 9 38) (fun w => bsC_run (by rw [List.length_cons, HU.out.2.len]) (by rw [List.all_cons, HU.out.2.nw.2]; rfl) w) (Nat.le_refl _)) ?_
        exact RgAll.nil
      intro x X4 e4 hΦ _
      obtain ⟨p, hxv, hpg, hbk⟩ := hΦ 10 (by decide)
      simp only [layL, Act.put, List.setIfInBounds_toArray, List.set_cons_zero, List.set_cons_succ, Nat.reduceAdd]
      rw [show x 0 = u8 from hΦ 0 (by decide), hxv]
      clear hΦ hxv
      have h9 : (Value.string qb :: us).length = 9 := by rw [List.length_cons, HU.out.2.len]
      have h8 : (Value.string qb :: us).all (fun u => u.oneCell') = true := by rw [List.all_cons, HU.out.2.nw.2]; rfl
      have hsr : SrcR 1 (Value.string qb :: us) (.slice (some ⟨p, 0, none⟩) 1 1) X4 := .inr ⟨p, 0, 1, rfl, fun j u hj => by rw [Nat.zero_add]; exact hbk.c j u hj⟩
      have E4 := HS.out.e.trans e4
      have HNO : ∀ g, u8.ownBlock = some g → w4.heap.size ≤ g ∧ g < wr.heap.size := World.ownsRow.lt HS.out.rw.1
      have HRW := HS.out.rw.ext e4
      have HCR := HS.out.cr.kc (Kc.ext e4)
      have hml : M.length ≤ 1000000 := by
        have h1 := HS.out.cr.1
        have h2 := HL1.out.1
        have h3 := HI.out.2.1
        rw [List.length_append, List.length_take] at h1
        omega
      refine stA 11 rfl (fun K hK => wp_clo 40 (.tmp 29) (.tmp 39) rfl w4.heap.size M (Value.string qb :: us) u8 (.slice (some ⟨p, 0, none⟩) 1 1) rfl rfl HRW ⟨h9, fun v hv => by rcases List.mem_cons.1 hv with rfl | hv; exact NoWord.string _; exact HU.out.2.nw.1 v hv, h8⟩ hsr hml E4.size (fun v8 X8 q1 q2 q3 q4 => hK _ _ ?_))
      have HE8 : Ext w4 X8 := Below.grown E4 q2 E4.size (fun k hk => (HNO _ hk).1)
      have HNO8 : ∀ g, v8.ownBlock = some g → w4.heap.size ≤ g ∧ g < X8.heap.size := World.ownsRow.lt q1.1
      have HT8 : (rnQ l2).take (i + 1) = (rnQ l2).take i ++ [(⟨s, c.e⟩ : Cl)] := by rw [List.take_add_one, rnQ_at HQ.out.1 HI.out.2.2.2]; rfl
      have HCR8 := (HCR.grown q2 q3 q4).snoc (c := (⟨s, c.e⟩ : Cl)) (us := us) (by have h2 : ∀ s ∈ nmQ, s.length ≤ 1000000 := (by decide); exact h2 s (List.mem_of_getElem? HQ.out.1)) (NdI.old HU.out.2 HE8 (fun g e => (HNO8 g e).1))
      have hq9 : encS (⟨s, c.e⟩ : Cl).nm = .string qb := by rw [encS]; exact congrArg Value.string HQ.out.2.2
      rw [hq9] at HCR8
      have HS8 := hid (show JnW w4 (l1 ++ (rnQ l2).take (i + 1)) (M ++ [Value.string qb :: us]) v8 X8 from ⟨HE8, q1, by rw [HT8, ← List.append_assoc]; exact HCR8⟩)
      clear hsr hbk hpg h9 h8 E4 HNO HNO8 HRW HCR q1 q2 q3 q4 HCR8 HE8 HT8 hq9 hK K e4 HS hml
      refine asA 12 8 (.tmp 40) v8 rfl ?_
      refine wpAny_done (by kernel_rfl) ?_ _
      simp only [Act.put, List.setIfInBounds_toArray, List.set_cons_zero, List.set_cons_succ]
      go_wp2_with fail
      go_roundg (gk - 1)
      case measure => have := HI.out; omega
      case rel => exact ⟨i + 1, rfl, by have := HI.out; omega, hid ⟨_, HS8.out⟩⟩
    · have hil : ¬ (i : Int) < (n2 : Int) := by omega
      have htk : (rnQ l2).take i = rnQ l2 := List.take_of_length_le (by rw [rnQ_len HL2.out.1.1, HL2.out.2]; omega)
      rw [htk] at HS
      clear htk hg
      go_upto_region 10 with (fail)
      obtain ⟨pb1, hp1⟩ : ∃ y : ByteArray, (⟨(shL l1).toArray⟩ : ByteArray) = y := ⟨_, rfl⟩
      obtain ⟨pb2, hp2⟩ : ∃ y : ByteArray, (⟨(shL (rnQ l2)).toArray⟩ : ByteArray) = y := ⟨_, rfl⟩
      obtain ⟨pb3, hp3⟩ : ∃ y : ByteArray, (⟨(shL (l1 ++ rnQ l2)).toArray⟩ : ByteArray) = y := ⟨_, rfl⟩
      have HPB := hid (And.intro hp1 (And.intro hp2 hp3))
      have HJ := hid (jn_law HL1.out HL2.out.1)
      have HOK := hid (jn_ok HL1.out HL2.out.1)
      have HEX := hid (HE4.out.trans HS.out.e)
      have HC8 := hid (show IsCs 0 (l1 ++ rnQ l2) u8 wr from HS.out.cr.is HS.out.rw (Nat.zero_le _))
      have HC1' := hid (HC1.out.ext HS.out.e)
      have hn1 : n1 = l1.length := by obtain ⟨ao, cc, h, -⟩ := HC1.out; injection h
      have HN1 := hid hn1
      obtain ⟨y8, hy8, hc8⟩ : ∃ y8, ((u8 = .slice none 0 0 ∧ n1 = 0 ∧ y8 = .slice none 0 0) ∨ ∃ g len cap, u8 = .slice (some ⟨g, 0, none⟩) len cap ∧ n1 ≤ len ∧ len ≤ cap ∧ cap ≤ 9223372036854775807 ∧ y8 = .slice (some ⟨g, if cap = n1 then 0 else 9 * n1, none⟩) (len - n1) (cap - n1)) ∧ IsCs 0 (rnQ l2) y8 wr := by
        have hlen : M.length = l1.length + (rnQ l2).length := by rw [HS.out.cr.1, List.length_append]
        obtain ⟨h1, ⟨h2, h3⟩ | ⟨g, cap, cur, hv, -, -, hn, hc, -⟩⟩ := HS.out.rw.1
        · have e1 : rnQ l2 = [] := List.length_eq_zero_iff.1 (by omega)
          exact ⟨.slice none 0 0, .inl ⟨h2, by omega, rfl⟩, by rw [e1]; exact IsCs.nil _ _⟩
        · refine ⟨_, .inr ⟨g, M.length, cap, hv, by omega, hn, by unfold maxLen at hc; omega, rfl⟩, ?_⟩
          have h8 := HC8.out
          rw [hv] at h8
          by_cases e : cap = n1
          · have e1 : rnQ l2 = [] := List.length_eq_zero_iff.1 (by omega)
            rw [if_pos e, e1]
            exact ⟨_, _, by rw [show M.length - n1 = 0 by omega]; rfl, Nat.zero_le _, by unfold maxLen at hc; omega, fun h => absurd rfl h⟩
          · rw [if_neg e]
            have h9 := IsCs.drop (a := l1) (b := rnQ l2) (g := g) (o := 0) (c := cap) (by rw [List.length_append, ← hlen]; exact h8)
            rw [Nat.zero_add, ← hn1] at h9
            rwa [show M.length - n1 = (rnQ l2).length by omega]
      have HY8 := hid (And.intro hy8 hc8)
      clear hp1 hp2 hp3 hn1 hy8 hc8
      refine wp_region_rgj (Jb wr (fun j => if j = 9 then pb1 else if j = 10 then pb2 else pb3)) (fun a b => Ext wr a → Ext wr b) 15 [some 41, some 42, some 43, some 44, some 45, some 46, some 47, some 48, some 49, some 10, some 11, some 12, none, none, none]
        [IsV (.slice a1 n1 c1), IsV (.agg #[.string pb1, .int .i64 0]), IsV u8, IsV (.slice a1 n1 c1), IsV (.int .i64 ((n1 : Nat) : Int)), IsV y8, IsV (.agg #[.string pb2, .int .i64 0]), IsV u8, IsV (.agg #[.string pb3, .int .i64 0]), TT, TT, TT, TT, TT, TT] (by kernel_rfl) (by kernel_rfl) (by kernel_rfl) (by kernel_rfl) (by kernel_rfl) (fun h k e => k (h e)) (fun e h => h.trans e) ?_ ?_ (fun v => Jb.start _ _ _ _ _) ?_
      · exact ⟨fun _ _ _ _ h => h, fun _ _ _ _ h => h, fun _ _ _ _ h => h, fun _ _ _ _ h => h, fun _ _ _ _ h => h, fun _ _ _ _ h => h, fun _ _ _ _ h => h, fun _ _ _ _ h => h, fun _ _ _ _ h => h, fun _ _ _ _ h => h, fun _ _ _ _ h => h, fun _ _ _ _ h => h, fun _ _ _ _ h => h, fun _ _ _ _ h => h, fun _ _ _ _ h => h, trivial⟩
      · intro i o hi ho
        match i, hi, ho with
        | 0, _, ho =>
          obtain rfl : _ = o := Option.some.inj ho
          exact ⟨rfl, RgSj.ok (fun e h => h.trans e) (fun listed v a b x h e _ _ => h.plain x e (by decide)) (fun w' q => mv (Od.lit (x := .slice a1 n1 c1) 6))⟩
        | 1, _, ho =>
          obtain rfl : _ = o := Option.some.inj ho
          exact ⟨rfl, RgSj.ok (fun e h => h.trans e) (fun listed v a b x h e _ _ => h.plain x e (by decide)) (fun w' q => cl1 (Φ := IsV (.slice a1 n1 c1)) (Χ := IsV (.agg #[.string pb1, .int .i64 0])) (en Tryz.func14) (Od.lc 0 41) (fun x0 w2 hE d0 => by { obtain rfl : x0 = (.slice a1 n1 c1) := d0; have E9 := (q (Ext.refl _)).trans hE; exact Calls.mono (printed_f (IsCs.ext HC1'.out E9) (by have h1 := HOK.out.2.2; rw [List.length_append] at h1; first | omega | (rw [List.length_append]; omega)) (fun c hc => by have h := name_len (HOK.out.1 c (List.mem_append_left _ hc)).2; omega) (HT.out.1.ext (HEX.out.trans E9))) (fun e w3 hq => by { obtain ⟨r, q1, q2, q3⟩ := hq; refine ⟨r, q1, q2, ?_⟩; rw [prS, if_pos HL1.out.pr.1, HL1.out.pr.1] at q3; exact q3.trans (by rw [encS, HPB.out.1]) }) }))⟩
        | 2, _, ho =>
          obtain rfl : _ = o := Option.some.inj ho
          exact ⟨rfl, RgSj.ok (fun e h => h.trans e) (fun listed v a b x h e _ _ => h.plain x e (by decide)) (fun w' q => mv (Od.lit (x := u8) 8))⟩
        | 3, _, ho =>
          obtain rfl : _ = o := Option.some.inj ho
          exact ⟨rfl, RgSj.ok (fun e h => h.trans e) (fun listed v a b x h e _ _ => h.plain x e (by decide)) (fun w' q => mv (Od.lit (x := .slice a1 n1 c1) 6))⟩
        | 4, _, ho =>
          obtain rfl : _ = o := Option.some.inj ho
          exact ⟨rfl, RgSj.ok (fun e h => h.trans e) (fun listed v a b x h e _ _ => h.plain x e (by decide)) (fun w' q => lenC (ao := a1) (n := n1) (c := c1) (Od.lc 3 44))⟩
        | 5, _, ho =>
          obtain rfl : _ = o := Option.some.inj ho
          exact ⟨rfl, RgSj.ok (fun e h => h.trans e) (fun listed v a b x h e _ _ => h.plain x e (by decide)) (fun w' q => slO (v := u8) (v' := y8) (n := n1) (Od.lc 2 43) (Od.lc 4 45) HY8.out.1)⟩
        | 6, _, ho =>
          obtain rfl : _ = o := Option.some.inj ho
          exact ⟨rfl, RgSj.ok (fun e h => h.trans e) (fun listed v a b x h e _ _ => h.plain x e (by decide)) (fun w' q => cl1 (Φ := IsV y8) (Χ := IsV (.agg #[.string pb2, .int .i64 0])) (en Tryz.func14) (Od.lc 5 46) (fun x0 w2 hE d0 => by { obtain rfl : x0 = y8 := d0; have E9 := (q (Ext.refl _)).trans hE; exact Calls.mono (printed_f (IsCs.ext HY8.out.2 E9) (by have h1 := HOK.out.2.2; rw [List.length_append] at h1; first | omega | (rw [List.length_append]; omega)) (fun c hc => by have h := name_len (HOK.out.1 c (List.mem_append_right _ hc)).2; omega) (HT.out.1.ext (HEX.out.trans E9))) (fun e w3 hq => by { obtain ⟨r, q1, q2, q3⟩ := hq; refine ⟨r, q1, q2, ?_⟩; rw [prS, if_pos HJ.out.2.1, HJ.out.2.1] at q3; exact q3.trans (by rw [encS, HPB.out.2.1]) }) }))⟩
        | 7, _, ho =>
          obtain rfl : _ = o := Option.some.inj ho
          exact ⟨rfl, RgSj.ok (fun e h => h.trans e) (fun listed v a b x h e _ _ => h.plain x e (by decide)) (fun w' q => mv (Od.lit (x := u8) 8))⟩
        | 8, _, ho =>
          obtain rfl : _ = o := Option.some.inj ho
          exact ⟨rfl, RgSj.ok (fun e h => h.trans e) (fun listed v a b x h e _ _ => h.plain x e (by decide)) (fun w' q => cl1 (Φ := IsV u8) (Χ := IsV (.agg #[.string pb3, .int .i64 0])) (en Tryz.func14) (Od.lc 7 48) (fun x0 w2 hE d0 => by { obtain rfl : x0 = u8 := d0; have E9 := (q (Ext.refl _)).trans hE; exact Calls.mono (printed_f (IsCs.ext HC8.out E9) (by have h1 := HOK.out.2.2; rw [List.length_append] at h1; first | omega | (rw [List.length_append]; omega)) (fun c hc => by have h := name_len (HOK.out.1 c (hc)).2; omega) (HT.out.1.ext (HEX.out.trans E9))) (fun e w3 hq => by { obtain ⟨r, q1, q2, q3⟩ := hq; refine ⟨r, q1, q2, ?_⟩; rw [prS, if_pos HJ.out.1, HJ.out.1] at q3; exact q3.trans (by rw [encS, HPB.out.2.2]) }) }))⟩
        | 9, _, ho =>
          obtain rfl : _ = o := Option.some.inj ho
          exact ⟨rfl, ⟨fun listed v x hsz hj hR hu hn hd hf K hK => wp_alB (vs := [.string ⟨#[]⟩, .int .i64 0]) al_Tx (fun Bn e => hK.out _ _ (fun h => h.trans e) (hj.alloc (hR (Ext.refl _)).size (by decide) (by decide) hu) trivial)⟩⟩
        | 10, _, ho =>
          obtain rfl : _ = o := Option.some.inj ho
          exact ⟨rfl, ⟨fun listed v x hsz hj hR hu hn hd hf K hK => wp_alB (vs := [.string ⟨#[]⟩, .int .i64 0]) al_Tx (fun Bn e => hK.out _ _ (fun h => h.trans e) (hj.alloc (hR (Ext.refl _)).size (by decide) (by decide) hu) trivial)⟩⟩
        | 11, _, ho =>
          obtain rfl : _ = o := Option.some.inj ho
          exact ⟨rfl, ⟨fun listed v x hsz hj hR hu hn hd hf K hK => wp_alB (vs := [.string ⟨#[]⟩, .int .i64 0]) al_Tx (fun Bn e => hK.out _ _ (fun h => h.trans e) (hj.alloc (hR (Ext.refl _)).size (by decide) (by decide) hu) trivial)⟩⟩
        | 12, _, ho =>
          obtain rfl : _ = o := Option.some.inj ho
          exact ⟨rfl, RgSj.st 9 10 1 42 (T := 40) st_Tx rfl (by decide) (by decide) (by kernel_rfl) rfl rfl (by kernel_rfl) (by kernel_rfl) (of_decide_eq_true (by kernel_rfl)) (fun _ _ => trivial) (by kernel_rfl) (by kernel_rfl) (by kernel_rfl) (by kernel_rfl) (by kernel_rfl) (by kernel_rfl)⟩
        | 13, _, ho =>
          obtain rfl : _ = o := Option.some.inj ho
          exact ⟨rfl, RgSj.st 10 11 6 47 (T := 40) st_Tx rfl (by decide) (by decide) (by kernel_rfl) rfl rfl (by kernel_rfl) (by kernel_rfl) (of_decide_eq_true (by kernel_rfl)) (fun _ _ => trivial) (by kernel_rfl) (by kernel_rfl) (by kernel_rfl) (by kernel_rfl) (by kernel_rfl) (by kernel_rfl)⟩
        | 14, _, ho =>
          obtain rfl : _ = o := Option.some.inj ho
          exact ⟨rfl, RgSj.st 11 12 8 49 (T := 40) st_Tx rfl (by decide) (by decide) (by kernel_rfl) rfl rfl (by kernel_rfl) (by kernel_rfl) (of_decide_eq_true (by kernel_rfl)) (fun _ _ => trivial) (by kernel_rfl) (by kernel_rfl) (by kernel_rfl) (by kernel_rfl) (by kernel_rfl) (by kernel_rfl)⟩
        | n + 15, hi, _ => omega
      intro v X5 q hΦ hJ5
      have hb9 := (hJ5 9 (by decide) (by decide)).2.1 rfl
      have hb10 := (hJ5 10 (by decide) (by decide)).2.1 rfl
      have hb11 := (hJ5 11 (by decide) (by decide)).2.1 rfl
      obtain ⟨g10, k1, -, hB1⟩ := hb9
      obtain ⟨g11, k2, -, hB2⟩ := hb10
      obtain ⟨g12, k3, -, hB3⟩ := hb11
      have HB1 := hid (show Bk X5 g10 [.string pb1, .int .i64 0] from hB1)
      have HB2 := hid (show Bk X5 g11 [.string pb2, .int .i64 0] from hB2)
      have HB3 := hid (show Bk X5 g12 [.string pb3, .int .i64 0] from hB3)
      have HE5 := hid (q (Ext.refl _))
      simp only [layL, Act.put, List.setIfInBounds_toArray, List.set_cons_zero, List.set_cons_succ, Nat.reduceAdd]
      rw [k1, k2, k3]
      clear hΦ hJ5 hB1 hB2 hB3 k1 k2 k3 q
      refine wpAny_done (by kernel_rfl) ?_ _
      have hcat : pb1 ++ pb2 = pb3 := by
        rw [← HPB.out.1, ← HPB.out.2.1, ← HPB.out.2.2, HJ.out.2.2.1]
        apply ByteArray.ext
        simp [ByteArray.data_append]
      have HCAT := hid hcat
      subst hcat
      have hsz1 : pb1.size ≤ 20000 := by rw [← HPB.out.1]; exact HL1.out.pr.2.2.2
      have hsz2 : pb2.size ≤ 20000 := by rw [← HPB.out.2.1]; exact HJ.out.2.2.2.2.2
      have f1 : ¬ 9223372036854775807 < pb1.size + pb2.size := by omega
      have f2 : pb1.size + pb2.size ≤ 9223372036854775807 := by omega
      have b10 := HB1.out.c 0 _ rfl; have b11 := HB1.out.c 1 _ rfl; have b20 := HB2.out.c 0 _ rfl; have b21 := HB2.out.c 1 _ rfl; have b30 := HB3.out.c 0 _ rfl; have b31 := HB3.out.c 1 _ rfl
      have HPA := hid (show ∀ w', Ext X5 w' → Calls Tryz.prog 19 #[.string (pb1 ++ pb2)] w' (Ret w' (IsPa w'.heap.size (l1 ++ rnQ l2) 0)) from fun w' e => by
        have h := parsed_f (s := shL l1 ++ shL (rnQ l2)) (w := w') (by rw [List.length_append]; have := HL1.out.pr.2.2.2; have := HJ.out.2.2.2.2.2; omega) (HT.out.1.ext (HEX.out.trans (HE5.out.trans e)))
        rw [HJ.out.2.2.2.1, encS, ← HJ.out.2.2.1, HPB.out.2.2] at h
        exact h)
      obtain ⟨a8, n8, c8, hu8⟩ : ∃ a n c, u8 = .slice a n c := let ⟨ao, c, h, _⟩ := HC8.out; ⟨ao, _, c, h⟩
      subst hu8
      go_upto_region 13 with (first | (go_at_call 19; go_must (refine Calls.mono (HPA.out _ (Ext.refl _)) ?_; rintro e w6 ⟨x6, rfl, e6, u6, rfl, hx6⟩; have e6 := hid e6; have hx6 := hid hx6)) | (go_at_call 18; go_must (refine Calls.mono (samePair_f (l := l1 ++ rnQ l2) (l' := l1 ++ rnQ l2) ⟨u6, rfl, hx6.out.low (Nat.zero_le _)⟩ ⟨.slice a8 n8 c8, rfl, HC8.out.ext (HE5.out.trans e6.out)⟩ (by have := HOK.out.2.2; omega)) ?_; rintro e w7 ⟨x7, rfl, e7, hx7⟩; obtain rfl : x7 = .bool true := by { have h : x7 = _ := hx7; rw [h, sameB_self]; rfl }; have e7 := hid (e6.out.trans e7))))
      have HE7 := hid (HE5.out.trans e7.out)
      have HB7 := hid (HB1.out.ext e7.out)
      clear b10 b11 b20 b21 b30 b31
      have d10 := HB7.out.c 0 _ rfl
      by_cases hz : n1 = 0
      · subst hz
        have hz9 : (((0 : Nat) : Int) == 0) = true := rfl
        try simp only [Int.natCast_zero] at *
        go_wp2_with fail
        go_ret
        exact ⟨_, rfl, HEX.out.trans HE7.out, rfl⟩
      · have hz2 : ((n1 : Int) == 0) = false := by simpa using hz
        have hz3 : ¬ (n1 : Int) = 0 := by omega
        have g1 : ¬ 9223372036854775807 < pb1.size + pb1.size := by omega
        have g2 : pb1.size + pb1.size ≤ 9223372036854775807 := by omega
        have HPD := hid (show ∀ w', Ext w7 w' → Calls Tryz.prog 19 #[.string (pb1 ++ pb1)] w' (Ret w' (IsPa w'.heap.size [] 420)) from fun w' e => by
          have h := parsed_f (s := shL l1 ++ shL l1) (w := w') (by rw [List.length_append]; have := HL1.out.pr.2.2.2; omega) (HT.out.1.ext (HEX.out.trans (HE7.out.trans e)))
          rw [HJ.out.2.2.2.2.1 (fun e0 => hz (by rw [HN1.out, e0]; rfl)), encS, show (⟨(shL l1 ++ shL l1).toArray⟩ : ByteArray) = pb1 ++ pb1 by rw [← HPB.out.1]; apply ByteArray.ext; simp [ByteArray.data_append]] at h
          exact h)
        go_wp2_with (go_at_call 19; refine Calls.mono (HPD.out _ (Ext.refl _)) ?_; rintro e w8 ⟨x8, rfl, e8, u9, rfl, hx8⟩; have e8 := hid e8; obtain ⟨a9, c9, rfl, -⟩ := hx8; have hfd := fld_Pa a9 c9)
        go_ret
        exact ⟨_, rfl, (HEX.out.trans HE7.out).trans e8.out, rfl⟩
end
end Go.Proofs.YtenhciieboegbaaGreatDoor
