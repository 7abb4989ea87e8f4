/-
  The law NotebookLimits at every input. (Printed by wip/gen/nli.py.)
-/
import Derived.Test.YtenhciieboegbaaGreatDoorNjo
namespace Go.Proofs.YtenhciieboegbaaGreatDoor
open Go Go.RowKit Go.Maps
theorem ix_CC (g c n j : Nat) (h : j < n) (w : World) : (Instr.indexAt 36 (.slice (some ⟨g, 0, none⟩) n c) (.int .i64 ((j : Nat) : Int))).run Tryz.prog w = .ok (.pointer (some ⟨g, j, none⟩)) w := by
  have h1 : (0 : Int) ≤ (j : Int) := by omega
  have h2 : (j : Int) < (n : Int) := by omega
  have h3 : 0 + j = j := by omega
  go_simp
theorem ld_Cls {w : World} {a : Addr} {ao : Option Addr} {n c : Nat} (h : World.cell? w a = some (.slice ao n c)) : (Instr.loadAt 25 (.pointer (some a))).run Tryz.prog w = .ok (.slice ao n c) w := by go_simp
theorem ld_TxV {w : World} {g : Nat} {s : ByteArray} {z : Int} (B : Bk w g [.string s, .int .i64 z]) : (Instr.loadAt 40 (.pointer (some ⟨g, 0, none⟩))).run Tryz.prog w = .ok (.agg #[.string s, .int .i64 z]) w := ldM (T := 40) (m := 2) (vs := [.string s, .int .i64 z]) (by kernel_rfl) (by kernel_rfl) rfl (fun j v hj => by rw [Nat.zero_add]; exact B.c j v hj)
theorem fa_Tx1 (g : Nat) (w : World) : (Instr.fieldAt 40 (.pointer (some ⟨g, 0, none⟩)) 1).run Tryz.prog w = .ok (.pointer (some ⟨g, 1, none⟩)) w := by go_simp
theorem ld_En (w : World) (a : Addr) (z : Int) (h : World.cell? w a = some (.int .i64 z)) : (Instr.loadAt 38 (.pointer (some a))).run Tryz.prog w = .ok (.int .i64 z) w := by go_simp
theorem bd_Nd1 (w : World) : (Instr.build 32 #[(0, .int .i64 1)]).run Tryz.prog w = .ok (.agg #[.int .i64 1, .string ⟨#[]⟩, .int .i64 0, .bool false, .slice none 0 0, .int .i64 0, .int .i64 0, .slice none 0 0]) w := by go_simp
def usZ : List Value := [.int .i64 1, .string ⟨#[]⟩, .int .i64 0, .bool false, .slice none 0 0, .int .i64 0, .int .i64 0, .slice none 0 0]
theorem nd_usZ {B : Nat} {w : World} : NdC B w (ndE (.num 0)) usZ := NdC.mk' ⟨by simp [ndE, Nd.nm], by simp [ndE, Nd.op], by simp [ndE, Nd.op]⟩ rfl (IsI.nil _ _) (Nat.le_refl _) (by decide) (fun h => absurd rfl h)
theorem nwUsZ : ∀ v ∈ usZ, NoWord v := nwNd
theorem bd_Pa (ao : Option Addr) (n c : Nat) (w : World) : (Instr.build 47 #[(0, .slice ao n c)]).run Tryz.prog w = .ok (.agg #[.slice ao n c, .int .i64 0]) w := by go_simp
section
variable {P : Program} {ops : Array Oper} {Q : Exit → Act → World → Prop} {ds : List (Option Tmp)} {a0 : Act} {w0 : World} {L : List (Value → World → Prop)} {boxes : List Nat} {i k : Nat} {o : Oper} {os : List Oper}
theorem bd1 {T f : Nat} {x : Operand} {p r : Value} (hx : Od ops ds a0 w0 L i x (IsV p)) (hr : ∀ w, (Instr.build T #[(f, p)]).run P w = .ok r w) (ho : o.op = .build T #[(f, x)] := by rfl) (hi : L.getD i (fun _ _ => True) = IsV r := by kernel_rfl) (hb : boxes.contains i = false := by kernel_rfl) : Ok P ops Q ds a0 w0 L boxes i o :=
  Ok.of hb fun v a w hE hd hf => by
    have h1 : a.eval x = p := hx.out v a w hE hd hf
    refine ⟨r, ?_, by rw [hi]; exact rfl⟩
    have := hr w
    unfold execOp
    rw [ho]
    dsimp only
    simp only [List.map_toArray, List.map_cons, List.map_nil]
    rw [h1]
    simp [this]
end
section
set_option maxRecDepth 100000
set_option maxHeartbeats 16000000
theorem Limits_w {w : World} {n k : Nat} {left : Bool} (hT : TabM w) (_hn : n ≤ 255) (_hk : k ≤ 255) : Calls Tryz.prog 4 #[.int .u8 (n : Int), .bool left, .int .u8 (k : Int)] w (Ret w (IsV (.bool true))) := by
  have HT := hid hT
  obtain ⟨q30, hq30⟩ : ∃ q, n % 30 = q := ⟨_, rfl⟩
  obtain ⟨m8, hm8⟩ : ∃ q, k % 8 = q := ⟨_, rfl⟩
  obtain ⟨m50, hm50⟩ : ∃ q, k % 50 = q := ⟨_, rfl⟩
  have HQ := hid (show q30 ≤ 29 ∧ m8 ≤ 7 ∧ m50 ≤ 49 by omega)
  have ht30 : Int.tmod (n : Int) 30 = (q30 : Int) := by rw [← hq30]; rfl
  have ht8 : Int.tmod (k : Int) 8 = (m8 : Int) := by rw [← hm8]; rfl
  have ht50 : Int.tmod (k : Int) 50 = (m50 : Int) := by rw [← hm50]; rfl
  have hu30 : IntKind.u8.wrap (q30 : Int) = (q30 : Int) := by rw [IntKind.wrap_u8]; omega
  have hu8 : IntKind.u8.wrap (m8 : Int) = (m8 : Int) := by rw [IntKind.wrap_u8]; omega
  have hu50 : IntKind.u8.wrap (m50 : Int) = (m50 : Int) := by rw [IntKind.wrap_u8]; omega
  have hi30 : IntKind.i64.wrap (q30 : Int) = (q30 : Int) := by simp only [IntKind.wrap_i64]; omega
  have hi8 : IntKind.i64.wrap (m8 : Int) = (m8 : Int) := by simp only [IntKind.wrap_i64]; omega
  have hi50 : IntKind.i64.wrap (m50 : Int) = (m50 : Int) := by simp only [IntKind.wrap_i64]; omega
  have hs30 : IntKind.i64.wrap (1 + (q30 : Int)) = ((1 + q30 : Nat) : Int) := by simp only [IntKind.wrap_i64]; omega
  clear hT _hn _hk hq30 hm8 hm50
  go_enter Tryz.func4, Tryz.ntmps4
  go_upto_region 4 with (go_at_call 9; refine Calls.mono (examples_f HT.out) ?_; rintro e w1 ⟨x, rfl, e1, hx⟩; obtain rfl : x = .bool true := hx; have e1 := hid e1)
  refine wp_region_lit ?_
  refine wpList_step fun K hK => ?_
  go_simp
  refine hK _ _ ?_
  clear hK K
  refine wpList_step fun K hK => ?_
  go_simp
  refine hK _ _ ?_
  clear hK K
  refine wpList_step fun K hK => ?_
  go_simp
  refine hK _ _ ?_
  clear hK K
  refine wpList_step fun K hK => ?_
  go_simp
  refine hK _ _ ?_
  clear hK K
  refine wpList_step fun K hK => ?_
  go_simp
  refine hK _ _ ?_
  clear hK K
  refine stL (fun K hK => ?_)
  refine wp_callN (us := [.int .i64 ((1 + q30 : Nat) : Int), .bool left]) (en Tryz.func16) (by kernel_rfl) (deep_f left (n := 1 + q30) (by omega) (by have := HQ.out; omega)) (fun u w2 h => hK _ _ ?_) (fun ch X h => by { obtain ⟨x, hx, _⟩ := h; cases hx }) (fun X h => by { obtain ⟨x, hx, _⟩ := h; cases hx })
  clear hK K
  obtain ⟨u', h0, e2, us8, rfl, hl8, ho8, hn8, hd8⟩ := h
  cases h0
  rw [Nat.add_sub_cancel_left] at hd8
  have E2 := e1.out.trans e2
  clear e1 e2
  go_simp
  refine stL (fun K hK => ?_)
  refine wp_alB (vs := zNd) al_Nd (fun Bn e3 => hK _ _ ?_)
  obtain ⟨g8, hg8⟩ : ∃ g, w2.heap.size = g := ⟨_, rfl⟩
  rw [hg8] at Bn ⊢
  generalize w2.alloc (.cells zNd.toArray 32) = Y2 at Bn e3 ⊢
  clear hK K
  try go_simp
  refine stL (fun K hK => ?_)
  refine stVO (us := us8) Bn st_Nd rfl hl8 nwZN (fun X3 B8 O => hK _ _ ?_) (ho1 := ho8)
  have e4 : Ext w2 X3 := O.ext e3 (by omega)
  have HE3 := hid (E2.trans e4)
  have HB8 := hid (show BxE 0 g8 (dpE left q30) us8 X3 from ⟨B8, hl8, ho8, hn8, NdC.ext e4 hd8⟩)
  clear hK K Bn e3 hg8 B8 O e4 hl8 ho8 hn8 hd8 E2
  try go_simp
  refine wpList_nil ?_
  go_upto_region 5 with (fail)
  refine wp_region_lit ?_
  refine stL (fun K hK => wp_bd (v := .agg usZ.toArray) (by simp only [List.map_toArray, List.map_cons, List.map_nil]; exact bd_Nd1 _) (hK _ _ ?_) (ho := rfl))
  clear hK K
  try go_simp
  refine stL (fun K hK => ?_)
  refine wp_alB (vs := zNd) al_Nd (fun Bn e3 => hK _ _ ?_)
  obtain ⟨g9, hg9⟩ : ∃ g, X3.heap.size = g := ⟨_, rfl⟩
  rw [hg9] at Bn ⊢
  generalize X3.alloc (.cells zNd.toArray 32) = Y3 at Bn e3 ⊢
  clear hK K
  try go_simp
  refine stL (fun K hK => ?_)
  refine stVO (us := usZ) Bn st_Nd rfl rfl nwZN (fun X4 B9 O => hK _ _ ?_)
  have e4 : Ext X3 X4 := O.ext e3 (by omega)
  obtain ⟨Bs, hBs⟩ : ∃ b, X4.heap.size = b := ⟨_, rfl⟩
  have HG := hid (show X3.heap.size ≤ g9 ∧ g9 < Bs from ⟨by omega, by rw [← hBs]; exact B9.lt⟩)
  have HS := hid (show Ext X3 X4 ∧ Bs ≤ X4.heap.size ∧ BxE Bs g9 (wdE 0) usZ X4 from ⟨e4, by omega, B9, rfl, rfl, nwUsZ, nd_usZ⟩)
  clear hK K Bn e3 hg9 B9 O e4 hBs
  try go_simp
  refine wpList_nil ?_
  go_wp2_with fail
  go_loopg [10] m8 (fun gk v10 wr => ∃ i : Nat, v10 = .int .i64 ((i : Nat) : Int) ∧ i + gk = m8 ∧ Hid (∃ us, Ext X3 wr ∧ Bs ≤ wr.heap.size ∧ BxE Bs g9 (wdE i) us wr))
  case atStart => exact ⟨0, rfl, by omega, hid ⟨usZ, HS.out⟩⟩
  case round =>
    obtain ⟨i, rfl, hg, S⟩ := hrel
    obtain ⟨us, S1, S2, S3⟩ := S.out
    by_cases hi : i < m8
    · have hil : (i : Int) < (m8 : Int) := by omega
      have hiw : IntKind.i64.wrap ((i : Int) + 1) = ((i + 1 : Nat) : Int) := by have := HQ.out; simp only [IntKind.wrap_i64]; omega
      have HI := hid (And.intro hg hi)
      clear hg hi S
      go_upto_region 9 with (fail)
      refine rgs 4 [some 34, some 35, some 36, some 37] [NhL Bs 0 (wdE i), NhL Bs 0 (wdE i), NsL Bs 0 [wdE i, wdE i], NeL Bs (.bin 6 (wdE i) (wdE i))] [] ?_ ?_ (hst := by repeat' (first | exact trivial | exact NhL.stb _ _ _ | exact NsL.stb _ _ _ | exact NeL.stb _ _ | apply And.intro))
      · refine Rc (ldBx S3 (Od.lit 9)) ?_
        refine Rc (ldBx S3 (Od.lit 9)) ?_
        refine Rc (bs2L (Od.lc (Φ := NhL Bs 0 (wdE i)) 0 34) (Od.lc (Φ := NhL Bs 0 (wdE i)) 1 35) S2) ?_
        refine Rc (bdBin (op := 6) (p := wdE i) (q := wdE i) Od.con (Od.lc (Φ := NsL Bs 0 [wdE i, wdE i]) 2 36) (Nat.zero_le _)) ?_
        exact RgAll.nil
      intro v X5 e2 hΦ _
      obtain ⟨us2, hv2, hl2, ho2, hn2, hd2⟩ := hΦ 3 (by decide)
      simp only [layL, Act.put, List.setIfInBounds_toArray, List.set_cons_zero, List.set_cons_succ, Nat.reduceAdd]
      rw [hv2]
      clear hΦ hv2
      refine stL (fun K hK => ?_)
      refine stVO (us := us2) (S3.b.ext e2) st_Nd S3.l hl2 S3.n (fun X6 B9 O => hK _ _ ?_) (ho1 := ho2)
      clear hK K
      try go_simp
      have HS2 := hid (show Ext X3 X6 ∧ Bs ≤ X6.heap.size ∧ BxE Bs g9 (wdE (i + 1)) us2 X6 from ⟨O.ext (S1.trans e2) HG.out.1, by rw [O.size]; exact Nat.le_trans S2 e2.size, ⟨B9, hl2, ho2, hn2, hd2.ob (Ob.only O) HG.out.2⟩⟩)
      clear e2 hl2 ho2 hn2 hd2 B9 O S1 S2 S3
      refine wpList_nil ?_
      go_wp2_with fail
      go_roundg (gk - 1)
      case measure => have := HI.out; omega
      case rel => exact ⟨i + 1, rfl, by have := HI.out; omega, hid ⟨us2, HS2.out⟩⟩
    · have hil : ¬ (i : Int) < (m8 : Int) := by omega
      obtain rfl : i = m8 := by omega
      have HB9 := hid S3
      have HEr := hid S1
      have HB8' := hid (HB8.out.ext S1)
      clear hg hi S S1 S2 S3
      go_upto_region 10 with (fail)
      refine rgs 4 [some 38, some 39, some 40, some 11] [IsV (.agg us8.toArray), IsV (.agg (Value.string ⟨#[122]⟩ :: us8).toArray), IsNr wr.heap.size 1 (Value.string ⟨#[122]⟩ :: us8), IsNr wr.heap.size 1 (Value.string ⟨#[122]⟩ :: us8)] [] ?_ ?_ (hst := by repeat' (first | exact trivial | exact IsV.stb _ | exact IsNr.stb _ _ _ | apply And.intro))
      · refine Rc (lvV HB8'.out.b ld_Nd (Od.lit 8) HB8'.out.l) ?_
        refine Rc (bd2 (T := 34) (p := .string ⟨#[122]⟩) (q := .agg us8.toArray) Od.con (Od.lc (Φ := IsV (.agg us8.toArray)) 0 38) (fun w => bdCl_run HB8'.out.l w)) ?_
        refine Rc (bs1 (p := .agg (Value.string ⟨#[122]⟩ :: us8).toArray) (Od.lc 1 39) (fun w => bsC_run (by rw [List.length_cons, HB8'.out.l]) (by rw [List.all_cons, HB8'.out.o]; rfl) w) (Nat.le_refl _)) ?_
        refine Rc (mv (Od.lc (Φ := IsNr wr.heap.size 1 (Value.string ⟨#[122]⟩ :: us8)) 2 40)) ?_
        exact RgAll.nil
      intro x X6 e6 hΦ _
      obtain ⟨ga, hva, -, hka⟩ := hΦ 3 (by decide)
      simp only [layL, Act.put, List.setIfInBounds_toArray, List.set_cons_zero, List.set_cons_succ, Nat.reduceAdd]
      rw [hva]
      have HE6 := hid (HEr.out.trans e6)
      have HA := hid (show IsCs 0 [⟨[122], ndE (dpE left q30)⟩] (.slice (some ⟨ga, 0, none⟩) 1 1) X6 from cs_one (B := 0) (n1 := [122]) hka (Nat.zero_le _) (HB8'.out.d.ext e6))
      have HB9' := hid (HB9.out.ext e6)
      clear hΦ hva hka e6 HB9 HEr HB8 HB8'
      refine wpList_nil ?_
      go_upto_region 11 with (fail)
      obtain ⟨W, hW, S0⟩ : ∃ W, W = X6.alloc (.cells #[] 34) ∧ JnW X6 [] [] (.slice (some ⟨X6.heap.size, 0, none⟩) 0 0) W := ⟨_, rfl, (Ext.refl X6).alloc _, RwC.zero X6, CsR.nil _ _ _⟩
      refine wp_region_lit ?_
      refine wpList_step fun K hK => ?_
      go_simp
      refine hK _ _ ?_
      clear hK K
      rw [← hW]
      clear hW
      refine stL (fun K hK => wp_mv (hK _ _ ?_))
      clear hK K
      try go_simp
      refine wpList_nil ?_
      have HS0 := hid S0
      clear S0
      go_wp2_with fail
      go_loopg [12, 13] m50 (fun gk v12 v13 wr => ∃ i : Nat, v13 = .int .i64 ((i : Nat) : Int) ∧ i + gk = m50 ∧ Hid (∃ M, JnW X6 (mnL i) M v12 wr))
      case atStart => exact ⟨0, rfl, by omega, hid ⟨[], HS0.out⟩⟩
      case round =>
        obtain ⟨j, rfl, hg, S⟩ := hrel
        obtain ⟨M, hS⟩ := S.out
        have HS := hid hS
        clear S hS
        by_cases hi : j < m50
        · have hil : (j : Int) < (m50 : Int) := by omega
          have hiw : IntKind.i64.wrap ((j : Int) + 1) = ((j + 1 : Nat) : Int) := by have := HQ.out; simp only [IntKind.wrap_i64]; omega
          have HI := hid (show j ≤ 49 ∧ j + gk = m50 ∧ j < m50 by have := HQ.out; omega)
          obtain ⟨qb, hqb⟩ : ∃ y : ByteArray, (⟨([120] ++ Lib.itoa ((j : Nat) : Int)).toArray⟩ : ByteArray) = y := ⟨_, rfl⟩
          have HQB := hid hqb
          have HML := hid (show M.length ≤ 1000 by have h := HS.out.cr.1; have h2 := HI.out; rw [mnL_len] at h; omega)
          clear hg hi hqb
          go_upto_region 15 with (fail)
          refine rgs 7 [some 49, some 50, some 51, some 52, some 53, some 54, some 55] [IsV u12, IsV (.int .i64 ((j : Nat) : Int)), IsV (encS (Lib.itoa ((j : Nat) : Int))), IsV (encS ([120] ++ Lib.itoa ((j : Nat) : Int))), IsV (.agg usZ.toArray), IsV (.agg (Value.string qb :: usZ).toArray), IsNr wr.heap.size 1 (Value.string qb :: usZ)] [] ?_ ?_ (hst := by repeat' (first | exact trivial | exact IsV.stb _ | exact IsNr.stb _ _ _ | apply And.intro))
          · refine Rc (mv (Od.lit 12)) ?_
            refine Rc (mv (Od.lit (x := .int .i64 ((j : Nat) : Int)) 13)) ?_
            refine Rc (cl1 (Φ := IsV (.int .i64 ((j : Nat) : Int))) (Χ := IsV (encS (Lib.itoa ((j : Nat) : Int)))) (en Tryz.func17) (Od.lc 1 50) (fun x0 w' hE d0 => by { obtain rfl : x0 = .int .i64 ((j : Nat) : Int) := d0; exact Calls.mono (Numz_f (w := w') (by have := HI.out.1; omega)) (fun e w2 h => ⟨_, h.1, h.2, rfl⟩) })) ?_
            refine Rc (ct (s := [120]) (t := Lib.itoa ((j : Nat) : Int)) Od.con (Od.lc 2 51) (by have h := itoa_lenK (z := (j : Int)) 78 (by have := HI.out.1; omega) (by decide); simp only [List.length_cons, List.length_nil]; omega)) ?_
            refine Rc (bd1 (T := 32) (f := 0) (p := .int .i64 1) (r := .agg usZ.toArray) Od.con (fun w => bd_Nd1 w)) ?_
            refine Rc (bd2 (T := 34) (f := 0) (g := 1) (p := encS ([120] ++ Lib.itoa ((j : Nat) : Int))) (q := .agg usZ.toArray) (r := .agg (Value.string qb :: usZ).toArray) (Od.lc 3 52) (Od.lc (Φ := IsV (.agg usZ.toArray)) 4 53) (fun w => by rw [encS, HQB.out]; exact bdCl_run rfl w)) ?_
            refine Rc (bs1 (p := .agg (Value.string qb :: usZ).toArray) (Od.lc 5 54) (fun w => bsC_run rfl rfl w) (Nat.le_refl _)) ?_
            exact RgAll.nil
          intro x X4 e4 hΦ _
          obtain ⟨p, hxv, hpg, hbk⟩ := hΦ 6 (by decide)
          simp only [layL, Act.put, List.setIfInBounds_toArray, List.set_cons_zero, List.set_cons_succ, Nat.reduceAdd]
          rw [show x 0 = u12 from hΦ 0 (by decide), hxv]
          clear hΦ hxv
          have hsr : SrcR 1 (Value.string qb :: usZ) (.slice (some ⟨p, 0, none⟩) 1 1) X4 := .inr ⟨p, 0, 1, rfl, fun j u hj => by rw [Nat.zero_add]; exact hbk.c j u hj⟩
          have E4 := HS.out.e.trans e4
          have HNO : ∀ g, u12.ownBlock = some g → X6.heap.size ≤ g ∧ g < wr.heap.size := World.ownsRow.lt HS.out.rw.1
          have HRW := HS.out.rw.ext e4
          have HCR := HS.out.cr.kc (Kc.ext e4)
          refine stL (fun K hK => wp_clo 56 (.tmp 49) (.tmp 55) rfl X6.heap.size M (Value.string qb :: usZ) u12 (.slice (some ⟨p, 0, none⟩) 1 1) rfl rfl HRW ⟨rfl, fun v hv => by rcases List.mem_cons.1 hv with rfl | hv; exact NoWord.string _; exact nwUsZ v hv, rfl⟩ hsr (by have := HML.out; omega) E4.size (fun v8 X8 q1 q2 q3 q4 => hK _ _ ?_))
          have HE8 : Ext X6 X8 := Below.grown E4 q2 E4.size (fun k hk => (HNO _ hk).1)
          have HNO8 : ∀ g, v8.ownBlock = some g → X6.heap.size ≤ g ∧ g < X8.heap.size := World.ownsRow.lt q1.1
          have HCR8 := (HCR.grown q2 q3 q4).snoc (c := mnC j) (us := usZ) (by have := name_len (mn_name (i := j) (by have := HI.out.1; omega)); omega) (show NdI v8.ownBlock 0 X8 (mnC j).e usZ from NdI.old (w := X6) (nd_usZ (B := 0) (w := X6)) HE8 (fun g e => (HNO8 g e).1))
          have hq9 : encS (mnC j).nm = .string qb := by rw [encS]; exact congrArg Value.string HQB.out
          rw [hq9] at HCR8
          have HS8 := hid (show JnW X6 (mnL (j + 1)) (M ++ [Value.string qb :: usZ]) v8 X8 from ⟨HE8, q1, by rw [mnL_succ]; exact HCR8⟩)
          clear hsr hbk hpg E4 HNO HNO8 HRW HCR q1 q2 q3 q4 HCR8 HE8 hq9 hK K e4 HS
          try go_simp
          refine stL (fun K hK => wp_mv (hK _ _ ?_))
          clear hK K
          try go_simp
          refine wpList_nil ?_
          go_wp2_with fail
          go_roundg (gk - 1)
          case measure => have := HI.out; omega
          case rel => exact ⟨j + 1, rfl, by have := HI.out; omega, hid ⟨_, HS8.out⟩⟩
        · have hil : ¬ (j : Int) < (m50 : Int) := by omega
          obtain rfl : j = m50 := by omega
          have HC := hid (show IsCs 0 (mnL j) u12 wr from HS.out.cr.is HS.out.rw (Nat.zero_le _))
          have HE7 := hid HS.out.e
          obtain ⟨ac, nc, cc, hu12⟩ : ∃ a n c, u12 = .slice a n c := let ⟨ao, c, h, _⟩ := HC.out; ⟨ao, _, c, h⟩
          subst hu12
          have HA7 := hid (HA.out.ext HE7.out)
          have HB7 := hid (HB9'.out.ext HE7.out)
          clear hg hi HS HA HB9' M
          go_upto_region 16 with (fail)
          refine rgs 5 [some 57, some 58, some 59, some 60, some 61] [IsV (.slice (some ⟨ga, 0, none⟩) 1 1), IsV (.agg us.toArray), IsV (.agg (Value.string ⟨#[119]⟩ :: us).toArray), IsNr wr.heap.size 1 (Value.string ⟨#[119]⟩ :: us), IsV (.slice ac nc cc)] [] ?_ ?_ (hst := by repeat' (first | exact trivial | exact IsV.stb _ | exact IsNr.stb _ _ _ | apply And.intro))
          · refine Rc (mv (Od.lit 11)) ?_
            refine Rc (lvV HB7.out.b ld_Nd (Od.lit 9) HB7.out.l) ?_
            refine Rc (bd2 (T := 34) (p := .string ⟨#[119]⟩) (q := .agg us.toArray) Od.con (Od.lc (Φ := IsV (.agg us.toArray)) 1 58) (fun w => bdCl_run HB7.out.l w)) ?_
            refine Rc (bs1 (p := .agg (Value.string ⟨#[119]⟩ :: us).toArray) (Od.lc 2 59) (fun w => bsC_run (by rw [List.length_cons, HB7.out.l]) (by rw [List.all_cons, HB7.out.o]; rfl) w) (Nat.le_refl _)) ?_
            refine Rc (mv (Od.lit 12)) ?_
            exact RgAll.nil
          intro x X7 e7 hΦ _
          obtain ⟨gb, hvb, -, hkb⟩ := hΦ 3 (by decide)
          simp only [layL, Act.put, List.setIfInBounds_toArray, List.set_cons_zero, List.set_cons_succ, Nat.reduceAdd]
          rw [hvb, show x 0 = .slice (some ⟨ga, 0, none⟩) 1 1 from hΦ 0 (by decide), show x 4 = .slice ac nc cc from hΦ 4 (by decide)]
          have HL0 := hid (HA7.out.ext e7)
          have HL1 := hid (show IsCs 0 [⟨[119], ndE (wdE i)⟩] (.slice (some ⟨gb, 0, none⟩) 1 1) X7 from cs_one (B := 0) (n1 := [119]) hkb (Nat.zero_le _) ((HB7.out.d.ext e7).low (Nat.zero_le _)))
          have HL2 := hid (HC.out.ext e7)
          have HE7' := hid ((HE3.out.trans HE6.out).trans (HE7.out.trans e7))
          clear hΦ hvb hkb e7 HA7 HB7 HC HE7 HE6 HE3 HS0
          obtain ⟨W, hW, S0, B0⟩ : ∃ W, W = X7.alloc (.cells #[.slice (some ⟨ga, 0, none⟩) 1 1, .slice (some ⟨gb, 0, none⟩) 1 1, .slice ac nc cc] 25) ∧ Ext X7 W ∧ Bk W X7.heap.size [.slice (some ⟨ga, 0, none⟩) 1 1, .slice (some ⟨gb, 0, none⟩) 1 1, .slice ac nc cc] := ⟨_, rfl, (Ext.refl X7).alloc _, by simpa using Bk.new X7 #[.slice (some ⟨ga, 0, none⟩) 1 1, .slice (some ⟨gb, 0, none⟩) 1 1, .slice ac nc cc] 25⟩
          refine wpList_step fun K hK => ?_
          go_simp
          refine hK _ _ ?_
          clear hK K
          rw [← hW]
          clear hW
          refine stL (fun K hK => wp_mv (hK _ _ ?_))
          clear hK K
          try go_simp
          refine wpList_nil ?_
          obtain ⟨gl, hgl⟩ : ∃ g, X7.heap.size = g := ⟨_, rfl⟩
          rw [hgl] at B0 ⊢
          clear hgl
          have HEW := hid (HE7'.out.trans S0)
          have HBL := hid B0
          have HLL := hid (show ∀ i3, i3 < 3 → ∃ (a : Option Addr) (m c : Nat) (l : List Cl), World.cell? W ⟨gl, i3, none⟩ = some (.slice a m c) ∧ IsCs 0 l (.slice a m c) W ∧ LmL l from fun i3 hi3 => by
            rcases (by omega : i3 = 0 ∨ i3 = 1 ∨ i3 = 2) with rfl | rfl | rfl
            · exact ⟨_, _, _, _, B0.c 0 _ rfl, HL0.out.ext S0, lm_dp left HQ.out.1⟩
            · exact ⟨_, _, _, _, B0.c 1 _ rfl, HL1.out.ext S0, lm_wd (by have := HQ.out; omega)⟩
            · exact ⟨_, _, _, _, B0.c 2 _ rfl, HL2.out.ext S0, lm_mn (by have := HQ.out; omega)⟩)
          have HL0' := hid (HL0.out.ext S0)
          have HL2' := hid (HL2.out.ext S0)
          clear S0 B0 HL0 HL1 HL2 HE7'
          go_wp2_with fail
          go_loopg [15, 16] 3 (fun gk v15 v16 wr => ∃ i3 : Nat, v15 = .int .i64 ((i3 : Nat) : Int) ∧ i3 + gk = 3 ∧ Hid (Ext W wr))
          case atStart => exact ⟨0, rfl, rfl, hid (Ext.refl _)⟩
          case round =>
            obtain ⟨i3, rfl, hg, S⟩ := hrel
            by_cases hi : i3 < 3
            · have hil : (i3 : Int) < 3 := by omega
              have hiw : IntKind.i64.wrap ((i3 : Int) + 1) = ((i3 + 1 : Nat) : Int) := by simp only [IntKind.wrap_i64]; omega
              obtain ⟨al, nl, cl, l, hcl, hisl, hlm⟩ := HLL.out i3 hi
              have HI := hid (And.intro hg hi)
              have HLM := hid hlm
              have HCL := hid hcl
              have HIS := hid hisl
              have HEr := hid S.out
              obtain ⟨rt, hrt⟩ : ∃ r, rtE l = r := ⟨_, rfl⟩
              obtain ⟨pb, hpb⟩ : ∃ y : ByteArray, (⟨(prS l).toArray⟩ : ByteArray) = y := ⟨_, rfl⟩
              obtain ⟨pe, hpe⟩ : ∃ y, prE l = y := ⟨_, rfl⟩
              have HPR := hid (fun w' (e : Ext W w') => printed_f (HIS.out.ext e) (by have := HLM.out.1; omega) HLM.out.2.1 (HT.out.1.ext (HEW.out.trans e)))
              have HPI := hid (fun w' (e : Ext W w') => PrintIn_f 100 (HIS.out.ext e) (by have := HLM.out.1; omega) (by decide) HLM.out.2.2)
              have HRN := hid (fun w' (e : Ext W w') => right_f (HIS.out.ext e) (by have := HLM.out.1; omega) HLM.out.2.1)
              have HR42 := hid (fun w' (e : Ext W w') => Right42_f 100 (HIS.out.ext e) (by have := HLM.out.1; omega) (by decide) HLM.out.2.2)
              simp only [hrt] at HRN HR42
              simp only [hpe] at HPR HPI
              unfold IsTx at HPR HPI
              simp only [encS, hpb] at HPR HPI
              have HPRv : Hid (∀ w', Ext W w' → Calls Tryz.prog 14 #[.slice al nl cl] w' (Ret w' (IsV (.agg #[.string pb, .int .i64 pe])))) := HPR
              have HPIv : Hid (∀ w', Ext W w' → Calls Tryz.prog 15 #[.slice al nl cl] w' (Ret w' (IsV (.agg #[.string pb, .int .i64 pe])))) := HPI
              have HRNv : Hid (∀ w', Ext W w' → Calls Tryz.prog 12 #[.slice al nl cl] w' (RVal w' (.bool rt))) := HRN
              have HR4v : Hid (∀ w', Ext W w' → Calls Tryz.prog 13 #[.slice al nl cl] w' (RVal w' (.bool rt))) := HR42
              have HPE := hid (And.intro hpe hpb)
              clear hg hi hcl hisl hlm S hrt hpb hpe HPR HPI HRN HR42
              go_upto_region 20 with (fail)
              refine rgs 5 [some 67, some 68, some 69, some 70, some 71] [IsV (.slice (some ⟨gl, 0, none⟩) 3 3), IsV (.int .i64 ((i3 : Nat) : Int)), IsV (.pointer (some ⟨gl, i3, none⟩)), IsV (.slice al nl cl), IsV (.agg #[.string pb, .int .i64 pe])] [] ?_ ?_ (hst := by repeat' (first | exact trivial | exact IsV.stb _ | apply And.intro))
              · refine Rc (mv (Od.lit 14)) ?_
                refine Rc (mv (Od.lit (x := .int .i64 ((i3 : Nat) : Int)) 15)) ?_
                refine Rc (ixq (ix_CC gl 3 3 i3 HI.out.2) (Od.lc (Φ := IsV (.slice (some ⟨gl, 0, none⟩) 3 3)) 0 67) (Od.lc (Φ := IsV (.int .i64 ((i3 : Nat) : Int))) 1 68)) ?_
                refine Rc (lv (Φ := IsV (.slice al nl cl)) _ (fun w' e => ld_Cls ((HEr.out.trans e).cell HCL.out)) (Od.lc 2 69) (fun _ _ => rfl)) ?_
                refine Rc (cl1 (Φ := IsV (.slice al nl cl)) (Χ := IsV (.agg #[.string pb, .int .i64 pe])) (en Tryz.func14) (Od.lc 3 70) (fun x0 w' hE d0 => by { obtain rfl : x0 = .slice al nl cl := d0; exact HPRv.out w' (HEr.out.trans hE) })) ?_
                exact RgAll.nil
              intro x X4 e4 hΦ _
              have q9 : x 4 = .agg #[.string pb, .int .i64 pe] := hΦ 4 (by decide)
              simp only [layL, Act.put, List.setIfInBounds_toArray, List.set_cons_zero, List.set_cons_succ, Nat.reduceAdd]
              rw [q9]
              have HE4 := hid (HEr.out.trans e4)
              clear hΦ q9 e4 HEr
              refine stL (fun K hK => ?_)
              refine wp_alB (vs := [.string ⟨#[]⟩, .int .i64 0]) al_Tx (fun Bn e3 => hK _ _ ?_)
              obtain ⟨gt, hgt⟩ : ∃ g, X4.heap.size = g := ⟨_, rfl⟩
              rw [hgt] at Bn ⊢
              generalize X4.alloc (.cells ([.string ⟨#[]⟩, .int .i64 0]).toArray 40) = Y4 at Bn e3 ⊢
              clear hK K
              try go_simp
              refine stL (fun K hK => ?_)
              refine stVO (us := [.string pb, .int .i64 pe]) Bn st_Tx rfl rfl (nwTx _ _) (fun X5 B5 O => hK _ _ ?_)
              have HE5 := hid (HE4.out.trans (O.ext e3 (by omega)))
              have HB5 := hid B5
              clear hK K Bn e3 hgt B5 O HE4
              try go_simp
              refine wpList_nil ?_
              go_upto_region 21 with (fail)
              refine rg 20 [some 72, some 73, some 74, some 75, some 76, some 77, some 78, some 79, some 80, some 81, some 82, some 83, some 84, some 85, some 86, some 87, some 88, some 89, some 90, some 91] [IsV (.slice (some ⟨gl, 0, none⟩) 3 3), IsV (.int .i64 ((i3 : Nat) : Int)), IsV (.pointer (some ⟨gl, i3, none⟩)), IsV (.slice al nl cl), IsV (.bool rt), IsV (.slice (some ⟨gl, 0, none⟩) 3 3), IsV (.int .i64 ((i3 : Nat) : Int)), IsV (.pointer (some ⟨gl, i3, none⟩)), IsV (.slice al nl cl), IsV (.bool rt), IsV (.bool false), IsV (.bool false), IsV (.agg #[.string pb, .int .i64 pe]), IsV (.slice (some ⟨gl, 0, none⟩) 3 3), IsV (.int .i64 ((i3 : Nat) : Int)), IsV (.pointer (some ⟨gl, i3, none⟩)), IsV (.slice al nl cl), IsV (.agg #[.string pb, .int .i64 pe]), IsV (.bool false), IsV (.bool false)] [] 0 ?_ ?_ (hst := by repeat' (first | exact trivial | exact IsV.stb _ | apply IsIf.stb | apply And.intro))
              · refine Rc (mv (Od.lit (x := .slice (some ⟨gl, 0, none⟩) 3 3) 14)) ?_
                refine Rc (mv (Od.lit (x := .int .i64 ((i3 : Nat) : Int)) 15)) ?_
                refine Rc (ixq (ix_CC gl 3 3 i3 HI.out.2) (Od.lc (Φ := IsV (.slice (some ⟨gl, 0, none⟩) 3 3)) 0 72) (Od.lc (Φ := IsV (.int .i64 ((i3 : Nat) : Int))) 1 73)) ?_
                refine Rc (lv (Φ := IsV (.slice al nl cl)) _ (fun w' e => ld_Cls ((HE5.out.trans e).cell HCL.out)) (Od.lc 2 74) (fun _ _ => rfl)) ?_
                refine Rc (cl1 (Φ := IsV (.slice al nl cl)) (Χ := IsV (.bool rt)) (en Tryz.func12) (Od.lc 3 75) (fun x0 w' hE d0 => by { obtain rfl : x0 = .slice al nl cl := d0; exact Calls.mono (HRNv.out w' (HE5.out.trans hE)) (fun e w2 h => ⟨_, h.1, h.2, rfl⟩) })) ?_
                refine Rc (mv (Od.lit (x := .slice (some ⟨gl, 0, none⟩) 3 3) 14)) ?_
                refine Rc (mv (Od.lit (x := .int .i64 ((i3 : Nat) : Int)) 15)) ?_
                refine Rc (ixq (ix_CC gl 3 3 i3 HI.out.2) (Od.lc (Φ := IsV (.slice (some ⟨gl, 0, none⟩) 3 3)) 5 77) (Od.lc (Φ := IsV (.int .i64 ((i3 : Nat) : Int))) 6 78)) ?_
                refine Rc (lv (Φ := IsV (.slice al nl cl)) _ (fun w' e => ld_Cls ((HE5.out.trans e).cell HCL.out)) (Od.lc 7 79) (fun _ _ => rfl)) ?_
                refine Rc (cl1 (Φ := IsV (.slice al nl cl)) (Χ := IsV (.bool rt)) (en Tryz.func13) (Od.lc 8 80) (fun x0 w' hE d0 => by { obtain rfl : x0 = .slice al nl cl := d0; exact Calls.mono (HR4v.out w' (HE5.out.trans hE)) (fun e w2 h => ⟨_, h.1, h.2, rfl⟩) })) ?_
                refine Rc (bn (p := .bool rt) (q := .bool rt) (r := .bool false) (Od.lc 4 76) (Od.lc 9 81) (hr := fun w => by cases rt <;> go_simp)) ?_
                refine Rc (mv (Od.lc (Φ := IsV (.bool false)) 10 82)) ?_
                refine RcG 11 83 false (lv (Φ := IsV (.agg #[.string pb, .int .i64 pe])) _ (fun w' e => ld_TxV (HB5.out.ext e)) (Od.lit 16) (fun _ _ => rfl)) ?_
                refine RcG 11 83 false (mv (Od.lit (x := .slice (some ⟨gl, 0, none⟩) 3 3) 14)) ?_
                refine RcG 11 83 false (mv (Od.lit (x := .int .i64 ((i3 : Nat) : Int)) 15)) ?_
                refine RcG 11 83 false (ixq (ix_CC gl 3 3 i3 HI.out.2) (Od.lc (Φ := IsV (.slice (some ⟨gl, 0, none⟩) 3 3)) 13 85) (Od.lc (Φ := IsV (.int .i64 ((i3 : Nat) : Int))) 14 86)) ?_
                refine RcG 11 83 false (lv (Φ := IsV (.slice al nl cl)) _ (fun w' e => ld_Cls ((HE5.out.trans e).cell HCL.out)) (Od.lc 15 87) (fun _ _ => rfl)) ?_
                refine RcG 11 83 false (cl1 (Φ := IsV (.slice al nl cl)) (Χ := IsV (.agg #[.string pb, .int .i64 pe])) (en Tryz.func15) (Od.lc 16 88) (fun x0 w' hE d0 => by { obtain rfl : x0 = .slice al nl cl := d0; exact HPIv.out w' (HE5.out.trans hE) })) ?_
                refine RcG 11 83 false (bn (p := .agg #[.string pb, .int .i64 pe]) (q := .agg #[.string pb, .int .i64 pe]) (r := .bool false) (Od.lc 12 84) (Od.lc 17 89) (hr := fun w => by go_simp)) ?_
                refine Rc (pkO (b := false) (b2 := false) (r := false) (Od.lc (Φ := IsV (.bool false)) 11 83) (fun _ => Od.lc (Φ := IsV (.bool false)) 18 90) rfl) ?_
                exact RgAll.nil
              intro x X6 e6 hΦ _
              have q9 : x 19 = .bool false := hΦ 19 (by decide)
              simp only [layL, Act.put, List.setIfInBounds_toArray, List.set_cons_zero, List.set_cons_succ, Nat.reduceAdd]
              rw [q9]
              have HE6 := hid (HE5.out.trans e6)
              have HB6 := hid (HB5.out.ext e6)
              clear hΦ q9 e6 HE5 HB5
              refine wpAny_done (by kernel_rfl) ?_ _
              go_upto_region 23 with (fail)
              by_cases hz : pe = 0
              · subst hz
                have HLP := hid (lm_par HPE.out.1)
                have HPA := hid (fun w' (e : Ext W w') => parsed_f (s := shL l) (w := w') (by have := HLP.out.2.1; omega) (HT.out.1.ext (HEW.out.trans e)))
                have hps : (⟨(shL l).toArray⟩ : ByteArray) = pb := by rw [← HLP.out.1]; exact HPE.out.2
                rw [HLP.out.2.2] at HPA
                simp only [encS, hps] at HPA
                have HPA : Hid (∀ w', Ext W w' → Calls Tryz.prog 19 #[.string pb] w' (Ret w' (IsPa w'.heap.size l 0))) := HPA
                clear hps
                refine rg 15 [some 92, some 93, some 94, some 95, some 96, some 97, some 98, some 99, some 100, some 101, some 102, some 103, some 104, some 105, some 106] [IsV (.pointer (some ⟨gt, 1, none⟩)), IsV (.int .i64 0), IsV (.bool true), IsV (.bool true), IsV (.pointer (some ⟨gt, 0, none⟩)), IsV (.string pb), IsPa 0 l 0, IsV (.slice (some ⟨gl, 0, none⟩) 3 3), IsV (.int .i64 ((i3 : Nat) : Int)), IsV (.pointer (some ⟨gl, i3, none⟩)), IsV (.slice al nl cl), IsV (.agg #[.slice al nl cl, .int .i64 0]), IsV (.bool true), IsV (.bool false), IsV (.bool false)] [] 0 ?_ ?_ (hst := by repeat' (first | exact trivial | exact IsV.stb _ | exact IsPa.stb _ _ _ | apply IsIf.stb | apply And.intro))
                · refine Rc (fa (fa_Tx1 gt) (Od.lit 16)) ?_
                  refine Rc (lv (Φ := IsV (.int .i64 0)) _ (fun w' e => ld_En _ _ _ ((HB6.out.ext e).c 1 _ rfl)) (Od.lc 0 92) (fun _ _ => rfl)) ?_
                  refine Rc (bn (p := .int .i64 0) (r := .bool true) (Od.lc 1 93) Od.con (hr := fun w => by go_simp)) ?_
                  refine Rc (mv (Od.lc (Φ := IsV (.bool true)) 2 94)) ?_
                  refine RcG 3 95 true (fa (fa_Tx0 gt) (Od.lit 16)) ?_
                  refine RcG 3 95 true (lv (Φ := IsV (.string pb)) _ (fun w' e => ld_str _ _ _ ((HB6.out.ext e).c 0 _ rfl)) (Od.lc 4 96) (fun _ _ => rfl)) ?_
                  refine RcG 3 95 true (cl1 (Φ := IsV (.string pb)) (Χ := IsPa 0 l 0) (en Tryz.func19) (Od.lc 5 97) (fun x0 w' hE d0 => by { obtain rfl : x0 = .string pb := d0; exact Calls.mono (HPA.out w' (HE6.out.trans hE)) (fun e w2 h => by { obtain ⟨r, q1, q2, u, q3, q4⟩ := h; exact ⟨r, q1, q2, u, q3, q4.low (Nat.zero_le _)⟩ }) })) ?_
                  refine RcG 3 95 true (mv (Od.lit (x := .slice (some ⟨gl, 0, none⟩) 3 3) 14)) ?_
                  refine RcG 3 95 true (mv (Od.lit (x := .int .i64 ((i3 : Nat) : Int)) 15)) ?_
                  refine RcG 3 95 true (ixq (ix_CC gl 3 3 i3 HI.out.2) (Od.lc (Φ := IsV (.slice (some ⟨gl, 0, none⟩) 3 3)) 7 99) (Od.lc (Φ := IsV (.int .i64 ((i3 : Nat) : Int))) 8 100)) ?_
                  refine RcG 3 95 true (lv (Φ := IsV (.slice al nl cl)) _ (fun w' e => ld_Cls ((HE6.out.trans e).cell HCL.out)) (Od.lc 9 101) (fun _ _ => rfl)) ?_
                  refine RcG 3 95 true (bd1 (T := 47) (f := 0) (p := .slice al nl cl) (r := .agg #[.slice al nl cl, .int .i64 0]) (Od.lc 10 102) (fun w => bd_Pa al nl cl w)) ?_
                  refine RcG 3 95 true (cl2 (Φ := IsPa 0 l 0) (Ψ := IsV (.agg #[.slice al nl cl, .int .i64 0])) (Χ := IsV (.bool true)) (en Tryz.func18) (Od.lc 6 98) (Od.lc 11 103) (fun x0 y0 w' hE d0 d1 => by { obtain rfl : y0 = .agg #[.slice al nl cl, .int .i64 0] := d1; have h := samePair_f (l := l) (l' := l) d0 (show IsPa 0 l 0 (.agg #[.slice al nl cl, .int .i64 0]) w' from ⟨_, rfl, HIS.out.ext (HE6.out.trans hE)⟩) (by have := HLM.out.1; omega); rw [sameB_self] at h; exact h })) ?_
                  refine RcG 3 95 true (un (p := .bool true) (r := .bool false) (Od.lc (Φ := IsV (.bool true)) 12 104) rfl (fun w => by go_simp)) ?_
                  refine Rc (pkA (b := true) (b2 := false) (r := false) (Od.lc (Φ := IsV (.bool true)) 3 95) (fun _ => Od.lc (Φ := IsV (.bool false)) 13 105) rfl) ?_
                  exact RgAll.nil
                intro x X7 e7 hΦ _
                have q9 : x 14 = .bool false := hΦ 14 (by decide)
                simp only [layL, Act.put, List.setIfInBounds_toArray, List.set_cons_zero, List.set_cons_succ, Nat.reduceAdd]
                rw [q9]
                have HE7 := hid (HE6.out.trans e7)
                clear hΦ q9 e7 HE6 HB6
                refine wpAny_done (by kernel_rfl) ?_ _
                go_wp2_with fail
                go_roundg (gk - 1)
                case measure => have := HI.out; omega
                case rel => exact ⟨i3 + 1, rfl, by have := HI.out; omega, hid HE7.out⟩
              · have hz2 : (pe == 0) = false := by simpa using hz
                have HZ2 := hid hz2
                clear hz hz2
                refine rg 15 [some 92, some 93, some 94, some 95, some 96, some 97, some 98, some 99, some 100, some 101, some 102, some 103, some 104, some 105, some 106] [IsV (.pointer (some ⟨gt, 1, none⟩)), IsV (.int .i64 pe), IsV (.bool false), IsV (.bool false), IsV undef, IsV undef, IsV undef, IsV undef, IsV undef, IsV undef, IsV undef, IsV undef, IsV undef, IsV undef, IsV (.bool false)] [] 0 ?_ ?_ (hst := by repeat' (first | exact trivial | exact IsV.stb _ | exact IsPa.stb _ _ _ | apply IsIf.stb | apply And.intro))
                · refine Rc (fa (fa_Tx1 gt) (Od.lit 16)) ?_
                  refine Rc (lv (Φ := IsV (.int .i64 pe)) _ (fun w' e => ld_En _ _ _ ((HB6.out.ext e).c 1 _ rfl)) (Od.lc 0 92) (fun _ _ => rfl)) ?_
                  refine Rc (bn (p := .int .i64 pe) (r := .bool false) (Od.lc 1 93) Od.con (hr := fun w => by have hx9 := HZ2.out; go_simp)) ?_
                  refine Rc (mv (Od.lc (Φ := IsV (.bool false)) 2 94)) ?_
                  refine RcN 3 95 false ?_
                  refine RcN 3 95 false ?_
                  refine RcN 3 95 false ?_
                  refine RcN 3 95 false ?_
                  refine RcN 3 95 false ?_
                  refine RcN 3 95 false ?_
                  refine RcN 3 95 false ?_
                  refine RcN 3 95 false ?_
                  refine RcN 3 95 false ?_
                  refine RcN 3 95 false ?_
                  refine Rc (pk (b := false) (Od.lc (Φ := IsV (.bool false)) 3 95) Od.con) ?_
                  exact RgAll.nil
                intro x X7 e7 hΦ _
                have q9 : x 14 = .bool false := hΦ 14 (by decide)
                simp only [layL, Act.put, List.setIfInBounds_toArray, List.set_cons_zero, List.set_cons_succ, Nat.reduceAdd]
                rw [q9]
                have HE7 := hid (HE6.out.trans e7)
                clear hΦ q9 e7 HE6 HB6
                refine wpAny_done (by kernel_rfl) ?_ _
                go_wp2_with fail
                go_roundg (gk - 1)
                case measure => have := HI.out; omega
                case rel => exact ⟨i3 + 1, rfl, by have := HI.out; omega, hid HE7.out⟩
            · have hil : ¬ (i3 : Int) < 3 := by omega
              have HEr := hid S.out
              clear hg hi S
              obtain ⟨r1, hr1⟩ : ∃ r, decide (q30 < 20) = r := ⟨_, rfl⟩
              obtain ⟨r2, hr2⟩ : ∃ r, decide (j ≤ 40) = r := ⟨_, rfl⟩
              have HR1 := hid (fun w' (e : Ext W w') => right_f (HL0'.out.ext e) (by simp) (lm_dp left HQ.out.1).2.1)
              have HR2 := hid (fun w' (e : Ext W w') => right_f (HL2'.out.ext e) (by rw [mnL_len]; have := HQ.out; omega) (lm_mn (m := j) (by have := HQ.out; omega)).2.1)
              rw [rt_dp left HQ.out.1, hr1] at HR1
              rw [rt_mn (by have := HQ.out; omega), hr2] at HR2
              have HR1 : Hid (∀ w', Ext W w' → Calls Tryz.prog 12 #[.slice (some ⟨ga, 0, none⟩) 1 1] w' (RVal w' (.bool r1))) := HR1
              have HR2 : Hid (∀ w', Ext W w' → Calls Tryz.prog 12 #[.slice ac nc cc] w' (RVal w' (.bool r2))) := HR2
              have h20 : decide ((q30 : Int) < 20) = r1 := by rw [← hr1]; apply decide_eq_decide.2; omega
              have h40 : decide ((j : Int) ≤ 40) = r2 := by rw [← hr2]; apply decide_eq_decide.2; omega
              have H20 := hid h20
              have H40 := hid h40
              have HT30 := hid (And.intro ht30 hu30)
              have HT50 := hid (And.intro ht50 hu50)
              clear hr1 hr2 h20 h40
              go_upto_region 25 with (fail)
              refine rgs 18 [some 107, some 108, some 109, some 110, some 111, some 112, some 113, some 114, some 115, some 116, some 117, some 118, some 119, some 120, some 121, some 122, some 123, some 6] [IsV (.slice (some ⟨ga, 0, none⟩) 1 1), IsV (.bool r1), IsV (.int .u8 (n : Int)), IsV (.int .u8 (q30 : Int)), IsV (.bool r1), IsV (.bool true), IsV (.bool true), IsV (.slice ac nc cc), IsV (.bool r2), IsV (.int .u8 (k : Int)), IsV (.int .u8 (j : Int)), IsV (.bool r2), IsV (.bool true), IsV (.bool true), IsV (.bool true), IsV (.bool true), IsV (.bool true), IsV (.bool true)] [] ?_ ?_ (hst := by repeat' (first | exact trivial | exact IsV.stb _ | apply IsIf.stb | apply And.intro))
              · refine Rc (mv (Od.lit (x := .slice (some ⟨ga, 0, none⟩) 1 1) 11)) ?_
                refine Rc (cl1 (Φ := IsV (.slice (some ⟨ga, 0, none⟩) 1 1)) (Χ := IsV (.bool r1)) (en Tryz.func12) (Od.lc 0 107) (fun x0 w' hE d0 => by { obtain rfl : x0 = .slice (some ⟨ga, 0, none⟩) 1 1 := d0; exact Calls.mono (HR1.out w' (HEr.out.trans hE)) (fun e w2 h => ⟨_, h.1, h.2, rfl⟩) })) ?_
                refine Rc (mv (Od.lit (x := .int .u8 (n : Int)) 0)) ?_
                refine Rc (bn (p := .int .u8 (n : Int)) (r := .int .u8 (q30 : Int)) (Od.lc 2 109) Od.con (hr := fun w => by have h1 := HT30.out.1; have h2 := HT30.out.2; go_simp)) ?_
                refine Rc (bn (r := .bool r1) (Od.lc (Φ := IsV (.int .u8 (q30 : Int))) 3 110) Od.con (hr := fun w => by have hx9 := H20.out; go_simp)) ?_
                refine Rc (bn (p := .bool r1) (q := .bool r1) (r := .bool true) (Od.lc 1 108) (Od.lc 4 111) (hr := fun w => by cases r1 <;> go_simp)) ?_
                refine Rc (mv (Od.lc (Φ := IsV (.bool true)) 5 112)) ?_
                refine RcG 6 113 true (mv (Od.lit (x := .slice ac nc cc) 12)) ?_
                refine RcG 6 113 true (cl1 (Φ := IsV (.slice ac nc cc)) (Χ := IsV (.bool r2)) (en Tryz.func12) (Od.lc 7 114) (fun x0 w' hE d0 => by { obtain rfl : x0 = .slice ac nc cc := d0; exact Calls.mono (HR2.out w' (HEr.out.trans hE)) (fun e w2 h => ⟨_, h.1, h.2, rfl⟩) })) ?_
                refine RcG 6 113 true (mv (Od.lit (x := .int .u8 (k : Int)) 2)) ?_
                refine RcG 6 113 true (bn (p := .int .u8 (k : Int)) (r := .int .u8 (j : Int)) (Od.lc 9 116) Od.con (hr := fun w => by have h1 := HT50.out.1; have h2 := HT50.out.2; go_simp)) ?_
                refine RcG 6 113 true (bn (r := .bool r2) (Od.lc (Φ := IsV (.int .u8 (j : Int))) 10 117) Od.con (hr := fun w => by have hx9 := H40.out; go_simp)) ?_
                refine RcG 6 113 true (bn (p := .bool r2) (q := .bool r2) (r := .bool true) (Od.lc 8 115) (Od.lc 11 118) (hr := fun w => by cases r2 <;> go_simp)) ?_
                refine Rc (pkA (b := true) (b2 := true) (r := true) (Od.lc (Φ := IsV (.bool true)) 6 113) (fun _ => Od.lc (Φ := IsV (.bool true)) 12 119) rfl) ?_
                refine Rc (mv (Od.lc (Φ := IsV (.bool true)) 13 120)) ?_
                refine RcG 14 121 true (mv (Od.lit (x := .bool true) 7)) ?_
                refine Rc (pkA (b := true) (b2 := true) (r := true) (Od.lc (Φ := IsV (.bool true)) 14 121) (fun _ => Od.lc (Φ := IsV (.bool true)) 15 122) rfl) ?_
                refine Rc (mv (Od.lc (Φ := IsV (.bool true)) 16 123)) ?_
                exact RgAll.nil
              intro x X9 e9 hΦ _
              have q9 : x 17 = .bool true := hΦ 17 (by decide)
              simp only [layL, Act.put, List.setIfInBounds_toArray, List.set_cons_zero, List.set_cons_succ, Nat.reduceAdd]
              rw [q9]
              have HE9 := hid (HEr.out.trans e9)
              clear hΦ q9 e9
              refine wpList_nil ?_
              go_wp2_with fail
              go_ret
              exact ⟨_, rfl, HEW.out.trans HE9.out, rfl⟩
end
end Go.Proofs.YtenhciieboegbaaGreatDoor
