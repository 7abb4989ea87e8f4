/-
 Parse of the reference of package rational: every string. (Printed by wip/gen/rat17.py.)
-/
import Derived.Test.YtcgdkfadcglekaaGreatDoorQ6r
import Derived.Test.YtcgdkfadcglekaaGreatDoorQH
import Derived.Test.YtcgdkfadcglekaaGreatDoorQ7
import Derived.Test.YtcgdkfadcglekaaGreatDoorRParse
namespace Go.Proofs.YtcgdkfadcglekaaGreatDoor
open Go Go.RowKit

theorem slS1 (s : ByteArray) (k : Nat) (hk : k ≤ s.size) (w : World) : (Instr.sliceAt 9 (.string s) none (some (.int .i64 ((k : Nat) : Int))) none).run Tryz.prog w = .ok (.string (s.extract 0 k)) w := by
 have h1 : (0 : Int) ≤ (k : Int) := by omega
 have h2 : (k : Int) ≤ (s.size : Int) := by omega
 go_simp
theorem slS2 (s : ByteArray) (k : Nat) (hk : k ≤ s.size) (w : World) : (Instr.sliceAt 9 (.string s) (some (.int .i64 ((k : Nat) : Int))) none none).run Tryz.prog w = .ok (.string (s.extract k s.size)) w := by
 have h1 : (0 : Int) ≤ (k : Int) := by omega
 have h2 : (k : Int) ≤ (s.size : Int) := by omega
 go_simp
theorem idS (s : ByteArray) (i : Nat) (h : i < s.size) (w : World) : (Instr.index 9 (.string s) (.int .i64 ((i : Nat) : Int))).run Tryz.prog w = .ok (.int .u8 ((s[i].toNat : Nat) : Int)) w := by
 have h1 : (0 : Int) ≤ (i : Int) := by omega
 have h2 : (i : Int) < (s.size : Int) := by omega
 go_simp
section
variable {P : Program} {ops : Array Oper} {Q : Exit → Act → World → Prop} {ds : List (Option Tmp)} {a0 : Act} {w0 : World} {L : List (Value → World → Prop)} {boxes : List Nat} {i k : Nat} {o : Oper} {os : List Oper}
theorem slH {x y : Operand} {T : Nat} {p u r : Value} (hr : ∀ w, (Instr.sliceAt T p none (some u) none).run P w = .ok r w) (hx : Od ops ds a0 w0 L i x (IsV p)) (hy : Od ops ds a0 w0 L i y (IsV u)) (ho : o.op = .slice T x none (some y) none := by rfl) (hi : L.getD i (fun _ _ => True) = IsV r := by kernel_rfl) (hb : boxes.contains i = false := by kernel_rfl) : Ok P ops Q ds a0 w0 L boxes i o :=
 Ok.of hb fun v a w hE hd hf => by
  have h1 : a.eval x = p := hx.out v a w hE hd hf
  have h2 : a.eval y = u := hy.out v a w hE hd hf
  refine ⟨r, ?_, by rw [hi]; exact rfl⟩
  have := hr w
  unfold execOp
  rw [ho]
  dsimp only
  simp only [Option.map_some, Option.map_none]
  rw [h1, h2]
  simp [this]
theorem slL {x y : Operand} {T : Nat} {p u r : Value} (hr : ∀ w, (Instr.sliceAt T p (some u) none none).run P w = .ok r w) (hx : Od ops ds a0 w0 L i x (IsV p)) (hy : Od ops ds a0 w0 L i y (IsV u)) (ho : o.op = .slice T x (some y) none none := by rfl) (hi : L.getD i (fun _ _ => True) = IsV r := by kernel_rfl) (hb : boxes.contains i = false := by kernel_rfl) : Ok P ops Q ds a0 w0 L boxes i o :=
 Ok.of hb fun v a w hE hd hf => by
  have h1 : a.eval x = p := hx.out v a w hE hd hf
  have h2 : a.eval y = u := hy.out v a w hE hd hf
  refine ⟨r, ?_, by rw [hi]; exact rfl⟩
  have := hr w
  unfold execOp
  rw [ho]
  dsimp only
  simp only [Option.map_some, Option.map_none]
  rw [h1, h2]
  simp [this]
theorem lenS {x : Operand} {s : ByteArray} (hx : Od ops ds a0 w0 L i x (IsV (.string s))) (ho : o.op = .call { callee := .builtin .len, args := #[x], argTypes := #[9] } := by rfl) (hi : L.getD i (fun _ _ => True) = IsV (.int .i64 ((s.size : Nat) : Int)) := by kernel_rfl) (hb : boxes.contains i = false := by kernel_rfl) : Ok Tryz.prog ops Q ds a0 w0 L boxes i o :=
 Ok.of hb fun v a w hE hd hf => by
  have h1 : a.eval x = .string s := hx.out v a w hE hd hf
  refine ⟨_, ?_, by rw [hi]; exact rfl⟩
  unfold execOp
  rw [ho]
  dsimp only
  unfold resolve
  simp only [List.map_toArray, List.map_cons, List.map_nil, h1]
  go_simp
theorem ixs {x y : Operand} {T : Nat} {p u r : Value} (hr : ∀ w, (Instr.index T p u).run P w = .ok r w) (hx : Od ops ds a0 w0 L i x (IsV p)) (hy : Od ops ds a0 w0 L i y (IsV u)) (ho : o.op = .index T x y := by rfl) (hi : L.getD i (fun _ _ => True) = IsV r := by kernel_rfl) (hb : boxes.contains i = false := by kernel_rfl) : Ok P ops Q ds a0 w0 L boxes i o :=
 Ok.of hb fun v a w hE hd hf => by
  have h1 : a.eval x = p := hx.out v a w hE hd hf
  have h2 : a.eval y = u := hy.out v a w hE hd hf
  refine ⟨r, ?_, by rw [hi]; exact rfl⟩
  have := hr w
  unfold execOp
  rw [ho]
  dsimp only
  rw [h1, h2]
  simp [this]
end
theorem rqText_u {k : Nat} {n d : Int} {x : Value} {w : World} (hx : IsQ (IsI k n) (IsI k d) x w) (hk : k ≤ 162) (tn td tq : ByteArray) (h1 : encS (textS n) = .string tn ∧ textE n = 0) (h2 : encS (textS d) = .string td ∧ textE d = 0) (hb : tn.size ≤ 100000 ∧ td.size ≤ 100000) (hq : (if td = ⟨#[49]⟩ then tn else tn ++ (⟨#[47]⟩ : ByteArray) ++ td) = tq) :
  Calls Tryz.prog 15 #[x] w (Ret w (IsT2 (IsV (.string tq)) (IsV (.int .i64 0)))) := by
 by_cases h : td = ⟨#[49]⟩
 ·rw [if_pos h] at hq
  subst h; subst hq
  exact rqText_1 hx hk _ h1 h2
 ·rw [if_neg h] at hq
  subst hq
  exact rqText_n hx hk _ _ h1 h2 (fun k => h (ba_ext (by rw [ba_list] at k; exact k))) hb

set_option maxRecDepth 100000 in
set_option maxHeartbeats 4000000 in
theorem rqParse_L (w : World) (s : ByteArray) (hs : 2601 < s.size) : Calls Tryz.prog 17 #[.string s] w (Ret w (IsT2 (IsQ (IsI 0 0) (IsI 0 0)) (IsV (.int .i64 2)))) := by
 have HSB := hid (show decide ((2601 : Int) < (s.size : Int)) = true by simp; omega)
 clear hs
 obtain ⟨W, hW, S⟩ : ∃ W, W = w.alloc (.cells #[.bool false, .slice none 0 0, .bool false, .slice none 0 0] 31) ∧ Sto w W [((w.heap.size, 1), IsI 0 0), ((w.heap.size, 0), IsI 0 0)] := ⟨_, rfl, ((Sto.start w).new2 (w.heap.size) (by simp) false false none none 0 0 0 0 31 (IsI 0 0) (IsI 0 0) (IsI.gstb _ _) (IsI.nil _ _) (IsI.gstb _ _) (IsI.nil _ _))⟩
 go_enter Tryz.func17, Tryz.ntmps17
 go_upto_region 1 with (fail)
 rw [← hW]
 clear hW
 refine rgs 3 [some 13, some 14, some 15] [IsV (.string s), IsV (.int .i64 ((s).size)), IsV (.bool true)] [] ?_ ?_
 ·refine Rc (mv (Od.lit 0)) ?_
  refine RgAll.cons (by { (with_reducible refine RgL.mk (by rfl) ?_); intro v a w' hE hd hf; have d0 : v 0 = .string s := hd 0 (by kernel_rfl); have ev0 := hf.val 0 13 _ d0 (by kernel_rfl) (by kernel_rfl) (by kernel_rfl); clear d0; clear hd hf; intro K hK; go_simp; exact hK.out _ _ (Ext.refl _) rfl (FreshIf.no rfl) }) ?_
  refine Rc (bn (r := .bool true) (Od.loc 1 14) Od.con (hr := fun w => by have hs9 := HSB.out; go_simp)) ?_
  exact RgAll.nil
 intro v W1 e1 hΦ _
 replace S := S.mono e1
 have v2 : v 2 = .bool true := hΦ 2 (by decide)
 simp only [layL, Act.put, List.setIfInBounds_toArray, List.set_cons_zero, List.set_cons_succ, Nat.reduceAdd]
 rw [v2]
 clear v2 hΦ e1
 refine wpList_nil ?_
 go_upto_region 2 with (fail)
 refine rgs 1 [some 16] [IsQ (IsI 0 0) (IsI 0 0)] [] ?_ ?_
 ·refine Rc (b0 z_Rat nilQ) ?_
  exact RgAll.nil
 intro v W2 e1 hΦ _
 replace S := S.mono e1
 have h16 := hΦ 0 (by decide)
 simp only [layL, Act.put, List.setIfInBounds_toArray, List.set_cons_zero, List.set_cons_succ]
 clear hΦ e1
 try simp only [List.drop_succ_cons, List.drop_zero]
 (with_reducible refine stL ?_ (by rfl)); intro KK hKK; refine stQ S 1 0 (w.heap.size) 0 h16 (IsI.gstb _ _) (IsI.gstb _ _) st_Rat (fun W3 S2 G2 => hKK _ _ ?_) rfl rfl
 replace S := S2; clear S2 G2 hKK KK h16
 simp only [List.set_cons_zero, List.set_cons_succ] at S
 refine wpList_step fun K hK => ?_; go_simp; refine hK _ _ ?_; clear hK K
 refine wpList_nil ?_
 go_wp2_with fail
 obtain ⟨s90x, a90x, n90x, c90x, b90x, h90x⟩ := S.at 1 (w.heap.size) 0 (IsI 0 0) rfl; have L90xa : World.cell? W3 ⟨w.heap.size, 0, none⟩ = some (.bool s90x) := b90x.c0; have L90xb : World.cell? W3 ⟨w.heap.size, 1, none⟩ = some (.slice a90x n90x c90x) := b90x.c1
 obtain ⟨s90y, a90y, n90y, c90y, b90y, h90y⟩ := S.at 0 (w.heap.size) 1 (IsI 0 0) rfl; have L90ya : World.cell? W3 ⟨w.heap.size, 2, none⟩ = some (.bool s90y) := b90y.c0; have L90yb : World.cell? W3 ⟨w.heap.size, 3, none⟩ = some (.slice a90y n90y c90y) := b90y.c1
 exact bodyPost_ret (v := .tuple #[.agg #[.bool s90x, .slice a90x n90x c90x, .bool s90y, .slice a90y n90y c90y], .int .i64 2]) (by simp [results, Tryz.results17, go_sem, L90xa, L90xb, L90ya, L90yb]) rfl (⟨_, rfl, S.ext, ⟨_, _, rfl, ⟨_, _, _, _, _, _, _, _, rfl, h90x, h90y⟩, rfl⟩⟩)

set_option maxRecDepth 100000 in
set_option maxHeartbeats 4000000 in
theorem rqParse_Fb (w : World) (s : ByteArray) (kk : Nat) (HS : Hid (s.size ≤ 2601)) (HSB : Hid (decide ((2601 : Int) < (s.size : Int)) = false)) (HKK : Hid (kk ≤ s.size)) (HNS : Hid (∀ (j : Nat) (h : j < s.size), j < kk → s[j].toNat ≠ 47)) (HYS : Hid (∀ h : kk < s.size, s[kk].toNat = 47)) (ta : ByteArray) (HTA : Hid (s.extract 0 kk = ta)) (z1 ec : Int) (be : Bool) (H1 : Hid (parseZ ta.data.toList = z1 ∧ parseE ta.data.toList = ec)) (HSL : Hid (decide ((kk : Int) < (s.size : Int)) = false)) (HBE : Hid ((ec != 0) = be)) (HOR : Hid ((be || false) = true)) :
  Calls Tryz.prog 17 #[.string s] w (Ret w (IsT2 (IsQ (IsI 0 0) (IsI 0 0)) (IsV (.int .i64 3)))) := by
 obtain ⟨W, hW, S⟩ : ∃ W, W = w.alloc (.cells #[.bool false, .slice none 0 0, .bool false, .slice none 0 0] 31) ∧ Sto w W [((w.heap.size, 1), IsI 0 0), ((w.heap.size, 0), IsI 0 0)] := ⟨_, rfl, ((Sto.start w).new2 (w.heap.size) (by simp) false false none none 0 0 0 0 31 (IsI 0 0) (IsI 0 0) (IsI.gstb _ _) (IsI.nil _ _) (IsI.gstb _ _) (IsI.nil _ _))⟩
 go_enter Tryz.func17, Tryz.ntmps17
 go_upto_region 1 with (fail)
 rw [← hW]
 clear hW
 refine rgs 3 [some 13, some 14, some 15] [IsV (.string s), IsV (.int .i64 ((s).size)), IsV (.bool false)] [] ?_ ?_
 ·refine Rc (mv (Od.lit 0)) ?_
  refine RgAll.cons (by { (with_reducible refine RgL.mk (by rfl) ?_); intro v a w' hE hd hf; have d0 : v 0 = .string s := hd 0 (by kernel_rfl); have ev0 := hf.val 0 13 _ d0 (by kernel_rfl) (by kernel_rfl) (by kernel_rfl); clear d0; clear hd hf; intro K hK; go_simp; exact hK.out _ _ (Ext.refl _) rfl (FreshIf.no rfl) }) ?_
  refine Rc (bn (r := .bool false) (Od.loc 1 14) Od.con (hr := fun w => by have hs9 := HSB.out; go_simp)) ?_
  exact RgAll.nil
 intro v W1 e1 hΦ _
 replace S := S.mono e1
 have v2 : v 2 = .bool false := hΦ 2 (by decide)
 simp only [layL, Act.put, List.setIfInBounds_toArray, List.set_cons_zero, List.set_cons_succ, Nat.reduceAdd]
 rw [v2]
 clear v2 hΦ e1
 refine wpList_nil ?_
 go_upto_region 3 with (fail)
 refine rgs 3 [some 17, some 18, some 4] [IsV (.string s), IsV (.int .i64 ((s).size)), IsV (.int .i64 ((s).size))] [] ?_ ?_
 ·refine Rc (mv (Od.lit 0)) ?_
  refine RgAll.cons (by { (with_reducible refine RgL.mk (by rfl) ?_); intro v a w' hE hd hf; have d0 : v 0 = .string s := hd 0 (by kernel_rfl); have ev0 := hf.val 0 17 _ d0 (by kernel_rfl) (by kernel_rfl) (by kernel_rfl); clear d0; clear hd hf; intro K hK; go_simp; exact hK.out _ _ (Ext.refl _) rfl (FreshIf.no rfl) }) ?_
  refine Rc (mv (Od.lc 1 18)) ?_
  exact RgAll.nil
 intro v W2 e1 hΦ _
 replace S := S.mono e1
 have v2 : v 2 = .int .i64 ((s).size) := hΦ 2 (by decide)
 simp only [layL, Act.put, List.setIfInBounds_toArray, List.set_cons_zero, List.set_cons_succ, Nat.reduceAdd]
 rw [v2]
 clear v2 hΦ e1
 refine wpList_nil ?_
 go_upto_region 4 with (fail)
 refine rgs 1 [some 5] [IsV (.int .i64 0)] [] ?_ ?_
 ·refine Rc (mv Od.con) ?_
  exact RgAll.nil
 intro v W3 e1 hΦ _
 replace S := S.mono e1
 have v0 : v 0 = .int .i64 0 := hΦ 0 (by decide)
 simp only [layL, Act.put, List.setIfInBounds_toArray, List.set_cons_zero, List.set_cons_succ]
 rw [v0]
 clear v0 hΦ e1
 refine wpList_nil ?_
 go_wp2_with fail
 have S0 := hid S; clear S
 go_loopg [4, 5] s.size (fun gk v4 v5 wr => ∃ i aa : Nat, v5 = .int .i64 ((i : Nat) : Int) ∧ v4 = .int .i64 ((aa : Nat) : Int) ∧ i + gk = s.size ∧ ((i ≤ kk ∧ aa = s.size) ∨ (i = kk + 1 ∧ kk < s.size ∧ aa = kk)) ∧ Hid (Sto w wr [((w.heap.size, 1), IsI 0 0), ((w.heap.size, 0), IsI 0 0)]))
 case atStart => exact ⟨0, s.size, rfl, rfl, by omega, .inl ⟨by omega, rfl⟩, S0⟩
 case round =>
  clear S0
  obtain ⟨i, aa, rfl, rfl, hn, hst, S⟩ := hrel
  have S := S.out
  have HKK' := HKK.out
  by_cases hgo : i < s.size ∧ aa = s.size
  ·obtain ⟨hin, rfl⟩ := hgo
   have hik : i ≤ kk := by omega
   by_cases hki : i = kk
   ·skip
    obtain ⟨bb, hbb⟩ : ∃ b, (s[i]'hin).toNat = b := ⟨_, rfl⟩
    have HHIT := hid (show ((bb : Nat) : Int) = 47 by have := HYS.out (hki ▸ hin); subst hki; rw [← hbb, this]; rfl)
    have HBB := hid hbb
    have HLT := hid (show (i : Int) < ((s.size : Nat) : Int) by omega)
    have HIN := hid hin
    have HHN := hid hn; have HKI := hid hki; have HIK := hid hik
    have HADD := hid (show IntKind.i64.wrap ((i : Int) + 1) = (i : Int) + 1 by have := HS.out; simp only [IntKind.wrap_i64]; omega)
    clear hbb hn hki hik HKK'
    go_upto_region 5 with (fail)
    refine rgs 10 [some 19, some 20, some 21, some 22, some 23, some 24, some 25, some 26, some 27, some 28] [IsV (.int .i64 ((i : Nat) : Int)), IsV (.string s), IsV (.int .i64 ((s).size)), IsV (.bool true), IsV (.bool true), IsV (.int .i64 ((s.size : Nat) : Int)), IsV (.string s), IsV (.int .i64 ((s).size)), IsV (.bool true), IsV (.bool true)] [] ?_ ?_
    ·refine Rc (mv (Od.lit 5)) ?_
     refine Rc (mv (Od.lit 0)) ?_
     refine RgAll.cons (by { (with_reducible refine RgL.mk (by rfl) ?_); intro v a w' hE hd hf; have d0 : v 1 = .string s := hd 1 (by kernel_rfl); have ev0 := hf.val 1 20 _ d0 (by kernel_rfl) (by kernel_rfl) (by kernel_rfl); clear d0; clear hd hf; intro K hK; go_simp; exact hK.out _ _ (Ext.refl _) rfl (FreshIf.no rfl) }) ?_
     refine Rc (bn (r := .bool true) (Od.loc 0 19) (Od.loc 2 21) (hr := fun w => by have hx9 := HLT.out; go_simp)) ?_
     refine Rc (mv (Od.lc 3 22)) ?_
     refine RcG 4 23 true (mv (Od.lit 4)) ?_
     refine RcG 4 23 true (mv (Od.lit 0)) ?_
     refine RgAll.cons (by { (with_reducible refine RgL.mkG 4 23 true (by rfl) (by kernel_rfl) (by kernel_rfl) (by kernel_rfl) (by kernel_rfl) (by kernel_rfl) ?_ ?_); (focus (intro _ _ h; exact h)); intro v a w' hE hd hf; have d0 : v 6 = .string s := hd 6 (by kernel_rfl); have ev0 := hf.val 6 25 _ d0 (by kernel_rfl) (by kernel_rfl) (by kernel_rfl); clear d0; clear hd hf; intro K hK; go_simp; exact hK.out _ _ (Ext.refl _) rfl (FreshIf.no rfl) }) ?_
     refine RcG 4 23 true (bn (r := .bool true) (Od.loc 5 24) (Od.loc 7 26) (hr := fun w => by go_simp)) ?_
     refine Rc (pk (Od.loc 4 23) (Od.lc 8 27)) ?_
     exact RgAll.nil
    intro v W4 e1 hΦ _
    replace S := S.mono e1
    have v9 : v 9 = .bool true := hΦ 9 (by decide)
    simp only [layL, Act.put, List.setIfInBounds_toArray, List.set_cons_zero, List.set_cons_succ, Nat.reduceAdd]
    rw [v9]
    clear v9 hΦ e1
    refine wpList_nil ?_
    go_upto_region 7 with (fail)
    refine rgs 4 [some 31, some 32, some 33, some 34] [IsV (.string s), IsV (.int .i64 ((i : Nat) : Int)), IsV (.int .u8 ((bb : Nat) : Int)), IsV (.bool true)] [] ?_ ?_
    ·refine Rc (mv (Od.lit 0)) ?_
     refine Rc (mv (Od.lit 5)) ?_
     refine Rc (ixs (fun w => HBB.out ▸ idS s i HIN.out w) (Od.lc 0 31) (Od.lc 1 32)) ?_
     refine Rc (bn (r := .bool true) (Od.loc 2 33) Od.con (hr := fun w => by have hx9 := HHIT.out; go_simp)) ?_
     exact RgAll.nil
    intro v W5 e1 hΦ _
    replace S := S.mono e1
    have v3 : v 3 = .bool true := hΦ 3 (by decide)
    simp only [layL, Act.put, List.setIfInBounds_toArray, List.set_cons_zero, List.set_cons_succ, Nat.reduceAdd]
    rw [v3]
    clear v3 hΦ e1
    refine wpList_nil ?_
    go_upto_region 8 with (fail)
    refine rgs 2 [some 35, some 4] [IsV (.int .i64 ((i : Nat) : Int)), IsV (.int .i64 ((i : Nat) : Int))] [] ?_ ?_
    ·refine Rc (mv (Od.lit 5)) ?_
     refine Rc (mv (Od.lc 0 35)) ?_
     exact RgAll.nil
    intro v W6 e1 hΦ _
    replace S := S.mono e1
    have v1 : v 1 = .int .i64 ((i : Nat) : Int) := hΦ 1 (by decide)
    simp only [layL, Act.put, List.setIfInBounds_toArray, List.set_cons_zero, List.set_cons_succ, Nat.reduceAdd]
    rw [v1]
    clear v1 hΦ e1
    refine wpList_nil ?_
    have hx9 := HADD.out
    have S' := hid S; clear S
    go_wp2_with fail
    go_roundg (gk - 1)
    case measure => have := HHN.out; have := HIN.out; omega
    case rel => exact ⟨i + 1, i, by rw [Int.natCast_add]; rfl, rfl, by have := HHN.out; have := HIN.out; omega, .inr (by have := HKI.out; have := HIN.out; omega), S'⟩
   ·skip
    obtain ⟨bb, hbb⟩ : ∃ b, (s[i]'hin).toNat = b := ⟨_, rfl⟩
    have HHIT := hid (show (((bb : Nat) : Int) == 47) = false by rw [beq_eq_false_iff_ne, ← hbb]; have := HNS.out i hin (by omega); omega)
    have HBB := hid hbb
    have HLT := hid (show (i : Int) < ((s.size : Nat) : Int) by omega)
    have HIN := hid hin
    have HHN := hid hn; have HKI := hid hki; have HIK := hid hik
    have HADD := hid (show IntKind.i64.wrap ((i : Int) + 1) = (i : Int) + 1 by have := HS.out; simp only [IntKind.wrap_i64]; omega)
    clear hbb hn hki hik HKK'
    go_upto_region 5 with (fail)
    refine rgs 10 [some 19, some 20, some 21, some 22, some 23, some 24, some 25, some 26, some 27, some 28] [IsV (.int .i64 ((i : Nat) : Int)), IsV (.string s), IsV (.int .i64 ((s).size)), IsV (.bool true), IsV (.bool true), IsV (.int .i64 ((s.size : Nat) : Int)), IsV (.string s), IsV (.int .i64 ((s).size)), IsV (.bool true), IsV (.bool true)] [] ?_ ?_
    ·refine Rc (mv (Od.lit 5)) ?_
     refine Rc (mv (Od.lit 0)) ?_
     refine RgAll.cons (by { (with_reducible refine RgL.mk (by rfl) ?_); intro v a w' hE hd hf; have d0 : v 1 = .string s := hd 1 (by kernel_rfl); have ev0 := hf.val 1 20 _ d0 (by kernel_rfl) (by kernel_rfl) (by kernel_rfl); clear d0; clear hd hf; intro K hK; go_simp; exact hK.out _ _ (Ext.refl _) rfl (FreshIf.no rfl) }) ?_
     refine Rc (bn (r := .bool true) (Od.loc 0 19) (Od.loc 2 21) (hr := fun w => by have hx9 := HLT.out; go_simp)) ?_
     refine Rc (mv (Od.lc 3 22)) ?_
     refine RcG 4 23 true (mv (Od.lit 4)) ?_
     refine RcG 4 23 true (mv (Od.lit 0)) ?_
     refine RgAll.cons (by { (with_reducible refine RgL.mkG 4 23 true (by rfl) (by kernel_rfl) (by kernel_rfl) (by kernel_rfl) (by kernel_rfl) (by kernel_rfl) ?_ ?_); (focus (intro _ _ h; exact h)); intro v a w' hE hd hf; have d0 : v 6 = .string s := hd 6 (by kernel_rfl); have ev0 := hf.val 6 25 _ d0 (by kernel_rfl) (by kernel_rfl) (by kernel_rfl); clear d0; clear hd hf; intro K hK; go_simp; exact hK.out _ _ (Ext.refl _) rfl (FreshIf.no rfl) }) ?_
     refine RcG 4 23 true (bn (r := .bool true) (Od.loc 5 24) (Od.loc 7 26) (hr := fun w => by go_simp)) ?_
     refine Rc (pk (Od.loc 4 23) (Od.lc 8 27)) ?_
     exact RgAll.nil
    intro v W7 e1 hΦ _
    replace S := S.mono e1
    have v9 : v 9 = .bool true := hΦ 9 (by decide)
    simp only [layL, Act.put, List.setIfInBounds_toArray, List.set_cons_zero, List.set_cons_succ, Nat.reduceAdd]
    rw [v9]
    clear v9 hΦ e1
    refine wpList_nil ?_
    go_upto_region 7 with (fail)
    refine rgs 4 [some 31, some 32, some 33, some 34] [IsV (.string s), IsV (.int .i64 ((i : Nat) : Int)), IsV (.int .u8 ((bb : Nat) : Int)), IsV (.bool false)] [] ?_ ?_
    ·refine Rc (mv (Od.lit 0)) ?_
     refine Rc (mv (Od.lit 5)) ?_
     refine Rc (ixs (fun w => HBB.out ▸ idS s i HIN.out w) (Od.lc 0 31) (Od.lc 1 32)) ?_
     refine Rc (bn (r := .bool false) (Od.loc 2 33) Od.con (hr := fun w => by have hx9 := HHIT.out; go_simp)) ?_
     exact RgAll.nil
    intro v W8 e1 hΦ _
    replace S := S.mono e1
    have v3 : v 3 = .bool false := hΦ 3 (by decide)
    simp only [layL, Act.put, List.setIfInBounds_toArray, List.set_cons_zero, List.set_cons_succ, Nat.reduceAdd]
    rw [v3]
    clear v3 hΦ e1
    refine wpList_nil ?_
    have hx9 := HADD.out
    have S' := hid S; clear S
    go_wp2_with fail
    go_roundg (gk - 1)
    case measure => have := HHN.out; have := HIN.out; omega
    case rel => exact ⟨i + 1, s.size, by rw [Int.natCast_add]; rfl, rfl, by have := HHN.out; have := HIN.out; omega, .inl (by have := HKI.out; have := HIK.out; omega), S'⟩
  ·skip
   obtain rfl : aa = kk := by omega
   obtain ⟨bi, hbi⟩ : ∃ b, decide ((i : Int) < (s.size : Int)) = b := ⟨_, rfl⟩
   obtain ⟨ba, hba⟩ : ∃ b, (((aa : Nat) : Int) == ((s.size : Nat) : Int)) = b := ⟨_, rfl⟩
   have HBI := hid (show decide ((i : Int) < (s.size : Int)) = bi ∧ decide (i < s.size) = bi from ⟨hbi, by rw [← hbi]; exact decide_eq_decide.2 (by omega)⟩)
   have HBA := hid (show (((aa : Nat) : Int) == ((s.size : Nat) : Int)) = ba ∧ (aa == s.size) = ba from ⟨hba, by rw [← hba, Bool.eq_iff_iff, beq_iff_eq, beq_iff_eq]; omega⟩)
   have HBB := hid (show (bi && ba) = false by
    rw [← hbi, ← hba, Bool.eq_false_iff]; intro k; simp only [Bool.and_eq_true, decide_eq_true_eq, beq_iff_eq] at k; exact hgo ⟨by omega, by omega⟩)
   clear hn hst hgo HKK' hbi hba
   go_upto_region 5 with (fail)
   refine rgs 10 [some 19, some 20, some 21, some 22, some 23, some 24, some 25, some 26, some 27, some 28] [IsV (.int .i64 ((i : Nat) : Int)), IsV (.string s), IsV (.int .i64 ((s).size)), IsV (.bool bi), IsV (.bool bi), IsIf (bi) (IsV (.int .i64 ((aa : Nat) : Int))), IsIf (bi) (IsV (.string s)), IsIf (bi) (IsV (.int .i64 ((s.size : Nat) : Int))), IsIf (bi) (IsV (.bool ba)), IsV (.bool false)] [] ?_ ?_ (hst := by repeat' (first | exact trivial | apply IsIf.stb | exact IsV.stb _ | exact IsI.stb _ _ | apply IsJ.stb | apply IsQ.stb | apply And.intro))
   ·refine Rc (mv (Od.lit 5)) ?_
    refine Rc (mv (Od.lit 0)) ?_
    refine RgAll.cons (by { (with_reducible refine RgL.mk (by rfl) ?_); intro v a w' hE hd hf; have d0 : v 1 = .string s := hd 1 (by kernel_rfl); have ev0 := hf.val 1 20 _ d0 (by kernel_rfl) (by kernel_rfl) (by kernel_rfl); clear d0; clear hd hf; intro K hK; go_simp; exact hK.out _ _ (Ext.refl _) rfl (FreshIf.no rfl) }) ?_
    refine Rc (bn (r := .bool bi) (Od.loc 0 19) (Od.loc 2 21) (hr := fun w => by have hx9 := HBI.out.1; have hx8 := HBI.out.2; go_simp)) ?_
    refine Rc (mv (Od.lc 3 22)) ?_
    refine RcB 4 23 bi true (fun hb => by subst hb; exact mv (Od.lit 4)) ?_
    refine RcB 4 23 bi true (fun hb => by subst hb; exact mv (Od.lit 0)) ?_
    refine RcB 4 23 bi true (fun hb => by subst hb; exact lenS (Od.lc (Φ := IsV (.string s)) 6 25)) ?_
    refine RcB 4 23 bi true (fun hb => by subst hb; exact bn (r := .bool ba) (Od.loc 5 24) (Od.loc 7 26) (hr := fun w => by have hx9 := HBA.out.1; have hx8 := HBA.out.2; go_simp)) ?_
    refine Rc (pkA (b2 := ba) (Od.loc 4 23) (fun hb => by subst hb; exact Od.lc 8 27) (HBB.out)) ?_
    exact RgAll.nil
   intro v W9 e1 hΦ _
   replace S := S.mono e1
   have v9 : v 9 = .bool false := hΦ 9 (by decide)
   simp only [layL, Act.put, List.setIfInBounds_toArray, List.set_cons_zero, List.set_cons_succ, Nat.reduceAdd]
   rw [v9]
   clear v9 hΦ e1
   refine wpList_nil ?_
   go_upto_region 9 with (fail)
   have hl := hid S.lt; have hw := S.ext.size
   refine rgs 8 [some 37, some 38, some 39, some 40, some 36, some 41, some 42, some 6] [IsV (.string s), IsV (.int .i64 ((aa : Nat) : Int)), IsV (.string ta), IsT2 (IsI 136 z1) (IsV (.int .i64 ec)), IsT2 (IsI 136 z1) (IsV (.int .i64 ec)), IsI 136 z1, IsV (.int .i64 ec), IsBo W9 1] [7] ?_ ?_
   ·refine Rc (mv (Od.lit 0)) ?_
    refine Rc (mv (Od.lit 4)) ?_
    refine Rc (slH (fun w => HTA.out ▸ slS1 s aa HKK.out w) (Od.lc 0 37) (Od.lc 1 38)) ?_
    refine Rc (cl1 (en Tryz.func74) (Od.lc (Φ := IsV (.string ta)) 2 39) (fun x0 w' hE d0 => by { obtain rfl : x0 = .string ta := d0; exact (by have hh := RParse_f w' ta; rw [H1.out.1, H1.out.2] at hh; exact hh) })) ?_
    refine Rc (mv (Od.lc 3 40)) ?_
    refine Rc (ex (Od.loc 4 36) t20) ?_
    refine Rc (ex (Od.loc 4 36) t21) ?_
    refine Rc (al al_Int) ?_
    exact RgAll.nil
   intro v W10 e1 hΦ _
   replace S := S.mono e1
   have h41 := hΦ 5 (by decide)
   have v6 : v 6 = .int .i64 ec := hΦ 6 (by decide)
   obtain ⟨g6, v7, q2, b1, _⟩ := (hΦ 7 (by decide) : IsBo W9 1 (v 7) W10)
   replace S := S.addN 1 (ApartO.old hl.out q2) (Nat.le_trans hw q2) b1
   simp only [newF, List.cons_append, List.nil_append] at S
   simp only [layL, Act.put, List.setIfInBounds_toArray, List.set_cons_zero, List.set_cons_succ, Nat.reduceAdd]
   rw [v6, v7]
   clear b1 hl hw v6 v7 hΦ e1
   try simp only [List.drop_succ_cons, List.drop_zero]
   (with_reducible refine stL ?_ (by rfl)); intro KK hKK; refine stI S 0 (g6) 0 h41 st_Int (fun W11 S2 G2 => hKK _ _ ?_) rfl
   replace S := S2; clear S2 G2 hKK KK h41
   simp only [List.set_cons_zero] at S
   refine wpList_step fun K hK => ?_; go_simp; refine hK _ _ ?_; clear hK K
   refine wpList_nil ?_
   go_upto_region 10 with (fail)
   have hl := hid S.lt; have hw := S.ext.size
   refine rgs 2 [some 43, some 8] [IsI 2 1, IsBo W11 1] [1] ?_ ?_
   ·refine Rc (cl1 (en Tryz.func24) Od.con (fun x0 w' hE d0 => by { obtain rfl : x0 = .int .i64 1 := d0; exact ROf_f _ 1 (by decide) (by decide) })) ?_
    refine Rc (al al_Int) ?_
    exact RgAll.nil
   intro v W12 e1 hΦ _
   replace S := S.mono e1
   have h43 := hΦ 0 (by decide)
   obtain ⟨g8, v1, q4, b3, _⟩ := (hΦ 1 (by decide) : IsBo W11 1 (v 1) W12)
   replace S := S.addN 1 (ApartO.old hl.out q4) (Nat.le_trans hw q4) b3
   simp only [newF, List.cons_append, List.nil_append] at S
   simp only [layL, Act.put, List.setIfInBounds_toArray, List.set_cons_zero, List.set_cons_succ, Nat.reduceAdd]
   rw [v1]
   clear b3 hl hw v1 hΦ e1
   try simp only [List.drop_succ_cons, List.drop_zero]
   (with_reducible refine stL ?_ (by rfl)); intro KK hKK; refine stI S 0 (g8) 0 h43 st_Int (fun W13 S2 G2 => hKK _ _ ?_) rfl
   replace S := S2; clear S2 G2 hKK KK h43
   simp only [List.set_cons_zero] at S
   refine wpList_step fun K hK => ?_; go_simp; refine hK _ _ ?_; clear hK K
   refine wpList_nil ?_
   go_upto_region 11 with (fail)
   refine rgs 4 [some 44, some 45, some 46, some 47] [IsV (.int .i64 ((aa : Nat) : Int)), IsV (.string s), IsV (.int .i64 ((s).size)), IsV (.bool false)] [] ?_ ?_
   ·refine Rc (mv (Od.lit 4)) ?_
    refine Rc (mv (Od.lit 0)) ?_
    refine RgAll.cons (by { (with_reducible refine RgL.mk (by rfl) ?_); intro v a w' hE hd hf; have d0 : v 1 = .string s := hd 1 (by kernel_rfl); have ev0 := hf.val 1 45 _ d0 (by kernel_rfl) (by kernel_rfl) (by kernel_rfl); clear d0; clear hd hf; intro K hK; go_simp; exact hK.out _ _ (Ext.refl _) rfl (FreshIf.no rfl) }) ?_
    refine Rc (bn (r := .bool false) (Od.loc 0 44) (Od.loc 2 46) (hr := fun w => by have hx9 := HSL.out; have hx8 : s.size ≤ aa := (by have := of_decide_eq_false HSL.out; omega); go_simp)) ?_
    exact RgAll.nil
   intro v W14 e1 hΦ _
   replace S := S.mono e1
   have v3 : v 3 = .bool false := hΦ 3 (by decide)
   simp only [layL, Act.put, List.setIfInBounds_toArray, List.set_cons_zero, List.set_cons_succ, Nat.reduceAdd]
   rw [v3]
   clear v3 hΦ e1
   refine wpList_nil ?_
   go_upto_region 13 with (fail)
   refine rgs 6 [some 56, some 57, some 58, some 59, some 60, some 61] [IsV (.int .i64 ec), IsV (.bool be), IsV (.bool be), IsIf (!be) (IsV (.int .i64 0)), IsIf (!be) (IsV (.bool false)), IsV (.bool true)] [] ?_ ?_ (hst := by repeat' (first | exact trivial | apply IsIf.stb | exact IsV.stb _ | exact IsI.stb _ _ | apply IsJ.stb | apply IsQ.stb | apply And.intro))
   ·refine Rc (mv (Od.lit 7)) ?_
    refine Rc (bn (r := .bool be) (Od.loc 0 56) Od.con (hr := fun w => by have hx9 := HBE.out; go_simp)) ?_
    refine Rc (mv (Od.lc 1 57)) ?_
    refine RcB 2 58 be false (fun hb => by subst hb; exact mv (Od.lit 9)) ?_
    refine RcB 2 58 be false (fun hb => by subst hb; exact bn (r := .bool false) (Od.loc 3 59) Od.con (hr := fun w => by go_simp)) ?_
    refine Rc (pkO (b2 := false) (Od.loc 2 58) (fun hb => by subst hb; exact Od.lc 4 60) (HOR.out)) ?_
    exact RgAll.nil
   intro v W15 e1 hΦ _
   replace S := S.mono e1
   have v5 : v 5 = .bool true := hΦ 5 (by decide)
   simp only [layL, Act.put, List.setIfInBounds_toArray, List.set_cons_zero, List.set_cons_succ, Nat.reduceAdd]
   rw [v5]
   clear v5 hΦ e1
   refine wpList_nil ?_
   go_upto_region 14 with (fail)
   refine rgs 1 [some 62] [IsQ (IsI 0 0) (IsI 0 0)] [] ?_ ?_
   ·refine Rc (b0 z_Rat nilQ) ?_
    exact RgAll.nil
   intro v W16 e1 hΦ _
   replace S := S.mono e1
   have h62 := hΦ 0 (by decide)
   simp only [layL, Act.put, List.setIfInBounds_toArray, List.set_cons_zero, List.set_cons_succ]
   clear hΦ e1
   try simp only [List.drop_succ_cons, List.drop_zero]
   (with_reducible refine stL ?_ (by rfl)); intro KK hKK; refine stQ S 3 2 (w.heap.size) 0 h62 (IsI.gstb _ _) (IsI.gstb _ _) st_Rat (fun W17 S2 G2 => hKK _ _ ?_) rfl rfl
   replace S := S2; clear S2 G2 hKK KK h62
   simp only [List.set_cons_zero, List.set_cons_succ] at S
   refine wpList_step fun K hK => ?_; go_simp; refine hK _ _ ?_; clear hK K
   refine wpList_nil ?_
   go_wp2_with fail
   obtain ⟨s90x, a90x, n90x, c90x, b90x, h90x⟩ := S.at 3 (w.heap.size) 0 (IsI 0 0) rfl; have L90xa : World.cell? W17 ⟨w.heap.size, 0, none⟩ = some (.bool s90x) := b90x.c0; have L90xb : World.cell? W17 ⟨w.heap.size, 1, none⟩ = some (.slice a90x n90x c90x) := b90x.c1
   obtain ⟨s90y, a90y, n90y, c90y, b90y, h90y⟩ := S.at 2 (w.heap.size) 1 (IsI 0 0) rfl; have L90ya : World.cell? W17 ⟨w.heap.size, 2, none⟩ = some (.bool s90y) := b90y.c0; have L90yb : World.cell? W17 ⟨w.heap.size, 3, none⟩ = some (.slice a90y n90y c90y) := b90y.c1
   exact bodyPost_ret (v := .tuple #[.agg #[.bool s90x, .slice a90x n90x c90x, .bool s90y, .slice a90y n90y c90y], .int .i64 3]) (by simp [results, Tryz.results17, go_sem, L90xa, L90xb, L90ya, L90yb]) rfl (⟨_, rfl, S.ext, ⟨_, _, rfl, ⟨_, _, _, _, _, _, _, _, rfl, h90x, h90y⟩, rfl⟩⟩)

set_option maxRecDepth 100000 in
set_option maxHeartbeats 4000000 in
theorem rqParse_Fk (w : World) (s : ByteArray) (kk : Nat) (HS : Hid (s.size ≤ 2601)) (HSB : Hid (decide ((2601 : Int) < (s.size : Int)) = false)) (HKK : Hid (kk ≤ s.size)) (HNS : Hid (∀ (j : Nat) (h : j < s.size), j < kk → s[j].toNat ≠ 47)) (HYS : Hid (∀ h : kk < s.size, s[kk].toNat = 47)) (ta : ByteArray) (HTA : Hid (s.extract 0 kk = ta)) (z1 : Int) (H1 : Hid (parseZ ta.data.toList = z1 ∧ parseE ta.data.toList = 0)) (HSL : Hid (decide ((kk : Int) < (s.size : Int)) = false)) (td : ByteArray) (HX1 : Hid (encS (textS z1) = .string ta ∧ textE z1 = 0)) (HX2 : Hid (encS (textS 1) = .string td ∧ textE 1 = 0)) (HX3 : Hid (ta.size ≤ 100000 ∧ td.size ≤ 100000)) (HX4 : Hid ((if td = ⟨#[49]⟩ then ta else ta ++ (⟨#[47]⟩ : ByteArray) ++ td) = s)) (HV : Hid (validQ z1 1 = true)) :
  Calls Tryz.prog 17 #[.string s] w (Ret w (IsT2 (IsQ (IsI 136 z1) (IsI 2 1)) (IsV (.int .i64 0)))) := by
 obtain ⟨W, hW, S⟩ : ∃ W, W = w.alloc (.cells #[.bool false, .slice none 0 0, .bool false, .slice none 0 0] 31) ∧ Sto w W [((w.heap.size, 1), IsI 0 0), ((w.heap.size, 0), IsI 0 0)] := ⟨_, rfl, ((Sto.start w).new2 (w.heap.size) (by simp) false false none none 0 0 0 0 31 (IsI 0 0) (IsI 0 0) (IsI.gstb _ _) (IsI.nil _ _) (IsI.gstb _ _) (IsI.nil _ _))⟩
 go_enter Tryz.func17, Tryz.ntmps17
 go_upto_region 1 with (fail)
 rw [← hW]
 clear hW
 refine rgs 3 [some 13, some 14, some 15] [IsV (.string s), IsV (.int .i64 ((s).size)), IsV (.bool false)] [] ?_ ?_
 ·refine Rc (mv (Od.lit 0)) ?_
  refine RgAll.cons (by { (with_reducible refine RgL.mk (by rfl) ?_); intro v a w' hE hd hf; have d0 : v 0 = .string s := hd 0 (by kernel_rfl); have ev0 := hf.val 0 13 _ d0 (by kernel_rfl) (by kernel_rfl) (by kernel_rfl); clear d0; clear hd hf; intro K hK; go_simp; exact hK.out _ _ (Ext.refl _) rfl (FreshIf.no rfl) }) ?_
  refine Rc (bn (r := .bool false) (Od.loc 1 14) Od.con (hr := fun w => by have hs9 := HSB.out; go_simp)) ?_
  exact RgAll.nil
 intro v W1 e1 hΦ _
 replace S := S.mono e1
 have v2 : v 2 = .bool false := hΦ 2 (by decide)
 simp only [layL, Act.put, List.setIfInBounds_toArray, List.set_cons_zero, List.set_cons_succ, Nat.reduceAdd]
 rw [v2]
 clear v2 hΦ e1
 refine wpList_nil ?_
 go_upto_region 3 with (fail)
 refine rgs 3 [some 17, some 18, some 4] [IsV (.string s), IsV (.int .i64 ((s).size)), IsV (.int .i64 ((s).size))] [] ?_ ?_
 ·refine Rc (mv (Od.lit 0)) ?_
  refine RgAll.cons (by { (with_reducible refine RgL.mk (by rfl) ?_); intro v a w' hE hd hf; have d0 : v 0 = .string s := hd 0 (by kernel_rfl); have ev0 := hf.val 0 17 _ d0 (by kernel_rfl) (by kernel_rfl) (by kernel_rfl); clear d0; clear hd hf; intro K hK; go_simp; exact hK.out _ _ (Ext.refl _) rfl (FreshIf.no rfl) }) ?_
  refine Rc (mv (Od.lc 1 18)) ?_
  exact RgAll.nil
 intro v W2 e1 hΦ _
 replace S := S.mono e1
 have v2 : v 2 = .int .i64 ((s).size) := hΦ 2 (by decide)
 simp only [layL, Act.put, List.setIfInBounds_toArray, List.set_cons_zero, List.set_cons_succ, Nat.reduceAdd]
 rw [v2]
 clear v2 hΦ e1
 refine wpList_nil ?_
 go_upto_region 4 with (fail)
 refine rgs 1 [some 5] [IsV (.int .i64 0)] [] ?_ ?_
 ·refine Rc (mv Od.con) ?_
  exact RgAll.nil
 intro v W3 e1 hΦ _
 replace S := S.mono e1
 have v0 : v 0 = .int .i64 0 := hΦ 0 (by decide)
 simp only [layL, Act.put, List.setIfInBounds_toArray, List.set_cons_zero, List.set_cons_succ]
 rw [v0]
 clear v0 hΦ e1
 refine wpList_nil ?_
 go_wp2_with fail
 have S0 := hid S; clear S
 go_loopg [4, 5] s.size (fun gk v4 v5 wr => ∃ i aa : Nat, v5 = .int .i64 ((i : Nat) : Int) ∧ v4 = .int .i64 ((aa : Nat) : Int) ∧ i + gk = s.size ∧ ((i ≤ kk ∧ aa = s.size) ∨ (i = kk + 1 ∧ kk < s.size ∧ aa = kk)) ∧ Hid (Sto w wr [((w.heap.size, 1), IsI 0 0), ((w.heap.size, 0), IsI 0 0)]))
 case atStart => exact ⟨0, s.size, rfl, rfl, by omega, .inl ⟨by omega, rfl⟩, S0⟩
 case round =>
  clear S0
  obtain ⟨i, aa, rfl, rfl, hn, hst, S⟩ := hrel
  have S := S.out
  have HKK' := HKK.out
  by_cases hgo : i < s.size ∧ aa = s.size
  ·obtain ⟨hin, rfl⟩ := hgo
   have hik : i ≤ kk := by omega
   by_cases hki : i = kk
   ·skip
    obtain ⟨bb, hbb⟩ : ∃ b, (s[i]'hin).toNat = b := ⟨_, rfl⟩
    have HHIT := hid (show ((bb : Nat) : Int) = 47 by have := HYS.out (hki ▸ hin); subst hki; rw [← hbb, this]; rfl)
    have HBB := hid hbb
    have HLT := hid (show (i : Int) < ((s.size : Nat) : Int) by omega)
    have HIN := hid hin
    have HHN := hid hn; have HKI := hid hki; have HIK := hid hik
    have HADD := hid (show IntKind.i64.wrap ((i : Int) + 1) = (i : Int) + 1 by have := HS.out; simp only [IntKind.wrap_i64]; omega)
    clear hbb hn hki hik HKK'
    go_upto_region 5 with (fail)
    refine rgs 10 [some 19, some 20, some 21, some 22, some 23, some 24, some 25, some 26, some 27, some 28] [IsV (.int .i64 ((i : Nat) : Int)), IsV (.string s), IsV (.int .i64 ((s).size)), IsV (.bool true), IsV (.bool true), IsV (.int .i64 ((s.size : Nat) : Int)), IsV (.string s), IsV (.int .i64 ((s).size)), IsV (.bool true), IsV (.bool true)] [] ?_ ?_
    ·refine Rc (mv (Od.lit 5)) ?_
     refine Rc (mv (Od.lit 0)) ?_
     refine RgAll.cons (by { (with_reducible refine RgL.mk (by rfl) ?_); intro v a w' hE hd hf; have d0 : v 1 = .string s := hd 1 (by kernel_rfl); have ev0 := hf.val 1 20 _ d0 (by kernel_rfl) (by kernel_rfl) (by kernel_rfl); clear d0; clear hd hf; intro K hK; go_simp; exact hK.out _ _ (Ext.refl _) rfl (FreshIf.no rfl) }) ?_
     refine Rc (bn (r := .bool true) (Od.loc 0 19) (Od.loc 2 21) (hr := fun w => by have hx9 := HLT.out; go_simp)) ?_
     refine Rc (mv (Od.lc 3 22)) ?_
     refine RcG 4 23 true (mv (Od.lit 4)) ?_
     refine RcG 4 23 true (mv (Od.lit 0)) ?_
     refine RgAll.cons (by { (with_reducible refine RgL.mkG 4 23 true (by rfl) (by kernel_rfl) (by kernel_rfl) (by kernel_rfl) (by kernel_rfl) (by kernel_rfl) ?_ ?_); (focus (intro _ _ h; exact h)); intro v a w' hE hd hf; have d0 : v 6 = .string s := hd 6 (by kernel_rfl); have ev0 := hf.val 6 25 _ d0 (by kernel_rfl) (by kernel_rfl) (by kernel_rfl); clear d0; clear hd hf; intro K hK; go_simp; exact hK.out _ _ (Ext.refl _) rfl (FreshIf.no rfl) }) ?_
     refine RcG 4 23 true (bn (r := .bool true) (Od.loc 5 24) (Od.loc 7 26) (hr := fun w => by go_simp)) ?_
     refine Rc (pk (Od.loc 4 23) (Od.lc 8 27)) ?_
     exact RgAll.nil
    intro v W4 e1 hΦ _
    replace S := S.mono e1
    have v9 : v 9 = .bool true := hΦ 9 (by decide)
    simp only [layL, Act.put, List.setIfInBounds_toArray, List.set_cons_zero, List.set_cons_succ, Nat.reduceAdd]
    rw [v9]
    clear v9 hΦ e1
    refine wpList_nil ?_
    go_upto_region 7 with (fail)
    refine rgs 4 [some 31, some 32, some 33, some 34] [IsV (.string s), IsV (.int .i64 ((i : Nat) : Int)), IsV (.int .u8 ((bb : Nat) : Int)), IsV (.bool true)] [] ?_ ?_
    ·refine Rc (mv (Od.lit 0)) ?_
     refine Rc (mv (Od.lit 5)) ?_
     refine Rc (ixs (fun w => HBB.out ▸ idS s i HIN.out w) (Od.lc 0 31) (Od.lc 1 32)) ?_
     refine Rc (bn (r := .bool true) (Od.loc 2 33) Od.con (hr := fun w => by have hx9 := HHIT.out; go_simp)) ?_
     exact RgAll.nil
    intro v W5 e1 hΦ _
    replace S := S.mono e1
    have v3 : v 3 = .bool true := hΦ 3 (by decide)
    simp only [layL, Act.put, List.setIfInBounds_toArray, List.set_cons_zero, List.set_cons_succ, Nat.reduceAdd]
    rw [v3]
    clear v3 hΦ e1
    refine wpList_nil ?_
    go_upto_region 8 with (fail)
    refine rgs 2 [some 35, some 4] [IsV (.int .i64 ((i : Nat) : Int)), IsV (.int .i64 ((i : Nat) : Int))] [] ?_ ?_
    ·refine Rc (mv (Od.lit 5)) ?_
     refine Rc (mv (Od.lc 0 35)) ?_
     exact RgAll.nil
    intro v W6 e1 hΦ _
    replace S := S.mono e1
    have v1 : v 1 = .int .i64 ((i : Nat) : Int) := hΦ 1 (by decide)
    simp only [layL, Act.put, List.setIfInBounds_toArray, List.set_cons_zero, List.set_cons_succ, Nat.reduceAdd]
    rw [v1]
    clear v1 hΦ e1
    refine wpList_nil ?_
    have hx9 := HADD.out
    have S' := hid S; clear S
    go_wp2_with fail
    go_roundg (gk - 1)
    case measure => have := HHN.out; have := HIN.out; omega
    case rel => exact ⟨i + 1, i, by rw [Int.natCast_add]; rfl, rfl, by have := HHN.out; have := HIN.out; omega, .inr (by have := HKI.out; have := HIN.out; omega), S'⟩
   ·skip
    obtain ⟨bb, hbb⟩ : ∃ b, (s[i]'hin).toNat = b := ⟨_, rfl⟩
    have HHIT := hid (show (((bb : Nat) : Int) == 47) = false by rw [beq_eq_false_iff_ne, ← hbb]; have := HNS.out i hin (by omega); omega)
    have HBB := hid hbb
    have HLT := hid (show (i : Int) < ((s.size : Nat) : Int) by omega)
    have HIN := hid hin
    have HHN := hid hn; have HKI := hid hki; have HIK := hid hik
    have HADD := hid (show IntKind.i64.wrap ((i : Int) + 1) = (i : Int) + 1 by have := HS.out; simp only [IntKind.wrap_i64]; omega)
    clear hbb hn hki hik HKK'
    go_upto_region 5 with (fail)
    refine rgs 10 [some 19, some 20, some 21, some 22, some 23, some 24, some 25, some 26, some 27, some 28] [IsV (.int .i64 ((i : Nat) : Int)), IsV (.string s), IsV (.int .i64 ((s).size)), IsV (.bool true), IsV (.bool true), IsV (.int .i64 ((s.size : Nat) : Int)), IsV (.string s), IsV (.int .i64 ((s).size)), IsV (.bool true), IsV (.bool true)] [] ?_ ?_
    ·refine Rc (mv (Od.lit 5)) ?_
     refine Rc (mv (Od.lit 0)) ?_
     refine RgAll.cons (by { (with_reducible refine RgL.mk (by rfl) ?_); intro v a w' hE hd hf; have d0 : v 1 = .string s := hd 1 (by kernel_rfl); have ev0 := hf.val 1 20 _ d0 (by kernel_rfl) (by kernel_rfl) (by kernel_rfl); clear d0; clear hd hf; intro K hK; go_simp; exact hK.out _ _ (Ext.refl _) rfl (FreshIf.no rfl) }) ?_
     refine Rc (bn (r := .bool true) (Od.loc 0 19) (Od.loc 2 21) (hr := fun w => by have hx9 := HLT.out; go_simp)) ?_
     refine Rc (mv (Od.lc 3 22)) ?_
     refine RcG 4 23 true (mv (Od.lit 4)) ?_
     refine RcG 4 23 true (mv (Od.lit 0)) ?_
     refine RgAll.cons (by { (with_reducible refine RgL.mkG 4 23 true (by rfl) (by kernel_rfl) (by kernel_rfl) (by kernel_rfl) (by kernel_rfl) (by kernel_rfl) ?_ ?_); (focus (intro _ _ h; exact h)); intro v a w' hE hd hf; have d0 : v 6 = .string s := hd 6 (by kernel_rfl); have ev0 := hf.val 6 25 _ d0 (by kernel_rfl) (by kernel_rfl) (by kernel_rfl); clear d0; clear hd hf; intro K hK; go_simp; exact hK.out _ _ (Ext.refl _) rfl (FreshIf.no rfl) }) ?_
     refine RcG 4 23 true (bn (r := .bool true) (Od.loc 5 24) (Od.loc 7 26) (hr := fun w => by go_simp)) ?_
     refine Rc (pk (Od.loc 4 23) (Od.lc 8 27)) ?_
     exact RgAll.nil
    intro v W7 e1 hΦ _
    replace S := S.mono e1
    have v9 : v 9 = .bool true := hΦ 9 (by decide)
    simp only [layL, Act.put, List.setIfInBounds_toArray, List.set_cons_zero, List.set_cons_succ, Nat.reduceAdd]
    rw [v9]
    clear v9 hΦ e1
    refine wpList_nil ?_
    go_upto_region 7 with (fail)
    refine rgs 4 [some 31, some 32, some 33, some 34] [IsV (.string s), IsV (.int .i64 ((i : Nat) : Int)), IsV (.int .u8 ((bb : Nat) : Int)), IsV (.bool false)] [] ?_ ?_
    ·refine Rc (mv (Od.lit 0)) ?_
     refine Rc (mv (Od.lit 5)) ?_
     refine Rc (ixs (fun w => HBB.out ▸ idS s i HIN.out w) (Od.lc 0 31) (Od.lc 1 32)) ?_
     refine Rc (bn (r := .bool false) (Od.loc 2 33) Od.con (hr := fun w => by have hx9 := HHIT.out; go_simp)) ?_
     exact RgAll.nil
    intro v W8 e1 hΦ _
    replace S := S.mono e1
    have v3 : v 3 = .bool false := hΦ 3 (by decide)
    simp only [layL, Act.put, List.setIfInBounds_toArray, List.set_cons_zero, List.set_cons_succ, Nat.reduceAdd]
    rw [v3]
    clear v3 hΦ e1
    refine wpList_nil ?_
    have hx9 := HADD.out
    have S' := hid S; clear S
    go_wp2_with fail
    go_roundg (gk - 1)
    case measure => have := HHN.out; have := HIN.out; omega
    case rel => exact ⟨i + 1, s.size, by rw [Int.natCast_add]; rfl, rfl, by have := HHN.out; have := HIN.out; omega, .inl (by have := HKI.out; have := HIK.out; omega), S'⟩
  ·skip
   obtain rfl : aa = kk := by omega
   obtain ⟨bi, hbi⟩ : ∃ b, decide ((i : Int) < (s.size : Int)) = b := ⟨_, rfl⟩
   obtain ⟨ba, hba⟩ : ∃ b, (((aa : Nat) : Int) == ((s.size : Nat) : Int)) = b := ⟨_, rfl⟩
   have HBI := hid (show decide ((i : Int) < (s.size : Int)) = bi ∧ decide (i < s.size) = bi from ⟨hbi, by rw [← hbi]; exact decide_eq_decide.2 (by omega)⟩)
   have HBA := hid (show (((aa : Nat) : Int) == ((s.size : Nat) : Int)) = ba ∧ (aa == s.size) = ba from ⟨hba, by rw [← hba, Bool.eq_iff_iff, beq_iff_eq, beq_iff_eq]; omega⟩)
   have HBB := hid (show (bi && ba) = false by
    rw [← hbi, ← hba, Bool.eq_false_iff]; intro k; simp only [Bool.and_eq_true, decide_eq_true_eq, beq_iff_eq] at k; exact hgo ⟨by omega, by omega⟩)
   clear hn hst hgo HKK' hbi hba
   go_upto_region 5 with (fail)
   refine rgs 10 [some 19, some 20, some 21, some 22, some 23, some 24, some 25, some 26, some 27, some 28] [IsV (.int .i64 ((i : Nat) : Int)), IsV (.string s), IsV (.int .i64 ((s).size)), IsV (.bool bi), IsV (.bool bi), IsIf (bi) (IsV (.int .i64 ((aa : Nat) : Int))), IsIf (bi) (IsV (.string s)), IsIf (bi) (IsV (.int .i64 ((s.size : Nat) : Int))), IsIf (bi) (IsV (.bool ba)), IsV (.bool false)] [] ?_ ?_ (hst := by repeat' (first | exact trivial | apply IsIf.stb | exact IsV.stb _ | exact IsI.stb _ _ | apply IsJ.stb | apply IsQ.stb | apply And.intro))
   ·refine Rc (mv (Od.lit 5)) ?_
    refine Rc (mv (Od.lit 0)) ?_
    refine RgAll.cons (by { (with_reducible refine RgL.mk (by rfl) ?_); intro v a w' hE hd hf; have d0 : v 1 = .string s := hd 1 (by kernel_rfl); have ev0 := hf.val 1 20 _ d0 (by kernel_rfl) (by kernel_rfl) (by kernel_rfl); clear d0; clear hd hf; intro K hK; go_simp; exact hK.out _ _ (Ext.refl _) rfl (FreshIf.no rfl) }) ?_
    refine Rc (bn (r := .bool bi) (Od.loc 0 19) (Od.loc 2 21) (hr := fun w => by have hx9 := HBI.out.1; have hx8 := HBI.out.2; go_simp)) ?_
    refine Rc (mv (Od.lc 3 22)) ?_
    refine RcB 4 23 bi true (fun hb => by subst hb; exact mv (Od.lit 4)) ?_
    refine RcB 4 23 bi true (fun hb => by subst hb; exact mv (Od.lit 0)) ?_
    refine RcB 4 23 bi true (fun hb => by subst hb; exact lenS (Od.lc (Φ := IsV (.string s)) 6 25)) ?_
    refine RcB 4 23 bi true (fun hb => by subst hb; exact bn (r := .bool ba) (Od.loc 5 24) (Od.loc 7 26) (hr := fun w => by have hx9 := HBA.out.1; have hx8 := HBA.out.2; go_simp)) ?_
    refine Rc (pkA (b2 := ba) (Od.loc 4 23) (fun hb => by subst hb; exact Od.lc 8 27) (HBB.out)) ?_
    exact RgAll.nil
   intro v W9 e1 hΦ _
   replace S := S.mono e1
   have v9 : v 9 = .bool false := hΦ 9 (by decide)
   simp only [layL, Act.put, List.setIfInBounds_toArray, List.set_cons_zero, List.set_cons_succ, Nat.reduceAdd]
   rw [v9]
   clear v9 hΦ e1
   refine wpList_nil ?_
   go_upto_region 9 with (fail)
   have hl := hid S.lt; have hw := S.ext.size
   refine rgs 8 [some 37, some 38, some 39, some 40, some 36, some 41, some 42, some 6] [IsV (.string s), IsV (.int .i64 ((aa : Nat) : Int)), IsV (.string ta), IsT2 (IsI 136 z1) (IsV (.int .i64 0)), IsT2 (IsI 136 z1) (IsV (.int .i64 0)), IsI 136 z1, IsV (.int .i64 0), IsBo W9 1] [7] ?_ ?_
   ·refine Rc (mv (Od.lit 0)) ?_
    refine Rc (mv (Od.lit 4)) ?_
    refine Rc (slH (fun w => HTA.out ▸ slS1 s aa HKK.out w) (Od.lc 0 37) (Od.lc 1 38)) ?_
    refine Rc (cl1 (en Tryz.func74) (Od.lc (Φ := IsV (.string ta)) 2 39) (fun x0 w' hE d0 => by { obtain rfl : x0 = .string ta := d0; exact (by have hh := RParse_f w' ta; rw [H1.out.1, H1.out.2] at hh; exact hh) })) ?_
    refine Rc (mv (Od.lc 3 40)) ?_
    refine Rc (ex (Od.loc 4 36) t20) ?_
    refine Rc (ex (Od.loc 4 36) t21) ?_
    refine Rc (al al_Int) ?_
    exact RgAll.nil
   intro v W10 e1 hΦ _
   replace S := S.mono e1
   have h41 := hΦ 5 (by decide)
   have v6 : v 6 = .int .i64 0 := hΦ 6 (by decide)
   obtain ⟨g6, v7, q2, b1, _⟩ := (hΦ 7 (by decide) : IsBo W9 1 (v 7) W10)
   replace S := S.addN 1 (ApartO.old hl.out q2) (Nat.le_trans hw q2) b1
   simp only [newF, List.cons_append, List.nil_append] at S
   simp only [layL, Act.put, List.setIfInBounds_toArray, List.set_cons_zero, List.set_cons_succ, Nat.reduceAdd]
   rw [v6, v7]
   clear b1 hl hw v6 v7 hΦ e1
   try simp only [List.drop_succ_cons, List.drop_zero]
   (with_reducible refine stL ?_ (by rfl)); intro KK hKK; refine stI S 0 (g6) 0 h41 st_Int (fun W11 S2 G2 => hKK _ _ ?_) rfl
   replace S := S2; clear S2 G2 hKK KK h41
   simp only [List.set_cons_zero] at S
   refine wpList_step fun K hK => ?_; go_simp; refine hK _ _ ?_; clear hK K
   refine wpList_nil ?_
   go_upto_region 10 with (fail)
   have hl := hid S.lt; have hw := S.ext.size
   refine rgs 2 [some 43, some 8] [IsI 2 1, IsBo W11 1] [1] ?_ ?_
   ·refine Rc (cl1 (en Tryz.func24) Od.con (fun x0 w' hE d0 => by { obtain rfl : x0 = .int .i64 1 := d0; exact ROf_f _ 1 (by decide) (by decide) })) ?_
    refine Rc (al al_Int) ?_
    exact RgAll.nil
   intro v W12 e1 hΦ _
   replace S := S.mono e1
   have h43 := hΦ 0 (by decide)
   obtain ⟨g8, v1, q4, b3, _⟩ := (hΦ 1 (by decide) : IsBo W11 1 (v 1) W12)
   replace S := S.addN 1 (ApartO.old hl.out q4) (Nat.le_trans hw q4) b3
   simp only [newF, List.cons_append, List.nil_append] at S
   simp only [layL, Act.put, List.setIfInBounds_toArray, List.set_cons_zero, List.set_cons_succ, Nat.reduceAdd]
   rw [v1]
   clear b3 hl hw v1 hΦ e1
   try simp only [List.drop_succ_cons, List.drop_zero]
   (with_reducible refine stL ?_ (by rfl)); intro KK hKK; refine stI S 0 (g8) 0 h43 st_Int (fun W13 S2 G2 => hKK _ _ ?_) rfl
   replace S := S2; clear S2 G2 hKK KK h43
   simp only [List.set_cons_zero] at S
   refine wpList_step fun K hK => ?_; go_simp; refine hK _ _ ?_; clear hK K
   refine wpList_nil ?_
   go_upto_region 11 with (fail)
   refine rgs 4 [some 44, some 45, some 46, some 47] [IsV (.int .i64 ((aa : Nat) : Int)), IsV (.string s), IsV (.int .i64 ((s).size)), IsV (.bool false)] [] ?_ ?_
   ·refine Rc (mv (Od.lit 4)) ?_
    refine Rc (mv (Od.lit 0)) ?_
    refine RgAll.cons (by { (with_reducible refine RgL.mk (by rfl) ?_); intro v a w' hE hd hf; have d0 : v 1 = .string s := hd 1 (by kernel_rfl); have ev0 := hf.val 1 45 _ d0 (by kernel_rfl) (by kernel_rfl) (by kernel_rfl); clear d0; clear hd hf; intro K hK; go_simp; exact hK.out _ _ (Ext.refl _) rfl (FreshIf.no rfl) }) ?_
    refine Rc (bn (r := .bool false) (Od.loc 0 44) (Od.loc 2 46) (hr := fun w => by have hx9 := HSL.out; have hx8 : s.size ≤ aa := (by have := of_decide_eq_false HSL.out; omega); go_simp)) ?_
    exact RgAll.nil
   intro v W14 e1 hΦ _
   replace S := S.mono e1
   have v3 : v 3 = .bool false := hΦ 3 (by decide)
   simp only [layL, Act.put, List.setIfInBounds_toArray, List.set_cons_zero, List.set_cons_succ, Nat.reduceAdd]
   rw [v3]
   clear v3 hΦ e1
   refine wpList_nil ?_
   go_upto_region 13 with (fail)
   refine rgs 6 [some 56, some 57, some 58, some 59, some 60, some 61] [IsV (.int .i64 0), IsV (.bool false), IsV (.bool false), IsV (.int .i64 0), IsV (.bool false), IsV (.bool false)] [] ?_ ?_
   ·refine Rc (mv (Od.lit 7)) ?_
    refine Rc (bn (r := .bool false) (Od.loc 0 56) Od.con (hr := fun w => by go_simp)) ?_
    refine Rc (mv (Od.lc 1 57)) ?_
    refine RcG 2 58 false (mv (Od.lit 9)) ?_
    refine RcG 2 58 false (bn (r := .bool false) (Od.loc 3 59) Od.con (hr := fun w => by go_simp)) ?_
    refine Rc (pk (Od.loc 2 58) (Od.lc 4 60)) ?_
    exact RgAll.nil
   intro v W15 e1 hΦ _
   replace S := S.mono e1
   have v5 : v 5 = .bool false := hΦ 5 (by decide)
   simp only [layL, Act.put, List.setIfInBounds_toArray, List.set_cons_zero, List.set_cons_succ, Nat.reduceAdd]
   rw [v5]
   clear v5 hΦ e1
   refine wpList_nil ?_
   go_upto_region 15 with (fail)
   have hl := hid S.lt; have hw := S.ext.size
   refine rgs 4 [some 63, some 64, some 65, some 10] [IsI 136 z1, IsI 2 1, IsQ (IsI 136 z1) (IsI 2 1), IsBo W15 2] [3] ?_ ?_
   ·refine Rc (ldI S 1 (g6) 0 (Od.lit 6) ld_Int) ?_
    refine Rc (ldI S 0 (g8) 0 (Od.lit 8) ld_Int) ?_
    refine Rc (bq (Od.loc 0 63) (Od.loc 1 64) bd_Rat) ?_
    refine Rc (al al_Rat) ?_
    exact RgAll.nil
   intro v W16 e1 hΦ _
   replace S := S.mono e1
   have h65 := hΦ 2 (by decide)
   obtain ⟨g10, v3, q6, b5, _⟩ := (hΦ 3 (by decide) : IsBo W15 2 (v 3) W16)
   replace S := S.addN 2 (ApartO.old hl.out q6) (Nat.le_trans hw q6) b5
   simp only [newF, List.cons_append, List.nil_append] at S
   simp only [layL, Act.put, List.setIfInBounds_toArray, List.set_cons_zero, List.set_cons_succ, Nat.reduceAdd]
   rw [v3]
   clear b5 hl hw v3 hΦ e1
   try simp only [List.drop_succ_cons, List.drop_zero]
   (with_reducible refine stL ?_ (by rfl)); intro KK hKK; refine stQ S 1 0 (g10) 0 h65 (IsI.gstb _ _) (IsI.gstb _ _) st_Rat (fun W17 S2 G2 => hKK _ _ ?_) rfl rfl
   replace S := S2; clear S2 G2 hKK KK h65
   simp only [List.set_cons_zero, List.set_cons_succ] at S
   refine wpList_nil ?_
   go_upto_region 16 with (fail)
   refine rgs 7 [some 67, some 68, some 66, some 69, some 70, some 11, some 12] [IsQ (IsI 136 z1) (IsI 2 1), IsT2 (IsV (.string s)) (IsV (.int .i64 0)), IsT2 (IsV (.string s)) (IsV (.int .i64 0)), IsV (.string s), IsV (.int .i64 0), IsV (.string s), IsV (.int .i64 0)] [] ?_ ?_
   ·refine Rc (ldQ S 1 0 (g10) 0 (Od.lit 10) ld_Rat rfl rfl) ?_
    refine Rc (cl1 (en Tryz.func15) (Od.lc (Φ := IsQ (IsI 136 z1) (IsI 2 1)) 0 67) (fun x0 w' hE d0 => rqText_u (d0.up (by decide) (by decide)) (k := 136) (by decide) _ _ _ HX1.out HX2.out HX3.out HX4.out)) ?_
    refine Rc (mv (Od.lc 1 68)) ?_
    refine Rc (ex (Od.loc 2 66) t20) ?_
    refine Rc (ex (Od.loc 2 66) t21) ?_
    refine Rc (mv (Od.lc 3 69)) ?_
    refine Rc (mv (Od.lc 4 70)) ?_
    exact RgAll.nil
   intro v W18 e1 hΦ _
   replace S := S.mono e1
   have v5 : v 5 = .string s := hΦ 5 (by decide)
   have v6 : v 6 = .int .i64 0 := hΦ 6 (by decide)
   simp only [layL, Act.put, List.setIfInBounds_toArray, List.set_cons_zero, List.set_cons_succ, Nat.reduceAdd]
   rw [v5, v6]
   clear v5 v6 hΦ e1
   refine wpList_nil ?_
   go_upto_region 17 with (fail)
   refine rgs 12 [some 71, some 72, some 73, some 74, some 75, some 76, some 77, some 78, some 79, some 80, some 81, some 82] [IsQ (IsI 136 z1) (IsI 2 1), IsV (.bool true), IsV (.bool false), IsV (.bool false), IsV (.int .i64 0), IsV (.bool false), IsV (.bool false), IsV (.bool false), IsV (.string s), IsV (.string s), IsV (.bool false), IsV (.bool false)] [] ?_ ?_
   ·refine Rc (ldQ S 1 0 (g10) 0 (Od.lit 10) ld_Rat rfl rfl) ?_
    refine Rc (cl1 (en Tryz.func40) (Od.lc (Φ := IsQ (IsI 136 z1) (IsI 2 1)) 0 71) (fun x0 w' hE d0 => (by have hh := rqValid_f (d0.up (k := 136) (K := 136) (by decide) (by decide)) (by decide); rw [HV.out] at hh; exact hh))) ?_
    refine Rc (nt (Od.loc 1 72)) ?_
    refine Rc (mv (Od.lc 2 73)) ?_
    refine RcG 3 74 false (mv (Od.lit 12)) ?_
    refine RcG 3 74 false (bn (r := .bool false) (Od.loc 4 75) Od.con (hr := fun w => by go_simp)) ?_
    refine Rc (pk (Od.loc 3 74) (Od.lc 5 76)) ?_
    refine Rc (mv (Od.lc 6 77)) ?_
    refine RcG 7 78 false (mv (Od.lit 11)) ?_
    refine RcG 7 78 false (mv (Od.lit 0)) ?_
    refine RcG 7 78 false (bn (r := .bool false) (Od.loc 8 79) (Od.loc 9 80) (hr := fun w => by go_simp)) ?_
    refine Rc (pk (Od.loc 7 78) (Od.lc 10 81)) ?_
    exact RgAll.nil
   intro v W19 e1 hΦ _
   replace S := S.mono e1
   have v11 : v 11 = .bool false := hΦ 11 (by decide)
   simp only [layL, Act.put, List.setIfInBounds_toArray, List.set_cons_zero, List.set_cons_succ, Nat.reduceAdd]
   rw [v11]
   clear v11 hΦ e1
   refine wpList_nil ?_
   go_upto_region 19 with (fail)
   refine rgs 1 [some 84] [IsQ (IsI 136 z1) (IsI 2 1)] [] ?_ ?_
   ·refine Rc (ldQ S 1 0 (g10) 0 (Od.lit 10) ld_Rat rfl rfl) ?_
    exact RgAll.nil
   intro v W20 e1 hΦ _
   replace S := S.mono e1
   have h84 := hΦ 0 (by decide)
   simp only [layL, Act.put, List.setIfInBounds_toArray, List.set_cons_zero, List.set_cons_succ]
   clear hΦ e1
   try simp only [List.drop_succ_cons, List.drop_zero]
   (with_reducible refine stL ?_ (by rfl)); intro KK hKK; refine stQ S 5 4 (w.heap.size) 0 h84 (IsI.gstb _ _) (IsI.gstb _ _) st_Rat (fun W21 S2 G2 => hKK _ _ ?_) rfl rfl
   replace S := S2; clear S2 G2 hKK KK h84
   simp only [List.set_cons_zero, List.set_cons_succ] at S
   refine wpList_step fun K hK => ?_; go_simp; refine hK _ _ ?_; clear hK K
   refine wpList_nil ?_
   go_wp2_with fail
   obtain ⟨s90x, a90x, n90x, c90x, b90x, h90x⟩ := S.at 5 (w.heap.size) 0 (IsI 136 z1) rfl; have L90xa : World.cell? W21 ⟨w.heap.size, 0, none⟩ = some (.bool s90x) := b90x.c0; have L90xb : World.cell? W21 ⟨w.heap.size, 1, none⟩ = some (.slice a90x n90x c90x) := b90x.c1
   obtain ⟨s90y, a90y, n90y, c90y, b90y, h90y⟩ := S.at 4 (w.heap.size) 1 (IsI 2 1) rfl; have L90ya : World.cell? W21 ⟨w.heap.size, 2, none⟩ = some (.bool s90y) := b90y.c0; have L90yb : World.cell? W21 ⟨w.heap.size, 3, none⟩ = some (.slice a90y n90y c90y) := b90y.c1
   exact bodyPost_ret (v := .tuple #[.agg #[.bool s90x, .slice a90x n90x c90x, .bool s90y, .slice a90y n90y c90y], .int .i64 0]) (by simp [results, Tryz.results17, go_sem, L90xa, L90xb, L90ya, L90yb]) rfl (⟨_, rfl, S.ext, ⟨_, _, rfl, ⟨_, _, _, _, _, _, _, _, rfl, h90x, h90y⟩, rfl⟩⟩)

set_option maxRecDepth 100000 in
set_option maxHeartbeats 4000000 in
theorem rqParse_Tb (w : World) (s : ByteArray) (kk : Nat) (HS : Hid (s.size ≤ 2601)) (HSB : Hid (decide ((2601 : Int) < (s.size : Int)) = false)) (HKK : Hid (kk ≤ s.size)) (HNS : Hid (∀ (j : Nat) (h : j < s.size), j < kk → s[j].toNat ≠ 47)) (HYS : Hid (∀ h : kk < s.size, s[kk].toNat = 47)) (ta : ByteArray) (HTA : Hid (s.extract 0 kk = ta)) (z1 z2 ec ed : Int) (be bf : Bool) (H1 : Hid (parseZ ta.data.toList = z1 ∧ parseE ta.data.toList = ec)) (HSL : Hid (decide ((kk : Int) < (s.size : Int)) = true)) (tb : ByteArray) (HTB : Hid (kk + 1 ≤ s.size ∧ s.extract (kk + 1) s.size = tb)) (HAD : Hid (IntKind.i64.wrap ((kk : Int) + 1) = ((kk + 1 : Nat) : Int))) (H2 : Hid (parseZ tb.data.toList = z2 ∧ parseE tb.data.toList = ed)) (HBE : Hid ((ec != 0) = be)) (HBF : Hid ((ed != 0) = bf)) (HOR : Hid ((be || bf) = true)) :
  Calls Tryz.prog 17 #[.string s] w (Ret w (IsT2 (IsQ (IsI 0 0) (IsI 0 0)) (IsV (.int .i64 3)))) := by
 obtain ⟨W, hW, S⟩ : ∃ W, W = w.alloc (.cells #[.bool false, .slice none 0 0, .bool false, .slice none 0 0] 31) ∧ Sto w W [((w.heap.size, 1), IsI 0 0), ((w.heap.size, 0), IsI 0 0)] := ⟨_, rfl, ((Sto.start w).new2 (w.heap.size) (by simp) false false none none 0 0 0 0 31 (IsI 0 0) (IsI 0 0) (IsI.gstb _ _) (IsI.nil _ _) (IsI.gstb _ _) (IsI.nil _ _))⟩
 go_enter Tryz.func17, Tryz.ntmps17
 go_upto_region 1 with (fail)
 rw [← hW]
 clear hW
 refine rgs 3 [some 13, some 14, some 15] [IsV (.string s), IsV (.int .i64 ((s).size)), IsV (.bool false)] [] ?_ ?_
 ·refine Rc (mv (Od.lit 0)) ?_
  refine RgAll.cons (by { (with_reducible refine RgL.mk (by rfl) ?_); intro v a w' hE hd hf; have d0 : v 0 = .string s := hd 0 (by kernel_rfl); have ev0 := hf.val 0 13 _ d0 (by kernel_rfl) (by kernel_rfl) (by kernel_rfl); clear d0; clear hd hf; intro K hK; go_simp; exact hK.out _ _ (Ext.refl _) rfl (FreshIf.no rfl) }) ?_
  refine Rc (bn (r := .bool false) (Od.loc 1 14) Od.con (hr := fun w => by have hs9 := HSB.out; go_simp)) ?_
  exact RgAll.nil
 intro v W1 e1 hΦ _
 replace S := S.mono e1
 have v2 : v 2 = .bool false := hΦ 2 (by decide)
 simp only [layL, Act.put, List.setIfInBounds_toArray, List.set_cons_zero, List.set_cons_succ, Nat.reduceAdd]
 rw [v2]
 clear v2 hΦ e1
 refine wpList_nil ?_
 go_upto_region 3 with (fail)
 refine rgs 3 [some 17, some 18, some 4] [IsV (.string s), IsV (.int .i64 ((s).size)), IsV (.int .i64 ((s).size))] [] ?_ ?_
 ·refine Rc (mv (Od.lit 0)) ?_
  refine RgAll.cons (by { (with_reducible refine RgL.mk (by rfl) ?_); intro v a w' hE hd hf; have d0 : v 0 = .string s := hd 0 (by kernel_rfl); have ev0 := hf.val 0 17 _ d0 (by kernel_rfl) (by kernel_rfl) (by kernel_rfl); clear d0; clear hd hf; intro K hK; go_simp; exact hK.out _ _ (Ext.refl _) rfl (FreshIf.no rfl) }) ?_
  refine Rc (mv (Od.lc 1 18)) ?_
  exact RgAll.nil
 intro v W2 e1 hΦ _
 replace S := S.mono e1
 have v2 : v 2 = .int .i64 ((s).size) := hΦ 2 (by decide)
 simp only [layL, Act.put, List.setIfInBounds_toArray, List.set_cons_zero, List.set_cons_succ, Nat.reduceAdd]
 rw [v2]
 clear v2 hΦ e1
 refine wpList_nil ?_
 go_upto_region 4 with (fail)
 refine rgs 1 [some 5] [IsV (.int .i64 0)] [] ?_ ?_
 ·refine Rc (mv Od.con) ?_
  exact RgAll.nil
 intro v W3 e1 hΦ _
 replace S := S.mono e1
 have v0 : v 0 = .int .i64 0 := hΦ 0 (by decide)
 simp only [layL, Act.put, List.setIfInBounds_toArray, List.set_cons_zero, List.set_cons_succ]
 rw [v0]
 clear v0 hΦ e1
 refine wpList_nil ?_
 go_wp2_with fail
 have S0 := hid S; clear S
 go_loopg [4, 5] s.size (fun gk v4 v5 wr => ∃ i aa : Nat, v5 = .int .i64 ((i : Nat) : Int) ∧ v4 = .int .i64 ((aa : Nat) : Int) ∧ i + gk = s.size ∧ ((i ≤ kk ∧ aa = s.size) ∨ (i = kk + 1 ∧ kk < s.size ∧ aa = kk)) ∧ Hid (Sto w wr [((w.heap.size, 1), IsI 0 0), ((w.heap.size, 0), IsI 0 0)]))
 case atStart => exact ⟨0, s.size, rfl, rfl, by omega, .inl ⟨by omega, rfl⟩, S0⟩
 case round =>
  clear S0
  obtain ⟨i, aa, rfl, rfl, hn, hst, S⟩ := hrel
  have S := S.out
  have HKK' := HKK.out
  by_cases hgo : i < s.size ∧ aa = s.size
  ·obtain ⟨hin, rfl⟩ := hgo
   have hik : i ≤ kk := by omega
   by_cases hki : i = kk
   ·skip
    obtain ⟨bb, hbb⟩ : ∃ b, (s[i]'hin).toNat = b := ⟨_, rfl⟩
    have HHIT := hid (show ((bb : Nat) : Int) = 47 by have := HYS.out (hki ▸ hin); subst hki; rw [← hbb, this]; rfl)
    have HBB := hid hbb
    have HLT := hid (show (i : Int) < ((s.size : Nat) : Int) by omega)
    have HIN := hid hin
    have HHN := hid hn; have HKI := hid hki; have HIK := hid hik
    have HADD := hid (show IntKind.i64.wrap ((i : Int) + 1) = (i : Int) + 1 by have := HS.out; simp only [IntKind.wrap_i64]; omega)
    clear hbb hn hki hik HKK'
    go_upto_region 5 with (fail)
    refine rgs 10 [some 19, some 20, some 21, some 22, some 23, some 24, some 25, some 26, some 27, some 28] [IsV (.int .i64 ((i : Nat) : Int)), IsV (.string s), IsV (.int .i64 ((s).size)), IsV (.bool true), IsV (.bool true), IsV (.int .i64 ((s.size : Nat) : Int)), IsV (.string s), IsV (.int .i64 ((s).size)), IsV (.bool true), IsV (.bool true)] [] ?_ ?_
    ·refine Rc (mv (Od.lit 5)) ?_
     refine Rc (mv (Od.lit 0)) ?_
     refine RgAll.cons (by { (with_reducible refine RgL.mk (by rfl) ?_); intro v a w' hE hd hf; have d0 : v 1 = .string s := hd 1 (by kernel_rfl); have ev0 := hf.val 1 20 _ d0 (by kernel_rfl) (by kernel_rfl) (by kernel_rfl); clear d0; clear hd hf; intro K hK; go_simp; exact hK.out _ _ (Ext.refl _) rfl (FreshIf.no rfl) }) ?_
     refine Rc (bn (r := .bool true) (Od.loc 0 19) (Od.loc 2 21) (hr := fun w => by have hx9 := HLT.out; go_simp)) ?_
     refine Rc (mv (Od.lc 3 22)) ?_
     refine RcG 4 23 true (mv (Od.lit 4)) ?_
     refine RcG 4 23 true (mv (Od.lit 0)) ?_
     refine RgAll.cons (by { (with_reducible refine RgL.mkG 4 23 true (by rfl) (by kernel_rfl) (by kernel_rfl) (by kernel_rfl) (by kernel_rfl) (by kernel_rfl) ?_ ?_); (focus (intro _ _ h; exact h)); intro v a w' hE hd hf; have d0 : v 6 = .string s := hd 6 (by kernel_rfl); have ev0 := hf.val 6 25 _ d0 (by kernel_rfl) (by kernel_rfl) (by kernel_rfl); clear d0; clear hd hf; intro K hK; go_simp; exact hK.out _ _ (Ext.refl _) rfl (FreshIf.no rfl) }) ?_
     refine RcG 4 23 true (bn (r := .bool true) (Od.loc 5 24) (Od.loc 7 26) (hr := fun w => by go_simp)) ?_
     refine Rc (pk (Od.loc 4 23) (Od.lc 8 27)) ?_
     exact RgAll.nil
    intro v W4 e1 hΦ _
    replace S := S.mono e1
    have v9 : v 9 = .bool true := hΦ 9 (by decide)
    simp only [layL, Act.put, List.setIfInBounds_toArray, List.set_cons_zero, List.set_cons_succ, Nat.reduceAdd]
    rw [v9]
    clear v9 hΦ e1
    refine wpList_nil ?_
    go_upto_region 7 with (fail)
    refine rgs 4 [some 31, some 32, some 33, some 34] [IsV (.string s), IsV (.int .i64 ((i : Nat) : Int)), IsV (.int .u8 ((bb : Nat) : Int)), IsV (.bool true)] [] ?_ ?_
    ·refine Rc (mv (Od.lit 0)) ?_
     refine Rc (mv (Od.lit 5)) ?_
     refine Rc (ixs (fun w => HBB.out ▸ idS s i HIN.out w) (Od.lc 0 31) (Od.lc 1 32)) ?_
     refine Rc (bn (r := .bool true) (Od.loc 2 33) Od.con (hr := fun w => by have hx9 := HHIT.out; go_simp)) ?_
     exact RgAll.nil
    intro v W5 e1 hΦ _
    replace S := S.mono e1
    have v3 : v 3 = .bool true := hΦ 3 (by decide)
    simp only [layL, Act.put, List.setIfInBounds_toArray, List.set_cons_zero, List.set_cons_succ, Nat.reduceAdd]
    rw [v3]
    clear v3 hΦ e1
    refine wpList_nil ?_
    go_upto_region 8 with (fail)
    refine rgs 2 [some 35, some 4] [IsV (.int .i64 ((i : Nat) : Int)), IsV (.int .i64 ((i : Nat) : Int))] [] ?_ ?_
    ·refine Rc (mv (Od.lit 5)) ?_
     refine Rc (mv (Od.lc 0 35)) ?_
     exact RgAll.nil
    intro v W6 e1 hΦ _
    replace S := S.mono e1
    have v1 : v 1 = .int .i64 ((i : Nat) : Int) := hΦ 1 (by decide)
    simp only [layL, Act.put, List.setIfInBounds_toArray, List.set_cons_zero, List.set_cons_succ, Nat.reduceAdd]
    rw [v1]
    clear v1 hΦ e1
    refine wpList_nil ?_
    have hx9 := HADD.out
    have S' := hid S; clear S
    go_wp2_with fail
    go_roundg (gk - 1)
    case measure => have := HHN.out; have := HIN.out; omega
    case rel => exact ⟨i + 1, i, by rw [Int.natCast_add]; rfl, rfl, by have := HHN.out; have := HIN.out; omega, .inr (by have := HKI.out; have := HIN.out; omega), S'⟩
   ·skip
    obtain ⟨bb, hbb⟩ : ∃ b, (s[i]'hin).toNat = b := ⟨_, rfl⟩
    have HHIT := hid (show (((bb : Nat) : Int) == 47) = false by rw [beq_eq_false_iff_ne, ← hbb]; have := HNS.out i hin (by omega); omega)
    have HBB := hid hbb
    have HLT := hid (show (i : Int) < ((s.size : Nat) : Int) by omega)
    have HIN := hid hin
    have HHN := hid hn; have HKI := hid hki; have HIK := hid hik
    have HADD := hid (show IntKind.i64.wrap ((i : Int) + 1) = (i : Int) + 1 by have := HS.out; simp only [IntKind.wrap_i64]; omega)
    clear hbb hn hki hik HKK'
    go_upto_region 5 with (fail)
    refine rgs 10 [some 19, some 20, some 21, some 22, some 23, some 24, some 25, some 26, some 27, some 28] [IsV (.int .i64 ((i : Nat) : Int)), IsV (.string s), IsV (.int .i64 ((s).size)), IsV (.bool true), IsV (.bool true), IsV (.int .i64 ((s.size : Nat) : Int)), IsV (.string s), IsV (.int .i64 ((s).size)), IsV (.bool true), IsV (.bool true)] [] ?_ ?_
    ·refine Rc (mv (Od.lit 5)) ?_
     refine Rc (mv (Od.lit 0)) ?_
     refine RgAll.cons (by { (with_reducible refine RgL.mk (by rfl) ?_); intro v a w' hE hd hf; have d0 : v 1 = .string s := hd 1 (by kernel_rfl); have ev0 := hf.val 1 20 _ d0 (by kernel_rfl) (by kernel_rfl) (by kernel_rfl); clear d0; clear hd hf; intro K hK; go_simp; exact hK.out _ _ (Ext.refl _) rfl (FreshIf.no rfl) }) ?_
     refine Rc (bn (r := .bool true) (Od.loc 0 19) (Od.loc 2 21) (hr := fun w => by have hx9 := HLT.out; go_simp)) ?_
     refine Rc (mv (Od.lc 3 22)) ?_
     refine RcG 4 23 true (mv (Od.lit 4)) ?_
     refine RcG 4 23 true (mv (Od.lit 0)) ?_
     refine RgAll.cons (by { (with_reducible refine RgL.mkG 4 23 true (by rfl) (by kernel_rfl) (by kernel_rfl) (by kernel_rfl) (by kernel_rfl) (by kernel_rfl) ?_ ?_); (focus (intro _ _ h; exact h)); intro v a w' hE hd hf; have d0 : v 6 = .string s := hd 6 (by kernel_rfl); have ev0 := hf.val 6 25 _ d0 (by kernel_rfl) (by kernel_rfl) (by kernel_rfl); clear d0; clear hd hf; intro K hK; go_simp; exact hK.out _ _ (Ext.refl _) rfl (FreshIf.no rfl) }) ?_
     refine RcG 4 23 true (bn (r := .bool true) (Od.loc 5 24) (Od.loc 7 26) (hr := fun w => by go_simp)) ?_
     refine Rc (pk (Od.loc 4 23) (Od.lc 8 27)) ?_
     exact RgAll.nil
    intro v W7 e1 hΦ _
    replace S := S.mono e1
    have v9 : v 9 = .bool true := hΦ 9 (by decide)
    simp only [layL, Act.put, List.setIfInBounds_toArray, List.set_cons_zero, List.set_cons_succ, Nat.reduceAdd]
    rw [v9]
    clear v9 hΦ e1
    refine wpList_nil ?_
    go_upto_region 7 with (fail)
    refine rgs 4 [some 31, some 32, some 33, some 34] [IsV (.string s), IsV (.int .i64 ((i : Nat) : Int)), IsV (.int .u8 ((bb : Nat) : Int)), IsV (.bool false)] [] ?_ ?_
    ·refine Rc (mv (Od.lit 0)) ?_
     refine Rc (mv (Od.lit 5)) ?_
     refine Rc (ixs (fun w => HBB.out ▸ idS s i HIN.out w) (Od.lc 0 31) (Od.lc 1 32)) ?_
     refine Rc (bn (r := .bool false) (Od.loc 2 33) Od.con (hr := fun w => by have hx9 := HHIT.out; go_simp)) ?_
     exact RgAll.nil
    intro v W8 e1 hΦ _
    replace S := S.mono e1
    have v3 : v 3 = .bool false := hΦ 3 (by decide)
    simp only [layL, Act.put, List.setIfInBounds_toArray, List.set_cons_zero, List.set_cons_succ, Nat.reduceAdd]
    rw [v3]
    clear v3 hΦ e1
    refine wpList_nil ?_
    have hx9 := HADD.out
    have S' := hid S; clear S
    go_wp2_with fail
    go_roundg (gk - 1)
    case measure => have := HHN.out; have := HIN.out; omega
    case rel => exact ⟨i + 1, s.size, by rw [Int.natCast_add]; rfl, rfl, by have := HHN.out; have := HIN.out; omega, .inl (by have := HKI.out; have := HIK.out; omega), S'⟩
  ·skip
   obtain rfl : aa = kk := by omega
   obtain ⟨bi, hbi⟩ : ∃ b, decide ((i : Int) < (s.size : Int)) = b := ⟨_, rfl⟩
   obtain ⟨ba, hba⟩ : ∃ b, (((aa : Nat) : Int) == ((s.size : Nat) : Int)) = b := ⟨_, rfl⟩
   have HBI := hid (show decide ((i : Int) < (s.size : Int)) = bi ∧ decide (i < s.size) = bi from ⟨hbi, by rw [← hbi]; exact decide_eq_decide.2 (by omega)⟩)
   have HBA := hid (show (((aa : Nat) : Int) == ((s.size : Nat) : Int)) = ba ∧ (aa == s.size) = ba from ⟨hba, by rw [← hba, Bool.eq_iff_iff, beq_iff_eq, beq_iff_eq]; omega⟩)
   have HBB := hid (show (bi && ba) = false by
    rw [← hbi, ← hba, Bool.eq_false_iff]; intro k; simp only [Bool.and_eq_true, decide_eq_true_eq, beq_iff_eq] at k; exact hgo ⟨by omega, by omega⟩)
   clear hn hst hgo HKK' hbi hba
   go_upto_region 5 with (fail)
   refine rgs 10 [some 19, some 20, some 21, some 22, some 23, some 24, some 25, some 26, some 27, some 28] [IsV (.int .i64 ((i : Nat) : Int)), IsV (.string s), IsV (.int .i64 ((s).size)), IsV (.bool bi), IsV (.bool bi), IsIf (bi) (IsV (.int .i64 ((aa : Nat) : Int))), IsIf (bi) (IsV (.string s)), IsIf (bi) (IsV (.int .i64 ((s.size : Nat) : Int))), IsIf (bi) (IsV (.bool ba)), IsV (.bool false)] [] ?_ ?_ (hst := by repeat' (first | exact trivial | apply IsIf.stb | exact IsV.stb _ | exact IsI.stb _ _ | apply IsJ.stb | apply IsQ.stb | apply And.intro))
   ·refine Rc (mv (Od.lit 5)) ?_
    refine Rc (mv (Od.lit 0)) ?_
    refine RgAll.cons (by { (with_reducible refine RgL.mk (by rfl) ?_); intro v a w' hE hd hf; have d0 : v 1 = .string s := hd 1 (by kernel_rfl); have ev0 := hf.val 1 20 _ d0 (by kernel_rfl) (by kernel_rfl) (by kernel_rfl); clear d0; clear hd hf; intro K hK; go_simp; exact hK.out _ _ (Ext.refl _) rfl (FreshIf.no rfl) }) ?_
    refine Rc (bn (r := .bool bi) (Od.loc 0 19) (Od.loc 2 21) (hr := fun w => by have hx9 := HBI.out.1; have hx8 := HBI.out.2; go_simp)) ?_
    refine Rc (mv (Od.lc 3 22)) ?_
    refine RcB 4 23 bi true (fun hb => by subst hb; exact mv (Od.lit 4)) ?_
    refine RcB 4 23 bi true (fun hb => by subst hb; exact mv (Od.lit 0)) ?_
    refine RcB 4 23 bi true (fun hb => by subst hb; exact lenS (Od.lc (Φ := IsV (.string s)) 6 25)) ?_
    refine RcB 4 23 bi true (fun hb => by subst hb; exact bn (r := .bool ba) (Od.loc 5 24) (Od.loc 7 26) (hr := fun w => by have hx9 := HBA.out.1; have hx8 := HBA.out.2; go_simp)) ?_
    refine Rc (pkA (b2 := ba) (Od.loc 4 23) (fun hb => by subst hb; exact Od.lc 8 27) (HBB.out)) ?_
    exact RgAll.nil
   intro v W9 e1 hΦ _
   replace S := S.mono e1
   have v9 : v 9 = .bool false := hΦ 9 (by decide)
   simp only [layL, Act.put, List.setIfInBounds_toArray, List.set_cons_zero, List.set_cons_succ, Nat.reduceAdd]
   rw [v9]
   clear v9 hΦ e1
   refine wpList_nil ?_
   go_upto_region 9 with (fail)
   have hl := hid S.lt; have hw := S.ext.size
   refine rgs 8 [some 37, some 38, some 39, some 40, some 36, some 41, some 42, some 6] [IsV (.string s), IsV (.int .i64 ((aa : Nat) : Int)), IsV (.string ta), IsT2 (IsI 136 z1) (IsV (.int .i64 ec)), IsT2 (IsI 136 z1) (IsV (.int .i64 ec)), IsI 136 z1, IsV (.int .i64 ec), IsBo W9 1] [7] ?_ ?_
   ·refine Rc (mv (Od.lit 0)) ?_
    refine Rc (mv (Od.lit 4)) ?_
    refine Rc (slH (fun w => HTA.out ▸ slS1 s aa HKK.out w) (Od.lc 0 37) (Od.lc 1 38)) ?_
    refine Rc (cl1 (en Tryz.func74) (Od.lc (Φ := IsV (.string ta)) 2 39) (fun x0 w' hE d0 => by { obtain rfl : x0 = .string ta := d0; exact (by have hh := RParse_f w' ta; rw [H1.out.1, H1.out.2] at hh; exact hh) })) ?_
    refine Rc (mv (Od.lc 3 40)) ?_
    refine Rc (ex (Od.loc 4 36) t20) ?_
    refine Rc (ex (Od.loc 4 36) t21) ?_
    refine Rc (al al_Int) ?_
    exact RgAll.nil
   intro v W10 e1 hΦ _
   replace S := S.mono e1
   have h41 := hΦ 5 (by decide)
   have v6 : v 6 = .int .i64 ec := hΦ 6 (by decide)
   obtain ⟨g6, v7, q2, b1, _⟩ := (hΦ 7 (by decide) : IsBo W9 1 (v 7) W10)
   replace S := S.addN 1 (ApartO.old hl.out q2) (Nat.le_trans hw q2) b1
   simp only [newF, List.cons_append, List.nil_append] at S
   simp only [layL, Act.put, List.setIfInBounds_toArray, List.set_cons_zero, List.set_cons_succ, Nat.reduceAdd]
   rw [v6, v7]
   clear b1 hl hw v6 v7 hΦ e1
   try simp only [List.drop_succ_cons, List.drop_zero]
   (with_reducible refine stL ?_ (by rfl)); intro KK hKK; refine stI S 0 (g6) 0 h41 st_Int (fun W11 S2 G2 => hKK _ _ ?_) rfl
   replace S := S2; clear S2 G2 hKK KK h41
   simp only [List.set_cons_zero] at S
   refine wpList_step fun K hK => ?_; go_simp; refine hK _ _ ?_; clear hK K
   refine wpList_nil ?_
   go_upto_region 10 with (fail)
   have hl := hid S.lt; have hw := S.ext.size
   refine rgs 2 [some 43, some 8] [IsI 2 1, IsBo W11 1] [1] ?_ ?_
   ·refine Rc (cl1 (en Tryz.func24) Od.con (fun x0 w' hE d0 => by { obtain rfl : x0 = .int .i64 1 := d0; exact ROf_f _ 1 (by decide) (by decide) })) ?_
    refine Rc (al al_Int) ?_
    exact RgAll.nil
   intro v W12 e1 hΦ _
   replace S := S.mono e1
   have h43 := hΦ 0 (by decide)
   obtain ⟨g8, v1, q4, b3, _⟩ := (hΦ 1 (by decide) : IsBo W11 1 (v 1) W12)
   replace S := S.addN 1 (ApartO.old hl.out q4) (Nat.le_trans hw q4) b3
   simp only [newF, List.cons_append, List.nil_append] at S
   simp only [layL, Act.put, List.setIfInBounds_toArray, List.set_cons_zero, List.set_cons_succ, Nat.reduceAdd]
   rw [v1]
   clear b3 hl hw v1 hΦ e1
   try simp only [List.drop_succ_cons, List.drop_zero]
   (with_reducible refine stL ?_ (by rfl)); intro KK hKK; refine stI S 0 (g8) 0 h43 st_Int (fun W13 S2 G2 => hKK _ _ ?_) rfl
   replace S := S2; clear S2 G2 hKK KK h43
   simp only [List.set_cons_zero] at S
   refine wpList_step fun K hK => ?_; go_simp; refine hK _ _ ?_; clear hK K
   refine wpList_nil ?_
   go_upto_region 11 with (fail)
   refine rgs 4 [some 44, some 45, some 46, some 47] [IsV (.int .i64 ((aa : Nat) : Int)), IsV (.string s), IsV (.int .i64 ((s).size)), IsV (.bool true)] [] ?_ ?_
   ·refine Rc (mv (Od.lit 4)) ?_
    refine Rc (mv (Od.lit 0)) ?_
    refine RgAll.cons (by { (with_reducible refine RgL.mk (by rfl) ?_); intro v a w' hE hd hf; have d0 : v 1 = .string s := hd 1 (by kernel_rfl); have ev0 := hf.val 1 45 _ d0 (by kernel_rfl) (by kernel_rfl) (by kernel_rfl); clear d0; clear hd hf; intro K hK; go_simp; exact hK.out _ _ (Ext.refl _) rfl (FreshIf.no rfl) }) ?_
    refine Rc (bn (r := .bool true) (Od.loc 0 44) (Od.loc 2 46) (hr := fun w => by have hx9 := HSL.out; have hx8 : aa < s.size := (by have := of_decide_eq_true HSL.out; omega); go_simp)) ?_
    exact RgAll.nil
   intro v W14 e1 hΦ _
   replace S := S.mono e1
   have v3 : v 3 = .bool true := hΦ 3 (by decide)
   simp only [layL, Act.put, List.setIfInBounds_toArray, List.set_cons_zero, List.set_cons_succ, Nat.reduceAdd]
   rw [v3]
   clear v3 hΦ e1
   refine wpList_nil ?_
   go_upto_region 12 with (fail)
   refine rgs 8 [some 49, some 50, some 51, some 52, some 53, some 48, some 54, some 55] [IsV (.string s), IsV (.int .i64 ((aa : Nat) : Int)), IsV (.int .i64 ((aa + 1 : Nat) : Int)), IsV (.string tb), IsT2 (IsI 136 z2) (IsV (.int .i64 ed)), IsT2 (IsI 136 z2) (IsV (.int .i64 ed)), IsI 136 z2, IsV (.int .i64 ed)] [] ?_ ?_
   ·refine Rc (mv (Od.lit 0)) ?_
    refine Rc (mv (Od.lit 4)) ?_
    refine Rc (bn (r := .int .i64 ((aa + 1 : Nat) : Int)) (Od.loc 1 50) Od.con (hr := fun w => by have hx9 := HAD.out; go_simp)) ?_
    refine Rc (slL (fun w => HTB.out.2 ▸ slS2 s (aa + 1) HTB.out.1 w) (Od.lc 0 49) (Od.lc 2 51)) ?_
    refine Rc (cl1 (en Tryz.func74) (Od.lc (Φ := IsV (.string tb)) 3 52) (fun x0 w' hE d0 => by { obtain rfl : x0 = .string tb := d0; exact (by have hh := RParse_f w' tb; rw [H2.out.1, H2.out.2] at hh; exact hh) })) ?_
    refine Rc (mv (Od.lc 4 53)) ?_
    refine Rc (ex (Od.loc 5 48) t20) ?_
    refine Rc (ex (Od.loc 5 48) t21) ?_
    exact RgAll.nil
   intro v W15 e1 hΦ _
   replace S := S.mono e1
   have h54 := hΦ 6 (by decide)
   have v7 : v 7 = .int .i64 ed := hΦ 7 (by decide)
   simp only [layL, Act.put, List.setIfInBounds_toArray, List.set_cons_zero, List.set_cons_succ, Nat.reduceAdd]
   rw [v7]
   clear v7 hΦ e1
   try simp only [List.drop_succ_cons, List.drop_zero]
   (with_reducible refine stL ?_ (by rfl)); intro KK hKK; refine stI S 0 (g8) 0 h54 st_Int (fun W16 S2 G2 => hKK _ _ ?_) rfl
   replace S := S2; clear S2 G2 hKK KK h54
   simp only [List.set_cons_zero] at S
   refine wpList_step fun K hK => ?_; go_simp; refine hK _ _ ?_; clear hK K
   refine wpList_nil ?_
   go_upto_region 13 with (fail)
   refine rgs 6 [some 56, some 57, some 58, some 59, some 60, some 61] [IsV (.int .i64 ec), IsV (.bool be), IsV (.bool be), IsIf (!be) (IsV (.int .i64 ed)), IsIf (!be) (IsV (.bool bf)), IsV (.bool true)] [] ?_ ?_ (hst := by repeat' (first | exact trivial | apply IsIf.stb | exact IsV.stb _ | exact IsI.stb _ _ | apply IsJ.stb | apply IsQ.stb | apply And.intro))
   ·refine Rc (mv (Od.lit 7)) ?_
    refine Rc (bn (r := .bool be) (Od.loc 0 56) Od.con (hr := fun w => by have hx9 := HBE.out; go_simp)) ?_
    refine Rc (mv (Od.lc 1 57)) ?_
    refine RcB 2 58 be false (fun hb => by subst hb; exact mv (Od.lit 9)) ?_
    refine RcB 2 58 be false (fun hb => by subst hb; exact bn (r := .bool bf) (Od.loc 3 59) Od.con (hr := fun w => by have hx9 := HBF.out; go_simp)) ?_
    refine Rc (pkO (b2 := bf) (Od.loc 2 58) (fun hb => by subst hb; exact Od.lc 4 60) (HOR.out)) ?_
    exact RgAll.nil
   intro v W17 e1 hΦ _
   replace S := S.mono e1
   have v5 : v 5 = .bool true := hΦ 5 (by decide)
   simp only [layL, Act.put, List.setIfInBounds_toArray, List.set_cons_zero, List.set_cons_succ, Nat.reduceAdd]
   rw [v5]
   clear v5 hΦ e1
   refine wpList_nil ?_
   go_upto_region 14 with (fail)
   refine rgs 1 [some 62] [IsQ (IsI 0 0) (IsI 0 0)] [] ?_ ?_
   ·refine Rc (b0 z_Rat nilQ) ?_
    exact RgAll.nil
   intro v W18 e1 hΦ _
   replace S := S.mono e1
   have h62 := hΦ 0 (by decide)
   simp only [layL, Act.put, List.setIfInBounds_toArray, List.set_cons_zero, List.set_cons_succ]
   clear hΦ e1
   try simp only [List.drop_succ_cons, List.drop_zero]
   (with_reducible refine stL ?_ (by rfl)); intro KK hKK; refine stQ S 3 2 (w.heap.size) 0 h62 (IsI.gstb _ _) (IsI.gstb _ _) st_Rat (fun W19 S2 G2 => hKK _ _ ?_) rfl rfl
   replace S := S2; clear S2 G2 hKK KK h62
   simp only [List.set_cons_zero, List.set_cons_succ] at S
   refine wpList_step fun K hK => ?_; go_simp; refine hK _ _ ?_; clear hK K
   refine wpList_nil ?_
   go_wp2_with fail
   obtain ⟨s90x, a90x, n90x, c90x, b90x, h90x⟩ := S.at 3 (w.heap.size) 0 (IsI 0 0) rfl; have L90xa : World.cell? W19 ⟨w.heap.size, 0, none⟩ = some (.bool s90x) := b90x.c0; have L90xb : World.cell? W19 ⟨w.heap.size, 1, none⟩ = some (.slice a90x n90x c90x) := b90x.c1
   obtain ⟨s90y, a90y, n90y, c90y, b90y, h90y⟩ := S.at 2 (w.heap.size) 1 (IsI 0 0) rfl; have L90ya : World.cell? W19 ⟨w.heap.size, 2, none⟩ = some (.bool s90y) := b90y.c0; have L90yb : World.cell? W19 ⟨w.heap.size, 3, none⟩ = some (.slice a90y n90y c90y) := b90y.c1
   exact bodyPost_ret (v := .tuple #[.agg #[.bool s90x, .slice a90x n90x c90x, .bool s90y, .slice a90y n90y c90y], .int .i64 3]) (by simp [results, Tryz.results17, go_sem, L90xa, L90xb, L90ya, L90yb]) rfl (⟨_, rfl, S.ext, ⟨_, _, rfl, ⟨_, _, _, _, _, _, _, _, rfl, h90x, h90y⟩, rfl⟩⟩)

set_option maxRecDepth 100000 in
set_option maxHeartbeats 4000000 in
theorem rqParse_Tv (w : World) (s : ByteArray) (kk : Nat) (HS : Hid (s.size ≤ 2601)) (HSB : Hid (decide ((2601 : Int) < (s.size : Int)) = false)) (HKK : Hid (kk ≤ s.size)) (HNS : Hid (∀ (j : Nat) (h : j < s.size), j < kk → s[j].toNat ≠ 47)) (HYS : Hid (∀ h : kk < s.size, s[kk].toNat = 47)) (ta : ByteArray) (HTA : Hid (s.extract 0 kk = ta)) (z1 z2 : Int) (H1 : Hid (parseZ ta.data.toList = z1 ∧ parseE ta.data.toList = 0)) (HSL : Hid (decide ((kk : Int) < (s.size : Int)) = true)) (tb : ByteArray) (HTB : Hid (kk + 1 ≤ s.size ∧ s.extract (kk + 1) s.size = tb)) (HAD : Hid (IntKind.i64.wrap ((kk : Int) + 1) = ((kk + 1 : Nat) : Int))) (H2 : Hid (parseZ tb.data.toList = z2 ∧ parseE tb.data.toList = 0)) (td tq : ByteArray) (HX1 : Hid (encS (textS z1) = .string ta ∧ textE z1 = 0)) (HX2 : Hid (encS (textS z2) = .string td ∧ textE z2 = 0)) (HX3 : Hid (ta.size ≤ 100000 ∧ td.size ≤ 100000)) (HX4 : Hid ((if td = ⟨#[49]⟩ then ta else ta ++ (⟨#[47]⟩ : ByteArray) ++ td) = tq)) (HV : Hid (validQ z1 z2 = false)) :
  Calls Tryz.prog 17 #[.string s] w (Ret w (IsT2 (IsQ (IsI 0 0) (IsI 0 0)) (IsV (.int .i64 3)))) := by
 obtain ⟨W, hW, S⟩ : ∃ W, W = w.alloc (.cells #[.bool false, .slice none 0 0, .bool false, .slice none 0 0] 31) ∧ Sto w W [((w.heap.size, 1), IsI 0 0), ((w.heap.size, 0), IsI 0 0)] := ⟨_, rfl, ((Sto.start w).new2 (w.heap.size) (by simp) false false none none 0 0 0 0 31 (IsI 0 0) (IsI 0 0) (IsI.gstb _ _) (IsI.nil _ _) (IsI.gstb _ _) (IsI.nil _ _))⟩
 go_enter Tryz.func17, Tryz.ntmps17
 go_upto_region 1 with (fail)
 rw [← hW]
 clear hW
 refine rgs 3 [some 13, some 14, some 15] [IsV (.string s), IsV (.int .i64 ((s).size)), IsV (.bool false)] [] ?_ ?_
 ·refine Rc (mv (Od.lit 0)) ?_
  refine RgAll.cons (by { (with_reducible refine RgL.mk (by rfl) ?_); intro v a w' hE hd hf; have d0 : v 0 = .string s := hd 0 (by kernel_rfl); have ev0 := hf.val 0 13 _ d0 (by kernel_rfl) (by kernel_rfl) (by kernel_rfl); clear d0; clear hd hf; intro K hK; go_simp; exact hK.out _ _ (Ext.refl _) rfl (FreshIf.no rfl) }) ?_
  refine Rc (bn (r := .bool false) (Od.loc 1 14) Od.con (hr := fun w => by have hs9 := HSB.out; go_simp)) ?_
  exact RgAll.nil
 intro v W1 e1 hΦ _
 replace S := S.mono e1
 have v2 : v 2 = .bool false := hΦ 2 (by decide)
 simp only [layL, Act.put, List.setIfInBounds_toArray, List.set_cons_zero, List.set_cons_succ, Nat.reduceAdd]
 rw [v2]
 clear v2 hΦ e1
 refine wpList_nil ?_
 go_upto_region 3 with (fail)
 refine rgs 3 [some 17, some 18, some 4] [IsV (.string s), IsV (.int .i64 ((s).size)), IsV (.int .i64 ((s).size))] [] ?_ ?_
 ·refine Rc (mv (Od.lit 0)) ?_
  refine RgAll.cons (by { (with_reducible refine RgL.mk (by rfl) ?_); intro v a w' hE hd hf; have d0 : v 0 = .string s := hd 0 (by kernel_rfl); have ev0 := hf.val 0 17 _ d0 (by kernel_rfl) (by kernel_rfl) (by kernel_rfl); clear d0; clear hd hf; intro K hK; go_simp; exact hK.out _ _ (Ext.refl _) rfl (FreshIf.no rfl) }) ?_
  refine Rc (mv (Od.lc 1 18)) ?_
  exact RgAll.nil
 intro v W2 e1 hΦ _
 replace S := S.mono e1
 have v2 : v 2 = .int .i64 ((s).size) := hΦ 2 (by decide)
 simp only [layL, Act.put, List.setIfInBounds_toArray, List.set_cons_zero, List.set_cons_succ, Nat.reduceAdd]
 rw [v2]
 clear v2 hΦ e1
 refine wpList_nil ?_
 go_upto_region 4 with (fail)
 refine rgs 1 [some 5] [IsV (.int .i64 0)] [] ?_ ?_
 ·refine Rc (mv Od.con) ?_
  exact RgAll.nil
 intro v W3 e1 hΦ _
 replace S := S.mono e1
 have v0 : v 0 = .int .i64 0 := hΦ 0 (by decide)
 simp only [layL, Act.put, List.setIfInBounds_toArray, List.set_cons_zero, List.set_cons_succ]
 rw [v0]
 clear v0 hΦ e1
 refine wpList_nil ?_
 go_wp2_with fail
 have S0 := hid S; clear S
 go_loopg [4, 5] s.size (fun gk v4 v5 wr => ∃ i aa : Nat, v5 = .int .i64 ((i : Nat) : Int) ∧ v4 = .int .i64 ((aa : Nat) : Int) ∧ i + gk = s.size ∧ ((i ≤ kk ∧ aa = s.size) ∨ (i = kk + 1 ∧ kk < s.size ∧ aa = kk)) ∧ Hid (Sto w wr [((w.heap.size, 1), IsI 0 0), ((w.heap.size, 0), IsI 0 0)]))
 case atStart => exact ⟨0, s.size, rfl, rfl, by omega, .inl ⟨by omega, rfl⟩, S0⟩
 case round =>
  clear S0
  obtain ⟨i, aa, rfl, rfl, hn, hst, S⟩ := hrel
  have S := S.out
  have HKK' := HKK.out
  by_cases hgo : i < s.size ∧ aa = s.size
  ·obtain ⟨hin, rfl⟩ := hgo
   have hik : i ≤ kk := by omega
   by_cases hki : i = kk
   ·skip
    obtain ⟨bb, hbb⟩ : ∃ b, (s[i]'hin).toNat = b := ⟨_, rfl⟩
    have HHIT := hid (show ((bb : Nat) : Int) = 47 by have := HYS.out (hki ▸ hin); subst hki; rw [← hbb, this]; rfl)
    have HBB := hid hbb
    have HLT := hid (show (i : Int) < ((s.size : Nat) : Int) by omega)
    have HIN := hid hin
    have HHN := hid hn; have HKI := hid hki; have HIK := hid hik
    have HADD := hid (show IntKind.i64.wrap ((i : Int) + 1) = (i : Int) + 1 by have := HS.out; simp only [IntKind.wrap_i64]; omega)
    clear hbb hn hki hik HKK'
    go_upto_region 5 with (fail)
    refine rgs 10 [some 19, some 20, some 21, some 22, some 23, some 24, some 25, some 26, some 27, some 28] [IsV (.int .i64 ((i : Nat) : Int)), IsV (.string s), IsV (.int .i64 ((s).size)), IsV (.bool true), IsV (.bool true), IsV (.int .i64 ((s.size : Nat) : Int)), IsV (.string s), IsV (.int .i64 ((s).size)), IsV (.bool true), IsV (.bool true)] [] ?_ ?_
    ·refine Rc (mv (Od.lit 5)) ?_
     refine Rc (mv (Od.lit 0)) ?_
     refine RgAll.cons (by { (with_reducible refine RgL.mk (by rfl) ?_); intro v a w' hE hd hf; have d0 : v 1 = .string s := hd 1 (by kernel_rfl); have ev0 := hf.val 1 20 _ d0 (by kernel_rfl) (by kernel_rfl) (by kernel_rfl); clear d0; clear hd hf; intro K hK; go_simp; exact hK.out _ _ (Ext.refl _) rfl (FreshIf.no rfl) }) ?_
     refine Rc (bn (r := .bool true) (Od.loc 0 19) (Od.loc 2 21) (hr := fun w => by have hx9 := HLT.out; go_simp)) ?_
     refine Rc (mv (Od.lc 3 22)) ?_
     refine RcG 4 23 true (mv (Od.lit 4)) ?_
     refine RcG 4 23 true (mv (Od.lit 0)) ?_
     refine RgAll.cons (by { (with_reducible refine RgL.mkG 4 23 true (by rfl) (by kernel_rfl) (by kernel_rfl) (by kernel_rfl) (by kernel_rfl) (by kernel_rfl) ?_ ?_); (focus (intro _ _ h; exact h)); intro v a w' hE hd hf; have d0 : v 6 = .string s := hd 6 (by kernel_rfl); have ev0 := hf.val 6 25 _ d0 (by kernel_rfl) (by kernel_rfl) (by kernel_rfl); clear d0; clear hd hf; intro K hK; go_simp; exact hK.out _ _ (Ext.refl _) rfl (FreshIf.no rfl) }) ?_
     refine RcG 4 23 true (bn (r := .bool true) (Od.loc 5 24) (Od.loc 7 26) (hr := fun w => by go_simp)) ?_
     refine Rc (pk (Od.loc 4 23) (Od.lc 8 27)) ?_
     exact RgAll.nil
    intro v W4 e1 hΦ _
    replace S := S.mono e1
    have v9 : v 9 = .bool true := hΦ 9 (by decide)
    simp only [layL, Act.put, List.setIfInBounds_toArray, List.set_cons_zero, List.set_cons_succ, Nat.reduceAdd]
    rw [v9]
    clear v9 hΦ e1
    refine wpList_nil ?_
    go_upto_region 7 with (fail)
    refine rgs 4 [some 31, some 32, some 33, some 34] [IsV (.string s), IsV (.int .i64 ((i : Nat) : Int)), IsV (.int .u8 ((bb : Nat) : Int)), IsV (.bool true)] [] ?_ ?_
    ·refine Rc (mv (Od.lit 0)) ?_
     refine Rc (mv (Od.lit 5)) ?_
     refine Rc (ixs (fun w => HBB.out ▸ idS s i HIN.out w) (Od.lc 0 31) (Od.lc 1 32)) ?_
     refine Rc (bn (r := .bool true) (Od.loc 2 33) Od.con (hr := fun w => by have hx9 := HHIT.out; go_simp)) ?_
     exact RgAll.nil
    intro v W5 e1 hΦ _
    replace S := S.mono e1
    have v3 : v 3 = .bool true := hΦ 3 (by decide)
    simp only [layL, Act.put, List.setIfInBounds_toArray, List.set_cons_zero, List.set_cons_succ, Nat.reduceAdd]
    rw [v3]
    clear v3 hΦ e1
    refine wpList_nil ?_
    go_upto_region 8 with (fail)
    refine rgs 2 [some 35, some 4] [IsV (.int .i64 ((i : Nat) : Int)), IsV (.int .i64 ((i : Nat) : Int))] [] ?_ ?_
    ·refine Rc (mv (Od.lit 5)) ?_
     refine Rc (mv (Od.lc 0 35)) ?_
     exact RgAll.nil
    intro v W6 e1 hΦ _
    replace S := S.mono e1
    have v1 : v 1 = .int .i64 ((i : Nat) : Int) := hΦ 1 (by decide)
    simp only [layL, Act.put, List.setIfInBounds_toArray, List.set_cons_zero, List.set_cons_succ, Nat.reduceAdd]
    rw [v1]
    clear v1 hΦ e1
    refine wpList_nil ?_
    have hx9 := HADD.out
    have S' := hid S; clear S
    go_wp2_with fail
    go_roundg (gk - 1)
    case measure => have := HHN.out; have := HIN.out; omega
    case rel => exact ⟨i + 1, i, by rw [Int.natCast_add]; rfl, rfl, by have := HHN.out; have := HIN.out; omega, .inr (by have := HKI.out; have := HIN.out; omega), S'⟩
   ·skip
    obtain ⟨bb, hbb⟩ : ∃ b, (s[i]'hin).toNat = b := ⟨_, rfl⟩
    have HHIT := hid (show (((bb : Nat) : Int) == 47) = false by rw [beq_eq_false_iff_ne, ← hbb]; have := HNS.out i hin (by omega); omega)
    have HBB := hid hbb
    have HLT := hid (show (i : Int) < ((s.size : Nat) : Int) by omega)
    have HIN := hid hin
    have HHN := hid hn; have HKI := hid hki; have HIK := hid hik
    have HADD := hid (show IntKind.i64.wrap ((i : Int) + 1) = (i : Int) + 1 by have := HS.out; simp only [IntKind.wrap_i64]; omega)
    clear hbb hn hki hik HKK'
    go_upto_region 5 with (fail)
    refine rgs 10 [some 19, some 20, some 21, some 22, some 23, some 24, some 25, some 26, some 27, some 28] [IsV (.int .i64 ((i : Nat) : Int)), IsV (.string s), IsV (.int .i64 ((s).size)), IsV (.bool true), IsV (.bool true), IsV (.int .i64 ((s.size : Nat) : Int)), IsV (.string s), IsV (.int .i64 ((s).size)), IsV (.bool true), IsV (.bool true)] [] ?_ ?_
    ·refine Rc (mv (Od.lit 5)) ?_
     refine Rc (mv (Od.lit 0)) ?_
     refine RgAll.cons (by { (with_reducible refine RgL.mk (by rfl) ?_); intro v a w' hE hd hf; have d0 : v 1 = .string s := hd 1 (by kernel_rfl); have ev0 := hf.val 1 20 _ d0 (by kernel_rfl) (by kernel_rfl) (by kernel_rfl); clear d0; clear hd hf; intro K hK; go_simp; exact hK.out _ _ (Ext.refl _) rfl (FreshIf.no rfl) }) ?_
     refine Rc (bn (r := .bool true) (Od.loc 0 19) (Od.loc 2 21) (hr := fun w => by have hx9 := HLT.out; go_simp)) ?_
     refine Rc (mv (Od.lc 3 22)) ?_
     refine RcG 4 23 true (mv (Od.lit 4)) ?_
     refine RcG 4 23 true (mv (Od.lit 0)) ?_
     refine RgAll.cons (by { (with_reducible refine RgL.mkG 4 23 true (by rfl) (by kernel_rfl) (by kernel_rfl) (by kernel_rfl) (by kernel_rfl) (by kernel_rfl) ?_ ?_); (focus (intro _ _ h; exact h)); intro v a w' hE hd hf; have d0 : v 6 = .string s := hd 6 (by kernel_rfl); have ev0 := hf.val 6 25 _ d0 (by kernel_rfl) (by kernel_rfl) (by kernel_rfl); clear d0; clear hd hf; intro K hK; go_simp; exact hK.out _ _ (Ext.refl _) rfl (FreshIf.no rfl) }) ?_
     refine RcG 4 23 true (bn (r := .bool true) (Od.loc 5 24) (Od.loc 7 26) (hr := fun w => by go_simp)) ?_
     refine Rc (pk (Od.loc 4 23) (Od.lc 8 27)) ?_
     exact RgAll.nil
    intro v W7 e1 hΦ _
    replace S := S.mono e1
    have v9 : v 9 = .bool true := hΦ 9 (by decide)
    simp only [layL, Act.put, List.setIfInBounds_toArray, List.set_cons_zero, List.set_cons_succ, Nat.reduceAdd]
    rw [v9]
    clear v9 hΦ e1
    refine wpList_nil ?_
    go_upto_region 7 with (fail)
    refine rgs 4 [some 31, some 32, some 33, some 34] [IsV (.string s), IsV (.int .i64 ((i : Nat) : Int)), IsV (.int .u8 ((bb : Nat) : Int)), IsV (.bool false)] [] ?_ ?_
    ·refine Rc (mv (Od.lit 0)) ?_
     refine Rc (mv (Od.lit 5)) ?_
     refine Rc (ixs (fun w => HBB.out ▸ idS s i HIN.out w) (Od.lc 0 31) (Od.lc 1 32)) ?_
     refine Rc (bn (r := .bool false) (Od.loc 2 33) Od.con (hr := fun w => by have hx9 := HHIT.out; go_simp)) ?_
     exact RgAll.nil
    intro v W8 e1 hΦ _
    replace S := S.mono e1
    have v3 : v 3 = .bool false := hΦ 3 (by decide)
    simp only [layL, Act.put, List.setIfInBounds_toArray, List.set_cons_zero, List.set_cons_succ, Nat.reduceAdd]
    rw [v3]
    clear v3 hΦ e1
    refine wpList_nil ?_
    have hx9 := HADD.out
    have S' := hid S; clear S
    go_wp2_with fail
    go_roundg (gk - 1)
    case measure => have := HHN.out; have := HIN.out; omega
    case rel => exact ⟨i + 1, s.size, by rw [Int.natCast_add]; rfl, rfl, by have := HHN.out; have := HIN.out; omega, .inl (by have := HKI.out; have := HIK.out; omega), S'⟩
  ·skip
   obtain rfl : aa = kk := by omega
   obtain ⟨bi, hbi⟩ : ∃ b, decide ((i : Int) < (s.size : Int)) = b := ⟨_, rfl⟩
   obtain ⟨ba, hba⟩ : ∃ b, (((aa : Nat) : Int) == ((s.size : Nat) : Int)) = b := ⟨_, rfl⟩
   have HBI := hid (show decide ((i : Int) < (s.size : Int)) = bi ∧ decide (i < s.size) = bi from ⟨hbi, by rw [← hbi]; exact decide_eq_decide.2 (by omega)⟩)
   have HBA := hid (show (((aa : Nat) : Int) == ((s.size : Nat) : Int)) = ba ∧ (aa == s.size) = ba from ⟨hba, by rw [← hba, Bool.eq_iff_iff, beq_iff_eq, beq_iff_eq]; omega⟩)
   have HBB := hid (show (bi && ba) = false by
    rw [← hbi, ← hba, Bool.eq_false_iff]; intro k; simp only [Bool.and_eq_true, decide_eq_true_eq, beq_iff_eq] at k; exact hgo ⟨by omega, by omega⟩)
   clear hn hst hgo HKK' hbi hba
   go_upto_region 5 with (fail)
   refine rgs 10 [some 19, some 20, some 21, some 22, some 23, some 24, some 25, some 26, some 27, some 28] [IsV (.int .i64 ((i : Nat) : Int)), IsV (.string s), IsV (.int .i64 ((s).size)), IsV (.bool bi), IsV (.bool bi), IsIf (bi) (IsV (.int .i64 ((aa : Nat) : Int))), IsIf (bi) (IsV (.string s)), IsIf (bi) (IsV (.int .i64 ((s.size : Nat) : Int))), IsIf (bi) (IsV (.bool ba)), IsV (.bool false)] [] ?_ ?_ (hst := by repeat' (first | exact trivial | apply IsIf.stb | exact IsV.stb _ | exact IsI.stb _ _ | apply IsJ.stb | apply IsQ.stb | apply And.intro))
   ·refine Rc (mv (Od.lit 5)) ?_
    refine Rc (mv (Od.lit 0)) ?_
    refine RgAll.cons (by { (with_reducible refine RgL.mk (by rfl) ?_); intro v a w' hE hd hf; have d0 : v 1 = .string s := hd 1 (by kernel_rfl); have ev0 := hf.val 1 20 _ d0 (by kernel_rfl) (by kernel_rfl) (by kernel_rfl); clear d0; clear hd hf; intro K hK; go_simp; exact hK.out _ _ (Ext.refl _) rfl (FreshIf.no rfl) }) ?_
    refine Rc (bn (r := .bool bi) (Od.loc 0 19) (Od.loc 2 21) (hr := fun w => by have hx9 := HBI.out.1; have hx8 := HBI.out.2; go_simp)) ?_
    refine Rc (mv (Od.lc 3 22)) ?_
    refine RcB 4 23 bi true (fun hb => by subst hb; exact mv (Od.lit 4)) ?_
    refine RcB 4 23 bi true (fun hb => by subst hb; exact mv (Od.lit 0)) ?_
    refine RcB 4 23 bi true (fun hb => by subst hb; exact lenS (Od.lc (Φ := IsV (.string s)) 6 25)) ?_
    refine RcB 4 23 bi true (fun hb => by subst hb; exact bn (r := .bool ba) (Od.loc 5 24) (Od.loc 7 26) (hr := fun w => by have hx9 := HBA.out.1; have hx8 := HBA.out.2; go_simp)) ?_
    refine Rc (pkA (b2 := ba) (Od.loc 4 23) (fun hb => by subst hb; exact Od.lc 8 27) (HBB.out)) ?_
    exact RgAll.nil
   intro v W9 e1 hΦ _
   replace S := S.mono e1
   have v9 : v 9 = .bool false := hΦ 9 (by decide)
   simp only [layL, Act.put, List.setIfInBounds_toArray, List.set_cons_zero, List.set_cons_succ, Nat.reduceAdd]
   rw [v9]
   clear v9 hΦ e1
   refine wpList_nil ?_
   go_upto_region 9 with (fail)
   have hl := hid S.lt; have hw := S.ext.size
   refine rgs 8 [some 37, some 38, some 39, some 40, some 36, some 41, some 42, some 6] [IsV (.string s), IsV (.int .i64 ((aa : Nat) : Int)), IsV (.string ta), IsT2 (IsI 136 z1) (IsV (.int .i64 0)), IsT2 (IsI 136 z1) (IsV (.int .i64 0)), IsI 136 z1, IsV (.int .i64 0), IsBo W9 1] [7] ?_ ?_
   ·refine Rc (mv (Od.lit 0)) ?_
    refine Rc (mv (Od.lit 4)) ?_
    refine Rc (slH (fun w => HTA.out ▸ slS1 s aa HKK.out w) (Od.lc 0 37) (Od.lc 1 38)) ?_
    refine Rc (cl1 (en Tryz.func74) (Od.lc (Φ := IsV (.string ta)) 2 39) (fun x0 w' hE d0 => by { obtain rfl : x0 = .string ta := d0; exact (by have hh := RParse_f w' ta; rw [H1.out.1, H1.out.2] at hh; exact hh) })) ?_
    refine Rc (mv (Od.lc 3 40)) ?_
    refine Rc (ex (Od.loc 4 36) t20) ?_
    refine Rc (ex (Od.loc 4 36) t21) ?_
    refine Rc (al al_Int) ?_
    exact RgAll.nil
   intro v W10 e1 hΦ _
   replace S := S.mono e1
   have h41 := hΦ 5 (by decide)
   have v6 : v 6 = .int .i64 0 := hΦ 6 (by decide)
   obtain ⟨g6, v7, q2, b1, _⟩ := (hΦ 7 (by decide) : IsBo W9 1 (v 7) W10)
   replace S := S.addN 1 (ApartO.old hl.out q2) (Nat.le_trans hw q2) b1
   simp only [newF, List.cons_append, List.nil_append] at S
   simp only [layL, Act.put, List.setIfInBounds_toArray, List.set_cons_zero, List.set_cons_succ, Nat.reduceAdd]
   rw [v6, v7]
   clear b1 hl hw v6 v7 hΦ e1
   try simp only [List.drop_succ_cons, List.drop_zero]
   (with_reducible refine stL ?_ (by rfl)); intro KK hKK; refine stI S 0 (g6) 0 h41 st_Int (fun W11 S2 G2 => hKK _ _ ?_) rfl
   replace S := S2; clear S2 G2 hKK KK h41
   simp only [List.set_cons_zero] at S
   refine wpList_step fun K hK => ?_; go_simp; refine hK _ _ ?_; clear hK K
   refine wpList_nil ?_
   go_upto_region 10 with (fail)
   have hl := hid S.lt; have hw := S.ext.size
   refine rgs 2 [some 43, some 8] [IsI 2 1, IsBo W11 1] [1] ?_ ?_
   ·refine Rc (cl1 (en Tryz.func24) Od.con (fun x0 w' hE d0 => by { obtain rfl : x0 = .int .i64 1 := d0; exact ROf_f _ 1 (by decide) (by decide) })) ?_
    refine Rc (al al_Int) ?_
    exact RgAll.nil
   intro v W12 e1 hΦ _
   replace S := S.mono e1
   have h43 := hΦ 0 (by decide)
   obtain ⟨g8, v1, q4, b3, _⟩ := (hΦ 1 (by decide) : IsBo W11 1 (v 1) W12)
   replace S := S.addN 1 (ApartO.old hl.out q4) (Nat.le_trans hw q4) b3
   simp only [newF, List.cons_append, List.nil_append] at S
   simp only [layL, Act.put, List.setIfInBounds_toArray, List.set_cons_zero, List.set_cons_succ, Nat.reduceAdd]
   rw [v1]
   clear b3 hl hw v1 hΦ e1
   try simp only [List.drop_succ_cons, List.drop_zero]
   (with_reducible refine stL ?_ (by rfl)); intro KK hKK; refine stI S 0 (g8) 0 h43 st_Int (fun W13 S2 G2 => hKK _ _ ?_) rfl
   replace S := S2; clear S2 G2 hKK KK h43
   simp only [List.set_cons_zero] at S
   refine wpList_step fun K hK => ?_; go_simp; refine hK _ _ ?_; clear hK K
   refine wpList_nil ?_
   go_upto_region 11 with (fail)
   refine rgs 4 [some 44, some 45, some 46, some 47] [IsV (.int .i64 ((aa : Nat) : Int)), IsV (.string s), IsV (.int .i64 ((s).size)), IsV (.bool true)] [] ?_ ?_
   ·refine Rc (mv (Od.lit 4)) ?_
    refine Rc (mv (Od.lit 0)) ?_
    refine RgAll.cons (by { (with_reducible refine RgL.mk (by rfl) ?_); intro v a w' hE hd hf; have d0 : v 1 = .string s := hd 1 (by kernel_rfl); have ev0 := hf.val 1 45 _ d0 (by kernel_rfl) (by kernel_rfl) (by kernel_rfl); clear d0; clear hd hf; intro K hK; go_simp; exact hK.out _ _ (Ext.refl _) rfl (FreshIf.no rfl) }) ?_
    refine Rc (bn (r := .bool true) (Od.loc 0 44) (Od.loc 2 46) (hr := fun w => by have hx9 := HSL.out; have hx8 : aa < s.size := (by have := of_decide_eq_true HSL.out; omega); go_simp)) ?_
    exact RgAll.nil
   intro v W14 e1 hΦ _
   replace S := S.mono e1
   have v3 : v 3 = .bool true := hΦ 3 (by decide)
   simp only [layL, Act.put, List.setIfInBounds_toArray, List.set_cons_zero, List.set_cons_succ, Nat.reduceAdd]
   rw [v3]
   clear v3 hΦ e1
   refine wpList_nil ?_
   go_upto_region 12 with (fail)
   refine rgs 8 [some 49, some 50, some 51, some 52, some 53, some 48, some 54, some 55] [IsV (.string s), IsV (.int .i64 ((aa : Nat) : Int)), IsV (.int .i64 ((aa + 1 : Nat) : Int)), IsV (.string tb), IsT2 (IsI 136 z2) (IsV (.int .i64 0)), IsT2 (IsI 136 z2) (IsV (.int .i64 0)), IsI 136 z2, IsV (.int .i64 0)] [] ?_ ?_
   ·refine Rc (mv (Od.lit 0)) ?_
    refine Rc (mv (Od.lit 4)) ?_
    refine Rc (bn (r := .int .i64 ((aa + 1 : Nat) : Int)) (Od.loc 1 50) Od.con (hr := fun w => by have hx9 := HAD.out; go_simp)) ?_
    refine Rc (slL (fun w => HTB.out.2 ▸ slS2 s (aa + 1) HTB.out.1 w) (Od.lc 0 49) (Od.lc 2 51)) ?_
    refine Rc (cl1 (en Tryz.func74) (Od.lc (Φ := IsV (.string tb)) 3 52) (fun x0 w' hE d0 => by { obtain rfl : x0 = .string tb := d0; exact (by have hh := RParse_f w' tb; rw [H2.out.1, H2.out.2] at hh; exact hh) })) ?_
    refine Rc (mv (Od.lc 4 53)) ?_
    refine Rc (ex (Od.loc 5 48) t20) ?_
    refine Rc (ex (Od.loc 5 48) t21) ?_
    exact RgAll.nil
   intro v W15 e1 hΦ _
   replace S := S.mono e1
   have h54 := hΦ 6 (by decide)
   have v7 : v 7 = .int .i64 0 := hΦ 7 (by decide)
   simp only [layL, Act.put, List.setIfInBounds_toArray, List.set_cons_zero, List.set_cons_succ, Nat.reduceAdd]
   rw [v7]
   clear v7 hΦ e1
   try simp only [List.drop_succ_cons, List.drop_zero]
   (with_reducible refine stL ?_ (by rfl)); intro KK hKK; refine stI S 0 (g8) 0 h54 st_Int (fun W16 S2 G2 => hKK _ _ ?_) rfl
   replace S := S2; clear S2 G2 hKK KK h54
   simp only [List.set_cons_zero] at S
   refine wpList_step fun K hK => ?_; go_simp; refine hK _ _ ?_; clear hK K
   refine wpList_nil ?_
   go_upto_region 13 with (fail)
   refine rgs 6 [some 56, some 57, some 58, some 59, some 60, some 61] [IsV (.int .i64 0), IsV (.bool false), IsV (.bool false), IsV (.int .i64 0), IsV (.bool false), IsV (.bool false)] [] ?_ ?_
   ·refine Rc (mv (Od.lit 7)) ?_
    refine Rc (bn (r := .bool false) (Od.loc 0 56) Od.con (hr := fun w => by go_simp)) ?_
    refine Rc (mv (Od.lc 1 57)) ?_
    refine RcG 2 58 false (mv (Od.lit 9)) ?_
    refine RcG 2 58 false (bn (r := .bool false) (Od.loc 3 59) Od.con (hr := fun w => by go_simp)) ?_
    refine Rc (pk (Od.loc 2 58) (Od.lc 4 60)) ?_
    exact RgAll.nil
   intro v W17 e1 hΦ _
   replace S := S.mono e1
   have v5 : v 5 = .bool false := hΦ 5 (by decide)
   simp only [layL, Act.put, List.setIfInBounds_toArray, List.set_cons_zero, List.set_cons_succ, Nat.reduceAdd]
   rw [v5]
   clear v5 hΦ e1
   refine wpList_nil ?_
   go_upto_region 15 with (fail)
   have hl := hid S.lt; have hw := S.ext.size
   refine rgs 4 [some 63, some 64, some 65, some 10] [IsI 136 z1, IsI 136 z2, IsQ (IsI 136 z1) (IsI 136 z2), IsBo W17 2] [3] ?_ ?_
   ·refine Rc (ldI S 1 (g6) 0 (Od.lit 6) ld_Int) ?_
    refine Rc (ldI S 0 (g8) 0 (Od.lit 8) ld_Int) ?_
    refine Rc (bq (Od.loc 0 63) (Od.loc 1 64) bd_Rat) ?_
    refine Rc (al al_Rat) ?_
    exact RgAll.nil
   intro v W18 e1 hΦ _
   replace S := S.mono e1
   have h65 := hΦ 2 (by decide)
   obtain ⟨g10, v3, q6, b5, _⟩ := (hΦ 3 (by decide) : IsBo W17 2 (v 3) W18)
   replace S := S.addN 2 (ApartO.old hl.out q6) (Nat.le_trans hw q6) b5
   simp only [newF, List.cons_append, List.nil_append] at S
   simp only [layL, Act.put, List.setIfInBounds_toArray, List.set_cons_zero, List.set_cons_succ, Nat.reduceAdd]
   rw [v3]
   clear b5 hl hw v3 hΦ e1
   try simp only [List.drop_succ_cons, List.drop_zero]
   (with_reducible refine stL ?_ (by rfl)); intro KK hKK; refine stQ S 1 0 (g10) 0 h65 (IsI.gstb _ _) (IsI.gstb _ _) st_Rat (fun W19 S2 G2 => hKK _ _ ?_) rfl rfl
   replace S := S2; clear S2 G2 hKK KK h65
   simp only [List.set_cons_zero, List.set_cons_succ] at S
   refine wpList_nil ?_
   go_upto_region 16 with (fail)
   refine rgs 7 [some 67, some 68, some 66, some 69, some 70, some 11, some 12] [IsQ (IsI 136 z1) (IsI 136 z2), IsT2 (IsV (.string tq)) (IsV (.int .i64 0)), IsT2 (IsV (.string tq)) (IsV (.int .i64 0)), IsV (.string tq), IsV (.int .i64 0), IsV (.string tq), IsV (.int .i64 0)] [] ?_ ?_
   ·refine Rc (ldQ S 1 0 (g10) 0 (Od.lit 10) ld_Rat rfl rfl) ?_
    refine Rc (cl1 (en Tryz.func15) (Od.lc (Φ := IsQ (IsI 136 z1) (IsI 136 z2)) 0 67) (fun x0 w' hE d0 => rqText_u (d0.up (by decide) (by decide)) (k := 136) (by decide) _ _ _ HX1.out HX2.out HX3.out HX4.out)) ?_
    refine Rc (mv (Od.lc 1 68)) ?_
    refine Rc (ex (Od.loc 2 66) t20) ?_
    refine Rc (ex (Od.loc 2 66) t21) ?_
    refine Rc (mv (Od.lc 3 69)) ?_
    refine Rc (mv (Od.lc 4 70)) ?_
    exact RgAll.nil
   intro v W20 e1 hΦ _
   replace S := S.mono e1
   have v5 : v 5 = .string tq := hΦ 5 (by decide)
   have v6 : v 6 = .int .i64 0 := hΦ 6 (by decide)
   simp only [layL, Act.put, List.setIfInBounds_toArray, List.set_cons_zero, List.set_cons_succ, Nat.reduceAdd]
   rw [v5, v6]
   clear v5 v6 hΦ e1
   refine wpList_nil ?_
   go_upto_region 17 with (fail)
   refine rgs 12 [some 71, some 72, some 73, some 74, some 75, some 76, some 77, some 78, some 79, some 80, some 81, some 82] [IsQ (IsI 136 z1) (IsI 136 z2), IsV (.bool false), IsV (.bool true), IsV (.bool true), IsV (undef), IsV (undef), IsV (.bool true), IsV (.bool true), IsV (undef), IsV (undef), IsV (undef), IsV (.bool true)] [] ?_ ?_
   ·refine Rc (ldQ S 1 0 (g10) 0 (Od.lit 10) ld_Rat rfl rfl) ?_
    refine Rc (cl1 (en Tryz.func40) (Od.lc (Φ := IsQ (IsI 136 z1) (IsI 136 z2)) 0 71) (fun x0 w' hE d0 => (by have hh := rqValid_f (d0.up (k := 136) (K := 136) (by decide) (by decide)) (by decide); rw [HV.out] at hh; exact hh))) ?_
    refine Rc (nt (Od.loc 1 72)) ?_
    refine Rc (mv (Od.lc 2 73)) ?_
    refine RcN 3 74 true ?_
    refine RcN 3 74 true ?_
    refine Rc (pk (Od.loc 3 74) Od.con) ?_
    refine Rc (mv (Od.lc 6 77)) ?_
    refine RcN 7 78 true ?_
    refine RcN 7 78 true ?_
    refine RcN 7 78 true ?_
    refine Rc (pk (Od.loc 7 78) Od.con) ?_
    exact RgAll.nil
   intro v W21 e1 hΦ _
   replace S := S.mono e1
   have v11 : v 11 = .bool true := hΦ 11 (by decide)
   simp only [layL, Act.put, List.setIfInBounds_toArray, List.set_cons_zero, List.set_cons_succ, Nat.reduceAdd]
   rw [v11]
   clear v11 hΦ e1
   refine wpList_nil ?_
   go_upto_region 18 with (fail)
   refine rgs 1 [some 83] [IsQ (IsI 0 0) (IsI 0 0)] [] ?_ ?_
   ·refine Rc (b0 z_Rat nilQ) ?_
    exact RgAll.nil
   intro v W22 e1 hΦ _
   replace S := S.mono e1
   have h83 := hΦ 0 (by decide)
   simp only [layL, Act.put, List.setIfInBounds_toArray, List.set_cons_zero, List.set_cons_succ]
   clear hΦ e1
   try simp only [List.drop_succ_cons, List.drop_zero]
   (with_reducible refine stL ?_ (by rfl)); intro KK hKK; refine stQ S 5 4 (w.heap.size) 0 h83 (IsI.gstb _ _) (IsI.gstb _ _) st_Rat (fun W23 S2 G2 => hKK _ _ ?_) rfl rfl
   replace S := S2; clear S2 G2 hKK KK h83
   simp only [List.set_cons_zero, List.set_cons_succ] at S
   refine wpList_step fun K hK => ?_; go_simp; refine hK _ _ ?_; clear hK K
   refine wpList_nil ?_
   go_wp2_with fail
   obtain ⟨s90x, a90x, n90x, c90x, b90x, h90x⟩ := S.at 5 (w.heap.size) 0 (IsI 0 0) rfl; have L90xa : World.cell? W23 ⟨w.heap.size, 0, none⟩ = some (.bool s90x) := b90x.c0; have L90xb : World.cell? W23 ⟨w.heap.size, 1, none⟩ = some (.slice a90x n90x c90x) := b90x.c1
   obtain ⟨s90y, a90y, n90y, c90y, b90y, h90y⟩ := S.at 4 (w.heap.size) 1 (IsI 0 0) rfl; have L90ya : World.cell? W23 ⟨w.heap.size, 2, none⟩ = some (.bool s90y) := b90y.c0; have L90yb : World.cell? W23 ⟨w.heap.size, 3, none⟩ = some (.slice a90y n90y c90y) := b90y.c1
   exact bodyPost_ret (v := .tuple #[.agg #[.bool s90x, .slice a90x n90x c90x, .bool s90y, .slice a90y n90y c90y], .int .i64 3]) (by simp [results, Tryz.results17, go_sem, L90xa, L90xb, L90ya, L90yb]) rfl (⟨_, rfl, S.ext, ⟨_, _, rfl, ⟨_, _, _, _, _, _, _, _, rfl, h90x, h90y⟩, rfl⟩⟩)

set_option maxRecDepth 100000 in
set_option maxHeartbeats 4000000 in
theorem rqParse_To (w : World) (s : ByteArray) (kk : Nat) (HS : Hid (s.size ≤ 2601)) (HSB : Hid (decide ((2601 : Int) < (s.size : Int)) = false)) (HKK : Hid (kk ≤ s.size)) (HNS : Hid (∀ (j : Nat) (h : j < s.size), j < kk → s[j].toNat ≠ 47)) (HYS : Hid (∀ h : kk < s.size, s[kk].toNat = 47)) (ta : ByteArray) (HTA : Hid (s.extract 0 kk = ta)) (z1 z2 : Int) (H1 : Hid (parseZ ta.data.toList = z1 ∧ parseE ta.data.toList = 0)) (HSL : Hid (decide ((kk : Int) < (s.size : Int)) = true)) (tb : ByteArray) (HTB : Hid (kk + 1 ≤ s.size ∧ s.extract (kk + 1) s.size = tb)) (HAD : Hid (IntKind.i64.wrap ((kk : Int) + 1) = ((kk + 1 : Nat) : Int))) (H2 : Hid (parseZ tb.data.toList = z2 ∧ parseE tb.data.toList = 0)) (td tq : ByteArray) (HX1 : Hid (encS (textS z1) = .string ta ∧ textE z1 = 0)) (HX2 : Hid (encS (textS z2) = .string td ∧ textE z2 = 0)) (HX3 : Hid (ta.size ≤ 100000 ∧ td.size ≤ 100000)) (HX4 : Hid ((if td = ⟨#[49]⟩ then ta else ta ++ (⟨#[47]⟩ : ByteArray) ++ td) = tq)) (HV : Hid (validQ z1 z2 = true)) (HNE : Hid (¬tq.toList = s.toList)) :
  Calls Tryz.prog 17 #[.string s] w (Ret w (IsT2 (IsQ (IsI 0 0) (IsI 0 0)) (IsV (.int .i64 3)))) := by
 obtain ⟨W, hW, S⟩ : ∃ W, W = w.alloc (.cells #[.bool false, .slice none 0 0, .bool false, .slice none 0 0] 31) ∧ Sto w W [((w.heap.size, 1), IsI 0 0), ((w.heap.size, 0), IsI 0 0)] := ⟨_, rfl, ((Sto.start w).new2 (w.heap.size) (by simp) false false none none 0 0 0 0 31 (IsI 0 0) (IsI 0 0) (IsI.gstb _ _) (IsI.nil _ _) (IsI.gstb _ _) (IsI.nil _ _))⟩
 go_enter Tryz.func17, Tryz.ntmps17
 go_upto_region 1 with (fail)
 rw [← hW]
 clear hW
 refine rgs 3 [some 13, some 14, some 15] [IsV (.string s), IsV (.int .i64 ((s).size)), IsV (.bool false)] [] ?_ ?_
 ·refine Rc (mv (Od.lit 0)) ?_
  refine RgAll.cons (by { (with_reducible refine RgL.mk (by rfl) ?_); intro v a w' hE hd hf; have d0 : v 0 = .string s := hd 0 (by kernel_rfl); have ev0 := hf.val 0 13 _ d0 (by kernel_rfl) (by kernel_rfl) (by kernel_rfl); clear d0; clear hd hf; intro K hK; go_simp; exact hK.out _ _ (Ext.refl _) rfl (FreshIf.no rfl) }) ?_
  refine Rc (bn (r := .bool false) (Od.loc 1 14) Od.con (hr := fun w => by have hs9 := HSB.out; go_simp)) ?_
  exact RgAll.nil
 intro v W1 e1 hΦ _
 replace S := S.mono e1
 have v2 : v 2 = .bool false := hΦ 2 (by decide)
 simp only [layL, Act.put, List.setIfInBounds_toArray, List.set_cons_zero, List.set_cons_succ, Nat.reduceAdd]
 rw [v2]
 clear v2 hΦ e1
 refine wpList_nil ?_
 go_upto_region 3 with (fail)
 refine rgs 3 [some 17, some 18, some 4] [IsV (.string s), IsV (.int .i64 ((s).size)), IsV (.int .i64 ((s).size))] [] ?_ ?_
 ·refine Rc (mv (Od.lit 0)) ?_
  refine RgAll.cons (by { (with_reducible refine RgL.mk (by rfl) ?_); intro v a w' hE hd hf; have d0 : v 0 = .string s := hd 0 (by kernel_rfl); have ev0 := hf.val 0 17 _ d0 (by kernel_rfl) (by kernel_rfl) (by kernel_rfl); clear d0; clear hd hf; intro K hK; go_simp; exact hK.out _ _ (Ext.refl _) rfl (FreshIf.no rfl) }) ?_
  refine Rc (mv (Od.lc 1 18)) ?_
  exact RgAll.nil
 intro v W2 e1 hΦ _
 replace S := S.mono e1
 have v2 : v 2 = .int .i64 ((s).size) := hΦ 2 (by decide)
 simp only [layL, Act.put, List.setIfInBounds_toArray, List.set_cons_zero, List.set_cons_succ, Nat.reduceAdd]
 rw [v2]
 clear v2 hΦ e1
 refine wpList_nil ?_
 go_upto_region 4 with (fail)
 refine rgs 1 [some 5] [IsV (.int .i64 0)] [] ?_ ?_
 ·refine Rc (mv Od.con) ?_
  exact RgAll.nil
 intro v W3 e1 hΦ _
 replace S := S.mono e1
 have v0 : v 0 = .int .i64 0 := hΦ 0 (by decide)
 simp only [layL, Act.put, List.setIfInBounds_toArray, List.set_cons_zero, List.set_cons_succ]
 rw [v0]
 clear v0 hΦ e1
 refine wpList_nil ?_
 go_wp2_with fail
 have S0 := hid S; clear S
 go_loopg [4, 5] s.size (fun gk v4 v5 wr => ∃ i aa : Nat, v5 = .int .i64 ((i : Nat) : Int) ∧ v4 = .int .i64 ((aa : Nat) : Int) ∧ i + gk = s.size ∧ ((i ≤ kk ∧ aa = s.size) ∨ (i = kk + 1 ∧ kk < s.size ∧ aa = kk)) ∧ Hid (Sto w wr [((w.heap.size, 1), IsI 0 0), ((w.heap.size, 0), IsI 0 0)]))
 case atStart => exact ⟨0, s.size, rfl, rfl, by omega, .inl ⟨by omega, rfl⟩, S0⟩
 case round =>
  clear S0
  obtain ⟨i, aa, rfl, rfl, hn, hst, S⟩ := hrel
  have S := S.out
  have HKK' := HKK.out
  by_cases hgo : i < s.size ∧ aa = s.size
  ·obtain ⟨hin, rfl⟩ := hgo
   have hik : i ≤ kk := by omega
   by_cases hki : i = kk
   ·skip
    obtain ⟨bb, hbb⟩ : ∃ b, (s[i]'hin).toNat = b := ⟨_, rfl⟩
    have HHIT := hid (show ((bb : Nat) : Int) = 47 by have := HYS.out (hki ▸ hin); subst hki; rw [← hbb, this]; rfl)
    have HBB := hid hbb
    have HLT := hid (show (i : Int) < ((s.size : Nat) : Int) by omega)
    have HIN := hid hin
    have HHN := hid hn; have HKI := hid hki; have HIK := hid hik
    have HADD := hid (show IntKind.i64.wrap ((i : Int) + 1) = (i : Int) + 1 by have := HS.out; simp only [IntKind.wrap_i64]; omega)
    clear hbb hn hki hik HKK'
    go_upto_region 5 with (fail)
    refine rgs 10 [some 19, some 20, some 21, some 22, some 23, some 24, some 25, some 26, some 27, some 28] [IsV (.int .i64 ((i : Nat) : Int)), IsV (.string s), IsV (.int .i64 ((s).size)), IsV (.bool true), IsV (.bool true), IsV (.int .i64 ((s.size : Nat) : Int)), IsV (.string s), IsV (.int .i64 ((s).size)), IsV (.bool true), IsV (.bool true)] [] ?_ ?_
    ·refine Rc (mv (Od.lit 5)) ?_
     refine Rc (mv (Od.lit 0)) ?_
     refine RgAll.cons (by { (with_reducible refine RgL.mk (by rfl) ?_); intro v a w' hE hd hf; have d0 : v 1 = .string s := hd 1 (by kernel_rfl); have ev0 := hf.val 1 20 _ d0 (by kernel_rfl) (by kernel_rfl) (by kernel_rfl); clear d0; clear hd hf; intro K hK; go_simp; exact hK.out _ _ (Ext.refl _) rfl (FreshIf.no rfl) }) ?_
     refine Rc (bn (r := .bool true) (Od.loc 0 19) (Od.loc 2 21) (hr := fun w => by have hx9 := HLT.out; go_simp)) ?_
     refine Rc (mv (Od.lc 3 22)) ?_
     refine RcG 4 23 true (mv (Od.lit 4)) ?_
     refine RcG 4 23 true (mv (Od.lit 0)) ?_
     refine RgAll.cons (by { (with_reducible refine RgL.mkG 4 23 true (by rfl) (by kernel_rfl) (by kernel_rfl) (by kernel_rfl) (by kernel_rfl) (by kernel_rfl) ?_ ?_); (focus (intro _ _ h; exact h)); intro v a w' hE hd hf; have d0 : v 6 = .string s := hd 6 (by kernel_rfl); have ev0 := hf.val 6 25 _ d0 (by kernel_rfl) (by kernel_rfl) (by kernel_rfl); clear d0; clear hd hf; intro K hK; go_simp; exact hK.out _ _ (Ext.refl _) rfl (FreshIf.no rfl) }) ?_
     refine RcG 4 23 true (bn (r := .bool true) (Od.loc 5 24) (Od.loc 7 26) (hr := fun w => by go_simp)) ?_
     refine Rc (pk (Od.loc 4 23) (Od.lc 8 27)) ?_
     exact RgAll.nil
    intro v W4 e1 hΦ _
    replace S := S.mono e1
    have v9 : v 9 = .bool true := hΦ 9 (by decide)
    simp only [layL, Act.put, List.setIfInBounds_toArray, List.set_cons_zero, List.set_cons_succ, Nat.reduceAdd]
    rw [v9]
    clear v9 hΦ e1
    refine wpList_nil ?_
    go_upto_region 7 with (fail)
    refine rgs 4 [some 31, some 32, some 33, some 34] [IsV (.string s), IsV (.int .i64 ((i : Nat) : Int)), IsV (.int .u8 ((bb : Nat) : Int)), IsV (.bool true)] [] ?_ ?_
    ·refine Rc (mv (Od.lit 0)) ?_
     refine Rc (mv (Od.lit 5)) ?_
     refine Rc (ixs (fun w => HBB.out ▸ idS s i HIN.out w) (Od.lc 0 31) (Od.lc 1 32)) ?_
     refine Rc (bn (r := .bool true) (Od.loc 2 33) Od.con (hr := fun w => by have hx9 := HHIT.out; go_simp)) ?_
     exact RgAll.nil
    intro v W5 e1 hΦ _
    replace S := S.mono e1
    have v3 : v 3 = .bool true := hΦ 3 (by decide)
    simp only [layL, Act.put, List.setIfInBounds_toArray, List.set_cons_zero, List.set_cons_succ, Nat.reduceAdd]
    rw [v3]
    clear v3 hΦ e1
    refine wpList_nil ?_
    go_upto_region 8 with (fail)
    refine rgs 2 [some 35, some 4] [IsV (.int .i64 ((i : Nat) : Int)), IsV (.int .i64 ((i : Nat) : Int))] [] ?_ ?_
    ·refine Rc (mv (Od.lit 5)) ?_
     refine Rc (mv (Od.lc 0 35)) ?_
     exact RgAll.nil
    intro v W6 e1 hΦ _
    replace S := S.mono e1
    have v1 : v 1 = .int .i64 ((i : Nat) : Int) := hΦ 1 (by decide)
    simp only [layL, Act.put, List.setIfInBounds_toArray, List.set_cons_zero, List.set_cons_succ, Nat.reduceAdd]
    rw [v1]
    clear v1 hΦ e1
    refine wpList_nil ?_
    have hx9 := HADD.out
    have S' := hid S; clear S
    go_wp2_with fail
    go_roundg (gk - 1)
    case measure => have := HHN.out; have := HIN.out; omega
    case rel => exact ⟨i + 1, i, by rw [Int.natCast_add]; rfl, rfl, by have := HHN.out; have := HIN.out; omega, .inr (by have := HKI.out; have := HIN.out; omega), S'⟩
   ·skip
    obtain ⟨bb, hbb⟩ : ∃ b, (s[i]'hin).toNat = b := ⟨_, rfl⟩
    have HHIT := hid (show (((bb : Nat) : Int) == 47) = false by rw [beq_eq_false_iff_ne, ← hbb]; have := HNS.out i hin (by omega); omega)
    have HBB := hid hbb
    have HLT := hid (show (i : Int) < ((s.size : Nat) : Int) by omega)
    have HIN := hid hin
    have HHN := hid hn; have HKI := hid hki; have HIK := hid hik
    have HADD := hid (show IntKind.i64.wrap ((i : Int) + 1) = (i : Int) + 1 by have := HS.out; simp only [IntKind.wrap_i64]; omega)
    clear hbb hn hki hik HKK'
    go_upto_region 5 with (fail)
    refine rgs 10 [some 19, some 20, some 21, some 22, some 23, some 24, some 25, some 26, some 27, some 28] [IsV (.int .i64 ((i : Nat) : Int)), IsV (.string s), IsV (.int .i64 ((s).size)), IsV (.bool true), IsV (.bool true), IsV (.int .i64 ((s.size : Nat) : Int)), IsV (.string s), IsV (.int .i64 ((s).size)), IsV (.bool true), IsV (.bool true)] [] ?_ ?_
    ·refine Rc (mv (Od.lit 5)) ?_
     refine Rc (mv (Od.lit 0)) ?_
     refine RgAll.cons (by { (with_reducible refine RgL.mk (by rfl) ?_); intro v a w' hE hd hf; have d0 : v 1 = .string s := hd 1 (by kernel_rfl); have ev0 := hf.val 1 20 _ d0 (by kernel_rfl) (by kernel_rfl) (by kernel_rfl); clear d0; clear hd hf; intro K hK; go_simp; exact hK.out _ _ (Ext.refl _) rfl (FreshIf.no rfl) }) ?_
     refine Rc (bn (r := .bool true) (Od.loc 0 19) (Od.loc 2 21) (hr := fun w => by have hx9 := HLT.out; go_simp)) ?_
     refine Rc (mv (Od.lc 3 22)) ?_
     refine RcG 4 23 true (mv (Od.lit 4)) ?_
     refine RcG 4 23 true (mv (Od.lit 0)) ?_
     refine RgAll.cons (by { (with_reducible refine RgL.mkG 4 23 true (by rfl) (by kernel_rfl) (by kernel_rfl) (by kernel_rfl) (by kernel_rfl) (by kernel_rfl) ?_ ?_); (focus (intro _ _ h; exact h)); intro v a w' hE hd hf; have d0 : v 6 = .string s := hd 6 (by kernel_rfl); have ev0 := hf.val 6 25 _ d0 (by kernel_rfl) (by kernel_rfl) (by kernel_rfl); clear d0; clear hd hf; intro K hK; go_simp; exact hK.out _ _ (Ext.refl _) rfl (FreshIf.no rfl) }) ?_
     refine RcG 4 23 true (bn (r := .bool true) (Od.loc 5 24) (Od.loc 7 26) (hr := fun w => by go_simp)) ?_
     refine Rc (pk (Od.loc 4 23) (Od.lc 8 27)) ?_
     exact RgAll.nil
    intro v W7 e1 hΦ _
    replace S := S.mono e1
    have v9 : v 9 = .bool true := hΦ 9 (by decide)
    simp only [layL, Act.put, List.setIfInBounds_toArray, List.set_cons_zero, List.set_cons_succ, Nat.reduceAdd]
    rw [v9]
    clear v9 hΦ e1
    refine wpList_nil ?_
    go_upto_region 7 with (fail)
    refine rgs 4 [some 31, some 32, some 33, some 34] [IsV (.string s), IsV (.int .i64 ((i : Nat) : Int)), IsV (.int .u8 ((bb : Nat) : Int)), IsV (.bool false)] [] ?_ ?_
    ·refine Rc (mv (Od.lit 0)) ?_
     refine Rc (mv (Od.lit 5)) ?_
     refine Rc (ixs (fun w => HBB.out ▸ idS s i HIN.out w) (Od.lc 0 31) (Od.lc 1 32)) ?_
     refine Rc (bn (r := .bool false) (Od.loc 2 33) Od.con (hr := fun w => by have hx9 := HHIT.out; go_simp)) ?_
     exact RgAll.nil
    intro v W8 e1 hΦ _
    replace S := S.mono e1
    have v3 : v 3 = .bool false := hΦ 3 (by decide)
    simp only [layL, Act.put, List.setIfInBounds_toArray, List.set_cons_zero, List.set_cons_succ, Nat.reduceAdd]
    rw [v3]
    clear v3 hΦ e1
    refine wpList_nil ?_
    have hx9 := HADD.out
    have S' := hid S; clear S
    go_wp2_with fail
    go_roundg (gk - 1)
    case measure => have := HHN.out; have := HIN.out; omega
    case rel => exact ⟨i + 1, s.size, by rw [Int.natCast_add]; rfl, rfl, by have := HHN.out; have := HIN.out; omega, .inl (by have := HKI.out; have := HIK.out; omega), S'⟩
  ·skip
   obtain rfl : aa = kk := by omega
   obtain ⟨bi, hbi⟩ : ∃ b, decide ((i : Int) < (s.size : Int)) = b := ⟨_, rfl⟩
   obtain ⟨ba, hba⟩ : ∃ b, (((aa : Nat) : Int) == ((s.size : Nat) : Int)) = b := ⟨_, rfl⟩
   have HBI := hid (show decide ((i : Int) < (s.size : Int)) = bi ∧ decide (i < s.size) = bi from ⟨hbi, by rw [← hbi]; exact decide_eq_decide.2 (by omega)⟩)
   have HBA := hid (show (((aa : Nat) : Int) == ((s.size : Nat) : Int)) = ba ∧ (aa == s.size) = ba from ⟨hba, by rw [← hba, Bool.eq_iff_iff, beq_iff_eq, beq_iff_eq]; omega⟩)
   have HBB := hid (show (bi && ba) = false by
    rw [← hbi, ← hba, Bool.eq_false_iff]; intro k; simp only [Bool.and_eq_true, decide_eq_true_eq, beq_iff_eq] at k; exact hgo ⟨by omega, by omega⟩)
   clear hn hst hgo HKK' hbi hba
   go_upto_region 5 with (fail)
   refine rgs 10 [some 19, some 20, some 21, some 22, some 23, some 24, some 25, some 26, some 27, some 28] [IsV (.int .i64 ((i : Nat) : Int)), IsV (.string s), IsV (.int .i64 ((s).size)), IsV (.bool bi), IsV (.bool bi), IsIf (bi) (IsV (.int .i64 ((aa : Nat) : Int))), IsIf (bi) (IsV (.string s)), IsIf (bi) (IsV (.int .i64 ((s.size : Nat) : Int))), IsIf (bi) (IsV (.bool ba)), IsV (.bool false)] [] ?_ ?_ (hst := by repeat' (first | exact trivial | apply IsIf.stb | exact IsV.stb _ | exact IsI.stb _ _ | apply IsJ.stb | apply IsQ.stb | apply And.intro))
   ·refine Rc (mv (Od.lit 5)) ?_
    refine Rc (mv (Od.lit 0)) ?_
    refine RgAll.cons (by { (with_reducible refine RgL.mk (by rfl) ?_); intro v a w' hE hd hf; have d0 : v 1 = .string s := hd 1 (by kernel_rfl); have ev0 := hf.val 1 20 _ d0 (by kernel_rfl) (by kernel_rfl) (by kernel_rfl); clear d0; clear hd hf; intro K hK; go_simp; exact hK.out _ _ (Ext.refl _) rfl (FreshIf.no rfl) }) ?_
    refine Rc (bn (r := .bool bi) (Od.loc 0 19) (Od.loc 2 21) (hr := fun w => by have hx9 := HBI.out.1; have hx8 := HBI.out.2; go_simp)) ?_
    refine Rc (mv (Od.lc 3 22)) ?_
    refine RcB 4 23 bi true (fun hb => by subst hb; exact mv (Od.lit 4)) ?_
    refine RcB 4 23 bi true (fun hb => by subst hb; exact mv (Od.lit 0)) ?_
    refine RcB 4 23 bi true (fun hb => by subst hb; exact lenS (Od.lc (Φ := IsV (.string s)) 6 25)) ?_
    refine RcB 4 23 bi true (fun hb => by subst hb; exact bn (r := .bool ba) (Od.loc 5 24) (Od.loc 7 26) (hr := fun w => by have hx9 := HBA.out.1; have hx8 := HBA.out.2; go_simp)) ?_
    refine Rc (pkA (b2 := ba) (Od.loc 4 23) (fun hb => by subst hb; exact Od.lc 8 27) (HBB.out)) ?_
    exact RgAll.nil
   intro v W9 e1 hΦ _
   replace S := S.mono e1
   have v9 : v 9 = .bool false := hΦ 9 (by decide)
   simp only [layL, Act.put, List.setIfInBounds_toArray, List.set_cons_zero, List.set_cons_succ, Nat.reduceAdd]
   rw [v9]
   clear v9 hΦ e1
   refine wpList_nil ?_
   go_upto_region 9 with (fail)
   have hl := hid S.lt; have hw := S.ext.size
   refine rgs 8 [some 37, some 38, some 39, some 40, some 36, some 41, some 42, some 6] [IsV (.string s), IsV (.int .i64 ((aa : Nat) : Int)), IsV (.string ta), IsT2 (IsI 136 z1) (IsV (.int .i64 0)), IsT2 (IsI 136 z1) (IsV (.int .i64 0)), IsI 136 z1, IsV (.int .i64 0), IsBo W9 1] [7] ?_ ?_
   ·refine Rc (mv (Od.lit 0)) ?_
    refine Rc (mv (Od.lit 4)) ?_
    refine Rc (slH (fun w => HTA.out ▸ slS1 s aa HKK.out w) (Od.lc 0 37) (Od.lc 1 38)) ?_
    refine Rc (cl1 (en Tryz.func74) (Od.lc (Φ := IsV (.string ta)) 2 39) (fun x0 w' hE d0 => by { obtain rfl : x0 = .string ta := d0; exact (by have hh := RParse_f w' ta; rw [H1.out.1, H1.out.2] at hh; exact hh) })) ?_
    refine Rc (mv (Od.lc 3 40)) ?_
    refine Rc (ex (Od.loc 4 36) t20) ?_
    refine Rc (ex (Od.loc 4 36) t21) ?_
    refine Rc (al al_Int) ?_
    exact RgAll.nil
   intro v W10 e1 hΦ _
   replace S := S.mono e1
   have h41 := hΦ 5 (by decide)
   have v6 : v 6 = .int .i64 0 := hΦ 6 (by decide)
   obtain ⟨g6, v7, q2, b1, _⟩ := (hΦ 7 (by decide) : IsBo W9 1 (v 7) W10)
   replace S := S.addN 1 (ApartO.old hl.out q2) (Nat.le_trans hw q2) b1
   simp only [newF, List.cons_append, List.nil_append] at S
   simp only [layL, Act.put, List.setIfInBounds_toArray, List.set_cons_zero, List.set_cons_succ, Nat.reduceAdd]
   rw [v6, v7]
   clear b1 hl hw v6 v7 hΦ e1
   try simp only [List.drop_succ_cons, List.drop_zero]
   (with_reducible refine stL ?_ (by rfl)); intro KK hKK; refine stI S 0 (g6) 0 h41 st_Int (fun W11 S2 G2 => hKK _ _ ?_) rfl
   replace S := S2; clear S2 G2 hKK KK h41
   simp only [List.set_cons_zero] at S
   refine wpList_step fun K hK => ?_; go_simp; refine hK _ _ ?_; clear hK K
   refine wpList_nil ?_
   go_upto_region 10 with (fail)
   have hl := hid S.lt; have hw := S.ext.size
   refine rgs 2 [some 43, some 8] [IsI 2 1, IsBo W11 1] [1] ?_ ?_
   ·refine Rc (cl1 (en Tryz.func24) Od.con (fun x0 w' hE d0 => by { obtain rfl : x0 = .int .i64 1 := d0; exact ROf_f _ 1 (by decide) (by decide) })) ?_
    refine Rc (al al_Int) ?_
    exact RgAll.nil
   intro v W12 e1 hΦ _
   replace S := S.mono e1
   have h43 := hΦ 0 (by decide)
   obtain ⟨g8, v1, q4, b3, _⟩ := (hΦ 1 (by decide) : IsBo W11 1 (v 1) W12)
   replace S := S.addN 1 (ApartO.old hl.out q4) (Nat.le_trans hw q4) b3
   simp only [newF, List.cons_append, List.nil_append] at S
   simp only [layL, Act.put, List.setIfInBounds_toArray, List.set_cons_zero, List.set_cons_succ, Nat.reduceAdd]
   rw [v1]
   clear b3 hl hw v1 hΦ e1
   try simp only [List.drop_succ_cons, List.drop_zero]
   (with_reducible refine stL ?_ (by rfl)); intro KK hKK; refine stI S 0 (g8) 0 h43 st_Int (fun W13 S2 G2 => hKK _ _ ?_) rfl
   replace S := S2; clear S2 G2 hKK KK h43
   simp only [List.set_cons_zero] at S
   refine wpList_step fun K hK => ?_; go_simp; refine hK _ _ ?_; clear hK K
   refine wpList_nil ?_
   go_upto_region 11 with (fail)
   refine rgs 4 [some 44, some 45, some 46, some 47] [IsV (.int .i64 ((aa : Nat) : Int)), IsV (.string s), IsV (.int .i64 ((s).size)), IsV (.bool true)] [] ?_ ?_
   ·refine Rc (mv (Od.lit 4)) ?_
    refine Rc (mv (Od.lit 0)) ?_
    refine RgAll.cons (by { (with_reducible refine RgL.mk (by rfl) ?_); intro v a w' hE hd hf; have d0 : v 1 = .string s := hd 1 (by kernel_rfl); have ev0 := hf.val 1 45 _ d0 (by kernel_rfl) (by kernel_rfl) (by kernel_rfl); clear d0; clear hd hf; intro K hK; go_simp; exact hK.out _ _ (Ext.refl _) rfl (FreshIf.no rfl) }) ?_
    refine Rc (bn (r := .bool true) (Od.loc 0 44) (Od.loc 2 46) (hr := fun w => by have hx9 := HSL.out; have hx8 : aa < s.size := (by have := of_decide_eq_true HSL.out; omega); go_simp)) ?_
    exact RgAll.nil
   intro v W14 e1 hΦ _
   replace S := S.mono e1
   have v3 : v 3 = .bool true := hΦ 3 (by decide)
   simp only [layL, Act.put, List.setIfInBounds_toArray, List.set_cons_zero, List.set_cons_succ, Nat.reduceAdd]
   rw [v3]
   clear v3 hΦ e1
   refine wpList_nil ?_
   go_upto_region 12 with (fail)
   refine rgs 8 [some 49, some 50, some 51, some 52, some 53, some 48, some 54, some 55] [IsV (.string s), IsV (.int .i64 ((aa : Nat) : Int)), IsV (.int .i64 ((aa + 1 : Nat) : Int)), IsV (.string tb), IsT2 (IsI 136 z2) (IsV (.int .i64 0)), IsT2 (IsI 136 z2) (IsV (.int .i64 0)), IsI 136 z2, IsV (.int .i64 0)] [] ?_ ?_
   ·refine Rc (mv (Od.lit 0)) ?_
    refine Rc (mv (Od.lit 4)) ?_
    refine Rc (bn (r := .int .i64 ((aa + 1 : Nat) : Int)) (Od.loc 1 50) Od.con (hr := fun w => by have hx9 := HAD.out; go_simp)) ?_
    refine Rc (slL (fun w => HTB.out.2 ▸ slS2 s (aa + 1) HTB.out.1 w) (Od.lc 0 49) (Od.lc 2 51)) ?_
    refine Rc (cl1 (en Tryz.func74) (Od.lc (Φ := IsV (.string tb)) 3 52) (fun x0 w' hE d0 => by { obtain rfl : x0 = .string tb := d0; exact (by have hh := RParse_f w' tb; rw [H2.out.1, H2.out.2] at hh; exact hh) })) ?_
    refine Rc (mv (Od.lc 4 53)) ?_
    refine Rc (ex (Od.loc 5 48) t20) ?_
    refine Rc (ex (Od.loc 5 48) t21) ?_
    exact RgAll.nil
   intro v W15 e1 hΦ _
   replace S := S.mono e1
   have h54 := hΦ 6 (by decide)
   have v7 : v 7 = .int .i64 0 := hΦ 7 (by decide)
   simp only [layL, Act.put, List.setIfInBounds_toArray, List.set_cons_zero, List.set_cons_succ, Nat.reduceAdd]
   rw [v7]
   clear v7 hΦ e1
   try simp only [List.drop_succ_cons, List.drop_zero]
   (with_reducible refine stL ?_ (by rfl)); intro KK hKK; refine stI S 0 (g8) 0 h54 st_Int (fun W16 S2 G2 => hKK _ _ ?_) rfl
   replace S := S2; clear S2 G2 hKK KK h54
   simp only [List.set_cons_zero] at S
   refine wpList_step fun K hK => ?_; go_simp; refine hK _ _ ?_; clear hK K
   refine wpList_nil ?_
   go_upto_region 13 with (fail)
   refine rgs 6 [some 56, some 57, some 58, some 59, some 60, some 61] [IsV (.int .i64 0), IsV (.bool false), IsV (.bool false), IsV (.int .i64 0), IsV (.bool false), IsV (.bool false)] [] ?_ ?_
   ·refine Rc (mv (Od.lit 7)) ?_
    refine Rc (bn (r := .bool false) (Od.loc 0 56) Od.con (hr := fun w => by go_simp)) ?_
    refine Rc (mv (Od.lc 1 57)) ?_
    refine RcG 2 58 false (mv (Od.lit 9)) ?_
    refine RcG 2 58 false (bn (r := .bool false) (Od.loc 3 59) Od.con (hr := fun w => by go_simp)) ?_
    refine Rc (pk (Od.loc 2 58) (Od.lc 4 60)) ?_
    exact RgAll.nil
   intro v W17 e1 hΦ _
   replace S := S.mono e1
   have v5 : v 5 = .bool false := hΦ 5 (by decide)
   simp only [layL, Act.put, List.setIfInBounds_toArray, List.set_cons_zero, List.set_cons_succ, Nat.reduceAdd]
   rw [v5]
   clear v5 hΦ e1
   refine wpList_nil ?_
   go_upto_region 15 with (fail)
   have hl := hid S.lt; have hw := S.ext.size
   refine rgs 4 [some 63, some 64, some 65, some 10] [IsI 136 z1, IsI 136 z2, IsQ (IsI 136 z1) (IsI 136 z2), IsBo W17 2] [3] ?_ ?_
   ·refine Rc (ldI S 1 (g6) 0 (Od.lit 6) ld_Int) ?_
    refine Rc (ldI S 0 (g8) 0 (Od.lit 8) ld_Int) ?_
    refine Rc (bq (Od.loc 0 63) (Od.loc 1 64) bd_Rat) ?_
    refine Rc (al al_Rat) ?_
    exact RgAll.nil
   intro v W18 e1 hΦ _
   replace S := S.mono e1
   have h65 := hΦ 2 (by decide)
   obtain ⟨g10, v3, q6, b5, _⟩ := (hΦ 3 (by decide) : IsBo W17 2 (v 3) W18)
   replace S := S.addN 2 (ApartO.old hl.out q6) (Nat.le_trans hw q6) b5
   simp only [newF, List.cons_append, List.nil_append] at S
   simp only [layL, Act.put, List.setIfInBounds_toArray, List.set_cons_zero, List.set_cons_succ, Nat.reduceAdd]
   rw [v3]
   clear b5 hl hw v3 hΦ e1
   try simp only [List.drop_succ_cons, List.drop_zero]
   (with_reducible refine stL ?_ (by rfl)); intro KK hKK; refine stQ S 1 0 (g10) 0 h65 (IsI.gstb _ _) (IsI.gstb _ _) st_Rat (fun W19 S2 G2 => hKK _ _ ?_) rfl rfl
   replace S := S2; clear S2 G2 hKK KK h65
   simp only [List.set_cons_zero, List.set_cons_succ] at S
   refine wpList_nil ?_
   go_upto_region 16 with (fail)
   refine rgs 7 [some 67, some 68, some 66, some 69, some 70, some 11, some 12] [IsQ (IsI 136 z1) (IsI 136 z2), IsT2 (IsV (.string tq)) (IsV (.int .i64 0)), IsT2 (IsV (.string tq)) (IsV (.int .i64 0)), IsV (.string tq), IsV (.int .i64 0), IsV (.string tq), IsV (.int .i64 0)] [] ?_ ?_
   ·refine Rc (ldQ S 1 0 (g10) 0 (Od.lit 10) ld_Rat rfl rfl) ?_
    refine Rc (cl1 (en Tryz.func15) (Od.lc (Φ := IsQ (IsI 136 z1) (IsI 136 z2)) 0 67) (fun x0 w' hE d0 => rqText_u (d0.up (by decide) (by decide)) (k := 136) (by decide) _ _ _ HX1.out HX2.out HX3.out HX4.out)) ?_
    refine Rc (mv (Od.lc 1 68)) ?_
    refine Rc (ex (Od.loc 2 66) t20) ?_
    refine Rc (ex (Od.loc 2 66) t21) ?_
    refine Rc (mv (Od.lc 3 69)) ?_
    refine Rc (mv (Od.lc 4 70)) ?_
    exact RgAll.nil
   intro v W20 e1 hΦ _
   replace S := S.mono e1
   have v5 : v 5 = .string tq := hΦ 5 (by decide)
   have v6 : v 6 = .int .i64 0 := hΦ 6 (by decide)
   simp only [layL, Act.put, List.setIfInBounds_toArray, List.set_cons_zero, List.set_cons_succ, Nat.reduceAdd]
   rw [v5, v6]
   clear v5 v6 hΦ e1
   refine wpList_nil ?_
   go_upto_region 17 with (fail)
   refine rgs 12 [some 71, some 72, some 73, some 74, some 75, some 76, some 77, some 78, some 79, some 80, some 81, some 82] [IsQ (IsI 136 z1) (IsI 136 z2), IsV (.bool true), IsV (.bool false), IsV (.bool false), IsV (.int .i64 0), IsV (.bool false), IsV (.bool false), IsV (.bool false), IsV (.string tq), IsV (.string s), IsV (.bool true), IsV (.bool true)] [] ?_ ?_
   ·refine Rc (ldQ S 1 0 (g10) 0 (Od.lit 10) ld_Rat rfl rfl) ?_
    refine Rc (cl1 (en Tryz.func40) (Od.lc (Φ := IsQ (IsI 136 z1) (IsI 136 z2)) 0 71) (fun x0 w' hE d0 => (by have hh := rqValid_f (d0.up (k := 136) (K := 136) (by decide) (by decide)) (by decide); rw [HV.out] at hh; exact hh))) ?_
    refine Rc (nt (Od.loc 1 72)) ?_
    refine Rc (mv (Od.lc 2 73)) ?_
    refine RcG 3 74 false (mv (Od.lit 12)) ?_
    refine RcG 3 74 false (bn (r := .bool false) (Od.loc 4 75) Od.con (hr := fun w => by go_simp)) ?_
    refine Rc (pk (Od.loc 3 74) (Od.lc 5 76)) ?_
    refine Rc (mv (Od.lc 6 77)) ?_
    refine RcG 7 78 false (mv (Od.lit 11)) ?_
    refine RcG 7 78 false (mv (Od.lit 0)) ?_
    refine RcG 7 78 false (bn (r := .bool true) (Od.loc 8 79) (Od.loc 9 80) (hr := fun w => by have hx9 := HNE.out; go_simp)) ?_
    refine Rc (pk (Od.loc 7 78) (Od.lc 10 81)) ?_
    exact RgAll.nil
   intro v W21 e1 hΦ _
   replace S := S.mono e1
   have v11 : v 11 = .bool true := hΦ 11 (by decide)
   simp only [layL, Act.put, List.setIfInBounds_toArray, List.set_cons_zero, List.set_cons_succ, Nat.reduceAdd]
   rw [v11]
   clear v11 hΦ e1
   refine wpList_nil ?_
   go_upto_region 18 with (fail)
   refine rgs 1 [some 83] [IsQ (IsI 0 0) (IsI 0 0)] [] ?_ ?_
   ·refine Rc (b0 z_Rat nilQ) ?_
    exact RgAll.nil
   intro v W22 e1 hΦ _
   replace S := S.mono e1
   have h83 := hΦ 0 (by decide)
   simp only [layL, Act.put, List.setIfInBounds_toArray, List.set_cons_zero, List.set_cons_succ]
   clear hΦ e1
   try simp only [List.drop_succ_cons, List.drop_zero]
   (with_reducible refine stL ?_ (by rfl)); intro KK hKK; refine stQ S 5 4 (w.heap.size) 0 h83 (IsI.gstb _ _) (IsI.gstb _ _) st_Rat (fun W23 S2 G2 => hKK _ _ ?_) rfl rfl
   replace S := S2; clear S2 G2 hKK KK h83
   simp only [List.set_cons_zero, List.set_cons_succ] at S
   refine wpList_step fun K hK => ?_; go_simp; refine hK _ _ ?_; clear hK K
   refine wpList_nil ?_
   go_wp2_with fail
   obtain ⟨s90x, a90x, n90x, c90x, b90x, h90x⟩ := S.at 5 (w.heap.size) 0 (IsI 0 0) rfl; have L90xa : World.cell? W23 ⟨w.heap.size, 0, none⟩ = some (.bool s90x) := b90x.c0; have L90xb : World.cell? W23 ⟨w.heap.size, 1, none⟩ = some (.slice a90x n90x c90x) := b90x.c1
   obtain ⟨s90y, a90y, n90y, c90y, b90y, h90y⟩ := S.at 4 (w.heap.size) 1 (IsI 0 0) rfl; have L90ya : World.cell? W23 ⟨w.heap.size, 2, none⟩ = some (.bool s90y) := b90y.c0; have L90yb : World.cell? W23 ⟨w.heap.size, 3, none⟩ = some (.slice a90y n90y c90y) := b90y.c1
   exact bodyPost_ret (v := .tuple #[.agg #[.bool s90x, .slice a90x n90x c90x, .bool s90y, .slice a90y n90y c90y], .int .i64 3]) (by simp [results, Tryz.results17, go_sem, L90xa, L90xb, L90ya, L90yb]) rfl (⟨_, rfl, S.ext, ⟨_, _, rfl, ⟨_, _, _, _, _, _, _, _, rfl, h90x, h90y⟩, rfl⟩⟩)

set_option maxRecDepth 100000 in
set_option maxHeartbeats 4000000 in
theorem rqParse_Tk (w : World) (s : ByteArray) (kk : Nat) (HS : Hid (s.size ≤ 2601)) (HSB : Hid (decide ((2601 : Int) < (s.size : Int)) = false)) (HKK : Hid (kk ≤ s.size)) (HNS : Hid (∀ (j : Nat) (h : j < s.size), j < kk → s[j].toNat ≠ 47)) (HYS : Hid (∀ h : kk < s.size, s[kk].toNat = 47)) (ta : ByteArray) (HTA : Hid (s.extract 0 kk = ta)) (z1 z2 : Int) (H1 : Hid (parseZ ta.data.toList = z1 ∧ parseE ta.data.toList = 0)) (HSL : Hid (decide ((kk : Int) < (s.size : Int)) = true)) (tb : ByteArray) (HTB : Hid (kk + 1 ≤ s.size ∧ s.extract (kk + 1) s.size = tb)) (HAD : Hid (IntKind.i64.wrap ((kk : Int) + 1) = ((kk + 1 : Nat) : Int))) (H2 : Hid (parseZ tb.data.toList = z2 ∧ parseE tb.data.toList = 0)) (td : ByteArray) (HX1 : Hid (encS (textS z1) = .string ta ∧ textE z1 = 0)) (HX2 : Hid (encS (textS z2) = .string td ∧ textE z2 = 0)) (HX3 : Hid (ta.size ≤ 100000 ∧ td.size ≤ 100000)) (HX4 : Hid ((if td = ⟨#[49]⟩ then ta else ta ++ (⟨#[47]⟩ : ByteArray) ++ td) = s)) (HV : Hid (validQ z1 z2 = true)) :
  Calls Tryz.prog 17 #[.string s] w (Ret w (IsT2 (IsQ (IsI 136 z1) (IsI 136 z2)) (IsV (.int .i64 0)))) := by
 obtain ⟨W, hW, S⟩ : ∃ W, W = w.alloc (.cells #[.bool false, .slice none 0 0, .bool false, .slice none 0 0] 31) ∧ Sto w W [((w.heap.size, 1), IsI 0 0), ((w.heap.size, 0), IsI 0 0)] := ⟨_, rfl, ((Sto.start w).new2 (w.heap.size) (by simp) false false none none 0 0 0 0 31 (IsI 0 0) (IsI 0 0) (IsI.gstb _ _) (IsI.nil _ _) (IsI.gstb _ _) (IsI.nil _ _))⟩
 go_enter Tryz.func17, Tryz.ntmps17
 go_upto_region 1 with (fail)
 rw [← hW]
 clear hW
 refine rgs 3 [some 13, some 14, some 15] [IsV (.string s), IsV (.int .i64 ((s).size)), IsV (.bool false)] [] ?_ ?_
 ·refine Rc (mv (Od.lit 0)) ?_
  refine RgAll.cons (by { (with_reducible refine RgL.mk (by rfl) ?_); intro v a w' hE hd hf; have d0 : v 0 = .string s := hd 0 (by kernel_rfl); have ev0 := hf.val 0 13 _ d0 (by kernel_rfl) (by kernel_rfl) (by kernel_rfl); clear d0; clear hd hf; intro K hK; go_simp; exact hK.out _ _ (Ext.refl _) rfl (FreshIf.no rfl) }) ?_
  refine Rc (bn (r := .bool false) (Od.loc 1 14) Od.con (hr := fun w => by have hs9 := HSB.out; go_simp)) ?_
  exact RgAll.nil
 intro v W1 e1 hΦ _
 replace S := S.mono e1
 have v2 : v 2 = .bool false := hΦ 2 (by decide)
 simp only [layL, Act.put, List.setIfInBounds_toArray, List.set_cons_zero, List.set_cons_succ, Nat.reduceAdd]
 rw [v2]
 clear v2 hΦ e1
 refine wpList_nil ?_
 go_upto_region 3 with (fail)
 refine rgs 3 [some 17, some 18, some 4] [IsV (.string s), IsV (.int .i64 ((s).size)), IsV (.int .i64 ((s).size))] [] ?_ ?_
 ·refine Rc (mv (Od.lit 0)) ?_
  refine RgAll.cons (by { (with_reducible refine RgL.mk (by rfl) ?_); intro v a w' hE hd hf; have d0 : v 0 = .string s := hd 0 (by kernel_rfl); have ev0 := hf.val 0 17 _ d0 (by kernel_rfl) (by kernel_rfl) (by kernel_rfl); clear d0; clear hd hf; intro K hK; go_simp; exact hK.out _ _ (Ext.refl _) rfl (FreshIf.no rfl) }) ?_
  refine Rc (mv (Od.lc 1 18)) ?_
  exact RgAll.nil
 intro v W2 e1 hΦ _
 replace S := S.mono e1
 have v2 : v 2 = .int .i64 ((s).size) := hΦ 2 (by decide)
 simp only [layL, Act.put, List.setIfInBounds_toArray, List.set_cons_zero, List.set_cons_succ, Nat.reduceAdd]
 rw [v2]
 clear v2 hΦ e1
 refine wpList_nil ?_
 go_upto_region 4 with (fail)
 refine rgs 1 [some 5] [IsV (.int .i64 0)] [] ?_ ?_
 ·refine Rc (mv Od.con) ?_
  exact RgAll.nil
 intro v W3 e1 hΦ _
 replace S := S.mono e1
 have v0 : v 0 = .int .i64 0 := hΦ 0 (by decide)
 simp only [layL, Act.put, List.setIfInBounds_toArray, List.set_cons_zero, List.set_cons_succ]
 rw [v0]
 clear v0 hΦ e1
 refine wpList_nil ?_
 go_wp2_with fail
 have S0 := hid S; clear S
 go_loopg [4, 5] s.size (fun gk v4 v5 wr => ∃ i aa : Nat, v5 = .int .i64 ((i : Nat) : Int) ∧ v4 = .int .i64 ((aa : Nat) : Int) ∧ i + gk = s.size ∧ ((i ≤ kk ∧ aa = s.size) ∨ (i = kk + 1 ∧ kk < s.size ∧ aa = kk)) ∧ Hid (Sto w wr [((w.heap.size, 1), IsI 0 0), ((w.heap.size, 0), IsI 0 0)]))
 case atStart => exact ⟨0, s.size, rfl, rfl, by omega, .inl ⟨by omega, rfl⟩, S0⟩
 case round =>
  clear S0
  obtain ⟨i, aa, rfl, rfl, hn, hst, S⟩ := hrel
  have S := S.out
  have HKK' := HKK.out
  by_cases hgo : i < s.size ∧ aa = s.size
  ·obtain ⟨hin, rfl⟩ := hgo
   have hik : i ≤ kk := by omega
   by_cases hki : i = kk
   ·skip
    obtain ⟨bb, hbb⟩ : ∃ b, (s[i]'hin).toNat = b := ⟨_, rfl⟩
    have HHIT := hid (show ((bb : Nat) : Int) = 47 by have := HYS.out (hki ▸ hin); subst hki; rw [← hbb, this]; rfl)
    have HBB := hid hbb
    have HLT := hid (show (i : Int) < ((s.size : Nat) : Int) by omega)
    have HIN := hid hin
    have HHN := hid hn; have HKI := hid hki; have HIK := hid hik
    have HADD := hid (show IntKind.i64.wrap ((i : Int) + 1) = (i : Int) + 1 by have := HS.out; simp only [IntKind.wrap_i64]; omega)
    clear hbb hn hki hik HKK'
    go_upto_region 5 with (fail)
    refine rgs 10 [some 19, some 20, some 21, some 22, some 23, some 24, some 25, some 26, some 27, some 28] [IsV (.int .i64 ((i : Nat) : Int)), IsV (.string s), IsV (.int .i64 ((s).size)), IsV (.bool true), IsV (.bool true), IsV (.int .i64 ((s.size : Nat) : Int)), IsV (.string s), IsV (.int .i64 ((s).size)), IsV (.bool true), IsV (.bool true)] [] ?_ ?_
    ·refine Rc (mv (Od.lit 5)) ?_
     refine Rc (mv (Od.lit 0)) ?_
     refine RgAll.cons (by { (with_reducible refine RgL.mk (by rfl) ?_); intro v a w' hE hd hf; have d0 : v 1 = .string s := hd 1 (by kernel_rfl); have ev0 := hf.val 1 20 _ d0 (by kernel_rfl) (by kernel_rfl) (by kernel_rfl); clear d0; clear hd hf; intro K hK; go_simp; exact hK.out _ _ (Ext.refl _) rfl (FreshIf.no rfl) }) ?_
     refine Rc (bn (r := .bool true) (Od.loc 0 19) (Od.loc 2 21) (hr := fun w => by have hx9 := HLT.out; go_simp)) ?_
     refine Rc (mv (Od.lc 3 22)) ?_
     refine RcG 4 23 true (mv (Od.lit 4)) ?_
     refine RcG 4 23 true (mv (Od.lit 0)) ?_
     refine RgAll.cons (by { (with_reducible refine RgL.mkG 4 23 true (by rfl) (by kernel_rfl) (by kernel_rfl) (by kernel_rfl) (by kernel_rfl) (by kernel_rfl) ?_ ?_); (focus (intro _ _ h; exact h)); intro v a w' hE hd hf; have d0 : v 6 = .string s := hd 6 (by kernel_rfl); have ev0 := hf.val 6 25 _ d0 (by kernel_rfl) (by kernel_rfl) (by kernel_rfl); clear d0; clear hd hf; intro K hK; go_simp; exact hK.out _ _ (Ext.refl _) rfl (FreshIf.no rfl) }) ?_
     refine RcG 4 23 true (bn (r := .bool true) (Od.loc 5 24) (Od.loc 7 26) (hr := fun w => by go_simp)) ?_
     refine Rc (pk (Od.loc 4 23) (Od.lc 8 27)) ?_
     exact RgAll.nil
    intro v W4 e1 hΦ _
    replace S := S.mono e1
    have v9 : v 9 = .bool true := hΦ 9 (by decide)
    simp only [layL, Act.put, List.setIfInBounds_toArray, List.set_cons_zero, List.set_cons_succ, Nat.reduceAdd]
    rw [v9]
    clear v9 hΦ e1
    refine wpList_nil ?_
    go_upto_region 7 with (fail)
    refine rgs 4 [some 31, some 32, some 33, some 34] [IsV (.string s), IsV (.int .i64 ((i : Nat) : Int)), IsV (.int .u8 ((bb : Nat) : Int)), IsV (.bool true)] [] ?_ ?_
    ·refine Rc (mv (Od.lit 0)) ?_
     refine Rc (mv (Od.lit 5)) ?_
     refine Rc (ixs (fun w => HBB.out ▸ idS s i HIN.out w) (Od.lc 0 31) (Od.lc 1 32)) ?_
     refine Rc (bn (r := .bool true) (Od.loc 2 33) Od.con (hr := fun w => by have hx9 := HHIT.out; go_simp)) ?_
     exact RgAll.nil
    intro v W5 e1 hΦ _
    replace S := S.mono e1
    have v3 : v 3 = .bool true := hΦ 3 (by decide)
    simp only [layL, Act.put, List.setIfInBounds_toArray, List.set_cons_zero, List.set_cons_succ, Nat.reduceAdd]
    rw [v3]
    clear v3 hΦ e1
    refine wpList_nil ?_
    go_upto_region 8 with (fail)
    refine rgs 2 [some 35, some 4] [IsV (.int .i64 ((i : Nat) : Int)), IsV (.int .i64 ((i : Nat) : Int))] [] ?_ ?_
    ·refine Rc (mv (Od.lit 5)) ?_
     refine Rc (mv (Od.lc 0 35)) ?_
     exact RgAll.nil
    intro v W6 e1 hΦ _
    replace S := S.mono e1
    have v1 : v 1 = .int .i64 ((i : Nat) : Int) := hΦ 1 (by decide)
    simp only [layL, Act.put, List.setIfInBounds_toArray, List.set_cons_zero, List.set_cons_succ, Nat.reduceAdd]
    rw [v1]
    clear v1 hΦ e1
    refine wpList_nil ?_
    have hx9 := HADD.out
    have S' := hid S; clear S
    go_wp2_with fail
    go_roundg (gk - 1)
    case measure => have := HHN.out; have := HIN.out; omega
    case rel => exact ⟨i + 1, i, by rw [Int.natCast_add]; rfl, rfl, by have := HHN.out; have := HIN.out; omega, .inr (by have := HKI.out; have := HIN.out; omega), S'⟩
   ·skip
    obtain ⟨bb, hbb⟩ : ∃ b, (s[i]'hin).toNat = b := ⟨_, rfl⟩
    have HHIT := hid (show (((bb : Nat) : Int) == 47) = false by rw [beq_eq_false_iff_ne, ← hbb]; have := HNS.out i hin (by omega); omega)
    have HBB := hid hbb
    have HLT := hid (show (i : Int) < ((s.size : Nat) : Int) by omega)
    have HIN := hid hin
    have HHN := hid hn; have HKI := hid hki; have HIK := hid hik
    have HADD := hid (show IntKind.i64.wrap ((i : Int) + 1) = (i : Int) + 1 by have := HS.out; simp only [IntKind.wrap_i64]; omega)
    clear hbb hn hki hik HKK'
    go_upto_region 5 with (fail)
    refine rgs 10 [some 19, some 20, some 21, some 22, some 23, some 24, some 25, some 26, some 27, some 28] [IsV (.int .i64 ((i : Nat) : Int)), IsV (.string s), IsV (.int .i64 ((s).size)), IsV (.bool true), IsV (.bool true), IsV (.int .i64 ((s.size : Nat) : Int)), IsV (.string s), IsV (.int .i64 ((s).size)), IsV (.bool true), IsV (.bool true)] [] ?_ ?_
    ·refine Rc (mv (Od.lit 5)) ?_
     refine Rc (mv (Od.lit 0)) ?_
     refine RgAll.cons (by { (with_reducible refine RgL.mk (by rfl) ?_); intro v a w' hE hd hf; have d0 : v 1 = .string s := hd 1 (by kernel_rfl); have ev0 := hf.val 1 20 _ d0 (by kernel_rfl) (by kernel_rfl) (by kernel_rfl); clear d0; clear hd hf; intro K hK; go_simp; exact hK.out _ _ (Ext.refl _) rfl (FreshIf.no rfl) }) ?_
     refine Rc (bn (r := .bool true) (Od.loc 0 19) (Od.loc 2 21) (hr := fun w => by have hx9 := HLT.out; go_simp)) ?_
     refine Rc (mv (Od.lc 3 22)) ?_
     refine RcG 4 23 true (mv (Od.lit 4)) ?_
     refine RcG 4 23 true (mv (Od.lit 0)) ?_
     refine RgAll.cons (by { (with_reducible refine RgL.mkG 4 23 true (by rfl) (by kernel_rfl) (by kernel_rfl) (by kernel_rfl) (by kernel_rfl) (by kernel_rfl) ?_ ?_); (focus (intro _ _ h; exact h)); intro v a w' hE hd hf; have d0 : v 6 = .string s := hd 6 (by kernel_rfl); have ev0 := hf.val 6 25 _ d0 (by kernel_rfl) (by kernel_rfl) (by kernel_rfl); clear d0; clear hd hf; intro K hK; go_simp; exact hK.out _ _ (Ext.refl _) rfl (FreshIf.no rfl) }) ?_
     refine RcG 4 23 true (bn (r := .bool true) (Od.loc 5 24) (Od.loc 7 26) (hr := fun w => by go_simp)) ?_
     refine Rc (pk (Od.loc 4 23) (Od.lc 8 27)) ?_
     exact RgAll.nil
    intro v W7 e1 hΦ _
    replace S := S.mono e1
    have v9 : v 9 = .bool true := hΦ 9 (by decide)
    simp only [layL, Act.put, List.setIfInBounds_toArray, List.set_cons_zero, List.set_cons_succ, Nat.reduceAdd]
    rw [v9]
    clear v9 hΦ e1
    refine wpList_nil ?_
    go_upto_region 7 with (fail)
    refine rgs 4 [some 31, some 32, some 33, some 34] [IsV (.string s), IsV (.int .i64 ((i : Nat) : Int)), IsV (.int .u8 ((bb : Nat) : Int)), IsV (.bool false)] [] ?_ ?_
    ·refine Rc (mv (Od.lit 0)) ?_
     refine Rc (mv (Od.lit 5)) ?_
     refine Rc (ixs (fun w => HBB.out ▸ idS s i HIN.out w) (Od.lc 0 31) (Od.lc 1 32)) ?_
     refine Rc (bn (r := .bool false) (Od.loc 2 33) Od.con (hr := fun w => by have hx9 := HHIT.out; go_simp)) ?_
     exact RgAll.nil
    intro v W8 e1 hΦ _
    replace S := S.mono e1
    have v3 : v 3 = .bool false := hΦ 3 (by decide)
    simp only [layL, Act.put, List.setIfInBounds_toArray, List.set_cons_zero, List.set_cons_succ, Nat.reduceAdd]
    rw [v3]
    clear v3 hΦ e1
    refine wpList_nil ?_
    have hx9 := HADD.out
    have S' := hid S; clear S
    go_wp2_with fail
    go_roundg (gk - 1)
    case measure => have := HHN.out; have := HIN.out; omega
    case rel => exact ⟨i + 1, s.size, by rw [Int.natCast_add]; rfl, rfl, by have := HHN.out; have := HIN.out; omega, .inl (by have := HKI.out; have := HIK.out; omega), S'⟩
  ·skip
   obtain rfl : aa = kk := by omega
   obtain ⟨bi, hbi⟩ : ∃ b, decide ((i : Int) < (s.size : Int)) = b := ⟨_, rfl⟩
   obtain ⟨ba, hba⟩ : ∃ b, (((aa : Nat) : Int) == ((s.size : Nat) : Int)) = b := ⟨_, rfl⟩
   have HBI := hid (show decide ((i : Int) < (s.size : Int)) = bi ∧ decide (i < s.size) = bi from ⟨hbi, by rw [← hbi]; exact decide_eq_decide.2 (by omega)⟩)
   have HBA := hid (show (((aa : Nat) : Int) == ((s.size : Nat) : Int)) = ba ∧ (aa == s.size) = ba from ⟨hba, by rw [← hba, Bool.eq_iff_iff, beq_iff_eq, beq_iff_eq]; omega⟩)
   have HBB := hid (show (bi && ba) = false by
    rw [← hbi, ← hba, Bool.eq_false_iff]; intro k; simp only [Bool.and_eq_true, decide_eq_true_eq, beq_iff_eq] at k; exact hgo ⟨by omega, by omega⟩)
   clear hn hst hgo HKK' hbi hba
   go_upto_region 5 with (fail)
   refine rgs 10 [some 19, some 20, some 21, some 22, some 23, some 24, some 25, some 26, some 27, some 28] [IsV (.int .i64 ((i : Nat) : Int)), IsV (.string s), IsV (.int .i64 ((s).size)), IsV (.bool bi), IsV (.bool bi), IsIf (bi) (IsV (.int .i64 ((aa : Nat) : Int))), IsIf (bi) (IsV (.string s)), IsIf (bi) (IsV (.int .i64 ((s.size : Nat) : Int))), IsIf (bi) (IsV (.bool ba)), IsV (.bool false)] [] ?_ ?_ (hst := by repeat' (first | exact trivial | apply IsIf.stb | exact IsV.stb _ | exact IsI.stb _ _ | apply IsJ.stb | apply IsQ.stb | apply And.intro))
   ·refine Rc (mv (Od.lit 5)) ?_
    refine Rc (mv (Od.lit 0)) ?_
    refine RgAll.cons (by { (with_reducible refine RgL.mk (by rfl) ?_); intro v a w' hE hd hf; have d0 : v 1 = .string s := hd 1 (by kernel_rfl); have ev0 := hf.val 1 20 _ d0 (by kernel_rfl) (by kernel_rfl) (by kernel_rfl); clear d0; clear hd hf; intro K hK; go_simp; exact hK.out _ _ (Ext.refl _) rfl (FreshIf.no rfl) }) ?_
    refine Rc (bn (r := .bool bi) (Od.loc 0 19) (Od.loc 2 21) (hr := fun w => by have hx9 := HBI.out.1; have hx8 := HBI.out.2; go_simp)) ?_
    refine Rc (mv (Od.lc 3 22)) ?_
    refine RcB 4 23 bi true (fun hb => by subst hb; exact mv (Od.lit 4)) ?_
    refine RcB 4 23 bi true (fun hb => by subst hb; exact mv (Od.lit 0)) ?_
    refine RcB 4 23 bi true (fun hb => by subst hb; exact lenS (Od.lc (Φ := IsV (.string s)) 6 25)) ?_
    refine RcB 4 23 bi true (fun hb => by subst hb; exact bn (r := .bool ba) (Od.loc 5 24) (Od.loc 7 26) (hr := fun w => by have hx9 := HBA.out.1; have hx8 := HBA.out.2; go_simp)) ?_
    refine Rc (pkA (b2 := ba) (Od.loc 4 23) (fun hb => by subst hb; exact Od.lc 8 27) (HBB.out)) ?_
    exact RgAll.nil
   intro v W9 e1 hΦ _
   replace S := S.mono e1
   have v9 : v 9 = .bool false := hΦ 9 (by decide)
   simp only [layL, Act.put, List.setIfInBounds_toArray, List.set_cons_zero, List.set_cons_succ, Nat.reduceAdd]
   rw [v9]
   clear v9 hΦ e1
   refine wpList_nil ?_
   go_upto_region 9 with (fail)
   have hl := hid S.lt; have hw := S.ext.size
   refine rgs 8 [some 37, some 38, some 39, some 40, some 36, some 41, some 42, some 6] [IsV (.string s), IsV (.int .i64 ((aa : Nat) : Int)), IsV (.string ta), IsT2 (IsI 136 z1) (IsV (.int .i64 0)), IsT2 (IsI 136 z1) (IsV (.int .i64 0)), IsI 136 z1, IsV (.int .i64 0), IsBo W9 1] [7] ?_ ?_
   ·refine Rc (mv (Od.lit 0)) ?_
    refine Rc (mv (Od.lit 4)) ?_
    refine Rc (slH (fun w => HTA.out ▸ slS1 s aa HKK.out w) (Od.lc 0 37) (Od.lc 1 38)) ?_
    refine Rc (cl1 (en Tryz.func74) (Od.lc (Φ := IsV (.string ta)) 2 39) (fun x0 w' hE d0 => by { obtain rfl : x0 = .string ta := d0; exact (by have hh := RParse_f w' ta; rw [H1.out.1, H1.out.2] at hh; exact hh) })) ?_
    refine Rc (mv (Od.lc 3 40)) ?_
    refine Rc (ex (Od.loc 4 36) t20) ?_
    refine Rc (ex (Od.loc 4 36) t21) ?_
    refine Rc (al al_Int) ?_
    exact RgAll.nil
   intro v W10 e1 hΦ _
   replace S := S.mono e1
   have h41 := hΦ 5 (by decide)
   have v6 : v 6 = .int .i64 0 := hΦ 6 (by decide)
   obtain ⟨g6, v7, q2, b1, _⟩ := (hΦ 7 (by decide) : IsBo W9 1 (v 7) W10)
   replace S := S.addN 1 (ApartO.old hl.out q2) (Nat.le_trans hw q2) b1
   simp only [newF, List.cons_append, List.nil_append] at S
   simp only [layL, Act.put, List.setIfInBounds_toArray, List.set_cons_zero, List.set_cons_succ, Nat.reduceAdd]
   rw [v6, v7]
   clear b1 hl hw v6 v7 hΦ e1
   try simp only [List.drop_succ_cons, List.drop_zero]
   (with_reducible refine stL ?_ (by rfl)); intro KK hKK; refine stI S 0 (g6) 0 h41 st_Int (fun W11 S2 G2 => hKK _ _ ?_) rfl
   replace S := S2; clear S2 G2 hKK KK h41
   simp only [List.set_cons_zero] at S
   refine wpList_step fun K hK => ?_; go_simp; refine hK _ _ ?_; clear hK K
   refine wpList_nil ?_
   go_upto_region 10 with (fail)
   have hl := hid S.lt; have hw := S.ext.size
   refine rgs 2 [some 43, some 8] [IsI 2 1, IsBo W11 1] [1] ?_ ?_
   ·refine Rc (cl1 (en Tryz.func24) Od.con (fun x0 w' hE d0 => by { obtain rfl : x0 = .int .i64 1 := d0; exact ROf_f _ 1 (by decide) (by decide) })) ?_
    refine Rc (al al_Int) ?_
    exact RgAll.nil
   intro v W12 e1 hΦ _
   replace S := S.mono e1
   have h43 := hΦ 0 (by decide)
   obtain ⟨g8, v1, q4, b3, _⟩ := (hΦ 1 (by decide) : IsBo W11 1 (v 1) W12)
   replace S := S.addN 1 (ApartO.old hl.out q4) (Nat.le_trans hw q4) b3
   simp only [newF, List.cons_append, List.nil_append] at S
   simp only [layL, Act.put, List.setIfInBounds_toArray, List.set_cons_zero, List.set_cons_succ, Nat.reduceAdd]
   rw [v1]
   clear b3 hl hw v1 hΦ e1
   try simp only [List.drop_succ_cons, List.drop_zero]
   (with_reducible refine stL ?_ (by rfl)); intro KK hKK; refine stI S 0 (g8) 0 h43 st_Int (fun W13 S2 G2 => hKK _ _ ?_) rfl
   replace S := S2; clear S2 G2 hKK KK h43
   simp only [List.set_cons_zero] at S
   refine wpList_step fun K hK => ?_; go_simp; refine hK _ _ ?_; clear hK K
   refine wpList_nil ?_
   go_upto_region 11 with (fail)
   refine rgs 4 [some 44, some 45, some 46, some 47] [IsV (.int .i64 ((aa : Nat) : Int)), IsV (.string s), IsV (.int .i64 ((s).size)), IsV (.bool true)] [] ?_ ?_
   ·refine Rc (mv (Od.lit 4)) ?_
    refine Rc (mv (Od.lit 0)) ?_
    refine RgAll.cons (by { (with_reducible refine RgL.mk (by rfl) ?_); intro v a w' hE hd hf; have d0 : v 1 = .string s := hd 1 (by kernel_rfl); have ev0 := hf.val 1 45 _ d0 (by kernel_rfl) (by kernel_rfl) (by kernel_rfl); clear d0; clear hd hf; intro K hK; go_simp; exact hK.out _ _ (Ext.refl _) rfl (FreshIf.no rfl) }) ?_
    refine Rc (bn (r := .bool true) (Od.loc 0 44) (Od.loc 2 46) (hr := fun w => by have hx9 := HSL.out; have hx8 : aa < s.size := (by have := of_decide_eq_true HSL.out; omega); go_simp)) ?_
    exact RgAll.nil
   intro v W14 e1 hΦ _
   replace S := S.mono e1
   have v3 : v 3 = .bool true := hΦ 3 (by decide)
   simp only [layL, Act.put, List.setIfInBounds_toArray, List.set_cons_zero, List.set_cons_succ, Nat.reduceAdd]
   rw [v3]
   clear v3 hΦ e1
   refine wpList_nil ?_
   go_upto_region 12 with (fail)
   refine rgs 8 [some 49, some 50, some 51, some 52, some 53, some 48, some 54, some 55] [IsV (.string s), IsV (.int .i64 ((aa : Nat) : Int)), IsV (.int .i64 ((aa + 1 : Nat) : Int)), IsV (.string tb), IsT2 (IsI 136 z2) (IsV (.int .i64 0)), IsT2 (IsI 136 z2) (IsV (.int .i64 0)), IsI 136 z2, IsV (.int .i64 0)] [] ?_ ?_
   ·refine Rc (mv (Od.lit 0)) ?_
    refine Rc (mv (Od.lit 4)) ?_
    refine Rc (bn (r := .int .i64 ((aa + 1 : Nat) : Int)) (Od.loc 1 50) Od.con (hr := fun w => by have hx9 := HAD.out; go_simp)) ?_
    refine Rc (slL (fun w => HTB.out.2 ▸ slS2 s (aa + 1) HTB.out.1 w) (Od.lc 0 49) (Od.lc 2 51)) ?_
    refine Rc (cl1 (en Tryz.func74) (Od.lc (Φ := IsV (.string tb)) 3 52) (fun x0 w' hE d0 => by { obtain rfl : x0 = .string tb := d0; exact (by have hh := RParse_f w' tb; rw [H2.out.1, H2.out.2] at hh; exact hh) })) ?_
    refine Rc (mv (Od.lc 4 53)) ?_
    refine Rc (ex (Od.loc 5 48) t20) ?_
    refine Rc (ex (Od.loc 5 48) t21) ?_
    exact RgAll.nil
   intro v W15 e1 hΦ _
   replace S := S.mono e1
   have h54 := hΦ 6 (by decide)
   have v7 : v 7 = .int .i64 0 := hΦ 7 (by decide)
   simp only [layL, Act.put, List.setIfInBounds_toArray, List.set_cons_zero, List.set_cons_succ, Nat.reduceAdd]
   rw [v7]
   clear v7 hΦ e1
   try simp only [List.drop_succ_cons, List.drop_zero]
   (with_reducible refine stL ?_ (by rfl)); intro KK hKK; refine stI S 0 (g8) 0 h54 st_Int (fun W16 S2 G2 => hKK _ _ ?_) rfl
   replace S := S2; clear S2 G2 hKK KK h54
   simp only [List.set_cons_zero] at S
   refine wpList_step fun K hK => ?_; go_simp; refine hK _ _ ?_; clear hK K
   refine wpList_nil ?_
   go_upto_region 13 with (fail)
   refine rgs 6 [some 56, some 57, some 58, some 59, some 60, some 61] [IsV (.int .i64 0), IsV (.bool false), IsV (.bool false), IsV (.int .i64 0), IsV (.bool false), IsV (.bool false)] [] ?_ ?_
   ·refine Rc (mv (Od.lit 7)) ?_
    refine Rc (bn (r := .bool false) (Od.loc 0 56) Od.con (hr := fun w => by go_simp)) ?_
    refine Rc (mv (Od.lc 1 57)) ?_
    refine RcG 2 58 false (mv (Od.lit 9)) ?_
    refine RcG 2 58 false (bn (r := .bool false) (Od.loc 3 59) Od.con (hr := fun w => by go_simp)) ?_
    refine Rc (pk (Od.loc 2 58) (Od.lc 4 60)) ?_
    exact RgAll.nil
   intro v W17 e1 hΦ _
   replace S := S.mono e1
   have v5 : v 5 = .bool false := hΦ 5 (by decide)
   simp only [layL, Act.put, List.setIfInBounds_toArray, List.set_cons_zero, List.set_cons_succ, Nat.reduceAdd]
   rw [v5]
   clear v5 hΦ e1
   refine wpList_nil ?_
   go_upto_region 15 with (fail)
   have hl := hid S.lt; have hw := S.ext.size
   refine rgs 4 [some 63, some 64, some 65, some 10] [IsI 136 z1, IsI 136 z2, IsQ (IsI 136 z1) (IsI 136 z2), IsBo W17 2] [3] ?_ ?_
   ·refine Rc (ldI S 1 (g6) 0 (Od.lit 6) ld_Int) ?_
    refine Rc (ldI S 0 (g8) 0 (Od.lit 8) ld_Int) ?_
    refine Rc (bq (Od.loc 0 63) (Od.loc 1 64) bd_Rat) ?_
    refine Rc (al al_Rat) ?_
    exact RgAll.nil
   intro v W18 e1 hΦ _
   replace S := S.mono e1
   have h65 := hΦ 2 (by decide)
   obtain ⟨g10, v3, q6, b5, _⟩ := (hΦ 3 (by decide) : IsBo W17 2 (v 3) W18)
   replace S := S.addN 2 (ApartO.old hl.out q6) (Nat.le_trans hw q6) b5
   simp only [newF, List.cons_append, List.nil_append] at S
   simp only [layL, Act.put, List.setIfInBounds_toArray, List.set_cons_zero, List.set_cons_succ, Nat.reduceAdd]
   rw [v3]
   clear b5 hl hw v3 hΦ e1
   try simp only [List.drop_succ_cons, List.drop_zero]
   (with_reducible refine stL ?_ (by rfl)); intro KK hKK; refine stQ S 1 0 (g10) 0 h65 (IsI.gstb _ _) (IsI.gstb _ _) st_Rat (fun W19 S2 G2 => hKK _ _ ?_) rfl rfl
   replace S := S2; clear S2 G2 hKK KK h65
   simp only [List.set_cons_zero, List.set_cons_succ] at S
   refine wpList_nil ?_
   go_upto_region 16 with (fail)
   refine rgs 7 [some 67, some 68, some 66, some 69, some 70, some 11, some 12] [IsQ (IsI 136 z1) (IsI 136 z2), IsT2 (IsV (.string s)) (IsV (.int .i64 0)), IsT2 (IsV (.string s)) (IsV (.int .i64 0)), IsV (.string s), IsV (.int .i64 0), IsV (.string s), IsV (.int .i64 0)] [] ?_ ?_
   ·refine Rc (ldQ S 1 0 (g10) 0 (Od.lit 10) ld_Rat rfl rfl) ?_
    refine Rc (cl1 (en Tryz.func15) (Od.lc (Φ := IsQ (IsI 136 z1) (IsI 136 z2)) 0 67) (fun x0 w' hE d0 => rqText_u (d0.up (by decide) (by decide)) (k := 136) (by decide) _ _ _ HX1.out HX2.out HX3.out HX4.out)) ?_
    refine Rc (mv (Od.lc 1 68)) ?_
    refine Rc (ex (Od.loc 2 66) t20) ?_
    refine Rc (ex (Od.loc 2 66) t21) ?_
    refine Rc (mv (Od.lc 3 69)) ?_
    refine Rc (mv (Od.lc 4 70)) ?_
    exact RgAll.nil
   intro v W20 e1 hΦ _
   replace S := S.mono e1
   have v5 : v 5 = .string s := hΦ 5 (by decide)
   have v6 : v 6 = .int .i64 0 := hΦ 6 (by decide)
   simp only [layL, Act.put, List.setIfInBounds_toArray, List.set_cons_zero, List.set_cons_succ, Nat.reduceAdd]
   rw [v5, v6]
   clear v5 v6 hΦ e1
   refine wpList_nil ?_
   go_upto_region 17 with (fail)
   refine rgs 12 [some 71, some 72, some 73, some 74, some 75, some 76, some 77, some 78, some 79, some 80, some 81, some 82] [IsQ (IsI 136 z1) (IsI 136 z2), IsV (.bool true), IsV (.bool false), IsV (.bool false), IsV (.int .i64 0), IsV (.bool false), IsV (.bool false), IsV (.bool false), IsV (.string s), IsV (.string s), IsV (.bool false), IsV (.bool false)] [] ?_ ?_
   ·refine Rc (ldQ S 1 0 (g10) 0 (Od.lit 10) ld_Rat rfl rfl) ?_
    refine Rc (cl1 (en Tryz.func40) (Od.lc (Φ := IsQ (IsI 136 z1) (IsI 136 z2)) 0 71) (fun x0 w' hE d0 => (by have hh := rqValid_f (d0.up (k := 136) (K := 136) (by decide) (by decide)) (by decide); rw [HV.out] at hh; exact hh))) ?_
    refine Rc (nt (Od.loc 1 72)) ?_
    refine Rc (mv (Od.lc 2 73)) ?_
    refine RcG 3 74 false (mv (Od.lit 12)) ?_
    refine RcG 3 74 false (bn (r := .bool false) (Od.loc 4 75) Od.con (hr := fun w => by go_simp)) ?_
    refine Rc (pk (Od.loc 3 74) (Od.lc 5 76)) ?_
    refine Rc (mv (Od.lc 6 77)) ?_
    refine RcG 7 78 false (mv (Od.lit 11)) ?_
    refine RcG 7 78 false (mv (Od.lit 0)) ?_
    refine RcG 7 78 false (bn (r := .bool false) (Od.loc 8 79) (Od.loc 9 80) (hr := fun w => by go_simp)) ?_
    refine Rc (pk (Od.loc 7 78) (Od.lc 10 81)) ?_
    exact RgAll.nil
   intro v W21 e1 hΦ _
   replace S := S.mono e1
   have v11 : v 11 = .bool false := hΦ 11 (by decide)
   simp only [layL, Act.put, List.setIfInBounds_toArray, List.set_cons_zero, List.set_cons_succ, Nat.reduceAdd]
   rw [v11]
   clear v11 hΦ e1
   refine wpList_nil ?_
   go_upto_region 19 with (fail)
   refine rgs 1 [some 84] [IsQ (IsI 136 z1) (IsI 136 z2)] [] ?_ ?_
   ·refine Rc (ldQ S 1 0 (g10) 0 (Od.lit 10) ld_Rat rfl rfl) ?_
    exact RgAll.nil
   intro v W22 e1 hΦ _
   replace S := S.mono e1
   have h84 := hΦ 0 (by decide)
   simp only [layL, Act.put, List.setIfInBounds_toArray, List.set_cons_zero, List.set_cons_succ]
   clear hΦ e1
   try simp only [List.drop_succ_cons, List.drop_zero]
   (with_reducible refine stL ?_ (by rfl)); intro KK hKK; refine stQ S 5 4 (w.heap.size) 0 h84 (IsI.gstb _ _) (IsI.gstb _ _) st_Rat (fun W23 S2 G2 => hKK _ _ ?_) rfl rfl
   replace S := S2; clear S2 G2 hKK KK h84
   simp only [List.set_cons_zero, List.set_cons_succ] at S
   refine wpList_step fun K hK => ?_; go_simp; refine hK _ _ ?_; clear hK K
   refine wpList_nil ?_
   go_wp2_with fail
   obtain ⟨s90x, a90x, n90x, c90x, b90x, h90x⟩ := S.at 5 (w.heap.size) 0 (IsI 136 z1) rfl; have L90xa : World.cell? W23 ⟨w.heap.size, 0, none⟩ = some (.bool s90x) := b90x.c0; have L90xb : World.cell? W23 ⟨w.heap.size, 1, none⟩ = some (.slice a90x n90x c90x) := b90x.c1
   obtain ⟨s90y, a90y, n90y, c90y, b90y, h90y⟩ := S.at 4 (w.heap.size) 1 (IsI 136 z2) rfl; have L90ya : World.cell? W23 ⟨w.heap.size, 2, none⟩ = some (.bool s90y) := b90y.c0; have L90yb : World.cell? W23 ⟨w.heap.size, 3, none⟩ = some (.slice a90y n90y c90y) := b90y.c1
   exact bodyPost_ret (v := .tuple #[.agg #[.bool s90x, .slice a90x n90x c90x, .bool s90y, .slice a90y n90y c90y], .int .i64 0]) (by simp [results, Tryz.results17, go_sem, L90xa, L90xb, L90ya, L90yb]) rfl (⟨_, rfl, S.ext, ⟨_, _, rfl, ⟨_, _, _, _, _, _, _, _, rfl, h90x, h90y⟩, rfl⟩⟩)

theorem byte_at (s : ByteArray) (j : Nat) (h : j < s.size) : s.data.toList[j]? = some s[j] := by
 rw [Array.getElem?_toList]; exact Array.getElem?_eq_getElem h
theorem encS_of (b : ByteArray) : encS b.data.toList = .string b := by unfold encS; rw [Array.toArray_toList]
theorem ext_all (s : ByteArray) : s.extract 0 s.size = s := ba_ext (by rw [ext_take]; exact List.take_length)
theorem ext_len (s : ByteArray) (i : Nat) (h : i ≤ s.size) : (s.extract 0 i).size = i := by
 show (s.extract 0 i).data.size = i
 rw [← Array.length_toList, ext_take, List.length_take]
 have : s.data.toList.length = s.size := rfl
 omega
theorem ext_len2 (s : ByteArray) (i : Nat) : (s.extract i s.size).size ≤ s.size := by
 show (s.extract i s.size).data.size ≤ s.size
 rw [← Array.length_toList, ext_drop, List.length_drop]
 have : s.data.toList.length = s.size := rfl
 omega
theorem join_slash (s : ByteArray) (i : Nat) (h : i < s.size) (hi : s[i] = 47) : s.extract 0 i ++ (⟨#[47]⟩ : ByteArray) ++ s.extract (i + 1) s.size = s := by
 refine ba_ext ?_
 rw [ByteArray.data_append, ByteArray.data_append, Array.toList_append, Array.toList_append, ext_take, ext_drop]
 have hl : i < s.data.toList.length := h
 conv => rhs; rw [← List.take_append_drop i s.data.toList, List.drop_eq_getElem_cons hl]
 have e : s.data.toList[i] = 47 := by
  have := byte_at s i h
  rw [List.getElem?_eq_getElem hl, Option.some.injEq] at this
  rw [this]; exact hi
 rw [e]
 simp
theorem text_one : encS (textS 1) = .string ⟨#[49]⟩ ∧ textE 1 = 0 := ⟨by rw [show textS 1 = [49] by decide +kernel]; rfl, by decide +kernel⟩
theorem text_of {b : ByteArray} (h : parseE b.data.toList = 0) : encS (textS (parseZ b.data.toList)) = .string b ∧ textE (parseZ b.data.toList) = 0 := by
 obtain ⟨h1, h2⟩ := text_parse _ h
 exact ⟨by rw [h1, encS_of], h2⟩
theorem or_ne {a b : Int} (h : ¬(a = 0 ∧ b = 0)) : ((a != 0) || (b != 0)) = true := by rw [Bool.or_eq_true, bne_iff_ne, bne_iff_ne]; omega
theorem rqParse_f (w : World) (s : ByteArray) : Calls Tryz.prog 17 #[.string s] w (Ret w (IsT2 (IsQ (IsI 136 (rparN s.data.toList)) (IsI 136 (rparD s.data.toList))) (IsV (.int .i64 (rparE s.data.toList))))) := by
 have up0 : ∀ {e : Int} {e' : Ending} {w' : World}, Ret w (IsT2 (IsQ (IsI 0 0) (IsI 0 0)) (IsV (.int .i64 e))) e' w' → Ret w (IsT2 (IsQ (IsI 136 0) (IsI 136 0)) (IsV (.int .i64 e))) e' w' := fun h => h.mono fun _ _ ⟨a, b, h1, h2, h3⟩ => ⟨a, b, h1, h2.up (by decide) (by decide), h3⟩
 by_cases hL : 2601 < s.size
 ·have h2 : rparE s.data.toList = 2 := by unfold rparE; rw [if_pos (show 2601 < s.data.toList.length from hL)]
  unfold rparN rparD
  rw [h2]
  exact Calls.mono (rqParse_L w s hL) fun _ _ h => up0 h
 have hl : ¬2601 < s.data.toList.length := hL
 have bad : ¬rparOk s.data.toList → rparE s.data.toList = 3 ∧ rparN s.data.toList = 0 ∧ rparD s.data.toList = 0 := fun h => by
  have h3 : rparE s.data.toList = 3 := by unfold rparE; rw [if_neg hl, if_neg h]
  refine ⟨h3, ?_, ?_⟩
  ·unfold rparN; rw [h3]; rfl
  ·unfold rparD; rw [h3]; rfl
 have good : rparOk s.data.toList → rparE s.data.toList = 0 ∧ rparN s.data.toList = parseZ (partU s.data.toList) ∧ rparD s.data.toList = parseZ (partV s.data.toList) := fun h => by
  have h3 : rparE s.data.toList = 0 := by unfold rparE; rw [if_neg hl, if_pos h]
  refine ⟨h3, ?_, ?_⟩
  ·unfold rparN; rw [h3]; rfl
  ·unfold rparD; rw [h3]; rfl
 have hs : s.size ≤ 2601 := by omega
 have hsb : decide ((2601 : Int) < (s.size : Int)) = false := decide_eq_false (by omega)
 have e47 : ∀ b : UInt8, b.toNat = 47 → b = 47 := fun b h => UInt8.toNat_inj.1 h
 by_cases hx : Lib.indexByte s.data.toList 47 = -1
 ·have hU : partU s.data.toList = s.data.toList := by unfold partU; rw [if_pos hx]
  have hV : partV s.data.toList = [49] := by unfold partV; rw [if_pos hx]
  have hB : partB s.data.toList = false := by unfold partB; rw [hx]; rfl
  have hns : ∀ (j : Nat) (h : j < s.size), j < s.size → s[j].toNat ≠ 47 := fun j h _ k => Lib.indexByte_none hx j (by rw [byte_at s j h, e47 _ k])
  have hys : ∀ h : s.size < s.size, s[s.size].toNat = 47 := fun h => absurd h (Nat.lt_irrefl _)
  have hsl : decide ((s.size : Int) < (s.size : Int)) = false := decide_eq_false (by omega)
  by_cases h1 : parseE s.data.toList = 0
  ·obtain ⟨e, n, d⟩ := good ⟨by rw [hU]; exact h1, by rw [hV]; exact parse_one.2, by rw [hV, parse_one.1]; exact validQ_one _, by rw [hB]; exact fun h => nomatch h.1⟩
   rw [e, n, d, hU, hV, parse_one.1]
   exact Calls.mono (rqParse_Fk w s s.size (hid hs) (hid hsb) (hid (Nat.le_refl _)) (hid hns) (hid hys) s (hid (ext_all s)) _ (hid ⟨rfl, h1⟩) (hid hsl) ⟨#[49]⟩ (hid (text_of h1)) (hid text_one) (hid ⟨by omega, by decide⟩) (hid (if_pos rfl)) (hid (validQ_one _))) fun _ _ h => h.mono fun _ _ ⟨a, b, h1, h2, h3⟩ => ⟨a, b, h1, h2.up (by decide) (by decide), h3⟩
  ·obtain ⟨e, n, d⟩ := bad fun h => h1 (by have := h.1; rwa [hU] at this)
   rw [e, n, d]
   exact Calls.mono (rqParse_Fb w s s.size (hid hs) (hid hsb) (hid (Nat.le_refl _)) (hid hns) (hid hys) s (hid (ext_all s)) _ _ _ (hid ⟨rfl, rfl⟩) (hid hsl) (hid rfl) (hid (by simpa using h1))) fun _ _ h => up0 h
 ·obtain ⟨i, hi, hil⟩ := slash_at hx
  have hil' : i < s.size := hil
  have hU : partU s.data.toList = (s.extract 0 i).data.toList := by unfold partU; rw [if_neg hx, ext_take, hi]; rfl
  have hV : partV s.data.toList = (s.extract (i + 1) s.size).data.toList := by unfold partV; rw [if_neg hx, ext_drop, hi]; rfl
  have hB : partB s.data.toList = true := by unfold partB; rw [hi]; simp
  obtain ⟨ha, hb⟩ := Lib.indexByte_some hi
  have h47 : s[i] = 47 := by rw [byte_at s i hil', Option.some.injEq] at ha; exact ha
  have hns : ∀ (j : Nat) (h : j < s.size), j < i → s[j].toNat ≠ 47 := fun j h hj k => hb j hj (by rw [byte_at s j h, e47 _ k])
  have hys : ∀ h : i < s.size, s[i].toNat = 47 := fun h => by rw [h47]; rfl
  have hsl : decide ((i : Int) < (s.size : Int)) = true := decide_eq_true (by omega)
  have had : IntKind.i64.wrap ((i : Int) + 1) = ((i + 1 : Nat) : Int) := by simp only [IntKind.wrap_i64]; omega
  have hlt : (s.extract 0 i).size ≤ 100000 ∧ (s.extract (i + 1) s.size).size ≤ 100000 := ⟨by rw [ext_len s i (by omega)]; omega, Nat.le_trans (ext_len2 s (i + 1)) (by omega)⟩
  by_cases h12 : parseE (s.extract 0 i).data.toList = 0 ∧ parseE (s.extract (i + 1) s.size).data.toList = 0
  ·obtain ⟨h1, h2⟩ := h12
   by_cases hv : validQ (parseZ (s.extract 0 i).data.toList) (parseZ (s.extract (i + 1) s.size).data.toList) = true
   ·by_cases ho : (s.extract (i + 1) s.size).data.toList = [49]
    ·obtain ⟨e, n, d⟩ := bad fun h => h.2.2.2 ⟨hB, by rw [hV]; exact ho⟩
     rw [e, n, d]
     have hbb : s.extract (i + 1) s.size = ⟨#[49]⟩ := ba_ext ho
     refine Calls.mono (rqParse_To w s i (hid hs) (hid hsb) (hid (by omega)) (hid hns) (hid hys) _ (hid rfl) _ _ (hid ⟨rfl, h1⟩) (hid hsl) _ (hid ⟨hil, rfl⟩) (hid had) (hid ⟨rfl, h2⟩) _ _ (hid (text_of h1)) (hid (text_of h2)) (hid hlt) (hid (if_pos hbb)) (hid hv) (hid ?_)) fun _ _ h => up0 h
     rw [ba_list, ba_list]
     intro k
     have := congrArg List.length k
     rw [ext_take, List.length_take] at this
     have e2 : s.data.toList.length = s.size := rfl
     omega
    ·obtain ⟨e, n, d⟩ := good ⟨by rw [hU]; exact h1, by rw [hV]; exact h2, by rw [hU, hV]; exact hv, by rw [hV]; exact fun h => ho h.2⟩
     rw [e, n, d, hU, hV]
     exact rqParse_Tk w s i (hid hs) (hid hsb) (hid (by omega)) (hid hns) (hid hys) _ (hid rfl) _ _ (hid ⟨rfl, h1⟩) (hid hsl) _ (hid ⟨hil, rfl⟩) (hid had) (hid ⟨rfl, h2⟩) _ (hid (text_of h1)) (hid (text_of h2)) (hid hlt) (hid ((if_neg (fun k => ho (by rw [k]))).trans (join_slash s i hil' h47))) (hid hv)
   ·obtain ⟨e, n, d⟩ := bad fun h => hv (by have := h.2.2.1; rwa [hU, hV] at this)
    rw [e, n, d]
    exact Calls.mono (rqParse_Tv w s i (hid hs) (hid hsb) (hid (by omega)) (hid hns) (hid hys) _ (hid rfl) _ _ (hid ⟨rfl, h1⟩) (hid hsl) _ (hid ⟨hil, rfl⟩) (hid had) (hid ⟨rfl, h2⟩) _ _ (hid (text_of h1)) (hid (text_of h2)) (hid hlt) (hid rfl) (hid (by simpa using hv))) fun _ _ h => up0 h
  ·obtain ⟨e, n, d⟩ := bad fun h => h12 ⟨by have := h.1; rwa [hU] at this, by have := h.2.1; rwa [hV] at this⟩
   rw [e, n, d]
   refine Calls.mono (rqParse_Tb w s i (hid hs) (hid hsb) (hid (by omega)) (hid hns) (hid hys) _ (hid rfl) _ _ _ _ _ _ (hid ⟨rfl, rfl⟩) (hid hsl) _ (hid ⟨hil, rfl⟩) (hid had) (hid ⟨rfl, rfl⟩) (hid rfl) (hid rfl) (hid ?_)) fun _ _ h => up0 h
   exact or_ne h12
end Go.Proofs.YtcgdkfadcglekaaGreatDoor
