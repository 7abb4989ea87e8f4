/-
 Parse of package rational: every string. (Printed by wip/gen/rat7.py.)
-/
import Derived.Test.YtcgdkfadcglekaaGreatDoorQ6
import Derived.Test.YtcgdkfadcglekaaGreatDoorCut
import Derived.Test.YtcgdkfadcglekaaGreatDoorParseLaw
namespace Go.Proofs.YtcgdkfadcglekaaGreatDoor
open Go Go.RowKit

/-- The parts of a text at its first slash. -/
def partU (l : List UInt8) : List UInt8 := if Lib.indexByte l 47 = -1 then l else l.take (Lib.indexByte l 47).toNat
def partV (l : List UInt8) : List UInt8 := if Lib.indexByte l 47 = -1 then [49] else l.drop ((Lib.indexByte l 47).toNat + 1)
def partB (l : List UInt8) : Bool := Lib.indexByte l 47 != -1
/-- What Parse answers. -/
def rparOk (l : List UInt8) : Prop := parseE (partU l) = 0 ∧ parseE (partV l) = 0 ∧ validQ (parseZ (partU l)) (parseZ (partV l)) = true ∧ ¬(partB l = true ∧ partV l = [49])
instance (l : List UInt8) : Decidable (rparOk l) := inferInstanceAs (Decidable (_ ∧ _ ∧ _ ∧ ¬_))
def rparE (l : List UInt8) : Int := if 2601 < l.length then 2 else if rparOk l then 0 else 3
def rparN (l : List UInt8) : Int := if rparE l = 0 then parseZ (partU l) else 0
def rparD (l : List UInt8) : Int := if rparE l = 0 then parseZ (partV l) else 0
theorem ext_take (s : ByteArray) (i : Nat) : (s.extract 0 i).data.toList = s.data.toList.take i := by
 rw [ByteArray.data_extract, Array.toList_extract]; simp [List.extract]
theorem ext_drop (s : ByteArray) (i : Nat) : (s.extract i s.size).data.toList = s.data.toList.drop i := by
 rw [ByteArray.data_extract, Array.toList_extract]
 simp only [List.extract]
 rw [List.take_of_length_le]
 rw [List.length_drop]; exact Nat.le_refl _

set_option maxRecDepth 100000 in
set_option maxHeartbeats 4000000 in
theorem qParse_L (w : World) (s : ByteArray) (hs : 2601 < s.size) : Calls Tryz.prog 16 #[.string s] w (Ret w (IsT2 (IsQ (IsI 0 0) (IsI 0 0)) (IsV (.int .i64 2)))) := by
 have HS := hid (show decide ((2601 : Int) < (s.size : Int)) = true by simp; omega)
 clear hs
 obtain ⟨W, hW, S⟩ : ∃ W, W = w.alloc (.cells #[.bool false, .slice none 0 0, .bool false, .slice none 0 0] 31) ∧ Sto w W [((w.heap.size, 1), IsI 0 0), ((w.heap.size, 0), IsI 0 0)] := ⟨_, rfl, ((Sto.start w).new2 (w.heap.size) (by simp) false false none none 0 0 0 0 31 (IsI 0 0) (IsI 0 0) (IsI.gstb _ _) (IsI.nil _ _) (IsI.gstb _ _) (IsI.nil _ _))⟩
 go_enter Tryz.func16, Tryz.ntmps16
 go_upto_region 1 with (fail)
 rw [← hW]
 clear hW
 refine rgs 3 [some 12, some 13, some 14] [IsV (.string s), IsV (.int .i64 ((s).size)), IsV (.bool true)] [] ?_ ?_
 ·refine Rc (mv (Od.lit 0)) ?_
  refine RgAll.cons (by { (with_reducible refine RgL.mk (by rfl) ?_); intro v a w' hE hd hf; have d0 : v 0 = .string s := hd 0 (by kernel_rfl); have ev0 := hf.val 0 12 _ d0 (by kernel_rfl) (by kernel_rfl) (by kernel_rfl); clear d0; clear hd hf; intro K hK; go_simp; exact hK.out _ _ (Ext.refl _) rfl (FreshIf.no rfl) }) ?_
  refine Rc (bn (r := .bool true) (Od.loc 1 13) Od.con (hr := fun w => by have hs9 := HS.out; go_simp)) ?_
  exact RgAll.nil
 intro v W1 e1 hΦ _
 replace S := S.mono e1
 have v2 : v 2 = .bool true := hΦ 2 (by decide)
 simp only [layL, Act.put, List.setIfInBounds_toArray, List.set_cons_zero, List.set_cons_succ, Nat.reduceAdd]
 rw [v2]
 clear v2 hΦ e1
 refine wpList_nil ?_
 go_upto_region 2 with (fail)
 refine rgs 1 [some 15] [IsQ (IsI 0 0) (IsI 0 0)] [] ?_ ?_
 ·refine Rc (b0 z_Rat nilQ) ?_
  exact RgAll.nil
 intro v W2 e1 hΦ _
 replace S := S.mono e1
 have h15 := hΦ 0 (by decide)
 simp only [layL, Act.put, List.setIfInBounds_toArray, List.set_cons_zero, List.set_cons_succ]
 clear hΦ e1
 try simp only [List.drop_succ_cons, List.drop_zero]
 (with_reducible refine stL ?_ (by rfl)); intro KK hKK; refine stQ S 1 0 (w.heap.size) 0 h15 (IsI.gstb _ _) (IsI.gstb _ _) st_Rat (fun W3 S2 G2 => hKK _ _ ?_) rfl rfl
 replace S := S2; clear S2 G2 hKK KK h15
 simp only [List.set_cons_zero, List.set_cons_succ] at S
 refine wpList_step fun K hK => ?_; go_simp; refine hK _ _ ?_; clear hK K
 refine wpList_nil ?_
 go_wp2_with fail
 obtain ⟨s90x, a90x, n90x, c90x, b90x, h90x⟩ := S.at 1 (w.heap.size) 0 (IsI 0 0) rfl; have L90xa : World.cell? W3 ⟨w.heap.size, 0, none⟩ = some (.bool s90x) := b90x.c0; have L90xb : World.cell? W3 ⟨w.heap.size, 1, none⟩ = some (.slice a90x n90x c90x) := b90x.c1
 obtain ⟨s90y, a90y, n90y, c90y, b90y, h90y⟩ := S.at 0 (w.heap.size) 1 (IsI 0 0) rfl; have L90ya : World.cell? W3 ⟨w.heap.size, 2, none⟩ = some (.bool s90y) := b90y.c0; have L90yb : World.cell? W3 ⟨w.heap.size, 3, none⟩ = some (.slice a90y n90y c90y) := b90y.c1
 exact bodyPost_ret (v := .tuple #[.agg #[.bool s90x, .slice a90x n90x c90x, .bool s90y, .slice a90y n90y c90y], .int .i64 2]) (by simp [results, Tryz.results16, go_sem, L90xa, L90xb, L90ya, L90yb]) rfl (⟨_, rfl, S.ext, ⟨_, _, rfl, ⟨_, _, _, _, _, _, _, _, rfl, h90x, h90y⟩, rfl⟩⟩)

set_option maxRecDepth 100000 in
set_option maxHeartbeats 4000000 in
theorem qParse_Fe (w : World) (s ta : ByteArray) (z1 z2 ec : Int) (hs : s.size ≤ 2601)
  (hc : ∀ w, Calls Tryz.prog 72 #[.string s, .string ⟨#[47]⟩] w (Ret w (IsT3 (IsV (.string ta)) (IsV (.string ⟨#[]⟩)) (IsV (.bool false)))))
  (h1 : parseZ ta.data.toList = z1 ∧ parseE ta.data.toList = ec) (h2 : parseZ (⟨#[49]⟩ : ByteArray).data.toList = z2 ∧ parseE (⟨#[49]⟩ : ByteArray).data.toList = 0) (he1 : ((ec : Int) != 0) = true) :
  Calls Tryz.prog 16 #[.string s] w (Ret w (IsT2 (IsQ (IsI 0 0) (IsI 0 0)) (IsV (.int .i64 3)))) := by
 have HS := hid (show decide ((2601 : Int) < (s.size : Int)) = false by simp; omega)
 have HCUT := hid hc
 have H1 := hid h1
 have H2 := hid h2
 have HE1 := hid he1
 clear hs hc h1 h2 he1
 obtain ⟨W, hW, S⟩ : ∃ W, W = w.alloc (.cells #[.bool false, .slice none 0 0, .bool false, .slice none 0 0] 31) ∧ Sto w W [((w.heap.size, 1), IsI 0 0), ((w.heap.size, 0), IsI 0 0)] := ⟨_, rfl, ((Sto.start w).new2 (w.heap.size) (by simp) false false none none 0 0 0 0 31 (IsI 0 0) (IsI 0 0) (IsI.gstb _ _) (IsI.nil _ _) (IsI.gstb _ _) (IsI.nil _ _))⟩
 go_enter Tryz.func16, Tryz.ntmps16
 go_upto_region 1 with (fail)
 rw [← hW]
 clear hW
 refine rgs 3 [some 12, some 13, some 14] [IsV (.string s), IsV (.int .i64 ((s).size)), IsV (.bool false)] [] ?_ ?_
 ·refine Rc (mv (Od.lit 0)) ?_
  refine RgAll.cons (by { (with_reducible refine RgL.mk (by rfl) ?_); intro v a w' hE hd hf; have d0 : v 0 = .string s := hd 0 (by kernel_rfl); have ev0 := hf.val 0 12 _ d0 (by kernel_rfl) (by kernel_rfl) (by kernel_rfl); clear d0; clear hd hf; intro K hK; go_simp; exact hK.out _ _ (Ext.refl _) rfl (FreshIf.no rfl) }) ?_
  refine Rc (bn (r := .bool false) (Od.loc 1 13) Od.con (hr := fun w => by have hs9 := HS.out; go_simp)) ?_
  exact RgAll.nil
 intro v W1 e1 hΦ _
 replace S := S.mono e1
 have v2 : v 2 = .bool false := hΦ 2 (by decide)
 simp only [layL, Act.put, List.setIfInBounds_toArray, List.set_cons_zero, List.set_cons_succ, Nat.reduceAdd]
 rw [v2]
 clear v2 hΦ e1
 refine wpList_nil ?_
 go_upto_region 3 with (fail)
 refine rgs 9 [some 17, some 18, some 16, some 19, some 20, some 21, some 4, some 5, some 6] [IsV (.string s), IsT3 (IsV (.string ta)) (IsV (.string ⟨#[]⟩)) (IsV (.bool false)), IsT3 (IsV (.string ta)) (IsV (.string ⟨#[]⟩)) (IsV (.bool false)), IsV (.string ta), IsV (.string ⟨#[]⟩), IsV (.bool false), IsV (.string ta), IsV (.string ⟨#[]⟩), IsV (.bool false)] [] ?_ ?_
 ·refine Rc (mv (Od.lit 0)) ?_
  refine Rc (cl2 (en Tryz.func72) (Od.lc (Φ := IsV (.string s)) 0 17) Od.con (fun x0 x1 w' hE d0 d1 => by { obtain rfl : x0 = .string s := d0; obtain rfl : x1 = .string ⟨#[47]⟩ := d1; exact HCUT.out _ })) ?_
  refine Rc (mv (Od.lc 1 18)) ?_
  refine Rc (ex (Od.loc 2 16) t30) ?_
  refine Rc (ex (Od.loc 2 16) t31) ?_
  refine Rc (ex (Od.loc 2 16) t32) ?_
  refine Rc (mv (Od.lc 3 19)) ?_
  refine Rc (mv (Od.lc 4 20)) ?_
  refine Rc (mv (Od.lc 5 21)) ?_
  exact RgAll.nil
 intro v W2 e1 hΦ _
 replace S := S.mono e1
 have v6 : v 6 = .string ta := hΦ 6 (by decide)
 have v7 : v 7 = .string ⟨#[]⟩ := hΦ 7 (by decide)
 have v8 : v 8 = .bool false := hΦ 8 (by decide)
 simp only [layL, Act.put, List.setIfInBounds_toArray, List.set_cons_zero, List.set_cons_succ, Nat.reduceAdd]
 rw [v6, v7, v8]
 clear v6 v7 v8 hΦ e1
 refine wpList_nil ?_
 go_upto_region 4 with (fail)
 refine rgs 2 [some 22, some 23] [IsV (.bool false), IsV (.bool true)] [] ?_ ?_
 ·refine Rc (mv (Od.lit 6)) ?_
  refine Rc (nt (Od.loc 0 22)) ?_
  exact RgAll.nil
 intro v W3 e1 hΦ _
 replace S := S.mono e1
 have v1 : v 1 = .bool true := hΦ 1 (by decide)
 simp only [layL, Act.put, List.setIfInBounds_toArray, List.set_cons_zero, List.set_cons_succ, Nat.reduceAdd]
 rw [v1]
 clear v1 hΦ e1
 refine wpList_nil ?_
 go_upto_region 5 with (fail)
 refine rgs 1 [some 5] [IsV (.string ⟨#[49]⟩)] [] ?_ ?_
 ·refine Rc (mv Od.con) ?_
  exact RgAll.nil
 intro v W4 e1 hΦ _
 replace S := S.mono e1
 have v0 : v 0 = .string ⟨#[49]⟩ := hΦ 0 (by decide)
 simp only [layL, Act.put, List.setIfInBounds_toArray, List.set_cons_zero, List.set_cons_succ]
 rw [v0]
 clear v0 hΦ e1
 refine wpList_nil ?_
 go_upto_region 6 with (fail)
 have hl := hid S.lt; have hw := S.ext.size
 refine rgs 6 [some 25, some 26, some 24, some 27, some 28, some 7] [IsV (.string ta), IsT2 (IsI 136 z1) (IsV (.int .i64 ec)), IsT2 (IsI 136 z1) (IsV (.int .i64 ec)), IsI 136 z1, IsV (.int .i64 ec), IsBo W4 1] [5] ?_ ?_
 ·refine Rc (mv (Od.lit 4)) ?_
  refine Rc (cl1 (en Tryz.func73) (Od.lc (Φ := IsV (.string ta)) 0 25) (fun x0 w' hE d0 => by { obtain rfl : x0 = .string ta := d0; exact (by have hh := Parse_f w' ta; rw [H1.out.1, H1.out.2] at hh; exact hh) })) ?_
  refine Rc (mv (Od.lc 1 26)) ?_
  refine Rc (ex (Od.loc 2 24) t20) ?_
  refine Rc (ex (Od.loc 2 24) t21) ?_
  refine Rc (al al_Int) ?_
  exact RgAll.nil
 intro v W5 e1 hΦ _
 replace S := S.mono e1
 have h27 := hΦ 3 (by decide)
 have v4 : v 4 = .int .i64 ec := hΦ 4 (by decide)
 obtain ⟨g7, v5, q2, b1, _⟩ := (hΦ 5 (by decide) : IsBo W4 1 (v 5) W5)
 replace S := S.addN 1 (ApartO.old hl.out q2) (Nat.le_trans hw q2) b1
 simp only [newF, List.cons_append, List.nil_append] at S
 simp only [layL, Act.put, List.setIfInBounds_toArray, List.set_cons_zero, List.set_cons_succ, Nat.reduceAdd]
 rw [v4, v5]
 clear b1 hl hw v4 v5 hΦ e1
 try simp only [List.drop_succ_cons, List.drop_zero]
 (with_reducible refine stL ?_ (by rfl)); intro KK hKK; refine stI S 0 (g7) 0 h27 st_Int (fun W6 S2 G2 => hKK _ _ ?_) rfl
 replace S := S2; clear S2 G2 hKK KK h27
 simp only [List.set_cons_zero] at S
 refine wpList_step fun K hK => ?_; go_simp; refine hK _ _ ?_; clear hK K
 refine wpList_nil ?_
 go_upto_region 7 with (fail)
 have hl := hid S.lt; have hw := S.ext.size
 refine rgs 6 [some 30, some 31, some 29, some 32, some 33, some 9] [IsV (.string ⟨#[49]⟩), IsT2 (IsI 136 z2) (IsV (.int .i64 0)), IsT2 (IsI 136 z2) (IsV (.int .i64 0)), IsI 136 z2, IsV (.int .i64 0), IsBo W6 1] [5] ?_ ?_
 ·refine Rc (mv (Od.lit 5)) ?_
  refine Rc (cl1 (en Tryz.func73) (Od.lc (Φ := IsV (.string ⟨#[49]⟩)) 0 30) (fun x0 w' hE d0 => by { obtain rfl : x0 = .string ⟨#[49]⟩ := d0; exact (by have hh := Parse_f w' ⟨#[49]⟩; rw [H2.out.1, H2.out.2] at hh; exact hh) })) ?_
  refine Rc (mv (Od.lc 1 31)) ?_
  refine Rc (ex (Od.loc 2 29) t20) ?_
  refine Rc (ex (Od.loc 2 29) t21) ?_
  refine Rc (al al_Int) ?_
  exact RgAll.nil
 intro v W7 e1 hΦ _
 replace S := S.mono e1
 have h32 := hΦ 3 (by decide)
 have v4 : v 4 = .int .i64 0 := hΦ 4 (by decide)
 obtain ⟨g9, v5, q4, b3, _⟩ := (hΦ 5 (by decide) : IsBo W6 1 (v 5) W7)
 replace S := S.addN 1 (ApartO.old hl.out q4) (Nat.le_trans hw q4) b3
 simp only [newF, List.cons_append, List.nil_append] at S
 simp only [layL, Act.put, List.setIfInBounds_toArray, List.set_cons_zero, List.set_cons_succ, Nat.reduceAdd]
 rw [v4, v5]
 clear b3 hl hw v4 v5 hΦ e1
 try simp only [List.drop_succ_cons, List.drop_zero]
 (with_reducible refine stL ?_ (by rfl)); intro KK hKK; refine stI S 0 (g9) 0 h32 st_Int (fun W8 S2 G2 => hKK _ _ ?_) rfl
 replace S := S2; clear S2 G2 hKK KK h32
 simp only [List.set_cons_zero] at S
 refine wpList_step fun K hK => ?_; go_simp; refine hK _ _ ?_; clear hK K
 refine wpList_nil ?_
 go_upto_region 8 with (fail)
 have hl := hid S.lt; have hw := S.ext.size
 refine rgs 4 [some 34, some 35, some 36, some 11] [IsI 136 z1, IsI 136 z2, IsQ (IsI 136 z1) (IsI 136 z2), IsBo W8 2] [3] ?_ ?_
 ·refine Rc (ldI S 1 (g7) 0 (Od.lit 7) ld_Int) ?_
  refine Rc (ldI S 0 (g9) 0 (Od.lit 9) ld_Int) ?_
  refine Rc (bq (Od.loc 0 34) (Od.loc 1 35) bd_Rat) ?_
  refine Rc (al al_Rat) ?_
  exact RgAll.nil
 intro v W9 e1 hΦ _
 replace S := S.mono e1
 have h36 := hΦ 2 (by decide)
 obtain ⟨g11, v3, q6, b5, _⟩ := (hΦ 3 (by decide) : IsBo W8 2 (v 3) W9)
 replace S := S.addN 2 (ApartO.old hl.out q6) (Nat.le_trans hw q6) b5
 simp only [newF, List.cons_append, List.nil_append] at S
 simp only [layL, Act.put, List.setIfInBounds_toArray, List.set_cons_zero, List.set_cons_succ, Nat.reduceAdd]
 rw [v3]
 clear b5 hl hw v3 hΦ e1
 try simp only [List.drop_succ_cons, List.drop_zero]
 (with_reducible refine stL ?_ (by rfl)); intro KK hKK; refine stQ S 1 0 (g11) 0 h36 (IsI.gstb _ _) (IsI.gstb _ _) st_Rat (fun W10 S2 G2 => hKK _ _ ?_) rfl rfl
 replace S := S2; clear S2 G2 hKK KK h36
 simp only [List.set_cons_zero, List.set_cons_succ] at S
 refine wpList_nil ?_
 go_upto_region 9 with (fail)
 refine rgs 18 [some 37, some 38, some 39, some 40, some 41, some 42, some 43, some 44, some 45, some 46, some 47, some 48, some 49, some 50, some 51, some 52, some 53, some 54] [IsV (.int .i64 ec), IsV (.bool true), IsV (.bool true), IsV (undef), IsV (undef), IsV (.bool true), IsV (.bool true), IsV (undef), IsV (undef), IsV (undef), IsV (.bool true), IsV (.bool true), IsV (undef), IsV (undef), IsV (undef), IsV (undef), IsV (undef), IsV (.bool true)] [] ?_ ?_
 ·refine Rc (mv (Od.lit 8)) ?_
  refine Rc (bn (r := .bool true) (Od.loc 0 37) Od.con (hr := fun w => by have hx9 := HE1.out; go_simp)) ?_
  refine Rc (mv (Od.lc 1 38)) ?_
  refine RcN 2 39 true ?_
  refine RcN 2 39 true ?_
  refine Rc (pk (Od.loc 2 39) Od.con) ?_
  refine Rc (mv (Od.lc 5 42)) ?_
  refine RcN 6 43 true ?_
  refine RcN 6 43 true ?_
  refine RcN 6 43 true ?_
  refine Rc (pk (Od.loc 6 43) Od.con) ?_
  refine Rc (mv (Od.lc 10 47)) ?_
  refine RcN 11 48 true ?_
  refine RcN 11 48 true ?_
  refine RcU 13 50 true ?_
  refine RcU 13 50 true ?_
  refine RcN 11 48 true ?_
  refine Rc (pk (Od.loc 11 48) Od.con) ?_
  exact RgAll.nil
 intro v W11 e1 hΦ _
 replace S := S.mono e1
 have v17 : v 17 = .bool true := hΦ 17 (by decide)
 simp only [layL, Act.put, List.setIfInBounds_toArray, List.set_cons_zero, List.set_cons_succ, Nat.reduceAdd]
 rw [v17]
 clear v17 hΦ e1
 refine wpList_nil ?_
 go_upto_region 10 with (fail)
 refine rgs 1 [some 55] [IsQ (IsI 0 0) (IsI 0 0)] [] ?_ ?_
 ·refine Rc (b0 z_Rat nilQ) ?_
  exact RgAll.nil
 intro v W12 e1 hΦ _
 replace S := S.mono e1
 have h55 := hΦ 0 (by decide)
 simp only [layL, Act.put, List.setIfInBounds_toArray, List.set_cons_zero, List.set_cons_succ]
 clear hΦ e1
 try simp only [List.drop_succ_cons, List.drop_zero]
 (with_reducible refine stL ?_ (by rfl)); intro KK hKK; refine stQ S 5 4 (w.heap.size) 0 h55 (IsI.gstb _ _) (IsI.gstb _ _) st_Rat (fun W13 S2 G2 => hKK _ _ ?_) rfl rfl
 replace S := S2; clear S2 G2 hKK KK h55
 simp only [List.set_cons_zero, List.set_cons_succ] at S
 refine wpList_step fun K hK => ?_; go_simp; refine hK _ _ ?_; clear hK K
 refine wpList_nil ?_
 go_wp2_with fail
 obtain ⟨s90x, a90x, n90x, c90x, b90x, h90x⟩ := S.at 5 (w.heap.size) 0 (IsI 0 0) rfl; have L90xa : World.cell? W13 ⟨w.heap.size, 0, none⟩ = some (.bool s90x) := b90x.c0; have L90xb : World.cell? W13 ⟨w.heap.size, 1, none⟩ = some (.slice a90x n90x c90x) := b90x.c1
 obtain ⟨s90y, a90y, n90y, c90y, b90y, h90y⟩ := S.at 4 (w.heap.size) 1 (IsI 0 0) rfl; have L90ya : World.cell? W13 ⟨w.heap.size, 2, none⟩ = some (.bool s90y) := b90y.c0; have L90yb : World.cell? W13 ⟨w.heap.size, 3, none⟩ = some (.slice a90y n90y c90y) := b90y.c1
 exact bodyPost_ret (v := .tuple #[.agg #[.bool s90x, .slice a90x n90x c90x, .bool s90y, .slice a90y n90y c90y], .int .i64 3]) (by simp [results, Tryz.results16, go_sem, L90xa, L90xb, L90ya, L90yb]) rfl (⟨_, rfl, S.ext, ⟨_, _, rfl, ⟨_, _, _, _, _, _, _, _, rfl, h90x, h90y⟩, rfl⟩⟩)

set_option maxRecDepth 100000 in
set_option maxHeartbeats 4000000 in
theorem qParse_Fk (w : World) (s ta : ByteArray) (z1 z2 : Int) (hs : s.size ≤ 2601)
  (hc : ∀ w, Calls Tryz.prog 72 #[.string s, .string ⟨#[47]⟩] w (Ret w (IsT3 (IsV (.string ta)) (IsV (.string ⟨#[]⟩)) (IsV (.bool false)))))
  (h1 : parseZ ta.data.toList = z1 ∧ parseE ta.data.toList = 0) (h2 : parseZ (⟨#[49]⟩ : ByteArray).data.toList = z2 ∧ parseE (⟨#[49]⟩ : ByteArray).data.toList = 0) (hv : validQ z1 z2 = true) :
  Calls Tryz.prog 16 #[.string s] w (Ret w (IsT2 (IsQ (IsI 136 z1) (IsI 136 z2)) (IsV (.int .i64 0)))) := by
 have HS := hid (show decide ((2601 : Int) < (s.size : Int)) = false by simp; omega)
 have HCUT := hid hc
 have H1 := hid h1
 have H2 := hid h2
 have HV := hid hv
 clear hs hc h1 h2 hv
 obtain ⟨W, hW, S⟩ : ∃ W, W = w.alloc (.cells #[.bool false, .slice none 0 0, .bool false, .slice none 0 0] 31) ∧ Sto w W [((w.heap.size, 1), IsI 0 0), ((w.heap.size, 0), IsI 0 0)] := ⟨_, rfl, ((Sto.start w).new2 (w.heap.size) (by simp) false false none none 0 0 0 0 31 (IsI 0 0) (IsI 0 0) (IsI.gstb _ _) (IsI.nil _ _) (IsI.gstb _ _) (IsI.nil _ _))⟩
 go_enter Tryz.func16, Tryz.ntmps16
 go_upto_region 1 with (fail)
 rw [← hW]
 clear hW
 refine rgs 3 [some 12, some 13, some 14] [IsV (.string s), IsV (.int .i64 ((s).size)), IsV (.bool false)] [] ?_ ?_
 ·refine Rc (mv (Od.lit 0)) ?_
  refine RgAll.cons (by { (with_reducible refine RgL.mk (by rfl) ?_); intro v a w' hE hd hf; have d0 : v 0 = .string s := hd 0 (by kernel_rfl); have ev0 := hf.val 0 12 _ d0 (by kernel_rfl) (by kernel_rfl) (by kernel_rfl); clear d0; clear hd hf; intro K hK; go_simp; exact hK.out _ _ (Ext.refl _) rfl (FreshIf.no rfl) }) ?_
  refine Rc (bn (r := .bool false) (Od.loc 1 13) Od.con (hr := fun w => by have hs9 := HS.out; go_simp)) ?_
  exact RgAll.nil
 intro v W1 e1 hΦ _
 replace S := S.mono e1
 have v2 : v 2 = .bool false := hΦ 2 (by decide)
 simp only [layL, Act.put, List.setIfInBounds_toArray, List.set_cons_zero, List.set_cons_succ, Nat.reduceAdd]
 rw [v2]
 clear v2 hΦ e1
 refine wpList_nil ?_
 go_upto_region 3 with (fail)
 refine rgs 9 [some 17, some 18, some 16, some 19, some 20, some 21, some 4, some 5, some 6] [IsV (.string s), IsT3 (IsV (.string ta)) (IsV (.string ⟨#[]⟩)) (IsV (.bool false)), IsT3 (IsV (.string ta)) (IsV (.string ⟨#[]⟩)) (IsV (.bool false)), IsV (.string ta), IsV (.string ⟨#[]⟩), IsV (.bool false), IsV (.string ta), IsV (.string ⟨#[]⟩), IsV (.bool false)] [] ?_ ?_
 ·refine Rc (mv (Od.lit 0)) ?_
  refine Rc (cl2 (en Tryz.func72) (Od.lc (Φ := IsV (.string s)) 0 17) Od.con (fun x0 x1 w' hE d0 d1 => by { obtain rfl : x0 = .string s := d0; obtain rfl : x1 = .string ⟨#[47]⟩ := d1; exact HCUT.out _ })) ?_
  refine Rc (mv (Od.lc 1 18)) ?_
  refine Rc (ex (Od.loc 2 16) t30) ?_
  refine Rc (ex (Od.loc 2 16) t31) ?_
  refine Rc (ex (Od.loc 2 16) t32) ?_
  refine Rc (mv (Od.lc 3 19)) ?_
  refine Rc (mv (Od.lc 4 20)) ?_
  refine Rc (mv (Od.lc 5 21)) ?_
  exact RgAll.nil
 intro v W2 e1 hΦ _
 replace S := S.mono e1
 have v6 : v 6 = .string ta := hΦ 6 (by decide)
 have v7 : v 7 = .string ⟨#[]⟩ := hΦ 7 (by decide)
 have v8 : v 8 = .bool false := hΦ 8 (by decide)
 simp only [layL, Act.put, List.setIfInBounds_toArray, List.set_cons_zero, List.set_cons_succ, Nat.reduceAdd]
 rw [v6, v7, v8]
 clear v6 v7 v8 hΦ e1
 refine wpList_nil ?_
 go_upto_region 4 with (fail)
 refine rgs 2 [some 22, some 23] [IsV (.bool false), IsV (.bool true)] [] ?_ ?_
 ·refine Rc (mv (Od.lit 6)) ?_
  refine Rc (nt (Od.loc 0 22)) ?_
  exact RgAll.nil
 intro v W3 e1 hΦ _
 replace S := S.mono e1
 have v1 : v 1 = .bool true := hΦ 1 (by decide)
 simp only [layL, Act.put, List.setIfInBounds_toArray, List.set_cons_zero, List.set_cons_succ, Nat.reduceAdd]
 rw [v1]
 clear v1 hΦ e1
 refine wpList_nil ?_
 go_upto_region 5 with (fail)
 refine rgs 1 [some 5] [IsV (.string ⟨#[49]⟩)] [] ?_ ?_
 ·refine Rc (mv Od.con) ?_
  exact RgAll.nil
 intro v W4 e1 hΦ _
 replace S := S.mono e1
 have v0 : v 0 = .string ⟨#[49]⟩ := hΦ 0 (by decide)
 simp only [layL, Act.put, List.setIfInBounds_toArray, List.set_cons_zero, List.set_cons_succ]
 rw [v0]
 clear v0 hΦ e1
 refine wpList_nil ?_
 go_upto_region 6 with (fail)
 have hl := hid S.lt; have hw := S.ext.size
 refine rgs 6 [some 25, some 26, some 24, some 27, some 28, some 7] [IsV (.string ta), IsT2 (IsI 136 z1) (IsV (.int .i64 0)), IsT2 (IsI 136 z1) (IsV (.int .i64 0)), IsI 136 z1, IsV (.int .i64 0), IsBo W4 1] [5] ?_ ?_
 ·refine Rc (mv (Od.lit 4)) ?_
  refine Rc (cl1 (en Tryz.func73) (Od.lc (Φ := IsV (.string ta)) 0 25) (fun x0 w' hE d0 => by { obtain rfl : x0 = .string ta := d0; exact (by have hh := Parse_f w' ta; rw [H1.out.1, H1.out.2] at hh; exact hh) })) ?_
  refine Rc (mv (Od.lc 1 26)) ?_
  refine Rc (ex (Od.loc 2 24) t20) ?_
  refine Rc (ex (Od.loc 2 24) t21) ?_
  refine Rc (al al_Int) ?_
  exact RgAll.nil
 intro v W5 e1 hΦ _
 replace S := S.mono e1
 have h27 := hΦ 3 (by decide)
 have v4 : v 4 = .int .i64 0 := hΦ 4 (by decide)
 obtain ⟨g7, v5, q2, b1, _⟩ := (hΦ 5 (by decide) : IsBo W4 1 (v 5) W5)
 replace S := S.addN 1 (ApartO.old hl.out q2) (Nat.le_trans hw q2) b1
 simp only [newF, List.cons_append, List.nil_append] at S
 simp only [layL, Act.put, List.setIfInBounds_toArray, List.set_cons_zero, List.set_cons_succ, Nat.reduceAdd]
 rw [v4, v5]
 clear b1 hl hw v4 v5 hΦ e1
 try simp only [List.drop_succ_cons, List.drop_zero]
 (with_reducible refine stL ?_ (by rfl)); intro KK hKK; refine stI S 0 (g7) 0 h27 st_Int (fun W6 S2 G2 => hKK _ _ ?_) rfl
 replace S := S2; clear S2 G2 hKK KK h27
 simp only [List.set_cons_zero] at S
 refine wpList_step fun K hK => ?_; go_simp; refine hK _ _ ?_; clear hK K
 refine wpList_nil ?_
 go_upto_region 7 with (fail)
 have hl := hid S.lt; have hw := S.ext.size
 refine rgs 6 [some 30, some 31, some 29, some 32, some 33, some 9] [IsV (.string ⟨#[49]⟩), IsT2 (IsI 136 z2) (IsV (.int .i64 0)), IsT2 (IsI 136 z2) (IsV (.int .i64 0)), IsI 136 z2, IsV (.int .i64 0), IsBo W6 1] [5] ?_ ?_
 ·refine Rc (mv (Od.lit 5)) ?_
  refine Rc (cl1 (en Tryz.func73) (Od.lc (Φ := IsV (.string ⟨#[49]⟩)) 0 30) (fun x0 w' hE d0 => by { obtain rfl : x0 = .string ⟨#[49]⟩ := d0; exact (by have hh := Parse_f w' ⟨#[49]⟩; rw [H2.out.1, H2.out.2] at hh; exact hh) })) ?_
  refine Rc (mv (Od.lc 1 31)) ?_
  refine Rc (ex (Od.loc 2 29) t20) ?_
  refine Rc (ex (Od.loc 2 29) t21) ?_
  refine Rc (al al_Int) ?_
  exact RgAll.nil
 intro v W7 e1 hΦ _
 replace S := S.mono e1
 have h32 := hΦ 3 (by decide)
 have v4 : v 4 = .int .i64 0 := hΦ 4 (by decide)
 obtain ⟨g9, v5, q4, b3, _⟩ := (hΦ 5 (by decide) : IsBo W6 1 (v 5) W7)
 replace S := S.addN 1 (ApartO.old hl.out q4) (Nat.le_trans hw q4) b3
 simp only [newF, List.cons_append, List.nil_append] at S
 simp only [layL, Act.put, List.setIfInBounds_toArray, List.set_cons_zero, List.set_cons_succ, Nat.reduceAdd]
 rw [v4, v5]
 clear b3 hl hw v4 v5 hΦ e1
 try simp only [List.drop_succ_cons, List.drop_zero]
 (with_reducible refine stL ?_ (by rfl)); intro KK hKK; refine stI S 0 (g9) 0 h32 st_Int (fun W8 S2 G2 => hKK _ _ ?_) rfl
 replace S := S2; clear S2 G2 hKK KK h32
 simp only [List.set_cons_zero] at S
 refine wpList_step fun K hK => ?_; go_simp; refine hK _ _ ?_; clear hK K
 refine wpList_nil ?_
 go_upto_region 8 with (fail)
 have hl := hid S.lt; have hw := S.ext.size
 refine rgs 4 [some 34, some 35, some 36, some 11] [IsI 136 z1, IsI 136 z2, IsQ (IsI 136 z1) (IsI 136 z2), IsBo W8 2] [3] ?_ ?_
 ·refine Rc (ldI S 1 (g7) 0 (Od.lit 7) ld_Int) ?_
  refine Rc (ldI S 0 (g9) 0 (Od.lit 9) ld_Int) ?_
  refine Rc (bq (Od.loc 0 34) (Od.loc 1 35) bd_Rat) ?_
  refine Rc (al al_Rat) ?_
  exact RgAll.nil
 intro v W9 e1 hΦ _
 replace S := S.mono e1
 have h36 := hΦ 2 (by decide)
 obtain ⟨g11, v3, q6, b5, _⟩ := (hΦ 3 (by decide) : IsBo W8 2 (v 3) W9)
 replace S := S.addN 2 (ApartO.old hl.out q6) (Nat.le_trans hw q6) b5
 simp only [newF, List.cons_append, List.nil_append] at S
 simp only [layL, Act.put, List.setIfInBounds_toArray, List.set_cons_zero, List.set_cons_succ, Nat.reduceAdd]
 rw [v3]
 clear b5 hl hw v3 hΦ e1
 try simp only [List.drop_succ_cons, List.drop_zero]
 (with_reducible refine stL ?_ (by rfl)); intro KK hKK; refine stQ S 1 0 (g11) 0 h36 (IsI.gstb _ _) (IsI.gstb _ _) st_Rat (fun W10 S2 G2 => hKK _ _ ?_) rfl rfl
 replace S := S2; clear S2 G2 hKK KK h36
 simp only [List.set_cons_zero, List.set_cons_succ] at S
 refine wpList_nil ?_
 go_upto_region 9 with (fail)
 refine rgs 18 [some 37, some 38, some 39, some 40, some 41, some 42, some 43, some 44, some 45, some 46, some 47, some 48, some 49, some 50, some 51, some 52, some 53, some 54] [IsV (.int .i64 0), IsV (.bool false), IsV (.bool false), IsV (.int .i64 0), IsV (.bool false), IsV (.bool false), IsV (.bool false), IsQ (IsI 136 z1) (IsI 136 z2), IsV (.bool true), IsV (.bool false), IsV (.bool false), IsV (.bool false), IsV (.bool false), IsV (.bool false), IsV (undef), IsV (undef), IsV (.bool false), IsV (.bool false)] [] ?_ ?_
 ·refine Rc (mv (Od.lit 8)) ?_
  refine Rc (bn (r := .bool false) (Od.loc 0 37) Od.con (hr := fun w => by go_simp)) ?_
  refine Rc (mv (Od.lc 1 38)) ?_
  refine RcG 2 39 false (mv (Od.lit 10)) ?_
  refine RcG 2 39 false (bn (r := .bool false) (Od.loc 3 40) Od.con (hr := fun w => by go_simp)) ?_
  refine Rc (pk (Od.loc 2 39) (Od.lc 4 41)) ?_
  refine Rc (mv (Od.lc 5 42)) ?_
  refine RcG 6 43 false (ldQ S 1 0 (g11) 0 (Od.lit 11) ld_Rat rfl rfl) ?_
  refine RcG 6 43 false (cl1 (en Tryz.func41) (Od.lc (Φ := IsQ (IsI 136 z1) (IsI 136 z2)) 7 44) (fun x0 w' hE d0 => (by have hh := qValid_f d0 (by decide); rw [HV.out] at hh; exact hh))) ?_
  refine RcG 6 43 false (nt (Od.loc 8 45)) ?_
  refine Rc (pk (Od.loc 6 43) (Od.lc 9 46)) ?_
  refine Rc (mv (Od.lc 10 47)) ?_
  refine RcG 11 48 false (mv (Od.lit 6)) ?_
  refine RcG 11 48 false (mv (Od.lc 12 49)) ?_
  refine RcN 13 50 false ?_
  refine RcN 13 50 false ?_
  refine RcG 11 48 false (pk (Od.loc 13 50) Od.con) ?_
  refine Rc (pk (Od.loc 11 48) (Od.lc 16 53)) ?_
  exact RgAll.nil
 intro v W11 e1 hΦ _
 replace S := S.mono e1
 have v17 : v 17 = .bool false := hΦ 17 (by decide)
 simp only [layL, Act.put, List.setIfInBounds_toArray, List.set_cons_zero, List.set_cons_succ, Nat.reduceAdd]
 rw [v17]
 clear v17 hΦ e1
 refine wpList_nil ?_
 go_upto_region 11 with (fail)
 refine rgs 1 [some 56] [IsQ (IsI 136 z1) (IsI 136 z2)] [] ?_ ?_
 ·refine Rc (ldQ S 1 0 (g11) 0 (Od.lit 11) ld_Rat rfl rfl) ?_
  exact RgAll.nil
 intro v W12 e1 hΦ _
 replace S := S.mono e1
 have h56 := hΦ 0 (by decide)
 simp only [layL, Act.put, List.setIfInBounds_toArray, List.set_cons_zero, List.set_cons_succ]
 clear hΦ e1
 try simp only [List.drop_succ_cons, List.drop_zero]
 (with_reducible refine stL ?_ (by rfl)); intro KK hKK; refine stQ S 5 4 (w.heap.size) 0 h56 (IsI.gstb _ _) (IsI.gstb _ _) st_Rat (fun W13 S2 G2 => hKK _ _ ?_) rfl rfl
 replace S := S2; clear S2 G2 hKK KK h56
 simp only [List.set_cons_zero, List.set_cons_succ] at S
 refine wpList_step fun K hK => ?_; go_simp; refine hK _ _ ?_; clear hK K
 refine wpList_nil ?_
 go_wp2_with fail
 obtain ⟨s90x, a90x, n90x, c90x, b90x, h90x⟩ := S.at 5 (w.heap.size) 0 (IsI 136 z1) rfl; have L90xa : World.cell? W13 ⟨w.heap.size, 0, none⟩ = some (.bool s90x) := b90x.c0; have L90xb : World.cell? W13 ⟨w.heap.size, 1, none⟩ = some (.slice a90x n90x c90x) := b90x.c1
 obtain ⟨s90y, a90y, n90y, c90y, b90y, h90y⟩ := S.at 4 (w.heap.size) 1 (IsI 136 z2) rfl; have L90ya : World.cell? W13 ⟨w.heap.size, 2, none⟩ = some (.bool s90y) := b90y.c0; have L90yb : World.cell? W13 ⟨w.heap.size, 3, none⟩ = some (.slice a90y n90y c90y) := b90y.c1
 exact bodyPost_ret (v := .tuple #[.agg #[.bool s90x, .slice a90x n90x c90x, .bool s90y, .slice a90y n90y c90y], .int .i64 0]) (by simp [results, Tryz.results16, go_sem, L90xa, L90xb, L90ya, L90yb]) rfl (⟨_, rfl, S.ext, ⟨_, _, rfl, ⟨_, _, _, _, _, _, _, _, rfl, h90x, h90y⟩, rfl⟩⟩)

set_option maxRecDepth 100000 in
set_option maxHeartbeats 4000000 in
theorem qParse_Te (w : World) (s ta tb : ByteArray) (z1 z2 ec ed : Int) (hs : s.size ≤ 2601)
  (hc : ∀ w, Calls Tryz.prog 72 #[.string s, .string ⟨#[47]⟩] w (Ret w (IsT3 (IsV (.string ta)) (IsV (.string tb)) (IsV (.bool true)))))
  (h1 : parseZ ta.data.toList = z1 ∧ parseE ta.data.toList = ec) (h2 : parseZ (tb : ByteArray).data.toList = z2 ∧ parseE (tb : ByteArray).data.toList = ed) (he1 : ((ec : Int) != 0) = true) :
  Calls Tryz.prog 16 #[.string s] w (Ret w (IsT2 (IsQ (IsI 0 0) (IsI 0 0)) (IsV (.int .i64 3)))) := by
 have HS := hid (show decide ((2601 : Int) < (s.size : Int)) = false by simp; omega)
 have HCUT := hid hc
 have H1 := hid h1
 have H2 := hid h2
 have HE1 := hid he1
 clear hs hc h1 h2 he1
 obtain ⟨W, hW, S⟩ : ∃ W, W = w.alloc (.cells #[.bool false, .slice none 0 0, .bool false, .slice none 0 0] 31) ∧ Sto w W [((w.heap.size, 1), IsI 0 0), ((w.heap.size, 0), IsI 0 0)] := ⟨_, rfl, ((Sto.start w).new2 (w.heap.size) (by simp) false false none none 0 0 0 0 31 (IsI 0 0) (IsI 0 0) (IsI.gstb _ _) (IsI.nil _ _) (IsI.gstb _ _) (IsI.nil _ _))⟩
 go_enter Tryz.func16, Tryz.ntmps16
 go_upto_region 1 with (fail)
 rw [← hW]
 clear hW
 refine rgs 3 [some 12, some 13, some 14] [IsV (.string s), IsV (.int .i64 ((s).size)), IsV (.bool false)] [] ?_ ?_
 ·refine Rc (mv (Od.lit 0)) ?_
  refine RgAll.cons (by { (with_reducible refine RgL.mk (by rfl) ?_); intro v a w' hE hd hf; have d0 : v 0 = .string s := hd 0 (by kernel_rfl); have ev0 := hf.val 0 12 _ d0 (by kernel_rfl) (by kernel_rfl) (by kernel_rfl); clear d0; clear hd hf; intro K hK; go_simp; exact hK.out _ _ (Ext.refl _) rfl (FreshIf.no rfl) }) ?_
  refine Rc (bn (r := .bool false) (Od.loc 1 13) Od.con (hr := fun w => by have hs9 := HS.out; go_simp)) ?_
  exact RgAll.nil
 intro v W1 e1 hΦ _
 replace S := S.mono e1
 have v2 : v 2 = .bool false := hΦ 2 (by decide)
 simp only [layL, Act.put, List.setIfInBounds_toArray, List.set_cons_zero, List.set_cons_succ, Nat.reduceAdd]
 rw [v2]
 clear v2 hΦ e1
 refine wpList_nil ?_
 go_upto_region 3 with (fail)
 refine rgs 9 [some 17, some 18, some 16, some 19, some 20, some 21, some 4, some 5, some 6] [IsV (.string s), IsT3 (IsV (.string ta)) (IsV (.string tb)) (IsV (.bool true)), IsT3 (IsV (.string ta)) (IsV (.string tb)) (IsV (.bool true)), IsV (.string ta), IsV (.string tb), IsV (.bool true), IsV (.string ta), IsV (.string tb), IsV (.bool true)] [] ?_ ?_
 ·refine Rc (mv (Od.lit 0)) ?_
  refine Rc (cl2 (en Tryz.func72) (Od.lc (Φ := IsV (.string s)) 0 17) Od.con (fun x0 x1 w' hE d0 d1 => by { obtain rfl : x0 = .string s := d0; obtain rfl : x1 = .string ⟨#[47]⟩ := d1; exact HCUT.out _ })) ?_
  refine Rc (mv (Od.lc 1 18)) ?_
  refine Rc (ex (Od.loc 2 16) t30) ?_
  refine Rc (ex (Od.loc 2 16) t31) ?_
  refine Rc (ex (Od.loc 2 16) t32) ?_
  refine Rc (mv (Od.lc 3 19)) ?_
  refine Rc (mv (Od.lc 4 20)) ?_
  refine Rc (mv (Od.lc 5 21)) ?_
  exact RgAll.nil
 intro v W2 e1 hΦ _
 replace S := S.mono e1
 have v6 : v 6 = .string ta := hΦ 6 (by decide)
 have v7 : v 7 = .string tb := hΦ 7 (by decide)
 have v8 : v 8 = .bool true := hΦ 8 (by decide)
 simp only [layL, Act.put, List.setIfInBounds_toArray, List.set_cons_zero, List.set_cons_succ, Nat.reduceAdd]
 rw [v6, v7, v8]
 clear v6 v7 v8 hΦ e1
 refine wpList_nil ?_
 go_upto_region 4 with (fail)
 refine rgs 2 [some 22, some 23] [IsV (.bool true), IsV (.bool false)] [] ?_ ?_
 ·refine Rc (mv (Od.lit 6)) ?_
  refine Rc (nt (Od.loc 0 22)) ?_
  exact RgAll.nil
 intro v W3 e1 hΦ _
 replace S := S.mono e1
 have v1 : v 1 = .bool false := hΦ 1 (by decide)
 simp only [layL, Act.put, List.setIfInBounds_toArray, List.set_cons_zero, List.set_cons_succ, Nat.reduceAdd]
 rw [v1]
 clear v1 hΦ e1
 refine wpList_nil ?_
 go_upto_region 6 with (fail)
 have hl := hid S.lt; have hw := S.ext.size
 refine rgs 6 [some 25, some 26, some 24, some 27, some 28, some 7] [IsV (.string ta), IsT2 (IsI 136 z1) (IsV (.int .i64 ec)), IsT2 (IsI 136 z1) (IsV (.int .i64 ec)), IsI 136 z1, IsV (.int .i64 ec), IsBo W3 1] [5] ?_ ?_
 ·refine Rc (mv (Od.lit 4)) ?_
  refine Rc (cl1 (en Tryz.func73) (Od.lc (Φ := IsV (.string ta)) 0 25) (fun x0 w' hE d0 => by { obtain rfl : x0 = .string ta := d0; exact (by have hh := Parse_f w' ta; rw [H1.out.1, H1.out.2] at hh; exact hh) })) ?_
  refine Rc (mv (Od.lc 1 26)) ?_
  refine Rc (ex (Od.loc 2 24) t20) ?_
  refine Rc (ex (Od.loc 2 24) t21) ?_
  refine Rc (al al_Int) ?_
  exact RgAll.nil
 intro v W4 e1 hΦ _
 replace S := S.mono e1
 have h27 := hΦ 3 (by decide)
 have v4 : v 4 = .int .i64 ec := hΦ 4 (by decide)
 obtain ⟨g7, v5, q2, b1, _⟩ := (hΦ 5 (by decide) : IsBo W3 1 (v 5) W4)
 replace S := S.addN 1 (ApartO.old hl.out q2) (Nat.le_trans hw q2) b1
 simp only [newF, List.cons_append, List.nil_append] at S
 simp only [layL, Act.put, List.setIfInBounds_toArray, List.set_cons_zero, List.set_cons_succ, Nat.reduceAdd]
 rw [v4, v5]
 clear b1 hl hw v4 v5 hΦ e1
 try simp only [List.drop_succ_cons, List.drop_zero]
 (with_reducible refine stL ?_ (by rfl)); intro KK hKK; refine stI S 0 (g7) 0 h27 st_Int (fun W5 S2 G2 => hKK _ _ ?_) rfl
 replace S := S2; clear S2 G2 hKK KK h27
 simp only [List.set_cons_zero] at S
 refine wpList_step fun K hK => ?_; go_simp; refine hK _ _ ?_; clear hK K
 refine wpList_nil ?_
 go_upto_region 7 with (fail)
 have hl := hid S.lt; have hw := S.ext.size
 refine rgs 6 [some 30, some 31, some 29, some 32, some 33, some 9] [IsV (.string tb), IsT2 (IsI 136 z2) (IsV (.int .i64 ed)), IsT2 (IsI 136 z2) (IsV (.int .i64 ed)), IsI 136 z2, IsV (.int .i64 ed), IsBo W5 1] [5] ?_ ?_
 ·refine Rc (mv (Od.lit 5)) ?_
  refine Rc (cl1 (en Tryz.func73) (Od.lc (Φ := IsV (.string tb)) 0 30) (fun x0 w' hE d0 => by { obtain rfl : x0 = .string tb := d0; exact (by have hh := Parse_f w' tb; rw [H2.out.1, H2.out.2] at hh; exact hh) })) ?_
  refine Rc (mv (Od.lc 1 31)) ?_
  refine Rc (ex (Od.loc 2 29) t20) ?_
  refine Rc (ex (Od.loc 2 29) t21) ?_
  refine Rc (al al_Int) ?_
  exact RgAll.nil
 intro v W6 e1 hΦ _
 replace S := S.mono e1
 have h32 := hΦ 3 (by decide)
 have v4 : v 4 = .int .i64 ed := hΦ 4 (by decide)
 obtain ⟨g9, v5, q4, b3, _⟩ := (hΦ 5 (by decide) : IsBo W5 1 (v 5) W6)
 replace S := S.addN 1 (ApartO.old hl.out q4) (Nat.le_trans hw q4) b3
 simp only [newF, List.cons_append, List.nil_append] at S
 simp only [layL, Act.put, List.setIfInBounds_toArray, List.set_cons_zero, List.set_cons_succ, Nat.reduceAdd]
 rw [v4, v5]
 clear b3 hl hw v4 v5 hΦ e1
 try simp only [List.drop_succ_cons, List.drop_zero]
 (with_reducible refine stL ?_ (by rfl)); intro KK hKK; refine stI S 0 (g9) 0 h32 st_Int (fun W7 S2 G2 => hKK _ _ ?_) rfl
 replace S := S2; clear S2 G2 hKK KK h32
 simp only [List.set_cons_zero] at S
 refine wpList_step fun K hK => ?_; go_simp; refine hK _ _ ?_; clear hK K
 refine wpList_nil ?_
 go_upto_region 8 with (fail)
 have hl := hid S.lt; have hw := S.ext.size
 refine rgs 4 [some 34, some 35, some 36, some 11] [IsI 136 z1, IsI 136 z2, IsQ (IsI 136 z1) (IsI 136 z2), IsBo W7 2] [3] ?_ ?_
 ·refine Rc (ldI S 1 (g7) 0 (Od.lit 7) ld_Int) ?_
  refine Rc (ldI S 0 (g9) 0 (Od.lit 9) ld_Int) ?_
  refine Rc (bq (Od.loc 0 34) (Od.loc 1 35) bd_Rat) ?_
  refine Rc (al al_Rat) ?_
  exact RgAll.nil
 intro v W8 e1 hΦ _
 replace S := S.mono e1
 have h36 := hΦ 2 (by decide)
 obtain ⟨g11, v3, q6, b5, _⟩ := (hΦ 3 (by decide) : IsBo W7 2 (v 3) W8)
 replace S := S.addN 2 (ApartO.old hl.out q6) (Nat.le_trans hw q6) b5
 simp only [newF, List.cons_append, List.nil_append] at S
 simp only [layL, Act.put, List.setIfInBounds_toArray, List.set_cons_zero, List.set_cons_succ, Nat.reduceAdd]
 rw [v3]
 clear b5 hl hw v3 hΦ e1
 try simp only [List.drop_succ_cons, List.drop_zero]
 (with_reducible refine stL ?_ (by rfl)); intro KK hKK; refine stQ S 1 0 (g11) 0 h36 (IsI.gstb _ _) (IsI.gstb _ _) st_Rat (fun W9 S2 G2 => hKK _ _ ?_) rfl rfl
 replace S := S2; clear S2 G2 hKK KK h36
 simp only [List.set_cons_zero, List.set_cons_succ] at S
 refine wpList_nil ?_
 go_upto_region 9 with (fail)
 refine rgs 18 [some 37, some 38, some 39, some 40, some 41, some 42, some 43, some 44, some 45, some 46, some 47, some 48, some 49, some 50, some 51, some 52, some 53, some 54] [IsV (.int .i64 ec), IsV (.bool true), IsV (.bool true), IsV (undef), IsV (undef), IsV (.bool true), IsV (.bool true), IsV (undef), IsV (undef), IsV (undef), IsV (.bool true), IsV (.bool true), IsV (undef), IsV (undef), IsV (undef), IsV (undef), IsV (undef), IsV (.bool true)] [] ?_ ?_
 ·refine Rc (mv (Od.lit 8)) ?_
  refine Rc (bn (r := .bool true) (Od.loc 0 37) Od.con (hr := fun w => by have hx9 := HE1.out; go_simp)) ?_
  refine Rc (mv (Od.lc 1 38)) ?_
  refine RcN 2 39 true ?_
  refine RcN 2 39 true ?_
  refine Rc (pk (Od.loc 2 39) Od.con) ?_
  refine Rc (mv (Od.lc 5 42)) ?_
  refine RcN 6 43 true ?_
  refine RcN 6 43 true ?_
  refine RcN 6 43 true ?_
  refine Rc (pk (Od.loc 6 43) Od.con) ?_
  refine Rc (mv (Od.lc 10 47)) ?_
  refine RcN 11 48 true ?_
  refine RcN 11 48 true ?_
  refine RcU 13 50 true ?_
  refine RcU 13 50 true ?_
  refine RcN 11 48 true ?_
  refine Rc (pk (Od.loc 11 48) Od.con) ?_
  exact RgAll.nil
 intro v W10 e1 hΦ _
 replace S := S.mono e1
 have v17 : v 17 = .bool true := hΦ 17 (by decide)
 simp only [layL, Act.put, List.setIfInBounds_toArray, List.set_cons_zero, List.set_cons_succ, Nat.reduceAdd]
 rw [v17]
 clear v17 hΦ e1
 refine wpList_nil ?_
 go_upto_region 10 with (fail)
 refine rgs 1 [some 55] [IsQ (IsI 0 0) (IsI 0 0)] [] ?_ ?_
 ·refine Rc (b0 z_Rat nilQ) ?_
  exact RgAll.nil
 intro v W11 e1 hΦ _
 replace S := S.mono e1
 have h55 := hΦ 0 (by decide)
 simp only [layL, Act.put, List.setIfInBounds_toArray, List.set_cons_zero, List.set_cons_succ]
 clear hΦ e1
 try simp only [List.drop_succ_cons, List.drop_zero]
 (with_reducible refine stL ?_ (by rfl)); intro KK hKK; refine stQ S 5 4 (w.heap.size) 0 h55 (IsI.gstb _ _) (IsI.gstb _ _) st_Rat (fun W12 S2 G2 => hKK _ _ ?_) rfl rfl
 replace S := S2; clear S2 G2 hKK KK h55
 simp only [List.set_cons_zero, List.set_cons_succ] at S
 refine wpList_step fun K hK => ?_; go_simp; refine hK _ _ ?_; clear hK K
 refine wpList_nil ?_
 go_wp2_with fail
 obtain ⟨s90x, a90x, n90x, c90x, b90x, h90x⟩ := S.at 5 (w.heap.size) 0 (IsI 0 0) rfl; have L90xa : World.cell? W12 ⟨w.heap.size, 0, none⟩ = some (.bool s90x) := b90x.c0; have L90xb : World.cell? W12 ⟨w.heap.size, 1, none⟩ = some (.slice a90x n90x c90x) := b90x.c1
 obtain ⟨s90y, a90y, n90y, c90y, b90y, h90y⟩ := S.at 4 (w.heap.size) 1 (IsI 0 0) rfl; have L90ya : World.cell? W12 ⟨w.heap.size, 2, none⟩ = some (.bool s90y) := b90y.c0; have L90yb : World.cell? W12 ⟨w.heap.size, 3, none⟩ = some (.slice a90y n90y c90y) := b90y.c1
 exact bodyPost_ret (v := .tuple #[.agg #[.bool s90x, .slice a90x n90x c90x, .bool s90y, .slice a90y n90y c90y], .int .i64 3]) (by simp [results, Tryz.results16, go_sem, L90xa, L90xb, L90ya, L90yb]) rfl (⟨_, rfl, S.ext, ⟨_, _, rfl, ⟨_, _, _, _, _, _, _, _, rfl, h90x, h90y⟩, rfl⟩⟩)

set_option maxRecDepth 100000 in
set_option maxHeartbeats 4000000 in
theorem qParse_Tf (w : World) (s ta tb : ByteArray) (z1 z2 ed : Int) (hs : s.size ≤ 2601)
  (hc : ∀ w, Calls Tryz.prog 72 #[.string s, .string ⟨#[47]⟩] w (Ret w (IsT3 (IsV (.string ta)) (IsV (.string tb)) (IsV (.bool true)))))
  (h1 : parseZ ta.data.toList = z1 ∧ parseE ta.data.toList = 0) (h2 : parseZ (tb : ByteArray).data.toList = z2 ∧ parseE (tb : ByteArray).data.toList = ed) (he2 : ((ed : Int) != 0) = true) :
  Calls Tryz.prog 16 #[.string s] w (Ret w (IsT2 (IsQ (IsI 0 0) (IsI 0 0)) (IsV (.int .i64 3)))) := by
 have HS := hid (show decide ((2601 : Int) < (s.size : Int)) = false by simp; omega)
 have HCUT := hid hc
 have H1 := hid h1
 have H2 := hid h2
 have HE2 := hid he2
 clear hs hc h1 h2 he2
 obtain ⟨W, hW, S⟩ : ∃ W, W = w.alloc (.cells #[.bool false, .slice none 0 0, .bool false, .slice none 0 0] 31) ∧ Sto w W [((w.heap.size, 1), IsI 0 0), ((w.heap.size, 0), IsI 0 0)] := ⟨_, rfl, ((Sto.start w).new2 (w.heap.size) (by simp) false false none none 0 0 0 0 31 (IsI 0 0) (IsI 0 0) (IsI.gstb _ _) (IsI.nil _ _) (IsI.gstb _ _) (IsI.nil _ _))⟩
 go_enter Tryz.func16, Tryz.ntmps16
 go_upto_region 1 with (fail)
 rw [← hW]
 clear hW
 refine rgs 3 [some 12, some 13, some 14] [IsV (.string s), IsV (.int .i64 ((s).size)), IsV (.bool false)] [] ?_ ?_
 ·refine Rc (mv (Od.lit 0)) ?_
  refine RgAll.cons (by { (with_reducible refine RgL.mk (by rfl) ?_); intro v a w' hE hd hf; have d0 : v 0 = .string s := hd 0 (by kernel_rfl); have ev0 := hf.val 0 12 _ d0 (by kernel_rfl) (by kernel_rfl) (by kernel_rfl); clear d0; clear hd hf; intro K hK; go_simp; exact hK.out _ _ (Ext.refl _) rfl (FreshIf.no rfl) }) ?_
  refine Rc (bn (r := .bool false) (Od.loc 1 13) Od.con (hr := fun w => by have hs9 := HS.out; go_simp)) ?_
  exact RgAll.nil
 intro v W1 e1 hΦ _
 replace S := S.mono e1
 have v2 : v 2 = .bool false := hΦ 2 (by decide)
 simp only [layL, Act.put, List.setIfInBounds_toArray, List.set_cons_zero, List.set_cons_succ, Nat.reduceAdd]
 rw [v2]
 clear v2 hΦ e1
 refine wpList_nil ?_
 go_upto_region 3 with (fail)
 refine rgs 9 [some 17, some 18, some 16, some 19, some 20, some 21, some 4, some 5, some 6] [IsV (.string s), IsT3 (IsV (.string ta)) (IsV (.string tb)) (IsV (.bool true)), IsT3 (IsV (.string ta)) (IsV (.string tb)) (IsV (.bool true)), IsV (.string ta), IsV (.string tb), IsV (.bool true), IsV (.string ta), IsV (.string tb), IsV (.bool true)] [] ?_ ?_
 ·refine Rc (mv (Od.lit 0)) ?_
  refine Rc (cl2 (en Tryz.func72) (Od.lc (Φ := IsV (.string s)) 0 17) Od.con (fun x0 x1 w' hE d0 d1 => by { obtain rfl : x0 = .string s := d0; obtain rfl : x1 = .string ⟨#[47]⟩ := d1; exact HCUT.out _ })) ?_
  refine Rc (mv (Od.lc 1 18)) ?_
  refine Rc (ex (Od.loc 2 16) t30) ?_
  refine Rc (ex (Od.loc 2 16) t31) ?_
  refine Rc (ex (Od.loc 2 16) t32) ?_
  refine Rc (mv (Od.lc 3 19)) ?_
  refine Rc (mv (Od.lc 4 20)) ?_
  refine Rc (mv (Od.lc 5 21)) ?_
  exact RgAll.nil
 intro v W2 e1 hΦ _
 replace S := S.mono e1
 have v6 : v 6 = .string ta := hΦ 6 (by decide)
 have v7 : v 7 = .string tb := hΦ 7 (by decide)
 have v8 : v 8 = .bool true := hΦ 8 (by decide)
 simp only [layL, Act.put, List.setIfInBounds_toArray, List.set_cons_zero, List.set_cons_succ, Nat.reduceAdd]
 rw [v6, v7, v8]
 clear v6 v7 v8 hΦ e1
 refine wpList_nil ?_
 go_upto_region 4 with (fail)
 refine rgs 2 [some 22, some 23] [IsV (.bool true), IsV (.bool false)] [] ?_ ?_
 ·refine Rc (mv (Od.lit 6)) ?_
  refine Rc (nt (Od.loc 0 22)) ?_
  exact RgAll.nil
 intro v W3 e1 hΦ _
 replace S := S.mono e1
 have v1 : v 1 = .bool false := hΦ 1 (by decide)
 simp only [layL, Act.put, List.setIfInBounds_toArray, List.set_cons_zero, List.set_cons_succ, Nat.reduceAdd]
 rw [v1]
 clear v1 hΦ e1
 refine wpList_nil ?_
 go_upto_region 6 with (fail)
 have hl := hid S.lt; have hw := S.ext.size
 refine rgs 6 [some 25, some 26, some 24, some 27, some 28, some 7] [IsV (.string ta), IsT2 (IsI 136 z1) (IsV (.int .i64 0)), IsT2 (IsI 136 z1) (IsV (.int .i64 0)), IsI 136 z1, IsV (.int .i64 0), IsBo W3 1] [5] ?_ ?_
 ·refine Rc (mv (Od.lit 4)) ?_
  refine Rc (cl1 (en Tryz.func73) (Od.lc (Φ := IsV (.string ta)) 0 25) (fun x0 w' hE d0 => by { obtain rfl : x0 = .string ta := d0; exact (by have hh := Parse_f w' ta; rw [H1.out.1, H1.out.2] at hh; exact hh) })) ?_
  refine Rc (mv (Od.lc 1 26)) ?_
  refine Rc (ex (Od.loc 2 24) t20) ?_
  refine Rc (ex (Od.loc 2 24) t21) ?_
  refine Rc (al al_Int) ?_
  exact RgAll.nil
 intro v W4 e1 hΦ _
 replace S := S.mono e1
 have h27 := hΦ 3 (by decide)
 have v4 : v 4 = .int .i64 0 := hΦ 4 (by decide)
 obtain ⟨g7, v5, q2, b1, _⟩ := (hΦ 5 (by decide) : IsBo W3 1 (v 5) W4)
 replace S := S.addN 1 (ApartO.old hl.out q2) (Nat.le_trans hw q2) b1
 simp only [newF, List.cons_append, List.nil_append] at S
 simp only [layL, Act.put, List.setIfInBounds_toArray, List.set_cons_zero, List.set_cons_succ, Nat.reduceAdd]
 rw [v4, v5]
 clear b1 hl hw v4 v5 hΦ e1
 try simp only [List.drop_succ_cons, List.drop_zero]
 (with_reducible refine stL ?_ (by rfl)); intro KK hKK; refine stI S 0 (g7) 0 h27 st_Int (fun W5 S2 G2 => hKK _ _ ?_) rfl
 replace S := S2; clear S2 G2 hKK KK h27
 simp only [List.set_cons_zero] at S
 refine wpList_step fun K hK => ?_; go_simp; refine hK _ _ ?_; clear hK K
 refine wpList_nil ?_
 go_upto_region 7 with (fail)
 have hl := hid S.lt; have hw := S.ext.size
 refine rgs 6 [some 30, some 31, some 29, some 32, some 33, some 9] [IsV (.string tb), IsT2 (IsI 136 z2) (IsV (.int .i64 ed)), IsT2 (IsI 136 z2) (IsV (.int .i64 ed)), IsI 136 z2, IsV (.int .i64 ed), IsBo W5 1] [5] ?_ ?_
 ·refine Rc (mv (Od.lit 5)) ?_
  refine Rc (cl1 (en Tryz.func73) (Od.lc (Φ := IsV (.string tb)) 0 30) (fun x0 w' hE d0 => by { obtain rfl : x0 = .string tb := d0; exact (by have hh := Parse_f w' tb; rw [H2.out.1, H2.out.2] at hh; exact hh) })) ?_
  refine Rc (mv (Od.lc 1 31)) ?_
  refine Rc (ex (Od.loc 2 29) t20) ?_
  refine Rc (ex (Od.loc 2 29) t21) ?_
  refine Rc (al al_Int) ?_
  exact RgAll.nil
 intro v W6 e1 hΦ _
 replace S := S.mono e1
 have h32 := hΦ 3 (by decide)
 have v4 : v 4 = .int .i64 ed := hΦ 4 (by decide)
 obtain ⟨g9, v5, q4, b3, _⟩ := (hΦ 5 (by decide) : IsBo W5 1 (v 5) W6)
 replace S := S.addN 1 (ApartO.old hl.out q4) (Nat.le_trans hw q4) b3
 simp only [newF, List.cons_append, List.nil_append] at S
 simp only [layL, Act.put, List.setIfInBounds_toArray, List.set_cons_zero, List.set_cons_succ, Nat.reduceAdd]
 rw [v4, v5]
 clear b3 hl hw v4 v5 hΦ e1
 try simp only [List.drop_succ_cons, List.drop_zero]
 (with_reducible refine stL ?_ (by rfl)); intro KK hKK; refine stI S 0 (g9) 0 h32 st_Int (fun W7 S2 G2 => hKK _ _ ?_) rfl
 replace S := S2; clear S2 G2 hKK KK h32
 simp only [List.set_cons_zero] at S
 refine wpList_step fun K hK => ?_; go_simp; refine hK _ _ ?_; clear hK K
 refine wpList_nil ?_
 go_upto_region 8 with (fail)
 have hl := hid S.lt; have hw := S.ext.size
 refine rgs 4 [some 34, some 35, some 36, some 11] [IsI 136 z1, IsI 136 z2, IsQ (IsI 136 z1) (IsI 136 z2), IsBo W7 2] [3] ?_ ?_
 ·refine Rc (ldI S 1 (g7) 0 (Od.lit 7) ld_Int) ?_
  refine Rc (ldI S 0 (g9) 0 (Od.lit 9) ld_Int) ?_
  refine Rc (bq (Od.loc 0 34) (Od.loc 1 35) bd_Rat) ?_
  refine Rc (al al_Rat) ?_
  exact RgAll.nil
 intro v W8 e1 hΦ _
 replace S := S.mono e1
 have h36 := hΦ 2 (by decide)
 obtain ⟨g11, v3, q6, b5, _⟩ := (hΦ 3 (by decide) : IsBo W7 2 (v 3) W8)
 replace S := S.addN 2 (ApartO.old hl.out q6) (Nat.le_trans hw q6) b5
 simp only [newF, List.cons_append, List.nil_append] at S
 simp only [layL, Act.put, List.setIfInBounds_toArray, List.set_cons_zero, List.set_cons_succ, Nat.reduceAdd]
 rw [v3]
 clear b5 hl hw v3 hΦ e1
 try simp only [List.drop_succ_cons, List.drop_zero]
 (with_reducible refine stL ?_ (by rfl)); intro KK hKK; refine stQ S 1 0 (g11) 0 h36 (IsI.gstb _ _) (IsI.gstb _ _) st_Rat (fun W9 S2 G2 => hKK _ _ ?_) rfl rfl
 replace S := S2; clear S2 G2 hKK KK h36
 simp only [List.set_cons_zero, List.set_cons_succ] at S
 refine wpList_nil ?_
 go_upto_region 9 with (fail)
 refine rgs 18 [some 37, some 38, some 39, some 40, some 41, some 42, some 43, some 44, some 45, some 46, some 47, some 48, some 49, some 50, some 51, some 52, some 53, some 54] [IsV (.int .i64 0), IsV (.bool false), IsV (.bool false), IsV (.int .i64 ed), IsV (.bool true), IsV (.bool true), IsV (.bool true), IsV (undef), IsV (undef), IsV (undef), IsV (.bool true), IsV (.bool true), IsV (undef), IsV (undef), IsV (undef), IsV (undef), IsV (undef), IsV (.bool true)] [] ?_ ?_
 ·refine Rc (mv (Od.lit 8)) ?_
  refine Rc (bn (r := .bool false) (Od.loc 0 37) Od.con (hr := fun w => by go_simp)) ?_
  refine Rc (mv (Od.lc 1 38)) ?_
  refine RcG 2 39 false (mv (Od.lit 10)) ?_
  refine RcG 2 39 false (bn (r := .bool true) (Od.loc 3 40) Od.con (hr := fun w => by have hx9 := HE2.out; go_simp)) ?_
  refine Rc (pk (Od.loc 2 39) (Od.lc 4 41)) ?_
  refine Rc (mv (Od.lc 5 42)) ?_
  refine RcN 6 43 true ?_
  refine RcN 6 43 true ?_
  refine RcN 6 43 true ?_
  refine Rc (pk (Od.loc 6 43) Od.con) ?_
  refine Rc (mv (Od.lc 10 47)) ?_
  refine RcN 11 48 true ?_
  refine RcN 11 48 true ?_
  refine RcU 13 50 true ?_
  refine RcU 13 50 true ?_
  refine RcN 11 48 true ?_
  refine Rc (pk (Od.loc 11 48) Od.con) ?_
  exact RgAll.nil
 intro v W10 e1 hΦ _
 replace S := S.mono e1
 have v17 : v 17 = .bool true := hΦ 17 (by decide)
 simp only [layL, Act.put, List.setIfInBounds_toArray, List.set_cons_zero, List.set_cons_succ, Nat.reduceAdd]
 rw [v17]
 clear v17 hΦ e1
 refine wpList_nil ?_
 go_upto_region 10 with (fail)
 refine rgs 1 [some 55] [IsQ (IsI 0 0) (IsI 0 0)] [] ?_ ?_
 ·refine Rc (b0 z_Rat nilQ) ?_
  exact RgAll.nil
 intro v W11 e1 hΦ _
 replace S := S.mono e1
 have h55 := hΦ 0 (by decide)
 simp only [layL, Act.put, List.setIfInBounds_toArray, List.set_cons_zero, List.set_cons_succ]
 clear hΦ e1
 try simp only [List.drop_succ_cons, List.drop_zero]
 (with_reducible refine stL ?_ (by rfl)); intro KK hKK; refine stQ S 5 4 (w.heap.size) 0 h55 (IsI.gstb _ _) (IsI.gstb _ _) st_Rat (fun W12 S2 G2 => hKK _ _ ?_) rfl rfl
 replace S := S2; clear S2 G2 hKK KK h55
 simp only [List.set_cons_zero, List.set_cons_succ] at S
 refine wpList_step fun K hK => ?_; go_simp; refine hK _ _ ?_; clear hK K
 refine wpList_nil ?_
 go_wp2_with fail
 obtain ⟨s90x, a90x, n90x, c90x, b90x, h90x⟩ := S.at 5 (w.heap.size) 0 (IsI 0 0) rfl; have L90xa : World.cell? W12 ⟨w.heap.size, 0, none⟩ = some (.bool s90x) := b90x.c0; have L90xb : World.cell? W12 ⟨w.heap.size, 1, none⟩ = some (.slice a90x n90x c90x) := b90x.c1
 obtain ⟨s90y, a90y, n90y, c90y, b90y, h90y⟩ := S.at 4 (w.heap.size) 1 (IsI 0 0) rfl; have L90ya : World.cell? W12 ⟨w.heap.size, 2, none⟩ = some (.bool s90y) := b90y.c0; have L90yb : World.cell? W12 ⟨w.heap.size, 3, none⟩ = some (.slice a90y n90y c90y) := b90y.c1
 exact bodyPost_ret (v := .tuple #[.agg #[.bool s90x, .slice a90x n90x c90x, .bool s90y, .slice a90y n90y c90y], .int .i64 3]) (by simp [results, Tryz.results16, go_sem, L90xa, L90xb, L90ya, L90yb]) rfl (⟨_, rfl, S.ext, ⟨_, _, rfl, ⟨_, _, _, _, _, _, _, _, rfl, h90x, h90y⟩, rfl⟩⟩)

set_option maxRecDepth 100000 in
set_option maxHeartbeats 4000000 in
theorem qParse_Tv (w : World) (s ta tb : ByteArray) (z1 z2 : Int) (hs : s.size ≤ 2601)
  (hc : ∀ w, Calls Tryz.prog 72 #[.string s, .string ⟨#[47]⟩] w (Ret w (IsT3 (IsV (.string ta)) (IsV (.string tb)) (IsV (.bool true)))))
  (h1 : parseZ ta.data.toList = z1 ∧ parseE ta.data.toList = 0) (h2 : parseZ (tb : ByteArray).data.toList = z2 ∧ parseE (tb : ByteArray).data.toList = 0) (hv : validQ z1 z2 = false) :
  Calls Tryz.prog 16 #[.string s] w (Ret w (IsT2 (IsQ (IsI 0 0) (IsI 0 0)) (IsV (.int .i64 3)))) := by
 have HS := hid (show decide ((2601 : Int) < (s.size : Int)) = false by simp; omega)
 have HCUT := hid hc
 have H1 := hid h1
 have H2 := hid h2
 have HV := hid hv
 clear hs hc h1 h2 hv
 obtain ⟨W, hW, S⟩ : ∃ W, W = w.alloc (.cells #[.bool false, .slice none 0 0, .bool false, .slice none 0 0] 31) ∧ Sto w W [((w.heap.size, 1), IsI 0 0), ((w.heap.size, 0), IsI 0 0)] := ⟨_, rfl, ((Sto.start w).new2 (w.heap.size) (by simp) false false none none 0 0 0 0 31 (IsI 0 0) (IsI 0 0) (IsI.gstb _ _) (IsI.nil _ _) (IsI.gstb _ _) (IsI.nil _ _))⟩
 go_enter Tryz.func16, Tryz.ntmps16
 go_upto_region 1 with (fail)
 rw [← hW]
 clear hW
 refine rgs 3 [some 12, some 13, some 14] [IsV (.string s), IsV (.int .i64 ((s).size)), IsV (.bool false)] [] ?_ ?_
 ·refine Rc (mv (Od.lit 0)) ?_
  refine RgAll.cons (by { (with_reducible refine RgL.mk (by rfl) ?_); intro v a w' hE hd hf; have d0 : v 0 = .string s := hd 0 (by kernel_rfl); have ev0 := hf.val 0 12 _ d0 (by kernel_rfl) (by kernel_rfl) (by kernel_rfl); clear d0; clear hd hf; intro K hK; go_simp; exact hK.out _ _ (Ext.refl _) rfl (FreshIf.no rfl) }) ?_
  refine Rc (bn (r := .bool false) (Od.loc 1 13) Od.con (hr := fun w => by have hs9 := HS.out; go_simp)) ?_
  exact RgAll.nil
 intro v W1 e1 hΦ _
 replace S := S.mono e1
 have v2 : v 2 = .bool false := hΦ 2 (by decide)
 simp only [layL, Act.put, List.setIfInBounds_toArray, List.set_cons_zero, List.set_cons_succ, Nat.reduceAdd]
 rw [v2]
 clear v2 hΦ e1
 refine wpList_nil ?_
 go_upto_region 3 with (fail)
 refine rgs 9 [some 17, some 18, some 16, some 19, some 20, some 21, some 4, some 5, some 6] [IsV (.string s), IsT3 (IsV (.string ta)) (IsV (.string tb)) (IsV (.bool true)), IsT3 (IsV (.string ta)) (IsV (.string tb)) (IsV (.bool true)), IsV (.string ta), IsV (.string tb), IsV (.bool true), IsV (.string ta), IsV (.string tb), IsV (.bool true)] [] ?_ ?_
 ·refine Rc (mv (Od.lit 0)) ?_
  refine Rc (cl2 (en Tryz.func72) (Od.lc (Φ := IsV (.string s)) 0 17) Od.con (fun x0 x1 w' hE d0 d1 => by { obtain rfl : x0 = .string s := d0; obtain rfl : x1 = .string ⟨#[47]⟩ := d1; exact HCUT.out _ })) ?_
  refine Rc (mv (Od.lc 1 18)) ?_
  refine Rc (ex (Od.loc 2 16) t30) ?_
  refine Rc (ex (Od.loc 2 16) t31) ?_
  refine Rc (ex (Od.loc 2 16) t32) ?_
  refine Rc (mv (Od.lc 3 19)) ?_
  refine Rc (mv (Od.lc 4 20)) ?_
  refine Rc (mv (Od.lc 5 21)) ?_
  exact RgAll.nil
 intro v W2 e1 hΦ _
 replace S := S.mono e1
 have v6 : v 6 = .string ta := hΦ 6 (by decide)
 have v7 : v 7 = .string tb := hΦ 7 (by decide)
 have v8 : v 8 = .bool true := hΦ 8 (by decide)
 simp only [layL, Act.put, List.setIfInBounds_toArray, List.set_cons_zero, List.set_cons_succ, Nat.reduceAdd]
 rw [v6, v7, v8]
 clear v6 v7 v8 hΦ e1
 refine wpList_nil ?_
 go_upto_region 4 with (fail)
 refine rgs 2 [some 22, some 23] [IsV (.bool true), IsV (.bool false)] [] ?_ ?_
 ·refine Rc (mv (Od.lit 6)) ?_
  refine Rc (nt (Od.loc 0 22)) ?_
  exact RgAll.nil
 intro v W3 e1 hΦ _
 replace S := S.mono e1
 have v1 : v 1 = .bool false := hΦ 1 (by decide)
 simp only [layL, Act.put, List.setIfInBounds_toArray, List.set_cons_zero, List.set_cons_succ, Nat.reduceAdd]
 rw [v1]
 clear v1 hΦ e1
 refine wpList_nil ?_
 go_upto_region 6 with (fail)
 have hl := hid S.lt; have hw := S.ext.size
 refine rgs 6 [some 25, some 26, some 24, some 27, some 28, some 7] [IsV (.string ta), IsT2 (IsI 136 z1) (IsV (.int .i64 0)), IsT2 (IsI 136 z1) (IsV (.int .i64 0)), IsI 136 z1, IsV (.int .i64 0), IsBo W3 1] [5] ?_ ?_
 ·refine Rc (mv (Od.lit 4)) ?_
  refine Rc (cl1 (en Tryz.func73) (Od.lc (Φ := IsV (.string ta)) 0 25) (fun x0 w' hE d0 => by { obtain rfl : x0 = .string ta := d0; exact (by have hh := Parse_f w' ta; rw [H1.out.1, H1.out.2] at hh; exact hh) })) ?_
  refine Rc (mv (Od.lc 1 26)) ?_
  refine Rc (ex (Od.loc 2 24) t20) ?_
  refine Rc (ex (Od.loc 2 24) t21) ?_
  refine Rc (al al_Int) ?_
  exact RgAll.nil
 intro v W4 e1 hΦ _
 replace S := S.mono e1
 have h27 := hΦ 3 (by decide)
 have v4 : v 4 = .int .i64 0 := hΦ 4 (by decide)
 obtain ⟨g7, v5, q2, b1, _⟩ := (hΦ 5 (by decide) : IsBo W3 1 (v 5) W4)
 replace S := S.addN 1 (ApartO.old hl.out q2) (Nat.le_trans hw q2) b1
 simp only [newF, List.cons_append, List.nil_append] at S
 simp only [layL, Act.put, List.setIfInBounds_toArray, List.set_cons_zero, List.set_cons_succ, Nat.reduceAdd]
 rw [v4, v5]
 clear b1 hl hw v4 v5 hΦ e1
 try simp only [List.drop_succ_cons, List.drop_zero]
 (with_reducible refine stL ?_ (by rfl)); intro KK hKK; refine stI S 0 (g7) 0 h27 st_Int (fun W5 S2 G2 => hKK _ _ ?_) rfl
 replace S := S2; clear S2 G2 hKK KK h27
 simp only [List.set_cons_zero] at S
 refine wpList_step fun K hK => ?_; go_simp; refine hK _ _ ?_; clear hK K
 refine wpList_nil ?_
 go_upto_region 7 with (fail)
 have hl := hid S.lt; have hw := S.ext.size
 refine rgs 6 [some 30, some 31, some 29, some 32, some 33, some 9] [IsV (.string tb), IsT2 (IsI 136 z2) (IsV (.int .i64 0)), IsT2 (IsI 136 z2) (IsV (.int .i64 0)), IsI 136 z2, IsV (.int .i64 0), IsBo W5 1] [5] ?_ ?_
 ·refine Rc (mv (Od.lit 5)) ?_
  refine Rc (cl1 (en Tryz.func73) (Od.lc (Φ := IsV (.string tb)) 0 30) (fun x0 w' hE d0 => by { obtain rfl : x0 = .string tb := d0; exact (by have hh := Parse_f w' tb; rw [H2.out.1, H2.out.2] at hh; exact hh) })) ?_
  refine Rc (mv (Od.lc 1 31)) ?_
  refine Rc (ex (Od.loc 2 29) t20) ?_
  refine Rc (ex (Od.loc 2 29) t21) ?_
  refine Rc (al al_Int) ?_
  exact RgAll.nil
 intro v W6 e1 hΦ _
 replace S := S.mono e1
 have h32 := hΦ 3 (by decide)
 have v4 : v 4 = .int .i64 0 := hΦ 4 (by decide)
 obtain ⟨g9, v5, q4, b3, _⟩ := (hΦ 5 (by decide) : IsBo W5 1 (v 5) W6)
 replace S := S.addN 1 (ApartO.old hl.out q4) (Nat.le_trans hw q4) b3
 simp only [newF, List.cons_append, List.nil_append] at S
 simp only [layL, Act.put, List.setIfInBounds_toArray, List.set_cons_zero, List.set_cons_succ, Nat.reduceAdd]
 rw [v4, v5]
 clear b3 hl hw v4 v5 hΦ e1
 try simp only [List.drop_succ_cons, List.drop_zero]
 (with_reducible refine stL ?_ (by rfl)); intro KK hKK; refine stI S 0 (g9) 0 h32 st_Int (fun W7 S2 G2 => hKK _ _ ?_) rfl
 replace S := S2; clear S2 G2 hKK KK h32
 simp only [List.set_cons_zero] at S
 refine wpList_step fun K hK => ?_; go_simp; refine hK _ _ ?_; clear hK K
 refine wpList_nil ?_
 go_upto_region 8 with (fail)
 have hl := hid S.lt; have hw := S.ext.size
 refine rgs 4 [some 34, some 35, some 36, some 11] [IsI 136 z1, IsI 136 z2, IsQ (IsI 136 z1) (IsI 136 z2), IsBo W7 2] [3] ?_ ?_
 ·refine Rc (ldI S 1 (g7) 0 (Od.lit 7) ld_Int) ?_
  refine Rc (ldI S 0 (g9) 0 (Od.lit 9) ld_Int) ?_
  refine Rc (bq (Od.loc 0 34) (Od.loc 1 35) bd_Rat) ?_
  refine Rc (al al_Rat) ?_
  exact RgAll.nil
 intro v W8 e1 hΦ _
 replace S := S.mono e1
 have h36 := hΦ 2 (by decide)
 obtain ⟨g11, v3, q6, b5, _⟩ := (hΦ 3 (by decide) : IsBo W7 2 (v 3) W8)
 replace S := S.addN 2 (ApartO.old hl.out q6) (Nat.le_trans hw q6) b5
 simp only [newF, List.cons_append, List.nil_append] at S
 simp only [layL, Act.put, List.setIfInBounds_toArray, List.set_cons_zero, List.set_cons_succ, Nat.reduceAdd]
 rw [v3]
 clear b5 hl hw v3 hΦ e1
 try simp only [List.drop_succ_cons, List.drop_zero]
 (with_reducible refine stL ?_ (by rfl)); intro KK hKK; refine stQ S 1 0 (g11) 0 h36 (IsI.gstb _ _) (IsI.gstb _ _) st_Rat (fun W9 S2 G2 => hKK _ _ ?_) rfl rfl
 replace S := S2; clear S2 G2 hKK KK h36
 simp only [List.set_cons_zero, List.set_cons_succ] at S
 refine wpList_nil ?_
 go_upto_region 9 with (fail)
 refine rgs 18 [some 37, some 38, some 39, some 40, some 41, some 42, some 43, some 44, some 45, some 46, some 47, some 48, some 49, some 50, some 51, some 52, some 53, some 54] [IsV (.int .i64 0), IsV (.bool false), IsV (.bool false), IsV (.int .i64 0), IsV (.bool false), IsV (.bool false), IsV (.bool false), IsQ (IsI 136 z1) (IsI 136 z2), IsV (.bool false), IsV (.bool true), IsV (.bool true), IsV (.bool true), IsV (undef), IsV (undef), IsV (undef), IsV (undef), IsV (undef), IsV (.bool true)] [] ?_ ?_
 ·refine Rc (mv (Od.lit 8)) ?_
  refine Rc (bn (r := .bool false) (Od.loc 0 37) Od.con (hr := fun w => by go_simp)) ?_
  refine Rc (mv (Od.lc 1 38)) ?_
  refine RcG 2 39 false (mv (Od.lit 10)) ?_
  refine RcG 2 39 false (bn (r := .bool false) (Od.loc 3 40) Od.con (hr := fun w => by go_simp)) ?_
  refine Rc (pk (Od.loc 2 39) (Od.lc 4 41)) ?_
  refine Rc (mv (Od.lc 5 42)) ?_
  refine RcG 6 43 false (ldQ S 1 0 (g11) 0 (Od.lit 11) ld_Rat rfl rfl) ?_
  refine RcG 6 43 false (cl1 (en Tryz.func41) (Od.lc (Φ := IsQ (IsI 136 z1) (IsI 136 z2)) 7 44) (fun x0 w' hE d0 => (by have hh := qValid_f d0 (by decide); rw [HV.out] at hh; exact hh))) ?_
  refine RcG 6 43 false (nt (Od.loc 8 45)) ?_
  refine Rc (pk (Od.loc 6 43) (Od.lc 9 46)) ?_
  refine Rc (mv (Od.lc 10 47)) ?_
  refine RcN 11 48 true ?_
  refine RcN 11 48 true ?_
  refine RcU 13 50 true ?_
  refine RcU 13 50 true ?_
  refine RcN 11 48 true ?_
  refine Rc (pk (Od.loc 11 48) Od.con) ?_
  exact RgAll.nil
 intro v W10 e1 hΦ _
 replace S := S.mono e1
 have v17 : v 17 = .bool true := hΦ 17 (by decide)
 simp only [layL, Act.put, List.setIfInBounds_toArray, List.set_cons_zero, List.set_cons_succ, Nat.reduceAdd]
 rw [v17]
 clear v17 hΦ e1
 refine wpList_nil ?_
 go_upto_region 10 with (fail)
 refine rgs 1 [some 55] [IsQ (IsI 0 0) (IsI 0 0)] [] ?_ ?_
 ·refine Rc (b0 z_Rat nilQ) ?_
  exact RgAll.nil
 intro v W11 e1 hΦ _
 replace S := S.mono e1
 have h55 := hΦ 0 (by decide)
 simp only [layL, Act.put, List.setIfInBounds_toArray, List.set_cons_zero, List.set_cons_succ]
 clear hΦ e1
 try simp only [List.drop_succ_cons, List.drop_zero]
 (with_reducible refine stL ?_ (by rfl)); intro KK hKK; refine stQ S 5 4 (w.heap.size) 0 h55 (IsI.gstb _ _) (IsI.gstb _ _) st_Rat (fun W12 S2 G2 => hKK _ _ ?_) rfl rfl
 replace S := S2; clear S2 G2 hKK KK h55
 simp only [List.set_cons_zero, List.set_cons_succ] at S
 refine wpList_step fun K hK => ?_; go_simp; refine hK _ _ ?_; clear hK K
 refine wpList_nil ?_
 go_wp2_with fail
 obtain ⟨s90x, a90x, n90x, c90x, b90x, h90x⟩ := S.at 5 (w.heap.size) 0 (IsI 0 0) rfl; have L90xa : World.cell? W12 ⟨w.heap.size, 0, none⟩ = some (.bool s90x) := b90x.c0; have L90xb : World.cell? W12 ⟨w.heap.size, 1, none⟩ = some (.slice a90x n90x c90x) := b90x.c1
 obtain ⟨s90y, a90y, n90y, c90y, b90y, h90y⟩ := S.at 4 (w.heap.size) 1 (IsI 0 0) rfl; have L90ya : World.cell? W12 ⟨w.heap.size, 2, none⟩ = some (.bool s90y) := b90y.c0; have L90yb : World.cell? W12 ⟨w.heap.size, 3, none⟩ = some (.slice a90y n90y c90y) := b90y.c1
 exact bodyPost_ret (v := .tuple #[.agg #[.bool s90x, .slice a90x n90x c90x, .bool s90y, .slice a90y n90y c90y], .int .i64 3]) (by simp [results, Tryz.results16, go_sem, L90xa, L90xb, L90ya, L90yb]) rfl (⟨_, rfl, S.ext, ⟨_, _, rfl, ⟨_, _, _, _, _, _, _, _, rfl, h90x, h90y⟩, rfl⟩⟩)

set_option maxRecDepth 100000 in
set_option maxHeartbeats 4000000 in
theorem qParse_To (w : World) (s ta : ByteArray) (z1 z2 : Int) (hs : s.size ≤ 2601)
  (hc : ∀ w, Calls Tryz.prog 72 #[.string s, .string ⟨#[47]⟩] w (Ret w (IsT3 (IsV (.string ta)) (IsV (.string ⟨#[49]⟩)) (IsV (.bool true)))))
  (h1 : parseZ ta.data.toList = z1 ∧ parseE ta.data.toList = 0) (h2 : parseZ (⟨#[49]⟩ : ByteArray).data.toList = z2 ∧ parseE (⟨#[49]⟩ : ByteArray).data.toList = 0) (hv : validQ z1 z2 = true) :
  Calls Tryz.prog 16 #[.string s] w (Ret w (IsT2 (IsQ (IsI 0 0) (IsI 0 0)) (IsV (.int .i64 3)))) := by
 have HS := hid (show decide ((2601 : Int) < (s.size : Int)) = false by simp; omega)
 have HCUT := hid hc
 have H1 := hid h1
 have H2 := hid h2
 have HV := hid hv
 clear hs hc h1 h2 hv
 obtain ⟨W, hW, S⟩ : ∃ W, W = w.alloc (.cells #[.bool false, .slice none 0 0, .bool false, .slice none 0 0] 31) ∧ Sto w W [((w.heap.size, 1), IsI 0 0), ((w.heap.size, 0), IsI 0 0)] := ⟨_, rfl, ((Sto.start w).new2 (w.heap.size) (by simp) false false none none 0 0 0 0 31 (IsI 0 0) (IsI 0 0) (IsI.gstb _ _) (IsI.nil _ _) (IsI.gstb _ _) (IsI.nil _ _))⟩
 go_enter Tryz.func16, Tryz.ntmps16
 go_upto_region 1 with (fail)
 rw [← hW]
 clear hW
 refine rgs 3 [some 12, some 13, some 14] [IsV (.string s), IsV (.int .i64 ((s).size)), IsV (.bool false)] [] ?_ ?_
 ·refine Rc (mv (Od.lit 0)) ?_
  refine RgAll.cons (by { (with_reducible refine RgL.mk (by rfl) ?_); intro v a w' hE hd hf; have d0 : v 0 = .string s := hd 0 (by kernel_rfl); have ev0 := hf.val 0 12 _ d0 (by kernel_rfl) (by kernel_rfl) (by kernel_rfl); clear d0; clear hd hf; intro K hK; go_simp; exact hK.out _ _ (Ext.refl _) rfl (FreshIf.no rfl) }) ?_
  refine Rc (bn (r := .bool false) (Od.loc 1 13) Od.con (hr := fun w => by have hs9 := HS.out; go_simp)) ?_
  exact RgAll.nil
 intro v W1 e1 hΦ _
 replace S := S.mono e1
 have v2 : v 2 = .bool false := hΦ 2 (by decide)
 simp only [layL, Act.put, List.setIfInBounds_toArray, List.set_cons_zero, List.set_cons_succ, Nat.reduceAdd]
 rw [v2]
 clear v2 hΦ e1
 refine wpList_nil ?_
 go_upto_region 3 with (fail)
 refine rgs 9 [some 17, some 18, some 16, some 19, some 20, some 21, some 4, some 5, some 6] [IsV (.string s), IsT3 (IsV (.string ta)) (IsV (.string ⟨#[49]⟩)) (IsV (.bool true)), IsT3 (IsV (.string ta)) (IsV (.string ⟨#[49]⟩)) (IsV (.bool true)), IsV (.string ta), IsV (.string ⟨#[49]⟩), IsV (.bool true), IsV (.string ta), IsV (.string ⟨#[49]⟩), IsV (.bool true)] [] ?_ ?_
 ·refine Rc (mv (Od.lit 0)) ?_
  refine Rc (cl2 (en Tryz.func72) (Od.lc (Φ := IsV (.string s)) 0 17) Od.con (fun x0 x1 w' hE d0 d1 => by { obtain rfl : x0 = .string s := d0; obtain rfl : x1 = .string ⟨#[47]⟩ := d1; exact HCUT.out _ })) ?_
  refine Rc (mv (Od.lc 1 18)) ?_
  refine Rc (ex (Od.loc 2 16) t30) ?_
  refine Rc (ex (Od.loc 2 16) t31) ?_
  refine Rc (ex (Od.loc 2 16) t32) ?_
  refine Rc (mv (Od.lc 3 19)) ?_
  refine Rc (mv (Od.lc 4 20)) ?_
  refine Rc (mv (Od.lc 5 21)) ?_
  exact RgAll.nil
 intro v W2 e1 hΦ _
 replace S := S.mono e1
 have v6 : v 6 = .string ta := hΦ 6 (by decide)
 have v7 : v 7 = .string ⟨#[49]⟩ := hΦ 7 (by decide)
 have v8 : v 8 = .bool true := hΦ 8 (by decide)
 simp only [layL, Act.put, List.setIfInBounds_toArray, List.set_cons_zero, List.set_cons_succ, Nat.reduceAdd]
 rw [v6, v7, v8]
 clear v6 v7 v8 hΦ e1
 refine wpList_nil ?_
 go_upto_region 4 with (fail)
 refine rgs 2 [some 22, some 23] [IsV (.bool true), IsV (.bool false)] [] ?_ ?_
 ·refine Rc (mv (Od.lit 6)) ?_
  refine Rc (nt (Od.loc 0 22)) ?_
  exact RgAll.nil
 intro v W3 e1 hΦ _
 replace S := S.mono e1
 have v1 : v 1 = .bool false := hΦ 1 (by decide)
 simp only [layL, Act.put, List.setIfInBounds_toArray, List.set_cons_zero, List.set_cons_succ, Nat.reduceAdd]
 rw [v1]
 clear v1 hΦ e1
 refine wpList_nil ?_
 go_upto_region 6 with (fail)
 have hl := hid S.lt; have hw := S.ext.size
 refine rgs 6 [some 25, some 26, some 24, some 27, some 28, some 7] [IsV (.string ta), IsT2 (IsI 136 z1) (IsV (.int .i64 0)), IsT2 (IsI 136 z1) (IsV (.int .i64 0)), IsI 136 z1, IsV (.int .i64 0), IsBo W3 1] [5] ?_ ?_
 ·refine Rc (mv (Od.lit 4)) ?_
  refine Rc (cl1 (en Tryz.func73) (Od.lc (Φ := IsV (.string ta)) 0 25) (fun x0 w' hE d0 => by { obtain rfl : x0 = .string ta := d0; exact (by have hh := Parse_f w' ta; rw [H1.out.1, H1.out.2] at hh; exact hh) })) ?_
  refine Rc (mv (Od.lc 1 26)) ?_
  refine Rc (ex (Od.loc 2 24) t20) ?_
  refine Rc (ex (Od.loc 2 24) t21) ?_
  refine Rc (al al_Int) ?_
  exact RgAll.nil
 intro v W4 e1 hΦ _
 replace S := S.mono e1
 have h27 := hΦ 3 (by decide)
 have v4 : v 4 = .int .i64 0 := hΦ 4 (by decide)
 obtain ⟨g7, v5, q2, b1, _⟩ := (hΦ 5 (by decide) : IsBo W3 1 (v 5) W4)
 replace S := S.addN 1 (ApartO.old hl.out q2) (Nat.le_trans hw q2) b1
 simp only [newF, List.cons_append, List.nil_append] at S
 simp only [layL, Act.put, List.setIfInBounds_toArray, List.set_cons_zero, List.set_cons_succ, Nat.reduceAdd]
 rw [v4, v5]
 clear b1 hl hw v4 v5 hΦ e1
 try simp only [List.drop_succ_cons, List.drop_zero]
 (with_reducible refine stL ?_ (by rfl)); intro KK hKK; refine stI S 0 (g7) 0 h27 st_Int (fun W5 S2 G2 => hKK _ _ ?_) rfl
 replace S := S2; clear S2 G2 hKK KK h27
 simp only [List.set_cons_zero] at S
 refine wpList_step fun K hK => ?_; go_simp; refine hK _ _ ?_; clear hK K
 refine wpList_nil ?_
 go_upto_region 7 with (fail)
 have hl := hid S.lt; have hw := S.ext.size
 refine rgs 6 [some 30, some 31, some 29, some 32, some 33, some 9] [IsV (.string ⟨#[49]⟩), IsT2 (IsI 136 z2) (IsV (.int .i64 0)), IsT2 (IsI 136 z2) (IsV (.int .i64 0)), IsI 136 z2, IsV (.int .i64 0), IsBo W5 1] [5] ?_ ?_
 ·refine Rc (mv (Od.lit 5)) ?_
  refine Rc (cl1 (en Tryz.func73) (Od.lc (Φ := IsV (.string ⟨#[49]⟩)) 0 30) (fun x0 w' hE d0 => by { obtain rfl : x0 = .string ⟨#[49]⟩ := d0; exact (by have hh := Parse_f w' ⟨#[49]⟩; rw [H2.out.1, H2.out.2] at hh; exact hh) })) ?_
  refine Rc (mv (Od.lc 1 31)) ?_
  refine Rc (ex (Od.loc 2 29) t20) ?_
  refine Rc (ex (Od.loc 2 29) t21) ?_
  refine Rc (al al_Int) ?_
  exact RgAll.nil
 intro v W6 e1 hΦ _
 replace S := S.mono e1
 have h32 := hΦ 3 (by decide)
 have v4 : v 4 = .int .i64 0 := hΦ 4 (by decide)
 obtain ⟨g9, v5, q4, b3, _⟩ := (hΦ 5 (by decide) : IsBo W5 1 (v 5) W6)
 replace S := S.addN 1 (ApartO.old hl.out q4) (Nat.le_trans hw q4) b3
 simp only [newF, List.cons_append, List.nil_append] at S
 simp only [layL, Act.put, List.setIfInBounds_toArray, List.set_cons_zero, List.set_cons_succ, Nat.reduceAdd]
 rw [v4, v5]
 clear b3 hl hw v4 v5 hΦ e1
 try simp only [List.drop_succ_cons, List.drop_zero]
 (with_reducible refine stL ?_ (by rfl)); intro KK hKK; refine stI S 0 (g9) 0 h32 st_Int (fun W7 S2 G2 => hKK _ _ ?_) rfl
 replace S := S2; clear S2 G2 hKK KK h32
 simp only [List.set_cons_zero] at S
 refine wpList_step fun K hK => ?_; go_simp; refine hK _ _ ?_; clear hK K
 refine wpList_nil ?_
 go_upto_region 8 with (fail)
 have hl := hid S.lt; have hw := S.ext.size
 refine rgs 4 [some 34, some 35, some 36, some 11] [IsI 136 z1, IsI 136 z2, IsQ (IsI 136 z1) (IsI 136 z2), IsBo W7 2] [3] ?_ ?_
 ·refine Rc (ldI S 1 (g7) 0 (Od.lit 7) ld_Int) ?_
  refine Rc (ldI S 0 (g9) 0 (Od.lit 9) ld_Int) ?_
  refine Rc (bq (Od.loc 0 34) (Od.loc 1 35) bd_Rat) ?_
  refine Rc (al al_Rat) ?_
  exact RgAll.nil
 intro v W8 e1 hΦ _
 replace S := S.mono e1
 have h36 := hΦ 2 (by decide)
 obtain ⟨g11, v3, q6, b5, _⟩ := (hΦ 3 (by decide) : IsBo W7 2 (v 3) W8)
 replace S := S.addN 2 (ApartO.old hl.out q6) (Nat.le_trans hw q6) b5
 simp only [newF, List.cons_append, List.nil_append] at S
 simp only [layL, Act.put, List.setIfInBounds_toArray, List.set_cons_zero, List.set_cons_succ, Nat.reduceAdd]
 rw [v3]
 clear b5 hl hw v3 hΦ e1
 try simp only [List.drop_succ_cons, List.drop_zero]
 (with_reducible refine stL ?_ (by rfl)); intro KK hKK; refine stQ S 1 0 (g11) 0 h36 (IsI.gstb _ _) (IsI.gstb _ _) st_Rat (fun W9 S2 G2 => hKK _ _ ?_) rfl rfl
 replace S := S2; clear S2 G2 hKK KK h36
 simp only [List.set_cons_zero, List.set_cons_succ] at S
 refine wpList_nil ?_
 go_upto_region 9 with (fail)
 refine rgs 18 [some 37, some 38, some 39, some 40, some 41, some 42, some 43, some 44, some 45, some 46, some 47, some 48, some 49, some 50, some 51, some 52, some 53, some 54] [IsV (.int .i64 0), IsV (.bool false), IsV (.bool false), IsV (.int .i64 0), IsV (.bool false), IsV (.bool false), IsV (.bool false), IsQ (IsI 136 z1) (IsI 136 z2), IsV (.bool true), IsV (.bool false), IsV (.bool false), IsV (.bool false), IsV (.bool true), IsV (.bool true), IsV (.string ⟨#[49]⟩), IsV (.bool true), IsV (.bool true), IsV (.bool true)] [] ?_ ?_
 ·refine Rc (mv (Od.lit 8)) ?_
  refine Rc (bn (r := .bool false) (Od.loc 0 37) Od.con (hr := fun w => by go_simp)) ?_
  refine Rc (mv (Od.lc 1 38)) ?_
  refine RcG 2 39 false (mv (Od.lit 10)) ?_
  refine RcG 2 39 false (bn (r := .bool false) (Od.loc 3 40) Od.con (hr := fun w => by go_simp)) ?_
  refine Rc (pk (Od.loc 2 39) (Od.lc 4 41)) ?_
  refine Rc (mv (Od.lc 5 42)) ?_
  refine RcG 6 43 false (ldQ S 1 0 (g11) 0 (Od.lit 11) ld_Rat rfl rfl) ?_
  refine RcG 6 43 false (cl1 (en Tryz.func41) (Od.lc (Φ := IsQ (IsI 136 z1) (IsI 136 z2)) 7 44) (fun x0 w' hE d0 => (by have hh := qValid_f d0 (by decide); rw [HV.out] at hh; exact hh))) ?_
  refine RcG 6 43 false (nt (Od.loc 8 45)) ?_
  refine Rc (pk (Od.loc 6 43) (Od.lc 9 46)) ?_
  refine Rc (mv (Od.lc 10 47)) ?_
  refine RcG 11 48 false (mv (Od.lit 6)) ?_
  refine RcG 11 48 false (mv (Od.lc 12 49)) ?_
  refine RcG 13 50 true (mv (Od.lit 5)) ?_
  refine RcG 13 50 true (bn (r := .bool true) (Od.loc 14 51) Od.con (hr := fun w => by go_simp)) ?_
  refine RcG 11 48 false (pk (Od.loc 13 50) (Od.lc 15 52)) ?_
  refine Rc (pk (Od.loc 11 48) (Od.lc 16 53)) ?_
  exact RgAll.nil
 intro v W10 e1 hΦ _
 replace S := S.mono e1
 have v17 : v 17 = .bool true := hΦ 17 (by decide)
 simp only [layL, Act.put, List.setIfInBounds_toArray, List.set_cons_zero, List.set_cons_succ, Nat.reduceAdd]
 rw [v17]
 clear v17 hΦ e1
 refine wpList_nil ?_
 go_upto_region 10 with (fail)
 refine rgs 1 [some 55] [IsQ (IsI 0 0) (IsI 0 0)] [] ?_ ?_
 ·refine Rc (b0 z_Rat nilQ) ?_
  exact RgAll.nil
 intro v W11 e1 hΦ _
 replace S := S.mono e1
 have h55 := hΦ 0 (by decide)
 simp only [layL, Act.put, List.setIfInBounds_toArray, List.set_cons_zero, List.set_cons_succ]
 clear hΦ e1
 try simp only [List.drop_succ_cons, List.drop_zero]
 (with_reducible refine stL ?_ (by rfl)); intro KK hKK; refine stQ S 5 4 (w.heap.size) 0 h55 (IsI.gstb _ _) (IsI.gstb _ _) st_Rat (fun W12 S2 G2 => hKK _ _ ?_) rfl rfl
 replace S := S2; clear S2 G2 hKK KK h55
 simp only [List.set_cons_zero, List.set_cons_succ] at S
 refine wpList_step fun K hK => ?_; go_simp; refine hK _ _ ?_; clear hK K
 refine wpList_nil ?_
 go_wp2_with fail
 obtain ⟨s90x, a90x, n90x, c90x, b90x, h90x⟩ := S.at 5 (w.heap.size) 0 (IsI 0 0) rfl; have L90xa : World.cell? W12 ⟨w.heap.size, 0, none⟩ = some (.bool s90x) := b90x.c0; have L90xb : World.cell? W12 ⟨w.heap.size, 1, none⟩ = some (.slice a90x n90x c90x) := b90x.c1
 obtain ⟨s90y, a90y, n90y, c90y, b90y, h90y⟩ := S.at 4 (w.heap.size) 1 (IsI 0 0) rfl; have L90ya : World.cell? W12 ⟨w.heap.size, 2, none⟩ = some (.bool s90y) := b90y.c0; have L90yb : World.cell? W12 ⟨w.heap.size, 3, none⟩ = some (.slice a90y n90y c90y) := b90y.c1
 exact bodyPost_ret (v := .tuple #[.agg #[.bool s90x, .slice a90x n90x c90x, .bool s90y, .slice a90y n90y c90y], .int .i64 3]) (by simp [results, Tryz.results16, go_sem, L90xa, L90xb, L90ya, L90yb]) rfl (⟨_, rfl, S.ext, ⟨_, _, rfl, ⟨_, _, _, _, _, _, _, _, rfl, h90x, h90y⟩, rfl⟩⟩)

set_option maxRecDepth 100000 in
set_option maxHeartbeats 4000000 in
theorem qParse_Tk (w : World) (s ta tb : ByteArray) (z1 z2 : Int) (hs : s.size ≤ 2601)
  (hc : ∀ w, Calls Tryz.prog 72 #[.string s, .string ⟨#[47]⟩] w (Ret w (IsT3 (IsV (.string ta)) (IsV (.string tb)) (IsV (.bool true)))))
  (h1 : parseZ ta.data.toList = z1 ∧ parseE ta.data.toList = 0) (h2 : parseZ (tb : ByteArray).data.toList = z2 ∧ parseE (tb : ByteArray).data.toList = 0) (hv : validQ z1 z2 = true) (ho : ¬tb.toList = [49]) :
  Calls Tryz.prog 16 #[.string s] w (Ret w (IsT2 (IsQ (IsI 136 z1) (IsI 136 z2)) (IsV (.int .i64 0)))) := by
 have HS := hid (show decide ((2601 : Int) < (s.size : Int)) = false by simp; omega)
 have HCUT := hid hc
 have H1 := hid h1
 have H2 := hid h2
 have HV := hid hv
 have HO := hid ho
 clear hs hc h1 h2 hv ho
 obtain ⟨W, hW, S⟩ : ∃ W, W = w.alloc (.cells #[.bool false, .slice none 0 0, .bool false, .slice none 0 0] 31) ∧ Sto w W [((w.heap.size, 1), IsI 0 0), ((w.heap.size, 0), IsI 0 0)] := ⟨_, rfl, ((Sto.start w).new2 (w.heap.size) (by simp) false false none none 0 0 0 0 31 (IsI 0 0) (IsI 0 0) (IsI.gstb _ _) (IsI.nil _ _) (IsI.gstb _ _) (IsI.nil _ _))⟩
 go_enter Tryz.func16, Tryz.ntmps16
 go_upto_region 1 with (fail)
 rw [← hW]
 clear hW
 refine rgs 3 [some 12, some 13, some 14] [IsV (.string s), IsV (.int .i64 ((s).size)), IsV (.bool false)] [] ?_ ?_
 ·refine Rc (mv (Od.lit 0)) ?_
  refine RgAll.cons (by { (with_reducible refine RgL.mk (by rfl) ?_); intro v a w' hE hd hf; have d0 : v 0 = .string s := hd 0 (by kernel_rfl); have ev0 := hf.val 0 12 _ d0 (by kernel_rfl) (by kernel_rfl) (by kernel_rfl); clear d0; clear hd hf; intro K hK; go_simp; exact hK.out _ _ (Ext.refl _) rfl (FreshIf.no rfl) }) ?_
  refine Rc (bn (r := .bool false) (Od.loc 1 13) Od.con (hr := fun w => by have hs9 := HS.out; go_simp)) ?_
  exact RgAll.nil
 intro v W1 e1 hΦ _
 replace S := S.mono e1
 have v2 : v 2 = .bool false := hΦ 2 (by decide)
 simp only [layL, Act.put, List.setIfInBounds_toArray, List.set_cons_zero, List.set_cons_succ, Nat.reduceAdd]
 rw [v2]
 clear v2 hΦ e1
 refine wpList_nil ?_
 go_upto_region 3 with (fail)
 refine rgs 9 [some 17, some 18, some 16, some 19, some 20, some 21, some 4, some 5, some 6] [IsV (.string s), IsT3 (IsV (.string ta)) (IsV (.string tb)) (IsV (.bool true)), IsT3 (IsV (.string ta)) (IsV (.string tb)) (IsV (.bool true)), IsV (.string ta), IsV (.string tb), IsV (.bool true), IsV (.string ta), IsV (.string tb), IsV (.bool true)] [] ?_ ?_
 ·refine Rc (mv (Od.lit 0)) ?_
  refine Rc (cl2 (en Tryz.func72) (Od.lc (Φ := IsV (.string s)) 0 17) Od.con (fun x0 x1 w' hE d0 d1 => by { obtain rfl : x0 = .string s := d0; obtain rfl : x1 = .string ⟨#[47]⟩ := d1; exact HCUT.out _ })) ?_
  refine Rc (mv (Od.lc 1 18)) ?_
  refine Rc (ex (Od.loc 2 16) t30) ?_
  refine Rc (ex (Od.loc 2 16) t31) ?_
  refine Rc (ex (Od.loc 2 16) t32) ?_
  refine Rc (mv (Od.lc 3 19)) ?_
  refine Rc (mv (Od.lc 4 20)) ?_
  refine Rc (mv (Od.lc 5 21)) ?_
  exact RgAll.nil
 intro v W2 e1 hΦ _
 replace S := S.mono e1
 have v6 : v 6 = .string ta := hΦ 6 (by decide)
 have v7 : v 7 = .string tb := hΦ 7 (by decide)
 have v8 : v 8 = .bool true := hΦ 8 (by decide)
 simp only [layL, Act.put, List.setIfInBounds_toArray, List.set_cons_zero, List.set_cons_succ, Nat.reduceAdd]
 rw [v6, v7, v8]
 clear v6 v7 v8 hΦ e1
 refine wpList_nil ?_
 go_upto_region 4 with (fail)
 refine rgs 2 [some 22, some 23] [IsV (.bool true), IsV (.bool false)] [] ?_ ?_
 ·refine Rc (mv (Od.lit 6)) ?_
  refine Rc (nt (Od.loc 0 22)) ?_
  exact RgAll.nil
 intro v W3 e1 hΦ _
 replace S := S.mono e1
 have v1 : v 1 = .bool false := hΦ 1 (by decide)
 simp only [layL, Act.put, List.setIfInBounds_toArray, List.set_cons_zero, List.set_cons_succ, Nat.reduceAdd]
 rw [v1]
 clear v1 hΦ e1
 refine wpList_nil ?_
 go_upto_region 6 with (fail)
 have hl := hid S.lt; have hw := S.ext.size
 refine rgs 6 [some 25, some 26, some 24, some 27, some 28, some 7] [IsV (.string ta), IsT2 (IsI 136 z1) (IsV (.int .i64 0)), IsT2 (IsI 136 z1) (IsV (.int .i64 0)), IsI 136 z1, IsV (.int .i64 0), IsBo W3 1] [5] ?_ ?_
 ·refine Rc (mv (Od.lit 4)) ?_
  refine Rc (cl1 (en Tryz.func73) (Od.lc (Φ := IsV (.string ta)) 0 25) (fun x0 w' hE d0 => by { obtain rfl : x0 = .string ta := d0; exact (by have hh := Parse_f w' ta; rw [H1.out.1, H1.out.2] at hh; exact hh) })) ?_
  refine Rc (mv (Od.lc 1 26)) ?_
  refine Rc (ex (Od.loc 2 24) t20) ?_
  refine Rc (ex (Od.loc 2 24) t21) ?_
  refine Rc (al al_Int) ?_
  exact RgAll.nil
 intro v W4 e1 hΦ _
 replace S := S.mono e1
 have h27 := hΦ 3 (by decide)
 have v4 : v 4 = .int .i64 0 := hΦ 4 (by decide)
 obtain ⟨g7, v5, q2, b1, _⟩ := (hΦ 5 (by decide) : IsBo W3 1 (v 5) W4)
 replace S := S.addN 1 (ApartO.old hl.out q2) (Nat.le_trans hw q2) b1
 simp only [newF, List.cons_append, List.nil_append] at S
 simp only [layL, Act.put, List.setIfInBounds_toArray, List.set_cons_zero, List.set_cons_succ, Nat.reduceAdd]
 rw [v4, v5]
 clear b1 hl hw v4 v5 hΦ e1
 try simp only [List.drop_succ_cons, List.drop_zero]
 (with_reducible refine stL ?_ (by rfl)); intro KK hKK; refine stI S 0 (g7) 0 h27 st_Int (fun W5 S2 G2 => hKK _ _ ?_) rfl
 replace S := S2; clear S2 G2 hKK KK h27
 simp only [List.set_cons_zero] at S
 refine wpList_step fun K hK => ?_; go_simp; refine hK _ _ ?_; clear hK K
 refine wpList_nil ?_
 go_upto_region 7 with (fail)
 have hl := hid S.lt; have hw := S.ext.size
 refine rgs 6 [some 30, some 31, some 29, some 32, some 33, some 9] [IsV (.string tb), IsT2 (IsI 136 z2) (IsV (.int .i64 0)), IsT2 (IsI 136 z2) (IsV (.int .i64 0)), IsI 136 z2, IsV (.int .i64 0), IsBo W5 1] [5] ?_ ?_
 ·refine Rc (mv (Od.lit 5)) ?_
  refine Rc (cl1 (en Tryz.func73) (Od.lc (Φ := IsV (.string tb)) 0 30) (fun x0 w' hE d0 => by { obtain rfl : x0 = .string tb := d0; exact (by have hh := Parse_f w' tb; rw [H2.out.1, H2.out.2] at hh; exact hh) })) ?_
  refine Rc (mv (Od.lc 1 31)) ?_
  refine Rc (ex (Od.loc 2 29) t20) ?_
  refine Rc (ex (Od.loc 2 29) t21) ?_
  refine Rc (al al_Int) ?_
  exact RgAll.nil
 intro v W6 e1 hΦ _
 replace S := S.mono e1
 have h32 := hΦ 3 (by decide)
 have v4 : v 4 = .int .i64 0 := hΦ 4 (by decide)
 obtain ⟨g9, v5, q4, b3, _⟩ := (hΦ 5 (by decide) : IsBo W5 1 (v 5) W6)
 replace S := S.addN 1 (ApartO.old hl.out q4) (Nat.le_trans hw q4) b3
 simp only [newF, List.cons_append, List.nil_append] at S
 simp only [layL, Act.put, List.setIfInBounds_toArray, List.set_cons_zero, List.set_cons_succ, Nat.reduceAdd]
 rw [v4, v5]
 clear b3 hl hw v4 v5 hΦ e1
 try simp only [List.drop_succ_cons, List.drop_zero]
 (with_reducible refine stL ?_ (by rfl)); intro KK hKK; refine stI S 0 (g9) 0 h32 st_Int (fun W7 S2 G2 => hKK _ _ ?_) rfl
 replace S := S2; clear S2 G2 hKK KK h32
 simp only [List.set_cons_zero] at S
 refine wpList_step fun K hK => ?_; go_simp; refine hK _ _ ?_; clear hK K
 refine wpList_nil ?_
 go_upto_region 8 with (fail)
 have hl := hid S.lt; have hw := S.ext.size
 refine rgs 4 [some 34, some 35, some 36, some 11] [IsI 136 z1, IsI 136 z2, IsQ (IsI 136 z1) (IsI 136 z2), IsBo W7 2] [3] ?_ ?_
 ·refine Rc (ldI S 1 (g7) 0 (Od.lit 7) ld_Int) ?_
  refine Rc (ldI S 0 (g9) 0 (Od.lit 9) ld_Int) ?_
  refine Rc (bq (Od.loc 0 34) (Od.loc 1 35) bd_Rat) ?_
  refine Rc (al al_Rat) ?_
  exact RgAll.nil
 intro v W8 e1 hΦ _
 replace S := S.mono e1
 have h36 := hΦ 2 (by decide)
 obtain ⟨g11, v3, q6, b5, _⟩ := (hΦ 3 (by decide) : IsBo W7 2 (v 3) W8)
 replace S := S.addN 2 (ApartO.old hl.out q6) (Nat.le_trans hw q6) b5
 simp only [newF, List.cons_append, List.nil_append] at S
 simp only [layL, Act.put, List.setIfInBounds_toArray, List.set_cons_zero, List.set_cons_succ, Nat.reduceAdd]
 rw [v3]
 clear b5 hl hw v3 hΦ e1
 try simp only [List.drop_succ_cons, List.drop_zero]
 (with_reducible refine stL ?_ (by rfl)); intro KK hKK; refine stQ S 1 0 (g11) 0 h36 (IsI.gstb _ _) (IsI.gstb _ _) st_Rat (fun W9 S2 G2 => hKK _ _ ?_) rfl rfl
 replace S := S2; clear S2 G2 hKK KK h36
 simp only [List.set_cons_zero, List.set_cons_succ] at S
 refine wpList_nil ?_
 go_upto_region 9 with (fail)
 refine rgs 18 [some 37, some 38, some 39, some 40, some 41, some 42, some 43, some 44, some 45, some 46, some 47, some 48, some 49, some 50, some 51, some 52, some 53, some 54] [IsV (.int .i64 0), IsV (.bool false), IsV (.bool false), IsV (.int .i64 0), IsV (.bool false), IsV (.bool false), IsV (.bool false), IsQ (IsI 136 z1) (IsI 136 z2), IsV (.bool true), IsV (.bool false), IsV (.bool false), IsV (.bool false), IsV (.bool true), IsV (.bool true), IsV (.string tb), IsV (.bool false), IsV (.bool false), IsV (.bool false)] [] ?_ ?_
 ·refine Rc (mv (Od.lit 8)) ?_
  refine Rc (bn (r := .bool false) (Od.loc 0 37) Od.con (hr := fun w => by go_simp)) ?_
  refine Rc (mv (Od.lc 1 38)) ?_
  refine RcG 2 39 false (mv (Od.lit 10)) ?_
  refine RcG 2 39 false (bn (r := .bool false) (Od.loc 3 40) Od.con (hr := fun w => by go_simp)) ?_
  refine Rc (pk (Od.loc 2 39) (Od.lc 4 41)) ?_
  refine Rc (mv (Od.lc 5 42)) ?_
  refine RcG 6 43 false (ldQ S 1 0 (g11) 0 (Od.lit 11) ld_Rat rfl rfl) ?_
  refine RcG 6 43 false (cl1 (en Tryz.func41) (Od.lc (Φ := IsQ (IsI 136 z1) (IsI 136 z2)) 7 44) (fun x0 w' hE d0 => (by have hh := qValid_f d0 (by decide); rw [HV.out] at hh; exact hh))) ?_
  refine RcG 6 43 false (nt (Od.loc 8 45)) ?_
  refine Rc (pk (Od.loc 6 43) (Od.lc 9 46)) ?_
  refine Rc (mv (Od.lc 10 47)) ?_
  refine RcG 11 48 false (mv (Od.lit 6)) ?_
  refine RcG 11 48 false (mv (Od.lc 12 49)) ?_
  refine RcG 13 50 true (mv (Od.lit 5)) ?_
  refine RcG 13 50 true (bn (r := .bool false) (Od.loc 14 51) Od.con (hr := fun w => by have hx9 := HO.out; go_simp)) ?_
  refine RcG 11 48 false (pk (Od.loc 13 50) (Od.lc 15 52)) ?_
  refine Rc (pk (Od.loc 11 48) (Od.lc 16 53)) ?_
  exact RgAll.nil
 intro v W10 e1 hΦ _
 replace S := S.mono e1
 have v17 : v 17 = .bool false := hΦ 17 (by decide)
 simp only [layL, Act.put, List.setIfInBounds_toArray, List.set_cons_zero, List.set_cons_succ, Nat.reduceAdd]
 rw [v17]
 clear v17 hΦ e1
 refine wpList_nil ?_
 go_upto_region 11 with (fail)
 refine rgs 1 [some 56] [IsQ (IsI 136 z1) (IsI 136 z2)] [] ?_ ?_
 ·refine Rc (ldQ S 1 0 (g11) 0 (Od.lit 11) ld_Rat rfl rfl) ?_
  exact RgAll.nil
 intro v W11 e1 hΦ _
 replace S := S.mono e1
 have h56 := hΦ 0 (by decide)
 simp only [layL, Act.put, List.setIfInBounds_toArray, List.set_cons_zero, List.set_cons_succ]
 clear hΦ e1
 try simp only [List.drop_succ_cons, List.drop_zero]
 (with_reducible refine stL ?_ (by rfl)); intro KK hKK; refine stQ S 5 4 (w.heap.size) 0 h56 (IsI.gstb _ _) (IsI.gstb _ _) st_Rat (fun W12 S2 G2 => hKK _ _ ?_) rfl rfl
 replace S := S2; clear S2 G2 hKK KK h56
 simp only [List.set_cons_zero, List.set_cons_succ] at S
 refine wpList_step fun K hK => ?_; go_simp; refine hK _ _ ?_; clear hK K
 refine wpList_nil ?_
 go_wp2_with fail
 obtain ⟨s90x, a90x, n90x, c90x, b90x, h90x⟩ := S.at 5 (w.heap.size) 0 (IsI 136 z1) rfl; have L90xa : World.cell? W12 ⟨w.heap.size, 0, none⟩ = some (.bool s90x) := b90x.c0; have L90xb : World.cell? W12 ⟨w.heap.size, 1, none⟩ = some (.slice a90x n90x c90x) := b90x.c1
 obtain ⟨s90y, a90y, n90y, c90y, b90y, h90y⟩ := S.at 4 (w.heap.size) 1 (IsI 136 z2) rfl; have L90ya : World.cell? W12 ⟨w.heap.size, 2, none⟩ = some (.bool s90y) := b90y.c0; have L90yb : World.cell? W12 ⟨w.heap.size, 3, none⟩ = some (.slice a90y n90y c90y) := b90y.c1
 exact bodyPost_ret (v := .tuple #[.agg #[.bool s90x, .slice a90x n90x c90x, .bool s90y, .slice a90y n90y c90y], .int .i64 0]) (by simp [results, Tryz.results16, go_sem, L90xa, L90xb, L90ya, L90yb]) rfl (⟨_, rfl, S.ext, ⟨_, _, rfl, ⟨_, _, _, _, _, _, _, _, rfl, h90x, h90y⟩, rfl⟩⟩)

theorem slash_at {l : List UInt8} (h : Lib.indexByte l 47 ≠ -1) : ∃ i : Nat, Lib.indexByte l 47 = i ∧ i + 1 ≤ l.length := by
 have hge := Lib.indexByte_ge l 47
 refine ⟨(Lib.indexByte l 47).toNat, by omega, ?_⟩
 have := (Lib.indexByte_some (l := l) (c := 47) (o := (Lib.indexByte l 47).toNat) (by omega)).1
 exact (List.getElem?_eq_some_iff.1 this).1
theorem parse_one : parseZ [49] = 1 ∧ parseE [49] = 0 := by decide
theorem validQ_one (z : Int) : validQ z 1 = true := by unfold validQ; simp
theorem qParse_f (w : World) (s : ByteArray) : Calls Tryz.prog 16 #[.string s] w (Ret w (IsT2 (IsQ (IsI 136 (rparN s.data.toList)) (IsI 136 (rparD s.data.toList))) (IsV (.int .i64 (rparE s.data.toList))))) := by
 have up0 : ∀ {e : Int} {e' : Ending} {w' : World}, Ret w (IsT2 (IsQ (IsI 0 0) (IsI 0 0)) (IsV (.int .i64 e))) e' w' → Ret w (IsT2 (IsQ (IsI 136 0) (IsI 136 0)) (IsV (.int .i64 e))) e' w' := fun h => h.mono fun _ _ ⟨a, b, h1, h2, h3⟩ => ⟨a, b, h1, h2.up (by decide) (by decide), h3⟩
 by_cases hL : 2601 < s.size
 ·have h2 : rparE s.data.toList = 2 := by unfold rparE; rw [if_pos (show 2601 < s.data.toList.length from hL)]
  unfold rparN rparD
  rw [h2]
  exact Calls.mono (qParse_L w s hL) fun _ _ h => up0 h
 have hl : ¬2601 < s.data.toList.length := hL
 have hE : ∀ q : Prop, [Decidable q] → rparOk s.data.toList = q → rparE s.data.toList = if q then 0 else 3 := fun q _ h => by
  unfold rparE
  rw [if_neg hl]
  simp only [h]
 have bad : ¬rparOk s.data.toList → rparE s.data.toList = 3 ∧ rparN s.data.toList = 0 ∧ rparD s.data.toList = 0 := fun h => by
  have h3 : rparE s.data.toList = 3 := by unfold rparE; rw [if_neg hl, if_neg h]
  refine ⟨h3, ?_, ?_⟩
  ·unfold rparN; rw [h3]; rfl
  ·unfold rparD; rw [h3]; rfl
 have good : rparOk s.data.toList → rparE s.data.toList = 0 ∧ rparN s.data.toList = parseZ (partU s.data.toList) ∧ rparD s.data.toList = parseZ (partV s.data.toList) := fun h => by
  have h3 : rparE s.data.toList = 0 := by unfold rparE; rw [if_neg hl, if_pos h]
  refine ⟨h3, ?_, ?_⟩
  ·unfold rparN; rw [h3]; rfl
  ·unfold rparD; rw [h3]; rfl
 have hs : s.size ≤ 2601 := by omega
 by_cases hx : Lib.indexByte s.data.toList 47 = -1
 ·have hU : partU s.data.toList = s.data.toList := by unfold partU; rw [if_pos hx]
  have hV : partV s.data.toList = [49] := by unfold partV; rw [if_pos hx]
  have hB : partB s.data.toList = false := by unfold partB; rw [hx]; rfl
  by_cases h1 : parseE s.data.toList = 0
  ·obtain ⟨e, n, d⟩ := good ⟨by rw [hU]; exact h1, by rw [hV]; exact parse_one.2, by rw [hV, parse_one.1]; exact validQ_one _, by rw [hB]; exact fun h => nomatch h.1⟩
   rw [e, n, d, hU, hV, parse_one.1]
   exact qParse_Fk w s s _ 1 hs (fun w => Cut_miss w s hx) ⟨rfl, h1⟩ parse_one (validQ_one _)
  ·obtain ⟨e, n, d⟩ := bad fun h => h1 (by have := h.1; rwa [hU] at this)
   rw [e, n, d]
   exact Calls.mono (qParse_Fe w s s _ 1 _ hs (fun w => Cut_miss w s hx) ⟨rfl, rfl⟩ parse_one (by simpa using h1)) fun _ _ h => up0 h
 ·obtain ⟨i, hi, hil⟩ := slash_at hx
  have hU : partU s.data.toList = (s.extract 0 i).data.toList := by unfold partU; rw [if_neg hx, ext_take, hi]; rfl
  have hV : partV s.data.toList = (s.extract (i + 1) s.size).data.toList := by unfold partV; rw [if_neg hx, ext_drop, hi]; rfl
  have hB : partB s.data.toList = true := by unfold partB; rw [hi]; simp
  have hc := fun w => Cut_hit w s i hi hil (by omega)
  by_cases h1 : parseE (s.extract 0 i).data.toList = 0
  ·by_cases h2 : parseE (s.extract (i + 1) s.size).data.toList = 0
   ·by_cases hv : validQ (parseZ (s.extract 0 i).data.toList) (parseZ (s.extract (i + 1) s.size).data.toList) = true
    ·by_cases ho : (s.extract (i + 1) s.size).data.toList = [49]
     ·obtain ⟨e, n, d⟩ := bad fun h => h.2.2.2 ⟨hB, by rw [hV]; exact ho⟩
      rw [e, n, d]
      have hbb : s.extract (i + 1) s.size = ⟨#[49]⟩ := ba_ext ho
      rw [hbb] at hc h2 hv
      exact Calls.mono (qParse_To w s _ _ _ hs hc ⟨rfl, h1⟩ ⟨rfl, h2⟩ hv) fun _ _ h => up0 h
     ·obtain ⟨e, n, d⟩ := good ⟨by rw [hU]; exact h1, by rw [hV]; exact h2, by rw [hU, hV]; exact hv, by rw [hV]; exact fun h => ho h.2⟩
      rw [e, n, d, hU, hV]
      exact qParse_Tk w s _ _ _ _ hs hc ⟨rfl, h1⟩ ⟨rfl, h2⟩ hv (by rw [ba_list]; exact ho)
    ·obtain ⟨e, n, d⟩ := bad fun h => hv (by have := h.2.2.1; rwa [hU, hV] at this)
     rw [e, n, d]
     exact Calls.mono (qParse_Tv w s _ _ _ _ hs hc ⟨rfl, h1⟩ ⟨rfl, h2⟩ (by simpa using hv)) fun _ _ h => up0 h
   ·obtain ⟨e, n, d⟩ := bad fun h => h2 (by have := h.2.1; rwa [hV] at this)
    rw [e, n, d]
    exact Calls.mono (qParse_Tf w s _ _ _ _ _ hs hc ⟨rfl, h1⟩ ⟨rfl, rfl⟩ (by simpa using h2)) fun _ _ h => up0 h
  ·obtain ⟨e, n, d⟩ := bad fun h => h1 (by have := h.1; rwa [hU] at this)
   rw [e, n, d]
   exact Calls.mono (qParse_Te w s _ _ _ _ _ _ hs hc ⟨rfl, rfl⟩ ⟨rfl, rfl⟩ (by simpa using h1)) fun _ _ h => up0 h
end Go.Proofs.YtcgdkfadcglekaaGreatDoor
