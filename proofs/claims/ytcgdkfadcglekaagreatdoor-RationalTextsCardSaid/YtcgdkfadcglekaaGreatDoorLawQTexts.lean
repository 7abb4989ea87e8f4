/-
 The statement RationalTexts: for every 2 descriptions of fractions the law answers true, and the descriptions read behind the call as they read before. The listed package variables hold what the program's text lays (the card ties them).
-/
import Derived.Test.YtcgdkfadcglekaaGreatDoorQe
import Derived.Test.YtcgdkfadcglekaaGreatDoorQ17
import Derived.Test.YtcgdkfadcglekaaGreatDoorReadQ
import Derived.Test.YtcgdkfadcglekaaGreatDoorTie
import Derived.Test.YtcgdkfadcglekaaGreatDoorCards
import Derived.SevenTiedAt
namespace Go.Proofs.YtcgdkfadcglekaaGreatDoor
open Go Go.RowKit

theorem rawZ_small (s : Bool) (xs : List Nat) (K : Nat) (h : ∀ i, xs.getD i 0 < 4294967296) : (rawZ s xs K).natAbs < 4294967296 ^ K := by
 have h1 := natVal_lt (xs.take K) (fun i => by
  rcases Nat.lt_or_ge i K with hi | hi
  ·rw [List.getD_eq_getElem?_getD, List.getElem?_take_of_lt hi, ← List.getD_eq_getElem?_getD]; exact h i
  ·rw [List.getD_eq_getElem?_getD, List.getElem?_eq_none (by rw [List.length_take]; omega)]; decide)
 have h2 : 4294967296 ^ (xs.take K).length ≤ 4294967296 ^ K := Nat.pow_le_pow_right (by decide) (by rw [List.length_take]; omega)
 unfold rawZ
 generalize 4294967296 ^ K = p at *
 split <;> omega
theorem divInt_small (n d : Int) (hd : 0 < d) : (Rat.divInt n d).num.natAbs ≤ n.natAbs ∧ (Rat.divInt n d).den ≤ d.natAbs := by
 rw [Rat.num_divInt, Rat.den_divInt, if_neg (by omega), Int.sign_eq_one_of_pos hd, Int.one_mul]
 exact ⟨Int.natAbs_ediv_le_natAbs _ _, Nat.div_le_self _ _⟩
theorem made_small (s s' : Bool) (xn xd : List Nat) (h : ∀ i, xn.getD i 0 < 4294967296) (h' : ∀ i, xd.getD i 0 < 4294967296) : (madeQ s s' xn xd 6).num.natAbs < 4294967296 ^ 8 ∧ (madeQ s s' xn xd 6).den < 4294967296 ^ 8 := by
 have a := rawZ_small s xn 6 h
 have b := rawZ_small s' xd 6 h'
 have c : 4294967296 ^ 6 ≤ 4294967296 ^ 8 := Nat.pow_le_pow_right (by decide) (by decide)
 unfold madeQ
 split
 ·obtain ⟨h1, h2⟩ := divInt_small (rawZ s xn 6) 1 (by decide)
  exact ⟨Nat.lt_of_le_of_lt h1 (Nat.lt_of_lt_of_le a c), Nat.lt_of_le_of_lt h2 (by decide)⟩
 ·obtain ⟨h1, h2⟩ := divInt_small (rawZ s xn 6) ((rawZ s' xd 6).natAbs : Int) (by omega)
  exact ⟨Nat.lt_of_le_of_lt h1 (Nat.lt_of_lt_of_le a c), Nat.lt_of_le_of_lt h2 (by rw [Int.natAbs_natCast]; exact Nat.lt_of_lt_of_le b c)⟩
theorem itoa_no47 (z : Int) : ∀ c ∈ Lib.itoa z, c ≠ 47 := by
 have key : ∀ m : Nat, ∀ c ∈ Lib.decDigits m, c ≠ 47 := fun m c hc h => by
  have := (dval_dec m).2.1 c hc
  rw [h] at this
  exact absurd this (by decide)
 rcases Int.lt_or_le z 0 with hz | hz
 ·obtain ⟨m, hm, hm0⟩ : ∃ m : Nat, z = -(m : Int) ∧ 1 ≤ m := ⟨z.natAbs, by omega, by omega⟩
  rw [hm, Lib.itoa_neg m hm0]
  intro c hc
  rcases List.mem_cons.1 hc with rfl | h
  ·decide
  ·exact key m c h
 ·obtain ⟨m, hm⟩ : ∃ m : Nat, z = (m : Int) := ⟨z.natAbs, by omega⟩
  rw [hm, Lib.itoa_nonneg m]
  exact key m
theorem index_no {l : List UInt8} (h : ∀ c ∈ l, c ≠ 47) : Lib.indexByte l 47 = -1 := by
 refine Classical.byContradiction fun hx => ?_
 obtain ⟨i, hi, _⟩ := slash_at hx
 exact h 47 (List.mem_of_getElem? (Lib.indexByte_some hi).1) rfl
theorem index_join {a b : List UInt8} (h : ∀ c ∈ a, c ≠ 47) : Lib.indexByte (a ++ 47 :: b) 47 = (a.length : Nat) := by
 have h47 : (a ++ 47 :: b)[a.length]? = some 47 := by simp
 by_cases hx : Lib.indexByte (a ++ 47 :: b) 47 = -1
 ·exact absurd h47 (Lib.indexByte_none hx a.length)
 ·obtain ⟨i, hi, _⟩ := slash_at hx
  obtain ⟨h1, h2⟩ := Lib.indexByte_some hi
  rcases Nat.lt_trichotomy i a.length with k | k | k
  ·rw [List.getElem?_append_left k] at h1
   exact absurd rfl (h 47 (List.mem_of_getElem? h1))
  ·rw [hi, k]
  ·exact absurd h47 (h2 _ k)
theorem text_small8 {z : Int} (h : z.natAbs < 4294967296 ^ 8) : (Lib.itoa z).length ≤ 260 ∧ textS z = Lib.itoa z ∧ textE z = 0 := by
 have h1 := dec_len' _ _ h
 have h2 : (Lib.itoa z).length ≤ 260 := by
  unfold Lib.itoa
  split
  ·rw [List.length_cons]; omega
  ·rw [show z.toNat = z.natAbs by omega]; omega
 refine ⟨h2, ?_, ?_⟩
 ·unfold textS; rw [if_neg (by omega)]
 ·unfold textE; rw [if_neg (by omega)]
/-- The text of a fraction of at most 8 words, and what is read from it. -/
theorem text_round (q : Rat) (h1 : q.num.natAbs < 4294967296 ^ 8) (h2 : q.den < 4294967296 ^ 8) : ∃ tn td tq : ByteArray, (encS (textS q.num) = .string tn ∧ textE q.num = 0) ∧ (encS (textS (q.den : Int)) = .string td ∧ textE (q.den : Int) = 0) ∧ (tn.size ≤ 100000 ∧ td.size ≤ 100000) ∧
  (if td = ⟨#[49]⟩ then tn else tn ++ (⟨#[47]⟩ : ByteArray) ++ td) = tq ∧ rparN tq.data.toList = q.num ∧ rparD tq.data.toList = (q.den : Int) ∧ rparE tq.data.toList = 0 := by
 obtain ⟨a1, a2, a3⟩ := text_small8 h1
 obtain ⟨b1, b2, b3⟩ := text_small8 (z := (q.den : Int)) (by rw [Int.natAbs_natCast]; exact h2)
 obtain ⟨p1, p2⟩ := parse_text q.num (by omega)
 obtain ⟨p3, p4⟩ := parse_text (q.den : Int) (by omega)
 have hv := validQ_rat q
 have hn := itoa_no47 q.num
 have hd := itoa_no47 (q.den : Int)
 generalize hA : Lib.itoa q.num = A at *
 generalize hB : Lib.itoa (q.den : Int) = B at *
 have key : ∀ tq : ByteArray, rparOk tq.data.toList → tq.data.toList.length ≤ 2601 → partU tq.data.toList = A → parseZ (partV tq.data.toList) = (q.den : Int) → rparN tq.data.toList = q.num ∧ rparD tq.data.toList = (q.den : Int) ∧ rparE tq.data.toList = 0 := fun tq ho hl hu hv' => by
  have h3 : rparE tq.data.toList = 0 := by unfold rparE; rw [if_neg (by omega), if_pos ho]
  refine ⟨?_, ?_, h3⟩
  ·unfold rparN; rw [h3, hu, p2]; rfl
  ·unfold rparD; rw [h3, hv']; rfl
 refine ⟨⟨A.toArray⟩, ⟨B.toArray⟩, _, ⟨by rw [a2]; rfl, a3⟩, ⟨by rw [b2]; rfl, b3⟩, ⟨?_, ?_⟩, rfl, ?_⟩
 ·show A.toArray.size ≤ 100000
  rw [List.size_toArray]; omega
 ·show B.toArray.size ≤ 100000
  rw [List.size_toArray]; omega
 ·by_cases h : (⟨B.toArray⟩ : ByteArray) = ⟨#[49]⟩
  ·rw [if_pos h]
   have hB1 : B = [49] := by
    have := congrArg (fun b : ByteArray => b.data.toList) h
    simpa using this
   have hx : Lib.indexByte A 47 = -1 := index_no hn
   have hV : partV A = [49] := by unfold partV; rw [if_pos hx]
   have hU : partU A = A := by unfold partU; rw [if_pos hx]
   have hP : partB A = false := by unfold partB; rw [hx]; rfl
   refine key ⟨A.toArray⟩ ?_ ?_ ?_ ?_
   ·show rparOk A
    refine ⟨by rw [hU]; exact p1, by rw [hV]; exact parse_one.2, ?_, by rw [hP]; exact fun k => nomatch k.1⟩
    rw [hU, hV, p2, ← hB1, p4]; exact hv
   ·show A.length ≤ 2601
    omega
   ·exact hU
   ·show parseZ (partV A) = _
    rw [hV, ← hB1, p4]
  ·rw [if_neg h]
   have hB1 : B ≠ [49] := fun k => h (by rw [k])
   have ht : ((⟨A.toArray⟩ : ByteArray) ++ (⟨#[47]⟩ : ByteArray) ++ (⟨B.toArray⟩ : ByteArray)).data.toList = A ++ 47 :: B := by
    rw [ByteArray.data_append, ByteArray.data_append, Array.toList_append, Array.toList_append]; simp
   have hx : Lib.indexByte (A ++ 47 :: B) 47 = (A.length : Nat) := index_join hn
   have hx2 : ¬ Lib.indexByte (A ++ 47 :: B) 47 = -1 := by rw [hx]; omega
   have hU : partU (A ++ 47 :: B) = A := by unfold partU; rw [if_neg hx2, hx, Int.toNat_natCast, List.take_left]
   have hV : partV (A ++ 47 :: B) = B := by unfold partV; rw [if_neg hx2, hx, Int.toNat_natCast, ← List.drop_drop, List.drop_left]; rfl
   refine key _ ?_ ?_ ?_ ?_
   ·rw [ht]
    refine ⟨by rw [hU]; exact p1, by rw [hV]; exact p3, by rw [hU, hV, p2, p4]; exact hv, by rw [hV]; exact fun k => hB1 k.2⟩
   ·rw [ht, List.length_append, List.length_cons]; omega
   ·rw [ht]; exact hU
   ·rw [ht, hV, p4]
/-- What is read has the text that it was read from. -/
theorem text_back (s : ByteArray) (h : rparE s.data.toList = 0) : ∃ tn td : ByteArray, (encS (textS (rparN s.data.toList)) = .string tn ∧ textE (rparN s.data.toList) = 0) ∧ (encS (textS (rparD s.data.toList)) = .string td ∧ textE (rparD s.data.toList) = 0) ∧ (tn.size ≤ 100000 ∧ td.size ≤ 100000) ∧
  (if td = ⟨#[49]⟩ then tn else tn ++ (⟨#[47]⟩ : ByteArray) ++ td) = s := by
 have hN : rparN s.data.toList = parseZ (partU s.data.toList) := by unfold rparN; rw [h]; rfl
 have hD : rparD s.data.toList = parseZ (partV s.data.toList) := by unfold rparD; rw [h]; rfl
 have hl : s.size ≤ 2601 := by
  refine Classical.byContradiction fun k => ?_
  have : rparE s.data.toList = 2 := by unfold rparE; rw [if_pos (show 2601 < s.data.toList.length from Nat.not_le.1 k)]
  rw [this] at h; exact absurd h (by decide)
 have ho : rparOk s.data.toList := Classical.byContradiction fun k => by
  have : rparE s.data.toList = 3 := by unfold rparE; rw [if_neg (show ¬ 2601 < s.data.toList.length from Nat.not_lt.2 hl), if_neg k]
  rw [this] at h; exact absurd h (by decide)
 obtain ⟨o1, o2, _, o4⟩ := ho
 rw [hN, hD]
 by_cases hx : Lib.indexByte s.data.toList 47 = -1
 ·have hU : partU s.data.toList = s.data.toList := by unfold partU; rw [if_pos hx]
  have hV : partV s.data.toList = [49] := by unfold partV; rw [if_pos hx]
  rw [hU] at o1 ⊢
  rw [hV, parse_one.1]
  exact ⟨s, ⟨#[49]⟩, text_of o1, text_one, ⟨by omega, by decide⟩, if_pos rfl⟩
 ·obtain ⟨i, hi, hil⟩ := slash_at hx
  have hil' : i < s.size := hil
  have hU : partU s.data.toList = (s.extract 0 i).data.toList := by unfold partU; rw [if_neg hx, ext_take, hi]; rfl
  have hV : partV s.data.toList = (s.extract (i + 1) s.size).data.toList := by unfold partV; rw [if_neg hx, ext_drop, hi]; rfl
  have hB : partB s.data.toList = true := by unfold partB; rw [hi]; simp
  obtain ⟨ha, _⟩ := Lib.indexByte_some hi
  have h47 : s[i] = 47 := by rw [byte_at s i hil', Option.some.injEq] at ha; exact ha
  rw [hU] at o1 ⊢
  rw [hV] at o2 o4 ⊢
  refine ⟨_, _, text_of o1, text_of o2, ⟨by rw [ext_len s i (by omega)]; omega, Nat.le_trans (ext_len2 s (i + 1)) (by omega)⟩, ?_⟩
  rw [if_neg (fun k => o4 ⟨hB, by rw [k]⟩)]
  exact join_slash s i hil' h47
theorem qText_u {k : Nat} {n d : Int} {x : Value} {w : World} (hx : IsQ (IsI k n) (IsI k d) x w) (hk : k ≤ 162) (ht : Tab w) (tn td tq : ByteArray) (h1 : encS (textS n) = .string tn ∧ textE n = 0) (h2 : encS (textS d) = .string td ∧ textE d = 0) (hb : tn.size ≤ 100000 ∧ td.size ≤ 100000) (hq : (if td = ⟨#[49]⟩ then tn else tn ++ (⟨#[47]⟩ : ByteArray) ++ td) = tq) :
  Calls Tryz.prog 14 #[x] w (Ret w (IsT2 (IsV (.string tq)) (IsV (.int .i64 0)))) := by
 by_cases h : td = ⟨#[49]⟩
 ·rw [if_pos h] at hq
  subst h; subst hq
  exact qText_1 hx hk ht _ h1 h2
 ·rw [if_neg h] at hq
  subst hq
  exact qText_n hx hk ht _ _ h1 h2 (fun k => h (ba_ext (by rw [ba_list] at k; exact k))) hb
set_option maxRecDepth 100000 in
set_option maxHeartbeats 8000000 in
theorem QTexts_l (w : World) (s1x s1y : Bool) (a1x a1y : Option Addr) (n1x n1y c1x c1y : Nat) (x1n x1d : List Nat) (s2 : ByteArray) (h1x : Wd w a1x n1x c1x x1n) (h1y : Wd w a1y n1y c1y x1d) (ht : Tab w) (HLN : Hid (decide ((3000 : Int) < (s2.size : Int)) = true)) :
  Calls Tryz.prog 3 #[.agg #[.bool s1x, .slice a1x n1x c1x, .bool s1y, .slice a1y n1y c1y], .string s2] w (Ret w (IsV (.bool true))) := by
 obtain ⟨W, hW, S⟩ : ∃ W, W = w.alloc (.cells #[.bool s1x, .slice a1x n1x c1x, .bool s1y, .slice a1y n1y c1y] 26) ∧ Sto w W [((w.heap.size, 1), IsR s1y x1d), ((w.heap.size, 0), IsR s1x x1n)] := ⟨_, rfl, ((Sto.start w).new2 (w.heap.size) (by simp) s1x s1y a1x a1y n1x c1x n1y c1y 26 (IsR s1x x1n) (IsR s1y x1d) (IsR.gstb _ _) (⟨_, _, _, rfl, h1x⟩) (IsR.gstb _ _) (⟨_, _, _, rfl, h1y⟩))⟩
 clear h1x h1y
 go_enter Tryz.func3, Tryz.ntmps3
 go_upto_region 1 with (fail)
 rw [← hW]
 clear hW
 refine rgs 2 [some 19, some 5] [IsV (.bool true), IsV (.bool true)] [] ?_ ?_
 ·refine Rc (cl0 (en Tryz.func12)  (fun w' hE => examplesQ_f _ (ht.ext (S.ext.trans hE)))) ?_
  refine Rc (mv (Od.lc 0 19)) ?_
  exact RgAll.nil
 intro v W1 e1 hΦ _
 replace S := S.mono e1
 have v1 : v 1 = .bool true := hΦ 1 (by decide)
 simp only [layL, Act.put, List.setIfInBounds_toArray, List.set_cons_zero, List.set_cons_succ, Nat.reduceAdd]
 rw [v1]
 clear v1 hΦ e1
 refine wpList_nil ?_
 go_upto_region 2 with (fail)
 refine rgs 2 [some 20, some 21] [IsV (.bool true), IsV (.bool false)] [] ?_ ?_
 ·refine Rc (mv (Od.lit 5)) ?_
  refine Rc (nt (Od.loc 0 20)) ?_
  exact RgAll.nil
 intro v W2 e1 hΦ _
 replace S := S.mono e1
 have v1 : v 1 = .bool false := hΦ 1 (by decide)
 simp only [layL, Act.put, List.setIfInBounds_toArray, List.set_cons_zero, List.set_cons_succ, Nat.reduceAdd]
 rw [v1]
 clear v1 hΦ e1
 refine wpList_nil ?_
 go_upto_region 4 with (fail)
 refine rgs 3 [some 22, some 23, some 24] [IsV (.string s2), IsV (.int .i64 ((s2).size)), IsV (.bool true)] [] ?_ ?_
 ·refine Rc (mv (Od.lit 1)) ?_
  refine RgAll.cons (by { (with_reducible refine RgL.mk (by rfl) ?_); intro v a w' hE hd hf; have d0 : v 0 = .string s2 := hd 0 (by kernel_rfl); have ev0 := hf.val 0 22 _ d0 (by kernel_rfl) (by kernel_rfl) (by kernel_rfl); clear d0; clear hd hf; intro K hK; go_simp; exact hK.out _ _ (Ext.refl _) rfl (FreshIf.no rfl) }) ?_
  refine Rc (bn (r := .bool true) (Od.loc 1 23) Od.con (hr := fun w => by have hx9 := HLN.out; go_simp)) ?_
  exact RgAll.nil
 intro v W3 e1 hΦ _
 replace S := S.mono e1
 have v2 : v 2 = .bool true := hΦ 2 (by decide)
 simp only [layL, Act.put, List.setIfInBounds_toArray, List.set_cons_zero, List.set_cons_succ, Nat.reduceAdd]
 rw [v2]
 clear v2 hΦ e1
 refine wpList_nil ?_
 go_upto_region 5 with (fail)
 refine rgs 2 [some 25, some 4] [IsV (.bool true), IsV (.bool true)] [] ?_ ?_
 ·refine Rc (mv (Od.lit 5)) ?_
  refine Rc (mv (Od.lc 0 25)) ?_
  exact RgAll.nil
 intro v W4 e1 hΦ _
 replace S := S.mono e1
 have v1 : v 1 = .bool true := hΦ 1 (by decide)
 simp only [layL, Act.put, List.setIfInBounds_toArray, List.set_cons_zero, List.set_cons_succ, Nat.reduceAdd]
 rw [v1]
 clear v1 hΦ e1
 refine wpList_nil ?_
 go_wp2_with fail
 exact bodyPost_ret (v := .bool true) (by simp [results, Tryz.results3, go_sem]) rfl (⟨_, rfl, S.ext, rfl⟩)
set_option maxRecDepth 100000 in
set_option maxHeartbeats 8000000 in
theorem QTexts_e (w : World) (s1x s1y : Bool) (a1x a1y : Option Addr) (n1x n1y c1x c1y : Nat) (x1n x1d : List Nat) (s2 : ByteArray) (h1x : Wd w a1x n1x c1x x1n) (h1y : Wd w a1y n1y c1y x1d) (ht : Tab w) (qa : Rat) (tn td tq : ByteArray) (cn cd : Int) (HLN : Hid (decide ((3000 : Int) < (s2.size : Int)) = false)) (Ha : Hid (madeQ s1x s1y x1n x1d 6 = qa)) (HX1 : Hid (encS (textS qa.num) = .string tn ∧ textE qa.num = 0)) (HX2 : Hid (encS (textS (qa.den : Int)) = .string td ∧ textE (qa.den : Int) = 0)) (HX3 : Hid (tn.size ≤ 100000 ∧ td.size ≤ 100000)) (HX4 : Hid ((if td = ⟨#[49]⟩ then tn else tn ++ (⟨#[47]⟩ : ByteArray) ++ td) = tq)) (HPA : Hid (rparN tq.data.toList = qa.num ∧ rparD tq.data.toList = (qa.den : Int) ∧ rparE tq.data.toList = 0)) (ec : Int) (HPS : Hid (rparN s2.data.toList = cn ∧ rparD s2.data.toList = cd ∧ rparE s2.data.toList = ec)) (HE : Hid ((ec != 0) = true)) :
  Calls Tryz.prog 3 #[.agg #[.bool s1x, .slice a1x n1x c1x, .bool s1y, .slice a1y n1y c1y], .string s2] w (Ret w (IsV (.bool true))) := by
 obtain ⟨W, hW, S⟩ : ∃ W, W = w.alloc (.cells #[.bool s1x, .slice a1x n1x c1x, .bool s1y, .slice a1y n1y c1y] 26) ∧ Sto w W [((w.heap.size, 1), IsR s1y x1d), ((w.heap.size, 0), IsR s1x x1n)] := ⟨_, rfl, ((Sto.start w).new2 (w.heap.size) (by simp) s1x s1y a1x a1y n1x c1x n1y c1y 26 (IsR s1x x1n) (IsR s1y x1d) (IsR.gstb _ _) (⟨_, _, _, rfl, h1x⟩) (IsR.gstb _ _) (⟨_, _, _, rfl, h1y⟩))⟩
 clear h1x h1y
 go_enter Tryz.func3, Tryz.ntmps3
 go_upto_region 1 with (fail)
 rw [← hW]
 clear hW
 refine rgs 2 [some 19, some 5] [IsV (.bool true), IsV (.bool true)] [] ?_ ?_
 ·refine Rc (cl0 (en Tryz.func12)  (fun w' hE => examplesQ_f _ (ht.ext (S.ext.trans hE)))) ?_
  refine Rc (mv (Od.lc 0 19)) ?_
  exact RgAll.nil
 intro v W1 e1 hΦ _
 replace S := S.mono e1
 have v1 : v 1 = .bool true := hΦ 1 (by decide)
 simp only [layL, Act.put, List.setIfInBounds_toArray, List.set_cons_zero, List.set_cons_succ, Nat.reduceAdd]
 rw [v1]
 clear v1 hΦ e1
 refine wpList_nil ?_
 go_upto_region 2 with (fail)
 refine rgs 2 [some 20, some 21] [IsV (.bool true), IsV (.bool false)] [] ?_ ?_
 ·refine Rc (mv (Od.lit 5)) ?_
  refine Rc (nt (Od.loc 0 20)) ?_
  exact RgAll.nil
 intro v W2 e1 hΦ _
 replace S := S.mono e1
 have v1 : v 1 = .bool false := hΦ 1 (by decide)
 simp only [layL, Act.put, List.setIfInBounds_toArray, List.set_cons_zero, List.set_cons_succ, Nat.reduceAdd]
 rw [v1]
 clear v1 hΦ e1
 refine wpList_nil ?_
 go_upto_region 4 with (fail)
 refine rgs 3 [some 22, some 23, some 24] [IsV (.string s2), IsV (.int .i64 ((s2).size)), IsV (.bool false)] [] ?_ ?_
 ·refine Rc (mv (Od.lit 1)) ?_
  refine RgAll.cons (by { (with_reducible refine RgL.mk (by rfl) ?_); intro v a w' hE hd hf; have d0 : v 0 = .string s2 := hd 0 (by kernel_rfl); have ev0 := hf.val 0 22 _ d0 (by kernel_rfl) (by kernel_rfl) (by kernel_rfl); clear d0; clear hd hf; intro K hK; go_simp; exact hK.out _ _ (Ext.refl _) rfl (FreshIf.no rfl) }) ?_
  refine Rc (bn (r := .bool false) (Od.loc 1 23) Od.con (hr := fun w => by have hx9 := HLN.out; go_simp)) ?_
  exact RgAll.nil
 intro v W3 e1 hΦ _
 replace S := S.mono e1
 have v2 : v 2 = .bool false := hΦ 2 (by decide)
 simp only [layL, Act.put, List.setIfInBounds_toArray, List.set_cons_zero, List.set_cons_succ, Nat.reduceAdd]
 rw [v2]
 clear v2 hΦ e1
 refine wpList_nil ?_
 go_upto_region 6 with (fail)
 have hl := hid S.lt; have hw := S.ext.size
 refine rgs 3 [some 26, some 27, some 6] [IsQ (IsR s1x x1n) (IsR s1y x1d), IsQ (IsI 8 qa.num) (IsI 8 ((qa.den : Int))), IsBo W3 2] [2] ?_ ?_
 ·refine Rc (ldQ S 1 0 (w.heap.size) 0 (Od.lit 2) ld_RawQ rfl rfl) ?_
  refine Rc (cl2 (en Tryz.func13) (Od.lc (Φ := IsQ (IsR s1x x1n) (IsR s1y x1d)) 0 26) Od.con (fun x0 x1 w' hE d0 d1 => by { obtain rfl : x1 = .int .i64 6 := d1; exact Calls.mono (rqMade_f d0 6 (by decide)) fun _ _ h => h.ratz Ha.out (Nat.le_refl _) })) ?_
  refine Rc (al al_Rat) ?_
  exact RgAll.nil
 intro v W4 e1 hΦ _
 replace S := S.mono e1
 have h27 := hΦ 1 (by decide)
 obtain ⟨g6, v2, q2, b1, _⟩ := (hΦ 2 (by decide) : IsBo W3 2 (v 2) W4)
 replace S := S.addN 2 (ApartO.old hl.out q2) (Nat.le_trans hw q2) b1
 simp only [newF, List.cons_append, List.nil_append] at S
 simp only [layL, Act.put, List.setIfInBounds_toArray, List.set_cons_zero, List.set_cons_succ, Nat.reduceAdd]
 rw [v2]
 clear b1 hl hw v2 hΦ e1
 try simp only [List.drop_succ_cons, List.drop_zero]
 (with_reducible refine stL ?_ (by rfl)); intro KK hKK; refine stQ S 1 0 (g6) 0 h27 (IsI.gstb _ _) (IsI.gstb _ _) st_Rat (fun W5 S2 G2 => hKK _ _ ?_) rfl rfl
 replace S := S2; clear S2 G2 hKK KK h27
 simp only [List.set_cons_zero, List.set_cons_succ] at S
 refine wpList_nil ?_
 go_upto_region 7 with (fail)
 refine rgs 7 [some 29, some 30, some 28, some 31, some 32, some 7, some 8] [IsQ (IsI 8 qa.num) (IsI 8 ((qa.den : Int))), IsT2 (IsV (.string tq)) (IsV (.int .i64 0)), IsT2 (IsV (.string tq)) (IsV (.int .i64 0)), IsV (.string tq), IsV (.int .i64 0), IsV (.string tq), IsV (.int .i64 0)] [] ?_ ?_
 ·refine Rc (ldQ S 1 0 (g6) 0 (Od.lit 6) ld_Rat rfl rfl) ?_
  refine Rc (cl1 (en Tryz.func14) (Od.lc (Φ := IsQ (IsI 8 qa.num) (IsI 8 ((qa.den : Int)))) 0 29) (fun x0 w' hE d0 => qText_u d0 (by decide) (ht.ext (S.ext.trans hE)) _ _ _ HX1.out HX2.out HX3.out HX4.out)) ?_
  refine Rc (mv (Od.lc 1 30)) ?_
  refine Rc (ex (Od.loc 2 28) t20) ?_
  refine Rc (ex (Od.loc 2 28) t21) ?_
  refine Rc (mv (Od.lc 3 31)) ?_
  refine Rc (mv (Od.lc 4 32)) ?_
  exact RgAll.nil
 intro v W6 e1 hΦ _
 replace S := S.mono e1
 have v5 : v 5 = .string tq := hΦ 5 (by decide)
 have v6 : v 6 = .int .i64 0 := hΦ 6 (by decide)
 simp only [layL, Act.put, List.setIfInBounds_toArray, List.set_cons_zero, List.set_cons_succ, Nat.reduceAdd]
 rw [v5, v6]
 clear v5 v6 hΦ e1
 refine wpList_nil ?_
 go_upto_region 8 with (fail)
 refine rgs 7 [some 34, some 35, some 33, some 36, some 37, some 9, some 10] [IsQ (IsI 8 qa.num) (IsI 8 ((qa.den : Int))), IsT2 (IsV (.string tq)) (IsV (.int .i64 0)), IsT2 (IsV (.string tq)) (IsV (.int .i64 0)), IsV (.string tq), IsV (.int .i64 0), IsV (.string tq), IsV (.int .i64 0)] [] ?_ ?_
 ·refine Rc (ldQ S 1 0 (g6) 0 (Od.lit 6) ld_Rat rfl rfl) ?_
  refine Rc (cl1 (en Tryz.func15) (Od.lc (Φ := IsQ (IsI 8 qa.num) (IsI 8 ((qa.den : Int)))) 0 34) (fun x0 w' hE d0 => rqText_u d0 (by decide) _ _ _ HX1.out HX2.out HX3.out HX4.out)) ?_
  refine Rc (mv (Od.lc 1 35)) ?_
  refine Rc (ex (Od.loc 2 33) t20) ?_
  refine Rc (ex (Od.loc 2 33) t21) ?_
  refine Rc (mv (Od.lc 3 36)) ?_
  refine Rc (mv (Od.lc 4 37)) ?_
  exact RgAll.nil
 intro v W7 e1 hΦ _
 replace S := S.mono e1
 have v5 : v 5 = .string tq := hΦ 5 (by decide)
 have v6 : v 6 = .int .i64 0 := hΦ 6 (by decide)
 simp only [layL, Act.put, List.setIfInBounds_toArray, List.set_cons_zero, List.set_cons_succ, Nat.reduceAdd]
 rw [v5, v6]
 clear v5 v6 hΦ e1
 refine wpList_nil ?_
 go_upto_region 9 with (fail)
 have hl := hid S.lt; have hw := S.ext.size
 refine rgs 6 [some 39, some 40, some 38, some 41, some 42, some 11] [IsV (.string tq), IsT2 (IsQ (IsI 136 qa.num) (IsI 136 ((qa.den : Int)))) (IsV (.int .i64 0)), IsT2 (IsQ (IsI 136 qa.num) (IsI 136 ((qa.den : Int)))) (IsV (.int .i64 0)), IsQ (IsI 136 qa.num) (IsI 136 ((qa.den : Int))), IsV (.int .i64 0), IsBo W7 2] [5] ?_ ?_
 ·refine Rc (mv (Od.lit 7)) ?_
  refine Rc (cl1 (en Tryz.func16) (Od.lc (Φ := IsV (.string tq)) 0 39) (fun x0 w' hE d0 => by { obtain rfl : x0 = .string tq := d0; exact (by have hh := qParse_f w' tq; rw [HPA.out.1, HPA.out.2.1, HPA.out.2.2] at hh; exact hh) })) ?_
  refine Rc (mv (Od.lc 1 40)) ?_
  refine Rc (ex (Od.loc 2 38) t20) ?_
  refine Rc (ex (Od.loc 2 38) t21) ?_
  refine Rc (al al_Rat) ?_
  exact RgAll.nil
 intro v W8 e1 hΦ _
 replace S := S.mono e1
 have h41 := hΦ 3 (by decide)
 have v4 : v 4 = .int .i64 0 := hΦ 4 (by decide)
 obtain ⟨g11, v5, q4, b3, _⟩ := (hΦ 5 (by decide) : IsBo W7 2 (v 5) W8)
 replace S := S.addN 2 (ApartO.old hl.out q4) (Nat.le_trans hw q4) b3
 simp only [newF, List.cons_append, List.nil_append] at S
 simp only [layL, Act.put, List.setIfInBounds_toArray, List.set_cons_zero, List.set_cons_succ, Nat.reduceAdd]
 rw [v4, v5]
 clear b3 hl hw v4 v5 hΦ e1
 try simp only [List.drop_succ_cons, List.drop_zero]
 (with_reducible refine stL ?_ (by rfl)); intro KK hKK; refine stQ S 1 0 (g11) 0 h41 (IsI.gstb _ _) (IsI.gstb _ _) st_Rat (fun W9 S2 G2 => hKK _ _ ?_) rfl rfl
 replace S := S2; clear S2 G2 hKK KK h41
 simp only [List.set_cons_zero, List.set_cons_succ] at S
 refine wpList_step fun K hK => ?_; go_simp; refine hK _ _ ?_; clear hK K
 refine wpList_nil ?_
 go_upto_region 10 with (fail)
 have hl := hid S.lt; have hw := S.ext.size
 refine rgs 6 [some 44, some 45, some 43, some 46, some 47, some 13] [IsV (.string s2), IsT2 (IsQ (IsI 136 cn) (IsI 136 cd)) (IsV (.int .i64 ec)), IsT2 (IsQ (IsI 136 cn) (IsI 136 cd)) (IsV (.int .i64 ec)), IsQ (IsI 136 cn) (IsI 136 cd), IsV (.int .i64 ec), IsBo W9 2] [5] ?_ ?_
 ·refine Rc (mv (Od.lit 1)) ?_
  refine Rc (cl1 (en Tryz.func16) (Od.lc (Φ := IsV (.string s2)) 0 44) (fun x0 w' hE d0 => by { obtain rfl : x0 = .string s2 := d0; exact (by have hh := qParse_f w' s2; rw [HPS.out.1, HPS.out.2.1, HPS.out.2.2] at hh; exact hh) })) ?_
  refine Rc (mv (Od.lc 1 45)) ?_
  refine Rc (ex (Od.loc 2 43) t20) ?_
  refine Rc (ex (Od.loc 2 43) t21) ?_
  refine Rc (al al_Rat) ?_
  exact RgAll.nil
 intro v W10 e1 hΦ _
 replace S := S.mono e1
 have h46 := hΦ 3 (by decide)
 have v4 : v 4 = .int .i64 ec := hΦ 4 (by decide)
 obtain ⟨g13, v5, q6, b5, _⟩ := (hΦ 5 (by decide) : IsBo W9 2 (v 5) W10)
 replace S := S.addN 2 (ApartO.old hl.out q6) (Nat.le_trans hw q6) b5
 simp only [newF, List.cons_append, List.nil_append] at S
 simp only [layL, Act.put, List.setIfInBounds_toArray, List.set_cons_zero, List.set_cons_succ, Nat.reduceAdd]
 rw [v4, v5]
 clear b5 hl hw v4 v5 hΦ e1
 try simp only [List.drop_succ_cons, List.drop_zero]
 (with_reducible refine stL ?_ (by rfl)); intro KK hKK; refine stQ S 1 0 (g13) 0 h46 (IsI.gstb _ _) (IsI.gstb _ _) st_Rat (fun W11 S2 G2 => hKK _ _ ?_) rfl rfl
 replace S := S2; clear S2 G2 hKK KK h46
 simp only [List.set_cons_zero, List.set_cons_succ] at S
 refine wpList_step fun K hK => ?_; go_simp; refine hK _ _ ?_; clear hK K
 refine wpList_nil ?_
 go_upto_region 11 with (fail)
 have hl := hid S.lt; have hw := S.ext.size
 refine rgs 6 [some 49, some 50, some 48, some 51, some 52, some 15] [IsV (.string s2), IsT2 (IsQ (IsI 136 cn) (IsI 136 cd)) (IsV (.int .i64 ec)), IsT2 (IsQ (IsI 136 cn) (IsI 136 cd)) (IsV (.int .i64 ec)), IsQ (IsI 136 cn) (IsI 136 cd), IsV (.int .i64 ec), IsBo W11 2] [5] ?_ ?_
 ·refine Rc (mv (Od.lit 1)) ?_
  refine Rc (cl1 (en Tryz.func17) (Od.lc (Φ := IsV (.string s2)) 0 49) (fun x0 w' hE d0 => by { obtain rfl : x0 = .string s2 := d0; exact (by have hh := rqParse_f w' s2; rw [HPS.out.1, HPS.out.2.1, HPS.out.2.2] at hh; exact hh) })) ?_
  refine Rc (mv (Od.lc 1 50)) ?_
  refine Rc (ex (Od.loc 2 48) t20) ?_
  refine Rc (ex (Od.loc 2 48) t21) ?_
  refine Rc (al al_Rat) ?_
  exact RgAll.nil
 intro v W12 e1 hΦ _
 replace S := S.mono e1
 have h51 := hΦ 3 (by decide)
 have v4 : v 4 = .int .i64 ec := hΦ 4 (by decide)
 obtain ⟨g15, v5, q8, b7, _⟩ := (hΦ 5 (by decide) : IsBo W11 2 (v 5) W12)
 replace S := S.addN 2 (ApartO.old hl.out q8) (Nat.le_trans hw q8) b7
 simp only [newF, List.cons_append, List.nil_append] at S
 simp only [layL, Act.put, List.setIfInBounds_toArray, List.set_cons_zero, List.set_cons_succ, Nat.reduceAdd]
 rw [v4, v5]
 clear b7 hl hw v4 v5 hΦ e1
 try simp only [List.drop_succ_cons, List.drop_zero]
 (with_reducible refine stL ?_ (by rfl)); intro KK hKK; refine stQ S 1 0 (g15) 0 h51 (IsI.gstb _ _) (IsI.gstb _ _) st_Rat (fun W13 S2 G2 => hKK _ _ ?_) rfl rfl
 replace S := S2; clear S2 G2 hKK KK h51
 simp only [List.set_cons_zero, List.set_cons_succ] at S
 refine wpList_step fun K hK => ?_; go_simp; refine hK _ _ ?_; clear hK K
 refine wpList_nil ?_
 go_upto_region 12 with (fail)
 refine rgs 33 [some 53, some 54, some 55, some 56, some 57, some 58, some 59, some 60, some 61, some 62, some 63, some 64, some 65, some 66, some 67, some 68, some 69, some 70, some 71, some 72, some 73, some 74, some 75, some 76, some 77, some 78, some 79, some 80, some 81, some 82, some 83, some 84, some 85] [IsV (.int .i64 0), IsV (.int .i64 0), IsV (.bool false), IsV (.bool false), IsV (.int .i64 0), IsV (.bool false), IsV (.bool false), IsV (.bool false), IsV (.string tq), IsV (.string tq), IsV (.bool false), IsV (.bool false), IsV (.bool false), IsV (.int .i64 0), IsV (.bool false), IsV (.bool false), IsV (.bool false), IsQ (IsI 136 qa.num) (IsI 136 ((qa.den : Int))), IsQ (IsI 8 qa.num) (IsI 8 ((qa.den : Int))), IsV (.bool true), IsV (.bool false), IsV (.bool false), IsV (.bool false), IsV (.int .i64 ec), IsV (.int .i64 ec), IsV (.bool false), IsV (.bool false), IsV (.bool false), IsQ (IsI 136 cn) (IsI 136 cd), IsQ (IsI 136 cn) (IsI 136 cd), IsV (.bool true), IsV (.bool false), IsV (.bool false)] [] ?_ ?_
 ·refine Rc (mv (Od.lit 8)) ?_
  refine Rc (mv (Od.lit 10)) ?_
  refine Rc (bn (r := .bool false) (Od.loc 0 53) (Od.loc 1 54) (hr := fun w => by go_simp)) ?_
  refine Rc (mv (Od.lc 2 55)) ?_
  refine RcG 3 56 false (mv (Od.lit 8)) ?_
  refine RcG 3 56 false (bn (r := .bool false) (Od.loc 4 57) Od.con (hr := fun w => by go_simp)) ?_
  refine Rc (pk (Od.loc 3 56) (Od.lc 5 58)) ?_
  refine Rc (mv (Od.lc 6 59)) ?_
  refine RcG 7 60 false (mv (Od.lit 7)) ?_
  refine RcG 7 60 false (mv (Od.lit 9)) ?_
  refine RcG 7 60 false (bn (r := .bool false) (Od.loc 8 61) (Od.loc 9 62) (hr := fun w => by go_simp)) ?_
  refine Rc (pk (Od.loc 7 60) (Od.lc 10 63)) ?_
  refine Rc (mv (Od.lc 11 64)) ?_
  refine RcG 12 65 false (mv (Od.lit 12)) ?_
  refine RcG 12 65 false (bn (r := .bool false) (Od.loc 13 66) Od.con (hr := fun w => by go_simp)) ?_
  refine Rc (pk (Od.loc 12 65) (Od.lc 14 67)) ?_
  refine Rc (mv (Od.lc 15 68)) ?_
  refine RcG 16 69 false (ldQ S 5 4 (g11) 0 (Od.lit 11) ld_Rat rfl rfl) ?_
  refine RcG 16 69 false (ldQ S 7 6 (g6) 0 (Od.lit 6) ld_Rat rfl rfl) ?_
  refine RcG 16 69 false (cl2 (en Tryz.func18) (Od.lc (Φ := IsQ (IsI 136 qa.num) (IsI 136 ((qa.den : Int)))) 17 70) (Od.lc (Φ := IsQ (IsI 8 qa.num) (IsI 8 ((qa.den : Int)))) 18 71) (fun x0 x1 w' hE d0 d1 => rqSame_t d0 d1 (by decide) rfl rfl)) ?_
  refine RcG 16 69 false (nt (Od.loc 19 72)) ?_
  refine Rc (pk (Od.loc 16 69) (Od.lc 20 73)) ?_
  refine Rc (mv (Od.lc 21 74)) ?_
  refine RcG 22 75 false (mv (Od.lit 14)) ?_
  refine RcG 22 75 false (mv (Od.lit 16)) ?_
  refine RcG 22 75 false (bn (r := .bool false) (Od.loc 23 76) (Od.loc 24 77) (hr := fun w => by go_simp)) ?_
  refine Rc (pk (Od.loc 22 75) (Od.lc 25 78)) ?_
  refine Rc (mv (Od.lc 26 79)) ?_
  refine RcG 27 80 false (ldQ S 3 2 (g13) 0 (Od.lit 13) ld_Rat rfl rfl) ?_
  refine RcG 27 80 false (ldQ S 1 0 (g15) 0 (Od.lit 15) ld_Rat rfl rfl) ?_
  refine RcG 27 80 false (cl2 (en Tryz.func18) (Od.lc (Φ := IsQ (IsI 136 cn) (IsI 136 cd)) 28 81) (Od.lc (Φ := IsQ (IsI 136 cn) (IsI 136 cd)) 29 82) (fun x0 x1 w' hE d0 d1 => rqSame_t d0 d1 (by decide) rfl rfl)) ?_
  refine RcG 27 80 false (nt (Od.loc 30 83)) ?_
  refine Rc (pk (Od.loc 27 80) (Od.lc 31 84)) ?_
  exact RgAll.nil
 intro v W14 e1 hΦ _
 replace S := S.mono e1
 have v32 : v 32 = .bool false := hΦ 32 (by decide)
 simp only [layL, Act.put, List.setIfInBounds_toArray, List.set_cons_zero, List.set_cons_succ, Nat.reduceAdd]
 rw [v32]
 clear v32 hΦ e1
 refine wpList_nil ?_
 go_upto_region 14 with (fail)
 refine rgs 2 [some 86, some 87] [IsV (.int .i64 ec), IsV (.bool true)] [] ?_ ?_
 ·refine Rc (mv (Od.lit 14)) ?_
  refine Rc (bn (r := .bool true) (Od.loc 0 86) Od.con (hr := fun w => by have hx9 := HE.out; go_simp)) ?_
  exact RgAll.nil
 intro v W15 e1 hΦ _
 replace S := S.mono e1
 have v1 : v 1 = .bool true := hΦ 1 (by decide)
 simp only [layL, Act.put, List.setIfInBounds_toArray, List.set_cons_zero, List.set_cons_succ, Nat.reduceAdd]
 rw [v1]
 clear v1 hΦ e1
 refine wpList_nil ?_
 go_upto_region 15 with (fail)
 refine rgs 2 [some 88, some 4] [IsV (.bool true), IsV (.bool true)] [] ?_ ?_
 ·refine Rc (mv (Od.lit 5)) ?_
  refine Rc (mv (Od.lc 0 88)) ?_
  exact RgAll.nil
 intro v W16 e1 hΦ _
 replace S := S.mono e1
 have v1 : v 1 = .bool true := hΦ 1 (by decide)
 simp only [layL, Act.put, List.setIfInBounds_toArray, List.set_cons_zero, List.set_cons_succ, Nat.reduceAdd]
 rw [v1]
 clear v1 hΦ e1
 refine wpList_nil ?_
 go_wp2_with fail
 exact bodyPost_ret (v := .bool true) (by simp [results, Tryz.results3, go_sem]) rfl (⟨_, rfl, S.ext, rfl⟩)
set_option maxRecDepth 100000 in
set_option maxHeartbeats 8000000 in
theorem QTexts_k (w : World) (s1x s1y : Bool) (a1x a1y : Option Addr) (n1x n1y c1x c1y : Nat) (x1n x1d : List Nat) (s2 : ByteArray) (h1x : Wd w a1x n1x c1x x1n) (h1y : Wd w a1y n1y c1y x1d) (ht : Tab w) (qa : Rat) (tn td tq : ByteArray) (cn cd : Int) (HLN : Hid (decide ((3000 : Int) < (s2.size : Int)) = false)) (Ha : Hid (madeQ s1x s1y x1n x1d 6 = qa)) (HX1 : Hid (encS (textS qa.num) = .string tn ∧ textE qa.num = 0)) (HX2 : Hid (encS (textS (qa.den : Int)) = .string td ∧ textE (qa.den : Int) = 0)) (HX3 : Hid (tn.size ≤ 100000 ∧ td.size ≤ 100000)) (HX4 : Hid ((if td = ⟨#[49]⟩ then tn else tn ++ (⟨#[47]⟩ : ByteArray) ++ td) = tq)) (HPA : Hid (rparN tq.data.toList = qa.num ∧ rparD tq.data.toList = (qa.den : Int) ∧ rparE tq.data.toList = 0)) (HPS : Hid (rparN s2.data.toList = cn ∧ rparD s2.data.toList = cd ∧ rparE s2.data.toList = 0)) (un ud : ByteArray) (HY1 : Hid (encS (textS cn) = .string un ∧ textE cn = 0)) (HY2 : Hid (encS (textS cd) = .string ud ∧ textE cd = 0)) (HY3 : Hid (un.size ≤ 100000 ∧ ud.size ≤ 100000)) (HY4 : Hid ((if ud = ⟨#[49]⟩ then un else un ++ (⟨#[47]⟩ : ByteArray) ++ ud) = s2)) :
  Calls Tryz.prog 3 #[.agg #[.bool s1x, .slice a1x n1x c1x, .bool s1y, .slice a1y n1y c1y], .string s2] w (Ret w (IsV (.bool true))) := by
 obtain ⟨W, hW, S⟩ : ∃ W, W = w.alloc (.cells #[.bool s1x, .slice a1x n1x c1x, .bool s1y, .slice a1y n1y c1y] 26) ∧ Sto w W [((w.heap.size, 1), IsR s1y x1d), ((w.heap.size, 0), IsR s1x x1n)] := ⟨_, rfl, ((Sto.start w).new2 (w.heap.size) (by simp) s1x s1y a1x a1y n1x c1x n1y c1y 26 (IsR s1x x1n) (IsR s1y x1d) (IsR.gstb _ _) (⟨_, _, _, rfl, h1x⟩) (IsR.gstb _ _) (⟨_, _, _, rfl, h1y⟩))⟩
 clear h1x h1y
 go_enter Tryz.func3, Tryz.ntmps3
 go_upto_region 1 with (fail)
 rw [← hW]
 clear hW
 refine rgs 2 [some 19, some 5] [IsV (.bool true), IsV (.bool true)] [] ?_ ?_
 ·refine Rc (cl0 (en Tryz.func12)  (fun w' hE => examplesQ_f _ (ht.ext (S.ext.trans hE)))) ?_
  refine Rc (mv (Od.lc 0 19)) ?_
  exact RgAll.nil
 intro v W1 e1 hΦ _
 replace S := S.mono e1
 have v1 : v 1 = .bool true := hΦ 1 (by decide)
 simp only [layL, Act.put, List.setIfInBounds_toArray, List.set_cons_zero, List.set_cons_succ, Nat.reduceAdd]
 rw [v1]
 clear v1 hΦ e1
 refine wpList_nil ?_
 go_upto_region 2 with (fail)
 refine rgs 2 [some 20, some 21] [IsV (.bool true), IsV (.bool false)] [] ?_ ?_
 ·refine Rc (mv (Od.lit 5)) ?_
  refine Rc (nt (Od.loc 0 20)) ?_
  exact RgAll.nil
 intro v W2 e1 hΦ _
 replace S := S.mono e1
 have v1 : v 1 = .bool false := hΦ 1 (by decide)
 simp only [layL, Act.put, List.setIfInBounds_toArray, List.set_cons_zero, List.set_cons_succ, Nat.reduceAdd]
 rw [v1]
 clear v1 hΦ e1
 refine wpList_nil ?_
 go_upto_region 4 with (fail)
 refine rgs 3 [some 22, some 23, some 24] [IsV (.string s2), IsV (.int .i64 ((s2).size)), IsV (.bool false)] [] ?_ ?_
 ·refine Rc (mv (Od.lit 1)) ?_
  refine RgAll.cons (by { (with_reducible refine RgL.mk (by rfl) ?_); intro v a w' hE hd hf; have d0 : v 0 = .string s2 := hd 0 (by kernel_rfl); have ev0 := hf.val 0 22 _ d0 (by kernel_rfl) (by kernel_rfl) (by kernel_rfl); clear d0; clear hd hf; intro K hK; go_simp; exact hK.out _ _ (Ext.refl _) rfl (FreshIf.no rfl) }) ?_
  refine Rc (bn (r := .bool false) (Od.loc 1 23) Od.con (hr := fun w => by have hx9 := HLN.out; go_simp)) ?_
  exact RgAll.nil
 intro v W3 e1 hΦ _
 replace S := S.mono e1
 have v2 : v 2 = .bool false := hΦ 2 (by decide)
 simp only [layL, Act.put, List.setIfInBounds_toArray, List.set_cons_zero, List.set_cons_succ, Nat.reduceAdd]
 rw [v2]
 clear v2 hΦ e1
 refine wpList_nil ?_
 go_upto_region 6 with (fail)
 have hl := hid S.lt; have hw := S.ext.size
 refine rgs 3 [some 26, some 27, some 6] [IsQ (IsR s1x x1n) (IsR s1y x1d), IsQ (IsI 8 qa.num) (IsI 8 ((qa.den : Int))), IsBo W3 2] [2] ?_ ?_
 ·refine Rc (ldQ S 1 0 (w.heap.size) 0 (Od.lit 2) ld_RawQ rfl rfl) ?_
  refine Rc (cl2 (en Tryz.func13) (Od.lc (Φ := IsQ (IsR s1x x1n) (IsR s1y x1d)) 0 26) Od.con (fun x0 x1 w' hE d0 d1 => by { obtain rfl : x1 = .int .i64 6 := d1; exact Calls.mono (rqMade_f d0 6 (by decide)) fun _ _ h => h.ratz Ha.out (Nat.le_refl _) })) ?_
  refine Rc (al al_Rat) ?_
  exact RgAll.nil
 intro v W4 e1 hΦ _
 replace S := S.mono e1
 have h27 := hΦ 1 (by decide)
 obtain ⟨g6, v2, q2, b1, _⟩ := (hΦ 2 (by decide) : IsBo W3 2 (v 2) W4)
 replace S := S.addN 2 (ApartO.old hl.out q2) (Nat.le_trans hw q2) b1
 simp only [newF, List.cons_append, List.nil_append] at S
 simp only [layL, Act.put, List.setIfInBounds_toArray, List.set_cons_zero, List.set_cons_succ, Nat.reduceAdd]
 rw [v2]
 clear b1 hl hw v2 hΦ e1
 try simp only [List.drop_succ_cons, List.drop_zero]
 (with_reducible refine stL ?_ (by rfl)); intro KK hKK; refine stQ S 1 0 (g6) 0 h27 (IsI.gstb _ _) (IsI.gstb _ _) st_Rat (fun W5 S2 G2 => hKK _ _ ?_) rfl rfl
 replace S := S2; clear S2 G2 hKK KK h27
 simp only [List.set_cons_zero, List.set_cons_succ] at S
 refine wpList_nil ?_
 go_upto_region 7 with (fail)
 refine rgs 7 [some 29, some 30, some 28, some 31, some 32, some 7, some 8] [IsQ (IsI 8 qa.num) (IsI 8 ((qa.den : Int))), IsT2 (IsV (.string tq)) (IsV (.int .i64 0)), IsT2 (IsV (.string tq)) (IsV (.int .i64 0)), IsV (.string tq), IsV (.int .i64 0), IsV (.string tq), IsV (.int .i64 0)] [] ?_ ?_
 ·refine Rc (ldQ S 1 0 (g6) 0 (Od.lit 6) ld_Rat rfl rfl) ?_
  refine Rc (cl1 (en Tryz.func14) (Od.lc (Φ := IsQ (IsI 8 qa.num) (IsI 8 ((qa.den : Int)))) 0 29) (fun x0 w' hE d0 => qText_u d0 (by decide) (ht.ext (S.ext.trans hE)) _ _ _ HX1.out HX2.out HX3.out HX4.out)) ?_
  refine Rc (mv (Od.lc 1 30)) ?_
  refine Rc (ex (Od.loc 2 28) t20) ?_
  refine Rc (ex (Od.loc 2 28) t21) ?_
  refine Rc (mv (Od.lc 3 31)) ?_
  refine Rc (mv (Od.lc 4 32)) ?_
  exact RgAll.nil
 intro v W6 e1 hΦ _
 replace S := S.mono e1
 have v5 : v 5 = .string tq := hΦ 5 (by decide)
 have v6 : v 6 = .int .i64 0 := hΦ 6 (by decide)
 simp only [layL, Act.put, List.setIfInBounds_toArray, List.set_cons_zero, List.set_cons_succ, Nat.reduceAdd]
 rw [v5, v6]
 clear v5 v6 hΦ e1
 refine wpList_nil ?_
 go_upto_region 8 with (fail)
 refine rgs 7 [some 34, some 35, some 33, some 36, some 37, some 9, some 10] [IsQ (IsI 8 qa.num) (IsI 8 ((qa.den : Int))), IsT2 (IsV (.string tq)) (IsV (.int .i64 0)), IsT2 (IsV (.string tq)) (IsV (.int .i64 0)), IsV (.string tq), IsV (.int .i64 0), IsV (.string tq), IsV (.int .i64 0)] [] ?_ ?_
 ·refine Rc (ldQ S 1 0 (g6) 0 (Od.lit 6) ld_Rat rfl rfl) ?_
  refine Rc (cl1 (en Tryz.func15) (Od.lc (Φ := IsQ (IsI 8 qa.num) (IsI 8 ((qa.den : Int)))) 0 34) (fun x0 w' hE d0 => rqText_u d0 (by decide) _ _ _ HX1.out HX2.out HX3.out HX4.out)) ?_
  refine Rc (mv (Od.lc 1 35)) ?_
  refine Rc (ex (Od.loc 2 33) t20) ?_
  refine Rc (ex (Od.loc 2 33) t21) ?_
  refine Rc (mv (Od.lc 3 36)) ?_
  refine Rc (mv (Od.lc 4 37)) ?_
  exact RgAll.nil
 intro v W7 e1 hΦ _
 replace S := S.mono e1
 have v5 : v 5 = .string tq := hΦ 5 (by decide)
 have v6 : v 6 = .int .i64 0 := hΦ 6 (by decide)
 simp only [layL, Act.put, List.setIfInBounds_toArray, List.set_cons_zero, List.set_cons_succ, Nat.reduceAdd]
 rw [v5, v6]
 clear v5 v6 hΦ e1
 refine wpList_nil ?_
 go_upto_region 9 with (fail)
 have hl := hid S.lt; have hw := S.ext.size
 refine rgs 6 [some 39, some 40, some 38, some 41, some 42, some 11] [IsV (.string tq), IsT2 (IsQ (IsI 136 qa.num) (IsI 136 ((qa.den : Int)))) (IsV (.int .i64 0)), IsT2 (IsQ (IsI 136 qa.num) (IsI 136 ((qa.den : Int)))) (IsV (.int .i64 0)), IsQ (IsI 136 qa.num) (IsI 136 ((qa.den : Int))), IsV (.int .i64 0), IsBo W7 2] [5] ?_ ?_
 ·refine Rc (mv (Od.lit 7)) ?_
  refine Rc (cl1 (en Tryz.func16) (Od.lc (Φ := IsV (.string tq)) 0 39) (fun x0 w' hE d0 => by { obtain rfl : x0 = .string tq := d0; exact (by have hh := qParse_f w' tq; rw [HPA.out.1, HPA.out.2.1, HPA.out.2.2] at hh; exact hh) })) ?_
  refine Rc (mv (Od.lc 1 40)) ?_
  refine Rc (ex (Od.loc 2 38) t20) ?_
  refine Rc (ex (Od.loc 2 38) t21) ?_
  refine Rc (al al_Rat) ?_
  exact RgAll.nil
 intro v W8 e1 hΦ _
 replace S := S.mono e1
 have h41 := hΦ 3 (by decide)
 have v4 : v 4 = .int .i64 0 := hΦ 4 (by decide)
 obtain ⟨g11, v5, q4, b3, _⟩ := (hΦ 5 (by decide) : IsBo W7 2 (v 5) W8)
 replace S := S.addN 2 (ApartO.old hl.out q4) (Nat.le_trans hw q4) b3
 simp only [newF, List.cons_append, List.nil_append] at S
 simp only [layL, Act.put, List.setIfInBounds_toArray, List.set_cons_zero, List.set_cons_succ, Nat.reduceAdd]
 rw [v4, v5]
 clear b3 hl hw v4 v5 hΦ e1
 try simp only [List.drop_succ_cons, List.drop_zero]
 (with_reducible refine stL ?_ (by rfl)); intro KK hKK; refine stQ S 1 0 (g11) 0 h41 (IsI.gstb _ _) (IsI.gstb _ _) st_Rat (fun W9 S2 G2 => hKK _ _ ?_) rfl rfl
 replace S := S2; clear S2 G2 hKK KK h41
 simp only [List.set_cons_zero, List.set_cons_succ] at S
 refine wpList_step fun K hK => ?_; go_simp; refine hK _ _ ?_; clear hK K
 refine wpList_nil ?_
 go_upto_region 10 with (fail)
 have hl := hid S.lt; have hw := S.ext.size
 refine rgs 6 [some 44, some 45, some 43, some 46, some 47, some 13] [IsV (.string s2), IsT2 (IsQ (IsI 136 cn) (IsI 136 cd)) (IsV (.int .i64 0)), IsT2 (IsQ (IsI 136 cn) (IsI 136 cd)) (IsV (.int .i64 0)), IsQ (IsI 136 cn) (IsI 136 cd), IsV (.int .i64 0), IsBo W9 2] [5] ?_ ?_
 ·refine Rc (mv (Od.lit 1)) ?_
  refine Rc (cl1 (en Tryz.func16) (Od.lc (Φ := IsV (.string s2)) 0 44) (fun x0 w' hE d0 => by { obtain rfl : x0 = .string s2 := d0; exact (by have hh := qParse_f w' s2; rw [HPS.out.1, HPS.out.2.1, HPS.out.2.2] at hh; exact hh) })) ?_
  refine Rc (mv (Od.lc 1 45)) ?_
  refine Rc (ex (Od.loc 2 43) t20) ?_
  refine Rc (ex (Od.loc 2 43) t21) ?_
  refine Rc (al al_Rat) ?_
  exact RgAll.nil
 intro v W10 e1 hΦ _
 replace S := S.mono e1
 have h46 := hΦ 3 (by decide)
 have v4 : v 4 = .int .i64 0 := hΦ 4 (by decide)
 obtain ⟨g13, v5, q6, b5, _⟩ := (hΦ 5 (by decide) : IsBo W9 2 (v 5) W10)
 replace S := S.addN 2 (ApartO.old hl.out q6) (Nat.le_trans hw q6) b5
 simp only [newF, List.cons_append, List.nil_append] at S
 simp only [layL, Act.put, List.setIfInBounds_toArray, List.set_cons_zero, List.set_cons_succ, Nat.reduceAdd]
 rw [v4, v5]
 clear b5 hl hw v4 v5 hΦ e1
 try simp only [List.drop_succ_cons, List.drop_zero]
 (with_reducible refine stL ?_ (by rfl)); intro KK hKK; refine stQ S 1 0 (g13) 0 h46 (IsI.gstb _ _) (IsI.gstb _ _) st_Rat (fun W11 S2 G2 => hKK _ _ ?_) rfl rfl
 replace S := S2; clear S2 G2 hKK KK h46
 simp only [List.set_cons_zero, List.set_cons_succ] at S
 refine wpList_step fun K hK => ?_; go_simp; refine hK _ _ ?_; clear hK K
 refine wpList_nil ?_
 go_upto_region 11 with (fail)
 have hl := hid S.lt; have hw := S.ext.size
 refine rgs 6 [some 49, some 50, some 48, some 51, some 52, some 15] [IsV (.string s2), IsT2 (IsQ (IsI 136 cn) (IsI 136 cd)) (IsV (.int .i64 0)), IsT2 (IsQ (IsI 136 cn) (IsI 136 cd)) (IsV (.int .i64 0)), IsQ (IsI 136 cn) (IsI 136 cd), IsV (.int .i64 0), IsBo W11 2] [5] ?_ ?_
 ·refine Rc (mv (Od.lit 1)) ?_
  refine Rc (cl1 (en Tryz.func17) (Od.lc (Φ := IsV (.string s2)) 0 49) (fun x0 w' hE d0 => by { obtain rfl : x0 = .string s2 := d0; exact (by have hh := rqParse_f w' s2; rw [HPS.out.1, HPS.out.2.1, HPS.out.2.2] at hh; exact hh) })) ?_
  refine Rc (mv (Od.lc 1 50)) ?_
  refine Rc (ex (Od.loc 2 48) t20) ?_
  refine Rc (ex (Od.loc 2 48) t21) ?_
  refine Rc (al al_Rat) ?_
  exact RgAll.nil
 intro v W12 e1 hΦ _
 replace S := S.mono e1
 have h51 := hΦ 3 (by decide)
 have v4 : v 4 = .int .i64 0 := hΦ 4 (by decide)
 obtain ⟨g15, v5, q8, b7, _⟩ := (hΦ 5 (by decide) : IsBo W11 2 (v 5) W12)
 replace S := S.addN 2 (ApartO.old hl.out q8) (Nat.le_trans hw q8) b7
 simp only [newF, List.cons_append, List.nil_append] at S
 simp only [layL, Act.put, List.setIfInBounds_toArray, List.set_cons_zero, List.set_cons_succ, Nat.reduceAdd]
 rw [v4, v5]
 clear b7 hl hw v4 v5 hΦ e1
 try simp only [List.drop_succ_cons, List.drop_zero]
 (with_reducible refine stL ?_ (by rfl)); intro KK hKK; refine stQ S 1 0 (g15) 0 h51 (IsI.gstb _ _) (IsI.gstb _ _) st_Rat (fun W13 S2 G2 => hKK _ _ ?_) rfl rfl
 replace S := S2; clear S2 G2 hKK KK h51
 simp only [List.set_cons_zero, List.set_cons_succ] at S
 refine wpList_step fun K hK => ?_; go_simp; refine hK _ _ ?_; clear hK K
 refine wpList_nil ?_
 go_upto_region 12 with (fail)
 refine rgs 33 [some 53, some 54, some 55, some 56, some 57, some 58, some 59, some 60, some 61, some 62, some 63, some 64, some 65, some 66, some 67, some 68, some 69, some 70, some 71, some 72, some 73, some 74, some 75, some 76, some 77, some 78, some 79, some 80, some 81, some 82, some 83, some 84, some 85] [IsV (.int .i64 0), IsV (.int .i64 0), IsV (.bool false), IsV (.bool false), IsV (.int .i64 0), IsV (.bool false), IsV (.bool false), IsV (.bool false), IsV (.string tq), IsV (.string tq), IsV (.bool false), IsV (.bool false), IsV (.bool false), IsV (.int .i64 0), IsV (.bool false), IsV (.bool false), IsV (.bool false), IsQ (IsI 136 qa.num) (IsI 136 ((qa.den : Int))), IsQ (IsI 8 qa.num) (IsI 8 ((qa.den : Int))), IsV (.bool true), IsV (.bool false), IsV (.bool false), IsV (.bool false), IsV (.int .i64 0), IsV (.int .i64 0), IsV (.bool false), IsV (.bool false), IsV (.bool false), IsQ (IsI 136 cn) (IsI 136 cd), IsQ (IsI 136 cn) (IsI 136 cd), IsV (.bool true), IsV (.bool false), IsV (.bool false)] [] ?_ ?_
 ·refine Rc (mv (Od.lit 8)) ?_
  refine Rc (mv (Od.lit 10)) ?_
  refine Rc (bn (r := .bool false) (Od.loc 0 53) (Od.loc 1 54) (hr := fun w => by go_simp)) ?_
  refine Rc (mv (Od.lc 2 55)) ?_
  refine RcG 3 56 false (mv (Od.lit 8)) ?_
  refine RcG 3 56 false (bn (r := .bool false) (Od.loc 4 57) Od.con (hr := fun w => by go_simp)) ?_
  refine Rc (pk (Od.loc 3 56) (Od.lc 5 58)) ?_
  refine Rc (mv (Od.lc 6 59)) ?_
  refine RcG 7 60 false (mv (Od.lit 7)) ?_
  refine RcG 7 60 false (mv (Od.lit 9)) ?_
  refine RcG 7 60 false (bn (r := .bool false) (Od.loc 8 61) (Od.loc 9 62) (hr := fun w => by go_simp)) ?_
  refine Rc (pk (Od.loc 7 60) (Od.lc 10 63)) ?_
  refine Rc (mv (Od.lc 11 64)) ?_
  refine RcG 12 65 false (mv (Od.lit 12)) ?_
  refine RcG 12 65 false (bn (r := .bool false) (Od.loc 13 66) Od.con (hr := fun w => by go_simp)) ?_
  refine Rc (pk (Od.loc 12 65) (Od.lc 14 67)) ?_
  refine Rc (mv (Od.lc 15 68)) ?_
  refine RcG 16 69 false (ldQ S 5 4 (g11) 0 (Od.lit 11) ld_Rat rfl rfl) ?_
  refine RcG 16 69 false (ldQ S 7 6 (g6) 0 (Od.lit 6) ld_Rat rfl rfl) ?_
  refine RcG 16 69 false (cl2 (en Tryz.func18) (Od.lc (Φ := IsQ (IsI 136 qa.num) (IsI 136 ((qa.den : Int)))) 17 70) (Od.lc (Φ := IsQ (IsI 8 qa.num) (IsI 8 ((qa.den : Int)))) 18 71) (fun x0 x1 w' hE d0 d1 => rqSame_t d0 d1 (by decide) rfl rfl)) ?_
  refine RcG 16 69 false (nt (Od.loc 19 72)) ?_
  refine Rc (pk (Od.loc 16 69) (Od.lc 20 73)) ?_
  refine Rc (mv (Od.lc 21 74)) ?_
  refine RcG 22 75 false (mv (Od.lit 14)) ?_
  refine RcG 22 75 false (mv (Od.lit 16)) ?_
  refine RcG 22 75 false (bn (r := .bool false) (Od.loc 23 76) (Od.loc 24 77) (hr := fun w => by go_simp)) ?_
  refine Rc (pk (Od.loc 22 75) (Od.lc 25 78)) ?_
  refine Rc (mv (Od.lc 26 79)) ?_
  refine RcG 27 80 false (ldQ S 3 2 (g13) 0 (Od.lit 13) ld_Rat rfl rfl) ?_
  refine RcG 27 80 false (ldQ S 1 0 (g15) 0 (Od.lit 15) ld_Rat rfl rfl) ?_
  refine RcG 27 80 false (cl2 (en Tryz.func18) (Od.lc (Φ := IsQ (IsI 136 cn) (IsI 136 cd)) 28 81) (Od.lc (Φ := IsQ (IsI 136 cn) (IsI 136 cd)) 29 82) (fun x0 x1 w' hE d0 d1 => rqSame_t d0 d1 (by decide) rfl rfl)) ?_
  refine RcG 27 80 false (nt (Od.loc 30 83)) ?_
  refine Rc (pk (Od.loc 27 80) (Od.lc 31 84)) ?_
  exact RgAll.nil
 intro v W14 e1 hΦ _
 replace S := S.mono e1
 have v32 : v 32 = .bool false := hΦ 32 (by decide)
 simp only [layL, Act.put, List.setIfInBounds_toArray, List.set_cons_zero, List.set_cons_succ, Nat.reduceAdd]
 rw [v32]
 clear v32 hΦ e1
 refine wpList_nil ?_
 go_upto_region 14 with (fail)
 refine rgs 2 [some 86, some 87] [IsV (.int .i64 0), IsV (.bool false)] [] ?_ ?_
 ·refine Rc (mv (Od.lit 14)) ?_
  refine Rc (bn (r := .bool false) (Od.loc 0 86) Od.con (hr := fun w => by go_simp)) ?_
  exact RgAll.nil
 intro v W15 e1 hΦ _
 replace S := S.mono e1
 have v1 : v 1 = .bool false := hΦ 1 (by decide)
 simp only [layL, Act.put, List.setIfInBounds_toArray, List.set_cons_zero, List.set_cons_succ, Nat.reduceAdd]
 rw [v1]
 clear v1 hΦ e1
 refine wpList_nil ?_
 go_upto_region 16 with (fail)
 refine rgs 7 [some 90, some 91, some 89, some 92, some 93, some 17, some 18] [IsQ (IsI 136 cn) (IsI 136 cd), IsT2 (IsV (.string s2)) (IsV (.int .i64 0)), IsT2 (IsV (.string s2)) (IsV (.int .i64 0)), IsV (.string s2), IsV (.int .i64 0), IsV (.string s2), IsV (.int .i64 0)] [] ?_ ?_
 ·refine Rc (ldQ S 3 2 (g13) 0 (Od.lit 13) ld_Rat rfl rfl) ?_
  refine Rc (cl1 (en Tryz.func14) (Od.lc (Φ := IsQ (IsI 136 cn) (IsI 136 cd)) 0 90) (fun x0 w' hE d0 => qText_u d0 (by decide) (ht.ext (S.ext.trans hE)) _ _ _ HY1.out HY2.out HY3.out HY4.out)) ?_
  refine Rc (mv (Od.lc 1 91)) ?_
  refine Rc (ex (Od.loc 2 89) t20) ?_
  refine Rc (ex (Od.loc 2 89) t21) ?_
  refine Rc (mv (Od.lc 3 92)) ?_
  refine Rc (mv (Od.lc 4 93)) ?_
  exact RgAll.nil
 intro v W16 e1 hΦ _
 replace S := S.mono e1
 have v5 : v 5 = .string s2 := hΦ 5 (by decide)
 have v6 : v 6 = .int .i64 0 := hΦ 6 (by decide)
 simp only [layL, Act.put, List.setIfInBounds_toArray, List.set_cons_zero, List.set_cons_succ, Nat.reduceAdd]
 rw [v5, v6]
 clear v5 v6 hΦ e1
 refine wpList_nil ?_
 go_upto_region 17 with (fail)
 refine rgs 11 [some 94, some 95, some 96, some 97, some 98, some 99, some 100, some 101, some 102, some 103, some 4] [IsV (.int .i64 0), IsV (.bool true), IsV (.bool true), IsV (.string s2), IsV (.string s2), IsV (.bool true), IsV (.bool true), IsV (.bool true), IsV (.bool true), IsV (.bool true), IsV (.bool true)] [] ?_ ?_
 ·refine Rc (mv (Od.lit 18)) ?_
  refine Rc (bn (r := .bool true) (Od.loc 0 94) Od.con (hr := fun w => by go_simp)) ?_
  refine Rc (mv (Od.lc 1 95)) ?_
  refine RcG 2 96 true (mv (Od.lit 17)) ?_
  refine RcG 2 96 true (mv (Od.lit 1)) ?_
  refine RcG 2 96 true (bn (r := .bool true) (Od.loc 3 97) (Od.loc 4 98) (hr := fun w => by go_simp)) ?_
  refine Rc (pk (Od.loc 2 96) (Od.lc 5 99)) ?_
  refine Rc (mv (Od.lc 6 100)) ?_
  refine RcG 7 101 true (mv (Od.lit 5)) ?_
  refine Rc (pk (Od.loc 7 101) (Od.lc 8 102)) ?_
  refine Rc (mv (Od.lc 9 103)) ?_
  exact RgAll.nil
 intro v W17 e1 hΦ _
 replace S := S.mono e1
 have v10 : v 10 = .bool true := hΦ 10 (by decide)
 simp only [layL, Act.put, List.setIfInBounds_toArray, List.set_cons_zero, List.set_cons_succ, Nat.reduceAdd]
 rw [v10]
 clear v10 hΦ e1
 refine wpList_nil ?_
 go_wp2_with fail
 exact bodyPost_ret (v := .bool true) (by simp [results, Tryz.results3, go_sem]) rfl (⟨_, rfl, S.ext, rfl⟩)

theorem QTexts_c (w : World) (s1x s1y : Bool) (a1x a1y : Option Addr) (n1x n1y c1x c1y : Nat) (x1n x1d : List Nat) (s2 : ByteArray) (h1x : Wd w a1x n1x c1x x1n) (h1y : Wd w a1y n1y c1y x1d) (ht : Tab w) :
  Calls Tryz.prog 3 #[.agg #[.bool s1x, .slice a1x n1x c1x, .bool s1y, .slice a1y n1y c1y], .string s2] w (Ret w (IsV (.bool true))) := by
 by_cases hl : 3000 < s2.size
 ·exact QTexts_l w s1x s1y a1x a1y n1x n1y c1x c1y x1n x1d s2 h1x h1y ht (hid (decide_eq_true (by omega)))
 ·have hln : decide ((3000 : Int) < (s2.size : Int)) = false := decide_eq_false (by omega)
  obtain ⟨z1, z2⟩ := made_small s1x s1y x1n x1d h1x.lt h1y.lt
  obtain ⟨tn, td, tq, e1, e2, e3, e4, e5⟩ := text_round (madeQ s1x s1y x1n x1d 6) z1 z2
  by_cases he : rparE s2.data.toList = 0
  ·obtain ⟨un, ud, f1, f2, f3, f4⟩ := text_back s2 he
   exact QTexts_k w s1x s1y a1x a1y n1x n1y c1x c1y x1n x1d s2 h1x h1y ht _ tn td tq _ _ (hid hln) (hid rfl) (hid e1) (hid e2) (hid e3) (hid e4) (hid e5) (hid ⟨rfl, rfl, he⟩) un ud (hid f1) (hid f2) (hid f3) (hid f4)
  ·exact QTexts_e w s1x s1y a1x a1y n1x n1y c1x c1y x1n x1d s2 h1x h1y ht _ tn td tq _ _ (hid hln) (hid rfl) (hid e1) (hid e2) (hid e3) (hid e4) (hid e5) _ (hid ⟨rfl, rfl, rfl⟩) (hid (by simpa using he))
end Go.Proofs.YtcgdkfadcglekaaGreatDoor
namespace Go.Proofs.YtcgdkfadcglekaaGreatDoor
open Go Go.RowKit Go.ChangeShapes Go.WideShapes Go.ChangeAt

set_option maxRecDepth 100000 in
theorem rationalTexts_lifted (os : Os) (started : os.Started) (H : Type) (enc : TypeId × Value → H) :
  ReturnsInHanded {} Tryz.checked os 3 .any (fun w args => (Rows.rationalTextsSpec.pre enc Tryz.prog Tryz.f3 [] false w args ∧ laidMetH Tryz.prog laid3 w) ∧ sizedMet enc Tryz.prog Tryz.f3 (OpenSpec.ofChange Rows.rationalTextsSpec) false w args)
   (Rows.rationalTextsSpec.post enc Tryz.prog Tryz.f3 false true false false) := by
 refine returnsInHanded_of_change_and (C := Tryz.checked) (X := fun w _ => laidMetH Tryz.prog laid3 w) (fun _ _ _ hh h => h.of_heap hh) own started (by kernel_rfl) Tryz.func3
  (ChangeSpec.witness_shaped (enc := enc) (C := Tryz.checked) (os := os) (X := fun w _ => laidMetH Tryz.prog laid3 w) false (World.doorLaid Tryz.prog 2000 os) #[.agg #[.bool false, .slice none 0 0, .bool false, .slice none 0 0], .string ⟨#[]⟩] 8 rfl (World.shaped_of_RefB (by kernel_rfl) (by kernel_rfl)) (by kernel_rfl) (by kernel_rfl) (by kernel_rfl) (door_met os _)) ?_
 intro W base args ds gs before hval0 hW _ _ hL _
 have hval : ∀ (j : Nat) t v, Tryz.f3.params[j]? = some t → args[j]? = some v → Value.okWide Tryz.prog W .any base t v := hval0
 have hW' := hW
 obtain ⟨p, q, hA0, hV, rfl, hfz, hnd⟩ := hW
 have hA : DataW.TrodAll enc Tryz.prog W 0 (fun _ => true) true Tryz.f3.params.toList args.toList ds p := hA0
 rw [Tryz.params3] at hA hval
 obtain ⟨v1, v2, d1, d2, p1, p2, rfl, rfl, rfl, k1, k2⟩ := trodAll_two hA
 obtain ⟨rfl, rfl⟩ := trodVars_none hV
 obtain ⟨s1x, a1x, n1x, c1x, x1n, s1y, a1y, n1y, c1y, x1d, rfl, w1x, w1y, r1⟩ := rawq_open (hval 0 26 v1 rfl rfl) k1
 obtain ⟨s2, rfl, rfl, rfl, hw2⟩ := Go.ChangeMaps.open_string Tryz.underlying9 (hval 1 9 v2 rfl rfl) k2
 clear hA0 hval0
 refine (QTexts_c W s1x s1y a1x a1y n1x n1y c1x c1y x1n x1d s2 w1x w1y (tab_of_laid hL)).mono fun e W' ⟨x, he, hb, hx⟩ => ?_
 have hx : x = .bool true := hx
 subst he; subst hx
 refine ⟨_, rfl, post_of_below (pa := p1 ++ []) (pv := []) hW' (fun _ _ _ => trodAll_mk1 (shut_bool Tryz.underlying4 true)) (fun sp hsp => ?_) (fun _ _ => rfl) (by simp) hb (ok_one (by kernel_rfl) rfl (okWide_bool_mk Tryz.underlying4 _))⟩
 rw [Tryz.params3]
 exact trodAll_mk2 (r1 W' sp hb fun q hq => hsp q (by simp [hq])) (Go.ChangeMaps.shut_string Tryz.underlying9 hw2)

theorem rationalTexts_row : Rows.RationalTextsSaid :=
 OpenClaim.holds_of_wide 3 Tryz.f3 rfl rfl rfl rfl rfl rfl rfl ⟨rfl, rfl, rfl, rfl, rfl⟩ rfl rfl rfl rfl rfl (by kernel_rfl) Tryz.func3 (by kernel_rfl)
  (of_decide_eq_true (by kernel_rfl)) (by unfold Func.isWrapper; first | (rw [if_pos (by decide +kernel)]; kernel_rfl) | (rw [if_neg (by decide +kernel)]; exact ⟨rfl, rfl⟩))
  (fun os started H enc _ => rationalTexts_lifted os started H enc)

set_option maxRecDepth 100000 in
/-- The tied card. -/
theorem rationalTexts_holds : Rows.RationalTextsCardSaid :=
 Claim7.holds_tied_plain_at .later [] [.data, .data, .data] true Rows.rationalTextsCard.stood.harness false
  rationalTexts_row (fun _ h => by cases h) (by kernel_rfl) (fun _ h => by cases h) rationalTexts_row_tie rfl ⟨rfl, rfl⟩ (by kernel_rfl) rfl
  (fun f fn hf hfn => by
   obtain rfl : f = 3 := Option.some.inj ((show Tryz.prog.funcNamed "algorist/algoristlaw02.RationalTexts" = some 3 by kernel_rfl).symm.trans hf) |>.symm
   obtain rfl : fn = Tryz.f3 := (Option.some.inj (Tryz.func3.symm.trans hfn)).symm
   refine ⟨by kernel_rfl, fun j t ht => ?_⟩
   rw [Tryz.params3] at ht
   have h3 : t = 26 ∨ t = 9 := by
    rcases j with _ | _ | j
    ·left; simpa using ht.symm
    ·right; simpa using ht.symm
    ·simp at ht
   rcases h3 with rfl | rfl
   ·exact (show Tryz.prog.wantsStandIn 26 = false by kernel_rfl)
   ·exact (show Tryz.prog.wantsStandIn 9 = false by kernel_rfl))
  (by kernel_rfl)
#print axioms rationalTexts_holds
end Go.Proofs.YtcgdkfadcglekaaGreatDoor
