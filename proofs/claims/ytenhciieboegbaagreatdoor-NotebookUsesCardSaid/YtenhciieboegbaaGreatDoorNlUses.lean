/-
  The laws' Has and replaced: a name looked for in a row; a cell's name replaced by five in an expression.
  The law's replaced: a cell's name replaced by five in an expression.
  Plain facts of the names that an expression uses: each once, in order; what a replacement does to them.
  The law NotebookUses at every input. (Printed by wip/gen/nul.py.)
  The statement NotebookUses: for every argument the law answers true, and the arguments read behind the call as they read before. The listed package variables hold what the program's text lays (the card ties them). (Printed by wip/gen/nlaw.py.)
-/
import Derived.Test.YtenhciieboegbaaGreatDoorNro
import Derived.Test.YtenhciieboegbaaGreatDoorNfi
import Derived.Test.YtenhciieboegbaaGreatDoorNsn
import Derived.Test.YtenhciieboegbaaGreatDoorNrr
import Derived.Test.YtenhciieboegbaaGreatDoorNcUses
import Derived.Test.YtenhciieboegbaaGreatDoorTie
import Derived.Test.YtenhciieboegbaaGreatDoorCards
import Derived.Lay
import Derived.LaidOnce
import Derived.SevenTiedAt
namespace Go.Proofs.YtenhciieboegbaaGreatDoor
open Go Go.RowKit Go.Maps
section
variable {P : Program} {ops : Array Oper} {Q : Exit → Act → World → Prop} {ds : List (Option Tmp)} {a0 : Act} {w0 : World} {L : List (Value → World → Prop)} {boxes : List Nat} {i k : Nat} {o : Oper} {os : List Oper}
theorem pkO {c y : Operand} {b b2 r : Bool} (hc : Od ops ds a0 w0 L i c (IsV (.bool b))) (hy : b = false → Od ops ds a0 w0 L i y (IsV (.bool b2))) (hr : (b || b2) = r) (ho : o.op = .pick c (.const (.bool true)) y := by rfl) (hi : L.getD i (fun _ _ => True) = IsV (.bool r) := by kernel_rfl) (hb : boxes.contains i = false := by kernel_rfl) : Ok P ops Q ds a0 w0 L boxes i o :=
  Ok.of hb fun v a w hE hd hf => by
    have h1 : a.eval c = .bool b := hc.out v a w hE hd hf
    refine ⟨.bool r, ?_, by rw [hi]; exact rfl⟩
    unfold execOp
    rw [ho]
    dsimp only
    rw [h1]
    cases b
    · have h2 : a.eval y = .bool b2 := (hy rfl).out v a w hE hd hf
      rw [h2]
      subst hr; simp [asBool]
    · subst hr; simp [asBool]; rfl
end
section
set_option maxRecDepth 100000
set_option maxHeartbeats 8000000
theorem Has_f {l : Sc} {s : List UInt8} {u : Value} {w : World} (hu : IsSr l u w) (hl : l.length ≤ 1000000000) : Calls Tryz.prog 26 #[u, encS s] w (Ret w (IsV (.bool (decide (s ∈ l))))) := by
  obtain ⟨n, hn⟩ : ∃ n, l.length = n := ⟨_, rfl⟩
  obtain ⟨ao, cp, rfl, h63, hP⟩ := hu
  have HN := hid (And.intro hn hl)
  have HP := hid hP
  obtain ⟨sb, hsb⟩ : ∃ y : ByteArray, (⟨s.toArray⟩ : ByteArray) = y := ⟨_, rfl⟩
  have HSB := hid hsb
  rw [hn, encS, hsb]
  clear hn hl hP h63 hsb
  go_enter Tryz.func26, Tryz.ntmps26
  go_wp2_with fail
  go_loopg [5] n (fun gk v5 wr => ∃ i : Nat, v5 = .int .i64 ((i : Nat) : Int) ∧ i + gk = n ∧ Hid (Ext w wr ∧ s ∉ l.take i))
  case atStart => exact ⟨0, rfl, by omega, hid ⟨Ext.refl _, by simp⟩⟩
  case round =>
    obtain ⟨i, rfl, hg, S⟩ := hrel
    by_cases hi2 : i < n
    · have hil : (i : Int) < (n : Int) := by omega
      have hiw : IntKind.i64.wrap ((i : Int) + 1) = ((i + 1 : Nat) : Int) := by have := HN.out; simp only [IntKind.wrap_i64]; omega
      obtain ⟨y, hy⟩ : ∃ y, l[i]? = some y := ⟨_, List.getElem?_eq_getElem (by rw [HN.out.1]; exact hi2)⟩
      obtain ⟨g, o, rfl, hc⟩ := HP.out (fun e => by rw [e] at hy; cases hy)
      obtain ⟨sc, hsc⟩ : ∃ y', (⟨y.toArray⟩ : ByteArray) = y' := ⟨_, rfl⟩
      have c0 : World.cell? wr ⟨g, o + i, none⟩ = some (.string sc) := by rw [← hsc]; exact S.out.1.cell (hc i _ hy)
      have HG := hid (And.intro hg (And.intro hi2 hy))
      have HSC := hid hsc
      by_cases e : y = s
      · subst e
        obtain rfl : sb = sc := HSB.out.symm.trans hsc
        have HM := hid (show y ∈ l from List.mem_of_getElem? hy)
        clear hg hi2 hy hsc hc
        go_wp2_with fail
        go_ret
        exact ⟨_, rfl, S.out.1, by rw [decide_eq_true HM.out]; rfl⟩
      · have hne : ¬ sc.toList = sb.toList := fun h => e (by
          have h9 := seq_eq y s
          rw [hsc, HSB.out] at h9
          rw [h] at h9
          simpa using h9.symm)
        have hnb : (sc.toList == sb.toList) = false := by simpa using hne
        have HNE := hid e
        clear hg hi2 hy hsc hc e
        go_wp2_with fail
        go_roundg (gk - 1)
        case measure => have := HG.out; omega
        case rel => exact ⟨i + 1, rfl, by have := HG.out; omega, hid ⟨S.out.1, by rw [List.take_add_one, HG.out.2.2]; intro hm; rcases List.mem_append.1 hm with h | h; exact S.out.2 h; exact HNE.out (show s = y by simpa using h).symm⟩⟩
    · have hil : ¬ ((i : Int) < (n : Int)) := by omega
      have HM := hid (show s ∉ l by have h := S.out.2; rwa [List.take_of_length_le (by rw [HN.out.1]; omega)] at h)
      go_wp2_with fail
      go_ret
      exact ⟨_, rfl, S.out.1, by rw [decide_eq_false HM.out]; rfl⟩
end
end Go.Proofs.YtenhciieboegbaaGreatDoor
namespace Go.Proofs.YtenhciieboegbaaGreatDoor
open Go Go.RowKit Go.Maps
/-- Expressions with few parts. -/
inductive PsB : Nd → Prop
  | mk {op : Int} {nm : List UInt8} {n v lo hi : Int} {ps : List Nd} : ps.length ≤ 2 → (∀ a ∈ ps, PsB a) → PsB ⟨op, nm, n, v, lo, hi, ps⟩
theorem PsB.tr {d : Nat} {b : Sc} {x : Nd} (h : Tr d b x) : PsB x := by
  induction h with
  | num => exact .mk (by decide) (fun a h => by simp at h)
  | cell => exact .mk (by decide) (fun a h => by simp at h)
  | var => exact .mk (by decide) (fun a h => by simp at h)
  | val => exact .mk (by decide) (fun a h => by simp at h)
  | valh => exact .mk (by decide) (fun a h => by simp at h)
  | loop _ _ _ _ _ _ _ ih => exact .mk (Nat.le_succ 1) (fun a h => by rw [List.mem_singleton.1 h]; exact ih)
  | bin _ _ _ i j => exact .mk (Nat.le_refl 2) (fun a h => by rcases List.mem_cons.1 h with rfl | h; exact i; rw [List.mem_singleton.1 h]; exact j)
theorem RwN.zero (w : World) : RwK 32 8 w.heap.size [] (.slice (some ⟨w.heap.size, 0, none⟩) 0 0) (w.alloc (.cells #[] 32)) := by
  refine ⟨⟨by simp, .inr ⟨w.heap.size, 0, #[], rfl, Nat.le_refl _, World.alloc_heap_new _ _, ?_, ?_, ?_, ?_⟩⟩, fun g cs e fz h ho => ?_⟩
  · simp
  · simp
  · simp
  · simp
  · obtain rfl : w.heap.size = g := by injection h
    rw [World.alloc_heap_new] at ho
    cases ho
    intro u hu
    simp at hu
/-- Expressions and their values; their parts do not lie in a block. -/
def NsR (B : Nat) (o : Option Nat) (w : World) (l : List Nd) (M : List (List Value)) : Prop := M.length = l.length ∧ ∀ (i : Nat) (c : Nd), l[i]? = some c → ∃ us : List Value, M[i]? = some us ∧ NdI o B w c us
theorem NsR.kc {B : Nat} {o : Option Nat} {w w' : World} {l : List Nd} {M : List (List Value)} (h : NsR B o w l M) (K : Kc B w w') : NsR B o w' l M := ⟨h.1, fun i c hi => let ⟨us, h1, h2⟩ := h.2 i c hi; ⟨us, h1, h2.kc K⟩⟩
theorem NsR.grown {B : Nat} {o o' : Option Nat} {w w' : World} {l : List Nd} {M : List (List Value)} (h : NsR B o w l M) (hg : w.grownBy w' o) (gr : Gr w w') (ho : o' = o ∨ o' = some w.heap.size) : NsR B o' w' l M := ⟨h.1, fun i c hi => let ⟨us, h1, h2⟩ := h.2 i c hi; ⟨us, h1, h2.grown hg gr ho⟩⟩
theorem NsR.nil (B : Nat) (o : Option Nat) (w : World) : NsR B o w [] [] := ⟨rfl, fun i c h => by simp at h⟩
theorem NsR.snoc {B : Nat} {o : Option Nat} {w : World} {l : List Nd} {M : List (List Value)} (h : NsR B o w l M) {c : Nd} {us : List Value} (hn : NdI o B w c us) : NsR B o w (l ++ [c]) (M ++ [us]) := by
  refine ⟨by simp [h.1], fun i d hi => ?_⟩
  rcases Nat.lt_or_ge i l.length with hl | hl
  · rw [List.getElem?_append_left hl] at hi
    obtain ⟨us', h1, h2⟩ := h.2 i d hi
    exact ⟨us', by rw [List.getElem?_append_left (by rw [h.1]; exact hl)]; exact h1, h2⟩
  · rw [List.getElem?_append_right hl] at hi
    have hi0 : i - l.length = 0 := by
      rcases Nat.eq_zero_or_pos (i - l.length) with h | h
      · exact h
      · rw [List.getElem?_eq_none (by simp; omega)] at hi; cases hi
    rw [hi0] at hi
    obtain rfl : c = d := by simpa using hi
    exact ⟨us, by rw [List.getElem?_append_right (by rw [h.1]; exact hl), h.1, hi0]; rfl, hn⟩
/-- The row is a row of expressions. -/
theorem NsR.is {B base : Nat} {o : Option Nat} {w : World} {l : List Nd} {M : List (List Value)} {v : Value} (h : NsR B o w l M) (hr : RwK 32 8 base M v w) : ∃ ao cap, v = .slice ao l.length cap ∧ l.length ≤ cap ∧ cap ≤ 9223372036854775807 ∧ (l ≠ [] → ∃ g, ao = some ⟨g, 0, none⟩ ∧ base ≤ g ∧ NdR B w l g 0) := by
  obtain ⟨ao, cap, rfl, h2, h3, h4⟩ := hr.at (k := 8) (fun us hu => by
    obtain ⟨i, hi⟩ := List.getElem?_of_mem hu
    have hl : i < l.length := by rw [← h.1]; exact (List.getElem?_eq_some_iff.1 hi).1
    obtain ⟨us', h1, h2⟩ := h.2 i l[i] (List.getElem?_eq_getElem hl)
    rw [hi] at h1
    cases h1
    exact h2.nd.len)
  refine ⟨ao, cap, by rw [h.1], by rw [← h.1]; exact h2, h3, fun hne => ?_⟩
  obtain ⟨g, q1, q2, q3, q4⟩ := h4 (fun e => hne (List.length_eq_zero_iff.1 (by rw [← h.1, e]; rfl)))
  refine ⟨g, q1, q2, NdR.of fun i x hi => ?_⟩
  obtain ⟨us, r1, r2⟩ := h.2 i x hi
  exact ⟨us, r2.nd.len, fun j u hj => by rw [Nat.zero_add]; exact q4 i _ r1 j u hj, r2.nd⟩
/-- A row that holds one new expression. -/
def IsNdS (B : Nat) (x : Nd) : Value → World → Prop := fun v w => ∃ us p, v = .slice (some ⟨p, 0, none⟩) 1 1 ∧ SrcR 1 us v w ∧ NdC B w x us
theorem IsNdS.stb (B : Nat) (x : Nd) : Stb (IsNdS B x) := fun _ _ _ e ⟨us, p, h1, h2, h3⟩ => ⟨us, p, h1, h2.ext e, h3.ext e⟩
theorem bsN_run {us : List Value} (hu : us.length = 8) (h1 : us.all (fun u => u.oneCell') = true) (w : World) : (Instr.buildSlice 30 1 #[(0, .agg us.toArray)]).run Tryz.prog w = .ok (.slice (some ⟨w.heap.size, 0, none⟩) 1 1) (w.alloc (.cells us.toArray 32)) := by
  match us, hu with
  | [u0, u1, u2, u3, u4, u5, u6, u7], _ =>
    simp only [List.all_cons, List.all_nil, Bool.and_true, Bool.and_eq_true] at h1
    go_simp
section
variable {ops : Array Oper} {Q : Exit → Act → World → Prop} {ds : List (Option Tmp)} {a0 : Act} {w0 : World} {L : List (Value → World → Prop)} {boxes : List Nat} {i k : Nat} {o : Oper} {os : List Oper}
theorem bsNdS {B : Nat} {y : Nd} {x : Operand} (hx : Od ops ds a0 w0 L i x (IsNd B y)) (ho : o.op = .buildSlice 30 1 #[(0, x)] := by rfl) (hi : L.getD i (fun _ _ => True) = IsNdS B y := by kernel_rfl) (hb : boxes.contains i = false := by kernel_rfl) : Ok Tryz.prog ops Q ds a0 w0 L boxes i o :=
  ⟨fun v a w hE hd hf K hK => by
    obtain ⟨us, h1, h2⟩ := hx.out v a w hE hd hf
    have hrun : (execOp a.eval o).run Tryz.prog w = .ok (.value (.slice (some ⟨w.heap.size, 0, none⟩) 1 1)) (w.alloc (.cells us.toArray 32)) := by
      unfold execOp
      rw [ho]
      dsimp only
      simp only [List.map_toArray, List.map_cons, List.map_nil]
      rw [h1]
      simp [bsN_run h2.len h2.nw.2 w]
    unfold Oper.wp
    rw [hrun]
    refine hK.out _ _ ((Ext.refl _).alloc _) ?_ (FreshIf.no hb)
    rw [hi]
    exact ⟨us, _, rfl, by simpa using SrcR.new w us.toArray 32 1 1, h2.ext ((Ext.refl _).alloc _)⟩⟩
end
structure RpW (W : World) (l : List Nd) (M : List (List Value)) (lv : Value) (X : World) : Prop where
  e : Ext W X
  rw : RwK 32 8 W.heap.size M lv X
  nr : NsR W.heap.size lv.ownBlock X l M
section
set_option maxRecDepth 100000
set_option maxHeartbeats 16000000
theorem replaced_f {s : List UInt8} : ∀ (x : Nd) (B : Nat) (us : List Value) (w : World), PsB x → NdC B w x us → Calls Tryz.prog 24 #[.agg us.toArray, encS s] w (Ret w (IsNd w.heap.size (rpN s x))) := Nd.ind fun op nm n v lo hi ps IH => by
  intro B us w hB hx
  obtain ⟨hlen, hBs⟩ : ps.length ≤ 2 ∧ ∀ a ∈ ps, PsB a := by cases hB with | mk h1 h2 => exact ⟨h1, h2⟩
  have HIH := hid IH
  have HX0 := hid hx
  obtain ⟨sg, a, m, c, ao, cp, rfl, hI, hlp, hcp, hP⟩ := hx.out
  simp only [Nd.op, Nd.nm, Nd.n, Nd.v, Nd.lo, Nd.hi, Nd.ps] at *
  obtain ⟨W, hW, E, B2, B3⟩ := nd_two_blocks w [.int .i64 op, encS nm, .int .i64 n, .bool sg, .slice a m c, .int .i64 lo, .int .i64 hi, .slice ao ps.length cp] [.int .i64 0, .string ⟨#[]⟩, .int .i64 0, .bool false, .slice none 0 0, .int .i64 0, .int .i64 0, .slice none 0 0]
  have hWs : W.heap.size = w.heap.size + 2 := by rw [hW]; simp
  obtain ⟨l, hl⟩ : ∃ l, ps.length = l := ⟨_, rfl⟩
  obtain ⟨sb, hsb⟩ : ∃ y, (⟨nm.toArray⟩ : ByteArray) = y := ⟨_, rfl⟩
  obtain ⟨sc, hsc⟩ : ∃ y, (⟨s.toArray⟩ : ByteArray) = y := ⟨_, rfl⟩
  have hse : encS nm = .string sb := by rw [encS, hsb]
  have hse' : encS s = .string sc := by rw [encS, hsc]
  simp only [hse, hse', hl] at hW B2 B3 ⊢
  have HL := hid (And.intro (And.intro hl hlen) (And.intro hlp hcp))
  have HP := hid (And.intro hP hBs)
  have HSB := hid (And.intro hsb hsc)
  have HE := hid E
  have HB2 := hid B2
  have HB3 := hid B3
  have HWS := hid hWs
  have g0 := B2.c 0 _ rfl; have g1 := B2.c 1 _ rfl; have g7 := B2.c 7 _ rfl
  have hcase : (op = 2 ∧ nm = s) ∨ ¬ (op = 2 ∧ nm = s) := Classical.em _
  clear IH hx hB hBs hlen hI hlp hcp hP hl hsb hsc hse hse' E B2 B3 hWs
  go_enter Tryz.func24, Tryz.ntmps24
  go_upto_region 1 with (fail)
  try simp only [Nat.add_zero]
  rw [← hW]
  clear hW
  rcases hcase with ⟨rfl, rfl⟩ | hno
  · obtain rfl : sb = sc := HSB.out.1.symm.trans HSB.out.2
    go_upto_region 2 with (fail)
    clear g0 g1 g7
    refine rgs 2 [some 16, some 17] [IsI 2 5, NeL W.heap.size (.num 5)] [] ?_ ?_ (hst := by repeat' (first | exact trivial | exact IsI.stb _ _ | exact NeL.stb _ _ | apply And.intro))
    · refine Rc (cl1 (Φ := IsV (.int .i64 5)) (Χ := IsI 2 5) (en Tryz.func31) Od.con (fun x0 w' hE d0 => by { obtain rfl : x0 = .int .i64 5 := d0; exact ROf_f w' 5 (by decide) (by decide) })) ?_
      refine Rc (bdNum (B := W.heap.size) (Od.lc (Φ := IsI 2 5) 0 16)) ?_
      exact RgAll.nil
    intro u X1 e1 hΦ _
    obtain ⟨us, hv, hl, hone, hnw, hnd⟩ := hΦ 1 (by decide)
    simp only [layL, Act.put, List.setIfInBounds_toArray, List.set_cons_zero, List.set_cons_succ, Nat.reduceAdd]
    rw [hv]
    clear hΦ hv
    refine stL (fun K hK => ?_)
    refine stVO (us := us) (HB3.out.ext e1) st_Nd rfl hl nwZN (fun W9 B9 O => hK _ _ ?_) (ho1 := hone)
    have E9 := O.ext (HE.out.trans e1) (Nat.le_succ _)
    have hr : rpN nm (.mk 2 nm n v lo hi ps) = five := by rw [rpN, if_pos ⟨rfl, rfl⟩]
    have hnd9 : NdC w.heap.size W9 five us := (NdL.only hnd O (by have := HWS.out; omega)).low (by have := HWS.out; omega)
    clear hK K O e1
    refine wpList_nil ?_
    go_wp2_with fail
    exact bodyPost_ret (resC Tryz.results24 rfl (lvM (by kernel_rfl) (by kernel_rfl) hl B9)) rfl ⟨_, rfl, E9, us, rfl, by rw [hr]; exact hnd9⟩
  · have hcc : (¬ op = 2) ∨ (op = 2 ∧ ¬ nm = s) := by
      by_cases h : op = 2
      · exact .inr ⟨h, fun e => hno ⟨h, e⟩⟩
      · exact .inl h
    clear hno
    rcases hcc with h2 | ⟨rfl, h2⟩
    · have h3 : (op == 2) = false := by simpa using h2
      go_upto_region 3 with (fail)
      have HN2 := hid h2
      clear h2 h3
      obtain ⟨W2, hW2, S0⟩ : ∃ W2, W2 = W.alloc (.cells #[] 32) ∧ RpW W [] [] (.slice (some ⟨W.heap.size, 0, none⟩) 0 0) W2 := ⟨_, rfl, (Ext.refl W).alloc _, RwN.zero W, NsR.nil _ _ _⟩
      have HS0 := hid S0
      clear S0
      go_wp2_with fail
      rw [← hW2]
      clear hW2 g0 g1 g7
      go_loopg [5, 6] l (fun gk v5 v6 wr => ∃ i : Nat, v6 = .int .i64 ((i : Nat) : Int) ∧ i + gk = l ∧ Hid (∃ M, RpW W (rpL s (ps.take i)) M v5 wr))
      case atStart => exact ⟨0, rfl, by omega, hid ⟨[], by rw [List.take_zero, rpL]; exact HS0.out⟩⟩
      case round =>
        obtain ⟨i, rfl, hg, S⟩ := hrel
        obtain ⟨M, hS⟩ := S.out
        have HS := hid hS
        clear S hS
        have c7 : World.cell? wr ⟨w.heap.size, 7, none⟩ = some (.slice ao l cp) := (HB2.out.ext HS.out.e).c 7 _ rfl
        by_cases hi2 : i < l
        · have hil : (i : Int) < (l : Int) := by omega
          have hiw : IntKind.i64.wrap ((i : Int) + 1) = ((i + 1 : Nat) : Int) := by have := HL.out.1; simp only [IntKind.wrap_i64]; omega
          obtain ⟨y, hy⟩ : ∃ y, ps[i]? = some y := ⟨_, List.getElem?_eq_getElem (by rw [HL.out.1.1]; exact hi2)⟩
          obtain ⟨g, o, rfl, -, hR⟩ := HP.out.1 (fun e => by rw [e] at hy; cases hy)
          obtain ⟨us, hl8, hcs, hy2⟩ := hR.get hy
          have HG := hid (And.intro hg (And.intro hi2 hy))
          have HC := hid (And.intro hl8 (And.intro hcs hy2))
          have HCC := hid (HIH.out y (List.mem_of_getElem? hy) B us)
          have HPY := hid (HP.out.2 y (List.mem_of_getElem? hy))
          have HEX := hid (HE.out.trans HS.out.e)
          clear hg hi2 hy hR hl8 hcs hy2
          go_upto_region 7 with (fail)
          clear c7
          refine rgs 9 [some 26, some 27, some 28, some 29, some 30, some 31, some 32, some 33, some 34] [IsV u5, IsV (.pointer (some ⟨w.heap.size, 7, none⟩)), IsV (.slice (some ⟨g, o, none⟩) l cp), IsV (.int .i64 ((i : Nat) : Int)), IsV (.pointer (some ⟨g, o + 8 * i, none⟩)), IsV (.agg us.toArray), IsV (.string sc), IsNd wr.heap.size (rpN s y), IsNdS wr.heap.size (rpN s y)] [] ?_ ?_ (hst := by repeat' (first | exact trivial | exact IsV.stb _ | exact IsNd.stb _ _ | exact IsNdS.stb _ _ | apply And.intro))
          · refine Rc (mv (Od.lit 5)) ?_
            refine Rc (fa (fa_Nd6 w.heap.size) (Od.lit 2)) ?_
            refine Rc (lvC 7 (HB2.out.ext HS.out.e) ld_Nds (Od.lc 1 27)) ?_
            refine Rc (mv (Od.lit (x := .int .i64 ((i : Nat) : Int)) 6)) ?_
            refine Rc (ixq (ix_Nd g o cp l i HG.out.2.1) (Od.lc 2 28) (Od.lc (Φ := IsV (.int .i64 ((i : Nat) : Int))) 3 29)) ?_
            refine Rc (lv (Φ := IsV (.agg us.toArray)) _ (fun w' e => ldM (by kernel_rfl) (by kernel_rfl) HC.out.1 (fun j v hj => (HEX.out.trans e).cell (HC.out.2.1 j v hj))) (Od.lc 4 30) (fun _ _ => rfl)) ?_
            refine Rc (mv (Od.lit 1)) ?_
            refine Rc (cl2 (Φ := IsV (.agg us.toArray)) (Ψ := IsV (.string sc)) (Χ := IsNd wr.heap.size (rpN s y)) (en Tryz.func24) (Od.lc 5 31) (Od.lc 6 32) (fun x0 y0 w' hE d0 d1 => by { obtain rfl : x0 = .agg us.toArray := d0; obtain rfl : y0 = .string sc := d1; have h := HCC.out w' HPY.out (HC.out.2.2.ext (HEX.out.trans hE)); rw [encS, HSB.out.2] at h; exact Calls.mono h (fun e w3 hq => by { obtain ⟨r, q1, q2, q3⟩ := hq; exact ⟨r, q1, q2, q3.low hE.size⟩ }) })) ?_
            refine Rc (bsNdS (Od.lc (Φ := IsNd wr.heap.size (rpN s y)) 7 33)) ?_
            exact RgAll.nil
          intro x X4 e4 hΦ _
          obtain ⟨vs, p, hxv, hsr, hnd⟩ := hΦ 8 (by decide)
          simp only [layL, Act.put, List.setIfInBounds_toArray, List.set_cons_zero, List.set_cons_succ, Nat.reduceAdd]
          rw [show x 0 = u5 from hΦ 0 (by decide), hxv]
          rw [hxv] at hsr
          clear hΦ hxv
          have E4 := HS.out.e.trans e4
          have HNO : ∀ g, u5.ownBlock = some g → W.heap.size ≤ g ∧ g < wr.heap.size := World.ownsRow.lt HS.out.rw.1
          have HRW := HS.out.rw.ext e4
          have HNR := HS.out.nr.kc (Kc.ext e4)
          have hml : M.length ≤ 1000000 := by
            have h1 := HS.out.nr.1
            have h2 := HL.out.1
            rw [rpL_map, List.length_map, List.length_take] at h1
            omega
          refine stL (fun K hK => wp_ndo 35 (.tmp 26) (.tmp 34) rfl W.heap.size M vs u5 (.slice (some ⟨p, 0, none⟩) 1 1) rfl rfl HRW ⟨hnd.len, hnd.nw.1, hnd.nw.2⟩ hsr hml E4.size (fun v8 X8 q1 q2 q3 q4 => hK _ _ ?_))
          have HY8 : NdI v8.ownBlock W.heap.size X8 (rpN s y) vs := (NdI.of hnd HS.out.e.size (fun g e => (HNO g e).2)).grown q2 q3 q4
          have HNR8 := (HNR.grown q2 q3 q4).snoc HY8
          have HE8 : Ext W X8 := Below.grown E4 q2 E4.size (fun k hk => (HNO _ hk).1)
          have HT8 : rpL s (ps.take (i + 1)) = rpL s (ps.take i) ++ [rpN s y] := by rw [rpL_map, rpL_map, List.take_add_one, HG.out.2.2, List.map_append]; rfl
          have HS8 := hid (show RpW W (rpL s (ps.take (i + 1))) (M ++ [vs]) v8 X8 from ⟨HE8, q1, by rw [HT8]; exact HNR8⟩)
          clear hsr hnd E4 HNO HRW HNR q1 q2 q3 q4 HY8 HNR8 HE8 HT8 hK K e4 HS hml
          try go_simp
          refine stL (fun K hK => wp_mv (hK _ _ ?_))
          clear hK K
          try go_simp
          refine wpList_nil ?_
          go_wp2_with fail
          go_roundg (gk - 1)
          case measure => have := HG.out; omega
          case rel => exact ⟨i + 1, rfl, by have := HG.out; omega, hid ⟨_, HS8.out⟩⟩
        · have hil : ¬ (i : Int) < (l : Int) := by omega
          have htk : ps.take i = ps := List.take_of_length_le (by rw [HL.out.1.1]; omega)
          rw [htk] at HS
          obtain ⟨ao2, cap2, rfl, k1, k2, k3⟩ := HS.out.nr.is HS.out.rw
          have hlr : (rpL s ps).length = l := by rw [rpL_map, List.length_map, HL.out.1.1]
          have hnd : NdC W.heap.size wr (rpN s (.mk op nm n v lo hi ps)) [.int .i64 op, .string sb, .int .i64 n, .bool sg, .slice a m c, .int .i64 lo, .int .i64 hi, .slice ao2 (rpL s ps).length cap2] := by
            rw [rpN, if_neg (fun h => HN2.out h.1)]
            obtain ⟨sg', a', m', c', ao', cp', hu, hI, -⟩ := HX0.out.out
            simp only [Nd.op, Nd.nm, Nd.n, Nd.v, Nd.lo, Nd.hi, Nd.ps, List.cons.injEq, Value.bool.injEq, Value.slice.injEq] at hu hI
            obtain ⟨-, -, -, rfl, ⟨rfl, rfl, rfl⟩, -⟩ := hu
            exact NdC.mk' HX0.out.bd (by rw [encS]; simp only [Nd.op, Nd.nm, Nd.n, Nd.lo, Nd.hi, Nd.ps, HSB.out.1]) (IsI.gstb _ _ _ _ _ (HE.out.trans HS.out.e).gr hI) k1 k2 (fun hne => let ⟨g, q1, q2, q3⟩ := k3 hne; ⟨g, 0, q1, q2, q3⟩)
          rw [hlr] at hnd ⊢
          have HND := hid hnd
          have HBX2 := hid (HB2.out.ext HS.out.e)
          have HBX3 := hid (HB3.out.ext HS.out.e)
          have HEX := hid (HE.out.trans HS.out.e)
          clear k1 k2 k3 hlr hnd HS htk
          go_upto_region 8 with (fail)
          clear c7
          refine wp_region_lit ?_
          refine stL (fun K hK => wp_mv (hK _ _ ?_))
          clear hK K
          try go_simp
          refine stL (fun K hK => wp_fa (fa_Nd6 w.heap.size _) (hK _ _ ?_))
          clear hK K
          try go_simp
          refine stL (fun K hK => ?_)
          refine stCO 7 (u := .slice ao2 l cap2) HBX2.out (st_Nds ao2 l cap2) rfl (nwSl _ _ _) (fun X5 B9 O => hK _ _ ?_)
          have HB5 := hid B9
          have HB6 := hid (O.bk HBX3.out (by omega))
          have HND5 := hid (HND.out.ob (Ob.only O) (by have := HWS.out; omega))
          have HE5 := hid (O.ext HEX.out (Nat.le_refl _))
          clear hK K O B9 HBX2 HBX3 HND HEX
          try go_simp
          refine wpList_nil ?_
          go_upto_region 9 with (fail)
          refine wp_region_lit ?_
          refine stL (fun K hK => wp_ld (p := .pointer (some ⟨w.heap.size, 0, none⟩)) (lvM (by kernel_rfl) (by kernel_rfl) rfl HB5.out) (hK _ _ ?_))
          clear hK K
          try go_simp
          refine stL (fun K hK => ?_)
          refine stVO (us := [.int .i64 op, .string sb, .int .i64 n, .bool sg, .slice a m c, .int .i64 lo, .int .i64 hi, .slice ao2 l cap2]) HB6.out st_Nd rfl rfl nwZN (fun W9 B9 O => hK _ _ ?_)
          have HND9 := hid ((HND5.out.ob (Ob.only O) (by have := HWS.out; omega)).low (show w.heap.size ≤ W.heap.size by have := HWS.out; omega))
          have HE9 := hid (O.ext HE5.out (Nat.le_succ _))
          have HB9 := hid B9
          clear hK K O B9 HB5 HB6 HND5 HE5
          refine wpList_nil ?_
          go_wp2_with fail
          exact bodyPost_ret (resC Tryz.results24 rfl (lvM (by kernel_rfl) (by kernel_rfl) rfl HB9.out)) rfl ⟨_, rfl, HE9.out, _, rfl, HND9.out⟩
    · have h3 : (sb.toList == sc.toList) = false := by
        have h9 := seq_eq nm s
        rw [HSB.out.1, HSB.out.2] at h9
        rw [h9]; simpa using h2
      have h4 : ¬ sb.toList = sc.toList := by simpa using h3
      go_upto_region 3 with (fail)
      have HN2 := hid h2
      clear h2 h3 h4
      obtain ⟨W2, hW2, S0⟩ : ∃ W2, W2 = W.alloc (.cells #[] 32) ∧ RpW W [] [] (.slice (some ⟨W.heap.size, 0, none⟩) 0 0) W2 := ⟨_, rfl, (Ext.refl W).alloc _, RwN.zero W, NsR.nil _ _ _⟩
      have HS0 := hid S0
      clear S0
      go_wp2_with fail
      rw [← hW2]
      clear hW2 g0 g1 g7
      go_loopg [5, 6] l (fun gk v5 v6 wr => ∃ i : Nat, v6 = .int .i64 ((i : Nat) : Int) ∧ i + gk = l ∧ Hid (∃ M, RpW W (rpL s (ps.take i)) M v5 wr))
      case atStart => exact ⟨0, rfl, by omega, hid ⟨[], by rw [List.take_zero, rpL]; exact HS0.out⟩⟩
      case round =>
        obtain ⟨i, rfl, hg, S⟩ := hrel
        obtain ⟨M, hS⟩ := S.out
        have HS := hid hS
        clear S hS
        have c7 : World.cell? wr ⟨w.heap.size, 7, none⟩ = some (.slice ao l cp) := (HB2.out.ext HS.out.e).c 7 _ rfl
        by_cases hi2 : i < l
        · have hil : (i : Int) < (l : Int) := by omega
          have hiw : IntKind.i64.wrap ((i : Int) + 1) = ((i + 1 : Nat) : Int) := by have := HL.out.1; simp only [IntKind.wrap_i64]; omega
          obtain ⟨y, hy⟩ : ∃ y, ps[i]? = some y := ⟨_, List.getElem?_eq_getElem (by rw [HL.out.1.1]; exact hi2)⟩
          obtain ⟨g, o, rfl, -, hR⟩ := HP.out.1 (fun e => by rw [e] at hy; cases hy)
          obtain ⟨us, hl8, hcs, hy2⟩ := hR.get hy
          have HG := hid (And.intro hg (And.intro hi2 hy))
          have HC := hid (And.intro hl8 (And.intro hcs hy2))
          have HCC := hid (HIH.out y (List.mem_of_getElem? hy) B us)
          have HPY := hid (HP.out.2 y (List.mem_of_getElem? hy))
          have HEX := hid (HE.out.trans HS.out.e)
          clear hg hi2 hy hR hl8 hcs hy2
          go_upto_region 7 with (fail)
          clear c7
          refine rgs 9 [some 26, some 27, some 28, some 29, some 30, some 31, some 32, some 33, some 34] [IsV u5, IsV (.pointer (some ⟨w.heap.size, 7, none⟩)), IsV (.slice (some ⟨g, o, none⟩) l cp), IsV (.int .i64 ((i : Nat) : Int)), IsV (.pointer (some ⟨g, o + 8 * i, none⟩)), IsV (.agg us.toArray), IsV (.string sc), IsNd wr.heap.size (rpN s y), IsNdS wr.heap.size (rpN s y)] [] ?_ ?_ (hst := by repeat' (first | exact trivial | exact IsV.stb _ | exact IsNd.stb _ _ | exact IsNdS.stb _ _ | apply And.intro))
          · refine Rc (mv (Od.lit 5)) ?_
            refine Rc (fa (fa_Nd6 w.heap.size) (Od.lit 2)) ?_
            refine Rc (lvC 7 (HB2.out.ext HS.out.e) ld_Nds (Od.lc 1 27)) ?_
            refine Rc (mv (Od.lit (x := .int .i64 ((i : Nat) : Int)) 6)) ?_
            refine Rc (ixq (ix_Nd g o cp l i HG.out.2.1) (Od.lc 2 28) (Od.lc (Φ := IsV (.int .i64 ((i : Nat) : Int))) 3 29)) ?_
            refine Rc (lv (Φ := IsV (.agg us.toArray)) _ (fun w' e => ldM (by kernel_rfl) (by kernel_rfl) HC.out.1 (fun j v hj => (HEX.out.trans e).cell (HC.out.2.1 j v hj))) (Od.lc 4 30) (fun _ _ => rfl)) ?_
            refine Rc (mv (Od.lit 1)) ?_
            refine Rc (cl2 (Φ := IsV (.agg us.toArray)) (Ψ := IsV (.string sc)) (Χ := IsNd wr.heap.size (rpN s y)) (en Tryz.func24) (Od.lc 5 31) (Od.lc 6 32) (fun x0 y0 w' hE d0 d1 => by { obtain rfl : x0 = .agg us.toArray := d0; obtain rfl : y0 = .string sc := d1; have h := HCC.out w' HPY.out (HC.out.2.2.ext (HEX.out.trans hE)); rw [encS, HSB.out.2] at h; exact Calls.mono h (fun e w3 hq => by { obtain ⟨r, q1, q2, q3⟩ := hq; exact ⟨r, q1, q2, q3.low hE.size⟩ }) })) ?_
            refine Rc (bsNdS (Od.lc (Φ := IsNd wr.heap.size (rpN s y)) 7 33)) ?_
            exact RgAll.nil
          intro x X4 e4 hΦ _
          obtain ⟨vs, p, hxv, hsr, hnd⟩ := hΦ 8 (by decide)
          simp only [layL, Act.put, List.setIfInBounds_toArray, List.set_cons_zero, List.set_cons_succ, Nat.reduceAdd]
          rw [show x 0 = u5 from hΦ 0 (by decide), hxv]
          rw [hxv] at hsr
          clear hΦ hxv
          have E4 := HS.out.e.trans e4
          have HNO : ∀ g, u5.ownBlock = some g → W.heap.size ≤ g ∧ g < wr.heap.size := World.ownsRow.lt HS.out.rw.1
          have HRW := HS.out.rw.ext e4
          have HNR := HS.out.nr.kc (Kc.ext e4)
          have hml : M.length ≤ 1000000 := by
            have h1 := HS.out.nr.1
            have h2 := HL.out.1
            rw [rpL_map, List.length_map, List.length_take] at h1
            omega
          refine stL (fun K hK => wp_ndo 35 (.tmp 26) (.tmp 34) rfl W.heap.size M vs u5 (.slice (some ⟨p, 0, none⟩) 1 1) rfl rfl HRW ⟨hnd.len, hnd.nw.1, hnd.nw.2⟩ hsr hml E4.size (fun v8 X8 q1 q2 q3 q4 => hK _ _ ?_))
          have HY8 : NdI v8.ownBlock W.heap.size X8 (rpN s y) vs := (NdI.of hnd HS.out.e.size (fun g e => (HNO g e).2)).grown q2 q3 q4
          have HNR8 := (HNR.grown q2 q3 q4).snoc HY8
          have HE8 : Ext W X8 := Below.grown E4 q2 E4.size (fun k hk => (HNO _ hk).1)
          have HT8 : rpL s (ps.take (i + 1)) = rpL s (ps.take i) ++ [rpN s y] := by rw [rpL_map, rpL_map, List.take_add_one, HG.out.2.2, List.map_append]; rfl
          have HS8 := hid (show RpW W (rpL s (ps.take (i + 1))) (M ++ [vs]) v8 X8 from ⟨HE8, q1, by rw [HT8]; exact HNR8⟩)
          clear hsr hnd E4 HNO HRW HNR q1 q2 q3 q4 HY8 HNR8 HE8 HT8 hK K e4 HS hml
          try go_simp
          refine stL (fun K hK => wp_mv (hK _ _ ?_))
          clear hK K
          try go_simp
          refine wpList_nil ?_
          go_wp2_with fail
          go_roundg (gk - 1)
          case measure => have := HG.out; omega
          case rel => exact ⟨i + 1, rfl, by have := HG.out; omega, hid ⟨_, HS8.out⟩⟩
        · have hil : ¬ (i : Int) < (l : Int) := by omega
          have htk : ps.take i = ps := List.take_of_length_le (by rw [HL.out.1.1]; omega)
          rw [htk] at HS
          obtain ⟨ao2, cap2, rfl, k1, k2, k3⟩ := HS.out.nr.is HS.out.rw
          have hlr : (rpL s ps).length = l := by rw [rpL_map, List.length_map, HL.out.1.1]
          have hnd : NdC W.heap.size wr (rpN s (.mk 2 nm n v lo hi ps)) [.int .i64 2, .string sb, .int .i64 n, .bool sg, .slice a m c, .int .i64 lo, .int .i64 hi, .slice ao2 (rpL s ps).length cap2] := by
            rw [rpN, if_neg (fun h => HN2.out h.2)]
            obtain ⟨sg', a', m', c', ao', cp', hu, hI, -⟩ := HX0.out.out
            simp only [Nd.op, Nd.nm, Nd.n, Nd.v, Nd.lo, Nd.hi, Nd.ps, List.cons.injEq, Value.bool.injEq, Value.slice.injEq] at hu hI
            obtain ⟨-, -, -, rfl, ⟨rfl, rfl, rfl⟩, -⟩ := hu
            exact NdC.mk' HX0.out.bd (by rw [encS]; simp only [Nd.op, Nd.nm, Nd.n, Nd.lo, Nd.hi, Nd.ps, HSB.out.1]) (IsI.gstb _ _ _ _ _ (HE.out.trans HS.out.e).gr hI) k1 k2 (fun hne => let ⟨g, q1, q2, q3⟩ := k3 hne; ⟨g, 0, q1, q2, q3⟩)
          rw [hlr] at hnd ⊢
          have HND := hid hnd
          have HBX2 := hid (HB2.out.ext HS.out.e)
          have HBX3 := hid (HB3.out.ext HS.out.e)
          have HEX := hid (HE.out.trans HS.out.e)
          clear k1 k2 k3 hlr hnd HS htk
          go_upto_region 8 with (fail)
          clear c7
          refine wp_region_lit ?_
          refine stL (fun K hK => wp_mv (hK _ _ ?_))
          clear hK K
          try go_simp
          refine stL (fun K hK => wp_fa (fa_Nd6 w.heap.size _) (hK _ _ ?_))
          clear hK K
          try go_simp
          refine stL (fun K hK => ?_)
          refine stCO 7 (u := .slice ao2 l cap2) HBX2.out (st_Nds ao2 l cap2) rfl (nwSl _ _ _) (fun X5 B9 O => hK _ _ ?_)
          have HB5 := hid B9
          have HB6 := hid (O.bk HBX3.out (by omega))
          have HND5 := hid (HND.out.ob (Ob.only O) (by have := HWS.out; omega))
          have HE5 := hid (O.ext HEX.out (Nat.le_refl _))
          clear hK K O B9 HBX2 HBX3 HND HEX
          try go_simp
          refine wpList_nil ?_
          go_upto_region 9 with (fail)
          refine wp_region_lit ?_
          refine stL (fun K hK => wp_ld (p := .pointer (some ⟨w.heap.size, 0, none⟩)) (lvM (by kernel_rfl) (by kernel_rfl) rfl HB5.out) (hK _ _ ?_))
          clear hK K
          try go_simp
          refine stL (fun K hK => ?_)
          refine stVO (us := [.int .i64 2, .string sb, .int .i64 n, .bool sg, .slice a m c, .int .i64 lo, .int .i64 hi, .slice ao2 l cap2]) HB6.out st_Nd rfl rfl nwZN (fun W9 B9 O => hK _ _ ?_)
          have HND9 := hid ((HND5.out.ob (Ob.only O) (by have := HWS.out; omega)).low (show w.heap.size ≤ W.heap.size by have := HWS.out; omega))
          have HE9 := hid (O.ext HE5.out (Nat.le_succ _))
          have HB9 := hid B9
          clear hK K O B9 HB5 HB6 HND5 HE5
          refine wpList_nil ?_
          go_wp2_with fail
          exact bodyPost_ret (resC Tryz.results24 rfl (lvM (by kernel_rfl) (by kernel_rfl) rfl HB9.out)) rfl ⟨_, rfl, HE9.out, _, rfl, HND9.out⟩
end
end Go.Proofs.YtenhciieboegbaaGreatDoor
namespace Go.Proofs.YtenhciieboegbaaGreatDoor
open Go Go.RowKit Go.Maps
theorem keysS : ∀ l : Sc, ∃ es, putS l = .map es ∧ (∀ p ∈ es, ∃ x, p.1 = .string x) ∧ (es.map fun p => strOf p.1).Nodup ∧ ∀ t, t ∈ (es.map fun p => strOf p.1) ↔ t ∈ l
  | [] => ⟨[], rfl, by simp, by simp, by simp⟩
  | k :: t => by
    obtain ⟨es, h1, h2, h3, h4⟩ := keysS t
    have hp : ((DataW.insert (Lit.string k, DataW.lit (.bool true)) (es.filter fun p => !p.1.sameKey (.string k))).map fun p => strOf p.1).Perm (k :: (es.filter fun p => !p.1.sameKey (.string k)).map fun p => strOf p.1) := (WideShapes.insert_perm _ _).map _
    have hf : ∀ y, y ∈ (es.filter fun p => !p.1.sameKey (.string k)).map (fun p => strOf p.1) ↔ y ∈ t ∧ y ≠ k := by
      intro y
      rw [← h4 y]
      simp only [List.mem_map, List.mem_filter]
      constructor
      · rintro ⟨p, ⟨q1, q2⟩, rfl⟩
        obtain ⟨x, hx⟩ := h2 p q1
        refine ⟨⟨p, q1, rfl⟩, ?_⟩
        rw [hx] at q2 ⊢
        simpa [Lit.sameKey, strOf] using q2
      · rintro ⟨⟨p, q1, rfl⟩, q2⟩
        obtain ⟨x, hx⟩ := h2 p q1
        refine ⟨p, ⟨q1, ?_⟩, rfl⟩
        rw [hx] at q2 ⊢
        simpa [Lit.sameKey, strOf] using q2
    refine ⟨DataW.insert (Lit.string k, DataW.lit (.bool true)) (es.filter fun p => !p.1.sameKey (.string k)), by rw [putS, h1]; rfl, fun p hp' => ?_, ?_, fun y => ?_⟩
    · rcases (Go.ChangeMaps.mem_insert_iff).1 hp' with rfl | h
      · exact ⟨k, rfl⟩
      · exact h2 p ((List.mem_filter.1 h).1)
    · rw [hp.nodup_iff, List.nodup_cons]
      exact ⟨fun h => ((hf k).1 h).2 rfl, List.Nodup.sublist (List.Sublist.map _ List.filter_sublist) h3⟩
    · rw [hp.mem_iff, List.mem_cons, hf y, List.mem_cons]
      constructor
      · rintro (h | h)
        · exact .inl h
        · exact .inr h.1
      · rintro (h | h)
        · exact .inl h
        · by_cases e : y = k
          · exact .inl e
          · exact .inr ⟨h, e⟩
theorem usS_perm (x : Nd) : ∃ ks : Sc, (usS x).Perm ks ∧ ks.Nodup ∧ ∀ t, t ∈ ks ↔ t ∈ usN x := by
  obtain ⟨es, h1, _, h3, h4⟩ := keysS (usN x).reverse
  refine ⟨es.map fun p => strOf p.1, ?_, h3, fun t => by rw [h4 t, List.mem_reverse]⟩
  rw [usS, h1]
  exact List.mergeSort_perm _ _
theorem usS_mem (x : Nd) (t : List UInt8) : t ∈ usS x ↔ t ∈ usN x := by
  obtain ⟨ks, h1, _, h3⟩ := usS_perm x
  rw [h1.mem_iff, h3]
theorem usS_nodup (x : Nd) : (usS x).Nodup := by
  obtain ⟨ks, h1, h2, _⟩ := usS_perm x
  exact h1.nodup_iff.2 h2
theorem usS_le (x : Nd) : (usS x).Pairwise (fun a b => a ≤ b) := by
  have h := List.pairwise_mergeSort (le := fun x y : List UInt8 => decide (x ≤ y)) (fun a b c h1 h2 => by simp only [decide_eq_true_eq] at *; exact List.le_trans h1 h2) (fun a b => by simp only [Bool.or_eq_true, decide_eq_true_eq]; exact List.le_total a b) (strKeys (putS (usN x).reverse))
  rw [usS]
  exact h.imp (fun h => by simpa using h)
theorem usS_lt (x : Nd) {i : Nat} {a b : List UInt8} (ha : (usS x)[i]? = some a) (hb : (usS x)[i + 1]? = some b) : a < b := by
  have h1 := usS_le x
  have h2 := usS_nodup x
  obtain ⟨i1, e1⟩ := List.getElem?_eq_some_iff.1 ha
  obtain ⟨i2, e2⟩ := List.getElem?_eq_some_iff.1 hb
  have h3 := List.pairwise_iff_getElem.1 h1 i (i + 1) i1 i2 (Nat.lt_succ_self i)
  have h4 := List.pairwise_iff_getElem.1 h2 i (i + 1) i1 i2 (Nat.lt_succ_self i)
  rw [e1, e2] at h3 h4
  exact Std.lt_of_le_of_ne h3 h4
theorem usN_len {d : Nat} {b : Sc} {x : Nd} (h : Tr d b x) : (usN x).length ≤ 2 ^ d := by
  induction h with
  | num => simp [usN, usL]
  | cell => simp only [usN, usL]; simpa using Nat.one_le_two_pow
  | var => simp [usN, usL]
  | val => simp [usN, usL]
  | valh => simp [usN, usL]
  | loop ho _ _ _ _ _ _ ih => simp only [usN, usL, if_neg (bind_nots ho)]; simp; rw [Nat.pow_succ]; omega
  | bin ho _ _ i j => simp only [usN, usL, if_neg (join_nots ho)]; simp; rw [Nat.pow_succ]; omega
def nm5 : Sc := nmCs ++ [[120]]
theorem nm5_count {x : Nd} (h : ∀ t ∈ usN x, t ∈ nmCs) : (nm5.filter fun s => decide (s ∈ usN x)).length = (usS x).length := by
  refine List.Perm.length_eq ((List.perm_ext_iff_of_nodup (List.Nodup.sublist List.filter_sublist (by decide)) (usS_nodup x)).2 fun t => ?_)
  rw [usS_mem, List.mem_filter]
  simp only [decide_eq_true_eq]
  exact ⟨fun h => h.2, fun ht => ⟨List.mem_append_left _ (h t ht), ht⟩⟩
/-- What the law asks of a tree and a name. -/
theorem us_law {x : Nd} (h : Tr 4 [] x) (s : List UInt8) : eqN (rpN s x) x = !decide (s ∈ usN x) ∧ rtE [⟨[122], rpN s x⟩] = true ∧ s ∉ usS (rpN s x) ∧ NdOk (rpN s x) ∧ (usN (rpN s x)).length ≤ 900000 := by
  obtain ⟨h1, h2, h3, h4, -⟩ := tr_rp s h
  have h6 := tr_pr (l := [⟨[122], rpN s x⟩]) (fun c hc => by rw [List.mem_singleton.1 hc]; exact ⟨h1, show nameB [122] = true by decide⟩) (by simp) (by simp)
  refine ⟨?_, ?_, fun hm => h2 ((usS_mem _ _).1 hm), fun t ht => ?_, Nat.le_trans (usN_len h1) (by decide)⟩
  · by_cases hm : s ∈ usN x
    · rw [decide_eq_true hm]
      have := h3 hm
      rw [Bool.eq_false_iff.2 (fun e => this ((eqN_iff _ _).1 e))]; rfl
    · rw [decide_eq_false hm, h4 hm]
      exact (eqN_iff _ _).2 rfl
  · unfold prE at h6
    split at h6
    · assumption
    · cases h6
  · obtain ⟨-, -, -, -, h5⟩ := tr_rp s h1
    have h7 := h5 t ht
    have h8 : ∀ s ∈ nmCs, s.length ≤ 1000000000 := by decide
    exact h8 t h7
end Go.Proofs.YtenhciieboegbaaGreatDoor
namespace Go.Proofs.YtenhciieboegbaaGreatDoor
open Go Go.RowKit Go.Maps
theorem tl_of (p : List UInt8) : (⟨p.toArray⟩ : ByteArray).toList = p := by
  rw [ByteArray.toList_eq]
def nm5V : List Value := [.string ⟨#[97]⟩, .string ⟨#[98]⟩, .string ⟨#[99, 50]⟩, .string ⟨#[108, 111, 110, 103, 95, 110, 97, 109, 101]⟩, .string ⟨#[120]⟩]
theorem nm5_of {k : Nat} (h : k < 5) : ∃ s sb, nm5[k]? = some s ∧ encS s = .string sb ∧ nm5V[k]? = some (.string sb) := by
  match k, h with
  | 0, _ => exact ⟨_, _, rfl, rfl, rfl⟩
  | 1, _ => exact ⟨_, _, rfl, rfl, rfl⟩
  | 2, _ => exact ⟨_, _, rfl, rfl, rfl⟩
  | 3, _ => exact ⟨_, _, rfl, rfl, rfl⟩
  | 4, _ => exact ⟨_, _, rfl, rfl, rfl⟩
noncomputable def cnt5 (x : Nd) (i : Nat) : Nat := ((nm5.take i).filter fun s => decide (s ∈ usN x)).length
theorem cnt5_le (x : Nd) (i : Nat) : cnt5 x i ≤ i := Nat.le_trans (List.length_filter_le _ _) (by rw [List.length_take]; exact Nat.min_le_left _ _)
theorem cnt5_succ {x : Nd} {i : Nat} {s : List UInt8} (h : nm5[i]? = some s) : cnt5 x (i + 1) = cnt5 x i + (if decide (s ∈ usN x) then 1 else 0) := by
  unfold cnt5
  rw [List.take_add_one, h, List.filter_append, List.length_append]
  by_cases e : s ∈ usN x <;> simp [e]
/-- Expressions whose parts have a number. -/
inductive PsN : Nd → Prop
  | mk {op : Int} {nm : List UInt8} {n v lo hi : Int} {ps : List Nd} : (∀ a ∈ ps, a.op ≠ 0) → (∀ a ∈ ps, PsN a) → PsN ⟨op, nm, n, v, lo, hi, ps⟩
theorem PsN.tr {d : Nat} {b : Sc} {x : Nd} (h : Tr d b x) : x.op ≠ 0 ∧ PsN x := by
  induction h with
  | num => exact ⟨by simp [Nd.op], .mk (fun a h => by simp at h) (fun a h => by simp at h)⟩
  | cell => exact ⟨by simp [Nd.op], .mk (fun a h => by simp at h) (fun a h => by simp at h)⟩
  | var => exact ⟨by simp [Nd.op], .mk (fun a h => by simp at h) (fun a h => by simp at h)⟩
  | val => exact ⟨by simp [Nd.op], .mk (fun a h => by simp at h) (fun a h => by simp at h)⟩
  | valh => exact ⟨by simp [Nd.op], .mk (fun a h => by simp at h) (fun a h => by simp at h)⟩
  | loop ho _ _ _ _ _ _ ih => exact ⟨fun e => by simp only [Nd.op] at e; rw [e] at ho; exact absurd ho (by decide), .mk (fun a h => by rw [List.mem_singleton.1 h]; exact ih.1) (fun a h => by rw [List.mem_singleton.1 h]; exact ih.2)⟩
  | bin ho _ _ i j => exact ⟨fun e => by simp only [Nd.op] at e; rw [e] at ho; exact absurd ho (by decide), .mk (fun a h => by rcases List.mem_cons.1 h with rfl | h; exact i.1; rw [List.mem_singleton.1 h]; exact j.1) (fun a h => by rcases List.mem_cons.1 h with rfl | h; exact i.2; rw [List.mem_singleton.1 h]; exact j.2)⟩
/-- A store into an empty box leaves an expression as it was. -/
theorem nd_z {w w' : World} {g : Nat} {T : TypeId} {fz : Nat × Nat} (hz : w.heap[g]? = some (.cells zNd.toArray T fz)) (O : OnlyB g w w') : ∀ (x : Nd), PsN x → ∀ (B : Nat) (us : List Value), NdC B w x us → NdC B w' x us := Nd.ind fun op nm n v lo hi ps IH => by
  intro hp B us h
  have hps : ∀ a ∈ ps, a.op ≠ 0 ∧ PsN a := by cases hp with | mk h h' => exact fun a ha => ⟨h a ha, h' a ha⟩
  obtain ⟨s, a, m, c, ao, cp, rfl, h2, h3, h4, h5⟩ := h.out
  refine NdC.mk' h.bd rfl (IsI.gstb _ _ _ _ _ (Ob.only O).gr h2) h3 h4 (fun hne => ?_)
  obtain ⟨g', o, q1, q2, q3⟩ := h5 hne
  refine ⟨g', o, q1, q2, NdR.of fun i y hi => ?_⟩
  obtain ⟨us', r1, r2, r3⟩ := q3.get hi
  have hm : y ∈ ps := List.mem_of_getElem? hi
  have hg : g' ≠ g := by
    rintro rfl
    obtain ⟨_, _, _, _, _, _, hu, _⟩ := r3.out
    have h0 := r2 0 (.int .i64 y.op) (by rw [hu]; rfl)
    simp only [World.cell?, hz, Nat.add_zero] at h0
    have h1 : zNd[o + 8 * i]? = some (.int .i64 y.op) := by simpa using h0
    rcases hj : o + 8 * i with _ | _ | _ | _ | _ | _ | _ | _ | k
    all_goals rw [hj] at h1
    all_goals first | exact (hps y hm).1 (by simpa [zNd] using h1.symm) | (simp [zNd] at h1; done) | (simp [zNd] at h1; exact (hps y hm).1 h1.symm)
  exact ⟨us', r1, fun j u hj => (Ob.only O).cell (r2 j u hj) hg, IH y hm (hps y hm).2 B us' r3⟩
/-- An empty box. -/
def IsNz (B : Nat) : Value → World → Prop := fun v w => ∃ g, v = .pointer (some ⟨g, 0, none⟩) ∧ B ≤ g ∧ w.heap[g]? = some (.cells zNd.toArray 32) ∧ Bk w g zNd
theorem IsNz.stb (B : Nat) : Stb (IsNz B) := fun _ _ _ e ⟨g, h1, h2, h3, h4⟩ => ⟨g, h1, h2, (e.block g h4.lt).trans h3, h4.ext e⟩
section
set_option maxRecDepth 100000
set_option maxHeartbeats 16000000
theorem Uses_w {w : World} {lb : Value} (hT : TabM w) (hb : IsBy lb w) : Calls Tryz.prog 8 #[lb] w (Ret w (IsV (.bool true))) := by
  have HT := hid hT
  have HB := hid hb
  clear hT hb
  go_enter Tryz.func8, Tryz.ntmps8
  go_upto_region 4 with (go_at_call 9; refine Calls.mono (examples_f HT.out) ?_; rintro e w1 ⟨x, rfl, e1, hx⟩; obtain rfl : x = .bool true := hx; have e1 := hid e1)
  refine wp_region_lit ?_
  refine stL (fun K hK => wp_mv (hK _ _ ?_))
  clear hK K
  go_simp
  refine stL (fun K hK => ?_)
  refine wp_callN (us := [lb]) (en Tryz.func22) (by kernel_rfl) (Tree_f (HB.out.ext e1.out)) (fun v2 w2 h => hK _ _ ?_) (fun ch X h => by { obtain ⟨x, hx, _⟩ := h; cases hx }) (fun X h => by { obtain ⟨x, hx, _⟩ := h; cases hx })
  clear hK K
  obtain ⟨v3, h0, e2, x, htr, us, hv3, hnd⟩ := h
  cases h0
  subst hv3
  have HTR := hid htr
  have HND := hid (hnd.low (Nat.zero_le _))
  have HE2 := hid (e1.out.trans e2)
  clear e2 hnd e1 htr
  go_simp
  refine stL (fun K hK => ?_)
  refine wp_alB (vs := zNd) al_Nd (fun Bn e8 => hK _ _ ?_)
  obtain ⟨g4, hg⟩ : ∃ g, w2.heap.size = g := ⟨_, rfl⟩
  have hle : g4 ≤ w2.heap.size ∧ w2.heap.size ≤ g4 := by omega
  rw [hg] at Bn ⊢
  generalize w2.alloc (.cells zNd.toArray 32) = Y4 at Bn e8 ⊢
  clear hK K
  try go_simp
  refine stL (fun K hK => ?_)
  refine stVO (us := us) Bn st_Nd rfl HND.out.len nwZN (fun X4 B9 O => hK _ _ ?_) (ho1 := HND.out.nw.2)
  have e9 : Ext w2 X4 := O.ext e8 (by omega)
  have HB4 := hid B9
  have HE4 := hid (HE2.out.trans e9)
  have HN4 := hid (HND.out.ext e9)
  clear hK K O B9 Bn e8 e9 hg hle HND HE2
  try go_simp
  refine wpList_nil ?_
  go_upto_region 5 with (fail)
  refine wp_region_lit ?_
  refine stL (fun K hK => wp_ld (p := .pointer (some ⟨g4, 0, none⟩)) (lvM (by kernel_rfl) (by kernel_rfl) HN4.out.len HB4.out) (hK _ _ ?_))
  clear hK K
  try go_simp
  refine stL (fun K hK => ?_)
  refine wp_callN (us := [.agg us.toArray]) (en Tryz.func23) (by kernel_rfl) (Uses_f HN4.out (fun t ht => by obtain ⟨-, -, -, -, h5⟩ := tr_rp [] HTR.out; have h8 : ∀ s ∈ nmCs, s.length ≤ 1000000000 := (by decide); exact h8 t (h5 t ht)) (Nat.le_trans (usN_len HTR.out) (by decide))) (fun v5 w5 h => hK _ _ ?_) (fun ch X h => by { obtain ⟨x, hx, _⟩ := h; cases hx }) (fun X h => by { obtain ⟨x, hx, _⟩ := h; cases hx })
  clear hK K
  obtain ⟨v6, h0, e5, hsr⟩ := h
  cases h0
  obtain ⟨ao5, cp5, hv5, h63, hP⟩ := id hsr
  obtain ⟨nu, hnu⟩ : ∃ n, (usS x).length = n := ⟨_, rfl⟩
  rw [hnu] at hv5
  subst hv5
  have HSR := hid hsr
  have HNU := hid hnu
  have HU := hid hP
  have HE5 := hid (HE4.out.trans e5)
  have HB5 := hid (HB4.out.ext e5)
  have HN5 := hid (HN4.out.ext e5)
  clear hsr hnu e5 HE4 HB4 HN4 hP h63
  try go_simp
  refine stL (fun K hK => wp_mv (hK _ _ ?_))
  clear hK K
  go_simp
  refine wpList_nil ?_
  go_upto_region 6 with (fail)
  refine rgs 2 [some 19, some 6] [IsRw 0 nm5V, IsRw 0 nm5V] [] ?_ ?_ (hst := by repeat' (first | exact trivial | exact IsV.stb _ | exact IsNd.stb _ _ | exact IsNz.stb _ | exact IsRw.stb _ _ | exact IsNr.stb _ _ _ | exact IsSr.stb _ | apply And.intro))
  · refine Rc (bsC (xs := nm5V) (hr := fun a w => ⟨9, by unfold nm5V; go_simp⟩)) ?_
    refine Rc (mv (Od.lc (Φ := IsRw 0 nm5V) 0 19)) ?_
    exact RgAll.nil
  intro v X6 e6 hΦ _
  obtain ⟨an, cn, hv1, hnm⟩ := hΦ 1 (by decide)
  rw [show nm5V.length = 5 from rfl] at hv1
  simp only [layL, Act.put, List.setIfInBounds_toArray, List.set_cons_zero, List.set_cons_succ, Nat.reduceAdd]
  rw [hv1]
  clear hΦ hv1
  obtain ⟨gn, rfl, -, hcells⟩ := hnm (by simp [nm5V])
  have HNM := hid hcells
  have HE6 := hid (HE5.out.trans e6)
  have HB6 := hid (HB5.out.ext e6)
  have HN6 := hid (HN5.out.ext e6)
  have HS6 := hid (IsSr.stb _ _ _ _ e6 HSR.out)
  have HU6 := hid (show usS x ≠ [] → ∃ g o, ao5 = some ⟨g, o, none⟩ ∧ ∀ (i : Nat) (s : List UInt8), (usS x)[i]? = some s → World.cell? X6 ⟨g, o + i, none⟩ = some (encS s) from fun hne => let ⟨g, o, q1, q2⟩ := HU.out hne; ⟨g, o, q1, fun i s hi => e6.cell (q2 i s hi)⟩)
  clear hnm hcells e6 HE5 HB5 HN5 HSR HU
  refine wpList_nil ?_
  go_wp2_with fail
  go_loopg [7, 8] 5 (fun gk v7 v8 wr => ∃ i c : Nat, v8 = .int .i64 ((i : Nat) : Int) ∧ v7 = .int .i64 ((c : Nat) : Int) ∧ i + gk = 5 ∧ Hid (Ext X6 wr ∧ cnt5 x i = c))
  case atStart => exact ⟨0, 0, rfl, rfl, rfl, hid ⟨Ext.refl _, rfl⟩⟩
  case round =>
    obtain ⟨i, c, rfl, rfl, hg, S⟩ := hrel
    by_cases hi : i < 5
    · have hi5 : (i : Int) < 5 := by omega
      have hiw : IntKind.i64.wrap ((i : Int) + 1) = ((i + 1 : Nat) : Int) := by simp only [IntKind.wrap_i64]; omega
      obtain ⟨s, sb, hs1, hs2, hs3⟩ := nm5_of hi
      have HM := hid (And.intro hs1 (And.intro hs2 hs3))
      have HI := hid (And.intro hi hg)
      have HC := hid (show c ≤ 5 by have h := S.out.2; have := cnt5_le x i; omega)
      obtain ⟨ch, hch⟩ : ∃ b, decide (s ∈ usN x) = b := ⟨_, rfl⟩
      have HCH := hid hch
      have HW := hid (us_law HTR.out s)
      have HEX := hid S.out.1
      have HCN := hid S.out.2
      clear hs1 hs2 hs3 hi hg hch S
      go_upto_region 11 with (fail)
      refine rg 7 [some 26, some 27, some 28, some 29, some 30, some 31, some 9] [IsV (.agg us.toArray), IsV (.slice (some ⟨gn, 0, none⟩) 5 cn), IsV (.int .i64 ((i : Nat) : Int)), IsV (.pointer (some ⟨gn, 0 + i, none⟩)), IsV (.string sb), IsNd 0 (rpN s x), IsNz wr.heap.size] [] 1 ?_ ?_ (hst := by repeat' (first | exact trivial | exact IsV.stb _ | exact IsNd.stb _ _ | exact IsNz.stb _ | exact IsRw.stb _ _ | exact IsNr.stb _ _ _ | exact IsSr.stb _ | apply And.intro))
      · refine Rc (lv (Φ := IsV (.agg us.toArray)) _ (fun w' e => ldM (by kernel_rfl) (by kernel_rfl) HN6.out.len (fun j v hj => by rw [Nat.zero_add]; exact (HB6.out.ext (HEX.out.trans e)).c j v hj)) (Od.lit 4) (fun _ _ => rfl)) ?_
        refine Rc (mv (Od.lit 6)) ?_
        refine Rc (mv (Od.lit (x := .int .i64 ((i : Nat) : Int)) 8)) ?_
        refine Rc (ixq (ix_St gn 0 cn 5 i HI.out.1) (Od.lc 1 27) (Od.lc (Φ := IsV (.int .i64 ((i : Nat) : Int))) 2 28)) ?_
        refine Rc (lv (Φ := IsV (.string sb)) _ (fun w' e => ld_str w' _ _ ((HEX.out.trans e).cell (show World.cell? X6 ⟨gn, 0 + i, none⟩ = some (.string sb) by rw [Nat.zero_add]; exact HNM.out i _ HM.out.2.2))) (Od.lc 3 29) (fun _ _ => rfl)) ?_
        refine Rc (cl2 (Φ := IsV (.agg us.toArray)) (Ψ := IsV (.string sb)) (Χ := IsNd 0 (rpN s x)) (en Tryz.func24) (Od.lc 0 26) (Od.lc 4 30) (fun x0 y0 w' hE d0 d1 => by { obtain rfl : x0 = .agg us.toArray := d0; obtain rfl : y0 = .string sb := d1; have h := replaced_f (s := s) x 0 us w' (PsB.tr HTR.out) (HN6.out.ext (HEX.out.trans hE)); rw [HM.out.2.1] at h; exact Calls.mono h (fun e w3 hq => by { obtain ⟨r, q1, q2, q3⟩ := hq; exact ⟨r, q1, q2, q3.low (Nat.zero_le _)⟩ }) })) ?_
        refine Rc (alX (Χ := IsNz wr.heap.size) (vs := zNd) al_Nd (fun w2 e => ⟨_, rfl, e.size, World.alloc_heap_new _ _, by simpa using Bk.new w2 zNd.toArray 32⟩)) ?_
        exact RgAll.nil
      intro u X7 e7 hΦ _
      obtain ⟨rs, hv5, hrn⟩ := hΦ 5 (by decide)
      obtain ⟨g9, hv6, hg9, hz9, hb9⟩ := hΦ 6 (by decide)
      simp only [layL, Act.put, List.setIfInBounds_toArray, List.set_cons_zero, List.set_cons_succ, Nat.reduceAdd]
      rw [hv5, hv6]
      clear hΦ hv5 hv6
      refine stA 7 rfl (fun K hK => stVO (us := rs) hb9 st_Nd rfl hrn.len nwZN (fun X8 B9 O => hK _ _ ?_) (ho1 := hrn.nw.2))
      have e8 : Ext wr X8 := O.ext e7 hg9
      have HR8 := hid (nd_z hz9 O (rpN s x) (PsN.tr (tr_rp s HTR.out).1).2 0 rs hrn)
      have HB8 := hid B9
      have HE8 := hid (HEX.out.trans e8)
      clear hK K O e7 hb9 B9 hz9 hg9 hrn HEX e8
      refine wpAny_done (by kernel_rfl) ?_ _
      try simp only [layL, Act.put, List.setIfInBounds_toArray, List.set_cons_zero, List.set_cons_succ, Nat.reduceAdd]
      go_upto_region 12 with (fail)
      refine rgs 5 [some 32, some 33, some 34, some 35, some 10] [IsV (.agg rs.toArray), IsV (.agg us.toArray), IsV (.bool (!ch)), IsV (.bool ch), IsV (.bool ch)] [] ?_ ?_ (hst := by repeat' (first | exact trivial | exact IsV.stb _ | exact IsNd.stb _ _ | exact IsNz.stb _ | exact IsRw.stb _ _ | exact IsNr.stb _ _ _ | exact IsSr.stb _ | apply And.intro))
      · refine Rc (lv (Φ := IsV (.agg rs.toArray)) _ (fun w' e => ldM (by kernel_rfl) (by kernel_rfl) HR8.out.len (fun j v hj => by rw [Nat.zero_add]; exact (HB8.out.ext e).c j v hj)) (Od.lit 9) (fun _ _ => rfl)) ?_
        refine Rc (lv (Φ := IsV (.agg us.toArray)) _ (fun w' e => ldM (by kernel_rfl) (by kernel_rfl) HN6.out.len (fun j v hj => by rw [Nat.zero_add]; exact (HB6.out.ext (HE8.out.trans e)).c j v hj)) (Od.lit 4) (fun _ _ => rfl)) ?_
        refine Rc (cl2 (Φ := IsV (.agg rs.toArray)) (Ψ := IsV (.agg us.toArray)) (Χ := IsV (.bool (!ch))) (en Tryz.func25) (Od.lc 0 32) (Od.lc 1 33) (fun x0 y0 w' hE d0 d1 => by { obtain rfl : x0 = .agg rs.toArray := d0; obtain rfl : y0 = .agg us.toArray := d1; have h := SameNode_f (rpN s x) x 0 0 rs us w' (HR8.out.ext hE) (HN6.out.ext (HE8.out.trans hE)); rw [HW.out.1, HCH.out] at h; exact h })) ?_
        refine Rc (un (p := .bool (!ch)) (r := .bool ch) (Od.lc 2 34) rfl (fun w => by cases ch <;> go_simp)) ?_
        refine Rc (mv (Od.lc (Φ := IsV (.bool ch)) 3 35)) ?_
        exact RgAll.nil
      intro u X9 e9 hΦ _
      simp only [layL, Act.put, List.setIfInBounds_toArray, List.set_cons_zero, List.set_cons_succ, Nat.reduceAdd]
      rw [show u 4 = .bool ch from hΦ 4 (by decide)]
      clear hΦ
      have HR9 := hid (HR8.out.ext e9)
      have HB9 := hid (HB8.out.ext e9)
      have HE9 := hid (HE8.out.trans e9)
      clear e9 HR8 HB8 HE8
      refine wpList_nil ?_
      go_upto_region 13 with (fail)
      have HHAS := hid (show decide (s ∈ usS x) = ch by rw [← HCH.out]; exact decide_eq_decide.2 (usS_mem x s))
      refine rg 24 [some 36, some 37, some 38, some 39, some 40, some 41, some 42, some 43, some 44, some 45, some 46, some 47, some 48, some 49, some 50, some 51, some 52, some 53, some 54, some 55, some 56, some 57, some 58, some 59] [IsV (.slice ao5 nu cp5), IsV (.slice (some ⟨gn, 0, none⟩) 5 cn), IsV (.int .i64 ((i : Nat) : Int)), IsV (.pointer (some ⟨gn, 0 + i, none⟩)), IsV (.string sb), IsV (.bool ch), IsV (.bool ch), IsV (.bool false), IsV (.bool false), IsV (.agg rs.toArray), IsV (.agg (Value.string ⟨#[122]⟩ :: rs).toArray), IsNr X9.heap.size 1 (Value.string ⟨#[122]⟩ :: rs), IsV (.bool true), IsV (.bool false), IsV (.bool false), IsV (.bool false), IsV (.agg rs.toArray), IsSr (usS (rpN s x)), IsV (.slice (some ⟨gn, 0, none⟩) 5 cn), IsV (.int .i64 ((i : Nat) : Int)), IsV (.pointer (some ⟨gn, 0 + i, none⟩)), IsV (.string sb), IsV (.bool false), IsV (.bool false)] [] 0 ?_ ?_ (hst := by repeat' (first | exact trivial | exact IsV.stb _ | exact IsNd.stb _ _ | exact IsNz.stb _ | exact IsRw.stb _ _ | exact IsNr.stb _ _ _ | exact IsSr.stb _ | apply And.intro))
      · refine Rc (mv (Od.lit 5)) ?_
        refine Rc (mv (Od.lit 6)) ?_
        refine Rc (mv (Od.lit (x := .int .i64 ((i : Nat) : Int)) 8)) ?_
        refine Rc (ixq (ix_St gn 0 cn 5 i HI.out.1) (Od.lc 1 37) (Od.lc (Φ := IsV (.int .i64 ((i : Nat) : Int))) 2 38)) ?_
        refine Rc (lv (Φ := IsV (.string sb)) _ (fun w' e => ld_str w' _ _ ((HE9.out.trans e).cell (show World.cell? X6 ⟨gn, 0 + i, none⟩ = some (.string sb) by rw [Nat.zero_add]; exact HNM.out i _ HM.out.2.2))) (Od.lc 3 39) (fun _ _ => rfl)) ?_
        refine Rc (cl2 (Φ := IsV (.slice ao5 nu cp5)) (Ψ := IsV (.string sb)) (Χ := IsV (.bool ch)) (en Tryz.func26) (Od.lc 0 36) (Od.lc 4 40) (fun x0 y0 w' hE d0 d1 => by { obtain rfl : x0 = .slice ao5 nu cp5 := d0; obtain rfl : y0 = .string sb := d1; have h := Has_f (s := s) (IsSr.stb _ _ _ _ (HE9.out.trans hE) HS6.out) (by have h1 := nm5_count (x := x) (tr_rp [] HTR.out).2.2.2.2; have h2 := List.length_filter_le (fun s => decide (s ∈ usN x)) nm5; have h3 : nm5.length = 5 := rfl; omega); rw [HM.out.2.1, HHAS.out] at h; exact h })) ?_
        refine Rc (mv (Od.lit (x := .bool ch) 10)) ?_
        refine Rc (bn (r := .bool false) (Od.lc (Φ := IsV (.bool ch)) 5 41) (Od.lc (Φ := IsV (.bool ch)) 6 42) (hr := fun w => by cases ch <;> go_simp)) ?_
        refine Rc (mv (Od.lc (Φ := IsV (.bool false)) 7 43)) ?_
        refine RcG 8 44 false (lv (Φ := IsV (.agg rs.toArray)) _ (fun w' e => ldM (by kernel_rfl) (by kernel_rfl) HR9.out.len (fun j v hj => by rw [Nat.zero_add]; exact (HB9.out.ext e).c j v hj)) (Od.lit 9) (fun _ _ => rfl)) ?_
        refine RcG 8 44 false (bd2 (T := 34) (p := .string ⟨#[122]⟩) (q := .agg rs.toArray) Od.con (Od.lc (Φ := IsV (.agg rs.toArray)) 9 45) (fun w => bdCl_run HR9.out.len w)) ?_
        refine RcG 8 44 false (bs1 (p := .agg (Value.string ⟨#[122]⟩ :: rs).toArray) (Od.lc 10 46) (fun w => bsC_run (by rw [List.length_cons, HR9.out.len]) (by rw [List.all_cons, HR9.out.nw.2]; rfl) w) (Nat.le_refl _)) ?_
        refine RcG 8 44 false (cl1 (Φ := IsNr X9.heap.size 1 (Value.string ⟨#[122]⟩ :: rs)) (Χ := IsV (.bool true)) (en Tryz.func12) (Od.lc 11 47) (fun x0 w2 hE d0 => by { obtain ⟨g6, rfl, h1, h2⟩ := d0; have h := right_f (l := [⟨[122], rpN s x⟩]) (cs_one (B := 0) (n1 := [122]) h2 (Nat.zero_le _) (HR9.out.ext hE)) (by simp) (fun c hc => by rw [List.mem_singleton.1 hc]; simp); rw [HW.out.2.1] at h; exact Calls.mono h (fun e w3 hq => ⟨_, hq.1, hq.2, rfl⟩) })) ?_
        refine RcG 8 44 false (un (p := .bool true) (r := .bool false) (Od.lc 12 48) rfl (fun w => by go_simp)) ?_
        refine Rc (pkO (b := false) (b2 := false) (r := false) (Od.lc 8 44) (fun _ => Od.lc (Φ := IsV (.bool false)) 13 49) rfl) ?_
        refine Rc (mv (Od.lc (Φ := IsV (.bool false)) 14 50)) ?_
        refine RcG 15 51 false (lv (Φ := IsV (.agg rs.toArray)) _ (fun w' e => ldM (by kernel_rfl) (by kernel_rfl) HR9.out.len (fun j v hj => by rw [Nat.zero_add]; exact (HB9.out.ext e).c j v hj)) (Od.lit 9) (fun _ _ => rfl)) ?_
        refine RcG 15 51 false (cl1 (Φ := IsV (.agg rs.toArray)) (Χ := IsSr (usS (rpN s x))) (en Tryz.func23) (Od.lc 16 52) (fun x0 w2 hE d0 => by { obtain rfl : x0 = .agg rs.toArray := d0; exact Uses_f (HR9.out.ext hE) HW.out.2.2.2.1 HW.out.2.2.2.2 })) ?_
        refine RcG 15 51 false (mv (Od.lit 6)) ?_
        refine RcG 15 51 false (mv (Od.lit (x := .int .i64 ((i : Nat) : Int)) 8)) ?_
        refine RcG 15 51 false (ixq (ix_St gn 0 cn 5 i HI.out.1) (Od.lc 18 54) (Od.lc (Φ := IsV (.int .i64 ((i : Nat) : Int))) 19 55)) ?_
        refine RcG 15 51 false (lv (Φ := IsV (.string sb)) _ (fun w' e => ld_str w' _ _ ((HE9.out.trans e).cell (show World.cell? X6 ⟨gn, 0 + i, none⟩ = some (.string sb) by rw [Nat.zero_add]; exact HNM.out i _ HM.out.2.2))) (Od.lc 20 56) (fun _ _ => rfl)) ?_
        refine RcG 15 51 false (cl2 (Φ := IsSr (usS (rpN s x))) (Ψ := IsV (.string sb)) (Χ := IsV (.bool false)) (en Tryz.func26) (Od.lc 17 53) (Od.lc 21 57) (fun x0 y0 w' hE d0 d1 => by { obtain rfl : y0 = .string sb := d1; have h := Has_f (s := s) d0 (by have h1 := nm5_count (x := rpN s x) (tr_rp [] (tr_rp s HTR.out).1).2.2.2.2; have h2 := List.length_filter_le (fun t => decide (t ∈ usN (rpN s x))) nm5; have h3 : nm5.length = 5 := rfl; omega); rw [HM.out.2.1, decide_eq_false HW.out.2.2.1] at h; exact h })) ?_
        refine Rc (pkO (b := false) (b2 := false) (r := false) (Od.lc 15 51) (fun _ => Od.lc (Φ := IsV (.bool false)) 22 58) rfl) ?_
        exact RgAll.nil
      intro u X10 e10 hΦ _
      simp only [layL, Act.put, List.setIfInBounds_toArray, List.set_cons_zero, List.set_cons_succ, Nat.reduceAdd]
      rw [show u 23 = .bool false from hΦ 23 (by decide)]
      clear hΦ
      have HE10 := hid (HE9.out.trans e10)
      clear e10 HR9 HB9 HE9
      refine wpAny_done (by kernel_rfl) ?_ _
      cases ch with
      | true =>
        have hcw : IntKind.i64.wrap ((c : Int) + 1) = ((c + 1 : Nat) : Int) := by have := HC.out; simp only [IntKind.wrap_i64]; omega
        have HCN2 := hid (show cnt5 x (i + 1) = c + 1 by rw [cnt5_succ HM.out.1, HCH.out, HCN.out]; rfl)
        go_wp2_with fail
        go_roundg (gk - 1)
        case measure => have := HI.out; omega
        case rel => exact ⟨i + 1, c + 1, rfl, rfl, by have := HI.out; omega, hid ⟨HE10.out, HCN2.out⟩⟩
      | false =>
        have HCN2 := hid (show cnt5 x (i + 1) = c by rw [cnt5_succ HM.out.1, HCH.out, HCN.out]; rfl)
        go_wp2_with fail
        go_roundg (gk - 1)
        case measure => have := HI.out; omega
        case rel => exact ⟨i + 1, c, rfl, rfl, by have := HI.out; omega, hid ⟨HE10.out, HCN2.out⟩⟩
    · have hi5 : ¬ (i : Int) < 5 := by omega
      have h5 : i = 5 := by omega
      obtain rfl : c = nu := by
        have h1 := nm5_count (x := x) (tr_rp [] HTR.out).2.2.2.2
        rw [← S.out.2, h5, ← HNU.out, ← h1, cnt5]
        rfl
      have HEX := hid (HE6.out.trans S.out.1)
      have HUX := hid S.out.1
      have HCL := hid (show c ≤ 5 by have h := S.out.2; have := cnt5_le x i; omega)
      clear h5 S hg
      go_wp2_with fail
      go_loopg [11] c (fun gk v11 wr2 => ∃ j : Nat, v11 = .int .i64 ((j : Nat) : Int) ∧ Hid (∃ m : Nat, j = m + 1 ∧ m + gk = c ∧ Ext wr wr2))
      case atStart => exact ⟨1, rfl, hid ⟨0, rfl, by omega, Ext.refl _⟩⟩
      case round =>
        obtain ⟨j, rfl, S'⟩ := hrel
        obtain ⟨m, hjm, hm, S0⟩ := S'.out
        have S := hid S0
        have HJM := hid hjm
        clear S' S0
        by_cases hmc : j < c
        · have hml : (j : Int) < (c : Int) := by omega
          have hmw : IntKind.i64.wrap ((j : Int) - 1) = (m : Int) := by have := HCL.out; simp only [IntKind.wrap_i64]; omega
          have hmw2 : IntKind.i64.wrap ((j : Int) + 1) = ((j + 1 : Nat) : Int) := by have := HCL.out; simp only [IntKind.wrap_i64]; omega
          obtain ⟨p, hp⟩ : ∃ p, (usS x)[m]? = some p := ⟨_, List.getElem?_eq_getElem (by rw [HNU.out]; omega)⟩
          obtain ⟨q, hq⟩ : ∃ q, (usS x)[j]? = some q := ⟨_, List.getElem?_eq_getElem (by rw [HNU.out]; omega)⟩
          have hlt := usS_lt x hp (hjm ▸ hq)
          obtain ⟨g, o, rfl, hcs⟩ := HU6.out (fun e => by rw [e] at hp; cases hp)
          obtain ⟨pb, hpb⟩ : ∃ y : ByteArray, (⟨p.toArray⟩ : ByteArray) = y := ⟨_, rfl⟩
          obtain ⟨qb, hqb⟩ : ∃ y : ByteArray, (⟨q.toArray⟩ : ByteArray) = y := ⟨_, rfl⟩
          have HCP := hid (show World.cell? X6 ⟨g, o + m, none⟩ = some (.string pb) by rw [← hpb]; exact hcs m _ hp)
          have HCQ := hid (show World.cell? X6 ⟨g, o + j, none⟩ = some (.string qb) by rw [← hqb]; exact hcs j _ hq)
          have HM := hid (And.intro hmc hm)
          have hge : ∀ w', Sem.run Tryz.prog (do eqGuard .geq 9 (.tmp 73) (.tmp 77) (.string pb) (.string qb); binOp .geq 9 (.string pb) (.string qb)) w' = .ok (.bool false) w' := fun w' => by
            have hpl : pb.toList = p := by rw [← hpb]; exact tl_of p
            have hql : qb.toList = q := by rw [← hqb]; exact tl_of q
            have hbl : Op.bytesLess p q = true := by rw [bytesLess_eq]; exact decide_eq_true hlt
            go_simp
          have HGE := hid hge
          clear hmc hm hp hq hlt hcs hpb hqb hge hjm
          go_upto_region 20 with (fail)
          refine rg 10 [some 69, some 70, some 71, some 72, some 73, some 74, some 75, some 76, some 77, some 78] [IsV (.slice (some ⟨g, o, none⟩) c cp5), IsV (.int .i64 ((j : Nat) : Int)), IsV (.int .i64 ((m : Nat) : Int)), IsV (.pointer (some ⟨g, o + m, none⟩)), IsV (.string pb), IsV (.slice (some ⟨g, o, none⟩) c cp5), IsV (.int .i64 ((j : Nat) : Int)), IsV (.pointer (some ⟨g, o + j, none⟩)), IsV (.string qb), IsV (.bool false)] [] 0 ?_ ?_ (hst := by repeat' (first | exact trivial | exact IsV.stb _ | exact IsNd.stb _ _ | exact IsNz.stb _ | exact IsRw.stb _ _ | exact IsNr.stb _ _ _ | exact IsSr.stb _ | apply And.intro))
          · refine Rc (mv (Od.lit 5)) ?_
            refine Rc (mv (Od.lit (x := .int .i64 ((j : Nat) : Int)) 11)) ?_
            refine Rc (bn (r := .int .i64 ((m : Nat) : Int)) (Od.lc (Φ := IsV (.int .i64 ((j : Nat) : Int))) 1 70) Od.con (hr := fun w => by go_simp)) ?_
            refine Rc (ixq (ix_St g o cp5 c m (by have := HM.out.1; have := HJM.out; omega)) (Od.lc 0 69) (Od.lc (Φ := IsV (.int .i64 ((m : Nat) : Int))) 2 71)) ?_
            refine Rc (lv (Φ := IsV (.string pb)) _ (fun w' e => ld_str w' _ _ ((HUX.out.trans (S.out.trans e)).cell HCP.out)) (Od.lc 3 72) (fun _ _ => rfl)) ?_
            refine Rc (mv (Od.lit 5)) ?_
            refine Rc (mv (Od.lit (x := .int .i64 ((j : Nat) : Int)) 11)) ?_
            refine Rc (ixq (ix_St g o cp5 c j HM.out.1) (Od.lc 5 74) (Od.lc (Φ := IsV (.int .i64 ((j : Nat) : Int))) 6 75)) ?_
            refine Rc (lv (Φ := IsV (.string qb)) _ (fun w' e => ld_str w' _ _ ((HUX.out.trans (S.out.trans e)).cell HCQ.out)) (Od.lc 7 76) (fun _ _ => rfl)) ?_
            refine Rc (bn (r := .bool false) (Od.lc (Φ := IsV (.string pb)) 4 73) (Od.lc (Φ := IsV (.string qb)) 8 77) (hr := HGE.out)) ?_
            exact RgAll.nil
          intro u X12 e12 hΦ _
          simp only [layL, Act.put, List.setIfInBounds_toArray, List.set_cons_zero, List.set_cons_succ, Nat.reduceAdd]
          rw [show u 9 = .bool false from hΦ 9 (by decide)]
          clear hΦ
          have HS12 := hid (S.out.trans e12)
          clear e12 S
          refine wpAny_done (by kernel_rfl) ?_ _
          go_wp2_with fail
          go_roundg (gk - 1)
          case measure => have := HM.out; have := HJM.out; omega
          case rel => exact ⟨j + 1, rfl, hid ⟨m + 1, by have := HJM.out; omega, by have := HM.out; have := HJM.out; omega, HS12.out⟩⟩
        · have hml : ¬ (j : Int) < (c : Int) := by omega
          go_wp2_with fail
          go_ret
          exact ⟨_, rfl, HEX.out.trans S.out, rfl⟩
end
end Go.Proofs.YtenhciieboegbaaGreatDoor
namespace Go.Proofs.YtenhciieboegbaaGreatDoor
open Go Go.RowKit Go.ChangeShapes Go.WideShapes Go.ChangeAt Go.Joins
section
variable {H : Type} {enc : TypeId × Value → H}
set_option maxRecDepth 100000 in
theorem bytes_arg {W : World} {b0 : Nat} {r : Reach} {t : TypeId} {v : Value} {d : DataW H} {p : List MemPlace} (ht : Tryz.prog.underlying t = some (.slice 5)) (hv : Value.okWide Tryz.prog W r b0 t v) (h : DataW.Trod enc Tryz.prog W 0 (fun _ => true) true t v d p) : IsBy v W ∧ ReadsC enc W t v d p := by
  obtain ⟨a, n, c, rfl⟩ := okWide_slice ht hv
  obtain ⟨fuel, hf⟩ := h
  obtain ⟨h1, h2⟩ := bytes_open ht (c := .slice a n c) (y := (d, p)) (by simpa [Value.cells] using hf)
  exact ⟨h1, fun W' sp hb hs => let ⟨m, hm⟩ := h2 W' sp hb hs; ⟨m, by simpa [Value.cells] using hm⟩⟩
end
set_option maxRecDepth 100000 in
theorem notebookUses_lifted (os : Os) (started : os.Started) (H : Type) (enc : TypeId × Value → H) :
    ReturnsInHanded {} Tryz.checked os 8 .any (fun w args => (Rows.notebookUsesSpec.pre enc Tryz.prog Tryz.f8 [] false w args ∧ laidMetH Tryz.prog Rows.notebookUsesRow.laid w) ∧ sizedMet enc Tryz.prog Tryz.f8 (OpenSpec.ofChange Rows.notebookUsesSpec) false w args)
      (Rows.notebookUsesSpec.post enc Tryz.prog Tryz.f8 false true false false) := by
  refine handed_and_shaped (C := Tryz.checked) (X := fun w _ => laidMetH Tryz.prog Rows.notebookUsesRow.laid w) (fun _ _ _ hh h => h.of_heap hh) own started (by kernel_rfl) Tryz.func8
    (ChangeSpec.witness_shaped (enc := enc) (C := Tryz.checked) (os := os) (X := fun w _ => laidMetH Tryz.prog Rows.notebookUsesRow.laid w) false (World.laidAll Tryz.prog os Rows.notebookUsesRow.laid) #[.slice none 0 0] 8 (World.laidAll_os _ _ _)
      (World.shaped_of_ZipB (by kernel_rfl) (by kernel_rfl)) (by kernel_rfl) (by kernel_rfl) (by kernel_rfl)
      (by rw [MakeChecks.laidMetH_plain _ _ _ (by kernel_rfl)]; exact laidMet_laidAll _ (by kernel_rfl) (by kernel_rfl))) ?_
  intro W base args ds gs before hval0 hW hL hsh
  have hT := tabM_of (show laidMetH Tryz.prog Rows.notebookRoundsRow.laid W from hL) hsh
  have hval : ∀ (j : Nat) t v, Tryz.f8.params[j]? = some t → args[j]? = some v → Value.okWide Tryz.prog W .any base t v := hval0
  have hW' := hW
  obtain ⟨p, q, hA0, hV, rfl, hfz, hnd⟩ := hW
  have hA : DataW.TrodAll enc Tryz.prog W 0 (fun _ => true) true Tryz.f8.params.toList args.toList ds p := hA0
  rw [Tryz.params8] at hA hval
  obtain ⟨v1, d1, rfl, rfl, k1⟩ := trodAll_one hA
  obtain ⟨rfl, rfl⟩ := trodVars_none hV
  obtain ⟨b1, r1⟩ := bytes_arg (by kernel_rfl) (hval 0 52 v1 rfl rfl) k1
  clear hA0 hval0
  refine (Uses_w hT b1).mono fun e W' ⟨x, he, hb, hx⟩ => ?_
  have hx : x = .bool true := hx
  subst he; subst hx
  refine ⟨_, rfl, post_of_below (pa := p) (pv := []) hW' (fun _ _ _ => trodAll_mk1 (shut_bool Tryz.underlying4 true)) (fun sp hsp => ?_) (fun _ _ => rfl) (by simp) hb (ok_one (by kernel_rfl) rfl (okWide_bool_mk Tryz.underlying4 _))⟩
  rw [Tryz.params8]
  exact trodAll_mk1 (r1 W' sp hb (fun q hq => hsp q (by simp [hq])))

theorem notebookUses_row : Rows.NotebookUsesSaid :=
  OpenClaim.holds_of_wide 8 Tryz.f8 rfl rfl rfl rfl rfl rfl rfl ⟨rfl, rfl, rfl, rfl, rfl⟩ rfl rfl rfl rfl rfl notebookUses_named Tryz.func8 notebookUses_closed
    (of_decide_eq_true (by kernel_rfl)) (by unfold Func.isWrapper; first | (rw [if_pos (by decide +kernel)]; kernel_rfl) | (rw [if_neg (by decide +kernel)]; exact ⟨rfl, rfl⟩))
    (fun os started H enc _ => notebookUses_lifted os started H enc)

set_option maxRecDepth 100000 in
/-- The tied card. -/
theorem notebookUses_holds : Rows.NotebookUsesCardSaid :=
  Claim7.holds_tied_plain_at .later [] [.data, .data, .data, .data, .pinned] true Rows.notebookUsesCard.stood.harness true
    notebookUses_row (fun _ h => by cases h) (by kernel_rfl) (fun _ h => by cases h) notebookUses_row_tie rfl ⟨rfl, rfl⟩ (by kernel_rfl) rfl
    (fun f fn hf hfn => by
      obtain rfl : f = 8 := Option.some.inj ((show Tryz.prog.funcNamed "algorist/algoristlaw42.NotebookUses" = some 8 by kernel_rfl).symm.trans hf) |>.symm
      obtain rfl : fn = Tryz.f8 := (Option.some.inj (Tryz.func8.symm.trans hfn)).symm
      refine ⟨by kernel_rfl, fun j t ht => ?_⟩
      rw [Tryz.params8] at ht
      have h3 : t = 52 := by
        rcases j with _ | j
        · exact (by simpa using ht.symm)
        · simp at ht
      subst h3
      exact (show Tryz.prog.wantsStandIn 52 = false by kernel_rfl))
    (by kernel_rfl)
#print axioms notebookUses_holds
end Go.Proofs.YtenhciieboegbaaGreatDoor
