/-
 The law's helpers: alone, is. (Printed by wip/gen/ev18.py.)
 A range over an iterator that keeps a state of its own in a box (density.powers divides the n that it has captured): the contract of such an
 iterator, and the law of the statement that ranges over it. Over the kit's lower laws wpIn_rangeFunc and roundIn_of_wpIn.
-/
import Derived.Test.YtkeikfekkdplgaaGreatDoorEv17
import Derived.RangeFuncMany
import Derived.RangeFuncWrites
import Derived.Below
namespace Go.Proofs.YtkeikfekkdplgaaGreatDoor
open Go Go.RowKit Go.Maps
/-- No cells, no entries. -/
def M0 : Mem Sts := ⟨fun _ s => (.error 440, s), fun _ _ _ s => (.error 6, s)⟩
theorem evh0 {w : World} {e : Ex} {us : List Value} {s0 : Nat} {res : Res Kn} {left : Nat} (hn : IsNd w.heap.size e us w) (hw : wfE (fun _ => True) (fun _ _ _ => False) e []) (hev : ev M0 e [] (s0, ([], [])) = (res, (left, ([], [])))) :
  EvH w us none none none none 0 0 0 0 0 0 0 0 s0 res left [] [] := by
 intro h w' h1 h2 h3 h4 h5
 have := eval_f M0 ⟨h, .slice none 0 0, .slice none 0 0, .slice none 0 0, .slice none 0 0⟩ (JJ h) (JJ.inv h) (fun _ => True) (fun _ _ _ => False) (fun x st w2 _ hM hj hh => cell0_f rfl (JJ.inv h) hh hM hj) (fun x n env ve st w2 hf => hf.elim) e [] us (.slice none 0 0) (s0, ([], [])) w' hw ((IsNd.up h1 hn).rm (Rm.ext h2)) (IsEnv.nil h w') h3 h4 h5
 rw [hev] at this
 exact this
theorem IsRS.out {B g : Nat} {l : List ByteArray} {v : Value} {w w' : World} (h : IsRS B l v w) (Bn : Bk w g zOut) (O : OnlyB g w w') : IsRS B l v w' := by
 cases l with
 | nil => exact h
 | cons x t =>
  obtain ⟨g', c, h1, h0, h2, h3⟩ := h
  refine ⟨g', c, h1, h0, h2, (World.cell?_of_block (w := w) (a := ⟨g', 0, none⟩) (O.block g' fun e => ?_)).trans h3⟩
  have := Bn.c 0 _ rfl
  rw [← e, h3] at this
  cases this
theorem IsRI.out {B g : Nat} {l : List Int} {v : Value} {w w' : World} (h : IsRI B l v w) (Bn : Bk w g zOut) (O : OnlyB g w w') : IsRI B l v w' := by
 cases l with
 | nil => exact h
 | cons x t =>
  obtain ⟨g', c, h1, h0, h2, h3⟩ := h
  refine ⟨g', c, h1, h0, h2, (World.cell?_of_block (w := w) (a := ⟨g', 0, none⟩) (O.block g' fun e => ?_)).trans h3⟩
  have := Bn.c 0 _ rfl
  rw [← e, h3] at this
  cases this
theorem fa_Vl0 (g : Nat) (w : World) : (Instr.fieldAt 50 (.pointer (some ⟨g, 0, none⟩)) 0).run Tryz.prog w = .ok (.pointer (some ⟨g, 0, none⟩)) w := by go_simp
theorem fa_Vl1 (g : Nat) (w : World) : (Instr.fieldAt 50 (.pointer (some ⟨g, 0, none⟩)) 1).run Tryz.prog w = .ok (.pointer (some ⟨g, 8, none⟩)) w := by go_simp
theorem fa_Vl3 (g : Nat) (w : World) : (Instr.fieldAt 50 (.pointer (some ⟨g, 0, none⟩)) 3).run Tryz.prog w = .ok (.pointer (some ⟨g, 10, none⟩)) w := by go_simp
theorem ld_e : LdC1 Tryz.prog 48 := fun w a v h => by go_simp
set_option maxRecDepth 100000 in
set_option maxHeartbeats 8000000 in
theorem alone_g {w : World} {x : Value} {s0 : Nat} {res : Res Kn} {left : Nat} {rd : List ByteArray} {hy : List Int} (hs : s0 ≤ 100000) (HU : ∃ us : List Value, x = .agg us.toArray ∧ us.length = 8 ∧ EvH w us none none none none 0 0 0 0 0 0 0 0 s0 res left rd hy) :
  Calls Tryz.prog 41 #[x, .int .i64 ((s0 : Nat) : Int)] w (Ret w (IsOut res left rd hy)) := by
 obtain ⟨us, rfl, hl, HC⟩ := HU
 replace HC := hid HC
 have hl0 := hl
 obtain ⟨u0, u1, u2, u3, u4, u5, u6, u7, rfl⟩ := len8 hl
 clear hl
 obtain ⟨W, hW, E, B2, B4⟩ : ∃ W, W = (w.alloc (.cells #[u0, u1, u2, u3, u4, u5, u6, u7] 31)).alloc (.cells #[.bool false, .slice none 0 0, .bool false, .slice none 0 0, .bool false, .slice none 0 0, .bool false, .slice none 0 0, .bool false, .slice none 0 0, .int .i64 0, .slice none 0 0, .int .i64 0] 53) ∧ Ext w W ∧ Bk W w.heap.size [u0, u1, u2, u3, u4, u5, u6, u7] ∧ Bk W (w.heap.size + 1) zOut :=
  ⟨_, rfl, ((Ext.refl w).alloc _).alloc _, (Bk.new w _ _).ext ((Ext.refl _).alloc _), Bk.newE _ _ (by simp) _ _⟩
 go_enter Tryz.func41, Tryz.ntmps41
 go_upto_region 1 with (fail)
 rw [← hW]
 clear hW
 refine rgs 4 [some 5, some 6, some 7, some 8] [IsV (.agg #[u0, u1, u2, u3, u4, u5, u6, u7]), IsV (.agg #[.slice none 0 0]), IsV (.int .i64 ((s0 : Nat) : Int)), IsOut res left rd hy] [] ?_ ?_ (hst := by repeat' (first | exact trivial | exact IsV.stb _ | exact IsOut.stb _ _ _ _ | apply And.intro))
 ·refine Rc (lvV B2 ld_Nd8 (Od.lit 2)) ?_
  refine Rc (Ok.of (by kernel_rfl) fun v a w2 hE hd hf => ⟨_, bdG rfl (by { rw [show (Array.map (fun p : Nat × Operand => (p.fst, a.eval p.snd)) #[]) = #[] from by simp]; go_simp }), rfl⟩) ?_
  refine Rc (mv (Od.lit 1)) ?_
  refine Rc (cl (en Tryz.func16) rfl rfl (by kernel_rfl) (by kernel_rfl) fun v a w2 hE hd hf => by
   have e1 : a.eval (.tmp 5) = _ := (Od.lc (Φ := IsV (.agg #[u0, u1, u2, u3, u4, u5, u6, u7])) 0 5 : Od _ _ _ _ _ _ _ _).out v a w2 hE hd hf
   have e2 : a.eval (.tmp 6) = _ := (Od.lc (Φ := IsV (.agg #[.slice none 0 0])) 1 6 : Od _ _ _ _ _ _ _ _).out v a w2 hE hd hf
   have e3 : a.eval (.tmp 7) = _ := (Od.lc (Φ := IsV (.int .i64 ((s0 : Nat) : Int))) 2 7 : Od _ _ _ _ _ _ _ _).out v a w2 hE hd hf
   simp only [List.map_toArray, List.map_cons, List.map_nil]
   rw [e1, e2, e3]
   exact run_f (us := [u0, u1, u2, u3, u4, u5, u6, u7]) (ca := none) (va := none) (sa := none) (ga := none) hl0 hs (HC.out.ext (E.trans hE))) ?_
  exact RgAll.nil
 intro v X1 e1 hΦ _
 replace E := E.trans e1
 replace B4 := B4.ext e1
 obtain ⟨vl, ha, hn, hc, ra, rn, rc, hv, h1, h2, h3, h4, h5, h6⟩ := hΦ 3 (by decide)
 have hw1 : w.heap.size + 1 < X1.heap.size := B4.lt
 obtain ⟨l0, l1, l2, l3, l4, l5, l6, l7, l8, l9, l10, rfl⟩ := len11 h1
 simp only [layL, Act.put, uAx, u0x, u1x, Nat.reduceAdd]
 rw [hv]
 clear hv hΦ e1 B2
 refine stL (fun K hK => ?_)
 have hone2 : [l0, l1, l2, l3, l4, l5, l6, l7, l8, l9, l10, Value.slice ra rn rc, .int .i64 ((left : Nat) : Int)].all (fun u => u.oneCell') = true := by
  rw [show [l0, l1, l2, l3, l4, l5, l6, l7, l8, l9, l10, Value.slice ra rn rc, .int .i64 ((left : Nat) : Int)] = [l0, l1, l2, l3, l4, l5, l6, l7, l8, l9, l10] ++ [Value.slice ra rn rc, .int .i64 ((left : Nat) : Int)] from rfl, List.all_append, h2]; rfl
 refine stVO (us := [l0, l1, l2, l3, l4, l5, l6, l7, l8, l9, l10, .slice ra rn rc, .int .i64 ((left : Nat) : Int)]) B4 st_Out rfl rfl nwOut (fun X6 B9 O => hK _ _ ?_) (ho1 := hone2)
 replace E := O.ext E (by omega)
 have hvl6 := IsVl.gstb _ _ _ _ _ O.gr h4
 have h57 := h5.out B4 O
 have h67 := h6.out B4 O
 refine wpList_nil ?_
 have d0 := B9.c 0 _ rfl; have d1 := B9.c 1 _ rfl; have d2 := B9.c 2 _ rfl; have d3 := B9.c 3 _ rfl; have d4 := B9.c 4 _ rfl; have d5 := B9.c 5 _ rfl; have d6 := B9.c 6 _ rfl; have d7 := B9.c 7 _ rfl; have d8 := B9.c 8 _ rfl; have d9 := B9.c 9 _ rfl; have d10 := B9.c 10 _ rfl; have d11 := B9.c 11 _ rfl; have d12 := B9.c 12 _ rfl
 clear hK K O B9
 go_wp2_with fail
 exact bodyPost_ret (v := .agg #[l0, l1, l2, l3, l4, l5, l6, l7, l8, l9, l10, .slice ra rn rc, .int .i64 ((left : Nat) : Int)]) (by simp [results, Tryz.results41, go_sem, d0, d1, d2, d3, d4, d5, d6, d7, d8, d9, d10, d11, d12]) rfl ⟨_, rfl, E, [l0, l1, l2, l3, l4, l5, l6, l7, l8, l9, l10], ha, hn, hc, ra, rn, rc, rfl, rfl, h2, h3, hvl6, h57, h67⟩
theorem alone_f {w : World} {x : Value} {e : Ex} {s0 : Nat} {res : Res Kn} {left : Nat} (hx : IsNe e x w) (hs : s0 ≤ 100000) (hw : wfE (fun _ => True) (fun _ _ _ => False) e []) (hev : ev M0 e [] (s0, ([], [])) = (res, (left, ([], [])))) :
  Calls Tryz.prog 41 #[x, .int .i64 ((s0 : Nat) : Int)] w (Ret w (IsOut res left [] [])) := by
 obtain ⟨us, rfl, hl, _, _, hn⟩ := hx
 exact alone_g hs ⟨us, rfl, hl, evh0 hn hw hev⟩

set_option maxRecDepth 100000 in
set_option maxHeartbeats 8000000 in
theorem is_f {q : Kn} {ha : Option Addr} {hn hc : Nat} {x : Value} {w : World} (hx : IsVl (.ok q) (.slice ha hn hc) x w) (hl : -9223372036854775808 ≤ q.lo ∧ q.lo ≤ 9223372036854775807) (hh : -9223372036854775808 ≤ q.hi ∧ q.hi ≤ 9223372036854775807) :
  Calls Tryz.prog 38 #[x, .int .i64 q.lo, .int .i64 q.hi, .bool q.fin] w (Ret w (IsV (.bool true))) := by
 have HL := hid hl; have HH := hid hh; clear hl hh
 obtain ⟨s1, a1, n1, c1, s2, a2, n2, c2, s3, a3, n3, c3, s4, a4, n4, c4, rfl, g1, g2⟩ := hx
 obtain ⟨W, hW, E, B⟩ : ∃ W, W = w.alloc (.cells #[.bool s1, .slice a1 n1 c1, .bool s2, .slice a2 n2 c2, .bool s3, .slice a3 n3 c3, .bool s4, .slice a4 n4 c4, .bool q.fin, .slice ha hn hc, .int .i64 0] 50) ∧ Ext w W ∧ Bk W w.heap.size [.bool s1, .slice a1 n1 c1, .bool s2, .slice a2 n2 c2, .bool s3, .slice a3 n3 c3, .bool s4, .slice a4 n4 c4, .bool q.fin, .slice ha hn hc, .int .i64 0] := ⟨_, rfl, (Ext.refl w).alloc _, Bk.new w _ _⟩
 replace g1 := IsRat.stbE _ _ _ _ _ E g1
 replace g2 := IsRat.stbE _ _ _ _ _ E g2
 go_enter Tryz.func38, Tryz.ntmps38
 go_upto_region 1 with (fail)
 rw [← hW]
 clear hW
 refine rg 26 [some 9, some 10, some 11, some 12, some 13, some 14, some 15, some 16, some 17, some 18, some 19, some 20, some 21, some 22, some 23, some 24, some 25, some 26, some 27, some 28, some 29, some 30, some 31, some 32, some 33, some 8] [IsV (.pointer (some ⟨w.heap.size, 10, none⟩)), IsV (.int .i64 0), IsV (.bool true), IsV (.bool true), IsV (.pointer (some ⟨w.heap.size, 8, none⟩)), IsV (.bool q.fin), IsV (.bool q.fin), IsV (.bool true), IsV (.bool true), IsV (.bool true), IsV (.pointer (some ⟨w.heap.size, 0, none⟩)), IsV (.pointer (some ⟨w.heap.size, 0, none⟩)), IsRat 130 (Rat.divInt q.lo 1), IsV (.int .i64 q.lo), IsRat 2 (Rat.divInt q.lo 1), IsV (.bool true), IsV (.bool true), IsV (.bool true), IsV (.pointer (some ⟨w.heap.size, 0, none⟩)), IsV (.pointer (some ⟨w.heap.size, 4, none⟩)), IsRat 130 (Rat.divInt q.hi 1), IsV (.int .i64 q.hi), IsRat 2 (Rat.divInt q.hi 1), IsV (.bool true), IsV (.bool true), IsV (.bool true)] [] 0 ?_ ?_ (hst := by repeat' (first | exact trivial | exact IsV.stb _ | exact IsRat.stbE _ _ | apply And.intro))
 ·refine Rc (fa (fa_Vl3 w.heap.size) (Od.lit 4)) ?_
  refine Rc (lvC 10 B ld_e (Od.lc 0 9)) ?_
  refine Rc (bn (r := .bool true) (Od.loc 1 10) Od.con (hr := fun w => by go_simp)) ?_
  refine Rc (mv (Od.lc 2 11)) ?_
  refine RcG 3 12 true (fa (fa_Vl1 w.heap.size) (Od.lit 4)) ?_
  refine RcG 3 12 true (lvC 8 B ld_b (Od.lc 4 13)) ?_
  refine RcG 3 12 true (mv (Od.lit 3)) ?_
  refine RcG 3 12 true (bn (r := .bool true) (Od.loc 5 14) (Od.loc 6 15) (hr := fun w => by go_simp)) ?_
  refine Rc (pk (Od.loc 3 12) (Od.lc 7 16)) ?_
  refine Rc (mv (Od.lc 8 17)) ?_
  refine RcG 9 18 true (fa (fa_Vl0 w.heap.size) (Od.lit 4)) ?_
  refine RcG 9 18 true (fa (fa_Iv0 w.heap.size 0) (Od.lc 10 19)) ?_
  refine RcG 9 18 true (lv (Φ := IsRat 130 (Rat.divInt q.lo 1)) _ (fun w' e => ld_Rat w' w.heap.size 0 s1 a1 n1 c1 s2 a2 n2 c2 ((B.ext e).c 0 _ rfl) ((B.ext e).c 1 _ rfl) ((B.ext e).c 2 _ rfl) ((B.ext e).c 3 _ rfl)) (Od.lc 11 20) (fun w' e => IsRat.stbE _ _ _ _ _ e g1)) ?_
  refine RcG 9 18 true (mv (Od.lit 1)) ?_
  refine RcG 9 18 true (cl2 (en Tryz.func47) (Od.lc (Φ := IsV (.int .i64 q.lo)) 13 22) Od.con (fun x0 x1 w' hE d0 d1 => by { obtain rfl : x0 = .int .i64 q.lo := d0; obtain rfl : x1 = .int .i64 1 := d1; exact rqOf_f w' q.lo 1 HL.out (by decide) (by decide) })) ?_
  refine RcG 9 18 true (cl2 (en Tryz.func19) (Od.lc (Φ := IsRat 130 (Rat.divInt q.lo 1)) 12 21) (Od.lc (Φ := IsRat 2 (Rat.divInt q.lo 1)) 14 23) (fun x0 x1 w' hE d0 d1 => rqSame_eq d0 d1 (by decide) rfl)) ?_
  refine Rc (pk (Od.loc 9 18) (Od.lc 15 24)) ?_
  refine Rc (mv (Od.lc 16 25)) ?_
  refine RcG 17 26 true (fa (fa_Vl0 w.heap.size) (Od.lit 4)) ?_
  refine RcG 17 26 true (fa (fa_Iv1 w.heap.size 0) (Od.lc 18 27)) ?_
  refine RcG 17 26 true (lv (Φ := IsRat 130 (Rat.divInt q.hi 1)) _ (fun w' e => ld_Rat w' w.heap.size 4 s3 a3 n3 c3 s4 a4 n4 c4 ((B.ext e).c 4 _ rfl) ((B.ext e).c 5 _ rfl) ((B.ext e).c 6 _ rfl) ((B.ext e).c 7 _ rfl)) (Od.lc 19 28) (fun w' e => IsRat.stbE _ _ _ _ _ e g2)) ?_
  refine RcG 17 26 true (mv (Od.lit 2)) ?_
  refine RcG 17 26 true (cl2 (en Tryz.func47) (Od.lc (Φ := IsV (.int .i64 q.hi)) 21 30) Od.con (fun x0 x1 w' hE d0 d1 => by { obtain rfl : x0 = .int .i64 q.hi := d0; obtain rfl : x1 = .int .i64 1 := d1; exact rqOf_f w' q.hi 1 HH.out (by decide) (by decide) })) ?_
  refine RcG 17 26 true (cl2 (en Tryz.func19) (Od.lc (Φ := IsRat 130 (Rat.divInt q.hi 1)) 20 29) (Od.lc (Φ := IsRat 2 (Rat.divInt q.hi 1)) 22 31) (fun x0 x1 w' hE d0 d1 => rqSame_eq d0 d1 (by decide) rfl)) ?_
  refine Rc (pk (Od.loc 17 26) (Od.lc 23 32)) ?_
  refine Rc (mv (Od.lc 24 33)) ?_
  exact RgAll.nil
 intro v X1 e1 hΦ _
 replace E := E.trans e1
 simp only [layL, Act.put, uAx, u0x, u1x, Nat.reduceAdd]
 rw [show v 25 = .bool true from hΦ 25 (by decide)]
 clear hΦ e1
 refine wpAny_done (by kernel_rfl) ?_ _
 go_wp2_with fail
 go_ret
 exact ⟨_, rfl, E, rfl⟩
end Go.Proofs.YtkeikfekkdplgaaGreatDoor
namespace Go.Proofs.YtkeikfekkdplgaaGreatDoor
open Go Go.RowKit

/-- What abides new blocks and whatever is done to the block c. -/
def Lone {α : Type} (c : Nat) (J : α → World → Prop) : Prop := ∀ s A B, J s A → A.grownBy B (some c) → J s B

theorem lone_at {A B : World} {c k : Nat} {o : Obj} (hg : A.grownBy B (some c)) (hk : A.heap[k]? = some o) (hne : k ≠ c) : B.heap[k]? = some o :=
 (hg.block k (Array.getElem?_eq_some_iff.1 hk).1 (fun e => hne (by cases e; rfl))).trans hk

/-- The contract of an iterator whose state lies in block c: it calls yield with xs, one by one; the body leaves c alone and keeps J. -/
def SeqBox {α : Type} (F : Fence) (n : Nat) (P : Program) (g : Nat) (lb : Array Value) (encs : α → Array Value) (c : Nat) (S Sp : List α → Prop) (w : World) : Prop :=
 ∀ (l : Nat) (J Jx : List α → World → Prop) (W : World), Below w.heap.size w W → Lone c J → Lone c Jx →
  (∀ pre x W1, J pre W1 → Sp (pre ++ [x]) → YieldAt F (n - 1) P l (encs x) W1 fun e W' =>
   (e = .returned (.bool true) ∧ J (pre ++ [x]) W' ∧ W'.heap[c]? = W1.heap[c]?) ∨ (e = .returned (.bool false) ∧ Jx (pre ++ [x]) W')) →
  J [] W →
  CallsIn F n P g (#[.func (.yield l) #[] #[]] ++ lb) W fun e W' => (∃ v, e = .returned v) ∧ ((∃ xs, S xs ∧ J xs W') ∨ (∃ pre, Sp pre ∧ Jx pre W'))

/-- The jump with which a body's end ends its round. -/
def jumpOf : Exit → Option (Option Code)
 | .normal => some none
 | .ret => some (some .ret)
 | .exit id => some (some (.exit id))
 | .goto t => some (some (.goto t))
 | .panic _ => none
 | .outgrown => none

theorem roundPost_of {P : Program} {l : Nat} {R : Ending → World → Prop} {e : Exit} {j : Option Code} {a : Act} {w : World} (hj : jumpOf e = some j)
  (h : ∃ v w', (Instr.endRound l j).run P w = .ok v w' ∧ R (.returned v) w') : roundPost P l R e a w := by
 cases e <;> simp only [jumpOf, Option.some.injEq, reduceCtorEq] at hj <;> subst hj <;> exact h

def boxPost {α : Type} (B c : Nat) (I : List α → World → Prop) (Ix : Code → List α → World → Prop) (xs : List α) (W : World) (e : Exit) (_ : Act) (W' : World) : Prop :=
 ∃ j, jumpOf e = some j ∧ KeepsFrom B W W' ∧ (match j with | none => W'.heap[c]? = W.heap[c]? ∧ I xs W' | some q => Ix q xs W')

variable {F : Fence} {n : Nat} {P : Program}

theorem wpIn_rangeFunc_box {α : Type} {g : Operand} {ps : Array Tmp} {assign body : Code} {Q : Exit → Act → World → Prop} {a : Act} {w : World}
  (hro : F.round = none) (h1 : 1 ≤ n) {gf : Nat} {lb : Array Value} (hg : a.eval g = .func (.func gf) #[] lb) (hFg : F.fn gf) (eg : ∀ args w, (callFunc gf args).run P w = .ok (.enter gf args) w)
  {encs : α → Array Value} {c : Nat} {S Sp : List α → Prop} (hc : c < w.heap.size) (hseq : SeqBox F (n - 1) P gf lb encs c S Sp w) (hps : ∀ x, (encs x).size = ps.size)
  (I : List α → World → Prop) (Ix : Code → List α → World → Prop) (hI : OwnFrom w.heap.size I) (hIx : ∀ q, OwnFrom w.heap.size (Ix q)) (hIc : Lone c I) (hIxc : ∀ q, Lone c (Ix q)) (h0 : I [] w) (a₁ : α → Act)
  (hassign : ∀ (l : Nat) (x : α) (W : World) (K : Act → World → Prop), K (a₁ x) W →
   assign.wpIn (F.inRound l) (n - 1 - 1) P (Exit.then K (fun _ _ _ => False)) { tmps := (ps.zip (encs x)).foldl (fun t (p, v) => t.setIfInBounds p v) a.tmps, defers := [] } W)
  (hbody : ∀ (l : Nat) (pre : List α) (x : α) (W : World), I pre W → Sp (pre ++ [x]) → body.wpIn (F.inRound l) (n - 1 - 1) P (boxPost w.heap.size c I Ix (pre ++ [x]) W) (a₁ x) W)
  (hdone : ∀ (D : Nat) (xs : List α) (W : World), w.heap.size ≤ D → S xs → I xs W → W.heap[D]? = some (.deferred (some [])) → Q .normal { a with defers := { target := .collected D, args := #[] } :: a.defers } W)
  (hstop : ∀ (D : Nat) (q : Code) (pre : List α) (W : World), w.heap.size ≤ D → Sp pre → Ix q pre W → W.heap[D]? = some (.deferred (some [])) → q.wpIn F n P Q { a with defers := { target := .collected D, args := #[] } :: a.defers } W) :
  (Code.rangeFunc g ps assign body).wpIn F n P Q a w := by
 refine wpIn_rangeFunc fun fn hfn => ?_
 rw [hro]
 generalize hD : w.heap.size = D at hc hI hIx hbody hdone hstop
 have hR : ∃ R : LoopState → Option Code → Loop, R = fun st pe => { state := st, pending := pe, fn, tmps := a.tmps, params := ps, assign, body, defers := D } := ⟨_, rfl⟩
 obtain ⟨R, hR⟩ := hR
 have hV : ∃ V, V = (w.alloc (.deferred (some []))).alloc (.loop (R .ready none)) := ⟨_, rfl⟩
 obtain ⟨V, hV⟩ := hV
 have hVl : V.heap[D + 1]? = some (.loop (R .ready none)) := by
  have := World.alloc_heap_new (w.alloc (.deferred (some []))) (.loop (R .ready none))
  rw [World.size_alloc, hD] at this; rw [hV]; exact this
 have hVd : V.heap[D]? = some (.deferred (some [])) := by
  rw [hV, ← hD]; exact (Below.heap_alloc _ _ _ (by simp)).trans (World.alloc_heap_new w _)
 have hVb : Below w.heap.size w V := by
  rw [hV]; exact ((Below.refl _ w).alloc (Nat.le_refl _) _).alloc (by simp) _
 have hVI : I [] V := by rw [hV]; exact hI.alloc _ (hI.alloc _ h0)
 have henter : (Instr.enterLoop fn a.tmps ps assign body none).run P w = .ok (D + 1, [{ target := .collected D, args := #[] }]) V := by
  rw [run_enterLoop_outer, hD, hV, hR]
 refine ⟨D + 1, [{ target := .collected D, args := #[] }], V, { target := .fn (.func gf) lb, args := #[.func (.yield (D + 1)) #[] #[]] }, V, gf,
  #[.func (.yield (D + 1)) #[] #[]] ++ lb, V, henter, ?_, ?_, ?_, fun _ => h1, ?_⟩
 ·simp only [resolve, hg]
  simp [go_sem]
 ·intro f' hf'; simp [Target.leads] at hf'; subst hf'; exact hFg
 ·simp [invoke, go_sem, eg]
 ·have hcl : D + 1 ≠ c := by omega
  have hcd : D ≠ c := by omega
  refine (hseq (D + 1)
   (fun pre W => I pre W ∧ W.heap[D + 1]? = some (.loop (R .ready none)) ∧ W.heap[D]? = some (.deferred (some [])))
   (fun pre W => ∃ q, Ix q pre W ∧ W.heap[D + 1]? = some (.loop (R .done (some q))) ∧ W.heap[D]? = some (.deferred (some [])))
   V hVb (fun s A B h hg => ⟨hIc s A B h.1 hg, lone_at hg h.2.1 hcl, lone_at hg h.2.2 hcd⟩)
   (fun s A B ⟨q, h, hl, hd⟩ hg => ⟨q, hIxc q s A B h hg, lone_at hg hl hcl, lone_at hg hd hcd⟩) ?_ ⟨hVI, hVl, hVd⟩).mono ?_
  ·rintro pre x W ⟨hi, hl, hd⟩ hlen
   have hy := run_yield (P := P) (args := encs x) hl (by rw [hR]; exact hps x)
   rw [hR] at hy
   refine ⟨fn, _, assign, body, hy, roundIn_of_wpIn hfn (hassign _ x W _ ⟨_, run_beginRound hl (by rw [hR]), ?_⟩)⟩
   have hlt : D + 1 < W.heap.size := (Array.getElem?_eq_some_iff.1 hl).1
   generalize hB : W.putObj (D + 1) (.loop { R .ready none with state := .busy }) = B
   have hBl : B.heap[D + 1]? = some (.loop { R .ready none with state := .busy }) := by rw [← hB]; exact World.putObj_heap_same hlt
   have hBd : B.heap[D]? = some (.deferred (some [])) := by rw [← hB]; exact (World.putObj_heap_other (by omega)).trans hd
   have hBc : B.heap[c]? = W.heap[c]? := by rw [← hB]; exact World.putObj_heap_other (by omega)
   have hBI : I pre B := by rw [← hB]; exact hI.putObj _ hi (by omega) hl rfl
   refine wpIn_mono (hbody _ pre x B hBI hlen) ?_
   rintro e a3 C ⟨j, hj, hk, hp⟩
   have hCl := hk.same _ _ (by omega) hBl rfl
   have hCd := hk.same _ _ (by omega) hBd rfl
   have hlt' : D + 1 < C.heap.size := (Array.getElem?_eq_some_iff.1 hCl).1
   refine roundPost_of hj ⟨_, _, run_endRound j hCl, ?_⟩
   have hEl := World.putObj_heap_same (o := .loop { { R .ready none with state := .busy } with state := if j.isNone then .ready else .done, pending := j }) hlt'
   have hEd := (World.putObj_heap_other (w := C) (o := .loop { { R .ready none with state := .busy } with state := if j.isNone then .ready else .done, pending := j }) (show D ≠ D + 1 by omega)).trans hCd
   cases j with
   | none =>
    refine .inl ⟨rfl, ⟨hI.putObj _ hp.2 (by omega) hCl rfl, ?_, hEd⟩, ?_⟩
    ·rw [hEl, hR]; rfl
    ·exact (World.putObj_heap_other (by omega)).trans (hp.1.trans hBc)
   | some q =>
    refine .inr ⟨rfl, q, (hIx q).putObj _ hp (by omega) hCl rfl, ?_, hEd⟩
    rw [hEl, hR]; rfl
  ·rintro e W2 ⟨⟨v, rfl⟩, (⟨xs, hS, hi, hl, hd⟩ | ⟨pre, hSp, q, hi, hl, hd⟩)⟩
   ·have := run_endLoop (P := P) hl (by rw [hR]; simp)
    rw [hR] at this
    exact ⟨none, _, this, hdone _ xs _ (Nat.le_refl _) hS (hI.putObj _ hi (by omega) hl rfl) ((World.putObj_heap_other (by omega)).trans hd)⟩
   ·have := run_endLoop (P := P) hl (by rw [hR]; simp)
    rw [hR] at this
    exact ⟨some q, _, this, hstop _ q pre _ (Nat.le_refl _) hSp ((hIx q).putObj _ hi (by omega) hl rfl) ((World.putObj_heap_other (by omega)).trans hd)⟩

#print axioms wpIn_rangeFunc_box
end Go.Proofs.YtkeikfekkdplgaaGreatDoor
