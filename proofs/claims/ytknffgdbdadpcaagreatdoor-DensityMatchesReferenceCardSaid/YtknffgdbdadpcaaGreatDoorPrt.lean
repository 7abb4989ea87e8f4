/-
  The size of a discriminant of a description, and the discriminant: Size of the reference of package form, disc of the laws of package density.
  A range over an iterator that keeps a state of its own in a box (density.powers divides the n that it has captured): the contract of such an
  iterator, and the law of the statement that ranges over it. Over the kit's lower laws wpIn_rangeFunc and roundIn_of_wpIn.
  The caller of a range over a function, in the plain mode: a function's contract where its body holds such ranges; the statement itself.
  Regions in a round of a range over a function: what the rules on regions show in a function's own frame holds in a round's frame as well.
  Package prime: word.
  Which numbers below 2^20 the strong tests pass: the primes. Plain law, no program: the small theorem of Fermat, and a reckoning.
-/
import Derived.Test.YtknffgdbdadpcaaGreatDoorDen7
import Derived.RangeFuncMany
import Derived.RangeFuncWrites
import Derived.Below
import Derived.RangeFuncLeaves
import Derived.Shelf.Abstract
import Derived.WalkKit
import Derived.OwnWalkIn
import Derived.TacticsInMore
import Derived.LoopNIn
import Derived.LoopIn
import Derived.RangeFuncBox
import Derived.Test.YtknffgdbdadpcaaGreatDoorAdd
import Derived.Test.YtknffgdbdadpcaaGreatDoorSto
import Derived.OrdersIn
import Derived.Test.YtknffgdbdadpcaaGreatDoorPw
namespace Go.Proofs.YtknffgdbdadpcaaGreatDoor
open Go Go.RowKit

/-- The size of the discriminant. -/
def dsz (d : Nat) : Nat := if (3 + d % 2000) % 4 = 1 then 3 + d % 2000 + 2 else if (3 + d % 2000) % 4 = 2 then 3 + d % 2000 + 1 else 3 + d % 2000
theorem dsz_ok (d : Nat) : 3 ≤ dsz d ∧ dsz d ≤ 2003 ∧ (dsz d % 4 = 0 ∨ dsz d % 4 = 3) := by
  unfold dsz
  split
  · omega
  · split <;> omega
theorem cell_newAt (w : World) (g : Nat) (hg : w.heap.size = g) (cs : Array Value) (T i : Nat) (v : Value) (h : cs[i]? = some v) : World.cell? (w.alloc (.cells cs T)) ⟨g, i, none⟩ = some v := by subst hg; simp [h]
set_option maxRecDepth 100000 in
set_option maxHeartbeats 4000000 in
theorem Size_f (w : World) (d : Nat) (v1 v2 v3 v4 v5 v6 v7 v8 : Value) (hd : d < 65536) : Calls Tryz.prog 37 #[.agg #[.int .u16 ((d : Nat) : Int), v1, v2, v3, v4, v5, v6, v7, v8]] w (Ret w (IsV (.int .i64 ((dsz d : Nat) : Int)))) := by
  obtain ⟨W, hW, hc, E⟩ : ∃ W, W = w.alloc (.cells #[.int .u16 ((d : Nat) : Int), v1, v2, v3, v4, v5, v6, v7, v8] 26) ∧ World.cell? W ⟨w.heap.size, 0, none⟩ = some (.int .u16 ((d : Nat) : Int)) ∧ Ext w W := ⟨_, rfl, cell_newAt _ _ rfl _ _ _ _ rfl, (Ext.refl _).alloc _⟩
  obtain ⟨a, ha⟩ : ∃ a, d % 2000 = a := ⟨_, rfl⟩
  obtain ⟨b0, hb0⟩ : ∃ b, 3 + a = b := ⟨_, rfl⟩
  obtain ⟨T, hT⟩ : ∃ t, dsz d = t := ⟨_, rfl⟩
  have hTT : T = if b0 % 4 = 1 then b0 + 2 else if b0 % 4 = 2 then b0 + 1 else b0 := by rw [← hT]; unfold dsz; rw [ha, hb0]
  have hbT : b0 ≤ T ∧ T ≤ b0 + 2 ∧ (T % 4 = 0 ∨ T % 4 = 3) ∧ ∀ x, b0 ≤ x → x < T → (x % 4 = 1 ∨ x % 4 = 2) := by
    rw [hTT]
    by_cases h1 : b0 % 4 = 1
    · rw [if_pos h1]; exact ⟨by omega, by omega, by omega, fun x _ _ => by omega⟩
    · rw [if_neg h1]
      by_cases h2 : b0 % 4 = 2
      · rw [if_pos h2]; exact ⟨by omega, by omega, by omega, fun x _ _ => by omega⟩
      · rw [if_neg h2]; exact ⟨by omega, by omega, by omega, fun x _ _ => by omega⟩
  rw [hT]
  have HB := hid (And.intro hbT (show b0 ≤ 2002 by omega))
  have hx1 : ((d : Nat) : Int).tmod 2000 = ((a : Nat) : Int) := by rw [Int.tmod_eq_emod_of_nonneg (by omega)]; omega
  have hx2 : ((d : Nat) : Int) % 2000 = ((a : Nat) : Int) := by omega
  have hx3 : IntKind.u16.wrap ((a : Nat) : Int) = ((a : Nat) : Int) := by rw [IntKind.wrap_u16]; omega
  have hx4 : IntKind.i64.wrap ((a : Nat) : Int) = ((a : Nat) : Int) := by simp only [IntKind.wrap_i64]; omega
  have hx5 : IntKind.i64.wrap (3 + ((a : Nat) : Int)) = ((b0 : Nat) : Int) := by simp only [IntKind.wrap_i64]; omega
  have EH := hid E
  clear ha hb0 hT hTT hbT hd E
  go_enter Tryz.func37, Tryz.ntmps37
  go_upto_region 1 with (fail)
  rw [← hW]
  clear hW
  go_wp2_with fail
  clear hx1 hx2 hx3 hx4 hx5 hc
  go_loopg [3] (T - b0) (fun gk v3 wr => ∃ b : Nat, v3 = .int .i64 ((b : Nat) : Int) ∧ b + gk = T ∧ b0 ≤ b ∧ Hid (Ext w wr))
  case atStart => exact ⟨b0, rfl, by have := HB.out.1.1; omega, Nat.le_refl _, EH⟩
  case round =>
    obtain ⟨b, rfl, hg, hb, E2⟩ := hrel
    obtain ⟨⟨h1, h2, h3, h4⟩, h5⟩ := HB.out
    have hbb : b ≤ 2004 := by omega
    obtain ⟨r, hr⟩ : ∃ r, b % 4 = r := ⟨_, rfl⟩
    have hx1 : ((b : Nat) : Int).tmod 4 = ((r : Nat) : Int) := by rw [Int.tmod_eq_emod_of_nonneg (by omega)]; omega
    have hx2 : ((b : Nat) : Int) % 4 = ((r : Nat) : Int) := by omega
    rcases Nat.eq_zero_or_pos gk with hg0 | hg0
    · obtain rfl : b = T := by omega
      have hr4 : r = 0 ∨ r = 3 := by omega
      clear h1 h2 h3 h4 h5 hr hg hb hg0 hbb
      rcases hr4 with rfl | rfl
      · go_wp2_with fail
        exact bodyPost_ret (v := .int .i64 ((b : Nat) : Int)) (by simp [results, Tryz.results37, go_sem]) rfl ⟨_, rfl, E2.out, rfl⟩
      · go_wp2_with fail
        exact bodyPost_ret (v := .int .i64 ((b : Nat) : Int)) (by simp [results, Tryz.results37, go_sem]) rfl ⟨_, rfl, E2.out, rfl⟩
    · have hr4 := h4 b hb (by omega)
      have hx3 : IntKind.i64.wrap (((b : Nat) : Int) + 1) = ((b : Nat) : Int) + 1 := by simp only [IntKind.wrap_i64]; omega
      have HG := hid (And.intro hg (And.intro hb hg0))
      rw [hr] at hr4
      clear h1 h2 h3 h4 h5 hr hg hb hg0 hbb
      rcases hr4 with rfl | rfl
      · go_wp2_with fail
        go_roundg (gk - 1)
        case measure => have := HG.out; omega
        case rel => exact ⟨b + 1, by rw [Int.natCast_add]; rfl, by have := HG.out; omega, by have := HG.out; omega, E2⟩
      · go_wp2_with fail
        go_roundg (gk - 1)
        case measure => have := HG.out; omega
        case rel => exact ⟨b + 1, by rw [Int.natCast_add]; rfl, by have := HG.out; omega, by have := HG.out; omega, E2⟩
end Go.Proofs.YtknffgdbdadpcaaGreatDoor
namespace Go.Proofs.YtknffgdbdadpcaaGreatDoor
open Go Go.RowKit

/-- What abides new blocks and whatever is done to the block c. -/
def Lone {α : Type} (c : Nat) (J : α → World → Prop) : Prop := ∀ s A B, J s A → A.grownBy B (some c) → J s B

theorem lone_at {A B : World} {c k : Nat} {o : Obj} (hg : A.grownBy B (some c)) (hk : A.heap[k]? = some o) (hne : k ≠ c) : B.heap[k]? = some o :=
  (hg.block k (Array.getElem?_eq_some_iff.1 hk).1 (fun e => hne (by cases e; rfl))).trans hk

/-- The contract of an iterator whose state lies in block c: it calls yield with xs, one by one; the body leaves c alone and keeps J. -/
def SeqBox {α : Type} (F : Fence) (n : Nat) (P : Program) (g : Nat) (lb : Array Value) (encs : α → Array Value) (c : Nat) (S Sp : List α → Prop) (w : World) : Prop :=
  ∀ (l : Nat) (J Jx : List α → World → Prop) (W : World), Below w.heap.size w W → Lone c J → Lone c Jx →
    (∀ pre x W1, J pre W1 → Sp (pre ++ [x]) → YieldAt F (n - 1) P l (encs x) W1 fun e W' =>
      (e = .returned (.bool true) ∧ J (pre ++ [x]) W' ∧ W'.heap[c]? = W1.heap[c]?) ∨ (e = .returned (.bool false) ∧ Jx (pre ++ [x]) W')) →
    J [] W →
    CallsIn F n P g (#[.func (.yield l) #[] #[]] ++ lb) W fun e W' => (∃ v, e = .returned v) ∧ ((∃ xs, S xs ∧ J xs W') ∨ (∃ pre, Sp pre ∧ Jx pre W'))

/-- The jump with which a body's end ends its round. -/
def jumpOf : Exit → Option (Option Code)
  | .normal => some none
  | .ret => some (some .ret)
  | .exit id => some (some (.exit id))
  | .goto t => some (some (.goto t))
  | .panic _ => none
  | .outgrown => none

theorem roundPost_of {P : Program} {l : Nat} {R : Ending → World → Prop} {e : Exit} {j : Option Code} {a : Act} {w : World} (hj : jumpOf e = some j)
    (h : ∃ v w', (Instr.endRound l j).run P w = .ok v w' ∧ R (.returned v) w') : roundPost P l R e a w := by
  cases e <;> simp only [jumpOf, Option.some.injEq, reduceCtorEq] at hj <;> subst hj <;> exact h

def boxPost {α : Type} (B c : Nat) (I : List α → World → Prop) (Ix : Code → List α → World → Prop) (xs : List α) (W : World) (e : Exit) (_ : Act) (W' : World) : Prop :=
  ∃ j, jumpOf e = some j ∧ KeepsFrom B W W' ∧ (match j with | none => W'.heap[c]? = W.heap[c]? ∧ I xs W' | some q => Ix q xs W')

variable {F : Fence} {n : Nat} {P : Program}

theorem wpIn_rangeFunc_box {α : Type} {g : Operand} {ps : Array Tmp} {assign body : Code} {Q : Exit → Act → World → Prop} {a : Act} {w : World}
    (hro : F.round = none) (h1 : 1 ≤ n) {gf : Nat} {lb : Array Value} (hg : a.eval g = .func (.func gf) #[] lb) (hFg : F.fn gf) (eg : ∀ args w, (callFunc gf args).run P w = .ok (.enter gf args) w)
    {encs : α → Array Value} {c : Nat} {S Sp : List α → Prop} (hc : c < w.heap.size) (hseq : SeqBox F (n - 1) P gf lb encs c S Sp w) (hps : ∀ x, (encs x).size = ps.size)
    (I : List α → World → Prop) (Ix : Code → List α → World → Prop) (hI : OwnFrom w.heap.size I) (hIx : ∀ q, OwnFrom w.heap.size (Ix q)) (hIc : Lone c I) (hIxc : ∀ q, Lone c (Ix q)) (h0 : I [] w) (a₁ : α → Act)
    (hassign : ∀ (l : Nat) (x : α) (W : World) (K : Act → World → Prop), K (a₁ x) W →
      assign.wpIn (F.inRound l) (n - 1 - 1) P (Exit.then K (fun _ _ _ => False)) { tmps := (ps.zip (encs x)).foldl (fun t (p, v) => t.setIfInBounds p v) a.tmps, defers := [] } W)
    (hbody : ∀ (l : Nat) (pre : List α) (x : α) (W : World), I pre W → Sp (pre ++ [x]) → body.wpIn (F.inRound l) (n - 1 - 1) P (boxPost w.heap.size c I Ix (pre ++ [x]) W) (a₁ x) W)
    (hdone : ∀ (D : Nat) (xs : List α) (W : World), w.heap.size ≤ D → S xs → I xs W → W.heap[D]? = some (.deferred (some [])) → Q .normal { a with defers := { target := .collected D, args := #[] } :: a.defers } W)
    (hstop : ∀ (D : Nat) (q : Code) (pre : List α) (W : World), w.heap.size ≤ D → Sp pre → Ix q pre W → W.heap[D]? = some (.deferred (some [])) → q.wpIn F n P Q { a with defers := { target := .collected D, args := #[] } :: a.defers } W) :
    (Code.rangeFunc g ps assign body).wpIn F n P Q a w := by
  refine wpIn_rangeFunc fun fn hfn => ?_
  rw [hro]
  generalize hD : w.heap.size = D at hc hI hIx hbody hdone hstop
  have hR : ∃ R : LoopState → Option Code → Loop, R = fun st pe => { state := st, pending := pe, fn, tmps := a.tmps, params := ps, assign, body, defers := D } := ⟨_, rfl⟩
  obtain ⟨R, hR⟩ := hR
  have hV : ∃ V, V = (w.alloc (.deferred (some []))).alloc (.loop (R .ready none)) := ⟨_, rfl⟩
  obtain ⟨V, hV⟩ := hV
  have hVl : V.heap[D + 1]? = some (.loop (R .ready none)) := by
    have := World.alloc_heap_new (w.alloc (.deferred (some []))) (.loop (R .ready none))
    rw [World.size_alloc, hD] at this; rw [hV]; exact this
  have hVd : V.heap[D]? = some (.deferred (some [])) := by
    rw [hV, ← hD]; exact (Below.heap_alloc _ _ _ (by simp)).trans (World.alloc_heap_new w _)
  have hVb : Below w.heap.size w V := by
    rw [hV]; exact ((Below.refl _ w).alloc (Nat.le_refl _) _).alloc (by simp) _
  have hVI : I [] V := by rw [hV]; exact hI.alloc _ (hI.alloc _ h0)
  have henter : (Instr.enterLoop fn a.tmps ps assign body none).run P w = .ok (D + 1, [{ target := .collected D, args := #[] }]) V := by
    rw [run_enterLoop_outer, hD, hV, hR]
  refine ⟨D + 1, [{ target := .collected D, args := #[] }], V, { target := .fn (.func gf) lb, args := #[.func (.yield (D + 1)) #[] #[]] }, V, gf,
    #[.func (.yield (D + 1)) #[] #[]] ++ lb, V, henter, ?_, ?_, ?_, fun _ => h1, ?_⟩
  · simp only [resolve, hg]
    simp [go_sem]
  · intro f' hf'; simp [Target.leads] at hf'; subst hf'; exact hFg
  · simp [invoke, go_sem, eg]
  · have hcl : D + 1 ≠ c := by omega
    have hcd : D ≠ c := by omega
    refine (hseq (D + 1)
      (fun pre W => I pre W ∧ W.heap[D + 1]? = some (.loop (R .ready none)) ∧ W.heap[D]? = some (.deferred (some [])))
      (fun pre W => ∃ q, Ix q pre W ∧ W.heap[D + 1]? = some (.loop (R .done (some q))) ∧ W.heap[D]? = some (.deferred (some [])))
      V hVb (fun s A B h hg => ⟨hIc s A B h.1 hg, lone_at hg h.2.1 hcl, lone_at hg h.2.2 hcd⟩)
      (fun s A B ⟨q, h, hl, hd⟩ hg => ⟨q, hIxc q s A B h hg, lone_at hg hl hcl, lone_at hg hd hcd⟩) ?_ ⟨hVI, hVl, hVd⟩).mono ?_
    · rintro pre x W ⟨hi, hl, hd⟩ hlen
      have hy := run_yield (P := P) (args := encs x) hl (by rw [hR]; exact hps x)
      rw [hR] at hy
      refine ⟨fn, _, assign, body, hy, roundIn_of_wpIn hfn (hassign _ x W _ ⟨_, run_beginRound hl (by rw [hR]), ?_⟩)⟩
      have hlt : D + 1 < W.heap.size := (Array.getElem?_eq_some_iff.1 hl).1
      generalize hB : W.putObj (D + 1) (.loop { R .ready none with state := .busy }) = B
      have hBl : B.heap[D + 1]? = some (.loop { R .ready none with state := .busy }) := by rw [← hB]; exact World.putObj_heap_same hlt
      have hBd : B.heap[D]? = some (.deferred (some [])) := by rw [← hB]; exact (World.putObj_heap_other (by omega)).trans hd
      have hBc : B.heap[c]? = W.heap[c]? := by rw [← hB]; exact World.putObj_heap_other (by omega)
      have hBI : I pre B := by rw [← hB]; exact hI.putObj _ hi (by omega) hl rfl
      refine wpIn_mono (hbody _ pre x B hBI hlen) ?_
      rintro e a3 C ⟨j, hj, hk, hp⟩
      have hCl := hk.same _ _ (by omega) hBl rfl
      have hCd := hk.same _ _ (by omega) hBd rfl
      have hlt' : D + 1 < C.heap.size := (Array.getElem?_eq_some_iff.1 hCl).1
      refine roundPost_of hj ⟨_, _, run_endRound j hCl, ?_⟩
      have hEl := World.putObj_heap_same (o := .loop { { R .ready none with state := .busy } with state := if j.isNone then .ready else .done, pending := j }) hlt'
      have hEd := (World.putObj_heap_other (w := C) (o := .loop { { R .ready none with state := .busy } with state := if j.isNone then .ready else .done, pending := j }) (show D ≠ D + 1 by omega)).trans hCd
      cases j with
      | none =>
        refine .inl ⟨rfl, ⟨hI.putObj _ hp.2 (by omega) hCl rfl, ?_, hEd⟩, ?_⟩
        · rw [hEl, hR]; rfl
        · exact (World.putObj_heap_other (by omega)).trans (hp.1.trans hBc)
      | some q =>
        refine .inr ⟨rfl, q, (hIx q).putObj _ hp (by omega) hCl rfl, ?_, hEd⟩
        rw [hEl, hR]; rfl
    · rintro e W2 ⟨⟨v, rfl⟩, (⟨xs, hS, hi, hl, hd⟩ | ⟨pre, hSp, q, hi, hl, hd⟩)⟩
      · have := run_endLoop (P := P) hl (by rw [hR]; simp)
        rw [hR] at this
        exact ⟨none, _, this, hdone _ xs _ (Nat.le_refl _) hS (hI.putObj _ hi (by omega) hl rfl) ((World.putObj_heap_other (by omega)).trans hd)⟩
      · have := run_endLoop (P := P) hl (by rw [hR]; simp)
        rw [hR] at this
        exact ⟨some q, _, this, hstop _ q pre _ (Nat.le_refl _) hSp ((hIx q).putObj _ hi (by omega) hl rfl) ((World.putObj_heap_other (by omega)).trans hd)⟩

#print axioms wpIn_rangeFunc_box
end Go.Proofs.YtknffgdbdadpcaaGreatDoor
namespace Go.Proofs.YtknffgdbdadpcaaGreatDoor
open Go Go.RowKit Go.Shelf

theorem calls_of_wp_marks {P : Program} {f : FuncId} {fn : Func} {c : Code} {args : Array Value} {w : World} {R : Ending → World → Prop}
    (hf : P.funcs[f]? = some fn) (hb : fn.body = some c) (h : c.wp P (bodyPostM Fence.wide 9 P fn R) { tmps := args ++ Array.replicate (fn.ntmps - args.size) undef, defers := [] } w) : Calls P f args w R :=
  callsIn_wide.1 (callsIn_of_wp_marks hf hb trivial (wpIn_wide.2 h))
theorem marks_ret1 {P : Program} {fn : Func} {R : Ending → World → Prop} {t : Array Value} {w : World} {v : Value} {D : Nat} (hD : w.heap[D]? = some (.deferred (some [])))
    (h : (results fn t).run P (w.putObj D (.deferred none)) = .ok v (w.putObj D (.deferred none))) (hR : R (.returned v) (w.putObj D (.deferred none))) :
    bodyPostM Fence.wide 9 P fn R .ret { tmps := t, defers := [{ target := .collected D, args := #[] }] } w := ⟨by simp, .inl ⟨_, _, rfl, run_takeDeferred hD, v, h, hR⟩⟩
theorem in_round {n : Nat} {P : Program} {f : FuncId} {args : Array Value} {w : World} {R : Ending → World → Prop} (l : Nat) (h : Calls P f args w R) : CallsIn (Fence.wide.inRound l) n P f args w R := (callsIn_wide (n := n)).2 h
theorem ext_keeps {W W' : World} (h : Ext W W') : KeepsOthers W W' := ⟨h.size, fun k _ hk _ => (h.block k (Array.getElem?_eq_some_iff.1 hk).1).trans hk⟩
theorem lone_cell {A B : World} {c : Nat} {p : Addr} {v : Value} (h : A.cell? p = some v) (hg : A.grownBy B (some c)) (hne : p.block ≠ c) : B.cell? p = some v := by
  have hb : B.heap[p.block]? = A.heap[p.block]? := hg.block _ (World.block_lt_of_cell? A p h) (fun e => hne (by cases e; rfl))
  exact (World.cell?_of_block (w := A) hb).trans h
theorem lone_frozen {A B : World} {c : Nat} {p : Addr} {v : Value} (h : A.cell? p = some v) (hg : A.grownBy B (some c)) (hne : p.block ≠ c) : B.frozen? p = A.frozen? p := by
  have hb : B.heap[p.block]? = A.heap[p.block]? := hg.block _ (World.block_lt_of_cell? A p h) (fun e => hne (by cases e; rfl))
  exact World.frozen?_of_block (w := A) hb
theorem lone_below {n : Nat} {W0 A B : World} {c : Nat} (h : Below n W0 A) (hg : A.grownBy B (some c)) (hn : n ≤ W0.heap.size) (hc : n ≤ c) : Below n W0 B :=
  h.grown hg (Nat.le_trans hn h.size) (fun k e => by cases e; exact hc)
theorem boxPost_norm {α : Type} {B c : Nat} {I : List α → World → Prop} {Ix : Code → List α → World → Prop} {xs : List α} {W W' : World} {a : Act} (hk : KeepsFrom B W W') (hc : W'.heap[c]? = W.heap[c]?) (hI : I xs W') : boxPost B c I Ix xs W .normal a W' := ⟨none, rfl, hk, hc, hI⟩
theorem boxPost_ret {α : Type} {B c : Nat} {I : List α → World → Prop} {Ix : Code → List α → World → Prop} {xs : List α} {W W' : World} {a : Act} (hk : KeepsFrom B W W') (hI : Ix .ret xs W') : boxPost B c I Ix xs W .ret a W' := ⟨some .ret, rfl, hk, hI⟩
/-- A variable of its own in a box, and what lay ahead of it. -/
def VarAt (g n0 : Nat) (W0 : World) (v : Value) (W : World) : Prop := (W.cell? ⟨g, 0, none⟩ = some v ∧ W.frozen? ⟨g, 0, none⟩ = false) ∧ Below n0 W0 W
theorem varAt_own {α : Type} {g n0 B : Nat} {W0 : World} (f : List α → Value) (h0 : n0 ≤ W0.heap.size) (hB : n0 ≤ B) : OwnFrom B (fun pre W => VarAt g n0 W0 (f pre) W) :=
  OwnFrom.and (Own.from (fun _ _ _ _ hs hg hr => ⟨cell_kept hs.1 hg hr, (frozen_kept hs.1 hg hr).trans hs.2⟩) _) (ownFrom_below h0 hB)
theorem varAt_lone {α : Type} {g n0 c : Nat} {W0 : World} (f : List α → Value) (h0 : n0 ≤ W0.heap.size) (hc : n0 ≤ c) (hne : g ≠ c) : Lone c (fun (pre : List α) W => VarAt g n0 W0 (f pre) W) :=
  fun _ _ _ h hg => ⟨⟨lone_cell h.1.1 hg hne, (lone_frozen h.1.1 hg hne).trans h.1.2⟩, lone_below h.2 hg h0 hc⟩
theorem VarAt.ext {g n0 : Nat} {W0 W W' : World} {v : Value} (h : VarAt g n0 W0 v W) (e : Ext W W') (hn : n0 ≤ W.heap.size) : VarAt g n0 W0 v W' :=
  ⟨⟨e.cell (p := ⟨g, 0, none⟩) h.1.1, (e.frozen (p := ⟨g, 0, none⟩) (World.block_lt_of_cell? W _ h.1.1)).trans h.1.2⟩, h.2.trans (e.mono hn)⟩
theorem VarAt.set {g n0 : Nat} {W0 W : World} {v : Value} (h : VarAt g n0 W0 v W) (hg : n0 ≤ g) (u : Value) : VarAt g n0 W0 u (W.setCell ⟨g, 0, none⟩ u) :=
  ⟨⟨World.cell?_setCell_same' _ _ _ (by rw [h.1.1]; rfl), by rw [World.frozen?_setCell]; exact h.1.2⟩, h.2.setCell hg u⟩
theorem setCell_heap (W : World) (g c : Nat) (u : Value) (h : c ≠ g) : (W.setCell ⟨g, 0, none⟩ u).heap[c]? = W.heap[c]? := Below.heap_setCell W ⟨g, 0, none⟩ u c h
theorem inBlock_norm {Q : Exit → Act → World → Prop} {b : Nat} {a : Act} {w : World} (h : Q .normal a w) : Exit.inBlock b Q .normal a w := h
end Go.Proofs.YtknffgdbdadpcaaGreatDoor
namespace Go.Proofs.YtknffgdbdadpcaaGreatDoor
open Go Go.RowKit

/-- No operation is a defer statement. -/
def noDefer (ops : Array Oper) : Bool := ops.all fun o => match o.op with | .defer _ => false | _ => true
theorem noDefer_spec {ops : Array Oper} (h : noDefer ops = true) {i : Nat} {o : Oper} (ho : ops[i]? = some o) (c : Call) : o.op ≠ .defer c := fun e => by
  obtain ⟨hi, rfl⟩ := Array.getElem?_eq_some_iff.1 ho
  have := Array.all_eq_true.1 h i hi
  rw [e] at this
  cases this
section
variable {l n : Nat} {P : Program} {ops : Array Oper} {Q : Exit → Act → World → Prop} {md : Region.Mode}
theorem rows_wide {row : String} {args : Array Value} {w : World} {R : Value → World → Prop} (h : Rows P row args w R) : RowsIn (Fence.wide.inRound l) n P row args w R :=
  fun c cs _ => let ⟨v, w', r, s⟩ := h c cs; ⟨v, w', r, stepsIn_wide.2 s⟩
theorem oper_round {o : Oper} {a : Act} {w : World} {K K' : Act → World → Prop} (hd : ∀ c, o.op ≠ .defer c) (hK : ∀ a w, K a w → K' a w) (h : o.wp P a w K Q) : o.wpIn (Fence.wide.inRound l) n P a w K' Q := by
  refine ⟨fun _ _ => trivial, ?_⟩
  rw [Fence.inRound_round, Oper.semAt_some l a.eval o hd]
  unfold Oper.wp at h
  generalize (execOp a.eval o).run P w = r at h
  cases r with
  | ok x w' =>
    cases x <;> simp only [Oper.upon, Oper.uponIn] at h ⊢ <;>
      first
        | exact hK _ _ h
        | exact ⟨(fun e => by cases e), CallsIn.mono (in_round l h) (fun e w'' he => by cases e <;> first | exact hK _ _ he | exact he)⟩
        | exact ⟨(fun e => by cases e), RowsIn.mono (rows_wide h) (fun _ _ he => hK _ _ he)⟩
        | exact h.elim
  | halt x w' => cases x <;> simp only [Oper.upon, Oper.uponIn] at h ⊢ <;> exact h
theorem any_round (hQ : ¬ LetsOut Q) (hd : noDefer ops = true) : ∀ (fuel : Nat) (listed : Array Bool) (a : Act) (w : World), wpAny P md ops Q fuel listed a w → wpAnyIn (Fence.wide.inRound l) n P md ops Q fuel listed a w
  | 0, _, _, _, h => h
  | fuel + 1, listed, a, w, h => by
    refine ⟨h.1, fun i hi => ?_⟩
    have := h.2 i hi
    unfold wpOp at this
    unfold wpOpIn
    cases ho : ops[i]? with
    | none => rw [ho] at this; exact any_round hQ hd fuel _ _ _ this
    | some o =>
      rw [ho] at this
      dsimp only at this ⊢
      split
      · rename_i hw
        rw [if_pos hw] at this
        exact oper_round (noDefer_spec hd ho) (any_round hQ hd fuel _) (this.resolve_right fun k => hQ k.2)
      · rename_i hw
        rw [if_neg hw] at this
        exact ⟨fun _ _ => trivial, any_round hQ hd fuel _ _ _ this⟩
theorem region_round {id : Nat} {a : Act} {w : World} (hQ : ¬ LetsOut Q) (hm : P.follows .mixedOrders = true) (hd : noDefer ops = true) (h : wpAny P .any ops Q ops.size (Array.replicate ops.size false) a { w with drawn := w.drawn + 1 }) :
    (Code.region id ops true).wpIn (Fence.wide.inRound l) n P Q a w := wpIn_region_any hm (any_round hQ hd _ _ _ _ h)
theorem rgI (n' : Nat) (ds : List (Option Tmp)) (L : List (Value → World → Prop)) (boxes : List Nat) (fuel : Nat) {a0 : Act} {w0 : World} {id : Nat} (hQ : ¬ LetsOut Q)
    (hop : RgAll P .any ops Q ds a0 w0 L boxes 0 n' ops.toList)
    (hend : ∀ v w, Ext w0 w → (∀ i, i < n' → L.getD i (fun _ _ => True) (v i) w) → (∀ i j, i ∈ boxes → j ∈ boxes → i < n' → j < n' → i ≠ j → v i ≠ v j) →
      wpAny P .any ops Q fuel (firstN ops.size n') (layL v a0 0 ds) w)
    (hm : P.follows .mixedOrders = true := by kernel_rfl) (hn : n' ≤ ops.size := by decide) (hf : ops.size - n' = fuel := by kernel_rfl) (hds : (List.range n').map (dstOf ops) = ds := by kernel_rfl) (hap : dstsApart ops n' = true := by kernel_rfl) (htp : twoParts .any ops n' [] = true := by kernel_rfl) (hns : Region.noSelect ops = true := by kernel_rfl)
    (hst : AllStb L := by repeat' (first | exact trivial | exact IsV.stb _ | exact IsW.stb _ | exact IsI.stb _ _ | exact IsBo.stb _ _ | exact IsR.stb _ _ | exact IsMag.stb _ _ | exact IsPos.stb | apply IsJ.stb | apply IsQ.stb | apply IsT3.stb | apply IsT2.stb | apply And.intro)) (hbx : AllBox L boxes := by repeat' (first | exact trivial | exact IsBo.box _ _ | apply And.intro)) (hnd : noDefer ops = true := by kernel_rfl) :
    (Code.region id ops true).wpIn (Fence.wide.inRound l) n P Q a0 w0 := by
  refine region_round hQ hm hnd ?_
  have hE : Ext w0 w0.drew := (Ext.refl w0).drew
  have hD : ∀ m, doneN (Array.replicate ops.size false) m = 0 := fun m => by
    unfold doneN
    rw [List.countP_eq_zero.2]
    intro i _
    simp [listed_false]
  refine wpAny_rgT n' [] ds L boxes fuel ?_ hn hf hds hap htp hns hst hbx.get (by simp) (by simp) ?_ (fun v w hR => hend v w (hE.trans hR))
  · simp [startOk, hD, listed_false]
  · have key : ∀ (k i : Nat) (os : List Oper), RgAll P .any ops Q ds a0 w0 L boxes i k os → RgAll P .any ops Q ds a0 w0.drew L boxes i k os := by
      intro k
      induction k with
      | zero => intro i os _; cases os <;> trivial
      | succ k ih =>
        intro i os h
        cases os with
        | nil => trivial
        | cons o os => exact ⟨fun v w hR => h.1 v w (hE.trans hR), ih _ _ h.2⟩
    exact key n' 0 ops.toList hop
end
theorem not_out_box {α : Type} {B c : Nat} {I : List α → World → Prop} {Ix : Code → List α → World → Prop} {xs : List α} {W : World} : ¬ LetsOut (boxPost B c I Ix xs W) := fun ⟨_, _, _, h, _⟩ => by cases h
theorem not_out_block {Q : Exit → Act → World → Prop} (h : ¬ LetsOut Q) (b : Nat) : ¬ LetsOut (Exit.inBlock b Q) := h
end Go.Proofs.YtknffgdbdadpcaaGreatDoor
namespace Go.Proofs.YtknffgdbdadpcaaGreatDoor
open Go Go.RowKit Go.Shelf

attribute [local go_sem] Oper.semAt_some

set_option maxRecDepth 100000 in
set_option maxHeartbeats 4000000 in
theorem word_t (w : World) (s : Bool) (b off : Nat) (n c : Nat) (xs : List Nat) (h : Wd w (some ⟨b, off, none⟩) n c xs) (hn : n ≤ 2) (h0 : 0 < n) (V : Int) (HV : Hid (((bval (upto (bwd (fun j => xs.getD j 0) n) n) : Nat) : Int) = V)) :
    Calls Tryz.prog 85 #[.agg #[.bool s, .slice (some ⟨b, off, none⟩) n c]] w (Ret w (IsT2 (IsV (.int .u64 V)) (IsV (.bool (!s))))) := by
  have hI := h.wbel
  have hn2 : decide (((n : Nat) : Int) ≤ 2) = true := by simp; omega
  have hcb : n ≤ c ∧ c ≤ 9223372036854775807 := ⟨h.capo, h.big⟩
  clear h
  obtain ⟨W, hW, E, C1, C2⟩ : ∃ W, W = w.alloc (.cells #[.bool s, .slice (some ⟨b, off, none⟩) n c] 33) ∧ Ext w W ∧ World.cell? W ⟨w.heap.size, 0, none⟩ = some (.bool s) ∧ World.cell? W ⟨w.heap.size, 1, none⟩ = some (.slice (some ⟨b, off, none⟩) n c) :=
    ⟨_, rfl, (Ext.refl _).alloc _, by simp, by simp⟩
  refine calls_of_wp_marks Tryz.func85 rfl ?_
  simp only [Tryz.ntmps85, List.size_toArray, List.length_cons, List.length_nil, Nat.reduceAdd, Nat.reduceSub, Array.replicate_succ, Array.replicate_zero, List.push_toArray, List.append_toArray, List.nil_append, List.cons_append]
  go_upto_region 1 with (fail)
  rw [← hW]
  have hWs : w.heap.size < W.heap.size := World.block_lt_of_cell? W _ C1
  clear hW
  go_wp2_with (go_at_call 88; refine Calls.mono (callsIn_wide.1 (back_in Fence.wide 3 trivial rfl _ _ _ _)) ?_; rintro e w' ⟨rfl, rfl⟩)
  have hmin : min ((n : Nat) : Int) 2 = ((n : Nat) : Int) := by omega
  rw [hmin, Int.toNat_natCast]
  clear hmin
  obtain ⟨W2, hW2⟩ : ∃ W2, (W.alloc (.cells #[.int .u64 0] 99)).alloc (.cells #[.slice (some ⟨b, off, none⟩) n c] 27) = W2 := ⟨_, rfl⟩
  have V2 : VarAt W.heap.size W.heap.size W (.int .u64 0) W2 := by
    have bV := Boxed.new W 99 (.int .u64 0)
    rw [← hW2]
    exact ⟨⟨(bV.alloc _).cell, (bV.alloc _).frozen⟩, ((Ext.refl _).alloc _).alloc _⟩
  have cN : World.cell? W2 ⟨W.heap.size + 1, 0, none⟩ = some (.slice (some ⟨b, off, none⟩) n c) := by
    have bN := Boxed.new (W.alloc (.cells #[.int .u64 0] 99)) 27 (.slice (some ⟨b, off, none⟩) n c)
    rw [World.size_alloc] at bN
    rw [← hW2]
    exact bN.cell
  have hsz : W2.heap.size = W.heap.size + 2 := by rw [← hW2]; simp
  rw [hW2]
  clear hW2
  refine wpIn_wide.1 (wpIn_rangeFunc_ownG (n := 9) rfl (by decide) (gf := 136) (lb := #[.pointer (some ⟨W.heap.size + 1, 0, none⟩)]) rfl trivial (en Tryz.func136)
    (back_stops Fence.wide 8 trivial rfl (by decide) (W.heap.size + 1) w.heap.size (some ⟨b, off, none⟩) n c (fun j => xs.getD j 0) (by omega) W2 (by omega) (by omega) cN (hI.below (E.trans V2.2)))
    (fun h k => h.trans k) (Kpb.put (by omega)) (Below.refl _ _) (fun _ => rfl)
    (fun pre W' => VarAt W.heap.size W.heap.size W (.int .u64 (bval pre : Nat)) W') (fun _ _ _ => False)
    (varAt_own _ (Nat.le_refl _) (by omega)) (fun _ _ _ _ _ h _ _ => h) V2 ?_ ?_ ?_ ?_ ?_)
  rotate_left
  · intro l x W' K hK
    gi_wp2
    exact hK
  · rintro l pre x W' V6 hlen
    have hbv := bval_lt pre
    have hb1 : bval pre < 4294967296 := Nat.lt_of_lt_of_le hbv (Nat.le_trans (Nat.pow_le_pow_right (by decide) (show pre.length ≤ 1 by omega)) (by decide))
    have hx : x.2 % 4294967296 < 4294967296 := Nat.mod_lt _ (by decide)
    have hbs := bval_snoc pre x
    have hbits := low_bits _ _ hb1 hx
    rw [← hbs] at hbits
    clear hbs hbv
    obtain ⟨nx, hnx⟩ : ∃ nx, bval (pre ++ [x]) = nx := ⟨_, rfl⟩
    rw [hnx] at hbits
    have Hnx := hid hnx
    clear hnx
    generalize bval pre = v at *
    rw [Int.natCast_emod] at hbits
    simp only [Int.cast_ofNat_Int] at hbits
    clear hx
    have Lg := V6.1.1
    have Fg := V6.1.2
    gi_wp2
    have hne2 : (⟨W.heap.size, 0, none⟩ : Addr) ≠ ⟨W.heap.size + 1, 0, none⟩ := by simp
    refine ⟨(KeepsOthers.setCell _ _ _).from _, ⟨(Below.refl w.heap.size W').setCell (p := ⟨W.heap.size, 0, none⟩) (Nat.le_of_lt hWs) _, fun u hu => (World.cell?_setCell_other (w := W') _ _ _ hne2).trans hu⟩, ?_⟩
    show VarAt W.heap.size W.heap.size W (.int .u64 (bval (pre ++ [x]) : Nat)) _
    rw [Hnx.out]
    exact V6.set (Nat.le_refl _) _
  · rintro D ys W' hD rfl V6 hK
    have HV := HV.out
    generalize bval (upto (bwd (fun j => xs.getD j 0) n) n) = v at *
    have C1' := Ext.cell V6.2 C1
    have C2' := Ext.cell V6.2 C2
    have Lg := V6.1.1
    have Fg := V6.1.2
    have hfin : Ext w (W'.drew.putObj D (.deferred none)) := Below.trans (E.trans V6.2).drew (belowK_b (w := w) (Nat.le_refl _) W'.drew D _ _ (by omega) hK rfl rfl)
    rw [HV] at Lg
    clear V6 V2
    go_wp2_with fail
    cases s
    · go_region
      go_wp2_with fail
      exact marks_ret1 hK (v := .tuple #[.int .u64 V, .bool true]) (by simp [results, Tryz.results85, go_sem]) ⟨_, rfl, hfin, _, _, rfl, rfl, rfl⟩
    · go_region
      go_wp2_with fail
      exact marks_ret1 hK (v := .tuple #[.int .u64 V, .bool false]) (by simp [results, Tryz.results85, go_sem]) ⟨_, rfl, hfin, _, _, rfl, rfl, rfl⟩
  · intro D q pre W' _ _ h _
    exact h.elim
theorem word_f {z : Int} {x : Value} {w : World} (hx : IsI 2 z x w) (h0 : z ≠ 0) : Calls Tryz.prog 85 #[x] w (Ret w (IsT2 (IsV (.int .u64 ((z.natAbs : Nat) : Int))) (IsV (.bool (decide (0 < z)))))) := by
  obtain ⟨s, a, n, c, rfl, m, ⟨xs, hw, hk, hz, hv⟩, hs, he⟩ := hx
  have hlen := hw.len
  have hn0 : 0 < n := by
    rcases Nat.eq_zero_or_pos n with h | h
    · have : xs = [] := List.length_eq_zero_iff.1 (by omega)
      subst this
      simp [natVal] at hv
      subst hv
      exfalso
      apply h0
      rw [he]
      cases s <;> simp
    · exact h
  rcases hw.at_ with h | ⟨b, off, rfl, hb, hc⟩
  · omega
  have hm0 : 0 < m := by
    have h3 := natVal_ge xs (by omega) (by rw [hlen]; exact hz (by omega))
    have h4 : 0 < (4294967296 : Nat) ^ (xs.length - 1) := Nat.pow_pos (by decide)
    omega
  have hb2 := bval_nat xs hw.lt n hlen (by omega)
  have key := word_t w s b off n c xs hw (by omega) hn0 ((m : Nat) : Int) (hid (by rw [hb2, hv]))
  refine key.mono fun e W' h => ?_
  obtain ⟨v, rfl, hE, x, y, rfl, rfl, rfl⟩ := h
  refine ⟨_, rfl, hE, _, _, rfl, ?_, ?_⟩
  · cases s
    · simp only [Bool.false_eq_true, if_false] at he; subst he; rfl
    · simp only [if_true] at he; subst he
      show Value.int .u64 _ = _
      congr 1
      omega
  · cases s
    · simp only [Bool.false_eq_true, if_false] at he; subst he
      show Value.bool _ = _
      rw [decide_eq_true (by omega)]; rfl
    · simp only [if_true] at he; subst he
      show Value.bool _ = _
      rw [decide_eq_false (by omega)]; rfl

/-- The bases of the test. -/
def prBases : List Nat := [2, 3, 5, 7, 11, 13, 17, 19, 23, 29, 31, 37, 41]
end Go.Proofs.YtknffgdbdadpcaaGreatDoor
namespace Go.Proofs.YtknffgdbdadpcaaGreatDoor
open Go Go.RowKit
/-- Binomial coefficients. -/
def bch : Nat → Nat → Nat
  | _, 0 => 1
  | 0, _ + 1 => 0
  | n + 1, k + 1 => bch n k + bch n (k + 1)
theorem bch_0 (n : Nat) : bch n 0 = 1 := by cases n <;> rfl
theorem bch_ss (n k : Nat) : bch (n + 1) (k + 1) = bch n k + bch n (k + 1) := rfl
theorem bch_big : ∀ (n k : Nat), n < k → bch n k = 0
  | 0, 0, h => absurd h (Nat.lt_irrefl _)
  | 0, _ + 1, _ => rfl
  | n + 1, 0, h => absurd h (Nat.not_lt_zero _)
  | n + 1, k + 1, h => by rw [bch_ss, bch_big n k (by omega), bch_big n (k + 1) (by omega)]
theorem bch_abs : ∀ (n k : Nat), (k + 1) * bch (n + 1) (k + 1) = (n + 1) * bch n k
  | 0, 0 => rfl
  | 0, k + 1 => by rw [bch_ss, bch_big 0 (k + 1) (by omega), bch_big 0 (k + 2) (by omega)]; rfl
  | n + 1, 0 => by
    have h := bch_abs n 0
    rw [bch_0, Nat.mul_one] at h
    rw [bch_ss (n + 1) 0, bch_0, Nat.mul_one, Nat.mul_add, h]
    omega
  | n + 1, k + 1 => by
    have h1 := bch_abs n (k + 1)
    have h2 := bch_abs n k
    rw [bch_ss (n + 1) (k + 1), Nat.mul_add, h1]
    have e : bch (n + 1) (k + 1) = bch n k + bch n (k + 1) := rfl
    have e2 : (k + 2) * bch (n + 1) (k + 1) = (k + 1) * bch (n + 1) (k + 1) + bch (n + 1) (k + 1) := by rw [show k + 2 = (k + 1) + 1 from rfl, Nat.succ_mul]
    rw [e2, h2, e]
    grind
/-- The first terms of (1 + b)^n. -/
def bsum (b n : Nat) : Nat → Nat
  | 0 => 0
  | m + 1 => bsum b n m + bch n m * b ^ m
theorem bsum_ss (b n : Nat) : ∀ m, bsum b (n + 1) (m + 1) = bsum b n (m + 1) + b * bsum b n m
  | 0 => by simp [bsum, bch_0]
  | m + 1 => by
    have h := bsum_ss b n m
    rw [show bsum b (n + 1) (m + 2) = bsum b (n + 1) (m + 1) + bch (n + 1) (m + 1) * b ^ (m + 1) from rfl, h, bch_ss]
    rw [show bsum b n (m + 2) = bsum b n (m + 1) + bch n (m + 1) * b ^ (m + 1) from rfl, show bsum b n (m + 1) = bsum b n m + bch n m * b ^ m from rfl]
    rw [Nat.add_mul, Nat.mul_add b, Nat.pow_succ]
    have : b * (bch n m * b ^ m) = bch n m * (b ^ m * b) := by rw [Nat.mul_comm b, Nat.mul_assoc]
    rw [this]
    omega
theorem bsum_all (b : Nat) : ∀ n, bsum b n (n + 1) = (b + 1) ^ n
  | 0 => by simp [bsum, bch]
  | n + 1 => by
    rw [bsum_ss, show bsum b n (n + 1 + 1) = bsum b n (n + 1) + bch n (n + 1) * b ^ (n + 1) from rfl, bch_big n (n + 1) (by omega), Nat.zero_mul, Nat.add_zero, bsum_all b n, Nat.pow_succ, Nat.mul_add, Nat.mul_one, Nat.mul_comm b]
    omega
theorem bch_dvd {p k : Nat} (hp : Pr p) (h0 : 0 < k) (h1 : k < p) : p ∣ bch p k := by
  obtain ⟨j, rfl⟩ : ∃ j, k = j + 1 := ⟨k - 1, by omega⟩
  obtain ⟨q, hq⟩ : ∃ q, p = q + 1 := ⟨p - 1, by omega⟩
  have h := bch_abs q j
  have : p ∣ (j + 1) * bch p (j + 1) := ⟨bch q j, by rw [hq]; exact h⟩
  rcases hp.dvd_mul this with h2 | h2
  · exact absurd (Nat.le_of_dvd (by omega) h2) (by omega)
  · exact h2
theorem bsum_mod {p : Nat} (hp : Pr p) (b : Nat) : ∀ m, 0 < m → m ≤ p → bsum b p m % p = 1
  | 0, h, _ => absurd h (Nat.lt_irrefl _)
  | 1, _, _ => by
    have := hp.1
    simp [bsum, bch_0]
    exact Nat.mod_eq_of_lt (by omega)
  | m + 2, _, h => by
    obtain ⟨c, hc⟩ := bch_dvd hp (k := m + 1) (by omega) (by omega)
    rw [show bsum b p (m + 2) = bsum b p (m + 1) + bch p (m + 1) * b ^ (m + 1) from rfl, hc, Nat.mul_assoc, Nat.add_mul_mod_self_left]
    exact bsum_mod hp b (m + 1) (by omega) (by omega)
theorem fermat0 {p : Nat} (hp : Pr p) : ∀ b, b ^ p % p = b % p
  | 0 => by have := hp.1; rw [Nat.zero_pow (by omega)]
  | b + 1 => by
    have h := bsum_all b p
    rw [show bsum b p (p + 1) = bsum b p p + bch p p * b ^ p from rfl] at h
    have h1 : ∀ n, bch n n = 1 := by
      intro n
      induction n with
      | zero => rfl
      | succ n ih => rw [bch_ss, ih, bch_big n (n + 1) (by omega)]
    rw [h1, Nat.one_mul] at h
    have hp1 := hp.1
    rw [← h, Nat.add_mod, bsum_mod hp b p (by omega) (Nat.le_refl _), fermat0 hp b, Nat.add_mod b 1, Nat.add_comm, Nat.mod_eq_of_lt (show 1 < p by omega)]
theorem fermat {p : Nat} (hp : Pr p) {b : Nat} (hb : b % p ≠ 0) : b ^ (p - 1) % p = 1 := by
  have hp1 := hp.1
  have hb0 : 0 < b := by rcases Nat.eq_zero_or_pos b with h | h; · subst h; simp at hb
                         · exact h
  have h := fermat0 hp b
  have h1 : b ^ p = b * b ^ (p - 1) := by conv => lhs; rw [show p = (p - 1) + 1 by omega, Nat.pow_succ, Nat.mul_comm]
  have h2 : 0 < b ^ (p - 1) := Nat.pow_pos hb0
  have h3 : p ∣ b * (b ^ (p - 1) - 1) := by
    rw [Nat.mul_sub, Nat.mul_one, ← h1]
    have h5 : b ≤ b ^ p := by rw [h1]; exact Nat.le_mul_of_pos_right _ h2
    have d1 := Nat.div_add_mod (b ^ p) p
    have d2 := Nat.div_add_mod b p
    rw [h] at d1
    refine ⟨b ^ p / p - b / p, ?_⟩
    rw [Nat.mul_sub]
    omega
  rcases hp.dvd_mul h3 with h4 | h4
  · exact absurd (Nat.mod_eq_zero_of_dvd h4) hb
  · obtain ⟨c, hc⟩ := h4
    rw [show b ^ (p - 1) = 1 + p * c by omega, Nat.add_mul_mod_self_left]
    exact Nat.mod_eq_of_lt (by omega)
/-- The squarings of the strong test. -/
def sqs (n : Nat) : Nat → Nat → Bool
  | 0, _ => false
  | s + 1, x => if x = n - 1 then true else sqs n s (x * x % n)
/-- The strong test. -/
def stg (n s d b : Nat) : Bool := decide (b ^ d % n = 1) || sqs n s (b ^ d % n)
theorem pow_two_sq (x s : Nat) : x ^ 2 ^ (s + 1) = (x * x) ^ 2 ^ s := by rw [Nat.pow_succ, Nat.mul_comm, Nat.pow_mul, Nat.pow_two]
theorem sqs_fermat {n : Nat} (hn : 1 < n) : ∀ (s x : Nat), sqs n s x = true → x ^ 2 ^ s % n = 1
  | 0, _, h => by simp [sqs] at h
  | s + 1, x, h => by
    rw [pow_two_sq]
    by_cases hx : x = n - 1
    · have e : x * x % n = 1 := by
        have : x * x = 1 + n * (n - 2) := by
          obtain ⟨m, hm⟩ : ∃ m, n = m + 2 := ⟨n - 2, by omega⟩
          subst hm
          rw [hx, show m + 2 - 1 = m + 1 by omega, Nat.add_sub_cancel]
          grind
        rw [this, Nat.add_mul_mod_self_left, Nat.mod_eq_of_lt hn]
      rw [Nat.pow_mod, e, Nat.one_pow, Nat.mod_eq_of_lt hn]
    · rw [sqs, if_neg hx] at h
      have := sqs_fermat hn s _ h
      rw [Nat.pow_mod]
      exact this
theorem stg_fermat {n s d b : Nat} (hn : 1 < n) (hd : n - 1 = 2 ^ s * d) (h : stg n s d b = true) : b ^ (n - 1) % n = 1 := by
  rw [hd, Nat.mul_comm, Nat.pow_mul]
  rw [stg, Bool.or_eq_true, decide_eq_true_eq] at h
  rw [Nat.pow_mod]
  rcases h with h | h
  · rw [h, Nat.one_pow, Nat.mod_eq_of_lt hn]
  · exact sqs_fermat hn _ _ h
theorem sqs_prime {n : Nat} (hp : Pr n) : ∀ (s x : Nat), x < n → x ≠ 1 → x ^ 2 ^ s % n = 1 → sqs n s x = true
  | 0, x, hx, h1, h => by rw [Nat.pow_zero, Nat.pow_one, Nat.mod_eq_of_lt hx] at h; exact absurd h h1
  | s + 1, x, hx, h1, h => by
    have hn := hp.1
    rw [sqs]
    by_cases hm : x = n - 1
    · rw [if_pos hm]
    · rw [if_neg hm]
      rw [pow_two_sq, Nat.pow_mod] at h
      refine sqs_prime hp s _ (Nat.mod_lt _ (by omega)) ?_ h
      intro h2
      rcases Nat.eq_zero_or_pos x with h0 | h0
      · subst h0; simp at h2
      have h3 : n ∣ (x - 1) * (x + 1) := by
        obtain ⟨y, rfl⟩ : ∃ y, x = y + 1 := ⟨x - 1, by omega⟩
        have e : (y + 1 - 1) * (y + 1 + 1) + 1 = (y + 1) * (y + 1) := by rw [Nat.add_sub_cancel]; grind
        have e2 := Nat.div_add_mod ((y + 1) * (y + 1)) n
        rw [h2] at e2
        exact ⟨(y + 1) * (y + 1) / n, by omega⟩
      rcases hp.dvd_mul h3 with h4 | h4
      · have := Nat.eq_zero_of_dvd_of_lt h4 (by omega)
        omega
      · have := Nat.le_of_dvd (by omega) h4
        omega
theorem stg_prime {n s d b : Nat} (hp : Pr n) (hd : n - 1 = 2 ^ s * d) (hb : b % n ≠ 0) : stg n s d b = true := by
  have hn := hp.1
  rw [stg, Bool.or_eq_true, decide_eq_true_eq]
  by_cases h : b ^ d % n = 1
  · exact Or.inl h
  · refine Or.inr (sqs_prime hp s _ (Nat.mod_lt _ (by omega)) h ?_)
    rw [← Nat.pow_mod, ← Nat.pow_mul, Nat.mul_comm, ← hd]
    exact fermat hp hb
theorem and_shift (s a b : Nat) : (2 ^ s * a) &&& (2 ^ s * b) = 2 ^ s * (a &&& b) := by
  have h := Nat.shiftLeft_and_distrib (a := a) (b := b) (i := s)
  rw [Nat.shiftLeft_eq, Nat.shiftLeft_eq, Nat.shiftLeft_eq] at h
  rw [Nat.mul_comm _ a, Nat.mul_comm _ b, Nat.mul_comm _ (a &&& b), h]
theorem and_odd (u v : Nat) : (2 * u + 1) &&& (2 * v + 1) = 2 * (u &&& v) + 1 := by
  apply Nat.eq_of_testBit_eq
  intro i
  cases i with
  | zero => simp [Nat.testBit_zero]
  | succ i =>
    rw [Nat.testBit_and, Nat.testBit_succ, Nat.testBit_succ, Nat.testBit_succ, show (2 * u + 1) / 2 = u by omega, show (2 * v + 1) / 2 = v by omega, show (2 * (u &&& v) + 1) / 2 = u &&& v by omega, Nat.testBit_and]
theorem and_compl {u j : Nat} (h : u < 2 ^ j) : u &&& (2 ^ j - (u + 1)) = 0 := by
  apply Nat.eq_of_testBit_eq
  intro i
  rw [Nat.testBit_and, Nat.testBit_two_pow_sub_succ h, Nat.zero_testBit]
  cases u.testBit i <;> simp
/-- The lowest bit of a word. -/
theorem low_bit (s d : Nat) (hd : d % 2 = 1) (h : 2 ^ s * d < 2 ^ 64) : (2 ^ s * d) &&& (2 ^ 64 - 2 ^ s * d) = 2 ^ s := by
  have hs : s < 64 := by
    rcases Nat.lt_or_ge s 64 with h1 | h1
    · exact h1
    · have h2 := Nat.pow_le_pow_right (n := 2) (by decide) h1
      have h3 := Nat.le_mul_of_pos_right (2 ^ s) (show 0 < d by omega)
      omega
  obtain ⟨j, hj⟩ : ∃ j, 64 = s + (j + 1) := ⟨64 - s - 1, by omega⟩
  rw [hj, Nat.pow_add] at h ⊢
  have hp : 0 < 2 ^ s := Nat.pow_pos (by decide)
  have hdk : d < 2 ^ (j + 1) := Nat.lt_of_mul_lt_mul_left h
  rw [← Nat.mul_sub, and_shift]
  obtain ⟨u, rfl⟩ : ∃ u, d = 2 * u + 1 := ⟨d / 2, by omega⟩
  have hu : u < 2 ^ j := by rw [Nat.pow_succ] at hdk; omega
  rw [show 2 ^ (j + 1) - (2 * u + 1) = 2 * (2 ^ j - (u + 1)) + 1 by rw [Nat.pow_succ]; omega, and_odd, and_compl hu, Nat.mul_zero, Nat.zero_add, Nat.mul_one]
/-- A number without a factor up to 41. -/
def bsG (n : Nat) : Bool := Nat.beq (Nat.gcd n 304250263527210) 1
/-- 2^m modulo m + 1. -/
def fmS (e m : Nat) (c : Nat) : Nat := Nat.rec 0 (fun r _ => Nat.mod (Nat.mul (Nat.mod (Nat.pow (Nat.succ r) (Nat.div m e)) (Nat.succ m)) (Nat.pow 2 (Nat.mod m e))) (Nat.succ m)) c
def fmG (e m : Nat) : Nat := fmS e m (Nat.mod (Nat.pow 2 e) (Nat.succ m))
def fmK (m : Nat) : Nat := fmG 1024 m
/-- The strong test to 2 and 3 in full. -/
def slK (n : Nat) : Bool := (List.range 21).all fun s => cond (Nat.beq (Nat.mod (n - 1) (2 ^ s)) 0) (cond (Nat.beq (Nat.mod (Nat.div (n - 1) (2 ^ s)) 2) 1) (!(stg n s ((n - 1) / 2 ^ s) 2 && stg n s ((n - 1) / 2 ^ s) 3)) true) true
def gdK (n : Nat) : Bool := Nat.rec true (fun m _ => cond (bsG (Nat.succ m)) (cond (Nat.beq (fmK m) 1) (slK (Nat.succ m)) true) true) n
/-- All products p q, q from p on. -/
def chP (p : Nat) (len : Nat) : Bool := Nat.rec true (fun i ih => cond (gdK (Nat.mul p (Nat.add p i))) ih false) len
def chQ (p : Nat) : Bool := Nat.rec true (fun m _ => cond (bsG (Nat.succ m)) (chP (Nat.succ m) (Nat.succ (Nat.sub (Nat.div 1048576 (Nat.succ m)) (Nat.succ m)))) true) p
def chR (lo : Nat) (len : Nat) : Bool := Nat.rec true (fun k ih => cond (chQ (Nat.add lo k)) ih false) len
theorem chR_spec {lo : Nat} : ∀ len, chR lo len = true → ∀ n, lo ≤ n → n < lo + len → chQ n = true
  | 0, _, n, h1, h2 => by omega
  | len + 1, h, n, h1, h2 => by
    have e : chR lo (len + 1) = cond (chQ (lo + len)) (chR lo len) false := rfl
    rw [e] at h
    cases hg : chQ (lo + len) with
    | false => rw [hg] at h; cases h
    | true =>
      rw [hg] at h
      by_cases hn : n = lo + len
      · rw [hn]; exact hg
      · exact chR_spec len h n h1 (by omega)
theorem chP_spec {p : Nat} : ∀ len, chP p len = true → ∀ i, i < len → gdK (p * (p + i)) = true
  | 0, _, i, h1 => by omega
  | len + 1, h, i, h1 => by
    have e : chP p (len + 1) = cond (gdK (p * (p + len))) (chP p len) false := rfl
    rw [e] at h
    cases hg : gdK (p * (p + len)) with
    | false => rw [hg] at h; cases h
    | true =>
      rw [hg] at h
      by_cases hn : i = len
      · rw [hn]; exact hg
      · exact chP_spec len h i (by omega)
theorem fm_gen (e m n : Nat) : (2 ^ e % n) ^ (m / e) % n * 2 ^ (m % e) % n = 2 ^ m % n := by
  rw [Nat.mul_mod, Nat.mod_mod, ← Nat.pow_mod, ← Nat.mul_mod, ← Nat.pow_mul, ← Nat.pow_add, Nat.div_add_mod]
theorem fm_pos (e m : Nat) (hm : 0 < m) (h2 : m % 2 = 0) : 2 ^ e % (m + 1) ≠ 0 := by
  intro h
  have hd := Nat.dvd_of_mod_eq_zero h
  have hc : Nat.Coprime (2 ^ e) (m + 1) := Nat.Coprime.pow_left _ (by
    rw [Nat.Coprime, Nat.gcd_rec, show (m + 1) % 2 = 1 by omega]; decide)
  have := Nat.Coprime.eq_one_of_dvd hc.symm hd
  omega
theorem fmS_eq {e m c : Nat} (h : c ≠ 0) : fmS e m c = c ^ (m / e) % (m + 1) * 2 ^ (m % e) % (m + 1) := by
  cases c with
  | zero => exact absurd rfl h
  | succ r => rfl
theorem fmG_eq (e : Nat) {m : Nat} (hm : 0 < m) (h2 : m % 2 = 0) : fmG e m = 2 ^ m % (m + 1) := by
  show fmS e m (2 ^ e % (m + 1)) = _
  rw [fmS_eq (fm_pos _ _ hm h2)]
  exact fm_gen _ _ _
theorem fmK_eq {m : Nat} (hm : 0 < m) (h2 : m % 2 = 0) : fmK m = 2 ^ m % (m + 1) := fmG_eq _ hm h2
theorem gdK_spec {n s d : Nat} (hn : 3 ≤ n) (hn2 : n < 1048576) (ho : n % 2 = 1) (hb : bsG n = true) (hg : gdK n = true) (hd : n - 1 = 2 ^ s * d) (hdo : d % 2 = 1) (h2 : stg n s d 2 = true) (h3 : stg n s d 3 = true) : False := by
  obtain ⟨m, rfl⟩ : ∃ m, n = m + 1 := ⟨n - 1, by omega⟩
  have e : gdK (m + 1) = cond (bsG (m + 1)) (cond (Nat.beq (fmK m) 1) (slK (m + 1)) true) true := rfl
  have hf := stg_fermat (by omega) hd h2
  rw [Nat.add_sub_cancel] at hf hd
  rw [e, hb, fmK_eq (by omega) (by omega), hf] at hg
  have hg : slK (m + 1) = true := hg
  rw [slK, List.all_eq_true] at hg
  have hs : s < 21 := by
    rcases Nat.lt_or_ge s 21 with h | h
    · exact h
    · have h1 := Nat.pow_le_pow_right (n := 2) (by decide) h
      have h4 : 0 < d := Nat.pos_of_ne_zero fun h0 => by subst h0; simp at hd; omega
      have h5 := Nat.le_mul_of_pos_right (2 ^ s) h4
      have : (2 : Nat) ^ 21 = 2097152 := by decide
      omega
  have h1 := hg s (List.mem_range.2 hs)
  have hp : 0 < 2 ^ s := Nat.pow_pos (by decide)
  have hdd : m / 2 ^ s = d := by rw [hd, Nat.mul_div_cancel_left _ hp]
  have hmm : m % 2 ^ s = 0 := by rw [hd, Nat.mul_mod_right]
  have hb2 : Nat.beq (Nat.mod (m + 1 - 1) (2 ^ s)) 0 = true := by
    rw [Nat.add_sub_cancel]
    show Nat.beq (m % 2 ^ s) 0 = true
    rw [hmm]; rfl
  have hb3 : Nat.beq (Nat.mod (Nat.div (m + 1 - 1) (2 ^ s)) 2) 1 = true := by
    rw [Nat.add_sub_cancel]
    show Nat.beq (m / 2 ^ s % 2) 1 = true
    rw [hdd, hdo]; rfl
  rw [hb2, hb3, Nat.add_sub_cancel, hdd, h2, h3] at h1
  cases h1
theorem bsG_of {n : Nat} (h2 : n % 2 ≠ 0) (h3 : n % 3 ≠ 0) (h5 : n % 5 ≠ 0) (h7 : n % 7 ≠ 0) (h11 : n % 11 ≠ 0) (h13 : n % 13 ≠ 0) (h17 : n % 17 ≠ 0) (h19 : n % 19 ≠ 0) (h23 : n % 23 ≠ 0) (h29 : n % 29 ≠ 0) (h31 : n % 31 ≠ 0) (h37 : n % 37 ≠ 0) (h41 : n % 41 ≠ 0) : bsG n = true := by
  have key : ∀ p, (2 ≤ p ∧ ∀ d, d < p + 1 → p % d = 0 → d = 1 ∨ d = p) → n % p ≠ 0 → Nat.Coprime n p := by
    intro p hp h
    have hg := Nat.gcd_dvd_right n p
    have hl := Nat.gcd_dvd_left n p
    rcases hp.2 _ (Nat.lt_succ_of_le (Nat.le_of_dvd (by omega) hg)) (Nat.mod_eq_zero_of_dvd hg) with h1 | h1
    · exact h1
    · rw [h1] at hl
      exact absurd (Nat.mod_eq_zero_of_dvd hl) h
  have hc : Nat.Coprime n (2 * 3 * 5 * 7 * 11 * 13 * 17 * 19 * 23 * 29 * 31 * 37 * 41) := by
    refine Nat.Coprime.mul_right (Nat.Coprime.mul_right (Nat.Coprime.mul_right (Nat.Coprime.mul_right (Nat.Coprime.mul_right (Nat.Coprime.mul_right (Nat.Coprime.mul_right (Nat.Coprime.mul_right (Nat.Coprime.mul_right (Nat.Coprime.mul_right (Nat.Coprime.mul_right (Nat.Coprime.mul_right ?_ ?_) ?_) ?_) ?_) ?_) ?_) ?_) ?_) ?_) ?_) ?_) ?_
    all_goals (refine key _ (by decide +kernel) ?_; assumption)
  rw [bsG]
  have e : Nat.gcd n 304250263527210 = 1 := hc
  rw [e]; rfl
theorem bsG_dvd {n m : Nat} (h : bsG n = true) (hd : m ∣ n) : bsG m = true := by
  have h1 : Nat.gcd n 304250263527210 = 1 := Nat.eq_of_beq_eq_true h
  have h2 : Nat.Coprime m 304250263527210 := Nat.Coprime.coprime_dvd_left hd h1
  rw [bsG, show Nat.gcd m 304250263527210 = 1 from h2]; rfl
/-- No composite number below 2^20 without a factor up to 41 passes the strong tests to 2 and 3. -/
theorem comp_fail (HK : ∀ p, 43 ≤ p → p < 1024 → chQ p = true) {n s d : Nat} (hn : 43 ≤ n) (hn2 : n < 1048576) (ho : n % 2 = 1) (hb : bsG n = true) (hd : n - 1 = 2 ^ s * d) (hdo : d % 2 = 1) (h2 : stg n s d 2 = true) (h3 : stg n s d 3 = true) (hlow : ∀ p, 2 ≤ p → p < 43 → n % p ≠ 0) : Pr n := by
  refine ⟨by omega, ?_⟩
  suffices hs : ∀ p q, n = p * q → 2 ≤ p → p ≤ q → False by
    rintro p ⟨q, hq⟩
    rcases Nat.eq_zero_or_pos p with h | h
    · subst h; omega
    rcases Nat.eq_zero_or_pos q with h' | h'
    · subst h'; omega
    by_cases h1 : p = 1
    · exact Or.inl h1
    by_cases h1' : q = 1
    · exact Or.inr (by rw [hq, h1', Nat.mul_one])
    rcases Nat.le_total p q with h4 | h4
    · exact (hs p q hq (by omega) h4).elim
    · exact (hs q p (by rw [hq, Nat.mul_comm]) (by omega) h4).elim
  intro p q hq hp hpq
  have hp43 : 43 ≤ p := by
    rcases Nat.lt_or_ge p 43 with h | h
    · exact absurd (by rw [hq, Nat.mul_mod_right]) (hlow p hp h)
    · exact h
  have hp1024 : p < 1024 := by
    rcases Nat.lt_or_ge p 1024 with h | h
    · exact h
    · have := Nat.mul_le_mul h (Nat.le_trans h hpq)
      omega
  have h := HK p hp43 hp1024
  obtain ⟨m, rfl⟩ : ∃ m, p = m + 1 := ⟨p - 1, by omega⟩
  have e : chQ (m + 1) = cond (bsG (m + 1)) (chP (m + 1) (1048576 / (m + 1) - (m + 1) + 1)) true := rfl
  rw [e, bsG_dvd hb ⟨q, hq⟩] at h
  replace h : chP (m + 1) (1048576 / (m + 1) - (m + 1) + 1) = true := h
  have hle : q ≤ 1048576 / (m + 1) := by
    rw [Nat.le_div_iff_mul_le (by omega), Nat.mul_comm]
    omega
  have h1 := chP_spec _ h (q - (m + 1)) (by omega)
  rw [show m + 1 + (q - (m + 1)) = q by omega, ← hq] at h1
  exact gdK_spec (by omega) hn2 ho hb h1 hd hdo h2 h3
theorem prB (j : Nat) (hj : j < 13) : 2 ≤ prBases.getD j 1 ∧ prBases.getD j 1 ≤ 41 := by
  revert j; decide
theorem prLow : ∀ p, p < 43 → 2 ≤ p → ∃ j, j < 13 ∧ p % prBases.getD j 1 = 0 := by decide +kernel
/-- The strong tests to all bases decide below 2^20 whether a number is prime. -/
theorem pr_law (HK : ∀ p, 43 ≤ p → p < 1024 → chQ p = true) {n s d : Nat} (hn : 43 ≤ n) (hn2 : n < 1048576) (hb : ∀ j, j < 13 → n % prBases.getD j 1 ≠ 0) (hd : n - 1 = 2 ^ s * d) (hdo : d % 2 = 1) : (∀ j, j < 13 → stg n s d (prBases.getD j 1) = true) ↔ Pr n := by
  constructor
  · intro h
    have h2 := hb 0 (by decide)
    have e2 : prBases.getD 0 1 = 2 := rfl
    rw [e2] at h2
    exact comp_fail HK hn hn2 (by omega) (bsG_of (hb 0 (by decide)) (hb 1 (by decide)) (hb 2 (by decide)) (hb 3 (by decide)) (hb 4 (by decide)) (hb 5 (by decide)) (hb 6 (by decide)) (hb 7 (by decide)) (hb 8 (by decide)) (hb 9 (by decide)) (hb 10 (by decide)) (hb 11 (by decide)) (hb 12 (by decide))) hd hdo (h 0 (by decide)) (h 1 (by decide)) (fun p hp hp2 h0 => by
      obtain ⟨j, hj, hm⟩ := prLow p hp2 hp
      exact hb j hj (Nat.mod_eq_zero_of_dvd (Nat.dvd_trans (Nat.dvd_of_mod_eq_zero hm) (Nat.dvd_of_mod_eq_zero h0))))
  · intro hp j hj
    have h1 := prB j hj
    exact stg_prime hp hd (by rw [Nat.mod_eq_of_lt (by omega)]; omega)
/-- A number that a base divides, or 1. -/
theorem pr_small {n j : Nat} (hj : j < 13) (hm : n % prBases.getD j 1 = 0) : (n = prBases.getD j 1) ↔ Pr n := by
  have h1 := prB j hj
  constructor
  · intro h
    rw [h]
    exact (show ∀ j, j < 13 → Pr (prBases.getD j 1) from fun j hj => by
      have hk : ∀ j, j < 13 → ∀ d, d < prBases.getD j 1 + 1 → prBases.getD j 1 % d = 0 → d = 1 ∨ d = prBases.getD j 1 := by decide +kernel
      have h3 := prB j hj
      exact ⟨h3.1, fun d hd => hk j hj d (Nat.lt_succ_of_le (Nat.le_of_dvd (by omega) hd)) (Nat.mod_eq_zero_of_dvd hd)⟩) j hj
  · intro hp
    rcases hp.2 _ (Nat.dvd_of_mod_eq_zero hm) with h | h
    · omega
    · exact h.symm
end Go.Proofs.YtknffgdbdadpcaaGreatDoor
