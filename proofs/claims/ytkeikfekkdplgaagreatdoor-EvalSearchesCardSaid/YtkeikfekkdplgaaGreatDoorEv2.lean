/-
 Package eval: short, which panics at long numbers.
-/
import Derived.Test.YtkeikfekkdplgaaGreatDoorEv1
namespace Go.Proofs.YtkeikfekkdplgaaGreatDoor
open Go Go.RowKit

section
variable {P : Program} {ops : Array Oper} {Q : Exit → Act → World → Prop} {ds : List (Option Tmp)} {a0 : Act} {w0 : World} {L : List (Value → World → Prop)} {boxes : List Nat} {i k : Nat} {o : Oper} {os : List Oper}
/-- Two known values in, one out. -/
theorem ok2 {x y : Operand} {p q r : Value} (hx : Od ops ds a0 w0 L i x (IsV p)) (hy : Od ops ds a0 w0 L i y (IsV q)) (hr : ∀ (a : Act) (w : World), a.eval x = p → a.eval y = q → (execOp a.eval o).run P w = .ok (.value r) w)
  (hi : L.getD i (fun _ _ => True) = IsV r := by kernel_rfl) (hb : boxes.contains i = false := by kernel_rfl) : Ok P ops Q ds a0 w0 L boxes i o :=
 Ok.of hb fun v a w hE hd hf => ⟨r, hr a w (hx.out v a w hE hd hf) (hy.out v a w hE hd hf), by rw [hi]; exact rfl⟩
end
theorem max_run {P : Program} {o : Oper} {a : Act} {w : World} {x y : Operand} {ts : Array TypeId} {p q : Int} (h1 : a.eval x = .int .i64 p) (h2 : a.eval y = .int .i64 q) (ho : o.op = .call { callee := .builtin .max, args := #[x, y], argTypes := ts }) : (execOp a.eval o).run P w = .ok (.value (.int .i64 (if q > p then q else p))) w := by
 unfold execOp
 rw [ho]
 dsimp only
 unfold resolve
 simp only [List.map_toArray, List.map_cons, List.map_nil, h1, h2]
 simp [invoke, Builtin.max_, Builtin.max2, go_sem]
theorem min_run {P : Program} {o : Oper} {a : Act} {w : World} {x y : Operand} {ts : Array TypeId} {p q : Int} (h1 : a.eval x = .int .i64 p) (h2 : a.eval y = .int .i64 q) (ho : o.op = .call { callee := .builtin .min, args := #[x, y], argTypes := ts }) : (execOp a.eval o).run P w = .ok (.value (.int .i64 (if q < p then q else p))) w := by
 unfold execOp
 rw [ho]
 dsimp only
 unfold resolve
 simp only [List.map_toArray, List.map_cons, List.map_nil, h1, h2]
 simp [invoke, Builtin.min_, Builtin.min2, go_sem]

/-- What an error panics with. -/
def failV (n : Int) : Value := .iface 172 (.agg #[.int .i64 n])
def pan (n : Int) : List PanicEntry := [{ v := failV n, recovered := false }]

set_option maxRecDepth 100000 in
set_option maxHeartbeats 4000000 in
theorem short_y {k : Nat} {lo hi m1 m2 r : Int} {f : Bool} {x : Value} {w : World} (hx : IsKn k lo hi f x w) (HK : Hid (k ≤ 268435456)) (H1 : Hid (((bitLen lo.natAbs : Nat) : Int) = m1)) (H2 : Hid (((bitLen hi.natAbs : Nat) : Int) = m2)) (HR : Hid ((if m2 > m1 then m2 else m1) = r)) (HB : Hid (¬ r > 4096)) : Calls Tryz.prog 139 #[x] w (Ret w (IsKn k lo hi f)) := by
 obtain ⟨s, a, n, c, s', a', n', c', rfl, h1, h2⟩ := hx
 obtain ⟨W, hW, E, B1, B2⟩ : ∃ W, W = (w.alloc (.cells #[.bool s, .slice a n c, .bool s', .slice a' n' c', .bool f] 176)).alloc (.cells #[.bool false, .slice none 0 0, .bool false, .slice none 0 0, .bool false] 176) ∧ Ext w W ∧ Bk W w.heap.size [.bool s, .slice a n c, .bool s', .slice a' n' c', .bool f] ∧ Bk W (w.heap.size + 1) [.bool false, .slice none 0 0, .bool false, .slice none 0 0, .bool false] :=
  ⟨_, rfl, ((Ext.refl w).alloc _).alloc _, (Bk.new w _ _).ext ((Ext.refl _).alloc _), Bk.newE _ _ (by simp) _ _⟩
 replace h1 := h1.ext E
 replace h2 := h2.ext E
 go_enter Tryz.func139, Tryz.ntmps139
 go_upto_region 1 with (fail)
 rw [← hW]
 clear hW
 refine rg 8 [some 3, some 4, some 5, some 6, some 7, some 8, some 9, some 10] [IsV (.pointer (some ⟨w.heap.size, 0, none⟩)), IsI k lo, IsV (.int .i64 m1), IsV (.pointer (some ⟨w.heap.size, 2, none⟩)), IsI k hi, IsV (.int .i64 m2), IsV (.int .i64 r), IsV (.bool false)] [] 0 ?_ ?_
 ·refine Rc (fa (fa_Kn0 w.heap.size 0) (Od.lit 1)) ?_
  refine Rc (lvI 0 B1 h1 ld_Int (Od.lc 0 3)) ?_
  refine Rc (cl1 (en Tryz.func190) (Od.lc (Φ := IsI k lo) 1 4) (fun x0 w' hE d0 => Calls.mono (Bits_f d0 HK.out) fun _ _ h => h.int H1.out)) ?_
  refine Rc (fa (fa_Kn1 w.heap.size 0) (Od.lit 1)) ?_
  refine Rc (lvI 2 B1 h2 ld_Int (Od.lc 3 6)) ?_
  refine Rc (cl1 (en Tryz.func190) (Od.lc (Φ := IsI k hi) 4 7) (fun x0 w' hE d0 => Calls.mono (Bits_f d0 HK.out) fun _ _ h => h.int H2.out)) ?_
  refine Rc (ok2 (Od.loc 2 5) (Od.loc 5 8) (fun a w h1 h2 => by rw [max_run h1 h2 rfl, HR.out])) ?_
  refine Rc (bn (r := .bool false) (Od.loc 6 9) Od.con (hr := fun w => by have hx9 := HB.out; go_simp)) ?_
  exact RgAll.nil
 intro v W1 e1 hΦ _
 replace E := E.trans e1
 replace B1 := B1.ext e1
 replace B2 := B2.ext e1
 replace h1 := h1.ext e1
 replace h2 := h2.ext e1
 simp only [layL, Act.put, uAx, u0x, u1x, Nat.reduceAdd]
 rw [show v 7 = .bool false from hΦ 7 (by decide)]
 clear hΦ e1
 refine wpAny_done (by kernel_rfl) ?_ _
 go_upto_region 3 with (fail)
 refine rgs 1 [some 13] [IsV (.agg #[.bool s, .slice a n c, .bool s', .slice a' n' c', .bool f])] [] ?_ ?_
 ·refine Rc (lvV B1 ld_Kn (Od.lit 1)) ?_
  exact RgAll.nil
 intro v W2 e1 hΦ _
 replace E := E.trans e1
 replace B2 := B2.ext e1
 replace h1 := h1.ext e1
 replace h2 := h2.ext e1
 simp only [layL, Act.put, uAx, u0x, u1x]
 rw [show v 0 = _ from hΦ 0 (by decide)]
 clear hΦ e1 B1
 refine stL fun K hK => ?_
 refine stV (us := [.bool s, .slice a n c, .bool s', .slice a' n' c', .bool f]) B2 st_Kn rfl rfl nw5 E (by omega) (fun W3 B3 E2 G2 _ _ => hK _ _ ?_)
 refine wpList_nil ?_
 have d0 := B3.c 0 _ rfl; have d1 := B3.c 1 _ rfl; have d2 := B3.c 2 _ rfl; have d3 := B3.c 3 _ rfl; have d4 := B3.c 4 _ rfl
 go_wp2_with fail
 exact bodyPost_ret (v := .agg #[.bool s, .slice a n c, .bool s', .slice a' n' c', .bool f]) (by simp [results, Tryz.results139, go_sem, d0, d1, d2, d3, d4]) rfl ⟨_, rfl, E2, _, _, _, _, _, _, _, _, rfl, IsI.gstb _ _ _ _ _ G2 h1, IsI.gstb _ _ _ _ _ G2 h2⟩

set_option maxRecDepth 100000 in
set_option maxHeartbeats 4000000 in
theorem short_n {k : Nat} {lo hi m1 m2 r : Int} {f : Bool} {x : Value} {w : World} (hx : IsKn k lo hi f x w) (HK : Hid (k ≤ 268435456)) (H1 : Hid (((bitLen lo.natAbs : Nat) : Int) = m1)) (H2 : Hid (((bitLen hi.natAbs : Nat) : Int) = m2)) (HR : Hid ((if m2 > m1 then m2 else m1) = r)) (HB : Hid (r > 4096)) : Calls Tryz.prog 139 #[x] w (fun e w' => e = .panicked (pan 2) ∧ Ext w w') := by
 obtain ⟨s, a, n, c, s', a', n', c', rfl, h1, h2⟩ := hx
 obtain ⟨W, hW, E, B1⟩ : ∃ W, W = (w.alloc (.cells #[.bool s, .slice a n c, .bool s', .slice a' n' c', .bool f] 176)).alloc (.cells #[.bool false, .slice none 0 0, .bool false, .slice none 0 0, .bool false] 176) ∧ Ext w W ∧ Bk W w.heap.size [.bool s, .slice a n c, .bool s', .slice a' n' c', .bool f] :=
  ⟨_, rfl, ((Ext.refl w).alloc _).alloc _, (Bk.new w _ _).ext ((Ext.refl _).alloc _)⟩
 replace h1 := h1.ext E
 replace h2 := h2.ext E
 go_enter Tryz.func139, Tryz.ntmps139
 go_upto_region 1 with (fail)
 rw [← hW]
 clear hW
 refine rg 8 [some 3, some 4, some 5, some 6, some 7, some 8, some 9, some 10] [IsV (.pointer (some ⟨w.heap.size, 0, none⟩)), IsI k lo, IsV (.int .i64 m1), IsV (.pointer (some ⟨w.heap.size, 2, none⟩)), IsI k hi, IsV (.int .i64 m2), IsV (.int .i64 r), IsV (.bool true)] [] 0 ?_ ?_
 ·refine Rc (fa (fa_Kn0 w.heap.size 0) (Od.lit 1)) ?_
  refine Rc (lvI 0 B1 h1 ld_Int (Od.lc 0 3)) ?_
  refine Rc (cl1 (en Tryz.func190) (Od.lc (Φ := IsI k lo) 1 4) (fun x0 w' hE d0 => Calls.mono (Bits_f d0 HK.out) fun _ _ h => h.int H1.out)) ?_
  refine Rc (fa (fa_Kn1 w.heap.size 0) (Od.lit 1)) ?_
  refine Rc (lvI 2 B1 h2 ld_Int (Od.lc 3 6)) ?_
  refine Rc (cl1 (en Tryz.func190) (Od.lc (Φ := IsI k hi) 4 7) (fun x0 w' hE d0 => Calls.mono (Bits_f d0 HK.out) fun _ _ h => h.int H2.out)) ?_
  refine Rc (ok2 (Od.loc 2 5) (Od.loc 5 8) (fun a w h1 h2 => by rw [max_run h1 h2 rfl, HR.out])) ?_
  refine Rc (bn (r := .bool true) (Od.loc 6 9) Od.con (hr := fun w => by have hx9 := HB.out; go_simp)) ?_
  exact RgAll.nil
 intro v W1 e1 hΦ _
 replace E := E.trans e1
 simp only [layL, Act.put, uAx, u0x, u1x, Nat.reduceAdd]
 rw [show v 7 = .bool true from hΦ 7 (by decide)]
 clear hΦ e1
 refine wpAny_done (by kernel_rfl) ?_ _
 go_wp2_with fail
 exact ⟨rfl, rfl, E⟩
end Go.Proofs.YtkeikfekkdplgaaGreatDoor
