/-
 Package eval: value. (Printed by wip/gen/ev11.py.)
-/
import Derived.Test.YtkeikfekkdplgaaGreatDoorEv10
namespace Go.Proofs.YtkeikfekkdplgaaGreatDoor
open Go Go.RowKit

set_option maxRecDepth 100000 in
set_option maxHeartbeats 4000000 in
theorem value1_f {k : Nat} {z : Int} {x : Value} {w : World} (hx : IsI k z x w) (HK : Hid (k ≤ 1000)) (q : Rat) (HQ : Hid (Rat.divInt z 1 = q)) : Calls Tryz.prog 106 #[x] w (Ret w (IsRat (max (k + 2) 2) q)) := by
 obtain ⟨s1, a1, n1, c1, rfl, h1⟩ := hx
 have h1 : IsI _ _ _ w := ⟨_, _, _, _, rfl, h1⟩
 obtain ⟨W, hW, S⟩ : ∃ W, W = (w.alloc (.cells #[.bool s1, .slice a1 n1 c1] 28)).alloc (.cells #[.bool false, .slice none 0 0, .bool false, .slice none 0 0] 45) ∧ Sto w W [((w.heap.size + 1, 1), IsI 0 0), ((w.heap.size + 1, 0), IsI 0 0), ((w.heap.size, 0), IsI k z)] := ⟨_, rfl, (((Sto.start w).new1 (w.heap.size) (by simp) s1 a1 n1 c1 28 (IsI k z) (IsI.gstb _ _) (h1)).new2 (w.heap.size + 1) (by simp) false false none none 0 0 0 0 45 (IsI 0 0) (IsI 0 0) (IsI.gstb _ _) (IsI.nil _ _) (IsI.gstb _ _) (IsI.nil _ _))⟩
 clear h1
 go_enter Tryz.func106, Tryz.ntmps106
 go_upto_region 1 with (fail)
 rw [← hW]
 clear hW
 have hl := hid S.lt; have hw := S.ext.size
 refine rgn 9 [some 6, some 7, some 8, some 5, some 9, some 10, some 3, none, some 4] [IsI k z, IsI 2 1, IsT2 (IsQ (IsI (max (k + 2) 2) q.num) (IsI (max (k + 2) 2) (((q.den : Nat) : Int)))) (IsV (.int .i64 0)), IsT2 (IsQ (IsI (max (k + 2) 2) q.num) (IsI (max (k + 2) 2) (((q.den : Nat) : Int)))) (IsV (.int .i64 0)), IsQ (IsI (max (k + 2) 2) q.num) (IsI (max (k + 2) 2) (((q.den : Nat) : Int))), IsV (.int .i64 0), IsNw W 2, TT, IsV (.int .i64 0)] [6] [none, none, none, none, none, none, none, some (6, [IsI (max (k + 2) 2) q.num, IsI (max (k + 2) 2) (((q.den : Nat) : Int))]), none] [none, none, none, none, none, none, none, some 6, none] 0 ?_ ?_
 ·refine RcK (ldI S 2 (w.heap.size) 0 (Od.lit 1) ld_Int) ?_
  refine RcK (cl1 (en Tryz.func108) Od.con (fun x0 w' hE d0 => by { obtain rfl : x0 = .int .i64 1 := d0; exact Of_f _ 1 (by decide) (by decide) })) ?_
  refine RcK (cl2 (en Tryz.func107) (Od.lc (Φ := IsI k z) 0 6) (Od.lc (Φ := IsI 2 1) 1 7) (fun x0 x1 w' hE d0 d1 => qNew_c d0 d1 (by have := HK.out; omega) (by decide) (by decide) q HQ.out)) ?_
  refine RcK (mv (Od.lc 2 8)) ?_
  refine RcK (ex (Od.loc 3 5) t20) ?_
  refine RcK (ex (Od.loc 3 5) t21) ?_
  refine RcK (alN al_Rat) ?_
  refine RcS 6 (sQ st_Rat (Od.lc (Φ := IsQ (IsI (max (k + 2) 2) q.num) (IsI (max (k + 2) 2) (((q.den : Nat) : Int)))) 4 9) (IsI.gstb _ _) (IsI.gstb _ _)) ?_
  refine RcK (mv (Od.lc 5 10)) ?_
  exact RgAllN.nil
 intro v W1 e1 hΦ hS _
 replace S := S.mono e1
 obtain ⟨g3, v6, q1, S2⟩ := S.addQ (hΦ 6 (by decide) rfl) (hS 7 (by decide) _ _ rfl) hw (IsI.gstb _ _) (IsI.gstb _ _)
 replace S := S2 (ApartO.old hl.out q1); clear S2
 simp only [layL, Act.put, uAx, u0x, u1x, Nat.reduceAdd]
 rw [v6]
 clear hl hw v6 hΦ hS e1
 refine wpAny_done (by kernel_rfl) ?_ _
 go_upto_region 2 with (fail)
 refine rgs 1 [some 11] [IsQ (IsI (max (k + 2) 2) q.num) (IsI (max (k + 2) 2) (((q.den : Nat) : Int)))] [] ?_ ?_
 ·refine Rc (ldQ S 1 0 (g3) 0 (Od.lit 3) ld_Rat rfl rfl) ?_
  exact RgAll.nil
 intro v W2 e1 hΦ _
 replace S := S.mono e1
 have h11 := hΦ 0 (by decide)
 simp only [layL, Act.put, uAx, u0x, u1x]
 clear hΦ e1
 try simp only [List.drop_succ_cons, List.drop_zero]
 (with_reducible refine stL ?_ (by rfl)); intro KK hKK; refine stQ S 3 2 (w.heap.size + 1) 0 h11 (IsI.gstb _ _) (IsI.gstb _ _) st_Rat (fun W3 S2 G2 => hKK _ _ ?_) rfl rfl
 replace S := S2; clear S2 G2 hKK KK h11
 simp only [u0x, u1x] at S
 refine wpList_nil ?_
 go_wp2_with fail
 obtain ⟨s90x, a90x, n90x, c90x, b90x, h90x⟩ := S.at 3 (w.heap.size + 1) 0 (IsI (max (k + 2) 2) q.num) rfl; have L90xa : World.cell? W3 ⟨w.heap.size + 1, 0, none⟩ = some (.bool s90x) := b90x.c0; have L90xb : World.cell? W3 ⟨w.heap.size + 1, 1, none⟩ = some (.slice a90x n90x c90x) := b90x.c1
 obtain ⟨s90y, a90y, n90y, c90y, b90y, h90y⟩ := S.at 2 (w.heap.size + 1) 1 (IsI (max (k + 2) 2) (((q.den : Nat) : Int))) rfl; have L90ya : World.cell? W3 ⟨w.heap.size + 1, 2, none⟩ = some (.bool s90y) := b90y.c0; have L90yb : World.cell? W3 ⟨w.heap.size + 1, 3, none⟩ = some (.slice a90y n90y c90y) := b90y.c1
 exact bodyPost_ret (v := .agg #[.bool s90x, .slice a90x n90x c90x, .bool s90y, .slice a90y n90y c90y]) (by simp [results, Tryz.results106, go_sem, L90xa, L90xb, L90ya, L90yb]) rfl (⟨_, rfl, S.ext, ⟨_, _, _, _, _, _, _, _, rfl, h90x, h90y⟩⟩)

/-- An api.Value: an interval, whether it is final, hypotheses, an error: eleven cells. -/
def IsVl (r : Res Kn) (hy : Value) : Value → World → Prop := fun x w => match r with
 | .ok q => ∃ s1 a1 n1 c1 s2 a2 n2 c2 s3 a3 n3 c3 s4 a4 n4 c4, x = .agg #[.bool s1, .slice a1 n1 c1, .bool s2, .slice a2 n2 c2, .bool s3, .slice a3 n3 c3, .bool s4, .slice a4 n4 c4, .bool q.fin, hy, .int .i64 0] ∧
   IsRat 130 (Rat.divInt q.lo 1) (.agg #[.bool s1, .slice a1 n1 c1, .bool s2, .slice a2 n2 c2]) w ∧ IsRat 130 (Rat.divInt q.hi 1) (.agg #[.bool s3, .slice a3 n3 c3, .bool s4, .slice a4 n4 c4]) w
 | .error n => x = .agg #[.bool false, .slice none 0 0, .bool false, .slice none 0 0, .bool false, .slice none 0 0, .bool false, .slice none 0 0, .bool true, hy, .int .i64 n]
theorem IsRat.gstb (k : Nat) (q : Rat) : GStb (IsRat k q) := IsQ.gstb (IsI.gstb _ _) (IsI.gstb _ _)
theorem IsVl.gstb (r : Res Kn) (hy : Value) : GStb (IsVl r hy) := fun x w w' e h => by
 cases r with
 | error n => exact h
 | ok q =>
  obtain ⟨s1, a1, n1, c1, s2, a2, n2, c2, s3, a3, n3, c3, s4, a4, n4, c4, h1, h2, h3⟩ := h
  exact ⟨s1, a1, n1, c1, s2, a2, n2, c2, s3, a3, n3, c3, s4, a4, n4, c4, h1, IsRat.gstb _ _ _ _ _ e h2, IsRat.gstb _ _ _ _ _ e h3⟩
set_option maxRecDepth 100000
theorem st_Vl : StV Tryz.prog 50 11 := by
 intro w g vs us h1 h2 hs B
 match vs, h1 with
 | [v0, v1, v2, v3, v4, v5, v6, v7, v8, v9, v10], _ =>
  match us, h2 with
  | [u0, u1, u2, u3, u4, u5, u6, u7, u8, u9, u10], _ =>
   simp only [List.all_cons, List.all_nil, Bool.and_true, Bool.and_eq_true] at hs
   obtain ⟨s0, s1, s2, s3, s4, s5, s6, s7, s8, s9, s10⟩ := hs
   have r0 := fun w a m => run_store Tryz.prog w a u0 m s0; have r1 := fun w a m => run_store Tryz.prog w a u1 m s1; have r2 := fun w a m => run_store Tryz.prog w a u2 m s2; have r3 := fun w a m => run_store Tryz.prog w a u3 m s3; have r4 := fun w a m => run_store Tryz.prog w a u4 m s4; have r5 := fun w a m => run_store Tryz.prog w a u5 m s5
   have r6 := fun w a m => run_store Tryz.prog w a u6 m s6; have r7 := fun w a m => run_store Tryz.prog w a u7 m s7; have r8 := fun w a m => run_store Tryz.prog w a u8 m s8; have r9 := fun w a m => run_store Tryz.prog w a u9 m s9; have r10 := fun w a m => run_store Tryz.prog w a u10 m s10
   have c0 := B.c 0 _ rfl; have c1 := B.c 1 _ rfl; have c2 := B.c 2 _ rfl; have c3 := B.c 3 _ rfl; have c4 := B.c 4 _ rfl; have c5 := B.c 5 _ rfl; have c6 := B.c 6 _ rfl; have c7 := B.c 7 _ rfl; have c8 := B.c 8 _ rfl; have c9 := B.c 9 _ rfl; have c10 := B.c 10 _ rfl
   have f0 := B.f 0; have f1 := B.f 1; have f2 := B.f 2; have f3 := B.f 3; have f4 := B.f 4; have f5 := B.f 5; have f6 := B.f 6; have f7 := B.f 7; have f8 := B.f 8; have f9 := B.f 9; have f10 := B.f 10
   clear B s0 s1 s2 s3 s4 s5 s6 s7 s8 s9 s10
   simp only [setL]
   go_simp
theorem ld_Vl : LdV Tryz.prog 50 11 := by
 intro w g vs h1 B
 match vs, h1 with
 | [v0, v1, v2, v3, v4, v5, v6, v7, v8, v9, v10], _ =>
  have c0 := B.c 0 _ rfl; have c1 := B.c 1 _ rfl; have c2 := B.c 2 _ rfl; have c3 := B.c 3 _ rfl; have c4 := B.c 4 _ rfl; have c5 := B.c 5 _ rfl; have c6 := B.c 6 _ rfl; have c7 := B.c 7 _ rfl; have c8 := B.c 8 _ rfl; have c9 := B.c 9 _ rfl; have c10 := B.c 10 _ rfl
  clear B
  go_simp
theorem nwVl {s1 s2 s3 s4 : Bool} {a1 a2 a3 a4 a5 : Option Addr} {n1 n2 n3 n4 n5 c1 c2 c3 c4 c5 : Nat} {f : Bool} {e : Int} : ∀ v ∈ [Value.bool s1, .slice a1 n1 c1, .bool s2, .slice a2 n2 c2, .bool s3, .slice a3 n3 c3, .bool s4, .slice a4 n4 c4, .bool f, .slice a5 n5 c5, .int .i64 e], NoWord v := by
 intro v hv
 simp only [List.mem_cons, List.not_mem_nil, or_false] at hv
 rcases hv with rfl | rfl | rfl | rfl | rfl | rfl | rfl | rfl | rfl | rfl | rfl
 all_goals first | exact NoWord.bool _ | exact NoWord.slice _ _ _ | exact NoWord.int64 _
def IsIv (k : Nat) (p q : Rat) : Value → World → Prop := IsJ (IsI k p.num) (IsI k ((p.den : Nat) : Int)) (IsI k q.num) (IsI k ((q.den : Nat) : Int))
section
variable {ops : Array Oper} {Q : Exit → Act → World → Prop} {ds : List (Option Tmp)} {a0 : Act} {w0 : World} {L : List (Value → World → Prop)} {boxes : List Nat} {i k : Nat} {o : Oper} {os : List Oper}
theorem bdIv {k : Nat} {p q : Rat} {x y : Operand} (hx : Od ops ds a0 w0 L i x (IsRat k p)) (hy : Od ops ds a0 w0 L i y (IsRat k q)) (ho : o.op = .build 47 #[(0, x), (1, y)] := by rfl) (hi : L.getD i (fun _ _ => True) = IsIv k p q := by kernel_rfl) (hb : boxes.contains i = false := by kernel_rfl) : Ok Tryz.prog ops Q ds a0 w0 L boxes i o :=
 Ok.of hb fun v a w hE hd hf => by
  obtain ⟨s1, a1, n1, c1, s2, a2, n2, c2, e1, h1, h2⟩ := hx.out v a w hE hd hf
  obtain ⟨s3, a3, n3, c3, s4, a4, n4, c4, e2, h3, h4⟩ := hy.out v a w hE hd hf
  have hr : (Instr.build 47 #[(0, .agg #[.bool s1, .slice a1 n1 c1, .bool s2, .slice a2 n2 c2]), (1, .agg #[.bool s3, .slice a3 n3 c3, .bool s4, .slice a4 n4 c4])]).run Tryz.prog w = .ok (.agg #[.bool s1, .slice a1 n1 c1, .bool s2, .slice a2 n2 c2, .bool s3, .slice a3 n3 c3, .bool s4, .slice a4 n4 c4]) w := by go_simp
  exact ⟨_, bd_run ho e1 e2 hr, by rw [hi]; exact ⟨_, _, _, _, _, _, _, _, _, _, _, _, _, _, _, _, rfl, h1, h2, h3, h4⟩⟩
theorem bdVl {q : Kn} {x y : Operand} (hx : Od ops ds a0 w0 L i x (IsIv 130 (Rat.divInt q.lo 1) (Rat.divInt q.hi 1))) (hy : Od ops ds a0 w0 L i y (IsV (.bool q.fin))) (ho : o.op = .build 50 #[(0, x), (1, y)] := by rfl) (hi : L.getD i (fun _ _ => True) = IsVl (.ok q) (.slice none 0 0) := by kernel_rfl) (hb : boxes.contains i = false := by kernel_rfl) : Ok Tryz.prog ops Q ds a0 w0 L boxes i o :=
 Ok.of hb fun v a w hE hd hf => by
  obtain ⟨s1, a1, n1, c1, s2, a2, n2, c2, s3, a3, n3, c3, s4, a4, n4, c4, e1, h1, h2, h3, h4⟩ := hx.out v a w hE hd hf
  have hr : (Instr.build 50 #[(0, .agg #[.bool s1, .slice a1 n1 c1, .bool s2, .slice a2 n2 c2, .bool s3, .slice a3 n3 c3, .bool s4, .slice a4 n4 c4]), (1, .bool q.fin)]).run Tryz.prog w = .ok (.agg #[.bool s1, .slice a1 n1 c1, .bool s2, .slice a2 n2 c2, .bool s3, .slice a3 n3 c3, .bool s4, .slice a4 n4 c4, .bool q.fin, .slice none 0 0, .int .i64 0]) w := by go_simp
  exact ⟨_, bd_run ho e1 (hy.out v a w hE hd hf) hr, by rw [hi]; exact ⟨_, _, _, _, _, _, _, _, _, _, _, _, _, _, _, _, rfl, ⟨_, _, _, _, _, _, _, _, rfl, h1, h2⟩, ⟨_, _, _, _, _, _, _, _, rfl, h3, h4⟩⟩⟩
end
theorem IsVl.stb (r : Res Kn) (hy : Value) : Stb (IsVl r hy) := fun x w w' e h => IsVl.gstb r hy x w w' e.gr h
theorem IsIv.stb (k : Nat) (p q : Rat) : Stb (IsIv k p q) := IsJ.stb (IsI.stb _ _) (IsI.stb _ _) (IsI.stb _ _) (IsI.stb _ _)
theorem IsRat.stbE (k : Nat) (q : Rat) : Stb (IsRat k q) := IsQ.stb (IsI.stb _ _) (IsI.stb _ _)

set_option maxRecDepth 100000 in
set_option maxHeartbeats 4000000 in
theorem value_f {q : Kn} {x : Value} {w : World} (hx : IsK 128 q x w) : Calls Tryz.prog 83 #[x] w (Ret w (IsVl (.ok q) (.slice none 0 0))) := by
 obtain ⟨s, a, n, c, s', a', n', c', rfl, h1, h2⟩ := hx
 obtain ⟨W, hW, E, B1, B2⟩ : ∃ W, W = (w.alloc (.cells #[.bool s, .slice a n c, .bool s', .slice a' n' c', .bool q.fin] 176)).alloc (.cells #[.bool false, .slice none 0 0, .bool false, .slice none 0 0, .bool false, .slice none 0 0, .bool false, .slice none 0 0, .bool false, .slice none 0 0, .int .i64 0] 50) ∧ Ext w W ∧ Bk W w.heap.size [.bool s, .slice a n c, .bool s', .slice a' n' c', .bool q.fin] ∧ Bk W (w.heap.size + 1) [.bool false, .slice none 0 0, .bool false, .slice none 0 0, .bool false, .slice none 0 0, .bool false, .slice none 0 0, .bool false, .slice none 0 0, .int .i64 0] :=
  ⟨_, rfl, ((Ext.refl w).alloc _).alloc _, (Bk.new w _ _).ext ((Ext.refl _).alloc _), Bk.newE _ _ (by simp) _ _⟩
 replace h1 := h1.ext E
 replace h2 := h2.ext E
 go_enter Tryz.func83, Tryz.ntmps83
 go_upto_region 2 with (fail)
 rw [← hW]
 clear hW
 refine rg 12 [some 4, some 5, some 6, some 7, some 8, some 9, some 10, some 11, some 12, some 13, some 14, some 15] [IsV (.func (.func 106) #[] #[]), IsV (.pointer (some ⟨w.heap.size, 0, none⟩)), IsI 128 q.lo, IsRat 130 (Rat.divInt q.lo 1), IsV (.func (.func 106) #[] #[]), IsV (.pointer (some ⟨w.heap.size, 2, none⟩)), IsI 128 q.hi, IsRat 130 (Rat.divInt q.hi 1), IsIv 130 (Rat.divInt q.lo 1) (Rat.divInt q.hi 1), IsV (.pointer (some ⟨w.heap.size, 4, none⟩)), IsV (.bool q.fin), IsVl (.ok q) (.slice none 0 0)] [] 1 ?_ ?_ (hst := by repeat' (first | exact trivial | exact IsV.stb _ | exact IsI.stb _ _ | exact IsRat.stbE _ _ | exact IsIv.stb _ _ _ | exact IsVl.stb _ _ | apply And.intro))
 ·refine Rc (mv (Od.lit 3)) ?_
  refine Rc (fa (fa_Kn0 w.heap.size 0) (Od.lit 1)) ?_
  refine Rc (lvI 0 B1 h1 ld_Int (Od.lc 1 5)) ?_
  refine Rc (cv1 (caps := []) (en Tryz.func106) (Od.lc (Φ := IsV (.func (.func 106) #[] #[])) 0 4) (Od.lc (Φ := IsI 128 q.lo) 2 6) (fun x0 w' hE d0 => value1_f d0 (hid (by decide)) _ (hid rfl))) ?_
  refine Rc (mv (Od.lit 3)) ?_
  refine Rc (fa (fa_Kn1 w.heap.size 0) (Od.lit 1)) ?_
  refine Rc (lvI 2 B1 h2 ld_Int (Od.lc 5 9)) ?_
  refine Rc (cv1 (caps := []) (en Tryz.func106) (Od.lc (Φ := IsV (.func (.func 106) #[] #[])) 4 8) (Od.lc (Φ := IsI 128 q.hi) 6 10) (fun x0 w' hE d0 => value1_f d0 (hid (by decide)) _ (hid rfl))) ?_
  refine Rc (bdIv (Od.loc 3 7) (Od.loc 7 11)) ?_
  refine Rc (fa (fa_Kn2 w.heap.size 0) (Od.lit 1)) ?_
  refine Rc (lvC 4 B1 ld_b (Od.lc 9 13)) ?_
  refine Rc (bdVl (q := q) (Od.loc 8 12) (Od.loc 10 14)) ?_
  exact RgAll.nil
 intro v W1 e1 hΦ _
 replace E := E.trans e1
 replace B2 := B2.ext e1
 obtain ⟨s1, a1, n1, c1, s2, a2, n2, c2, s3, a3, n3, c3, s4, a4, n4, c4, hv, g1, g2⟩ := hΦ 11 (by decide)
 simp only [layL, Act.put, uAx, u0x, u1x, Nat.reduceAdd]
 rw [hv]
 clear hv hΦ e1 B1 h1 h2
 refine stA 12 (h := fun K hK => ?_)
 refine stV (us := [.bool s1, .slice a1 n1 c1, .bool s2, .slice a2 n2 c2, .bool s3, .slice a3 n3 c3, .bool s4, .slice a4 n4 c4, .bool q.fin, .slice none 0 0, .int .i64 0]) B2 st_Vl rfl rfl nwVl E (by omega) (fun W2 B4 E2 G2 _ _ => hK _ _ ?_)
 refine wpAny_done (by kernel_rfl) ?_ _
 have d0 := B4.c 0 _ rfl; have d1 := B4.c 1 _ rfl; have d2 := B4.c 2 _ rfl; have d3 := B4.c 3 _ rfl; have d4 := B4.c 4 _ rfl; have d5 := B4.c 5 _ rfl; have d6 := B4.c 6 _ rfl; have d7 := B4.c 7 _ rfl; have d8 := B4.c 8 _ rfl; have d9 := B4.c 9 _ rfl; have d10 := B4.c 10 _ rfl
 go_wp2_with fail
 exact bodyPost_ret (v := .agg #[.bool s1, .slice a1 n1 c1, .bool s2, .slice a2 n2 c2, .bool s3, .slice a3 n3 c3, .bool s4, .slice a4 n4 c4, .bool q.fin, .slice none 0 0, .int .i64 0]) (by simp [results, Tryz.results83, go_sem, d0, d1, d2, d3, d4, d5, d6, d7, d8, d9, d10]) rfl ⟨_, rfl, E2, _, _, _, _, _, _, _, _, _, _, _, _, _, _, _, _, rfl, IsRat.gstb _ _ _ _ _ G2 g1, IsRat.gstb _ _ _ _ _ G2 g2⟩

end Go.Proofs.YtkeikfekkdplgaaGreatDoor
