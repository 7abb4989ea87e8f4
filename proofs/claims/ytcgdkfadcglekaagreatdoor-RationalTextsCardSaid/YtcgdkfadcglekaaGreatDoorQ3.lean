/-
  The reference of package rational: Same, Of, Made. (Printed by wip/gen/rat3.py.)
-/
import Derived.Test.YtcgdkfadcglekaaGreatDoorQ2
namespace Go.Proofs.YtcgdkfadcglekaaGreatDoor
open Go Go.RowKit

set_option maxRecDepth 100000 in
set_option maxHeartbeats 4000000 in
theorem rqSame_t {k1 k2 : Nat} {u1 v1 u2 v2 : Int} {x y : Value} {w : World} (hx : IsQ (IsI k1 u1) (IsI k1 v1) x w) (hy : IsQ (IsI k2 u2) (IsI k2 v2) y w) (l1 : k1 ≤ 1048576) (hu : u1 = u2) (hv : v1 = v2) : Calls Tryz.prog 18 #[x, y] w (Ret w (IsV (.bool true))) := by
  have HU := hid hu
  have HV := hid hv
  clear hu hv
  obtain ⟨s1x, a1x, n1x, c1x, s1y, a1y, n1y, c1y, rfl, h1x, h1y⟩ := hx
  obtain ⟨s2x, a2x, n2x, c2x, s2y, a2y, n2y, c2y, rfl, h2x, h2y⟩ := hy
  obtain ⟨W, hW, S⟩ : ∃ W, W = (w.alloc (.cells #[.bool s1x, .slice a1x n1x c1x, .bool s1y, .slice a1y n1y c1y] 31)).alloc (.cells #[.bool s2x, .slice a2x n2x c2x, .bool s2y, .slice a2y n2y c2y] 31) ∧ Sto w W [((w.heap.size + 1, 1), IsI k2 v2), ((w.heap.size + 1, 0), IsI k2 u2), ((w.heap.size, 1), IsI k1 v1), ((w.heap.size, 0), IsI k1 u1)] := ⟨_, rfl, (((Sto.start w).new2 (w.heap.size) (by simp) s1x s1y a1x a1y n1x c1x n1y c1y 31 (IsI k1 u1) (IsI k1 v1) (IsI.gstb _ _) (h1x) (IsI.gstb _ _) (h1y)).new2 (w.heap.size + 1) (by simp) s2x s2y a2x a2y n2x c2x n2y c2y 31 (IsI k2 u2) (IsI k2 v2) (IsI.gstb _ _) (h2x.ext ((Ext.refl _).alloc _)) (IsI.gstb _ _) (h2y.ext ((Ext.refl _).alloc _)))⟩
  clear h1x h1y h2x h2y
  go_enter Tryz.func18, Tryz.ntmps18
  go_upto_region 1 with (fail)
  rw [← hW]
  clear hW
  refine rgs 13 [some 5, some 6, some 7, some 8, some 9, some 10, some 11, some 12, some 13, some 14, some 15, some 16, some 4] [IsV (.pointer (some ⟨w.heap.size, 0, none⟩)), IsI k1 u1, IsV (.pointer (some ⟨w.heap.size + 1, 0, none⟩)), IsI k2 u2, IsV (.bool true), IsV (.bool true), IsV (.pointer (some ⟨w.heap.size, 2, none⟩)), IsI k1 v1, IsV (.pointer (some ⟨w.heap.size + 1, 2, none⟩)), IsI k2 v2, IsV (.bool true), IsV (.bool true), IsV (.bool true)] [] ?_ ?_
  · refine Rc (fa (fa_Rat0 (w.heap.size) 0) (Od.lit 2)) ?_
    refine Rc (ldI S 3 (w.heap.size) 0 (Od.lc 0 5) ld_Int) ?_
    refine Rc (fa (fa_Rat0 (w.heap.size + 1) 0) (Od.lit 3)) ?_
    refine Rc (ldI S 1 (w.heap.size + 1) 0 (Od.lc 2 7) ld_Int) ?_
    refine Rc (cl2 (en Tryz.func47) (Od.lc (Φ := IsI k1 u1) 1 6) (Od.lc (Φ := IsI k2 u2) 3 8) (fun x0 x1 w' hE d0 d1 => Same_t d0 d1 HU.out (by omega))) ?_
    refine Rc (mv (Od.lc 4 9)) ?_
    refine RcG 5 10 true (fa (fa_Rat1 (w.heap.size) 0) (Od.lit 2)) ?_
    refine RcG 5 10 true (ldI S 2 (w.heap.size) 1 (Od.lc 6 11) ld_Int) ?_
    refine RcG 5 10 true (fa (fa_Rat1 (w.heap.size + 1) 0) (Od.lit 3)) ?_
    refine RcG 5 10 true (ldI S 0 (w.heap.size + 1) 1 (Od.lc 8 13) ld_Int) ?_
    refine RcG 5 10 true (cl2 (en Tryz.func47) (Od.lc (Φ := IsI k1 v1) 7 12) (Od.lc (Φ := IsI k2 v2) 9 14) (fun x0 x1 w' hE d0 d1 => Same_t d0 d1 HV.out (by omega))) ?_
    refine Rc (pk (Od.loc 5 10) (Od.lc 10 15)) ?_
    refine Rc (mv (Od.lc 11 16)) ?_
    exact RgAll.nil
  intro v W1 e1 hΦ _
  replace S := S.mono e1
  have v12 : v 12 = .bool true := hΦ 12 (by decide)
  simp only [layL, Act.put, List.setIfInBounds_toArray, List.set_cons_zero, List.set_cons_succ, Nat.reduceAdd]
  rw [v12]
  clear v12 hΦ e1
  refine wpList_nil ?_
  go_wp2_with fail
  exact bodyPost_ret (v := .bool true) (by simp [results, Tryz.results18, go_sem]) rfl (⟨_, rfl, S.ext, rfl⟩)

theorem rqSame_eq {k1 k2 : Nat} {p q : Rat} {x y : Value} {w : World} (hx : IsRat k1 p x w) (hy : IsRat k2 q y w) (l1 : k1 ≤ 1048576) (h : p = q) : Calls Tryz.prog 18 #[x, y] w (Ret w (IsV (.bool true))) :=
  rqSame_t hx hy l1 (by rw [h]) (by rw [h])
set_option maxRecDepth 100000 in
set_option maxHeartbeats 4000000 in
theorem rqOf_f (w : World) (n d : Int) (hn : -9223372036854775808 ≤ n ∧ n ≤ 9223372036854775807) (hd : -9223372036854775808 ≤ d ∧ d ≤ 9223372036854775807) (hz : d ≠ 0) : Calls Tryz.prog 27 #[.int .i64 n, .int .i64 d] w (Ret w (IsRat 2 (Rat.divInt n d))) := by
  have HN := hid hn
  have HD := hid hd
  have HZ := hid hz
  clear hn hd hz
  obtain ⟨W, hW, S⟩ : ∃ W, W = w.alloc (.cells #[.bool false, .slice none 0 0, .bool false, .slice none 0 0] 31) ∧ Sto w W [((w.heap.size, 1), IsI 0 0), ((w.heap.size, 0), IsI 0 0)] := ⟨_, rfl, ((Sto.start w).new2 (w.heap.size) (by simp) false false none none 0 0 0 0 31 (IsI 0 0) (IsI 0 0) (IsI.gstb _ _) (IsI.nil _ _) (IsI.gstb _ _) (IsI.nil _ _))⟩
  go_enter Tryz.func27, Tryz.ntmps27
  go_upto_region 1 with (fail)
  rw [← hW]
  clear hW
  refine rgs 5 [some 5, some 6, some 7, some 8, some 9] [IsV (.int .i64 n), IsI 2 n, IsV (.int .i64 d), IsI 2 d, IsQ (IsI (max 2 2) ((Rat.divInt n d).num)) (IsI (max 2 2) (((Rat.divInt n d).den : Int)))] [] ?_ ?_
  · refine Rc (mv (Od.lit 0)) ?_
    refine Rc (cl1 (en Tryz.func24) (Od.lc (Φ := IsV (.int .i64 n)) 0 5) (fun x0 w' hE d0 => by { obtain rfl : x0 = .int .i64 n := d0; exact ROf_f _ n HN.out.1 HN.out.2 })) ?_
    refine Rc (mv (Od.lit 1)) ?_
    refine Rc (cl1 (en Tryz.func24) (Od.lc (Φ := IsV (.int .i64 d)) 2 7) (fun x0 w' hE d0 => by { obtain rfl : x0 = .int .i64 d := d0; exact ROf_f _ d HD.out.1 HD.out.2 })) ?_
    refine Rc (cl2 (en Tryz.func70) (Od.lc (Φ := IsI 2 n) 1 6) (Od.lc (Φ := IsI 2 d) 3 8) (fun x0 x1 w' hE d0 d1 => rqover_f d0 d1 (by decide) (by decide) HZ.out)) ?_
    exact RgAll.nil
  intro v W1 e1 hΦ _
  replace S := S.mono e1
  have h9 := hΦ 4 (by decide)
  simp only [layL, Act.put, List.setIfInBounds_toArray, List.set_cons_zero, List.set_cons_succ, Nat.reduceAdd]
  clear hΦ e1
  try simp only [List.drop_succ_cons, List.drop_zero]
  (with_reducible refine stL ?_ (by rfl)); intro KK hKK; refine stQ S 1 0 (w.heap.size) 0 h9 (IsI.gstb _ _) (IsI.gstb _ _) st_Rat (fun W2 S2 G2 => hKK _ _ ?_) rfl rfl
  replace S := S2; clear S2 G2 hKK KK h9
  simp only [List.set_cons_zero, List.set_cons_succ] at S
  refine wpList_nil ?_
  go_wp2_with fail
  obtain ⟨s90x, a90x, n90x, c90x, b90x, h90x⟩ := S.at 1 (w.heap.size) 0 (IsI (max 2 2) ((Rat.divInt n d).num)) rfl; have L90xa : World.cell? W2 ⟨w.heap.size, 0, none⟩ = some (.bool s90x) := b90x.c0; have L90xb : World.cell? W2 ⟨w.heap.size, 1, none⟩ = some (.slice a90x n90x c90x) := b90x.c1
  obtain ⟨s90y, a90y, n90y, c90y, b90y, h90y⟩ := S.at 0 (w.heap.size) 1 (IsI (max 2 2) (((Rat.divInt n d).den : Int))) rfl; have L90ya : World.cell? W2 ⟨w.heap.size, 2, none⟩ = some (.bool s90y) := b90y.c0; have L90yb : World.cell? W2 ⟨w.heap.size, 3, none⟩ = some (.slice a90y n90y c90y) := b90y.c1
  exact bodyPost_ret (v := .agg #[.bool s90x, .slice a90x n90x c90x, .bool s90y, .slice a90y n90y c90y]) (by simp [results, Tryz.results27, go_sem, L90xa, L90xb, L90ya, L90yb]) rfl (⟨_, rfl, S.ext, ⟨_, _, _, _, _, _, _, _, rfl, h90x, h90y⟩⟩)

/-- The fraction of a description. -/
def madeQ (s s' : Bool) (xn xd : List Nat) (K : Nat) : Rat := Rat.divInt (rawZ s xn K) (if rawZ s' xd K = 0 then 1 else ((rawZ s' xd K).natAbs : Int))

set_option maxRecDepth 100000 in
set_option maxHeartbeats 4000000 in
theorem rqMade0_c {s1x s1y : Bool} {xn xd : List Nat} {x : Value} {w : World} (hx : IsQ (IsR s1x xn) (IsR s1y xd) x w) (K : Nat) (hK : K ≤ 1024) (q : Rat) (hq : madeQ s1x s1y xn xd K = q) (dd : Nat) (ha : (rawZ s1y xd K).natAbs = dd) (hz : dd = 0) :
    Calls Tryz.prog 13 #[x, .int .i64 (K : Nat)] w (Ret w (IsRat (K + 2) q)) := by
  obtain ⟨sg, hsg⟩ : ∃ s, ((dd : Nat) : Int).sign = s := ⟨_, rfl⟩
  have HSG := hid hsg
  have HS0 := hid (show (sg == 0) = true by rw [← hsg, hz]; rfl)
  have HK := hid hK
  have HA := hid (show (((rawZ s1y xd K).natAbs : Nat) : Int) = ((dd : Nat) : Int) by rw [ha])
  have HQ := hid (show Rat.divInt (rawZ s1x xn K) (1) = q by rw [← hq]; unfold madeQ; rw [if_pos (by omega)])
  have HZ := hid (show (1 : Int) ≠ 0 by omega)
  have HKM := hid (show max K 2 ≤ K + 2 by omega)
  clear hsg hK ha hq hz
  obtain ⟨s1x', a1x, n1x, c1x, s1y', a1y, n1y, c1y, rfl, h1x, h1y⟩ := hx
  obtain rfl : s1x = s1x' := by obtain ⟨_, _, _, e, _⟩ := h1x; simp at e; exact e.1.symm
  obtain rfl : s1y = s1y' := by obtain ⟨_, _, _, e, _⟩ := h1y; simp at e; exact e.1.symm
  obtain ⟨W, hW, S⟩ : ∃ W, W = (w.alloc (.cells #[.bool s1x, .slice a1x n1x c1x, .bool s1y, .slice a1y n1y c1y] 26)).alloc (.cells #[.bool false, .slice none 0 0, .bool false, .slice none 0 0] 31) ∧ Sto w W [((w.heap.size + 1, 1), IsI 0 0), ((w.heap.size + 1, 0), IsI 0 0), ((w.heap.size, 1), IsR s1y xd), ((w.heap.size, 0), IsR s1x xn)] := ⟨_, rfl, (((Sto.start w).new2 (w.heap.size) (by simp) s1x s1y a1x a1y n1x c1x n1y c1y 26 (IsR s1x xn) (IsR s1y xd) (IsR.gstb _ _) (h1x) (IsR.gstb _ _) (h1y)).new2 (w.heap.size + 1) (by simp) false false none none 0 0 0 0 31 (IsI 0 0) (IsI 0 0) (IsI.gstb _ _) (IsI.nil _ _) (IsI.gstb _ _) (IsI.nil _ _))⟩
  clear h1x h1y
  go_enter Tryz.func13, Tryz.ntmps13
  go_upto_region 1 with (fail)
  rw [← hW]
  clear hW
  have hl := hid S.lt; have hw := S.ext.size
  refine rgs 6 [some 6, some 7, some 8, some 9, some 10, some 5] [IsV (.pointer (some ⟨w.heap.size, 2, none⟩)), IsR s1y xd, IsV (.int .i64 (K : Nat)), IsI K (rawZ s1y xd K), IsI K ((dd : Nat)), IsBo W 1] [5] ?_ ?_
  · refine Rc (fa (fa_RawQ1 (w.heap.size) 0) (Od.lit 2)) ?_
    refine Rc (ldI S 2 (w.heap.size) 1 (Od.lc 0 6) ld_Raw) ?_
    refine Rc (mv (Od.lit 1)) ?_
    refine Rc (cl2 (en Tryz.func44) (Od.lc (Φ := IsR s1y xd) 1 7) (Od.lc (Φ := IsV (.int .i64 (K : Nat))) 2 8) (fun x0 x1 w' hE d0 d1 => by { obtain rfl : x1 = .int .i64 (K : Nat) := d1; exact Made_f d0 HK.out })) ?_
    refine Rc (cl1 (en Tryz.func32) (Od.lc (Φ := IsI K (rawZ s1y xd K)) 3 9) (fun x0 w' hE d0 => Calls.mono (RAbs_f d0) fun _ _ h => h.eqz HA.out)) ?_
    refine Rc (al al_Int) ?_
    exact RgAll.nil
  intro v W1 e1 hΦ _
  replace S := S.mono e1
  have h10 := hΦ 4 (by decide)
  obtain ⟨g5, v5, q2, b1, _⟩ := (hΦ 5 (by decide) : IsBo W 1 (v 5) W1)
  replace S := S.addN 1 (ApartO.old hl.out q2) (Nat.le_trans hw q2) b1
  simp only [newF, List.cons_append, List.nil_append] at S
  simp only [layL, Act.put, List.setIfInBounds_toArray, List.set_cons_zero, List.set_cons_succ, Nat.reduceAdd]
  rw [v5]
  clear b1 hl hw v5 hΦ e1
  try simp only [List.drop_succ_cons, List.drop_zero]
  (with_reducible refine stL ?_ (by rfl)); intro KK hKK; refine stI S 0 (g5) 0 h10 st_Int (fun W2 S2 G2 => hKK _ _ ?_) rfl
  replace S := S2; clear S2 G2 hKK KK h10
  simp only [List.set_cons_zero] at S
  refine wpList_nil ?_
  go_upto_region 2 with (fail)
  refine rgs 3 [some 11, some 12, some 13] [IsI K ((dd : Nat)), IsV (.int .i64 sg), IsV (.bool true)] [] ?_ ?_
  · refine Rc (ldI S 0 (g5) 0 (Od.lit 5) ld_Int) ?_
    refine Rc (cl1 (en Tryz.func33) (Od.lc (Φ := IsI K ((dd : Nat))) 0 11) (fun x0 w' hE d0 => Calls.mono (RSign_f d0) fun _ _ h => h.int (HSG.out))) ?_
    refine Rc (bn (r := .bool true) (Od.loc 1 12) Od.con (hr := fun w => by have hx9 := HS0.out; go_simp)) ?_
    exact RgAll.nil
  intro v W3 e1 hΦ _
  replace S := S.mono e1
  have v2 : v 2 = .bool true := hΦ 2 (by decide)
  simp only [layL, Act.put, List.setIfInBounds_toArray, List.set_cons_zero, List.set_cons_succ, Nat.reduceAdd]
  rw [v2]
  clear v2 hΦ e1
  refine wpList_nil ?_
  go_upto_region 3 with (fail)
  refine rgs 1 [some 14] [IsI 2 1] [] ?_ ?_
  · refine Rc (cl1 (en Tryz.func24) Od.con (fun x0 w' hE d0 => by { obtain rfl : x0 = .int .i64 1 := d0; exact ROf_f _ 1 (by decide) (by decide) })) ?_
    exact RgAll.nil
  intro v W4 e1 hΦ _
  replace S := S.mono e1
  have h14 := hΦ 0 (by decide)
  simp only [layL, Act.put, List.setIfInBounds_toArray, List.set_cons_zero, List.set_cons_succ]
  clear hΦ e1
  try simp only [List.drop_succ_cons, List.drop_zero]
  (with_reducible refine stL ?_ (by rfl)); intro KK hKK; refine stI S 0 (g5) 0 h14 st_Int (fun W5 S2 G2 => hKK _ _ ?_) rfl
  replace S := S2; clear S2 G2 hKK KK h14
  simp only [List.set_cons_zero] at S
  refine wpList_nil ?_
  go_upto_region 4 with (fail)
  refine rg 6 [some 15, some 16, some 17, some 18, some 19, some 20] [IsV (.pointer (some ⟨w.heap.size, 0, none⟩)), IsR s1x xn, IsV (.int .i64 (K : Nat)), IsI K (rawZ s1x xn K), IsI 2 1, IsQ (IsI (K + 2) q.num) (IsI (K + 2) ((q.den : Int)))] [] 1 ?_ ?_
  · refine Rc (fa (fa_RawQ0 (w.heap.size) 0) (Od.lit 2)) ?_
    refine Rc (ldI S 4 (w.heap.size) 0 (Od.lc 0 15) ld_Raw) ?_
    refine Rc (mv (Od.lit 1)) ?_
    refine Rc (cl2 (en Tryz.func44) (Od.lc (Φ := IsR s1x xn) 1 16) (Od.lc (Φ := IsV (.int .i64 (K : Nat))) 2 17) (fun x0 x1 w' hE d0 d1 => by { obtain rfl : x1 = .int .i64 (K : Nat) := d1; exact Made_f d0 HK.out })) ?_
    refine Rc (ldI S 0 (g5) 0 (Od.lit 5) ld_Int) ?_
    refine Rc (cl2 (en Tryz.func70) (Od.lc (Φ := IsI K (rawZ s1x xn K)) 3 18) (Od.lc (Φ := IsI 2 1) 4 19) (fun x0 x1 w' hE d0 d1 => Calls.mono (rqover_f d0 d1 (by have := HK.out; omega) (by have := HK.out; omega) HZ.out) fun _ _ h => h.ratz HQ.out HKM.out)) ?_
    exact RgAll.nil
  intro v W6 e1 hΦ _
  replace S := S.mono e1
  have h20 := hΦ 5 (by decide)
  simp only [layL, Act.put, List.setIfInBounds_toArray, List.set_cons_zero, List.set_cons_succ, Nat.reduceAdd]
  clear hΦ e1
  refine stA 6 (h := fun KK hKK => stQ S 2 1 (w.heap.size + 1) 0 h20 (IsI.gstb _ _) (IsI.gstb _ _) st_Rat (fun W7 S2 G2 => hKK _ _ ?_) rfl rfl)
  replace S := S2; clear S2 G2 hKK KK h20
  simp only [List.set_cons_zero, List.set_cons_succ] at S
  refine wpAny_done (by kernel_rfl) ?_ _
  go_wp2_with fail
  obtain ⟨s90x, a90x, n90x, c90x, b90x, h90x⟩ := S.at 2 (w.heap.size + 1) 0 (IsI (K + 2) q.num) rfl; have L90xa : World.cell? W7 ⟨w.heap.size + 1, 0, none⟩ = some (.bool s90x) := b90x.c0; have L90xb : World.cell? W7 ⟨w.heap.size + 1, 1, none⟩ = some (.slice a90x n90x c90x) := b90x.c1
  obtain ⟨s90y, a90y, n90y, c90y, b90y, h90y⟩ := S.at 1 (w.heap.size + 1) 1 (IsI (K + 2) ((q.den : Int))) rfl; have L90ya : World.cell? W7 ⟨w.heap.size + 1, 2, none⟩ = some (.bool s90y) := b90y.c0; have L90yb : World.cell? W7 ⟨w.heap.size + 1, 3, none⟩ = some (.slice a90y n90y c90y) := b90y.c1
  exact bodyPost_ret (v := .agg #[.bool s90x, .slice a90x n90x c90x, .bool s90y, .slice a90y n90y c90y]) (by simp [results, Tryz.results13, go_sem, L90xa, L90xb, L90ya, L90yb]) rfl (⟨_, rfl, S.ext, ⟨_, _, _, _, _, _, _, _, rfl, h90x, h90y⟩⟩)

set_option maxRecDepth 100000 in
set_option maxHeartbeats 4000000 in
theorem rqMade1_c {s1x s1y : Bool} {xn xd : List Nat} {x : Value} {w : World} (hx : IsQ (IsR s1x xn) (IsR s1y xd) x w) (K : Nat) (hK : K ≤ 1024) (q : Rat) (hq : madeQ s1x s1y xn xd K = q) (dd : Nat) (ha : (rawZ s1y xd K).natAbs = dd) (hz : dd ≠ 0) :
    Calls Tryz.prog 13 #[x, .int .i64 (K : Nat)] w (Ret w (IsRat (K + 2) q)) := by
  obtain ⟨sg, hsg⟩ : ∃ s, ((dd : Nat) : Int).sign = s := ⟨_, rfl⟩
  have HSG := hid hsg
  have HS0 := hid (show (sg == 0) = false by rw [beq_eq_false_iff_ne, ← hsg]; intro h; have := Int.sign_eq_zero_iff_zero.1 h; omega)
  have HK := hid hK
  have HA := hid (show (((rawZ s1y xd K).natAbs : Nat) : Int) = ((dd : Nat) : Int) by rw [ha])
  have HQ := hid (show Rat.divInt (rawZ s1x xn K) (((dd : Nat) : Int)) = q by rw [← hq]; unfold madeQ; rw [if_neg (by omega), ha])
  have HZ := hid (show (((dd : Nat) : Int) : Int) ≠ 0 by omega)
  have HKM := hid (show max K K ≤ K + 2 by omega)
  clear hsg hK ha hq hz
  obtain ⟨s1x', a1x, n1x, c1x, s1y', a1y, n1y, c1y, rfl, h1x, h1y⟩ := hx
  obtain rfl : s1x = s1x' := by obtain ⟨_, _, _, e, _⟩ := h1x; simp at e; exact e.1.symm
  obtain rfl : s1y = s1y' := by obtain ⟨_, _, _, e, _⟩ := h1y; simp at e; exact e.1.symm
  obtain ⟨W, hW, S⟩ : ∃ W, W = (w.alloc (.cells #[.bool s1x, .slice a1x n1x c1x, .bool s1y, .slice a1y n1y c1y] 26)).alloc (.cells #[.bool false, .slice none 0 0, .bool false, .slice none 0 0] 31) ∧ Sto w W [((w.heap.size + 1, 1), IsI 0 0), ((w.heap.size + 1, 0), IsI 0 0), ((w.heap.size, 1), IsR s1y xd), ((w.heap.size, 0), IsR s1x xn)] := ⟨_, rfl, (((Sto.start w).new2 (w.heap.size) (by simp) s1x s1y a1x a1y n1x c1x n1y c1y 26 (IsR s1x xn) (IsR s1y xd) (IsR.gstb _ _) (h1x) (IsR.gstb _ _) (h1y)).new2 (w.heap.size + 1) (by simp) false false none none 0 0 0 0 31 (IsI 0 0) (IsI 0 0) (IsI.gstb _ _) (IsI.nil _ _) (IsI.gstb _ _) (IsI.nil _ _))⟩
  clear h1x h1y
  go_enter Tryz.func13, Tryz.ntmps13
  go_upto_region 1 with (fail)
  rw [← hW]
  clear hW
  have hl := hid S.lt; have hw := S.ext.size
  refine rgs 6 [some 6, some 7, some 8, some 9, some 10, some 5] [IsV (.pointer (some ⟨w.heap.size, 2, none⟩)), IsR s1y xd, IsV (.int .i64 (K : Nat)), IsI K (rawZ s1y xd K), IsI K ((dd : Nat)), IsBo W 1] [5] ?_ ?_
  · refine Rc (fa (fa_RawQ1 (w.heap.size) 0) (Od.lit 2)) ?_
    refine Rc (ldI S 2 (w.heap.size) 1 (Od.lc 0 6) ld_Raw) ?_
    refine Rc (mv (Od.lit 1)) ?_
    refine Rc (cl2 (en Tryz.func44) (Od.lc (Φ := IsR s1y xd) 1 7) (Od.lc (Φ := IsV (.int .i64 (K : Nat))) 2 8) (fun x0 x1 w' hE d0 d1 => by { obtain rfl : x1 = .int .i64 (K : Nat) := d1; exact Made_f d0 HK.out })) ?_
    refine Rc (cl1 (en Tryz.func32) (Od.lc (Φ := IsI K (rawZ s1y xd K)) 3 9) (fun x0 w' hE d0 => Calls.mono (RAbs_f d0) fun _ _ h => h.eqz HA.out)) ?_
    refine Rc (al al_Int) ?_
    exact RgAll.nil
  intro v W1 e1 hΦ _
  replace S := S.mono e1
  have h10 := hΦ 4 (by decide)
  obtain ⟨g5, v5, q2, b1, _⟩ := (hΦ 5 (by decide) : IsBo W 1 (v 5) W1)
  replace S := S.addN 1 (ApartO.old hl.out q2) (Nat.le_trans hw q2) b1
  simp only [newF, List.cons_append, List.nil_append] at S
  simp only [layL, Act.put, List.setIfInBounds_toArray, List.set_cons_zero, List.set_cons_succ, Nat.reduceAdd]
  rw [v5]
  clear b1 hl hw v5 hΦ e1
  try simp only [List.drop_succ_cons, List.drop_zero]
  (with_reducible refine stL ?_ (by rfl)); intro KK hKK; refine stI S 0 (g5) 0 h10 st_Int (fun W2 S2 G2 => hKK _ _ ?_) rfl
  replace S := S2; clear S2 G2 hKK KK h10
  simp only [List.set_cons_zero] at S
  refine wpList_nil ?_
  go_upto_region 2 with (fail)
  refine rgs 3 [some 11, some 12, some 13] [IsI K ((dd : Nat)), IsV (.int .i64 sg), IsV (.bool false)] [] ?_ ?_
  · refine Rc (ldI S 0 (g5) 0 (Od.lit 5) ld_Int) ?_
    refine Rc (cl1 (en Tryz.func33) (Od.lc (Φ := IsI K ((dd : Nat))) 0 11) (fun x0 w' hE d0 => Calls.mono (RSign_f d0) fun _ _ h => h.int (HSG.out))) ?_
    refine Rc (bn (r := .bool false) (Od.loc 1 12) Od.con (hr := fun w => by have hx9 := HS0.out; go_simp)) ?_
    exact RgAll.nil
  intro v W3 e1 hΦ _
  replace S := S.mono e1
  have v2 : v 2 = .bool false := hΦ 2 (by decide)
  simp only [layL, Act.put, List.setIfInBounds_toArray, List.set_cons_zero, List.set_cons_succ, Nat.reduceAdd]
  rw [v2]
  clear v2 hΦ e1
  refine wpList_nil ?_
  go_upto_region 4 with (fail)
  refine rg 6 [some 15, some 16, some 17, some 18, some 19, some 20] [IsV (.pointer (some ⟨w.heap.size, 0, none⟩)), IsR s1x xn, IsV (.int .i64 (K : Nat)), IsI K (rawZ s1x xn K), IsI K ((dd : Nat)), IsQ (IsI (K + 2) q.num) (IsI (K + 2) ((q.den : Int)))] [] 1 ?_ ?_
  · refine Rc (fa (fa_RawQ0 (w.heap.size) 0) (Od.lit 2)) ?_
    refine Rc (ldI S 4 (w.heap.size) 0 (Od.lc 0 15) ld_Raw) ?_
    refine Rc (mv (Od.lit 1)) ?_
    refine Rc (cl2 (en Tryz.func44) (Od.lc (Φ := IsR s1x xn) 1 16) (Od.lc (Φ := IsV (.int .i64 (K : Nat))) 2 17) (fun x0 x1 w' hE d0 d1 => by { obtain rfl : x1 = .int .i64 (K : Nat) := d1; exact Made_f d0 HK.out })) ?_
    refine Rc (ldI S 0 (g5) 0 (Od.lit 5) ld_Int) ?_
    refine Rc (cl2 (en Tryz.func70) (Od.lc (Φ := IsI K (rawZ s1x xn K)) 3 18) (Od.lc (Φ := IsI K ((dd : Nat))) 4 19) (fun x0 x1 w' hE d0 d1 => Calls.mono (rqover_f d0 d1 (by have := HK.out; omega) (by have := HK.out; omega) HZ.out) fun _ _ h => h.ratz HQ.out HKM.out)) ?_
    exact RgAll.nil
  intro v W4 e1 hΦ _
  replace S := S.mono e1
  have h20 := hΦ 5 (by decide)
  simp only [layL, Act.put, List.setIfInBounds_toArray, List.set_cons_zero, List.set_cons_succ, Nat.reduceAdd]
  clear hΦ e1
  refine stA 6 (h := fun KK hKK => stQ S 2 1 (w.heap.size + 1) 0 h20 (IsI.gstb _ _) (IsI.gstb _ _) st_Rat (fun W5 S2 G2 => hKK _ _ ?_) rfl rfl)
  replace S := S2; clear S2 G2 hKK KK h20
  simp only [List.set_cons_zero, List.set_cons_succ] at S
  refine wpAny_done (by kernel_rfl) ?_ _
  go_wp2_with fail
  obtain ⟨s90x, a90x, n90x, c90x, b90x, h90x⟩ := S.at 2 (w.heap.size + 1) 0 (IsI (K + 2) q.num) rfl; have L90xa : World.cell? W5 ⟨w.heap.size + 1, 0, none⟩ = some (.bool s90x) := b90x.c0; have L90xb : World.cell? W5 ⟨w.heap.size + 1, 1, none⟩ = some (.slice a90x n90x c90x) := b90x.c1
  obtain ⟨s90y, a90y, n90y, c90y, b90y, h90y⟩ := S.at 1 (w.heap.size + 1) 1 (IsI (K + 2) ((q.den : Int))) rfl; have L90ya : World.cell? W5 ⟨w.heap.size + 1, 2, none⟩ = some (.bool s90y) := b90y.c0; have L90yb : World.cell? W5 ⟨w.heap.size + 1, 3, none⟩ = some (.slice a90y n90y c90y) := b90y.c1
  exact bodyPost_ret (v := .agg #[.bool s90x, .slice a90x n90x c90x, .bool s90y, .slice a90y n90y c90y]) (by simp [results, Tryz.results13, go_sem, L90xa, L90xb, L90ya, L90yb]) rfl (⟨_, rfl, S.ext, ⟨_, _, _, _, _, _, _, _, rfl, h90x, h90y⟩⟩)

theorem rqMade_f {s s' : Bool} {xn xd : List Nat} {x : Value} {w : World} (hx : IsQ (IsR s xn) (IsR s' xd) x w) (K : Nat) (hK : K ≤ 1024) :
    Calls Tryz.prog 13 #[x, .int .i64 (K : Nat)] w (Ret w (IsRat (K + 2) (madeQ s s' xn xd K))) := by
  by_cases h : (rawZ s' xd K).natAbs = 0
  · exact rqMade0_c hx K hK _ rfl _ rfl h
  · exact rqMade1_c hx K hK _ rfl _ rfl h
end Go.Proofs.YtcgdkfadcglekaaGreatDoor
