/-
  Intervals of package rational: Exactly. (Printed by wip/gen/rat4.py.)
-/
import Derived.Test.YtcgdkfadcglekaaGreatDoorQH
namespace Go.Proofs.YtcgdkfadcglekaaGreatDoor
open Go Go.RowKit

set_option maxRecDepth 100000 in
set_option maxHeartbeats 4000000 in
theorem qExactly_f {k1 : Nat} {p : Rat} {x : Value} {w : World} (hx : IsRat k1 p x w) : Calls Tryz.prog 69 #[x] w (Ret w (IsIv k1 p p)) := by
  obtain ⟨s1x, a1x, n1x, c1x, s1y, a1y, n1y, c1y, rfl, h1x, h1y⟩ := hx
  obtain ⟨W, hW, S⟩ : ∃ W, W = (w.alloc (.cells #[.bool s1x, .slice a1x n1x c1x, .bool s1y, .slice a1y n1y c1y] 31)).alloc (.cells #[.bool false, .slice none 0 0, .bool false, .slice none 0 0, .bool false, .slice none 0 0, .bool false, .slice none 0 0] 44) ∧ Sto w W [((w.heap.size + 1, 3), IsI 0 0), ((w.heap.size + 1, 2), IsI 0 0), ((w.heap.size + 1, 1), IsI 0 0), ((w.heap.size + 1, 0), IsI 0 0), ((w.heap.size, 1), IsI k1 ((p.den : Int))), ((w.heap.size, 0), IsI k1 p.num)] := ⟨_, rfl, (((Sto.start w).new2 (w.heap.size) (by simp) s1x s1y a1x a1y n1x c1x n1y c1y 31 (IsI k1 p.num) (IsI k1 ((p.den : Int))) (IsI.gstb _ _) (h1x) (IsI.gstb _ _) (h1y)).new4 (w.heap.size + 1) (by simp) false false false false none none none none 0 0 0 0 0 0 0 0 44 (IsI 0 0) (IsI 0 0) (IsI 0 0) (IsI 0 0) (IsI.gstb _ _) (IsI.nil _ _) (IsI.gstb _ _) (IsI.nil _ _) (IsI.gstb _ _) (IsI.nil _ _) (IsI.gstb _ _) (IsI.nil _ _))⟩
  clear h1x h1y
  go_enter Tryz.func69, Tryz.ntmps69
  go_upto_region 1 with (fail)
  rw [← hW]
  clear hW
  refine rgs 3 [some 3, some 4, some 5] [IsQ (IsI k1 p.num) (IsI k1 ((p.den : Int))), IsQ (IsI k1 p.num) (IsI k1 ((p.den : Int))), IsJ (IsI k1 p.num) (IsI k1 ((p.den : Int))) (IsI k1 p.num) (IsI k1 ((p.den : Int)))] [] ?_ ?_
  · refine Rc (ldQ S 5 4 (w.heap.size) 0 (Od.lit 1) ld_Rat rfl rfl) ?_
    refine Rc (ldQ S 5 4 (w.heap.size) 0 (Od.lit 1) ld_Rat rfl rfl) ?_
    refine Rc (bj (Od.loc 0 3) (Od.loc 1 4) bd_Iv) ?_
    exact RgAll.nil
  intro v W1 e1 hΦ _
  replace S := S.mono e1
  have h5 := hΦ 2 (by decide)
  simp only [layL, Act.put, List.setIfInBounds_toArray, List.set_cons_zero, List.set_cons_succ, Nat.reduceAdd]
  clear hΦ e1
  try simp only [List.drop_succ_cons, List.drop_zero]
  (with_reducible refine stL ?_ (by rfl)); intro KK hKK; refine stJ S 3 2 1 0 (w.heap.size + 1) 0 h5 (IsI.gstb _ _) (IsI.gstb _ _) (IsI.gstb _ _) (IsI.gstb _ _) st_Iv (fun W2 S2 G2 => hKK _ _ ?_) rfl rfl rfl rfl
  replace S := S2; clear S2 G2 hKK KK h5
  simp only [List.set_cons_zero, List.set_cons_succ] at S
  refine wpList_nil ?_
  go_wp2_with fail
  obtain ⟨s90x, a90x, n90x, c90x, b90x, h90x⟩ := S.at 3 (w.heap.size + 1) 0 (IsI k1 p.num) rfl; have L90xa : World.cell? W2 ⟨w.heap.size + 1, 0, none⟩ = some (.bool s90x) := b90x.c0; have L90xb : World.cell? W2 ⟨w.heap.size + 1, 1, none⟩ = some (.slice a90x n90x c90x) := b90x.c1
  obtain ⟨s90y, a90y, n90y, c90y, b90y, h90y⟩ := S.at 2 (w.heap.size + 1) 1 (IsI k1 ((p.den : Int))) rfl; have L90ya : World.cell? W2 ⟨w.heap.size + 1, 2, none⟩ = some (.bool s90y) := b90y.c0; have L90yb : World.cell? W2 ⟨w.heap.size + 1, 3, none⟩ = some (.slice a90y n90y c90y) := b90y.c1
  obtain ⟨s90z, a90z, n90z, c90z, b90z, h90z⟩ := S.at 1 (w.heap.size + 1) 2 (IsI k1 p.num) rfl; have L90za : World.cell? W2 ⟨w.heap.size + 1, 4, none⟩ = some (.bool s90z) := b90z.c0; have L90zb : World.cell? W2 ⟨w.heap.size + 1, 5, none⟩ = some (.slice a90z n90z c90z) := b90z.c1
  obtain ⟨s90t, a90t, n90t, c90t, b90t, h90t⟩ := S.at 0 (w.heap.size + 1) 3 (IsI k1 ((p.den : Int))) rfl; have L90ta : World.cell? W2 ⟨w.heap.size + 1, 6, none⟩ = some (.bool s90t) := b90t.c0; have L90tb : World.cell? W2 ⟨w.heap.size + 1, 7, none⟩ = some (.slice a90t n90t c90t) := b90t.c1
  exact bodyPost_ret (v := .agg #[.bool s90x, .slice a90x n90x c90x, .bool s90y, .slice a90y n90y c90y, .bool s90z, .slice a90z n90z c90z, .bool s90t, .slice a90t n90t c90t]) (by simp [results, Tryz.results69, go_sem, L90xa, L90xb, L90ya, L90yb, L90za, L90zb, L90ta, L90tb]) rfl (⟨_, rfl, S.ext, ⟨_, _, _, _, _, _, _, _, _, _, _, _, _, _, _, _, rfl, h90x, h90y, h90z, h90t⟩⟩)

set_option maxRecDepth 100000 in
set_option maxHeartbeats 4000000 in
theorem qIAdd_f {k1 k2 : Nat} {p q r u : Rat} {x y : Value} {w : World} (hx : IsIv k1 p q x w) (hy : IsIv k2 r u y w) (l1 : k1 ≤ 131072) (l2 : k2 ≤ 131072) : Calls Tryz.prog 62 #[x, y] w (Ret w (IsIv (k1 + k2 + 1) (p + r) (q + u))) := by
  obtain ⟨s1x, a1x, n1x, c1x, s1y, a1y, n1y, c1y, s1z, a1z, n1z, c1z, s1t, a1t, n1t, c1t, rfl, h1x, h1y, h1z, h1t⟩ := hx
  obtain ⟨s2x, a2x, n2x, c2x, s2y, a2y, n2y, c2y, s2z, a2z, n2z, c2z, s2t, a2t, n2t, c2t, rfl, h2x, h2y, h2z, h2t⟩ := hy
  obtain ⟨W, hW, S⟩ : ∃ W, W = ((w.alloc (.cells #[.bool s1x, .slice a1x n1x c1x, .bool s1y, .slice a1y n1y c1y, .bool s1z, .slice a1z n1z c1z, .bool s1t, .slice a1t n1t c1t] 44)).alloc (.cells #[.bool s2x, .slice a2x n2x c2x, .bool s2y, .slice a2y n2y c2y, .bool s2z, .slice a2z n2z c2z, .bool s2t, .slice a2t n2t c2t] 44)).alloc (.cells #[.bool false, .slice none 0 0, .bool false, .slice none 0 0, .bool false, .slice none 0 0, .bool false, .slice none 0 0] 44) ∧ Sto w W [((w.heap.size + 1 + 1, 3), IsI 0 0), ((w.heap.size + 1 + 1, 2), IsI 0 0), ((w.heap.size + 1 + 1, 1), IsI 0 0), ((w.heap.size + 1 + 1, 0), IsI 0 0), ((w.heap.size + 1, 3), IsI k2 ((u.den : Int))), ((w.heap.size + 1, 2), IsI k2 u.num), ((w.heap.size + 1, 1), IsI k2 ((r.den : Int))), ((w.heap.size + 1, 0), IsI k2 r.num), ((w.heap.size, 3), IsI k1 ((q.den : Int))), ((w.heap.size, 2), IsI k1 q.num), ((w.heap.size, 1), IsI k1 ((p.den : Int))), ((w.heap.size, 0), IsI k1 p.num)] := ⟨_, rfl, ((((Sto.start w).new4 (w.heap.size) (by simp) s1x s1y s1z s1t a1x a1y a1z a1t n1x c1x n1y c1y n1z c1z n1t c1t 44 (IsI k1 p.num) (IsI k1 ((p.den : Int))) (IsI k1 q.num) (IsI k1 ((q.den : Int))) (IsI.gstb _ _) (h1x) (IsI.gstb _ _) (h1y) (IsI.gstb _ _) (h1z) (IsI.gstb _ _) (h1t)).new4 (w.heap.size + 1) (by simp) s2x s2y s2z s2t a2x a2y a2z a2t n2x c2x n2y c2y n2z c2z n2t c2t 44 (IsI k2 r.num) (IsI k2 ((r.den : Int))) (IsI k2 u.num) (IsI k2 ((u.den : Int))) (IsI.gstb _ _) (h2x.ext ((Ext.refl _).alloc _)) (IsI.gstb _ _) (h2y.ext ((Ext.refl _).alloc _)) (IsI.gstb _ _) (h2z.ext ((Ext.refl _).alloc _)) (IsI.gstb _ _) (h2t.ext ((Ext.refl _).alloc _))).new4 (w.heap.size + 1 + 1) (by simp) false false false false none none none none 0 0 0 0 0 0 0 0 44 (IsI 0 0) (IsI 0 0) (IsI 0 0) (IsI 0 0) (IsI.gstb _ _) (IsI.nil _ _) (IsI.gstb _ _) (IsI.nil _ _) (IsI.gstb _ _) (IsI.nil _ _) (IsI.gstb _ _) (IsI.nil _ _))⟩
  clear h1x h1y h1z h1t h2x h2y h2z h2t
  go_enter Tryz.func62, Tryz.ntmps62
  go_upto_region 1 with (fail)
  rw [← hW]
  clear hW
  refine rg 11 [some 5, some 6, some 7, some 8, some 9, some 10, some 11, some 12, some 13, some 14, some 15] [IsV (.pointer (some ⟨w.heap.size, 0, none⟩)), IsQ (IsI k1 p.num) (IsI k1 ((p.den : Int))), IsV (.pointer (some ⟨w.heap.size + 1, 0, none⟩)), IsQ (IsI k2 r.num) (IsI k2 ((r.den : Int))), IsQ (IsI (k1 + k2 + 1) ((p + r).num)) (IsI (k1 + k2 + 1) (((p + r).den : Int))), IsV (.pointer (some ⟨w.heap.size, 4, none⟩)), IsQ (IsI k1 q.num) (IsI k1 ((q.den : Int))), IsV (.pointer (some ⟨w.heap.size + 1, 4, none⟩)), IsQ (IsI k2 u.num) (IsI k2 ((u.den : Int))), IsQ (IsI (k1 + k2 + 1) ((q + u).num)) (IsI (k1 + k2 + 1) (((q + u).den : Int))), IsJ (IsI (k1 + k2 + 1) ((p + r).num)) (IsI (k1 + k2 + 1) (((p + r).den : Int))) (IsI (k1 + k2 + 1) ((q + u).num)) (IsI (k1 + k2 + 1) (((q + u).den : Int)))] [] 1 ?_ ?_
  · refine Rc (fa (fa_Iv0 (w.heap.size) 0) (Od.lit 2)) ?_
    refine Rc (ldQ S 11 10 (w.heap.size) 0 (Od.lc 0 5) ld_Rat rfl rfl) ?_
    refine Rc (fa (fa_Iv0 (w.heap.size + 1) 0) (Od.lit 3)) ?_
    refine Rc (ldQ S 7 6 (w.heap.size + 1) 0 (Od.lc 2 7) ld_Rat rfl rfl) ?_
    refine Rc (cl2 (en Tryz.func37) (Od.lc (Φ := IsQ (IsI k1 p.num) (IsI k1 ((p.den : Int)))) 1 6) (Od.lc (Φ := IsQ (IsI k2 r.num) (IsI k2 ((r.den : Int)))) 3 8) (fun x0 x1 w' hE d0 d1 => qAdd_f d0 d1 (by omega) (by omega))) ?_
    refine Rc (fa (fa_Iv1 (w.heap.size) 0) (Od.lit 2)) ?_
    refine Rc (ldQ S 9 8 (w.heap.size) 2 (Od.lc 5 10) ld_Rat rfl rfl) ?_
    refine Rc (fa (fa_Iv1 (w.heap.size + 1) 0) (Od.lit 3)) ?_
    refine Rc (ldQ S 5 4 (w.heap.size + 1) 2 (Od.lc 7 12) ld_Rat rfl rfl) ?_
    refine Rc (cl2 (en Tryz.func37) (Od.lc (Φ := IsQ (IsI k1 q.num) (IsI k1 ((q.den : Int)))) 6 11) (Od.lc (Φ := IsQ (IsI k2 u.num) (IsI k2 ((u.den : Int)))) 8 13) (fun x0 x1 w' hE d0 d1 => qAdd_f d0 d1 (by omega) (by omega))) ?_
    refine Rc (bj (Od.loc 4 9) (Od.loc 9 14) bd_Iv) ?_
    exact RgAll.nil
  intro v W1 e1 hΦ _
  replace S := S.mono e1
  have h15 := hΦ 10 (by decide)
  simp only [layL, Act.put, List.setIfInBounds_toArray, List.set_cons_zero, List.set_cons_succ, Nat.reduceAdd]
  clear hΦ e1
  refine stA 11 (h := fun KK hKK => stJ S 3 2 1 0 (w.heap.size + 1 + 1) 0 h15 (IsI.gstb _ _) (IsI.gstb _ _) (IsI.gstb _ _) (IsI.gstb _ _) st_Iv (fun W2 S2 G2 => hKK _ _ ?_) rfl rfl rfl rfl)
  replace S := S2; clear S2 G2 hKK KK h15
  simp only [List.set_cons_zero, List.set_cons_succ] at S
  refine wpAny_done (by kernel_rfl) ?_ _
  go_wp2_with fail
  obtain ⟨s90x, a90x, n90x, c90x, b90x, h90x⟩ := S.at 3 (w.heap.size + 1 + 1) 0 (IsI (k1 + k2 + 1) ((p + r).num)) rfl; have L90xa : World.cell? W2 ⟨w.heap.size + 1 + 1, 0, none⟩ = some (.bool s90x) := b90x.c0; have L90xb : World.cell? W2 ⟨w.heap.size + 1 + 1, 1, none⟩ = some (.slice a90x n90x c90x) := b90x.c1
  obtain ⟨s90y, a90y, n90y, c90y, b90y, h90y⟩ := S.at 2 (w.heap.size + 1 + 1) 1 (IsI (k1 + k2 + 1) (((p + r).den : Int))) rfl; have L90ya : World.cell? W2 ⟨w.heap.size + 1 + 1, 2, none⟩ = some (.bool s90y) := b90y.c0; have L90yb : World.cell? W2 ⟨w.heap.size + 1 + 1, 3, none⟩ = some (.slice a90y n90y c90y) := b90y.c1
  obtain ⟨s90z, a90z, n90z, c90z, b90z, h90z⟩ := S.at 1 (w.heap.size + 1 + 1) 2 (IsI (k1 + k2 + 1) ((q + u).num)) rfl; have L90za : World.cell? W2 ⟨w.heap.size + 1 + 1, 4, none⟩ = some (.bool s90z) := b90z.c0; have L90zb : World.cell? W2 ⟨w.heap.size + 1 + 1, 5, none⟩ = some (.slice a90z n90z c90z) := b90z.c1
  obtain ⟨s90t, a90t, n90t, c90t, b90t, h90t⟩ := S.at 0 (w.heap.size + 1 + 1) 3 (IsI (k1 + k2 + 1) (((q + u).den : Int))) rfl; have L90ta : World.cell? W2 ⟨w.heap.size + 1 + 1, 6, none⟩ = some (.bool s90t) := b90t.c0; have L90tb : World.cell? W2 ⟨w.heap.size + 1 + 1, 7, none⟩ = some (.slice a90t n90t c90t) := b90t.c1
  exact bodyPost_ret (v := .agg #[.bool s90x, .slice a90x n90x c90x, .bool s90y, .slice a90y n90y c90y, .bool s90z, .slice a90z n90z c90z, .bool s90t, .slice a90t n90t c90t]) (by simp [results, Tryz.results62, go_sem, L90xa, L90xb, L90ya, L90yb, L90za, L90zb, L90ta, L90tb]) rfl (⟨_, rfl, S.ext, ⟨_, _, _, _, _, _, _, _, _, _, _, _, _, _, _, _, rfl, h90x, h90y, h90z, h90t⟩⟩)

set_option maxRecDepth 100000 in
set_option maxHeartbeats 4000000 in
theorem qISub_f {k1 k2 : Nat} {p q r u : Rat} {x y : Value} {w : World} (hx : IsIv k1 p q x w) (hy : IsIv k2 r u y w) (l1 : k1 ≤ 131072) (l2 : k2 ≤ 131072) : Calls Tryz.prog 63 #[x, y] w (Ret w (IsIv (k1 + k2 + 1) (p - u) (q - r))) := by
  obtain ⟨s1x, a1x, n1x, c1x, s1y, a1y, n1y, c1y, s1z, a1z, n1z, c1z, s1t, a1t, n1t, c1t, rfl, h1x, h1y, h1z, h1t⟩ := hx
  obtain ⟨s2x, a2x, n2x, c2x, s2y, a2y, n2y, c2y, s2z, a2z, n2z, c2z, s2t, a2t, n2t, c2t, rfl, h2x, h2y, h2z, h2t⟩ := hy
  obtain ⟨W, hW, S⟩ : ∃ W, W = ((w.alloc (.cells #[.bool s1x, .slice a1x n1x c1x, .bool s1y, .slice a1y n1y c1y, .bool s1z, .slice a1z n1z c1z, .bool s1t, .slice a1t n1t c1t] 44)).alloc (.cells #[.bool s2x, .slice a2x n2x c2x, .bool s2y, .slice a2y n2y c2y, .bool s2z, .slice a2z n2z c2z, .bool s2t, .slice a2t n2t c2t] 44)).alloc (.cells #[.bool false, .slice none 0 0, .bool false, .slice none 0 0, .bool false, .slice none 0 0, .bool false, .slice none 0 0] 44) ∧ Sto w W [((w.heap.size + 1 + 1, 3), IsI 0 0), ((w.heap.size + 1 + 1, 2), IsI 0 0), ((w.heap.size + 1 + 1, 1), IsI 0 0), ((w.heap.size + 1 + 1, 0), IsI 0 0), ((w.heap.size + 1, 3), IsI k2 ((u.den : Int))), ((w.heap.size + 1, 2), IsI k2 u.num), ((w.heap.size + 1, 1), IsI k2 ((r.den : Int))), ((w.heap.size + 1, 0), IsI k2 r.num), ((w.heap.size, 3), IsI k1 ((q.den : Int))), ((w.heap.size, 2), IsI k1 q.num), ((w.heap.size, 1), IsI k1 ((p.den : Int))), ((w.heap.size, 0), IsI k1 p.num)] := ⟨_, rfl, ((((Sto.start w).new4 (w.heap.size) (by simp) s1x s1y s1z s1t a1x a1y a1z a1t n1x c1x n1y c1y n1z c1z n1t c1t 44 (IsI k1 p.num) (IsI k1 ((p.den : Int))) (IsI k1 q.num) (IsI k1 ((q.den : Int))) (IsI.gstb _ _) (h1x) (IsI.gstb _ _) (h1y) (IsI.gstb _ _) (h1z) (IsI.gstb _ _) (h1t)).new4 (w.heap.size + 1) (by simp) s2x s2y s2z s2t a2x a2y a2z a2t n2x c2x n2y c2y n2z c2z n2t c2t 44 (IsI k2 r.num) (IsI k2 ((r.den : Int))) (IsI k2 u.num) (IsI k2 ((u.den : Int))) (IsI.gstb _ _) (h2x.ext ((Ext.refl _).alloc _)) (IsI.gstb _ _) (h2y.ext ((Ext.refl _).alloc _)) (IsI.gstb _ _) (h2z.ext ((Ext.refl _).alloc _)) (IsI.gstb _ _) (h2t.ext ((Ext.refl _).alloc _))).new4 (w.heap.size + 1 + 1) (by simp) false false false false none none none none 0 0 0 0 0 0 0 0 44 (IsI 0 0) (IsI 0 0) (IsI 0 0) (IsI 0 0) (IsI.gstb _ _) (IsI.nil _ _) (IsI.gstb _ _) (IsI.nil _ _) (IsI.gstb _ _) (IsI.nil _ _) (IsI.gstb _ _) (IsI.nil _ _))⟩
  clear h1x h1y h1z h1t h2x h2y h2z h2t
  go_enter Tryz.func63, Tryz.ntmps63
  go_upto_region 1 with (fail)
  rw [← hW]
  clear hW
  refine rg 11 [some 5, some 6, some 7, some 8, some 9, some 10, some 11, some 12, some 13, some 14, some 15] [IsV (.pointer (some ⟨w.heap.size, 0, none⟩)), IsQ (IsI k1 p.num) (IsI k1 ((p.den : Int))), IsV (.pointer (some ⟨w.heap.size + 1, 4, none⟩)), IsQ (IsI k2 u.num) (IsI k2 ((u.den : Int))), IsQ (IsI (k1 + k2 + 1) ((p - u).num)) (IsI (k1 + k2 + 1) (((p - u).den : Int))), IsV (.pointer (some ⟨w.heap.size, 4, none⟩)), IsQ (IsI k1 q.num) (IsI k1 ((q.den : Int))), IsV (.pointer (some ⟨w.heap.size + 1, 0, none⟩)), IsQ (IsI k2 r.num) (IsI k2 ((r.den : Int))), IsQ (IsI (k1 + k2 + 1) ((q - r).num)) (IsI (k1 + k2 + 1) (((q - r).den : Int))), IsJ (IsI (k1 + k2 + 1) ((p - u).num)) (IsI (k1 + k2 + 1) (((p - u).den : Int))) (IsI (k1 + k2 + 1) ((q - r).num)) (IsI (k1 + k2 + 1) (((q - r).den : Int)))] [] 1 ?_ ?_
  · refine Rc (fa (fa_Iv0 (w.heap.size) 0) (Od.lit 2)) ?_
    refine Rc (ldQ S 11 10 (w.heap.size) 0 (Od.lc 0 5) ld_Rat rfl rfl) ?_
    refine Rc (fa (fa_Iv1 (w.heap.size + 1) 0) (Od.lit 3)) ?_
    refine Rc (ldQ S 5 4 (w.heap.size + 1) 2 (Od.lc 2 7) ld_Rat rfl rfl) ?_
    refine Rc (cl2 (en Tryz.func36) (Od.lc (Φ := IsQ (IsI k1 p.num) (IsI k1 ((p.den : Int)))) 1 6) (Od.lc (Φ := IsQ (IsI k2 u.num) (IsI k2 ((u.den : Int)))) 3 8) (fun x0 x1 w' hE d0 d1 => qSub_f d0 d1 (by omega) (by omega))) ?_
    refine Rc (fa (fa_Iv1 (w.heap.size) 0) (Od.lit 2)) ?_
    refine Rc (ldQ S 9 8 (w.heap.size) 2 (Od.lc 5 10) ld_Rat rfl rfl) ?_
    refine Rc (fa (fa_Iv0 (w.heap.size + 1) 0) (Od.lit 3)) ?_
    refine Rc (ldQ S 7 6 (w.heap.size + 1) 0 (Od.lc 7 12) ld_Rat rfl rfl) ?_
    refine Rc (cl2 (en Tryz.func36) (Od.lc (Φ := IsQ (IsI k1 q.num) (IsI k1 ((q.den : Int)))) 6 11) (Od.lc (Φ := IsQ (IsI k2 r.num) (IsI k2 ((r.den : Int)))) 8 13) (fun x0 x1 w' hE d0 d1 => qSub_f d0 d1 (by omega) (by omega))) ?_
    refine Rc (bj (Od.loc 4 9) (Od.loc 9 14) bd_Iv) ?_
    exact RgAll.nil
  intro v W1 e1 hΦ _
  replace S := S.mono e1
  have h15 := hΦ 10 (by decide)
  simp only [layL, Act.put, List.setIfInBounds_toArray, List.set_cons_zero, List.set_cons_succ, Nat.reduceAdd]
  clear hΦ e1
  refine stA 11 (h := fun KK hKK => stJ S 3 2 1 0 (w.heap.size + 1 + 1) 0 h15 (IsI.gstb _ _) (IsI.gstb _ _) (IsI.gstb _ _) (IsI.gstb _ _) st_Iv (fun W2 S2 G2 => hKK _ _ ?_) rfl rfl rfl rfl)
  replace S := S2; clear S2 G2 hKK KK h15
  simp only [List.set_cons_zero, List.set_cons_succ] at S
  refine wpAny_done (by kernel_rfl) ?_ _
  go_wp2_with fail
  obtain ⟨s90x, a90x, n90x, c90x, b90x, h90x⟩ := S.at 3 (w.heap.size + 1 + 1) 0 (IsI (k1 + k2 + 1) ((p - u).num)) rfl; have L90xa : World.cell? W2 ⟨w.heap.size + 1 + 1, 0, none⟩ = some (.bool s90x) := b90x.c0; have L90xb : World.cell? W2 ⟨w.heap.size + 1 + 1, 1, none⟩ = some (.slice a90x n90x c90x) := b90x.c1
  obtain ⟨s90y, a90y, n90y, c90y, b90y, h90y⟩ := S.at 2 (w.heap.size + 1 + 1) 1 (IsI (k1 + k2 + 1) (((p - u).den : Int))) rfl; have L90ya : World.cell? W2 ⟨w.heap.size + 1 + 1, 2, none⟩ = some (.bool s90y) := b90y.c0; have L90yb : World.cell? W2 ⟨w.heap.size + 1 + 1, 3, none⟩ = some (.slice a90y n90y c90y) := b90y.c1
  obtain ⟨s90z, a90z, n90z, c90z, b90z, h90z⟩ := S.at 1 (w.heap.size + 1 + 1) 2 (IsI (k1 + k2 + 1) ((q - r).num)) rfl; have L90za : World.cell? W2 ⟨w.heap.size + 1 + 1, 4, none⟩ = some (.bool s90z) := b90z.c0; have L90zb : World.cell? W2 ⟨w.heap.size + 1 + 1, 5, none⟩ = some (.slice a90z n90z c90z) := b90z.c1
  obtain ⟨s90t, a90t, n90t, c90t, b90t, h90t⟩ := S.at 0 (w.heap.size + 1 + 1) 3 (IsI (k1 + k2 + 1) (((q - r).den : Int))) rfl; have L90ta : World.cell? W2 ⟨w.heap.size + 1 + 1, 6, none⟩ = some (.bool s90t) := b90t.c0; have L90tb : World.cell? W2 ⟨w.heap.size + 1 + 1, 7, none⟩ = some (.slice a90t n90t c90t) := b90t.c1
  exact bodyPost_ret (v := .agg #[.bool s90x, .slice a90x n90x c90x, .bool s90y, .slice a90y n90y c90y, .bool s90z, .slice a90z n90z c90z, .bool s90t, .slice a90t n90t c90t]) (by simp [results, Tryz.results63, go_sem, L90xa, L90xb, L90ya, L90yb, L90za, L90zb, L90ta, L90tb]) rfl (⟨_, rfl, S.ext, ⟨_, _, _, _, _, _, _, _, _, _, _, _, _, _, _, _, rfl, h90x, h90y, h90z, h90t⟩⟩)

set_option maxRecDepth 100000 in
set_option maxHeartbeats 4000000 in
theorem rqIAdd_f {k1 k2 : Nat} {p q r u : Rat} {x y : Value} {w : World} (hx : IsIv k1 p q x w) (hy : IsIv k2 r u y w) (l1 : k1 ≤ 131072) (l2 : k2 ≤ 131072) : Calls Tryz.prog 66 #[x, y] w (Ret w (IsIv (k1 + k2 + 1) (p + r) (q + u))) := by
  obtain ⟨s1x, a1x, n1x, c1x, s1y, a1y, n1y, c1y, s1z, a1z, n1z, c1z, s1t, a1t, n1t, c1t, rfl, h1x, h1y, h1z, h1t⟩ := hx
  obtain ⟨s2x, a2x, n2x, c2x, s2y, a2y, n2y, c2y, s2z, a2z, n2z, c2z, s2t, a2t, n2t, c2t, rfl, h2x, h2y, h2z, h2t⟩ := hy
  obtain ⟨W, hW, S⟩ : ∃ W, W = ((w.alloc (.cells #[.bool s1x, .slice a1x n1x c1x, .bool s1y, .slice a1y n1y c1y, .bool s1z, .slice a1z n1z c1z, .bool s1t, .slice a1t n1t c1t] 44)).alloc (.cells #[.bool s2x, .slice a2x n2x c2x, .bool s2y, .slice a2y n2y c2y, .bool s2z, .slice a2z n2z c2z, .bool s2t, .slice a2t n2t c2t] 44)).alloc (.cells #[.bool false, .slice none 0 0, .bool false, .slice none 0 0, .bool false, .slice none 0 0, .bool false, .slice none 0 0] 44) ∧ Sto w W [((w.heap.size + 1 + 1, 3), IsI 0 0), ((w.heap.size + 1 + 1, 2), IsI 0 0), ((w.heap.size + 1 + 1, 1), IsI 0 0), ((w.heap.size + 1 + 1, 0), IsI 0 0), ((w.heap.size + 1, 3), IsI k2 ((u.den : Int))), ((w.heap.size + 1, 2), IsI k2 u.num), ((w.heap.size + 1, 1), IsI k2 ((r.den : Int))), ((w.heap.size + 1, 0), IsI k2 r.num), ((w.heap.size, 3), IsI k1 ((q.den : Int))), ((w.heap.size, 2), IsI k1 q.num), ((w.heap.size, 1), IsI k1 ((p.den : Int))), ((w.heap.size, 0), IsI k1 p.num)] := ⟨_, rfl, ((((Sto.start w).new4 (w.heap.size) (by simp) s1x s1y s1z s1t a1x a1y a1z a1t n1x c1x n1y c1y n1z c1z n1t c1t 44 (IsI k1 p.num) (IsI k1 ((p.den : Int))) (IsI k1 q.num) (IsI k1 ((q.den : Int))) (IsI.gstb _ _) (h1x) (IsI.gstb _ _) (h1y) (IsI.gstb _ _) (h1z) (IsI.gstb _ _) (h1t)).new4 (w.heap.size + 1) (by simp) s2x s2y s2z s2t a2x a2y a2z a2t n2x c2x n2y c2y n2z c2z n2t c2t 44 (IsI k2 r.num) (IsI k2 ((r.den : Int))) (IsI k2 u.num) (IsI k2 ((u.den : Int))) (IsI.gstb _ _) (h2x.ext ((Ext.refl _).alloc _)) (IsI.gstb _ _) (h2y.ext ((Ext.refl _).alloc _)) (IsI.gstb _ _) (h2z.ext ((Ext.refl _).alloc _)) (IsI.gstb _ _) (h2t.ext ((Ext.refl _).alloc _))).new4 (w.heap.size + 1 + 1) (by simp) false false false false none none none none 0 0 0 0 0 0 0 0 44 (IsI 0 0) (IsI 0 0) (IsI 0 0) (IsI 0 0) (IsI.gstb _ _) (IsI.nil _ _) (IsI.gstb _ _) (IsI.nil _ _) (IsI.gstb _ _) (IsI.nil _ _) (IsI.gstb _ _) (IsI.nil _ _))⟩
  clear h1x h1y h1z h1t h2x h2y h2z h2t
  go_enter Tryz.func66, Tryz.ntmps66
  go_upto_region 1 with (fail)
  rw [← hW]
  clear hW
  refine rg 11 [some 5, some 6, some 7, some 8, some 9, some 10, some 11, some 12, some 13, some 14, some 15] [IsV (.pointer (some ⟨w.heap.size, 0, none⟩)), IsQ (IsI k1 p.num) (IsI k1 ((p.den : Int))), IsV (.pointer (some ⟨w.heap.size + 1, 0, none⟩)), IsQ (IsI k2 r.num) (IsI k2 ((r.den : Int))), IsQ (IsI (k1 + k2 + 1) ((p + r).num)) (IsI (k1 + k2 + 1) (((p + r).den : Int))), IsV (.pointer (some ⟨w.heap.size, 4, none⟩)), IsQ (IsI k1 q.num) (IsI k1 ((q.den : Int))), IsV (.pointer (some ⟨w.heap.size + 1, 4, none⟩)), IsQ (IsI k2 u.num) (IsI k2 ((u.den : Int))), IsQ (IsI (k1 + k2 + 1) ((q + u).num)) (IsI (k1 + k2 + 1) (((q + u).den : Int))), IsJ (IsI (k1 + k2 + 1) ((p + r).num)) (IsI (k1 + k2 + 1) (((p + r).den : Int))) (IsI (k1 + k2 + 1) ((q + u).num)) (IsI (k1 + k2 + 1) (((q + u).den : Int)))] [] 1 ?_ ?_
  · refine Rc (fa (fa_Iv0 (w.heap.size) 0) (Od.lit 2)) ?_
    refine Rc (ldQ S 11 10 (w.heap.size) 0 (Od.lc 0 5) ld_Rat rfl rfl) ?_
    refine Rc (fa (fa_Iv0 (w.heap.size + 1) 0) (Od.lit 3)) ?_
    refine Rc (ldQ S 7 6 (w.heap.size + 1) 0 (Od.lc 2 7) ld_Rat rfl rfl) ?_
    refine Rc (cl2 (en Tryz.func53) (Od.lc (Φ := IsQ (IsI k1 p.num) (IsI k1 ((p.den : Int)))) 1 6) (Od.lc (Φ := IsQ (IsI k2 r.num) (IsI k2 ((r.den : Int)))) 3 8) (fun x0 x1 w' hE d0 d1 => rqAdd_f d0 d1 (by omega) (by omega))) ?_
    refine Rc (fa (fa_Iv1 (w.heap.size) 0) (Od.lit 2)) ?_
    refine Rc (ldQ S 9 8 (w.heap.size) 2 (Od.lc 5 10) ld_Rat rfl rfl) ?_
    refine Rc (fa (fa_Iv1 (w.heap.size + 1) 0) (Od.lit 3)) ?_
    refine Rc (ldQ S 5 4 (w.heap.size + 1) 2 (Od.lc 7 12) ld_Rat rfl rfl) ?_
    refine Rc (cl2 (en Tryz.func53) (Od.lc (Φ := IsQ (IsI k1 q.num) (IsI k1 ((q.den : Int)))) 6 11) (Od.lc (Φ := IsQ (IsI k2 u.num) (IsI k2 ((u.den : Int)))) 8 13) (fun x0 x1 w' hE d0 d1 => rqAdd_f d0 d1 (by omega) (by omega))) ?_
    refine Rc (bj (Od.loc 4 9) (Od.loc 9 14) bd_Iv) ?_
    exact RgAll.nil
  intro v W1 e1 hΦ _
  replace S := S.mono e1
  have h15 := hΦ 10 (by decide)
  simp only [layL, Act.put, List.setIfInBounds_toArray, List.set_cons_zero, List.set_cons_succ, Nat.reduceAdd]
  clear hΦ e1
  refine stA 11 (h := fun KK hKK => stJ S 3 2 1 0 (w.heap.size + 1 + 1) 0 h15 (IsI.gstb _ _) (IsI.gstb _ _) (IsI.gstb _ _) (IsI.gstb _ _) st_Iv (fun W2 S2 G2 => hKK _ _ ?_) rfl rfl rfl rfl)
  replace S := S2; clear S2 G2 hKK KK h15
  simp only [List.set_cons_zero, List.set_cons_succ] at S
  refine wpAny_done (by kernel_rfl) ?_ _
  go_wp2_with fail
  obtain ⟨s90x, a90x, n90x, c90x, b90x, h90x⟩ := S.at 3 (w.heap.size + 1 + 1) 0 (IsI (k1 + k2 + 1) ((p + r).num)) rfl; have L90xa : World.cell? W2 ⟨w.heap.size + 1 + 1, 0, none⟩ = some (.bool s90x) := b90x.c0; have L90xb : World.cell? W2 ⟨w.heap.size + 1 + 1, 1, none⟩ = some (.slice a90x n90x c90x) := b90x.c1
  obtain ⟨s90y, a90y, n90y, c90y, b90y, h90y⟩ := S.at 2 (w.heap.size + 1 + 1) 1 (IsI (k1 + k2 + 1) (((p + r).den : Int))) rfl; have L90ya : World.cell? W2 ⟨w.heap.size + 1 + 1, 2, none⟩ = some (.bool s90y) := b90y.c0; have L90yb : World.cell? W2 ⟨w.heap.size + 1 + 1, 3, none⟩ = some (.slice a90y n90y c90y) := b90y.c1
  obtain ⟨s90z, a90z, n90z, c90z, b90z, h90z⟩ := S.at 1 (w.heap.size + 1 + 1) 2 (IsI (k1 + k2 + 1) ((q + u).num)) rfl; have L90za : World.cell? W2 ⟨w.heap.size + 1 + 1, 4, none⟩ = some (.bool s90z) := b90z.c0; have L90zb : World.cell? W2 ⟨w.heap.size + 1 + 1, 5, none⟩ = some (.slice a90z n90z c90z) := b90z.c1
  obtain ⟨s90t, a90t, n90t, c90t, b90t, h90t⟩ := S.at 0 (w.heap.size + 1 + 1) 3 (IsI (k1 + k2 + 1) (((q + u).den : Int))) rfl; have L90ta : World.cell? W2 ⟨w.heap.size + 1 + 1, 6, none⟩ = some (.bool s90t) := b90t.c0; have L90tb : World.cell? W2 ⟨w.heap.size + 1 + 1, 7, none⟩ = some (.slice a90t n90t c90t) := b90t.c1
  exact bodyPost_ret (v := .agg #[.bool s90x, .slice a90x n90x c90x, .bool s90y, .slice a90y n90y c90y, .bool s90z, .slice a90z n90z c90z, .bool s90t, .slice a90t n90t c90t]) (by simp [results, Tryz.results66, go_sem, L90xa, L90xb, L90ya, L90yb, L90za, L90zb, L90ta, L90tb]) rfl (⟨_, rfl, S.ext, ⟨_, _, _, _, _, _, _, _, _, _, _, _, _, _, _, _, rfl, h90x, h90y, h90z, h90t⟩⟩)

set_option maxRecDepth 100000 in
set_option maxHeartbeats 4000000 in
theorem rqISub_f {k1 k2 : Nat} {p q r u : Rat} {x y : Value} {w : World} (hx : IsIv k1 p q x w) (hy : IsIv k2 r u y w) (l1 : k1 ≤ 131072) (l2 : k2 ≤ 131072) : Calls Tryz.prog 67 #[x, y] w (Ret w (IsIv (k1 + k2 + 1) (p - u) (q - r))) := by
  obtain ⟨s1x, a1x, n1x, c1x, s1y, a1y, n1y, c1y, s1z, a1z, n1z, c1z, s1t, a1t, n1t, c1t, rfl, h1x, h1y, h1z, h1t⟩ := hx
  obtain ⟨s2x, a2x, n2x, c2x, s2y, a2y, n2y, c2y, s2z, a2z, n2z, c2z, s2t, a2t, n2t, c2t, rfl, h2x, h2y, h2z, h2t⟩ := hy
  obtain ⟨W, hW, S⟩ : ∃ W, W = ((w.alloc (.cells #[.bool s1x, .slice a1x n1x c1x, .bool s1y, .slice a1y n1y c1y, .bool s1z, .slice a1z n1z c1z, .bool s1t, .slice a1t n1t c1t] 44)).alloc (.cells #[.bool s2x, .slice a2x n2x c2x, .bool s2y, .slice a2y n2y c2y, .bool s2z, .slice a2z n2z c2z, .bool s2t, .slice a2t n2t c2t] 44)).alloc (.cells #[.bool false, .slice none 0 0, .bool false, .slice none 0 0, .bool false, .slice none 0 0, .bool false, .slice none 0 0] 44) ∧ Sto w W [((w.heap.size + 1 + 1, 3), IsI 0 0), ((w.heap.size + 1 + 1, 2), IsI 0 0), ((w.heap.size + 1 + 1, 1), IsI 0 0), ((w.heap.size + 1 + 1, 0), IsI 0 0), ((w.heap.size + 1, 3), IsI k2 ((u.den : Int))), ((w.heap.size + 1, 2), IsI k2 u.num), ((w.heap.size + 1, 1), IsI k2 ((r.den : Int))), ((w.heap.size + 1, 0), IsI k2 r.num), ((w.heap.size, 3), IsI k1 ((q.den : Int))), ((w.heap.size, 2), IsI k1 q.num), ((w.heap.size, 1), IsI k1 ((p.den : Int))), ((w.heap.size, 0), IsI k1 p.num)] := ⟨_, rfl, ((((Sto.start w).new4 (w.heap.size) (by simp) s1x s1y s1z s1t a1x a1y a1z a1t n1x c1x n1y c1y n1z c1z n1t c1t 44 (IsI k1 p.num) (IsI k1 ((p.den : Int))) (IsI k1 q.num) (IsI k1 ((q.den : Int))) (IsI.gstb _ _) (h1x) (IsI.gstb _ _) (h1y) (IsI.gstb _ _) (h1z) (IsI.gstb _ _) (h1t)).new4 (w.heap.size + 1) (by simp) s2x s2y s2z s2t a2x a2y a2z a2t n2x c2x n2y c2y n2z c2z n2t c2t 44 (IsI k2 r.num) (IsI k2 ((r.den : Int))) (IsI k2 u.num) (IsI k2 ((u.den : Int))) (IsI.gstb _ _) (h2x.ext ((Ext.refl _).alloc _)) (IsI.gstb _ _) (h2y.ext ((Ext.refl _).alloc _)) (IsI.gstb _ _) (h2z.ext ((Ext.refl _).alloc _)) (IsI.gstb _ _) (h2t.ext ((Ext.refl _).alloc _))).new4 (w.heap.size + 1 + 1) (by simp) false false false false none none none none 0 0 0 0 0 0 0 0 44 (IsI 0 0) (IsI 0 0) (IsI 0 0) (IsI 0 0) (IsI.gstb _ _) (IsI.nil _ _) (IsI.gstb _ _) (IsI.nil _ _) (IsI.gstb _ _) (IsI.nil _ _) (IsI.gstb _ _) (IsI.nil _ _))⟩
  clear h1x h1y h1z h1t h2x h2y h2z h2t
  go_enter Tryz.func67, Tryz.ntmps67
  go_upto_region 1 with (fail)
  rw [← hW]
  clear hW
  refine rg 11 [some 5, some 6, some 7, some 8, some 9, some 10, some 11, some 12, some 13, some 14, some 15] [IsV (.pointer (some ⟨w.heap.size, 0, none⟩)), IsQ (IsI k1 p.num) (IsI k1 ((p.den : Int))), IsV (.pointer (some ⟨w.heap.size + 1, 4, none⟩)), IsQ (IsI k2 u.num) (IsI k2 ((u.den : Int))), IsQ (IsI (k1 + k2 + 1) ((p - u).num)) (IsI (k1 + k2 + 1) (((p - u).den : Int))), IsV (.pointer (some ⟨w.heap.size, 4, none⟩)), IsQ (IsI k1 q.num) (IsI k1 ((q.den : Int))), IsV (.pointer (some ⟨w.heap.size + 1, 0, none⟩)), IsQ (IsI k2 r.num) (IsI k2 ((r.den : Int))), IsQ (IsI (k1 + k2 + 1) ((q - r).num)) (IsI (k1 + k2 + 1) (((q - r).den : Int))), IsJ (IsI (k1 + k2 + 1) ((p - u).num)) (IsI (k1 + k2 + 1) (((p - u).den : Int))) (IsI (k1 + k2 + 1) ((q - r).num)) (IsI (k1 + k2 + 1) (((q - r).den : Int)))] [] 1 ?_ ?_
  · refine Rc (fa (fa_Iv0 (w.heap.size) 0) (Od.lit 2)) ?_
    refine Rc (ldQ S 11 10 (w.heap.size) 0 (Od.lc 0 5) ld_Rat rfl rfl) ?_
    refine Rc (fa (fa_Iv1 (w.heap.size + 1) 0) (Od.lit 3)) ?_
    refine Rc (ldQ S 5 4 (w.heap.size + 1) 2 (Od.lc 2 7) ld_Rat rfl rfl) ?_
    refine Rc (cl2 (en Tryz.func54) (Od.lc (Φ := IsQ (IsI k1 p.num) (IsI k1 ((p.den : Int)))) 1 6) (Od.lc (Φ := IsQ (IsI k2 u.num) (IsI k2 ((u.den : Int)))) 3 8) (fun x0 x1 w' hE d0 d1 => rqSub_f d0 d1 (by omega) (by omega))) ?_
    refine Rc (fa (fa_Iv1 (w.heap.size) 0) (Od.lit 2)) ?_
    refine Rc (ldQ S 9 8 (w.heap.size) 2 (Od.lc 5 10) ld_Rat rfl rfl) ?_
    refine Rc (fa (fa_Iv0 (w.heap.size + 1) 0) (Od.lit 3)) ?_
    refine Rc (ldQ S 7 6 (w.heap.size + 1) 0 (Od.lc 7 12) ld_Rat rfl rfl) ?_
    refine Rc (cl2 (en Tryz.func54) (Od.lc (Φ := IsQ (IsI k1 q.num) (IsI k1 ((q.den : Int)))) 6 11) (Od.lc (Φ := IsQ (IsI k2 r.num) (IsI k2 ((r.den : Int)))) 8 13) (fun x0 x1 w' hE d0 d1 => rqSub_f d0 d1 (by omega) (by omega))) ?_
    refine Rc (bj (Od.loc 4 9) (Od.loc 9 14) bd_Iv) ?_
    exact RgAll.nil
  intro v W1 e1 hΦ _
  replace S := S.mono e1
  have h15 := hΦ 10 (by decide)
  simp only [layL, Act.put, List.setIfInBounds_toArray, List.set_cons_zero, List.set_cons_succ, Nat.reduceAdd]
  clear hΦ e1
  refine stA 11 (h := fun KK hKK => stJ S 3 2 1 0 (w.heap.size + 1 + 1) 0 h15 (IsI.gstb _ _) (IsI.gstb _ _) (IsI.gstb _ _) (IsI.gstb _ _) st_Iv (fun W2 S2 G2 => hKK _ _ ?_) rfl rfl rfl rfl)
  replace S := S2; clear S2 G2 hKK KK h15
  simp only [List.set_cons_zero, List.set_cons_succ] at S
  refine wpAny_done (by kernel_rfl) ?_ _
  go_wp2_with fail
  obtain ⟨s90x, a90x, n90x, c90x, b90x, h90x⟩ := S.at 3 (w.heap.size + 1 + 1) 0 (IsI (k1 + k2 + 1) ((p - u).num)) rfl; have L90xa : World.cell? W2 ⟨w.heap.size + 1 + 1, 0, none⟩ = some (.bool s90x) := b90x.c0; have L90xb : World.cell? W2 ⟨w.heap.size + 1 + 1, 1, none⟩ = some (.slice a90x n90x c90x) := b90x.c1
  obtain ⟨s90y, a90y, n90y, c90y, b90y, h90y⟩ := S.at 2 (w.heap.size + 1 + 1) 1 (IsI (k1 + k2 + 1) (((p - u).den : Int))) rfl; have L90ya : World.cell? W2 ⟨w.heap.size + 1 + 1, 2, none⟩ = some (.bool s90y) := b90y.c0; have L90yb : World.cell? W2 ⟨w.heap.size + 1 + 1, 3, none⟩ = some (.slice a90y n90y c90y) := b90y.c1
  obtain ⟨s90z, a90z, n90z, c90z, b90z, h90z⟩ := S.at 1 (w.heap.size + 1 + 1) 2 (IsI (k1 + k2 + 1) ((q - r).num)) rfl; have L90za : World.cell? W2 ⟨w.heap.size + 1 + 1, 4, none⟩ = some (.bool s90z) := b90z.c0; have L90zb : World.cell? W2 ⟨w.heap.size + 1 + 1, 5, none⟩ = some (.slice a90z n90z c90z) := b90z.c1
  obtain ⟨s90t, a90t, n90t, c90t, b90t, h90t⟩ := S.at 0 (w.heap.size + 1 + 1) 3 (IsI (k1 + k2 + 1) (((q - r).den : Int))) rfl; have L90ta : World.cell? W2 ⟨w.heap.size + 1 + 1, 6, none⟩ = some (.bool s90t) := b90t.c0; have L90tb : World.cell? W2 ⟨w.heap.size + 1 + 1, 7, none⟩ = some (.slice a90t n90t c90t) := b90t.c1
  exact bodyPost_ret (v := .agg #[.bool s90x, .slice a90x n90x c90x, .bool s90y, .slice a90y n90y c90y, .bool s90z, .slice a90z n90z c90z, .bool s90t, .slice a90t n90t c90t]) (by simp [results, Tryz.results67, go_sem, L90xa, L90xb, L90ya, L90yb, L90za, L90zb, L90ta, L90tb]) rfl (⟨_, rfl, S.ext, ⟨_, _, _, _, _, _, _, _, _, _, _, _, _, _, _, _, rfl, h90x, h90y, h90z, h90t⟩⟩)
end Go.Proofs.YtcgdkfadcglekaaGreatDoor
