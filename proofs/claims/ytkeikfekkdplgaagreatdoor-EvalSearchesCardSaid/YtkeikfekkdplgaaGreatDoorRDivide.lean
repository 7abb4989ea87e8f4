/-
  The reference package: divide. Every two slices of words of at most 2^27 words, without zeros at the end, the second not 0.
-/
import Derived.Test.YtkeikfekkdplgaaGreatDoorRDiv
namespace Go.Proofs.YtkeikfekkdplgaaGreatDoor
open Go Go.RowKit

/-- A box of two cells that hold no word. -/
structure Qx (w : World) (g : Nat) (u v : Value) : Prop where
  c0 : w.cell? ⟨g, 0, none⟩ = some u
  c1 : w.cell? ⟨g, 1, none⟩ = some v
  f0 : w.frozen? ⟨g, 0, none⟩ = false
  f1 : w.frozen? ⟨g, 1, none⟩ = false
  n0 : NoWord u
  n1 : NoWord v
theorem Qx.lt {w : World} {g : Nat} {u v : Value} (h : Qx w g u v) : g < w.heap.size := World.block_lt_of_cell? w ⟨g, 0, none⟩ h.c0
theorem Qx.ext {w w' : World} {g : Nat} {u v : Value} (h : Qx w g u v) (e : Ext w w') : Qx w' g u v :=
  ⟨e.cell h.c0, e.cell h.c1, (e.frozen h.lt).trans h.f0, (e.frozen h.lt).trans h.f1, h.n0, h.n1⟩
theorem Qx.put {w : World} {g : Nat} {u v : Value} (b : Qx w g u v) (u' v' : Value) (hu : NoWord u') (hv : NoWord v') :
    ∃ W, W = (w.setCell ⟨g, 0, none⟩ u').setCell ⟨g, 1, none⟩ v' ∧ Qx W g u' v' ∧ Gr w W ∧ (∀ {w0 : World}, Ext w0 w → w0.heap.size ≤ g → Ext w0 W) ∧ Upd g w W := by
  refine ⟨_, rfl, ⟨?_, ?_, ?_, ?_, hu, hv⟩, ?_, fun e hg => (e.set hg _).set hg _, (Upd.set g 0 w u').trans (Upd.set g 1 _ v')⟩
  · rw [World.cell?_setCell_other _ _ _ _ (by simp), World.cell?_setCell_same _ _ _ b.c0]
  · refine World.cell?_setCell_same _ _ _ (u := v) ?_
    rw [World.cell?_setCell_other _ _ _ _ (by simp)]; exact b.c1
  · simp [b.f0]
  · simp [b.f1]
  · refine ((Gr.refl w).set b.c0 b.n0 _).set (p := ⟨g, 1, none⟩) (u := v) ?_ b.n1 _
    rw [World.cell?_setCell_other _ _ _ _ (by simp)]; exact b.c1

/-- A quotient and a remainder, as sizes. -/
def IsQt (k q r : Nat) : Value → World → Prop := fun v w => ∃ a b, v = .agg #[a, b] ∧ IsWk k q a w ∧ IsWk k r b w

theorem IsQt.stb (k q r : Nat) : Stb (IsQt k q r) := fun _ _ _ e ⟨a, b, h1, h2, h3⟩ => ⟨a, b, h1, IsWk.stb _ _ _ _ _ e h2, IsWk.stb _ _ _ _ _ e h3⟩

theorem natVal_two (xs : List Nat) (h : xs.length ≤ 2) : natVal xs = xs.getD 0 0 + 4294967296 * xs.getD 1 0 := by
  match xs, h with
  | [], _ => rfl
  | [a], _ => simp [natVal]
  | [a, b], _ => simp [natVal]
  | _ :: _ :: _ :: _, h => simp at h
theorem join_words (a b : Nat) (ha : a < 4294967296) (hb : b < 4294967296) : bits .or .u64 (a : Int) ((b : Int) * 4294967296) = ((a + 4294967296 * b : Nat) : Int) := by
  have h := u64_or_nat a (b * 4294967296) (by omega) (by omega)
  have h32 : (2 : Nat) ^ 32 = 4294967296 := by decide
  have h2 := nat_join 32 (b * 4294967296) a (by rw [h32]; omega) (by rw [h32]; omega)
  rw [Nat.or_comm, h2, Nat.add_comm, Nat.mul_comm] at h
  have e : ((b : Int) * 4294967296) = ((4294967296 * b : Nat) : Int) := by omega
  rw [e]; exact h

theorem IsWk.new2 (w : World) (a b : Nat) (ha : a < 4294967296) (hb : b < 4294967296) : IsWk 2 (a + 4294967296 * b) (.slice (some ⟨w.heap.size, 0, none⟩) 2 2) (w.alloc (.cells #[.int .u32 (a : Nat), .int .u32 (b : Nat)] 145)) :=
  ⟨_, _, _, [a, b], rfl, wd_new2 w a b ha hb, Nat.le_refl _, by simp [natVal]⟩

set_option maxRecDepth 100000 in
set_option maxHeartbeats 2000000 in
theorem divide_small (w : World) (a1 a2 : Option Addr) (n1 n2 c1 c2 : Nat) (A B : List Nat) (h1 : Wd w a1 n1 c1 A) (h2 : Wd w a2 n2 c2 B) (s1 : n1 ≤ 2) (s2 : n2 ≤ 2) (hy : 0 < natVal B) :
    Calls Tryz.prog 174 #[.slice a1 n1 c1, .slice a2 n2 c2] w (Ret w (IsQt 2 (natVal A / natVal B) (natVal A % natVal B))) := by
  obtain ⟨W, hW, b4, E⟩ : ∃ W, W = w.alloc (.cells #[.slice none 0 0, .slice none 0 0] 270) ∧ Qx W w.heap.size (.slice none 0 0) (.slice none 0 0) ∧ Ext w W :=
    ⟨_, rfl, ⟨by simp, by simp, by simp, by simp, NoWord.slice _ _ _, NoWord.slice _ _ _⟩, (Ext.refl w).alloc _⟩
  have b4 := hid b4
  have E := hid E
  have eA := natVal_two A (by rw [h1.len]; exact s1)
  have eB := natVal_two B (by rw [h2.len]; exact s2)
  have HA0 := hid (word_c W a1 n1 c1 A (h1.ext E.out) 0 (by decide))
  have HA1 := hid (word_c W a1 n1 c1 A (h1.ext E.out) 1 (by decide))
  have HB0 := hid (word_c W a2 n2 c2 B (h2.ext E.out) 0 (by decide))
  have HB1 := hid (word_c W a2 n2 c2 B (h2.ext E.out) 1 (by decide))
  have la0 := h1.lt 0
  have la1 := h1.lt 1
  have lb0 := h2.lt 0
  have lb1 := h2.lt 1
  generalize A.getD 0 0 = x0 at *
  generalize A.getD 1 0 = x1 at *
  generalize B.getD 0 0 = y0 at *
  generalize B.getD 1 0 = y1 at *
  have j1 := join_words x0 x1 la0 la1
  have j2 := join_words y0 y1 lb0 lb1
  rw [← eA] at j1
  rw [← eB] at j2
  have lx : natVal A < 18446744073709551616 := by omega
  have ly : natVal B < 18446744073709551616 := by omega
  generalize natVal A = X at *
  generalize natVal B = Y at *
  obtain ⟨Q, hQ⟩ : ∃ Q, Q = X / Y := ⟨_, rfl⟩
  obtain ⟨R, hR⟩ : ∃ R, R = X % Y := ⟨_, rfl⟩
  have qi : (X : Int) / (Y : Int) = (Q : Int) := by rw [hQ]; simp
  have ri : (X : Int) % (Y : Int) = (R : Int) := by rw [hR]; simp
  have rt : (X : Int).tmod (Y : Int) = (R : Int) := by rw [Int.tmod_eq_emod_of_nonneg (by omega)]; exact ri
  have lQ : Q < 18446744073709551616 := by rw [hQ]; exact Nat.lt_of_le_of_lt (Nat.div_le_self _ _) lx
  have lR : R < 18446744073709551616 := by rw [hR]; exact Nat.lt_of_le_of_lt (Nat.mod_le _ _) lx
  have hy0 : ¬ (Y : Int) = 0 := by omega
  have hy1 : ¬ Y = 0 := by omega
  obtain ⟨q0, hq0⟩ : ∃ q0, q0 = Q % 4294967296 := ⟨_, rfl⟩
  obtain ⟨q1, hq1⟩ : ∃ q1, q1 = Q / 4294967296 := ⟨_, rfl⟩
  obtain ⟨r0, hr0⟩ : ∃ r0, r0 = R % 4294967296 := ⟨_, rfl⟩
  obtain ⟨r1, hr1⟩ : ∃ r1, r1 = R / 4294967296 := ⟨_, rfl⟩
  have hQ2 := hid (show q0 + 4294967296 * q1 = X / Y by omega)
  have hR2 := hid (show r0 + 4294967296 * r1 = X % Y by omega)
  have e1 : (Q : Int) % 4294967296 = (q0 : Int) := by omega
  have e2 : (Q : Int) / 4294967296 = (q1 : Int) := by omega
  have e3 : (R : Int) % 4294967296 = (r0 : Int) := by omega
  have e4 : (R : Int) / 4294967296 = (r1 : Int) := by omega
  have e5 : IntKind.u32.wrap (Q : Int) = (q0 : Int) := by rw [← e1]; rfl
  have e6 : IntKind.u32.wrap (q1 : Int) = (q1 : Int) := by show (q1 : Int) % 4294967296 = _; omega
  have e7 : IntKind.u32.wrap (R : Int) = (r0 : Int) := by rw [← e3]; rfl
  have e8 : IntKind.u32.wrap (r1 : Int) = (r1 : Int) := by show (r1 : Int) % 4294967296 = _; omega
  have e9 : IntKind.u64.wrap (Q : Int) = (Q : Int) := by simp only [IntKind.wrap_u64]; omega
  have e10 : IntKind.u64.wrap (R : Int) = (R : Int) := by simp only [IntKind.wrap_u64]; omega
  have l0 : q0 < 4294967296 := by omega
  have l1 : q1 < 4294967296 := by omega
  have l2 : r0 < 4294967296 := by omega
  have l3 : r1 < 4294967296 := by omega
  clear h1 h2 eA eB hQ hR hq0 hq1 hr0 hr1
  go_enter Tryz.func174, Tryz.ntmps174
  go_upto_region 1 with (fail)
  rw [← hW]
  clear hW
  go_wp2_with fail
  refine Calls.mono HA0.out ?_
  rintro e w1 ⟨rfl, rfl⟩
  go_wp2_with fail
  refine Calls.mono HA1.out ?_
  rintro e w1 ⟨rfl, rfl⟩
  go_wp2_with fail
  refine Calls.mono HB0.out ?_
  rintro e w1 ⟨rfl, rfl⟩
  go_wp2_with fail
  refine Calls.mono HB1.out ?_
  rintro e w1 ⟨rfl, rfl⟩
  go_upto_region 4 with (fail)
  refine wp_region_rg 21 [some 32, some 33, some 34, some 35, some 36, some 37, some 38, some 39, some 40, some 41, some 42, some 43, some 44, some 45, some 46, some 47, some 48, some 49, some 50, some 51, some 52]
    [IsV (.int .u64 X), IsV (.int .u64 Y), IsV (.int .u64 Q), IsV (.int .u32 q0), IsV (.int .u64 X), IsV (.int .u64 Y), IsV (.int .u64 Q), IsV (.int .u64 q1), IsV (.int .u32 q1), IsWk 2 (q0 + 4294967296 * q1),
     IsV (.int .u64 X), IsV (.int .u64 Y), IsV (.int .u64 R), IsV (.int .u32 r0), IsV (.int .u64 X), IsV (.int .u64 Y), IsV (.int .u64 R), IsV (.int .u64 r1), IsV (.int .u32 r1), IsWk 2 (r0 + 4294967296 * r1), IsQt 2 (X / Y) (X % Y)] [] 1 (by kernel_rfl) (by decide) (by kernel_rfl) (by kernel_rfl) (by kernel_rfl) (by kernel_rfl) (by kernel_rfl) ?_ (fun _ h => by cases h) ?_ ?_
  · repeat' (first | exact trivial | exact IsV.stb _ | exact IsWk.stb _ _ | exact IsQt.stb _ _ _ | apply And.intro)
  · refine RgAll.cons (by { intro v w' hE hd; simp only [layL, Act.put, uAx, u0x, u1x, Nat.reduceAdd]; skip; skip; intro K hK; go_simp; exact hK.out _ _ (Ext.refl _) rfl (FreshIf.no rfl) }) ?_
    refine RgAll.cons (by { intro v w' hE hd; simp only [layL, Act.put, uAx, u0x, u1x, Nat.reduceAdd]; skip; skip; intro K hK; go_simp; exact hK.out _ _ (Ext.refl _) rfl (FreshIf.no rfl) }) ?_
    refine RgAll.cons (by { intro v w' hE hd; simp only [layL, Act.put, uAx, u0x, u1x, Nat.reduceAdd]; have d0 : v 0 = .int .u64 X := hd 0 (by kernel_rfl); have d1 : v 1 = .int .u64 Y := hd 1 (by kernel_rfl); rw [d0, d1]; intro K hK; go_simp; exact hK.out _ _ (Ext.refl _) rfl (FreshIf.no rfl) }) ?_
    refine RgAll.cons (by { intro v w' hE hd; simp only [layL, Act.put, uAx, u0x, u1x, Nat.reduceAdd]; have d0 : v 2 = .int .u64 Q := hd 2 (by kernel_rfl); rw [d0]; intro K hK; go_simp; exact hK.out _ _ (Ext.refl _) rfl (FreshIf.no rfl) }) ?_
    refine RgAll.cons (by { intro v w' hE hd; simp only [layL, Act.put, uAx, u0x, u1x, Nat.reduceAdd]; skip; skip; intro K hK; go_simp; exact hK.out _ _ (Ext.refl _) rfl (FreshIf.no rfl) }) ?_
    refine RgAll.cons (by { intro v w' hE hd; simp only [layL, Act.put, uAx, u0x, u1x, Nat.reduceAdd]; skip; skip; intro K hK; go_simp; exact hK.out _ _ (Ext.refl _) rfl (FreshIf.no rfl) }) ?_
    refine RgAll.cons (by { intro v w' hE hd; simp only [layL, Act.put, uAx, u0x, u1x, Nat.reduceAdd]; have d0 : v 4 = .int .u64 X := hd 4 (by kernel_rfl); have d1 : v 5 = .int .u64 Y := hd 5 (by kernel_rfl); rw [d0, d1]; intro K hK; go_simp; exact hK.out _ _ (Ext.refl _) rfl (FreshIf.no rfl) }) ?_
    refine RgAll.cons (by { intro v w' hE hd; simp only [layL, Act.put, uAx, u0x, u1x, Nat.reduceAdd]; have d0 : v 6 = .int .u64 Q := hd 6 (by kernel_rfl); rw [d0]; intro K hK; go_simp; exact hK.out _ _ (Ext.refl _) rfl (FreshIf.no rfl) }) ?_
    refine RgAll.cons (by { intro v w' hE hd; simp only [layL, Act.put, uAx, u0x, u1x, Nat.reduceAdd]; have d0 : v 7 = .int .u64 q1 := hd 7 (by kernel_rfl); rw [d0]; intro K hK; go_simp; exact hK.out _ _ (Ext.refl _) rfl (FreshIf.no rfl) }) ?_
    refine RgAll.cons (by { intro v w' hE hd; simp only [layL, Act.put, uAx, u0x, u1x, Nat.reduceAdd]; have d0 : v 3 = .int .u32 q0 := hd 3 (by kernel_rfl); have d1 : v 8 = .int .u32 q1 := hd 8 (by kernel_rfl); rw [d0, d1]; intro K hK; go_simp; exact hK.out _ _ ((Ext.refl _).alloc _) (IsWk.new2 w' q0 q1 l0 l1) (FreshIf.no rfl) }) ?_
    refine RgAll.cons (by { intro v w' hE hd; simp only [layL, Act.put, uAx, u0x, u1x, Nat.reduceAdd]; skip; skip; intro K hK; go_simp; exact hK.out _ _ (Ext.refl _) rfl (FreshIf.no rfl) }) ?_
    refine RgAll.cons (by { intro v w' hE hd; simp only [layL, Act.put, uAx, u0x, u1x, Nat.reduceAdd]; skip; skip; intro K hK; go_simp; exact hK.out _ _ (Ext.refl _) rfl (FreshIf.no rfl) }) ?_
    refine RgAll.cons (by { intro v w' hE hd; simp only [layL, Act.put, uAx, u0x, u1x, Nat.reduceAdd]; have d0 : v 10 = .int .u64 X := hd 10 (by kernel_rfl); have d1 : v 11 = .int .u64 Y := hd 11 (by kernel_rfl); rw [d0, d1]; intro K hK; go_simp; exact hK.out _ _ (Ext.refl _) rfl (FreshIf.no rfl) }) ?_
    refine RgAll.cons (by { intro v w' hE hd; simp only [layL, Act.put, uAx, u0x, u1x, Nat.reduceAdd]; have d0 : v 12 = .int .u64 R := hd 12 (by kernel_rfl); rw [d0]; intro K hK; go_simp; exact hK.out _ _ (Ext.refl _) rfl (FreshIf.no rfl) }) ?_
    refine RgAll.cons (by { intro v w' hE hd; simp only [layL, Act.put, uAx, u0x, u1x, Nat.reduceAdd]; skip; skip; intro K hK; go_simp; exact hK.out _ _ (Ext.refl _) rfl (FreshIf.no rfl) }) ?_
    refine RgAll.cons (by { intro v w' hE hd; simp only [layL, Act.put, uAx, u0x, u1x, Nat.reduceAdd]; skip; skip; intro K hK; go_simp; exact hK.out _ _ (Ext.refl _) rfl (FreshIf.no rfl) }) ?_
    refine RgAll.cons (by { intro v w' hE hd; simp only [layL, Act.put, uAx, u0x, u1x, Nat.reduceAdd]; have d0 : v 14 = .int .u64 X := hd 14 (by kernel_rfl); have d1 : v 15 = .int .u64 Y := hd 15 (by kernel_rfl); rw [d0, d1]; intro K hK; go_simp; exact hK.out _ _ (Ext.refl _) rfl (FreshIf.no rfl) }) ?_
    refine RgAll.cons (by { intro v w' hE hd; simp only [layL, Act.put, uAx, u0x, u1x, Nat.reduceAdd]; have d0 : v 16 = .int .u64 R := hd 16 (by kernel_rfl); rw [d0]; intro K hK; go_simp; exact hK.out _ _ (Ext.refl _) rfl (FreshIf.no rfl) }) ?_
    refine RgAll.cons (by { intro v w' hE hd; simp only [layL, Act.put, uAx, u0x, u1x, Nat.reduceAdd]; have d0 : v 17 = .int .u64 r1 := hd 17 (by kernel_rfl); rw [d0]; intro K hK; go_simp; exact hK.out _ _ (Ext.refl _) rfl (FreshIf.no rfl) }) ?_
    refine RgAll.cons (by { intro v w' hE hd; simp only [layL, Act.put, uAx, u0x, u1x, Nat.reduceAdd]; have d0 : v 13 = .int .u32 r0 := hd 13 (by kernel_rfl); have d1 : v 18 = .int .u32 r1 := hd 18 (by kernel_rfl); rw [d0, d1]; intro K hK; go_simp; exact hK.out _ _ ((Ext.refl _).alloc _) (IsWk.new2 w' r0 r1 l2 l3) (FreshIf.no rfl) }) ?_
    refine RgAll.cons (by { intro v w' hE hd; simp only [layL, Act.put, uAx, u0x, u1x, Nat.reduceAdd]; have d0 : IsWk 2 (q0 + 4294967296 * q1) (v 9) w' := hd 9 (by kernel_rfl); have d1 : IsWk 2 (r0 + 4294967296 * r1) (v 19) w' := hd 19 (by kernel_rfl); rw [hQ2.out] at d0; rw [hR2.out] at d1; obtain ⟨a9, n9, c9, x9, z0, h9⟩ := d0; obtain ⟨a8, n8, c8, x8, z1, h8⟩ := d1; rw [z0, z1]; intro K hK; go_simp; exact hK.out _ _ (Ext.refl _) ⟨_, _, rfl, ⟨_, _, _, _, rfl, h9⟩, ⟨_, _, _, _, rfl, h8⟩⟩ (FreshIf.no rfl) }) ?_
    exact RgAll.nil
  intro v w1 e1 hΦ _
  have d20 : IsQt 2 (X / Y) (X % Y) (v 20) w1 := hΦ 20 (by decide)
  obtain ⟨sa, sb, v20, ⟨a9, n9, c9, x9, rfl, h9⟩, ⟨a8, n8, c8, x8, rfl, h8⟩⟩ := d20
  have b4 := b4.out.ext e1
  have E := E.out.trans e1
  simp only [layL, Act.put, uAx, u0x, u1x, Nat.reduceAdd]
  rw [v20]
  clear v20 hΦ
  have F1 := b4.c0; have F2 := b4.c1; have F3 := b4.f0; have F4 := b4.f1
  refine wpAny_ready (rs := [21]) (by kernel_rfl) (by simp) (AllReady.cons rfl (fun K hK => ?_) AllReady.nil); go_simp; refine hK _ _ ?_; clear hK K
  clear F1 F2 F3 F4
  obtain ⟨w2, hW, b4, g4, x4, _⟩ := b4.put (.slice a9 n9 c9) (.slice a8 n8 c8) (NoWord.slice _ _ _) (NoWord.slice _ _ _)
  rw [← hW]; clear hW
  refine wpAny_done (by kernel_rfl) ?_ _
  have T0 := b4.c0
  have T1 := b4.c1
  go_wp2_with fail
  exact bodyPost_ret (v := .agg #[.slice a9 n9 c9, .slice a8 n8 c8]) (by simp [results, Tryz.results174, go_sem, T0, T1]) rfl ⟨_, rfl, x4 E (Nat.le_refl _), _, _, rfl, ⟨_, _, _, _, rfl, h9.1.gr g4, h9.2⟩, ⟨_, _, _, _, rfl, h8.1.gr g4, h8.2⟩⟩

theorem bits_lt (x y : Nat) (h : bitLen x < bitLen y) : x < y := by
  rcases Nat.eq_zero_or_pos y with h0 | h0
  · subst h0; simp [bitLen] at h
  · obtain ⟨k, h1, h2, _⟩ := bitLen_bounds y (by omega)
    rcases Nat.eq_zero_or_pos x with h3 | h3
    · omega
    · obtain ⟨j, h4, _, h6⟩ := bitLen_bounds x (by omega)
      have : 2 ^ (j + 1) ≤ 2 ^ k := Nat.pow_le_pow_right (by decide) (by omega)
      omega
theorem bits_ge (x y n : Nat) (hy : 0 < y) (h : bitLen x = bitLen y + n) : x < y * 2 ^ (n + 1) := by
  obtain ⟨k, h1, h2, _⟩ := bitLen_bounds y (by omega)
  rcases Nat.eq_zero_or_pos x with h3 | h3
  · subst h3; rw [h1] at h; simp [bitLen] at h; omega
  · obtain ⟨j, h4, _, h6⟩ := bitLen_bounds x (by omega)
    have e : j + 1 = k + (n + 1) := by omega
    rw [e, Nat.pow_add] at h6
    exact Nat.lt_of_lt_of_le h6 (Nat.mul_le_mul_right _ h2)
theorem bits_pos (x : Nat) (h : 0 < bitLen x) : 0 < x := by
  rcases Nat.eq_zero_or_pos x with h0 | h0
  · subst h0; simp [bitLen] at h
  · exact h0
theorem bits_size {w : World} {k n cap m : Nat} {ao : Option Addr} (h : NatAt w k ao n cap m) : bitLen m ≤ 32 * k := by
  obtain ⟨xs, hw, hk, hz, rfl⟩ := h
  rcases Nat.eq_zero_or_pos n with h0 | h0
  · have : xs = [] := List.eq_nil_of_length_eq_zero (by rw [hw.len]; exact h0)
    subst this
    simp [natVal, bitLen]
  · obtain ⟨j, rfl⟩ : ∃ j, n = j + 1 := ⟨n - 1, by omega⟩
    rw [bitLen_natVal xs j hw.len hw.lt (by simpa using hz (by omega))]
    have := (lib_bitLen (xs.getD j 0) (hw.lt j)).2
    omega

/-- The loop of divide: gk bits are still to come. -/
structure DvI (W : World) (b2 b3 n1 cr nq nd cd gr gq gd x y n : Nat) (i : Nat) (rs qs ds : List Nat) (wr : World) : Prop where
  r : Rw wr W.heap.size (.slice (some ⟨gr, 0, none⟩) n1 cr) rs
  rl : rs.length = n1
  q : Rw wr b2 (.slice (some ⟨gq, 0, none⟩) nq nq) qs
  ql : qs.length = nq
  d : Rw wr b3 (.slice (some ⟨gd, 0, none⟩) nd cd) ds
  dl : ds.length = nd
  m : DvS x y i n (natVal rs) (natVal qs)
  dv : ∀ j, i = j + 1 → natVal ds = y * 2 ^ j
  e : Ext W wr
theorem Rw.wd' {w : World} {base n cap : Nat} {ao : Option Addr} {xs : List Nat} (h : Rw w base (.slice ao n cap) xs) : Wd w ao n cap xs := h.1.wd h.2
theorem half_pow (y j : Nat) (v : Nat) (h : v = y * 2 ^ (j + 1)) : v / 2 = y * 2 ^ j := by
  rw [h, Nat.pow_succ, ← Nat.mul_assoc, Nat.mul_div_cancel _ (by decide)]

/-- The bit is put. -/
theorem put_word (o r : Nat) (hd : 2 ^ (r + 1) ∣ o) (ho : o + 2 ^ r < 4294967296) : bits .or .u32 (o : Int) ((2 ^ r : Nat) : Int) = ((o + 2 ^ r : Nat) : Int) := by
  have h := u32_or_nat o (2 ^ r) (by omega) (by omega)
  obtain ⟨t, ht⟩ := hd
  rw [nat_join (r + 1) o (2 ^ r) (by rw [ht]; exact Nat.mul_mod_right _ _) (by rw [Nat.pow_succ]; have : 0 < 2 ^ r := Nat.pos_of_ne_zero (by simp); omega)] at h
  exact h

set_option maxRecDepth 100000 in
set_option maxHeartbeats 4000000 in
theorem divide_big (w : World) (a1 a2 : Option Addr) (n1 n2 c1 c2 k1 k2 x y : Nat) (h1 : NatAt w k1 a1 n1 c1 x) (h2 : NatAt w k2 a2 n2 c2 y) (l1 : k1 ≤ 134217728) (l2 : k2 ≤ 134217728) (hy : 0 < y) (hs : ¬ (n1 ≤ 2 ∧ n2 ≤ 2)) :
    Calls Tryz.prog 174 #[.slice a1 n1 c1, .slice a2 n2 c2] w (Ret w (IsQt (k1 + 2) (x / y) (x % y))) := by
  obtain ⟨W, hW, b4, E⟩ : ∃ W, W = w.alloc (.cells #[.slice none 0 0, .slice none 0 0] 270) ∧ Qx W w.heap.size (.slice none 0 0) (.slice none 0 0) ∧ Ext w W :=
    ⟨_, rfl, ⟨by simp, by simp, by simp, by simp, NoWord.slice _ _ _, NoWord.slice _ _ _⟩, (Ext.refl w).alloc _⟩
  have hWs : W.heap.size = w.heap.size + 1 := by rw [hW]; simp
  have b4 := hid b4
  have HWS := hid hWs
  have I1 := hid (h1.ext E)
  have I2 := hid (h2.ext E)
  have E := hid E
  have hbx := bits_size h1
  have hby := bits_size h2
  have hle1 := h1.le
  have hle2 := h2.le
  obtain ⟨A, wA, _, _, vA⟩ := h1
  have HwA := hid (wA.ext E.out)
  have HlA := hid wA.len
  obtain ⟨B, wB, _, _, vB⟩ := h2
  have HwB := hid (wB.ext E.out)
  have HvA := hid vA
  have HvB := hid vB
  obtain ⟨p, hp⟩ : ∃ p, p = bitLen x := ⟨_, rfl⟩
  obtain ⟨q, hq⟩ : ∃ q, q = bitLen y := ⟨_, rfl⟩
  have HP := hid hp
  have HQ := hid hq
  rw [← hp] at hbx
  rw [← hq] at hby
  have Hcond : Hid (¬ (n1 ≤ 2 ∧ n2 ≤ 2)) := hid hs
  have hcond : (if (n1 : Int) ≤ 2 then decide ((n2 : Int) ≤ 2) else false) = false := by
    by_cases h : (n1 : Int) ≤ 2
    · rw [if_pos h]; simp; omega
    · rw [if_neg h]
  clear wA wB vA vB hp hq hWs hs hcond
  rcases Classical.em (n1 ≤ 2) with hn1 | hn1
  all_goals
    first
      | (have hn2 : ¬ n2 ≤ 2 := fun h => Hcond.out ⟨hn1, h⟩)
      | skip
    go_enter Tryz.func174, Tryz.ntmps174
    go_upto_region 1 with (fail)
    rw [← hW]
    clear hW
    go_upto_region 5 with (fail)
    go_wp2_with (at_builtin; go_must (refine wpl_app rfl _ _ rfl W.heap.size _ _ _ _ A rfl rfl (HwA.out.ext ((Ext.refl _).alloc _)) (by omega) (Rw.start W _ (Nat.le_refl _)) (by simp) ?_; intro v7 w2 e2 hr))
    have e2 := ((Ext.refl W).alloc _).trans e2
    have C1 := hid (RBits_c w2 false a1 n1 c1 k1 x ⟨x, I1.out.ext e2, fun _ => rfl, rfl⟩ (by omega))
    rw [show (x : Int).natAbs = x from rfl, ← HP.out] at C1
    have Hr := hid hr
    have He := hid e2
    clear hr e2
    refine Calls.mono C1.out ?_
    rintro e w3 ⟨rfl, e3⟩
    have C2 := hid (RBits_c w3 false a2 n2 c2 k2 y ⟨y, I2.out.ext (He.out.trans e3), fun _ => rfl, rfl⟩ (by omega))
    rw [show (y : Int).natAbs = y from rfl, ← HQ.out] at C2
    go_wp2_with fail
    refine Calls.mono C2.out ?_
    rintro e w4 ⟨rfl, e4⟩
    have He4 := hid (He.out.trans (e3.trans e4))
    have Hr4 := hid (Hr.out.ext (e3.trans e4))
    clear C1 C2 He Hr e3 e4
    have Hb4 := hid (b4.out.ext He4.out)
    have HE4 := hid (E.out.trans He4.out)
    by_cases hpq : p < q
    · have hlt := hid (bits_lt x y (by rw [← HP.out, ← HQ.out]; exact hpq))
      have hd0 : decide ((p : Int) - (q : Int) < 0) = true := by simp; omega
      have hd1 : ((p : Int) - (q : Int) < 0) := by omega
      have hd2 : (p : Int) < (q : Int) := by omega
      obtain ⟨ao, cr, rfl, hw⟩ := Hr4.out.wd
      have hk := HlA.out
      rw [hk] at hw
      have Hk := hid hk
      have Hw := hid hw
      rw [hk]
      clear hk hw
      have b5 := Hb4.out
      have F1 := b5.c0; have F2 := b5.c1; have F3 := b5.f0; have F4 := b5.f1
      go_wp2_with fail
      obtain ⟨w5, hW, b6, g6, x6, _⟩ := b5.put (.slice none 0 0) (.slice ao n1 cr) (NoWord.slice _ _ _) (NoWord.slice _ _ _)
      rw [← hW]; clear hW
      have T0 := b6.c0
      have T1 := b6.c1
      exact bodyPost_ret (v := .agg #[.slice none 0 0, .slice ao n1 cr]) (by simp [results, Tryz.results174, go_sem, T0, T1]) rfl ⟨_, rfl, x6 HE4.out (Nat.le_refl _), _, _, rfl, ⟨_, _, _, [], rfl, wd_nil _ _ _ (by omega), by omega, by rw [Nat.div_eq_of_lt hlt.out]; rfl⟩, ⟨_, _, _, A, rfl, Hw.out.gr g6, by omega, by rw [Nat.mod_eq_of_lt hlt.out]; exact HvA.out⟩⟩
    · obtain ⟨n, hn⟩ : ∃ n, p = q + n := ⟨p - q, by omega⟩
      have hM := hid (bits_ge x y n hy (by rw [← HP.out, ← HQ.out]; exact hn))
      have hq0 : 0 < q := by
        rw [HQ.out]; obtain ⟨k, h1, _⟩ := bitLen_bounds y (by omega); omega
      have hx0 : 0 < x := bits_pos x (by rw [← HP.out]; omega)
      have hAne : A ≠ [] := by
        intro h
        have h9 := HvA.out
        rw [h] at h9
        simp [natVal] at h9
        omega
      have hBne : 0 < n2 := by
        rcases Nat.eq_zero_or_pos n2 with h | h
        · have h9 := HwB.out.len
          have h8 := HvB.out
          have hBn : B = [] := List.eq_nil_of_length_eq_zero (by rw [h9]; exact h)
          rw [hBn] at h8
          simp [natVal] at h8; omega
        · exact h
      obtain ⟨ao, cr, rfl, hg, _, _⟩ := Hr4.out.shape
      obtain ⟨gr, rfl, hg1, hg2⟩ := hg hAne
      rw [HlA.out] at Hr4
      rw [HlA.out]
      clear hg hAne
      have hpn : (p : Int) - (q : Int) = (n : Int) := by omega
      have hpn0 : decide ((p : Int) - (q : Int) < 0) = false := by simp; omega
      have hnl : n ≤ 4294967296 := by omega
      have hwp : wrap64 ((p : Int) - (q : Int)) = (n : Int) := by simp only [wrap64]; omega
      clear hpn0 hpq hn
      go_wp2_with (at_make; refine wpl_make rfl _ _ _ rfl (by kernel_rfl) _ _ (n / 32 + 1) rfl rfl (by omega) (by omega) (by omega) ?_; intro w5 e5 z5 o5)
      have Hq5 := hid (Rw.own (base := w4.heap.size) o5 (Nat.le_refl _) (fun i => by rw [getD_zeros]; omega) (by simp; omega))
      rw [List.length_replicate] at Hq5
      have C3 := hid (left_wd w5 a2 n2 c2 n B (HwB.out.ext (He4.out.trans e5)) (by omega) (by omega))
      have Hr5 := hid (Hr4.out.ext e5)
      have He5 := hid (He4.out.trans e5)
      obtain ⟨gq, hgq⟩ : ∃ gq, gq = w4.heap.size := ⟨_, rfl⟩
      rw [← hgq] at Hq5
      rw [← hgq]
      have hgrq : gr < gq := by rw [hgq]; exact hg2
      have hg5 : gq < w5.heap.size := by rw [hgq]; exact z5
      clear e5 z5 o5 Hr4 He4 Hb4 HE4 hg2 hgq
      refine Calls.mono C3.out ?_
      rintro e w6 ⟨v10, rfl, e6, ds, hd, hdv, hdl⟩
      have hdne : ds ≠ [] := by intro h; rw [h] at hdl; simp at hdl
      obtain ⟨ao, nd, rfl, hg, _, _⟩ := hd.shape
      obtain ⟨gd, rfl, hg3, hg4⟩ := hg hdne
      clear hdne
      clear hg
      obtain ⟨m, hm⟩ : ∃ m, m = ds.length := ⟨_, rfl⟩
      rw [← hm] at hd hdl
      rw [← hm]
      have hgqd : gq < gd := by omega
      obtain ⟨b3, hb3⟩ : ∃ b3, b3 = w5.heap.size := ⟨_, rfl⟩
      rw [← hb3] at hd hg3
      have hml : m ≤ 1073741824 := by omega
      have J0 := hid (show DvI W gq b3 n1 cr (n / 32 + 1) m nd gr gq gd x y n (n + 1) A (List.replicate (n / 32 + 1) 0) ds w6 from
        ⟨Hr5.out.ext e6, HlA.out, Hq5.out.ext e6, by simp, hd, hm.symm, by rw [HvA.out, natVal_zeros]; exact DvS.start hM.out, fun j hj => by rw [hdv, HvB.out, Nat.mul_comm]; congr 2; omega, He5.out.trans e6⟩)
      clear Hr5 He5 Hq5 C3 e6 hd hdv hdl hm hb3 hg4 hg5
      obtain ⟨Nq, hNq⟩ : ∃ N, N = n / 32 + 1 := ⟨_, rfl⟩
      rw [← hNq] at J0 ⊢
      have HNq := hid hNq
      have hNl : Nq ≤ 134217729 := by omega
      clear hNq
      go_wp2_with fail
      go_loopg [11] (n + 1) (fun gk v11 wr => ∃ rs qs ds, v11 = .int .i64 ((gk : Int) - 1) ∧ gk ≤ n + 1 ∧ Hid (DvI W gq b3 n1 cr Nq m nd gr gq gd x y n gk rs qs ds wr))
      case atStart => exact ⟨_, _, _, by go_must (congr 1; omega), Nat.le_refl _, J0⟩
      case round =>
        clear J0
        obtain ⟨rs, qs, ds2, rfl, hgl, J⟩ := hrel
        rcases Nat.eq_zero_or_pos gk with hg | hg
        · subst hg
          have hm := hid (J.out.m.fin)
          have Hr := hid J.out.r.wd'
          have Hq := hid J.out.q.wd'
          have hb := b4.out.ext J.out.e
          have HE := hid (E.out.trans J.out.e)
          clear J
          rw [show ((0 : Nat) : Int) - 1 = -1 by omega]
          have F1 := hb.c0; have F2 := hb.c1; have F3 := hb.f0; have F4 := hb.f1
          go_wp2_with fail
          obtain ⟨w7, hW, b6, g6, x6, _⟩ := hb.put (.slice (some ⟨gq, 0, none⟩) Nq Nq) (.slice (some ⟨gr, 0, none⟩) n1 cr) (NoWord.slice _ _ _) (NoWord.slice _ _ _)
          rw [← hW]; clear hW
          have T0 := b6.c0
          have T1 := b6.c1
          exact bodyPost_ret (v := .agg #[.slice (some ⟨gq, 0, none⟩) Nq Nq, .slice (some ⟨gr, 0, none⟩) n1 cr]) (by simp [results, Tryz.results174, go_sem, T0, T1]) rfl ⟨_, rfl, x6 HE.out (Nat.le_refl _), _, _, rfl, ⟨_, _, _, qs, rfl, Hq.out.gr g6, by have := HNq.out; omega, hm.out.1⟩, ⟨_, _, _, rs, rfl, Hr.out.gr g6, by omega, hm.out.2⟩⟩
        · obtain ⟨i, rfl⟩ : ∃ i, gk = i + 1 := ⟨gk - 1, by omega⟩
          rw [show ((i + 1 : Nat) : Int) - 1 = (i : Int) by omega]
          have hdv := J.out.dv i rfl
          have CR := hid (reaches_c wr _ _ n1 m cr nd rs ds2 J.out.r.wd' J.out.d.wd' (by omega) (by omega))
          have hil : i ≤ n := by omega
          obtain ⟨qi, hqi⟩ : ∃ qi, qi = i / 32 := ⟨_, rfl⟩
          obtain ⟨ri, hri⟩ : ∃ ri, ri = i % 32 := ⟨_, rfl⟩
          have hq1 : (i : Int) / 32 = (qi : Int) := by omega
          have hr1 : (i : Int) % 32 = (ri : Int) := by omega
          have hr32 : ri < 32 := by omega
          have hqN : qi < Nq := by have := HNq.out; omega
          have HQI := hid hqi
          have HRI := hid hri
          clear hqi hri hg hgl
          rcases Nat.lt_or_ge (natVal rs) (natVal ds2) with hge | hge
          · have hdec : decide (natVal ds2 ≤ natVal rs) = false := by simp; omega
            rw [hdec] at CR
            have hM2 := hid (J.out.m.no (by rw [← hdv]; exact hge))
            clear hdec hge hdv
            go_wp2_with fail
            refine Calls.mono CR.out ?_
            rintro e w1 ⟨rfl, e1⟩
            have CH := hid (half_c w1 b3 gd nd ds2 (by rw [J.out.dl]; exact J.out.d.ext e1) (by rw [J.out.dl]; omega))
            rw [J.out.dl] at CH
            have J1 := hid (And.intro J.out e1)
            clear J CR e1
            go_wp2_with fail
            refine Calls.mono CH.out ?_
            rintro e w2 ⟨rfl, u2, ds3, hd3, hl3, hv3⟩
            have J' := hid (show DvI W gq b3 n1 cr Nq m nd gr gq gd x y n i rs qs ds3 w2 from
              ⟨(J1.out.1.r.ext J1.out.2).upd u2 (by intro b n c hb; simp only [Value.slice.injEq, Option.some.injEq, Addr.mk.injEq, and_true] at hb; omega), J1.out.1.rl, (J1.out.1.q.ext J1.out.2).upd u2 (by intro b n c hb; simp only [Value.slice.injEq, Option.some.injEq, Addr.mk.injEq, and_true] at hb; omega), J1.out.1.ql, hd3, hl3, hM2.out, fun j hj => by subst hj; exact hv3 ▸ half_pow y j _ (J1.out.1.dv _ rfl), u2.ext (J1.out.1.e.trans J1.out.2) (by omega)⟩)
            clear J1 CH u2 hd3 hl3 hv3 hM2
            go_wp2_with fail
            go_roundg i
            case measure => omega
            case rel => exact ⟨_, _, _, rfl, by omega, J'⟩
          · have hdec : decide (natVal ds2 ≤ natVal rs) = true := by simp; omega
            rw [hdec] at CR
            have hM2 := hid (J.out.m.yes (by rw [← hdv]; exact hge))
            have hM0 := hid (J.out.m.2.2.1)
            rw [← hdv] at hM2
            have HGE := hid hge
            clear hdec hge hdv
            go_wp2_with fail
            refine Calls.mono CR.out ?_
            rintro e w1 ⟨rfl, e1⟩
            have CT := hid (take_c w1 W.heap.size gr n1 cr m nd (some ⟨gd, 0, none⟩) rs ds2 (J.out.r.ext e1) J.out.rl (J.out.d.ext e1).wd' (fun b off h => by simp only [Option.some.injEq, Addr.mk.injEq] at h; omega) (by omega) HGE.out)
            have J1 := hid (And.intro J.out e1)
            clear J CR e1
            go_wp2_with fail
            refine Calls.mono CT.out ?_
            rintro e w2 ⟨rfl, u2, rs2, hr2, hl2, hv2⟩
            have Hq2 := hid ((J1.out.1.q.ext J1.out.2).upd u2 (by intro b n c hb; simp only [Value.slice.injEq, Option.some.injEq, Addr.mk.injEq, and_true] at hb; omega))
            have Hd2 := hid ((J1.out.1.d.ext J1.out.2).upd u2 (by intro b n c hb; simp only [Value.slice.injEq, Option.some.injEq, Addr.mk.injEq, and_true] at hb; omega))
            have HE2 := hid (u2.ext (J1.out.1.e.trans J1.out.2) hg1)
            have Hr2 := hid hr2
            have Hl2 := hid hl2
            have Hv2 := hid hv2
            obtain ⟨o, ho, hod, hol, hor, hos⟩ := bit_put (ys := qs) (i := i) J1.out.1.q.2 hM0.out (by rw [J1.out.1.ql, ← HQI.out]; exact hqN)
            rw [← HQI.out] at ho hos
            rw [← HRI.out] at hod hor hos
            have hcell := Hq2.out.cell qi (by rw [J1.out.1.ql]; exact hqN)
            rw [ho] at hcell
            have hfree := Hq2.out.free qi
            have hpw := put_word o ri hod hor
            obtain ⟨P, hP⟩ : ∃ P : Nat, P = 2 ^ ri := ⟨_, rfl⟩
            have hPi : (2 : Int) ^ ri = (P : Int) := by rw [hP, Int.natCast_pow]; rfl
            rw [← hP] at hpw hor hos
            have hPl : (P : Int) < 4294967296 := by omega
            have HOS := hid hos
            obtain ⟨O, hO⟩ : ∃ O, O = o + P := ⟨_, rfl⟩
            rw [← hO] at hpw hor hos HOS
            clear hr2 hl2 hv2 u2 hP CT hos ho hod
            go_wp2_with fail
            rw [show ((o : Int) + (P : Int)) = (O : Int) by omega]
            have u3 := Upd.set gq qi w2 (.int .u32 (O : Int))
            have Hq3 := hid (Hq2.out.put qi O (by rw [J1.out.1.ql]; exact hqN) (by omega))
            have hl3 : (qs.set qi O).length = Nq := by rw [List.length_set]; exact J1.out.1.ql
            obtain ⟨w3, hW3⟩ : ∃ w3, w3 = w2.setCell ⟨gq, qi, none⟩ (.int .u32 (O : Int)) := ⟨_, rfl⟩
            rw [← hW3] at u3 Hq3 ⊢
            have Hd3 := hid (Hd2.out.upd u3 (by intro b n c hb; simp only [Value.slice.injEq, Option.some.injEq, Addr.mk.injEq, and_true] at hb; omega))
            have Hr3 := hid (Hr2.out.upd u3 (by intro b n c hb; simp only [Value.slice.injEq, Option.some.injEq, Addr.mk.injEq, and_true] at hb; omega))
            have HE3 := hid (u3.ext HE2.out (by omega))
            have CH := hid (half_c w3 b3 gd nd ds2 (by rw [J1.out.1.dl]; exact Hd3.out) (by rw [J1.out.1.dl]; omega))
            rw [J1.out.1.dl] at CH
            have HL3 := hid hl3
            clear hW3 u3 hcell hfree Hd2 Hr2 HE2 Hq2 hl3 hpw hPi hPl hO
            refine Calls.mono CH.out ?_
            rintro e w4 ⟨rfl, u4, ds3, hd4, hl4, hv4⟩
            have J' := hid (show DvI W gq b3 n1 cr Nq m nd gr gq gd x y n i rs2 (qs.set qi O) ds3 w4 from
              ⟨Hr3.out.upd u4 (by intro b n c hb; simp only [Value.slice.injEq, Option.some.injEq, Addr.mk.injEq, and_true] at hb; omega), Hl2.out, Hq3.out.upd u4 (by intro b n c hb; simp only [Value.slice.injEq, Option.some.injEq, Addr.mk.injEq, and_true] at hb; omega), HL3.out, hd4, hl4, by rw [Hv2.out, HOS.out]; exact hM2.out, fun j hj => by subst hj; exact hv4 ▸ half_pow y j _ (J1.out.1.dv _ rfl), u4.ext HE3.out (by omega)⟩)
            clear J1 CH u4 hd4 hl4 hv4 hM2 Hr3 Hq3 Hd3 HE3 HL3
            go_wp2_with fail
            go_roundg i
            case measure => omega
            case rel => exact ⟨_, _, _, rfl, by omega, J'⟩

theorem divide_c (w : World) (a1 a2 : Option Addr) (n1 n2 c1 c2 k1 k2 x y : Nat) (h1 : NatAt w k1 a1 n1 c1 x) (h2 : NatAt w k2 a2 n2 c2 y) (l1 : k1 ≤ 134217728) (l2 : k2 ≤ 134217728) (hy : 0 < y) :
    Calls Tryz.prog 174 #[.slice a1 n1 c1, .slice a2 n2 c2] w (Ret w (IsQt (k1 + 2) (x / y) (x % y))) := by
  by_cases hs : n1 ≤ 2 ∧ n2 ≤ 2
  · obtain ⟨A, wA, _, _, rfl⟩ := h1
    obtain ⟨B, wB, _, _, rfl⟩ := h2
    refine (divide_small w a1 a2 n1 n2 c1 c2 A B wA wB hs.1 hs.2 hy).mono ?_
    rintro e w' ⟨v, rfl, e1, a, b, rfl, ⟨a9, n9, c9, x9, rfl, h9⟩, ⟨a8, n8, c8, x8, rfl, h8⟩⟩
    exact ⟨_, rfl, e1, _, _, rfl, ⟨_, _, _, _, rfl, h9.1, by omega, h9.2.2⟩, ⟨_, _, _, _, rfl, h8.1, by omega, h8.2.2⟩⟩
  · exact divide_big w a1 a2 n1 n2 c1 c2 k1 k2 x y h1 h2 l1 l2 hy hs
end Go.Proofs.YtkeikfekkdplgaaGreatDoor
