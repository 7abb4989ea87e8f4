/-
  The reference package: take, half (in place), divide. Every two slices of words of at most 2^28 words, the second not 0.
-/
import Derived.Test.YtkeikfekkdplgaaGreatDoorRInt
namespace Go.Proofs.YtkeikfekkdplgaaGreatDoor
open Go Go.RowKit

/-- What the loop of half keeps. -/
def HfI (w : World) (base g cap : Nat) (A : List Nat) (gk : Nat) (v2 : Value) (wr : World) : Prop :=
  ∃ (ys : List Nat) (j : Nat), v2 = .int .i64 (j : Int) ∧ j + gk = A.length ∧ Rw wr base (.slice (some ⟨g, 0, none⟩) A.length cap) ys ∧ HalfS A ys j ∧ Upd g w wr

set_option maxRecDepth 100000 in
set_option maxHeartbeats 1000000 in
theorem half_c (w : World) (base g cap : Nat) (A : List Nat) (h : Rw w base (.slice (some ⟨g, 0, none⟩) A.length cap) A) (hl : A.length ≤ 2147483648) :
    Calls Tryz.prog 211 #[.slice (some ⟨g, 0, none⟩) A.length cap] w (fun e w' => e = .returned (.tuple #[]) ∧ Upd g w w' ∧ ∃ ys, Rw w' base (.slice (some ⟨g, 0, none⟩) A.length cap) ys ∧ ys.length = A.length ∧ natVal ys = natVal A / 2) := by
  have HA := hid h.2
  have I0 := hid (show HfI w base g cap A A.length (.int .i64 0) w from ⟨A, 0, rfl, by omega, h, HalfS.start h.2, Upd.refl _ _⟩)
  obtain ⟨n, hn⟩ : ∃ n, n = A.length := ⟨_, rfl⟩
  have Hn := hid hn
  rw [← hn] at I0 hl
  unfold HfI at I0
  rw [← hn] at I0 ⊢
  clear h hn
  go_enter Tryz.func211, Tryz.ntmps211
  go_wp2_with fail
  go_loopg [2] n (fun gk v2 wr => Hid (∃ (ys : List Nat) (j : Nat), v2 = .int .i64 (j : Int) ∧ j + gk = n ∧ Rw wr base (.slice (some ⟨g, 0, none⟩) n cap) ys ∧ HalfS A ys j ∧ Upd g w wr))
  case atStart => exact I0
  case round =>
    clear I0
    obtain ⟨ys, j, rfl, hj, hr, hs, hu⟩ := hrel.out
    clear hrel
    have hyl := hs.1
    by_cases hjn : j < n
    · obtain ⟨e1, e2, hst⟩ := hs.step (by have := Hn.out; omega) HA.out
      obtain ⟨ao, c9, hv, hw⟩ := hr.wd
      simp only [Value.slice.injEq] at hv
      obtain ⟨rfl, hln, rfl⟩ := hv
      rw [← hln] at hw
      have W1 := hid (word_c wr _ _ _ ys hw j (by omega))
      have W2 := hid (word_c wr _ _ _ ys hw (j + 1) (by omega))
      rw [e1] at W1
      rw [e2] at W2
      have hcell := hr.cell j (by omega)
      have hfree := hr.free j
      have hxl := HA.out j
      have hyl2 := HA.out (j + 1)
      generalize A.getD j 0 = x at *
      generalize A.getD (j + 1) 0 = y at *
      obtain ⟨u, hu9⟩ : ∃ u, u = x / 2 + y % 2 * 2147483648 := ⟨_, rfl⟩
      rw [← hu9] at hst
      have hul : u < 4294967296 := by omega
      have hor : bits .or .u64 ((x : Int) / 2) ((y : Int) * 2147483648) = ((x / 2 + y * 2147483648 : Nat) : Int) := by
        have h := u64_or_nat (x / 2) (y * 2147483648) (by omega) (by omega)
        have h31 : (2 : Nat) ^ 31 = 2147483648 := by decide
        have h2 := nat_join 31 (y * 2147483648) (x / 2) (by rw [h31]; omega) (by rw [h31]; omega)
        rw [Nat.or_comm, h2, Nat.add_comm] at h
        rw [← h]; simp
      have hum := hid (show ((x : Int) / 2 + (y : Int) * 2147483648) % 4294967296 = (u : Int) by omega)
      have J' : Hid (∃ (ys : List Nat) (j' : Nat), (Value.int .i64 ((j : Int) + 1)) = .int .i64 (j' : Int) ∧ j' + (gk - 1) = n ∧ Rw (wr.setCell ⟨g, j, none⟩ (.int .u32 (u : Int))) base (.slice (some ⟨g, 0, none⟩) n cap) ys ∧ HalfS A ys j' ∧ Upd g w (wr.setCell ⟨g, j, none⟩ (.int .u32 (u : Int)))) :=
        hid ⟨ys.set j u, j + 1, rfl, by omega, hr.put j u (by omega) hul, hst, hu.trans (Upd.set g j wr _)⟩
      have hgj : gk - 1 < gk := by omega
      clear hst hs hr hw e1 e2 hu hu9 hln hyl
      go_wp2_with fail
      refine Calls.mono W1.out ?_
      rintro e w1 ⟨rfl, rfl⟩
      go_wp2_with fail
      refine Calls.mono W2.out ?_
      rintro e w1 ⟨rfl, rfl⟩
      go_wp2_with fail
      go_roundg (gk - 1)
      case measure => exact hgj
      case rel => rw [hum.out]; exact J'
    · obtain rfl : j = n := by omega
      have hs2 := hs
      rw [Hn.out] at hs2
      have hfin := hid hs2.fin
      have Hr := hid hr
      have Hu := hid hu
      have Hy := hid hyl
      clear hs hs2 hr hu hyl
      go_wp2_with fail
      go_end0
      exact ⟨rfl, Hu.out, _, Hr.out, Hy.out.trans Hn.out.symm, hfin.out⟩

/-- What the loop of take keeps. -/
def TkI (w : World) (base g n cap : Nat) (A B : List Nat) (gk : Nat) (v4 v5 : Value) (wr : World) : Prop :=
  ∃ (ys : List Nat) (j c : Nat), v4 = .int .u64 (c : Int) ∧ v5 = .int .i64 (j : Int) ∧ j + gk = n ∧ Rw wr base (.slice (some ⟨g, 0, none⟩) n cap) ys ∧ TakeS A B ys j c ∧ Upd g w wr

set_option maxRecDepth 100000 in
set_option maxHeartbeats 1000000 in
theorem take_c (w : World) (base g n cap n2 c2 : Nat) (a2 : Option Addr) (A B : List Nat) (h : Rw w base (.slice (some ⟨g, 0, none⟩) n cap) A) (hn : A.length = n) (h2 : Wd w a2 n2 c2 B) (hne : ∀ b off, a2 = some ⟨b, off, none⟩ → b ≠ g) (hl : n ≤ 2147483648) (hle : natVal B ≤ natVal A) :
    Calls Tryz.prog 210 #[.slice (some ⟨g, 0, none⟩) n cap, .slice a2 n2 c2] w (fun e w' => e = .returned (.tuple #[]) ∧ Upd g w w' ∧ ∃ ys, Rw w' base (.slice (some ⟨g, 0, none⟩) n cap) ys ∧ ys.length = n ∧ natVal ys = natVal A - natVal B) := by
  have HA := hid h.2
  have HB := hid h2.lt
  have HW2 := hid h2
  have HN := hid hn
  have HNE := hid hne
  have HLE := hid hle
  have I0 := hid (show TkI w base g n cap A B n (.int .u64 0) (.int .i64 0) w from ⟨A, 0, 0, rfl, rfl, by omega, h, TakeS.start B h.2, Upd.refl _ _⟩)
  clear h hn h2 hne hle
  go_enter Tryz.func210, Tryz.ntmps210
  go_wp2_with fail
  go_loopg [4, 5] n (fun gk v4 v5 wr => Hid (TkI w base g n cap A B gk v4 v5 wr))
  case atStart => exact I0
  case round =>
    clear I0
    obtain ⟨ys, j, c, rfl, rfl, hj, hr, hs, hu⟩ := hrel.out
    clear hrel
    have hc1 := hs.2.2.2.2
    by_cases hjn : j < n
    · obtain ⟨e1, hst⟩ := hs.step (by have := HN.out; omega) HA.out HB.out
      have hyl : j < ys.length := by have h1 := hs.1; have h2 := HN.out; omega
      have hcell := hr.cell j hyl
      rw [e1] at hcell
      have hfree := hr.free j
      have W2 := hid (HW2.out.upd hu HNE.out)
      have hxl := HA.out j
      have hyl2 := HB.out j
      have HC := hid (fun (w9 : World) (e9 : Ext wr w9) => word_c w9 a2 n2 c2 B (W2.out.ext e9) j (by omega))
      generalize A.getD j 0 = x at *
      generalize B.getD j 0 = y at *
      obtain ⟨t, ht⟩ : ∃ t, t = 4294967296 + x - y - c := ⟨_, rfl⟩
      rw [← ht] at hst
      have ht1 : (4294967296 : Int) + (x : Int) - (y : Int) - (c : Int) = (t : Int) := by omega
      have ht2 : t < 8589934592 := by omega
      have ht3 : ((t : Int) / 4294967296) ≤ 1 := by omega
      have HR := hid hr
      have HST := hid hst
      have HU := hid hu
      have HYL := hid hyl
      have hgj : gk - 1 < gk := by omega
      have hw1 : IntKind.u64.wrap (x : Int) = x := by simp only [IntKind.wrap_u64]; omega
      have hw2 : IntKind.u64.wrap (4294967296 + (x : Int)) = 4294967296 + x := by simp only [IntKind.wrap_u64]; omega
      have hw3 : IntKind.u64.wrap (4294967296 + (x : Int) - y) = 4294967296 + x - y := by simp only [IntKind.wrap_u64]; omega
      have hw4 : IntKind.u64.wrap (t : Int) = t := by simp only [IntKind.wrap_u64]; omega
      clear hr hs hst hu e1 ht hyl
      go_wp2_with fail
      refine wp_region_rg 13 [some 13, some 14, some 15, some 16, some 17, some 18, some 19, some 20, some 21, some 22, some 23, some 24, some 6]
        [IsV (.slice (some ⟨g, 0, none⟩) n cap), IsV (.int .i64 j), IsV (.pointer (some ⟨g, j, none⟩)), IsV (.int .u32 x), IsV (.int .u64 x), IsV (.int .u64 (4294967296 + x)), IsV (.slice a2 n2 c2), IsV (.int .i64 j), IsV (.int .u64 y),
         IsV (.int .u64 (4294967296 + x - y)), IsV (.int .u64 c), IsV (.int .u64 t), IsV (.int .u64 t)] [] 0 (by kernel_rfl) (by decide) (by kernel_rfl) (by kernel_rfl) (by kernel_rfl) (by kernel_rfl) (by kernel_rfl) ?_ (fun _ h => by cases h) ?_ ?_
      · repeat' (first | exact trivial | exact IsV.stb _ | exact IsI.stb _ _ | exact IsB.stb _ | apply And.intro)
      · refine RgAll.cons (by { intro v w' hE hd; simp only [layL, Act.put, uAx, u0x, u1x, Nat.reduceAdd]; skip; skip; intro K hK; go_simp; exact hK.out _ _ (Ext.refl _) rfl (FreshIf.no rfl) }) ?_
        refine RgAll.cons (by { intro v w' hE hd; simp only [layL, Act.put, uAx, u0x, u1x, Nat.reduceAdd]; skip; skip; intro K hK; go_simp; exact hK.out _ _ (Ext.refl _) rfl (FreshIf.no rfl) }) ?_
        refine RgAll.cons (by { intro v w' hE hd; simp only [layL, Act.put, uAx, u0x, u1x, Nat.reduceAdd]; have d0 : v 0 = .slice (some ⟨g, 0, none⟩) n cap := hd 0 (by kernel_rfl); have d1 : v 1 = .int .i64 j := hd 1 (by kernel_rfl); rw [d0, d1]; intro K hK; go_simp; exact hK.out _ _ (Ext.refl _) rfl (FreshIf.no rfl) }) ?_
        refine RgAll.cons (by { intro v w' hE hd; simp only [layL, Act.put, uAx, u0x, u1x, Nat.reduceAdd]; have d0 : v 2 = .pointer (some ⟨g, j, none⟩) := hd 2 (by kernel_rfl); have L0 := hE.cell hcell; rw [d0]; intro K hK; go_simp; exact hK.out _ _ (Ext.refl _) rfl (FreshIf.no rfl) }) ?_
        refine RgAll.cons (by { intro v w' hE hd; simp only [layL, Act.put, uAx, u0x, u1x, Nat.reduceAdd]; have d0 : v 3 = .int .u32 x := hd 3 (by kernel_rfl); rw [d0]; intro K hK; go_simp; exact hK.out _ _ (Ext.refl _) rfl (FreshIf.no rfl) }) ?_
        refine RgAll.cons (by { intro v w' hE hd; simp only [layL, Act.put, uAx, u0x, u1x, Nat.reduceAdd]; have d0 : v 4 = .int .u64 x := hd 4 (by kernel_rfl); rw [d0]; intro K hK; go_simp; exact hK.out _ _ (Ext.refl _) rfl (FreshIf.no rfl) }) ?_
        refine RgAll.cons (by { intro v w' hE hd; simp only [layL, Act.put, uAx, u0x, u1x, Nat.reduceAdd]; skip; skip; intro K hK; go_simp; exact hK.out _ _ (Ext.refl _) rfl (FreshIf.no rfl) }) ?_
        refine RgAll.cons (by { intro v w' hE hd; simp only [layL, Act.put, uAx, u0x, u1x, Nat.reduceAdd]; skip; skip; intro K hK; go_simp; exact hK.out _ _ (Ext.refl _) rfl (FreshIf.no rfl) }) ?_
        refine RgAll.cons (by { intro v w' hE hd; simp only [layL, Act.put, uAx, u0x, u1x, Nat.reduceAdd]; have d0 : v 6 = .slice a2 n2 c2 := hd 6 (by kernel_rfl); have d1 : v 7 = .int .i64 j := hd 7 (by kernel_rfl); rw [d0, d1]; intro K hK; go_simp; go_at_call 94; go_split_ands; (with_reducible refine Calls.mono (HC.out w' hE) ?_); rintro e w2 ⟨rfl, rfl⟩; exact hK.out _ _ (Ext.refl _) rfl (FreshIf.no rfl) }) ?_
        refine RgAll.cons (by { intro v w' hE hd; simp only [layL, Act.put, uAx, u0x, u1x, Nat.reduceAdd]; have d0 : v 5 = .int .u64 (4294967296 + x) := hd 5 (by kernel_rfl); have d1 : v 8 = .int .u64 y := hd 8 (by kernel_rfl); rw [d0, d1]; intro K hK; go_simp; exact hK.out _ _ (Ext.refl _) rfl (FreshIf.no rfl) }) ?_
        refine RgAll.cons (by { intro v w' hE hd; simp only [layL, Act.put, uAx, u0x, u1x, Nat.reduceAdd]; skip; skip; intro K hK; go_simp; exact hK.out _ _ (Ext.refl _) rfl (FreshIf.no rfl) }) ?_
        refine RgAll.cons (by { intro v w' hE hd; simp only [layL, Act.put, uAx, u0x, u1x, Nat.reduceAdd]; have d0 : v 9 = .int .u64 (4294967296 + x - y) := hd 9 (by kernel_rfl); have d1 : v 10 = .int .u64 c := hd 10 (by kernel_rfl); rw [d0, d1]; intro K hK; go_simp; exact hK.out _ _ (Ext.refl _) rfl (FreshIf.no rfl) }) ?_
        refine RgAll.cons (by { intro v w' hE hd; simp only [layL, Act.put, uAx, u0x, u1x, Nat.reduceAdd]; have d0 : v 11 = .int .u64 t := hd 11 (by kernel_rfl); rw [d0]; intro K hK; go_simp; exact hK.out _ _ (Ext.refl _) rfl (FreshIf.no rfl) }) ?_
        exact RgAll.nil
      intro v w1 e1 hΦ _
      have v12 : v 12 = .int .u64 t := hΦ 12 (by decide)
      simp only [layL, Act.put, uAx, u0x, u1x, Nat.reduceAdd]
      rw [v12]
      clear v12 hΦ
      refine wpAny_done (by kernel_rfl) ?_ 0
      have hcell := e1.cell hcell
      have HU1 := hid (HU.out.trans (Upd.of e1 (Nat.le_of_lt (World.block_lt_of_cell? wr ⟨g, j, none⟩ (by assumption)))))
      have HR1 := hid (HR.out.ext e1)
      have hfree := HR1.out.free j
      obtain ⟨u, hu9⟩ : ∃ u, u = t % 4294967296 := ⟨_, rfl⟩
      rw [← hu9] at HST
      have hul : u < 4294967296 := by omega
      have hut := hid (show (t : Int) % 4294967296 = (u : Int) by omega)
      have hcc := hid (show (1 - (t : Int) / 4294967296) = ((1 - t / 4294967296 : Nat) : Int) by omega)
      have J' : Hid (TkI w base g n cap A B (gk - 1) (.int .u64 ((1 - t / 4294967296 : Nat) : Int)) (.int .i64 ((j : Int) + 1)) (w1.setCell ⟨g, j, none⟩ (.int .u32 (u : Int)))) :=
        hid ⟨ys.set j u, j + 1, _, rfl, rfl, by omega, HR1.out.put j u HYL.out hul, HST.out, HU1.out.trans (Upd.set g j w1 _)⟩
      clear hu9
      go_wp2_with fail
      go_roundg (gk - 1)
      case measure => exact hgj
      case rel => rw [hut.out, hcc.out]; exact J'
    · obtain rfl : j = n := by omega
      have hs2 := hs
      rw [← HN.out] at hs2
      have hfin := hid (hs2.fin HA.out HLE.out)
      have Hr := hid hr
      have Hu := hid hu
      have Hy := hid (hs.1.trans HN.out)
      clear hs hs2 hr hu
      go_wp2_with fail
      go_end0
      exact ⟨rfl, Hu.out, _, Hr.out, Hy.out, hfin.out⟩
end Go.Proofs.YtkeikfekkdplgaaGreatDoor
