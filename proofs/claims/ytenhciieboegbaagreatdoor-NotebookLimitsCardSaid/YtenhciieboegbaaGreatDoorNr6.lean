/-
  The reference: texts of numbers and of right expressions. (Printed by wip/gen/nr6.py.)
-/
import Derived.Test.YtenhciieboegbaaGreatDoorNr3
import Derived.Test.YtenhciieboegbaaGreatDoorNr1
import Derived.Test.YtenhciieboegbaaGreatDoorRText
namespace Go.Proofs.YtenhciieboegbaaGreatDoor
open Go Go.RowKit Go.Maps
set_option maxRecDepth 100000 in
set_option maxHeartbeats 4000000 in
theorem Numz_f {w : World} {i : Int} (hi : -1000000 ≤ i ∧ i ≤ 1000000) : Calls Tryz.prog 17 #[.int .i64 i] w (RVal w (encS (Lib.itoa i))) := by
  have HI := hid hi
  clear hi
  go_enter Tryz.func17, Tryz.ntmps17
  go_upto_region 1 with (fail)
  refine rgs 3 [some 6, some 7, some 8] [IsV (.int .i64 i), IsI 2 i, IsT2 (IsV (encS (textS i))) (IsV (.int .i64 (textE i)))] [] ?_ ?_ (hst := by repeat' (first | exact trivial | exact IsV.stb _ | exact IsI.stb _ _ | exact IsT2.stb (IsV.stb _) (IsV.stb _) | apply And.intro))
  · refine Rc (mv (Od.lit (x := .int .i64 i) 0)) ?_
    refine Rc (cl1 (Φ := IsV (.int .i64 i)) (Χ := IsI 2 i) (en Tryz.func31) (Od.lc 0 6) (fun x0 w' hE d0 => by { obtain rfl : x0 = .int .i64 i := d0; exact ROf_f w' i (by have := HI.out; omega) (by have := HI.out; omega) })) ?_
    refine Rc (cl1 (Φ := IsI 2 i) (en Tryz.func39) (Od.lc 1 7) (fun x0 w' hE d0 => RText_f d0 (by decide))) ?_
    exact RgAll.nil
  intro x X1 e1 hΦ _
  obtain ⟨u, v, hx, hu, hv⟩ := hΦ 2 (by decide)
  simp only [layL, Act.put, List.setIfInBounds_toArray, List.set_cons_zero, List.set_cons_succ, Nat.reduceAdd]
  rw [hx, show u = _ from hu, show v = _ from hv]
  clear hΦ hx hu hv
  have HE := hid e1
  clear e1
  rw [textS_256 (z := i) (Nat.lt_of_le_of_lt (show i.natAbs ≤ 1000000 by have := HI.out; omega) (by decide)), encS]
  generalize textE i = te
  obtain ⟨tb, htb⟩ : ∃ y, (⟨(Lib.itoa i).toArray⟩ : ByteArray) = y := ⟨_, rfl⟩
  rw [htb]
  have HTB := hid htb
  clear htb
  refine stL (fun K hK => wp_mv (hK _ _ ?_))
  clear hK K
  try go_simp
  refine wpList_step fun K hK => ?_
  go_simp
  refine hK _ _ ?_
  clear hK K
  refine wpList_step fun K hK => ?_
  go_simp
  refine hK _ _ ?_
  clear hK K
  refine stL (fun K hK => wp_mv (hK _ _ ?_))
  clear hK K
  try go_simp
  refine stL (fun K hK => wp_mv (hK _ _ ?_))
  clear hK K
  try go_simp
  refine wpList_nil ?_
  go_wp2_with fail
  go_ret
  exact ⟨by rw [encS, HTB.out]; rfl, HE.out⟩
section
set_option maxRecDepth 100000
set_option maxHeartbeats 8000000
theorem Shown_f : ∀ (k : Nat) (b : Sc) (x : Nd) (us : List Value) (w : World), k ≤ 20 → szN k b x ≠ 0 → NdC 0 w x us → Calls Tryz.prog 38 #[.agg us.toArray] w (RVal w (encS (shN k x))) := by
  intro k
  induction k with
  | zero => intro b x us w _ h; exact absurd rfl h
  | succ k ih =>
  intro b x us w hk hsz hx
  have IH := hid (fun (b : Sc) (x : Nd) (us : List Value) (w : World) => ih b x us w (Nat.le_of_succ_le hk))
  have HKB := hid (show 100 * 3 ^ k ≤ 400000000000 from Nat.le_trans (Nat.mul_le_mul_left 100 (Nat.pow_le_pow_right (by decide) (show k ≤ 20 by omega))) (by decide))
  obtain ⟨hok, hall⟩ := sz_parts hsz
  have HPA := hid hall
  have HOK := hid hok
  obtain ⟨s, a, m, c, ao, cp, hus, hI, hc1, hc2, hps⟩ := hx.out
  have HP := hid hps
  have HI := hid hI
  obtain ⟨op, hop⟩ : ∃ y, x.op = y := ⟨_, rfl⟩
  obtain ⟨nm, hnm⟩ : ∃ y, x.nm = y := ⟨_, rfl⟩
  obtain ⟨xn, hxn⟩ : ∃ y, x.n = y := ⟨_, rfl⟩
  obtain ⟨lo, hlo⟩ : ∃ y, x.lo = y := ⟨_, rfl⟩
  obtain ⟨hi, hhi⟩ : ∃ y, x.hi = y := ⟨_, rfl⟩
  obtain ⟨nps, hn⟩ : ∃ y, x.ps.length = y := ⟨_, rfl⟩
  rw [hop, hnm, hxn, hlo, hhi, hn] at hus
  subst hus
  have HOP := hid (And.intro hop (And.intro hnm (And.intro hxn (And.intro hlo (And.intro hhi hn)))))
  clear ih hk hsz hx hok hall hI hc1 hc2 hps hop hnm hxn hlo hhi hn
  obtain ⟨W, hW, E1, B1⟩ := nd_block w [.int .i64 op, encS nm, .int .i64 xn, .bool s, .slice a m c, .int .i64 lo, .int .i64 hi, .slice ao nps cp]
  go_enter Tryz.func38, Tryz.ntmps38
  go_upto_region 1 with (fail)
  rw [← hW]
  clear hW
  have c0 := B1.c 0 _ rfl
  rcases ok_cases HOK.out with ⟨h1, hv, -⟩ | ⟨h1, hn, -⟩ | ⟨h1, hn, h2, h5, -⟩ | ⟨h1, hn, h2, h5, h6, y0, hp⟩ | ⟨h1, y0, y1, hp⟩
  · have hop : op = 1 := by rw [← HOP.out.1]; exact h1
    subst hop
    have c3 := B1.c 3 _ rfl
    have c4 := B1.c 4 _ rfl
    have HR := hid (show textS x.v = shN (k + 1) x by rw [sh_1 h1, textS_256 hv])
    have HE := hid E1
    clear B1 E1 h1 hv
    go_wp2_with (go_at_call 39; refine Calls.mono (RText_f (IsI.ext HI.out HE.out) (by decide)) ?_; rintro e w1 ⟨v, rfl, e1, y1, y2, rfl, d1, d2⟩; obtain rfl : y1 = _ := d1; obtain rfl : y2 = _ := d2)
    go_ret
    exact ⟨by rw [← HR.out]; rfl, HE.out.trans e1⟩
  · have c1 := B1.c 1 _ rfl
    have HR := hid (show nm = shN (k + 1) x by rw [sh_2 h1, HOP.out.2.1])
    have HE := hid E1
    rw [HOP.out.1] at h1
    clear B1 E1 hn
    rcases h1 with h1 | h1
    · subst h1
      go_wp2_with fail
      go_ret
      exact ⟨by rw [← HR.out]; rfl, HE.out⟩
    · subst h1
      go_wp2_with fail
      go_ret
      exact ⟨by rw [← HR.out]; rfl, HE.out⟩
  · have HSH : shN (k + 1) x = _ := sh_3 h1
    rw [HOP.out.2.1, HOP.out.2.2.1] at HSH
    have hl1 := pat_len hn
    rw [HOP.out.2.1] at hl1
    rw [HOP.out.2.2.1] at h2 h5
    replace HSH := hid HSH
    have HIB := hid (show 0 ≤ xn ∧ xn ≤ 63 from ⟨h2, h5⟩)
    have HLB := hid (show nm.length ≤ 60 ∧ (Lib.itoa xn).length ≤ 3 from ⟨hl1, itoa_lenK 2 (Nat.lt_of_le_of_lt (show xn.natAbs ≤ 63 by omega) (by decide)) (by decide)⟩)
    have hop : op = 3 := by rw [← HOP.out.1]; exact h1
    subst hop
    clear h1 hn h2 h5 hl1
    go_upto_region 7 with (fail)
    clear c0
    obtain ⟨G0, hG0⟩ : ∃ g, w.heap.size = g := ⟨_, rfl⟩
    rw [hG0] at B1 ⊢
    refine rg 10 [some 28, some 29, some 30, some 31, some 32, some 33, some 34, some 35, some 36, some 2] [IsV (.pointer (some ⟨G0, 1, none⟩)), IsV (encS (nm)), IsV (encS (([118, 97, 108, 117, 101, 40, 34]) ++ (nm))), IsV (encS ((([118, 97, 108, 117, 101, 40, 34]) ++ nm) ++ ([34, 44, 32]))), IsV (.pointer (some ⟨G0, 2, none⟩)), IsV (.int .i64 xn), IsV (encS (Lib.itoa xn)), IsV (encS (((([118, 97, 108, 117, 101, 40, 34]) ++ nm) ++ [34, 44, 32]) ++ (Lib.itoa xn))), IsV (encS ((((([118, 97, 108, 117, 101, 40, 34]) ++ nm) ++ [34, 44, 32]) ++ (Lib.itoa xn)) ++ ([41]))), IsV (encS ((((([118, 97, 108, 117, 101, 40, 34]) ++ nm) ++ [34, 44, 32]) ++ (Lib.itoa xn)) ++ [41]))] [] 0 ?_ ?_ (hst := by repeat' (first | exact trivial | exact IsV.stb _ | apply And.intro))
    · refine Rc (fa (fa_Nd1 G0) (Od.lit 1)) ?_
      refine Rc (lvC 1 B1 ld_str (Od.lc 0 28)) ?_
      refine Rc (ct (s := [118, 97, 108, 117, 101, 40, 34]) (t := nm) Od.con (Od.lc 1 29) (by simp only [List.length_cons, List.length_nil]; have := HLB.out; omega)) ?_
      refine Rc (ct (s := ([118, 97, 108, 117, 101, 40, 34]) ++ nm) (t := [34, 44, 32]) (Od.lc 2 30) Od.con (by simp only [List.length_append, List.length_cons, List.length_nil]; have := HLB.out; omega)) ?_
      refine Rc (fa (fa_Nd2 G0) (Od.lit 1)) ?_
      refine Rc (lvC 2 B1 ld_i (Od.lc 4 32)) ?_
      refine Rc (cl1 (Χ := IsV (encS (Lib.itoa xn))) (en Tryz.func17) (Od.lc (Φ := IsV (.int .i64 xn)) 5 33) (fun x0 w' hE d0 => by { obtain rfl : x0 = .int .i64 xn := d0; exact Calls.mono (Numz_f (w := w') (by have := HIB.out; omega)) (fun e w2 h => ⟨_, h.1, h.2, rfl⟩) })) ?_
      refine Rc (ct (s := (([118, 97, 108, 117, 101, 40, 34]) ++ nm) ++ [34, 44, 32]) (t := Lib.itoa xn) (Od.lc 3 31) (Od.lc 6 34) (by simp only [List.length_append, List.length_cons, List.length_nil]; have := HLB.out; omega)) ?_
      refine Rc (ct (s := ((([118, 97, 108, 117, 101, 40, 34]) ++ nm) ++ [34, 44, 32]) ++ (Lib.itoa xn)) (t := [41]) (Od.lc 7 35) Od.con (by simp only [List.length_append, List.length_cons, List.length_nil]; have := HLB.out; omega)) ?_
      refine Rc (mv (Od.lc 8 36)) ?_
      exact RgAll.nil
    intro u X2 e2 hΦ _
    have q6 : u 9 = encS (shN (k + 1) x) := (show u 9 = (encS ((((([118, 97, 108, 117, 101, 40, 34]) ++ nm) ++ [34, 44, 32]) ++ (Lib.itoa xn)) ++ [41])) from hΦ 9 (by decide)).trans (congrArg encS HSH.out.symm)
    have E2 := hid (E1.trans e2)
    simp only [layL, Act.put, List.setIfInBounds_toArray, List.set_cons_zero, List.set_cons_succ, Nat.reduceAdd]
    rw [q6]
    clear hΦ q6
    refine wpAny_done (by kernel_rfl) ?_ _
    clear B1 e2 E1
    go_wp2_with fail
    go_ret
    exact ⟨rfl, E2.out⟩
  · obtain ⟨g, o, rfl, -, hR⟩ := HP.out (by rw [hp]; simp)
    obtain ⟨us0, hl0, hc0, hy0⟩ := hR.get (i := 0) (x := y0) (by rw [hp]; rfl)
    have HC0 := hid (And.intro hl0 (And.intro hc0 hy0))
    have HNP := hid (show 1 = nps by rw [← HOP.out.2.2.2.2.2, hp]; rfl)
    have hs0 := HPA.out y0 (by rw [hp]; simp)
    have HSH : shN (k + 1) x = _ := sh_b h1 hp
    rw [HOP.out.1] at h1
    rw [HOP.out.1, HOP.out.2.1, HOP.out.2.2.2.1, HOP.out.2.2.2.2.1] at HSH
    have hl1 := name_len hn
    rw [HOP.out.2.1] at hl1
    rw [HOP.out.2.2.2.1] at h2 h5
    rw [HOP.out.2.2.2.2.1] at h5 h6
    have HIB := hid (show -1000000 ≤ lo ∧ lo ≤ hi ∧ hi ≤ 1000000 from ⟨h2, h5, h6⟩)
    have HLB := hid (show (shN k y0).length ≤ 400000000000 ∧ nm.length ≤ 12 ∧ (opW op).length ≤ 5 ∧ (Lib.itoa lo).length ≤ 8 ∧ (Lib.itoa hi).length ≤ 8 from ⟨Nat.le_trans (sh_len k _ y0 hs0) HKB.out, hl1, opW_len op, itoa_lenK 7 (Nat.lt_of_le_of_lt (show lo.natAbs ≤ 1000000 by omega) (by decide)) (by decide), itoa_lenK 7 (Nat.lt_of_le_of_lt (show hi.natAbs ≤ 1000000 by omega) (by decide)) (by decide)⟩)
    have HS0 := hid (fun w' (e : Ext w w') => IH.out _ y0 us0 w' hs0 (HC0.out.2.2.ext e))
    generalize shN k y0 = s0 at HLB HS0 HSH
    replace HSH := hid HSH
    clear hl0 hc0 hy0 hR hs0 hp hn h2 h5 h6 hl1
    obtain ⟨G0, hG0⟩ : ∃ g, w.heap.size = g := ⟨_, rfl⟩
    rw [hG0] at B1 c0 ⊢
    rcases h1 with h1 | h1
    · subst h1
      have HT2 := hid (fun w => two_f 9 w)
      have HT2 : Hid (∀ w, Calls Tryz.prog 63 #[.int .i64 9] w (RSame w (.bool false))) := HT2
      go_upto_region 12 with (go_at_call 63; go_must (refine Calls.mono (HT2.out _) ?_; rintro e w1 ⟨rfl, rfl⟩))
      clear c0
      refine rg 26 [some 90, some 91, some 92, some 93, some 94, some 95, some 96, some 97, some 98, some 99, some 100, some 101, some 102, some 103, some 104, some 105, some 106, some 107, some 108, some 109, some 110, some 111, some 112, some 113, some 114, some 2] [IsV (.pointer (some ⟨G0, 0, none⟩)), IsV (.int .i64 9), IsV (encS (opW 9)), IsV (encS ((opW 9) ++ ([40]))), IsV (.pointer (some ⟨G0, 1, none⟩)), IsV (encS (nm)), IsV (encS (((opW 9) ++ [40]) ++ (nm))), IsV (encS ((((opW 9) ++ [40]) ++ nm) ++ ([44, 32]))), IsV (.pointer (some ⟨G0, 5, none⟩)), IsV (.int .i64 lo), IsV (encS (Lib.itoa lo)), IsV (encS (((((opW 9) ++ [40]) ++ nm) ++ [44, 32]) ++ (Lib.itoa lo))), IsV (encS ((((((opW 9) ++ [40]) ++ nm) ++ [44, 32]) ++ (Lib.itoa lo)) ++ ([44, 32]))), IsV (.pointer (some ⟨G0, 6, none⟩)), IsV (.int .i64 hi), IsV (encS (Lib.itoa hi)), IsV (encS (((((((opW 9) ++ [40]) ++ nm) ++ [44, 32]) ++ (Lib.itoa lo)) ++ [44, 32]) ++ (Lib.itoa hi))), IsV (encS ((((((((opW 9) ++ [40]) ++ nm) ++ [44, 32]) ++ (Lib.itoa lo)) ++ [44, 32]) ++ (Lib.itoa hi)) ++ ([44, 32]))), IsV (.pointer (some ⟨G0, 7, none⟩)), IsV (.slice (some ⟨g, o, none⟩) nps cp), IsV (.pointer (some ⟨g, o + 8 * 0, none⟩)), IsV (.agg us0.toArray), IsV (encS (s0)), IsV (encS (((((((((opW 9) ++ [40]) ++ nm) ++ [44, 32]) ++ (Lib.itoa lo)) ++ [44, 32]) ++ (Lib.itoa hi)) ++ [44, 32]) ++ (s0))), IsV (encS ((((((((((opW 9) ++ [40]) ++ nm) ++ [44, 32]) ++ (Lib.itoa lo)) ++ [44, 32]) ++ (Lib.itoa hi)) ++ [44, 32]) ++ s0) ++ ([41]))), IsV (encS ((((((((((opW 9) ++ [40]) ++ nm) ++ [44, 32]) ++ (Lib.itoa lo)) ++ [44, 32]) ++ (Lib.itoa hi)) ++ [44, 32]) ++ s0) ++ [41]))] [] 0 ?_ ?_ (hst := by repeat' (first | exact trivial | exact IsV.stb _ | apply And.intro))
      · refine Rc (fa (fa_Nd0 G0) (Od.lit 1)) ?_
        refine Rc (lvC 0 B1 ld_i (Od.lc 0 90)) ?_
        refine Rc (cl1 (Χ := IsV (encS (opW 9))) (en Tryz.func73) (Od.lc (Φ := IsV (.int .i64 9)) 1 91) (fun x0 w' hE d0 => by { obtain rfl : x0 = .int .i64 9 := d0; exact Calls.mono (word42_f (op := 9) (by decide) w') (fun e w2 h => ⟨_, h.1, h.2, rfl⟩) })) ?_
        refine Rc (ct (s := opW 9) (t := [40]) (Od.lc 2 92) Od.con (by simp only [List.length_cons, List.length_nil]; have := HLB.out; omega)) ?_
        refine Rc (fa (fa_Nd1 G0) (Od.lit 1)) ?_
        refine Rc (lvC 1 B1 ld_str (Od.lc 4 94)) ?_
        refine Rc (ct (s := (opW 9) ++ [40]) (t := nm) (Od.lc 3 93) (Od.lc 5 95) (by simp only [List.length_append, List.length_cons, List.length_nil]; have := HLB.out; omega)) ?_
        refine Rc (ct (s := ((opW 9) ++ [40]) ++ nm) (t := [44, 32]) (Od.lc 6 96) Od.con (by simp only [List.length_append, List.length_cons, List.length_nil]; have := HLB.out; omega)) ?_
        refine Rc (fa (fa_Nd4 G0) (Od.lit 1)) ?_
        refine Rc (lvC 5 B1 ld_i (Od.lc 8 98)) ?_
        refine Rc (cl1 (Χ := IsV (encS (Lib.itoa lo))) (en Tryz.func17) (Od.lc (Φ := IsV (.int .i64 lo)) 9 99) (fun x0 w' hE d0 => by { obtain rfl : x0 = .int .i64 lo := d0; exact Calls.mono (Numz_f (w := w') (by have := HIB.out; omega)) (fun e w2 h => ⟨_, h.1, h.2, rfl⟩) })) ?_
        refine Rc (ct (s := (((opW 9) ++ [40]) ++ nm) ++ [44, 32]) (t := Lib.itoa lo) (Od.lc 7 97) (Od.lc 10 100) (by simp only [List.length_append, List.length_cons, List.length_nil]; have := HLB.out; omega)) ?_
        refine Rc (ct (s := ((((opW 9) ++ [40]) ++ nm) ++ [44, 32]) ++ (Lib.itoa lo)) (t := [44, 32]) (Od.lc 11 101) Od.con (by simp only [List.length_append, List.length_cons, List.length_nil]; have := HLB.out; omega)) ?_
        refine Rc (fa (fa_Nd5 G0) (Od.lit 1)) ?_
        refine Rc (lvC 6 B1 ld_i (Od.lc 13 103)) ?_
        refine Rc (cl1 (Χ := IsV (encS (Lib.itoa hi))) (en Tryz.func17) (Od.lc (Φ := IsV (.int .i64 hi)) 14 104) (fun x0 w' hE d0 => by { obtain rfl : x0 = .int .i64 hi := d0; exact Calls.mono (Numz_f (w := w') (by have := HIB.out; omega)) (fun e w2 h => ⟨_, h.1, h.2, rfl⟩) })) ?_
        refine Rc (ct (s := (((((opW 9) ++ [40]) ++ nm) ++ [44, 32]) ++ (Lib.itoa lo)) ++ [44, 32]) (t := Lib.itoa hi) (Od.lc 12 102) (Od.lc 15 105) (by simp only [List.length_append, List.length_cons, List.length_nil]; have := HLB.out; omega)) ?_
        refine Rc (ct (s := ((((((opW 9) ++ [40]) ++ nm) ++ [44, 32]) ++ (Lib.itoa lo)) ++ [44, 32]) ++ (Lib.itoa hi)) (t := [44, 32]) (Od.lc 16 106) Od.con (by simp only [List.length_append, List.length_cons, List.length_nil]; have := HLB.out; omega)) ?_
        refine Rc (fa (fa_Nd6 G0) (Od.lit 1)) ?_
        refine Rc (lvC 7 B1 ld_Nds (Od.lc 18 108)) ?_
        refine Rc (ixq (ix_Nd g o cp nps 0 (by rw [← HNP.out]; decide)) (Od.lc 19 109) Od.con) ?_
        refine Rc (lv (Φ := IsV (.agg us0.toArray)) (.agg us0.toArray) (fun w' e => ldM (by kernel_rfl) (by kernel_rfl) HC0.out.1 (fun j v hj => (E1.trans e).cell (HC0.out.2.1 j v hj))) (Od.lc 20 110) (fun _ _ => rfl)) ?_
        refine Rc (cl1 (Χ := IsV (encS (s0))) (en Tryz.func38) (Od.lc (Φ := IsV (.agg us0.toArray)) 21 111) (fun x0 w' hE d0 => by { obtain rfl : x0 = .agg us0.toArray := d0; exact Calls.mono (HS0.out w' (E1.trans hE)) (fun e w2 h => ⟨_, h.1, h.2, rfl⟩) })) ?_
        refine Rc (ct (s := (((((((opW 9) ++ [40]) ++ nm) ++ [44, 32]) ++ (Lib.itoa lo)) ++ [44, 32]) ++ (Lib.itoa hi)) ++ [44, 32]) (t := s0) (Od.lc 17 107) (Od.lc 22 112) (by simp only [List.length_append, List.length_cons, List.length_nil]; have := HLB.out; omega)) ?_
        refine Rc (ct (s := ((((((((opW 9) ++ [40]) ++ nm) ++ [44, 32]) ++ (Lib.itoa lo)) ++ [44, 32]) ++ (Lib.itoa hi)) ++ [44, 32]) ++ s0) (t := [41]) (Od.lc 23 113) Od.con (by simp only [List.length_append, List.length_cons, List.length_nil]; have := HLB.out; omega)) ?_
        refine Rc (mv (Od.lc 24 114)) ?_
        exact RgAll.nil
      intro u X2 e2 hΦ _
      have q6 : u 25 = encS (shN (k + 1) x) := (show u 25 = (encS ((((((((((opW 9) ++ [40]) ++ nm) ++ [44, 32]) ++ (Lib.itoa lo)) ++ [44, 32]) ++ (Lib.itoa hi)) ++ [44, 32]) ++ s0) ++ [41])) from hΦ 25 (by decide)).trans (congrArg encS HSH.out.symm)
      have E2 := hid (E1.trans e2)
      simp only [layL, Act.put, List.setIfInBounds_toArray, List.set_cons_zero, List.set_cons_succ, Nat.reduceAdd]
      rw [q6]
      clear hΦ q6
      refine wpAny_done (by kernel_rfl) ?_ _
      clear B1 e2 E1
      go_wp2_with fail
      go_ret
      exact ⟨rfl, E2.out⟩
    · subst h1
      have HT2 := hid (fun w => two_f 10 w)
      have HT2 : Hid (∀ w, Calls Tryz.prog 63 #[.int .i64 10] w (RSame w (.bool false))) := HT2
      go_upto_region 12 with (go_at_call 63; go_must (refine Calls.mono (HT2.out _) ?_; rintro e w1 ⟨rfl, rfl⟩))
      clear c0
      refine rg 26 [some 90, some 91, some 92, some 93, some 94, some 95, some 96, some 97, some 98, some 99, some 100, some 101, some 102, some 103, some 104, some 105, some 106, some 107, some 108, some 109, some 110, some 111, some 112, some 113, some 114, some 2] [IsV (.pointer (some ⟨G0, 0, none⟩)), IsV (.int .i64 10), IsV (encS (opW 10)), IsV (encS ((opW 10) ++ ([40]))), IsV (.pointer (some ⟨G0, 1, none⟩)), IsV (encS (nm)), IsV (encS (((opW 10) ++ [40]) ++ (nm))), IsV (encS ((((opW 10) ++ [40]) ++ nm) ++ ([44, 32]))), IsV (.pointer (some ⟨G0, 5, none⟩)), IsV (.int .i64 lo), IsV (encS (Lib.itoa lo)), IsV (encS (((((opW 10) ++ [40]) ++ nm) ++ [44, 32]) ++ (Lib.itoa lo))), IsV (encS ((((((opW 10) ++ [40]) ++ nm) ++ [44, 32]) ++ (Lib.itoa lo)) ++ ([44, 32]))), IsV (.pointer (some ⟨G0, 6, none⟩)), IsV (.int .i64 hi), IsV (encS (Lib.itoa hi)), IsV (encS (((((((opW 10) ++ [40]) ++ nm) ++ [44, 32]) ++ (Lib.itoa lo)) ++ [44, 32]) ++ (Lib.itoa hi))), IsV (encS ((((((((opW 10) ++ [40]) ++ nm) ++ [44, 32]) ++ (Lib.itoa lo)) ++ [44, 32]) ++ (Lib.itoa hi)) ++ ([44, 32]))), IsV (.pointer (some ⟨G0, 7, none⟩)), IsV (.slice (some ⟨g, o, none⟩) nps cp), IsV (.pointer (some ⟨g, o + 8 * 0, none⟩)), IsV (.agg us0.toArray), IsV (encS (s0)), IsV (encS (((((((((opW 10) ++ [40]) ++ nm) ++ [44, 32]) ++ (Lib.itoa lo)) ++ [44, 32]) ++ (Lib.itoa hi)) ++ [44, 32]) ++ (s0))), IsV (encS ((((((((((opW 10) ++ [40]) ++ nm) ++ [44, 32]) ++ (Lib.itoa lo)) ++ [44, 32]) ++ (Lib.itoa hi)) ++ [44, 32]) ++ s0) ++ ([41]))), IsV (encS ((((((((((opW 10) ++ [40]) ++ nm) ++ [44, 32]) ++ (Lib.itoa lo)) ++ [44, 32]) ++ (Lib.itoa hi)) ++ [44, 32]) ++ s0) ++ [41]))] [] 0 ?_ ?_ (hst := by repeat' (first | exact trivial | exact IsV.stb _ | apply And.intro))
      · refine Rc (fa (fa_Nd0 G0) (Od.lit 1)) ?_
        refine Rc (lvC 0 B1 ld_i (Od.lc 0 90)) ?_
        refine Rc (cl1 (Χ := IsV (encS (opW 10))) (en Tryz.func73) (Od.lc (Φ := IsV (.int .i64 10)) 1 91) (fun x0 w' hE d0 => by { obtain rfl : x0 = .int .i64 10 := d0; exact Calls.mono (word42_f (op := 10) (by decide) w') (fun e w2 h => ⟨_, h.1, h.2, rfl⟩) })) ?_
        refine Rc (ct (s := opW 10) (t := [40]) (Od.lc 2 92) Od.con (by simp only [List.length_cons, List.length_nil]; have := HLB.out; omega)) ?_
        refine Rc (fa (fa_Nd1 G0) (Od.lit 1)) ?_
        refine Rc (lvC 1 B1 ld_str (Od.lc 4 94)) ?_
        refine Rc (ct (s := (opW 10) ++ [40]) (t := nm) (Od.lc 3 93) (Od.lc 5 95) (by simp only [List.length_append, List.length_cons, List.length_nil]; have := HLB.out; omega)) ?_
        refine Rc (ct (s := ((opW 10) ++ [40]) ++ nm) (t := [44, 32]) (Od.lc 6 96) Od.con (by simp only [List.length_append, List.length_cons, List.length_nil]; have := HLB.out; omega)) ?_
        refine Rc (fa (fa_Nd4 G0) (Od.lit 1)) ?_
        refine Rc (lvC 5 B1 ld_i (Od.lc 8 98)) ?_
        refine Rc (cl1 (Χ := IsV (encS (Lib.itoa lo))) (en Tryz.func17) (Od.lc (Φ := IsV (.int .i64 lo)) 9 99) (fun x0 w' hE d0 => by { obtain rfl : x0 = .int .i64 lo := d0; exact Calls.mono (Numz_f (w := w') (by have := HIB.out; omega)) (fun e w2 h => ⟨_, h.1, h.2, rfl⟩) })) ?_
        refine Rc (ct (s := (((opW 10) ++ [40]) ++ nm) ++ [44, 32]) (t := Lib.itoa lo) (Od.lc 7 97) (Od.lc 10 100) (by simp only [List.length_append, List.length_cons, List.length_nil]; have := HLB.out; omega)) ?_
        refine Rc (ct (s := ((((opW 10) ++ [40]) ++ nm) ++ [44, 32]) ++ (Lib.itoa lo)) (t := [44, 32]) (Od.lc 11 101) Od.con (by simp only [List.length_append, List.length_cons, List.length_nil]; have := HLB.out; omega)) ?_
        refine Rc (fa (fa_Nd5 G0) (Od.lit 1)) ?_
        refine Rc (lvC 6 B1 ld_i (Od.lc 13 103)) ?_
        refine Rc (cl1 (Χ := IsV (encS (Lib.itoa hi))) (en Tryz.func17) (Od.lc (Φ := IsV (.int .i64 hi)) 14 104) (fun x0 w' hE d0 => by { obtain rfl : x0 = .int .i64 hi := d0; exact Calls.mono (Numz_f (w := w') (by have := HIB.out; omega)) (fun e w2 h => ⟨_, h.1, h.2, rfl⟩) })) ?_
        refine Rc (ct (s := (((((opW 10) ++ [40]) ++ nm) ++ [44, 32]) ++ (Lib.itoa lo)) ++ [44, 32]) (t := Lib.itoa hi) (Od.lc 12 102) (Od.lc 15 105) (by simp only [List.length_append, List.length_cons, List.length_nil]; have := HLB.out; omega)) ?_
        refine Rc (ct (s := ((((((opW 10) ++ [40]) ++ nm) ++ [44, 32]) ++ (Lib.itoa lo)) ++ [44, 32]) ++ (Lib.itoa hi)) (t := [44, 32]) (Od.lc 16 106) Od.con (by simp only [List.length_append, List.length_cons, List.length_nil]; have := HLB.out; omega)) ?_
        refine Rc (fa (fa_Nd6 G0) (Od.lit 1)) ?_
        refine Rc (lvC 7 B1 ld_Nds (Od.lc 18 108)) ?_
        refine Rc (ixq (ix_Nd g o cp nps 0 (by rw [← HNP.out]; decide)) (Od.lc 19 109) Od.con) ?_
        refine Rc (lv (Φ := IsV (.agg us0.toArray)) (.agg us0.toArray) (fun w' e => ldM (by kernel_rfl) (by kernel_rfl) HC0.out.1 (fun j v hj => (E1.trans e).cell (HC0.out.2.1 j v hj))) (Od.lc 20 110) (fun _ _ => rfl)) ?_
        refine Rc (cl1 (Χ := IsV (encS (s0))) (en Tryz.func38) (Od.lc (Φ := IsV (.agg us0.toArray)) 21 111) (fun x0 w' hE d0 => by { obtain rfl : x0 = .agg us0.toArray := d0; exact Calls.mono (HS0.out w' (E1.trans hE)) (fun e w2 h => ⟨_, h.1, h.2, rfl⟩) })) ?_
        refine Rc (ct (s := (((((((opW 10) ++ [40]) ++ nm) ++ [44, 32]) ++ (Lib.itoa lo)) ++ [44, 32]) ++ (Lib.itoa hi)) ++ [44, 32]) (t := s0) (Od.lc 17 107) (Od.lc 22 112) (by simp only [List.length_append, List.length_cons, List.length_nil]; have := HLB.out; omega)) ?_
        refine Rc (ct (s := ((((((((opW 10) ++ [40]) ++ nm) ++ [44, 32]) ++ (Lib.itoa lo)) ++ [44, 32]) ++ (Lib.itoa hi)) ++ [44, 32]) ++ s0) (t := [41]) (Od.lc 23 113) Od.con (by simp only [List.length_append, List.length_cons, List.length_nil]; have := HLB.out; omega)) ?_
        refine Rc (mv (Od.lc 24 114)) ?_
        exact RgAll.nil
      intro u X2 e2 hΦ _
      have q6 : u 25 = encS (shN (k + 1) x) := (show u 25 = (encS ((((((((((opW 10) ++ [40]) ++ nm) ++ [44, 32]) ++ (Lib.itoa lo)) ++ [44, 32]) ++ (Lib.itoa hi)) ++ [44, 32]) ++ s0) ++ [41])) from hΦ 25 (by decide)).trans (congrArg encS HSH.out.symm)
      have E2 := hid (E1.trans e2)
      simp only [layL, Act.put, List.setIfInBounds_toArray, List.set_cons_zero, List.set_cons_succ, Nat.reduceAdd]
      rw [q6]
      clear hΦ q6
      refine wpAny_done (by kernel_rfl) ?_ _
      clear B1 e2 E1
      go_wp2_with fail
      go_ret
      exact ⟨rfl, E2.out⟩
  · obtain ⟨g, o, rfl, -, hR⟩ := HP.out (by rw [hp]; simp)
    obtain ⟨us0, hl0, hc0, hy0⟩ := hR.get (i := 0) (x := y0) (by rw [hp]; rfl)
    obtain ⟨us1, hl1, hc1, hy1⟩ := hR.get (i := 1) (x := y1) (by rw [hp]; rfl)
    have HC0 := hid (And.intro hl0 (And.intro hc0 hy0))
    have HC1 := hid (And.intro hl1 (And.intro hc1 hy1))
    have HNP := hid (show 2 = nps by rw [← HOP.out.2.2.2.2.2, hp]; rfl)
    have hs0 := HPA.out y0 (by rw [hp]; simp)
    have hs1 := HPA.out y1 (by rw [hp]; simp)
    have HLB := hid (show (shN k y0).length ≤ 400000000000 ∧ (shN k y1).length ≤ 400000000000 ∧ (opW op).length ≤ 5 from ⟨Nat.le_trans (sh_len k _ y0 hs0) HKB.out, Nat.le_trans (sh_len k _ y1 hs1) HKB.out, opW_len op⟩)
    have HS0 := hid (fun w' (e : Ext w w') => IH.out _ y0 us0 w' hs0 (HC0.out.2.2.ext e))
    have HS1 := hid (fun w' (e : Ext w w') => IH.out _ y1 us1 w' hs1 (HC1.out.2.2.ext e))
    have HSI := hid (fun h => (show shN (k + 1) x = _ from sh_i h hp))
    have HSJ := hid (fun h => (show shN (k + 1) x = _ from sh_j h hp))
    rw [HOP.out.1] at HSI HSJ h1
    replace HSI := HSI.out
    replace HSJ := HSJ.out
    clear hl0 hc0 hy0 hl1 hc1 hy1 hR hs0 hs1 hp
    generalize shN k y0 = s0 at HLB HS0 HSI HSJ
    generalize shN k y1 = s1 at HLB HS1 HSI HSJ
    replace HSI := hid HSI
    replace HSJ := hid HSJ
    obtain ⟨G0, hG0⟩ : ∃ g, w.heap.size = g := ⟨_, rfl⟩
    rw [hG0] at B1 c0 ⊢
    rcases h1 with h1 | h1 | h1 | h1 | h1 | h1 | h1
    · subst h1
      have HSH := hid (HSI.out (by decide))
      go_upto_region 9 with (fail)
      clear c0
      refine rg 20 [some 50, some 51, some 52, some 53, some 54, some 55, some 56, some 57, some 58, some 59, some 60, some 61, some 62, some 63, some 64, some 65, some 66, some 67, some 68, some 2] [IsV (.pointer (some ⟨G0, 7, none⟩)), IsV (.slice (some ⟨g, o, none⟩) nps cp), IsV (.pointer (some ⟨g, o + 8 * 0, none⟩)), IsV (.agg us0.toArray), IsV (encS (s0)), IsV (encS (([40]) ++ (s0))), IsV (encS (([40] ++ s0) ++ ([32]))), IsV (.pointer (some ⟨G0, 0, none⟩)), IsV (.int .i64 4), IsV (encS (opW 4)), IsV (encS ((([40] ++ s0) ++ [32]) ++ (opW 4))), IsV (encS (((([40] ++ s0) ++ [32]) ++ (opW 4)) ++ ([32]))), IsV (.pointer (some ⟨G0, 7, none⟩)), IsV (.slice (some ⟨g, o, none⟩) nps cp), IsV (.pointer (some ⟨g, o + 8 * 1, none⟩)), IsV (.agg us1.toArray), IsV (encS (s1)), IsV (encS ((((([40] ++ s0) ++ [32]) ++ (opW 4)) ++ [32]) ++ (s1))), IsV (encS (((((([40] ++ s0) ++ [32]) ++ (opW 4)) ++ [32]) ++ s1) ++ ([41]))), IsV (encS (((((([40] ++ s0) ++ [32]) ++ (opW 4)) ++ [32]) ++ s1) ++ [41]))] [] 0 ?_ ?_ (hst := by repeat' (first | exact trivial | exact IsV.stb _ | apply And.intro))
      · refine Rc (fa (fa_Nd6 G0) (Od.lit 1)) ?_
        refine Rc (lvC 7 B1 ld_Nds (Od.lc 0 50)) ?_
        refine Rc (ixq (ix_Nd g o cp nps 0 (by rw [← HNP.out]; decide)) (Od.lc 1 51) Od.con) ?_
        refine Rc (lv (Φ := IsV (.agg us0.toArray)) (.agg us0.toArray) (fun w' e => ldM (by kernel_rfl) (by kernel_rfl) HC0.out.1 (fun j v hj => (E1.trans e).cell (HC0.out.2.1 j v hj))) (Od.lc 2 52) (fun _ _ => rfl)) ?_
        refine Rc (cl1 (Χ := IsV (encS (s0))) (en Tryz.func38) (Od.lc (Φ := IsV (.agg us0.toArray)) 3 53) (fun x0 w' hE d0 => by { obtain rfl : x0 = .agg us0.toArray := d0; exact Calls.mono (HS0.out w' (E1.trans hE)) (fun e w2 h => ⟨_, h.1, h.2, rfl⟩) })) ?_
        refine Rc (ct (s := [40]) (t := s0) Od.con (Od.lc 4 54) (by simp only [List.length_cons, List.length_nil]; have := HLB.out; omega)) ?_
        refine Rc (ct (s := [40] ++ s0) (t := [32]) (Od.lc 5 55) Od.con (by simp only [List.length_append, List.length_cons, List.length_nil]; have := HLB.out; omega)) ?_
        refine Rc (fa (fa_Nd0 G0) (Od.lit 1)) ?_
        refine Rc (lvC 0 B1 ld_i (Od.lc 7 57)) ?_
        refine Rc (cl1 (Χ := IsV (encS (opW 4))) (en Tryz.func73) (Od.lc (Φ := IsV (.int .i64 4)) 8 58) (fun x0 w' hE d0 => by { obtain rfl : x0 = .int .i64 4 := d0; exact Calls.mono (word42_f (op := 4) (by decide) w') (fun e w2 h => ⟨_, h.1, h.2, rfl⟩) })) ?_
        refine Rc (ct (s := ([40] ++ s0) ++ [32]) (t := opW 4) (Od.lc 6 56) (Od.lc 9 59) (by simp only [List.length_append, List.length_cons, List.length_nil]; have := HLB.out; omega)) ?_
        refine Rc (ct (s := (([40] ++ s0) ++ [32]) ++ (opW 4)) (t := [32]) (Od.lc 10 60) Od.con (by simp only [List.length_append, List.length_cons, List.length_nil]; have := HLB.out; omega)) ?_
        refine Rc (fa (fa_Nd6 G0) (Od.lit 1)) ?_
        refine Rc (lvC 7 B1 ld_Nds (Od.lc 12 62)) ?_
        refine Rc (ixq (ix_Nd g o cp nps 1 (by rw [← HNP.out]; decide)) (Od.lc 13 63) Od.con) ?_
        refine Rc (lv (Φ := IsV (.agg us1.toArray)) (.agg us1.toArray) (fun w' e => ldM (by kernel_rfl) (by kernel_rfl) HC1.out.1 (fun j v hj => (E1.trans e).cell (HC1.out.2.1 j v hj))) (Od.lc 14 64) (fun _ _ => rfl)) ?_
        refine Rc (cl1 (Χ := IsV (encS (s1))) (en Tryz.func38) (Od.lc (Φ := IsV (.agg us1.toArray)) 15 65) (fun x0 w' hE d0 => by { obtain rfl : x0 = .agg us1.toArray := d0; exact Calls.mono (HS1.out w' (E1.trans hE)) (fun e w2 h => ⟨_, h.1, h.2, rfl⟩) })) ?_
        refine Rc (ct (s := ((([40] ++ s0) ++ [32]) ++ (opW 4)) ++ [32]) (t := s1) (Od.lc 11 61) (Od.lc 16 66) (by simp only [List.length_append, List.length_cons, List.length_nil]; have := HLB.out; omega)) ?_
        refine Rc (ct (s := (((([40] ++ s0) ++ [32]) ++ (opW 4)) ++ [32]) ++ s1) (t := [41]) (Od.lc 17 67) Od.con (by simp only [List.length_append, List.length_cons, List.length_nil]; have := HLB.out; omega)) ?_
        refine Rc (mv (Od.lc 18 68)) ?_
        exact RgAll.nil
      intro u X2 e2 hΦ _
      have q6 : u 19 = encS (shN (k + 1) x) := (show u 19 = (encS (((((([40] ++ s0) ++ [32]) ++ (opW 4)) ++ [32]) ++ s1) ++ [41])) from hΦ 19 (by decide)).trans (congrArg encS HSH.out.symm)
      have E2 := hid (E1.trans e2)
      simp only [layL, Act.put, List.setIfInBounds_toArray, List.set_cons_zero, List.set_cons_succ, Nat.reduceAdd]
      rw [q6]
      clear hΦ q6
      refine wpAny_done (by kernel_rfl) ?_ _
      clear B1 e2 E1
      go_wp2_with fail
      go_ret
      exact ⟨rfl, E2.out⟩
    · subst h1
      have HSH := hid (HSI.out (by decide))
      go_upto_region 9 with (fail)
      clear c0
      refine rg 20 [some 50, some 51, some 52, some 53, some 54, some 55, some 56, some 57, some 58, some 59, some 60, some 61, some 62, some 63, some 64, some 65, some 66, some 67, some 68, some 2] [IsV (.pointer (some ⟨G0, 7, none⟩)), IsV (.slice (some ⟨g, o, none⟩) nps cp), IsV (.pointer (some ⟨g, o + 8 * 0, none⟩)), IsV (.agg us0.toArray), IsV (encS (s0)), IsV (encS (([40]) ++ (s0))), IsV (encS (([40] ++ s0) ++ ([32]))), IsV (.pointer (some ⟨G0, 0, none⟩)), IsV (.int .i64 5), IsV (encS (opW 5)), IsV (encS ((([40] ++ s0) ++ [32]) ++ (opW 5))), IsV (encS (((([40] ++ s0) ++ [32]) ++ (opW 5)) ++ ([32]))), IsV (.pointer (some ⟨G0, 7, none⟩)), IsV (.slice (some ⟨g, o, none⟩) nps cp), IsV (.pointer (some ⟨g, o + 8 * 1, none⟩)), IsV (.agg us1.toArray), IsV (encS (s1)), IsV (encS ((((([40] ++ s0) ++ [32]) ++ (opW 5)) ++ [32]) ++ (s1))), IsV (encS (((((([40] ++ s0) ++ [32]) ++ (opW 5)) ++ [32]) ++ s1) ++ ([41]))), IsV (encS (((((([40] ++ s0) ++ [32]) ++ (opW 5)) ++ [32]) ++ s1) ++ [41]))] [] 0 ?_ ?_ (hst := by repeat' (first | exact trivial | exact IsV.stb _ | apply And.intro))
      · refine Rc (fa (fa_Nd6 G0) (Od.lit 1)) ?_
        refine Rc (lvC 7 B1 ld_Nds (Od.lc 0 50)) ?_
        refine Rc (ixq (ix_Nd g o cp nps 0 (by rw [← HNP.out]; decide)) (Od.lc 1 51) Od.con) ?_
        refine Rc (lv (Φ := IsV (.agg us0.toArray)) (.agg us0.toArray) (fun w' e => ldM (by kernel_rfl) (by kernel_rfl) HC0.out.1 (fun j v hj => (E1.trans e).cell (HC0.out.2.1 j v hj))) (Od.lc 2 52) (fun _ _ => rfl)) ?_
        refine Rc (cl1 (Χ := IsV (encS (s0))) (en Tryz.func38) (Od.lc (Φ := IsV (.agg us0.toArray)) 3 53) (fun x0 w' hE d0 => by { obtain rfl : x0 = .agg us0.toArray := d0; exact Calls.mono (HS0.out w' (E1.trans hE)) (fun e w2 h => ⟨_, h.1, h.2, rfl⟩) })) ?_
        refine Rc (ct (s := [40]) (t := s0) Od.con (Od.lc 4 54) (by simp only [List.length_cons, List.length_nil]; have := HLB.out; omega)) ?_
        refine Rc (ct (s := [40] ++ s0) (t := [32]) (Od.lc 5 55) Od.con (by simp only [List.length_append, List.length_cons, List.length_nil]; have := HLB.out; omega)) ?_
        refine Rc (fa (fa_Nd0 G0) (Od.lit 1)) ?_
        refine Rc (lvC 0 B1 ld_i (Od.lc 7 57)) ?_
        refine Rc (cl1 (Χ := IsV (encS (opW 5))) (en Tryz.func73) (Od.lc (Φ := IsV (.int .i64 5)) 8 58) (fun x0 w' hE d0 => by { obtain rfl : x0 = .int .i64 5 := d0; exact Calls.mono (word42_f (op := 5) (by decide) w') (fun e w2 h => ⟨_, h.1, h.2, rfl⟩) })) ?_
        refine Rc (ct (s := ([40] ++ s0) ++ [32]) (t := opW 5) (Od.lc 6 56) (Od.lc 9 59) (by simp only [List.length_append, List.length_cons, List.length_nil]; have := HLB.out; omega)) ?_
        refine Rc (ct (s := (([40] ++ s0) ++ [32]) ++ (opW 5)) (t := [32]) (Od.lc 10 60) Od.con (by simp only [List.length_append, List.length_cons, List.length_nil]; have := HLB.out; omega)) ?_
        refine Rc (fa (fa_Nd6 G0) (Od.lit 1)) ?_
        refine Rc (lvC 7 B1 ld_Nds (Od.lc 12 62)) ?_
        refine Rc (ixq (ix_Nd g o cp nps 1 (by rw [← HNP.out]; decide)) (Od.lc 13 63) Od.con) ?_
        refine Rc (lv (Φ := IsV (.agg us1.toArray)) (.agg us1.toArray) (fun w' e => ldM (by kernel_rfl) (by kernel_rfl) HC1.out.1 (fun j v hj => (E1.trans e).cell (HC1.out.2.1 j v hj))) (Od.lc 14 64) (fun _ _ => rfl)) ?_
        refine Rc (cl1 (Χ := IsV (encS (s1))) (en Tryz.func38) (Od.lc (Φ := IsV (.agg us1.toArray)) 15 65) (fun x0 w' hE d0 => by { obtain rfl : x0 = .agg us1.toArray := d0; exact Calls.mono (HS1.out w' (E1.trans hE)) (fun e w2 h => ⟨_, h.1, h.2, rfl⟩) })) ?_
        refine Rc (ct (s := ((([40] ++ s0) ++ [32]) ++ (opW 5)) ++ [32]) (t := s1) (Od.lc 11 61) (Od.lc 16 66) (by simp only [List.length_append, List.length_cons, List.length_nil]; have := HLB.out; omega)) ?_
        refine Rc (ct (s := (((([40] ++ s0) ++ [32]) ++ (opW 5)) ++ [32]) ++ s1) (t := [41]) (Od.lc 17 67) Od.con (by simp only [List.length_append, List.length_cons, List.length_nil]; have := HLB.out; omega)) ?_
        refine Rc (mv (Od.lc 18 68)) ?_
        exact RgAll.nil
      intro u X2 e2 hΦ _
      have q6 : u 19 = encS (shN (k + 1) x) := (show u 19 = (encS (((((([40] ++ s0) ++ [32]) ++ (opW 5)) ++ [32]) ++ s1) ++ [41])) from hΦ 19 (by decide)).trans (congrArg encS HSH.out.symm)
      have E2 := hid (E1.trans e2)
      simp only [layL, Act.put, List.setIfInBounds_toArray, List.set_cons_zero, List.set_cons_succ, Nat.reduceAdd]
      rw [q6]
      clear hΦ q6
      refine wpAny_done (by kernel_rfl) ?_ _
      clear B1 e2 E1
      go_wp2_with fail
      go_ret
      exact ⟨rfl, E2.out⟩
    · subst h1
      have HSH := hid (HSI.out (by decide))
      go_upto_region 9 with (fail)
      clear c0
      refine rg 20 [some 50, some 51, some 52, some 53, some 54, some 55, some 56, some 57, some 58, some 59, some 60, some 61, some 62, some 63, some 64, some 65, some 66, some 67, some 68, some 2] [IsV (.pointer (some ⟨G0, 7, none⟩)), IsV (.slice (some ⟨g, o, none⟩) nps cp), IsV (.pointer (some ⟨g, o + 8 * 0, none⟩)), IsV (.agg us0.toArray), IsV (encS (s0)), IsV (encS (([40]) ++ (s0))), IsV (encS (([40] ++ s0) ++ ([32]))), IsV (.pointer (some ⟨G0, 0, none⟩)), IsV (.int .i64 6), IsV (encS (opW 6)), IsV (encS ((([40] ++ s0) ++ [32]) ++ (opW 6))), IsV (encS (((([40] ++ s0) ++ [32]) ++ (opW 6)) ++ ([32]))), IsV (.pointer (some ⟨G0, 7, none⟩)), IsV (.slice (some ⟨g, o, none⟩) nps cp), IsV (.pointer (some ⟨g, o + 8 * 1, none⟩)), IsV (.agg us1.toArray), IsV (encS (s1)), IsV (encS ((((([40] ++ s0) ++ [32]) ++ (opW 6)) ++ [32]) ++ (s1))), IsV (encS (((((([40] ++ s0) ++ [32]) ++ (opW 6)) ++ [32]) ++ s1) ++ ([41]))), IsV (encS (((((([40] ++ s0) ++ [32]) ++ (opW 6)) ++ [32]) ++ s1) ++ [41]))] [] 0 ?_ ?_ (hst := by repeat' (first | exact trivial | exact IsV.stb _ | apply And.intro))
      · refine Rc (fa (fa_Nd6 G0) (Od.lit 1)) ?_
        refine Rc (lvC 7 B1 ld_Nds (Od.lc 0 50)) ?_
        refine Rc (ixq (ix_Nd g o cp nps 0 (by rw [← HNP.out]; decide)) (Od.lc 1 51) Od.con) ?_
        refine Rc (lv (Φ := IsV (.agg us0.toArray)) (.agg us0.toArray) (fun w' e => ldM (by kernel_rfl) (by kernel_rfl) HC0.out.1 (fun j v hj => (E1.trans e).cell (HC0.out.2.1 j v hj))) (Od.lc 2 52) (fun _ _ => rfl)) ?_
        refine Rc (cl1 (Χ := IsV (encS (s0))) (en Tryz.func38) (Od.lc (Φ := IsV (.agg us0.toArray)) 3 53) (fun x0 w' hE d0 => by { obtain rfl : x0 = .agg us0.toArray := d0; exact Calls.mono (HS0.out w' (E1.trans hE)) (fun e w2 h => ⟨_, h.1, h.2, rfl⟩) })) ?_
        refine Rc (ct (s := [40]) (t := s0) Od.con (Od.lc 4 54) (by simp only [List.length_cons, List.length_nil]; have := HLB.out; omega)) ?_
        refine Rc (ct (s := [40] ++ s0) (t := [32]) (Od.lc 5 55) Od.con (by simp only [List.length_append, List.length_cons, List.length_nil]; have := HLB.out; omega)) ?_
        refine Rc (fa (fa_Nd0 G0) (Od.lit 1)) ?_
        refine Rc (lvC 0 B1 ld_i (Od.lc 7 57)) ?_
        refine Rc (cl1 (Χ := IsV (encS (opW 6))) (en Tryz.func73) (Od.lc (Φ := IsV (.int .i64 6)) 8 58) (fun x0 w' hE d0 => by { obtain rfl : x0 = .int .i64 6 := d0; exact Calls.mono (word42_f (op := 6) (by decide) w') (fun e w2 h => ⟨_, h.1, h.2, rfl⟩) })) ?_
        refine Rc (ct (s := ([40] ++ s0) ++ [32]) (t := opW 6) (Od.lc 6 56) (Od.lc 9 59) (by simp only [List.length_append, List.length_cons, List.length_nil]; have := HLB.out; omega)) ?_
        refine Rc (ct (s := (([40] ++ s0) ++ [32]) ++ (opW 6)) (t := [32]) (Od.lc 10 60) Od.con (by simp only [List.length_append, List.length_cons, List.length_nil]; have := HLB.out; omega)) ?_
        refine Rc (fa (fa_Nd6 G0) (Od.lit 1)) ?_
        refine Rc (lvC 7 B1 ld_Nds (Od.lc 12 62)) ?_
        refine Rc (ixq (ix_Nd g o cp nps 1 (by rw [← HNP.out]; decide)) (Od.lc 13 63) Od.con) ?_
        refine Rc (lv (Φ := IsV (.agg us1.toArray)) (.agg us1.toArray) (fun w' e => ldM (by kernel_rfl) (by kernel_rfl) HC1.out.1 (fun j v hj => (E1.trans e).cell (HC1.out.2.1 j v hj))) (Od.lc 14 64) (fun _ _ => rfl)) ?_
        refine Rc (cl1 (Χ := IsV (encS (s1))) (en Tryz.func38) (Od.lc (Φ := IsV (.agg us1.toArray)) 15 65) (fun x0 w' hE d0 => by { obtain rfl : x0 = .agg us1.toArray := d0; exact Calls.mono (HS1.out w' (E1.trans hE)) (fun e w2 h => ⟨_, h.1, h.2, rfl⟩) })) ?_
        refine Rc (ct (s := ((([40] ++ s0) ++ [32]) ++ (opW 6)) ++ [32]) (t := s1) (Od.lc 11 61) (Od.lc 16 66) (by simp only [List.length_append, List.length_cons, List.length_nil]; have := HLB.out; omega)) ?_
        refine Rc (ct (s := (((([40] ++ s0) ++ [32]) ++ (opW 6)) ++ [32]) ++ s1) (t := [41]) (Od.lc 17 67) Od.con (by simp only [List.length_append, List.length_cons, List.length_nil]; have := HLB.out; omega)) ?_
        refine Rc (mv (Od.lc 18 68)) ?_
        exact RgAll.nil
      intro u X2 e2 hΦ _
      have q6 : u 19 = encS (shN (k + 1) x) := (show u 19 = (encS (((((([40] ++ s0) ++ [32]) ++ (opW 6)) ++ [32]) ++ s1) ++ [41])) from hΦ 19 (by decide)).trans (congrArg encS HSH.out.symm)
      have E2 := hid (E1.trans e2)
      simp only [layL, Act.put, List.setIfInBounds_toArray, List.set_cons_zero, List.set_cons_succ, Nat.reduceAdd]
      rw [q6]
      clear hΦ q6
      refine wpAny_done (by kernel_rfl) ?_ _
      clear B1 e2 E1
      go_wp2_with fail
      go_ret
      exact ⟨rfl, E2.out⟩
    · subst h1
      have HSH := hid (HSJ.out (by decide))
      have HT2 := hid (fun w => two_f 7 w)
      have HT2 : Hid (∀ w, Calls Tryz.prog 63 #[.int .i64 7] w (RSame w (.bool true))) := HT2
      go_upto_region 11 with (go_at_call 63; go_must (refine Calls.mono (HT2.out _) ?_; rintro e w1 ⟨rfl, rfl⟩))
      clear c0
      refine rg 19 [some 72, some 73, some 74, some 75, some 76, some 77, some 78, some 79, some 80, some 81, some 82, some 83, some 84, some 85, some 86, some 87, some 88, some 89, some 2] [IsV (.pointer (some ⟨G0, 0, none⟩)), IsV (.int .i64 7), IsV (encS (opW 7)), IsV (encS ((opW 7) ++ ([40]))), IsV (.pointer (some ⟨G0, 7, none⟩)), IsV (.slice (some ⟨g, o, none⟩) nps cp), IsV (.pointer (some ⟨g, o + 8 * 0, none⟩)), IsV (.agg us0.toArray), IsV (encS (s0)), IsV (encS (((opW 7) ++ [40]) ++ (s0))), IsV (encS ((((opW 7) ++ [40]) ++ s0) ++ ([44, 32]))), IsV (.pointer (some ⟨G0, 7, none⟩)), IsV (.slice (some ⟨g, o, none⟩) nps cp), IsV (.pointer (some ⟨g, o + 8 * 1, none⟩)), IsV (.agg us1.toArray), IsV (encS (s1)), IsV (encS (((((opW 7) ++ [40]) ++ s0) ++ [44, 32]) ++ (s1))), IsV (encS ((((((opW 7) ++ [40]) ++ s0) ++ [44, 32]) ++ s1) ++ ([41]))), IsV (encS ((((((opW 7) ++ [40]) ++ s0) ++ [44, 32]) ++ s1) ++ [41]))] [] 0 ?_ ?_ (hst := by repeat' (first | exact trivial | exact IsV.stb _ | apply And.intro))
      · refine Rc (fa (fa_Nd0 G0) (Od.lit 1)) ?_
        refine Rc (lvC 0 B1 ld_i (Od.lc 0 72)) ?_
        refine Rc (cl1 (Χ := IsV (encS (opW 7))) (en Tryz.func73) (Od.lc (Φ := IsV (.int .i64 7)) 1 73) (fun x0 w' hE d0 => by { obtain rfl : x0 = .int .i64 7 := d0; exact Calls.mono (word42_f (op := 7) (by decide) w') (fun e w2 h => ⟨_, h.1, h.2, rfl⟩) })) ?_
        refine Rc (ct (s := opW 7) (t := [40]) (Od.lc 2 74) Od.con (by simp only [List.length_cons, List.length_nil]; have := HLB.out; omega)) ?_
        refine Rc (fa (fa_Nd6 G0) (Od.lit 1)) ?_
        refine Rc (lvC 7 B1 ld_Nds (Od.lc 4 76)) ?_
        refine Rc (ixq (ix_Nd g o cp nps 0 (by rw [← HNP.out]; decide)) (Od.lc 5 77) Od.con) ?_
        refine Rc (lv (Φ := IsV (.agg us0.toArray)) (.agg us0.toArray) (fun w' e => ldM (by kernel_rfl) (by kernel_rfl) HC0.out.1 (fun j v hj => (E1.trans e).cell (HC0.out.2.1 j v hj))) (Od.lc 6 78) (fun _ _ => rfl)) ?_
        refine Rc (cl1 (Χ := IsV (encS (s0))) (en Tryz.func38) (Od.lc (Φ := IsV (.agg us0.toArray)) 7 79) (fun x0 w' hE d0 => by { obtain rfl : x0 = .agg us0.toArray := d0; exact Calls.mono (HS0.out w' (E1.trans hE)) (fun e w2 h => ⟨_, h.1, h.2, rfl⟩) })) ?_
        refine Rc (ct (s := (opW 7) ++ [40]) (t := s0) (Od.lc 3 75) (Od.lc 8 80) (by simp only [List.length_append, List.length_cons, List.length_nil]; have := HLB.out; omega)) ?_
        refine Rc (ct (s := ((opW 7) ++ [40]) ++ s0) (t := [44, 32]) (Od.lc 9 81) Od.con (by simp only [List.length_append, List.length_cons, List.length_nil]; have := HLB.out; omega)) ?_
        refine Rc (fa (fa_Nd6 G0) (Od.lit 1)) ?_
        refine Rc (lvC 7 B1 ld_Nds (Od.lc 11 83)) ?_
        refine Rc (ixq (ix_Nd g o cp nps 1 (by rw [← HNP.out]; decide)) (Od.lc 12 84) Od.con) ?_
        refine Rc (lv (Φ := IsV (.agg us1.toArray)) (.agg us1.toArray) (fun w' e => ldM (by kernel_rfl) (by kernel_rfl) HC1.out.1 (fun j v hj => (E1.trans e).cell (HC1.out.2.1 j v hj))) (Od.lc 13 85) (fun _ _ => rfl)) ?_
        refine Rc (cl1 (Χ := IsV (encS (s1))) (en Tryz.func38) (Od.lc (Φ := IsV (.agg us1.toArray)) 14 86) (fun x0 w' hE d0 => by { obtain rfl : x0 = .agg us1.toArray := d0; exact Calls.mono (HS1.out w' (E1.trans hE)) (fun e w2 h => ⟨_, h.1, h.2, rfl⟩) })) ?_
        refine Rc (ct (s := (((opW 7) ++ [40]) ++ s0) ++ [44, 32]) (t := s1) (Od.lc 10 82) (Od.lc 15 87) (by simp only [List.length_append, List.length_cons, List.length_nil]; have := HLB.out; omega)) ?_
        refine Rc (ct (s := ((((opW 7) ++ [40]) ++ s0) ++ [44, 32]) ++ s1) (t := [41]) (Od.lc 16 88) Od.con (by simp only [List.length_append, List.length_cons, List.length_nil]; have := HLB.out; omega)) ?_
        refine Rc (mv (Od.lc 17 89)) ?_
        exact RgAll.nil
      intro u X2 e2 hΦ _
      have q6 : u 18 = encS (shN (k + 1) x) := (show u 18 = (encS ((((((opW 7) ++ [40]) ++ s0) ++ [44, 32]) ++ s1) ++ [41])) from hΦ 18 (by decide)).trans (congrArg encS HSH.out.symm)
      have E2 := hid (E1.trans e2)
      simp only [layL, Act.put, List.setIfInBounds_toArray, List.set_cons_zero, List.set_cons_succ, Nat.reduceAdd]
      rw [q6]
      clear hΦ q6
      refine wpAny_done (by kernel_rfl) ?_ _
      clear B1 e2 E1
      go_wp2_with fail
      go_ret
      exact ⟨rfl, E2.out⟩
    · subst h1
      have HSH := hid (HSJ.out (by decide))
      have HT2 := hid (fun w => two_f 8 w)
      have HT2 : Hid (∀ w, Calls Tryz.prog 63 #[.int .i64 8] w (RSame w (.bool true))) := HT2
      go_upto_region 11 with (go_at_call 63; go_must (refine Calls.mono (HT2.out _) ?_; rintro e w1 ⟨rfl, rfl⟩))
      clear c0
      refine rg 19 [some 72, some 73, some 74, some 75, some 76, some 77, some 78, some 79, some 80, some 81, some 82, some 83, some 84, some 85, some 86, some 87, some 88, some 89, some 2] [IsV (.pointer (some ⟨G0, 0, none⟩)), IsV (.int .i64 8), IsV (encS (opW 8)), IsV (encS ((opW 8) ++ ([40]))), IsV (.pointer (some ⟨G0, 7, none⟩)), IsV (.slice (some ⟨g, o, none⟩) nps cp), IsV (.pointer (some ⟨g, o + 8 * 0, none⟩)), IsV (.agg us0.toArray), IsV (encS (s0)), IsV (encS (((opW 8) ++ [40]) ++ (s0))), IsV (encS ((((opW 8) ++ [40]) ++ s0) ++ ([44, 32]))), IsV (.pointer (some ⟨G0, 7, none⟩)), IsV (.slice (some ⟨g, o, none⟩) nps cp), IsV (.pointer (some ⟨g, o + 8 * 1, none⟩)), IsV (.agg us1.toArray), IsV (encS (s1)), IsV (encS (((((opW 8) ++ [40]) ++ s0) ++ [44, 32]) ++ (s1))), IsV (encS ((((((opW 8) ++ [40]) ++ s0) ++ [44, 32]) ++ s1) ++ ([41]))), IsV (encS ((((((opW 8) ++ [40]) ++ s0) ++ [44, 32]) ++ s1) ++ [41]))] [] 0 ?_ ?_ (hst := by repeat' (first | exact trivial | exact IsV.stb _ | apply And.intro))
      · refine Rc (fa (fa_Nd0 G0) (Od.lit 1)) ?_
        refine Rc (lvC 0 B1 ld_i (Od.lc 0 72)) ?_
        refine Rc (cl1 (Χ := IsV (encS (opW 8))) (en Tryz.func73) (Od.lc (Φ := IsV (.int .i64 8)) 1 73) (fun x0 w' hE d0 => by { obtain rfl : x0 = .int .i64 8 := d0; exact Calls.mono (word42_f (op := 8) (by decide) w') (fun e w2 h => ⟨_, h.1, h.2, rfl⟩) })) ?_
        refine Rc (ct (s := opW 8) (t := [40]) (Od.lc 2 74) Od.con (by simp only [List.length_cons, List.length_nil]; have := HLB.out; omega)) ?_
        refine Rc (fa (fa_Nd6 G0) (Od.lit 1)) ?_
        refine Rc (lvC 7 B1 ld_Nds (Od.lc 4 76)) ?_
        refine Rc (ixq (ix_Nd g o cp nps 0 (by rw [← HNP.out]; decide)) (Od.lc 5 77) Od.con) ?_
        refine Rc (lv (Φ := IsV (.agg us0.toArray)) (.agg us0.toArray) (fun w' e => ldM (by kernel_rfl) (by kernel_rfl) HC0.out.1 (fun j v hj => (E1.trans e).cell (HC0.out.2.1 j v hj))) (Od.lc 6 78) (fun _ _ => rfl)) ?_
        refine Rc (cl1 (Χ := IsV (encS (s0))) (en Tryz.func38) (Od.lc (Φ := IsV (.agg us0.toArray)) 7 79) (fun x0 w' hE d0 => by { obtain rfl : x0 = .agg us0.toArray := d0; exact Calls.mono (HS0.out w' (E1.trans hE)) (fun e w2 h => ⟨_, h.1, h.2, rfl⟩) })) ?_
        refine Rc (ct (s := (opW 8) ++ [40]) (t := s0) (Od.lc 3 75) (Od.lc 8 80) (by simp only [List.length_append, List.length_cons, List.length_nil]; have := HLB.out; omega)) ?_
        refine Rc (ct (s := ((opW 8) ++ [40]) ++ s0) (t := [44, 32]) (Od.lc 9 81) Od.con (by simp only [List.length_append, List.length_cons, List.length_nil]; have := HLB.out; omega)) ?_
        refine Rc (fa (fa_Nd6 G0) (Od.lit 1)) ?_
        refine Rc (lvC 7 B1 ld_Nds (Od.lc 11 83)) ?_
        refine Rc (ixq (ix_Nd g o cp nps 1 (by rw [← HNP.out]; decide)) (Od.lc 12 84) Od.con) ?_
        refine Rc (lv (Φ := IsV (.agg us1.toArray)) (.agg us1.toArray) (fun w' e => ldM (by kernel_rfl) (by kernel_rfl) HC1.out.1 (fun j v hj => (E1.trans e).cell (HC1.out.2.1 j v hj))) (Od.lc 13 85) (fun _ _ => rfl)) ?_
        refine Rc (cl1 (Χ := IsV (encS (s1))) (en Tryz.func38) (Od.lc (Φ := IsV (.agg us1.toArray)) 14 86) (fun x0 w' hE d0 => by { obtain rfl : x0 = .agg us1.toArray := d0; exact Calls.mono (HS1.out w' (E1.trans hE)) (fun e w2 h => ⟨_, h.1, h.2, rfl⟩) })) ?_
        refine Rc (ct (s := (((opW 8) ++ [40]) ++ s0) ++ [44, 32]) (t := s1) (Od.lc 10 82) (Od.lc 15 87) (by simp only [List.length_append, List.length_cons, List.length_nil]; have := HLB.out; omega)) ?_
        refine Rc (ct (s := ((((opW 8) ++ [40]) ++ s0) ++ [44, 32]) ++ s1) (t := [41]) (Od.lc 16 88) Od.con (by simp only [List.length_append, List.length_cons, List.length_nil]; have := HLB.out; omega)) ?_
        refine Rc (mv (Od.lc 17 89)) ?_
        exact RgAll.nil
      intro u X2 e2 hΦ _
      have q6 : u 18 = encS (shN (k + 1) x) := (show u 18 = (encS ((((((opW 8) ++ [40]) ++ s0) ++ [44, 32]) ++ s1) ++ [41])) from hΦ 18 (by decide)).trans (congrArg encS HSH.out.symm)
      have E2 := hid (E1.trans e2)
      simp only [layL, Act.put, List.setIfInBounds_toArray, List.set_cons_zero, List.set_cons_succ, Nat.reduceAdd]
      rw [q6]
      clear hΦ q6
      refine wpAny_done (by kernel_rfl) ?_ _
      clear B1 e2 E1
      go_wp2_with fail
      go_ret
      exact ⟨rfl, E2.out⟩
    · subst h1
      have HSH := hid (HSJ.out (by decide))
      have HT2 := hid (fun w => two_f 12 w)
      have HT2 : Hid (∀ w, Calls Tryz.prog 63 #[.int .i64 12] w (RSame w (.bool true))) := HT2
      go_upto_region 11 with (go_at_call 63; go_must (refine Calls.mono (HT2.out _) ?_; rintro e w1 ⟨rfl, rfl⟩))
      clear c0
      refine rg 19 [some 72, some 73, some 74, some 75, some 76, some 77, some 78, some 79, some 80, some 81, some 82, some 83, some 84, some 85, some 86, some 87, some 88, some 89, some 2] [IsV (.pointer (some ⟨G0, 0, none⟩)), IsV (.int .i64 12), IsV (encS (opW 12)), IsV (encS ((opW 12) ++ ([40]))), IsV (.pointer (some ⟨G0, 7, none⟩)), IsV (.slice (some ⟨g, o, none⟩) nps cp), IsV (.pointer (some ⟨g, o + 8 * 0, none⟩)), IsV (.agg us0.toArray), IsV (encS (s0)), IsV (encS (((opW 12) ++ [40]) ++ (s0))), IsV (encS ((((opW 12) ++ [40]) ++ s0) ++ ([44, 32]))), IsV (.pointer (some ⟨G0, 7, none⟩)), IsV (.slice (some ⟨g, o, none⟩) nps cp), IsV (.pointer (some ⟨g, o + 8 * 1, none⟩)), IsV (.agg us1.toArray), IsV (encS (s1)), IsV (encS (((((opW 12) ++ [40]) ++ s0) ++ [44, 32]) ++ (s1))), IsV (encS ((((((opW 12) ++ [40]) ++ s0) ++ [44, 32]) ++ s1) ++ ([41]))), IsV (encS ((((((opW 12) ++ [40]) ++ s0) ++ [44, 32]) ++ s1) ++ [41]))] [] 0 ?_ ?_ (hst := by repeat' (first | exact trivial | exact IsV.stb _ | apply And.intro))
      · refine Rc (fa (fa_Nd0 G0) (Od.lit 1)) ?_
        refine Rc (lvC 0 B1 ld_i (Od.lc 0 72)) ?_
        refine Rc (cl1 (Χ := IsV (encS (opW 12))) (en Tryz.func73) (Od.lc (Φ := IsV (.int .i64 12)) 1 73) (fun x0 w' hE d0 => by { obtain rfl : x0 = .int .i64 12 := d0; exact Calls.mono (word42_f (op := 12) (by decide) w') (fun e w2 h => ⟨_, h.1, h.2, rfl⟩) })) ?_
        refine Rc (ct (s := opW 12) (t := [40]) (Od.lc 2 74) Od.con (by simp only [List.length_cons, List.length_nil]; have := HLB.out; omega)) ?_
        refine Rc (fa (fa_Nd6 G0) (Od.lit 1)) ?_
        refine Rc (lvC 7 B1 ld_Nds (Od.lc 4 76)) ?_
        refine Rc (ixq (ix_Nd g o cp nps 0 (by rw [← HNP.out]; decide)) (Od.lc 5 77) Od.con) ?_
        refine Rc (lv (Φ := IsV (.agg us0.toArray)) (.agg us0.toArray) (fun w' e => ldM (by kernel_rfl) (by kernel_rfl) HC0.out.1 (fun j v hj => (E1.trans e).cell (HC0.out.2.1 j v hj))) (Od.lc 6 78) (fun _ _ => rfl)) ?_
        refine Rc (cl1 (Χ := IsV (encS (s0))) (en Tryz.func38) (Od.lc (Φ := IsV (.agg us0.toArray)) 7 79) (fun x0 w' hE d0 => by { obtain rfl : x0 = .agg us0.toArray := d0; exact Calls.mono (HS0.out w' (E1.trans hE)) (fun e w2 h => ⟨_, h.1, h.2, rfl⟩) })) ?_
        refine Rc (ct (s := (opW 12) ++ [40]) (t := s0) (Od.lc 3 75) (Od.lc 8 80) (by simp only [List.length_append, List.length_cons, List.length_nil]; have := HLB.out; omega)) ?_
        refine Rc (ct (s := ((opW 12) ++ [40]) ++ s0) (t := [44, 32]) (Od.lc 9 81) Od.con (by simp only [List.length_append, List.length_cons, List.length_nil]; have := HLB.out; omega)) ?_
        refine Rc (fa (fa_Nd6 G0) (Od.lit 1)) ?_
        refine Rc (lvC 7 B1 ld_Nds (Od.lc 11 83)) ?_
        refine Rc (ixq (ix_Nd g o cp nps 1 (by rw [← HNP.out]; decide)) (Od.lc 12 84) Od.con) ?_
        refine Rc (lv (Φ := IsV (.agg us1.toArray)) (.agg us1.toArray) (fun w' e => ldM (by kernel_rfl) (by kernel_rfl) HC1.out.1 (fun j v hj => (E1.trans e).cell (HC1.out.2.1 j v hj))) (Od.lc 13 85) (fun _ _ => rfl)) ?_
        refine Rc (cl1 (Χ := IsV (encS (s1))) (en Tryz.func38) (Od.lc (Φ := IsV (.agg us1.toArray)) 14 86) (fun x0 w' hE d0 => by { obtain rfl : x0 = .agg us1.toArray := d0; exact Calls.mono (HS1.out w' (E1.trans hE)) (fun e w2 h => ⟨_, h.1, h.2, rfl⟩) })) ?_
        refine Rc (ct (s := (((opW 12) ++ [40]) ++ s0) ++ [44, 32]) (t := s1) (Od.lc 10 82) (Od.lc 15 87) (by simp only [List.length_append, List.length_cons, List.length_nil]; have := HLB.out; omega)) ?_
        refine Rc (ct (s := ((((opW 12) ++ [40]) ++ s0) ++ [44, 32]) ++ s1) (t := [41]) (Od.lc 16 88) Od.con (by simp only [List.length_append, List.length_cons, List.length_nil]; have := HLB.out; omega)) ?_
        refine Rc (mv (Od.lc 17 89)) ?_
        exact RgAll.nil
      intro u X2 e2 hΦ _
      have q6 : u 18 = encS (shN (k + 1) x) := (show u 18 = (encS ((((((opW 12) ++ [40]) ++ s0) ++ [44, 32]) ++ s1) ++ [41])) from hΦ 18 (by decide)).trans (congrArg encS HSH.out.symm)
      have E2 := hid (E1.trans e2)
      simp only [layL, Act.put, List.setIfInBounds_toArray, List.set_cons_zero, List.set_cons_succ, Nat.reduceAdd]
      rw [q6]
      clear hΦ q6
      refine wpAny_done (by kernel_rfl) ?_ _
      clear B1 e2 E1
      go_wp2_with fail
      go_ret
      exact ⟨rfl, E2.out⟩
    · subst h1
      have HSH := hid (HSJ.out (by decide))
      have HT2 := hid (fun w => two_f 13 w)
      have HT2 : Hid (∀ w, Calls Tryz.prog 63 #[.int .i64 13] w (RSame w (.bool true))) := HT2
      go_upto_region 11 with (go_at_call 63; go_must (refine Calls.mono (HT2.out _) ?_; rintro e w1 ⟨rfl, rfl⟩))
      clear c0
      refine rg 19 [some 72, some 73, some 74, some 75, some 76, some 77, some 78, some 79, some 80, some 81, some 82, some 83, some 84, some 85, some 86, some 87, some 88, some 89, some 2] [IsV (.pointer (some ⟨G0, 0, none⟩)), IsV (.int .i64 13), IsV (encS (opW 13)), IsV (encS ((opW 13) ++ ([40]))), IsV (.pointer (some ⟨G0, 7, none⟩)), IsV (.slice (some ⟨g, o, none⟩) nps cp), IsV (.pointer (some ⟨g, o + 8 * 0, none⟩)), IsV (.agg us0.toArray), IsV (encS (s0)), IsV (encS (((opW 13) ++ [40]) ++ (s0))), IsV (encS ((((opW 13) ++ [40]) ++ s0) ++ ([44, 32]))), IsV (.pointer (some ⟨G0, 7, none⟩)), IsV (.slice (some ⟨g, o, none⟩) nps cp), IsV (.pointer (some ⟨g, o + 8 * 1, none⟩)), IsV (.agg us1.toArray), IsV (encS (s1)), IsV (encS (((((opW 13) ++ [40]) ++ s0) ++ [44, 32]) ++ (s1))), IsV (encS ((((((opW 13) ++ [40]) ++ s0) ++ [44, 32]) ++ s1) ++ ([41]))), IsV (encS ((((((opW 13) ++ [40]) ++ s0) ++ [44, 32]) ++ s1) ++ [41]))] [] 0 ?_ ?_ (hst := by repeat' (first | exact trivial | exact IsV.stb _ | apply And.intro))
      · refine Rc (fa (fa_Nd0 G0) (Od.lit 1)) ?_
        refine Rc (lvC 0 B1 ld_i (Od.lc 0 72)) ?_
        refine Rc (cl1 (Χ := IsV (encS (opW 13))) (en Tryz.func73) (Od.lc (Φ := IsV (.int .i64 13)) 1 73) (fun x0 w' hE d0 => by { obtain rfl : x0 = .int .i64 13 := d0; exact Calls.mono (word42_f (op := 13) (by decide) w') (fun e w2 h => ⟨_, h.1, h.2, rfl⟩) })) ?_
        refine Rc (ct (s := opW 13) (t := [40]) (Od.lc 2 74) Od.con (by simp only [List.length_cons, List.length_nil]; have := HLB.out; omega)) ?_
        refine Rc (fa (fa_Nd6 G0) (Od.lit 1)) ?_
        refine Rc (lvC 7 B1 ld_Nds (Od.lc 4 76)) ?_
        refine Rc (ixq (ix_Nd g o cp nps 0 (by rw [← HNP.out]; decide)) (Od.lc 5 77) Od.con) ?_
        refine Rc (lv (Φ := IsV (.agg us0.toArray)) (.agg us0.toArray) (fun w' e => ldM (by kernel_rfl) (by kernel_rfl) HC0.out.1 (fun j v hj => (E1.trans e).cell (HC0.out.2.1 j v hj))) (Od.lc 6 78) (fun _ _ => rfl)) ?_
        refine Rc (cl1 (Χ := IsV (encS (s0))) (en Tryz.func38) (Od.lc (Φ := IsV (.agg us0.toArray)) 7 79) (fun x0 w' hE d0 => by { obtain rfl : x0 = .agg us0.toArray := d0; exact Calls.mono (HS0.out w' (E1.trans hE)) (fun e w2 h => ⟨_, h.1, h.2, rfl⟩) })) ?_
        refine Rc (ct (s := (opW 13) ++ [40]) (t := s0) (Od.lc 3 75) (Od.lc 8 80) (by simp only [List.length_append, List.length_cons, List.length_nil]; have := HLB.out; omega)) ?_
        refine Rc (ct (s := ((opW 13) ++ [40]) ++ s0) (t := [44, 32]) (Od.lc 9 81) Od.con (by simp only [List.length_append, List.length_cons, List.length_nil]; have := HLB.out; omega)) ?_
        refine Rc (fa (fa_Nd6 G0) (Od.lit 1)) ?_
        refine Rc (lvC 7 B1 ld_Nds (Od.lc 11 83)) ?_
        refine Rc (ixq (ix_Nd g o cp nps 1 (by rw [← HNP.out]; decide)) (Od.lc 12 84) Od.con) ?_
        refine Rc (lv (Φ := IsV (.agg us1.toArray)) (.agg us1.toArray) (fun w' e => ldM (by kernel_rfl) (by kernel_rfl) HC1.out.1 (fun j v hj => (E1.trans e).cell (HC1.out.2.1 j v hj))) (Od.lc 13 85) (fun _ _ => rfl)) ?_
        refine Rc (cl1 (Χ := IsV (encS (s1))) (en Tryz.func38) (Od.lc (Φ := IsV (.agg us1.toArray)) 14 86) (fun x0 w' hE d0 => by { obtain rfl : x0 = .agg us1.toArray := d0; exact Calls.mono (HS1.out w' (E1.trans hE)) (fun e w2 h => ⟨_, h.1, h.2, rfl⟩) })) ?_
        refine Rc (ct (s := (((opW 13) ++ [40]) ++ s0) ++ [44, 32]) (t := s1) (Od.lc 10 82) (Od.lc 15 87) (by simp only [List.length_append, List.length_cons, List.length_nil]; have := HLB.out; omega)) ?_
        refine Rc (ct (s := ((((opW 13) ++ [40]) ++ s0) ++ [44, 32]) ++ s1) (t := [41]) (Od.lc 16 88) Od.con (by simp only [List.length_append, List.length_cons, List.length_nil]; have := HLB.out; omega)) ?_
        refine Rc (mv (Od.lc 17 89)) ?_
        exact RgAll.nil
      intro u X2 e2 hΦ _
      have q6 : u 18 = encS (shN (k + 1) x) := (show u 18 = (encS ((((((opW 13) ++ [40]) ++ s0) ++ [44, 32]) ++ s1) ++ [41])) from hΦ 18 (by decide)).trans (congrArg encS HSH.out.symm)
      have E2 := hid (E1.trans e2)
      simp only [layL, Act.put, List.setIfInBounds_toArray, List.set_cons_zero, List.set_cons_succ, Nat.reduceAdd]
      rw [q6]
      clear hΦ q6
      refine wpAny_done (by kernel_rfl) ?_ _
      clear B1 e2 E1
      go_wp2_with fail
      go_ret
      exact ⟨rfl, E2.out⟩
end
end Go.Proofs.YtenhciieboegbaaGreatDoor
