/-
 Long division of naturals in package integer. At most 2^28 words each, the divisor not 0. What the loops of long division keep in memory. No program beyond the type of a word.
-/
import Derived.Test.YtkeikfekkdplgaaGreatDoorDivW
import Derived.Test.YtkeikfekkdplgaaGreatDoorCmp
namespace Go.Proofs.YtkeikfekkdplgaaGreatDoor
open Go Go.RowKit

/-- Hands back two naturals. -/
def RDiv (w0 : World) (k1 k2 q r : Nat) (e : Ending) (w' : World) : Prop :=
 ∃ ao n cap ao' n' cap', e = .returned (.tuple #[.slice ao n cap, .slice ao' n' cap']) ∧ Ext w0 w' ∧ NatAt w' k1 ao n cap q ∧ NatAt w' k2 ao' n' cap' r

theorem NatAt.lt {w : World} {k n cap m : Nat} {ao : Option Addr} (h : NatAt w k ao n cap m) : m < 4294967296 ^ n := by
 obtain ⟨xs, h1, h2, h3, h4⟩ := h
 have := natVal_lt xs h1.lt
 rw [h1.len, h4] at this; exact this
theorem NatAt.ge {w : World} {k n cap m : Nat} {ao : Option Addr} (h : NatAt w k ao n cap m) (hn : 0 < n) : 4294967296 ^ (n - 1) ≤ m := by
 obtain ⟨xs, h1, h2, h3, h4⟩ := h
 have := natVal_ge xs (by rw [h1.len]; exact hn) (by rw [h1.len]; exact h3 hn)
 rw [h1.len, h4] at this; exact this
/-- As many words as the value wants. -/
theorem NatAt.tight {w : World} {k k' n cap m : Nat} {ao : Option Addr} (h : NatAt w k ao n cap m) (hm : m < 4294967296 ^ k') : NatAt w k' ao n cap m := by
 have hn : n ≤ k' := by
  rcases Nat.eq_zero_or_pos n with h0 | h0
  ·omega
  ·have h1 := h.ge h0
   have := (Nat.pow_lt_pow_iff_right (a := 4294967296) (by omega)).1 (Nat.lt_of_le_of_lt h1 hm)
   omega
 obtain ⟨xs, h1, h2, h3⟩ := h
 exact ⟨xs, h1, hn, h3⟩
theorem NatAt.zero {w : World} {k n cap m : Nat} {ao : Option Addr} (h : NatAt w k ao n cap m) : m = 0 ↔ n = 0 := by
 constructor
 ·intro hm
  rcases Nat.eq_zero_or_pos n with h0 | h0
  ·exact h0
  ·have := h.ge h0
   have : 0 < 4294967296 ^ (n - 1) := Nat.pos_of_ne_zero (by simp)
   omega
 ·intro hn
  have := h.lt
  rw [hn] at this; simpa using this

/-- How many zero bits stand ahead in a word. -/
def lz (x : Nat) : Nat := 32 - bitLen x
theorem lz_bounds (x : Nat) (h0 : x ≠ 0) (h : x < 4294967296) : lz x < 32 ∧ 2147483648 ≤ x * 2 ^ lz x ∧ x * 2 ^ lz x < 4294967296 := by
 obtain ⟨k, h1, h2, h3⟩ := bitLen_bounds x h0
 have h4 := (lib_bitLen x h).2
 unfold lz
 have h5 : k ≤ 31 := by omega
 refine ⟨by omega, ?_, ?_⟩
 ·have e : (2147483648 : Nat) = 2 ^ k * 2 ^ (32 - bitLen x) := by rw [← Nat.pow_add, show k + (32 - bitLen x) = 31 from by omega]
  rw [e]; exact Nat.mul_le_mul_right _ h2
 ·have e : (4294967296 : Nat) = 2 ^ (k + 1) * 2 ^ (32 - bitLen x) := by rw [← Nat.pow_add, show k + 1 + (32 - bitLen x) = 32 from by omega]
  rw [e]; exact Nat.mul_lt_mul_of_pos_right h3 (Nat.pos_of_ne_zero (by simp))
theorem lz_c (x : Nat) (h : x < 4294967296) (w : World) : Calls Tryz.prog 237 #[.int .u32 x] w (RSame w (.int .i64 (lz x : Nat))) := by
 obtain ⟨h1, h2⟩ := lib_bitLen x h
 refine (Tryz.bits_LeadingZeros32 x w (by omega) (by omega)).mono ?_
 rintro e w' ⟨he, hw⟩
 exact ⟨by rw [he]; unfold lz; simp only [Int.toNat_natCast, h1]; congr 2; omega, hw.symm⟩

set_option maxRecDepth 100000 in
set_option maxHeartbeats 400000 in
theorem div_small (w : World) (a1 a2 : Option Addr) (n1 n2 c1 c2 k1 k2 x y : Nat) (h1 : NatAt w k1 a1 n1 c1 x) (h2 : NatAt w k2 a2 n2 c2 y) (s1 : k1 ≤ 268435456) (hlt : x < y) :
  Calls Tryz.prog 227 #[.slice a1 n1 c1, .slice a2 n2 c2] w (RDiv w k1 k2 (x / y) (x % y)) := by
 have hc := hid (cmp_c w a1 a2 n1 n2 c1 c2 k1 k2 x y h1 h2 (by omega))
 have hv : cmpI (x : Int) (y : Int) = -1 := cmpI_lt (by omega)
 have hy := h2.lt
 have hy' : y < 4294967296 ^ k2 := Nat.lt_of_lt_of_le hy (Nat.pow_le_pow_right (by omega) h2.le)
 have hr := hid (h1.tight (Nat.lt_trans hlt hy'))
 rw [Nat.div_eq_of_lt hlt, Nat.mod_eq_of_lt hlt]
 rw [hv] at hc
 clear h1 h2 hy hy' hv hlt
 go_enter Tryz.func227, Tryz.ntmps227
 go_wp2_with (go_at_call 192; refine (hc.out).mono ?_; rintro e w' ⟨rfl, he⟩)
 go_ret2
 exact ⟨_, _, _, _, _, _, rfl, he, ⟨[], wd_nil _ _ _ (by omega), by omega, by omega, rfl⟩, hr.out.ext he⟩

set_option maxRecDepth 100000 in
set_option maxHeartbeats 400000 in
theorem div_word (w : World) (a1 a2 : Option Addr) (n1 c1 c2 k1 k2 x y : Nat) (h1 : NatAt w k1 a1 n1 c1 x) (h2 : NatAt w k2 a2 1 c2 y) (s1 : k1 ≤ 268435456) (hge : y ≤ x) :
  Calls Tryz.prog 227 #[.slice a1 n1 c1, .slice a2 1 c2] w (RDiv w k1 k2 (x / y) (x % y)) := by
 have hc := hid (cmp_c w a1 a2 n1 1 c1 c2 k1 k2 x y h1 h2 (by omega))
 have hv : ∃ c : Int, cmpI (x : Int) (y : Int) = c ∧ 0 ≤ c := by
  rcases Nat.eq_or_lt_of_le hge with h | h
  ·exact ⟨0, cmpI_eq (by omega), by omega⟩
  ·exact ⟨1, cmpI_gt (by omega), by omega⟩
 obtain ⟨c, hv, hc0⟩ := hv
 rw [hv] at hc
 have hyl := h2.lt
 have hyp := h2.ge (by omega)
 have hk2 := h2.le
 simp only [Nat.pow_one, Nat.sub_self, Nat.pow_zero] at hyl hyp
 obtain ⟨ys, h2a, _, _, h2b⟩ := h2
 have hy0 : ys.getD 0 0 = y := by
  have := pv_all ys 1 (Nat.le_of_eq h2a.len)
  rw [h2b] at this
  simpa [pv] using this
 have hcell : ∃ b off, a2 = some ⟨b, off, none⟩ ∧ w.cell? ⟨b, off, none⟩ = some (.int .u32 (y : Nat)) := by
  rcases h2a.shape with h | ⟨b, off, rfl, hb⟩
  ·omega
  ·exact ⟨b, off, rfl, by have := h2a.cell 0 (by omega); rw [hy0] at this; exact this⟩
 obtain ⟨b, off, rfl, hcell⟩ := hcell
 have H1 := hid h1
 have hrl : x % y < 4294967296 := Nat.lt_trans (Nat.mod_lt _ hyp) hyl
 clear h1 h2a h2b hy0 hv hge
 go_enter Tryz.func227, Tryz.ntmps227
 go_wp2_with (first
  | (go_at_call 192; refine (hc.out).mono ?_; rintro e w' ⟨rfl, he⟩; have hcell := he.cell hcell)
  | (go_at_call 236; refine (divw_c _ _ _ _ _ _ _ (H1.out.ext he) (by omega) hyp hyl).mono ?_; rintro e w2 ⟨ao, n, cap, rfl, he2, hq⟩)
  | (go_at_call 178; refine (trim_c _ _ _ _ [x % y] (wd_new1 _ _ hrl)).mono ?_; rintro e w3 ⟨ao', n', cap', rfl, he3, hr⟩))
 go_ret2
 have he4 := (Ext.refl w2).alloc (.cells #[.int .u32 ((x % y : Nat) : Int)] 145)
 simp only [natVal, Nat.mul_zero, Nat.add_zero] at hr
 exact ⟨_, _, _, _, _, _, rfl, (he.trans he2).trans (he4.trans he3), hq.ext (he4.trans he3), hr.mono hk2⟩
end Go.Proofs.YtkeikfekkdplgaaGreatDoor
namespace Go.Proofs.YtkeikfekkdplgaaGreatDoor
open Go Go.RowKit

theorem Own.set_other {w : World} {g g' : Nat} {ys : List Nat} (h : Own w g ys) (hg : g ≠ g') (i : Nat) (v : Value) : Own (w.setCell ⟨g', i, none⟩ v) g ys := by
 unfold Own at *
 simp only [World.setCell, Array.getElem?_modify]
 rw [if_neg (by omega)]; exact h

/-- The two rows of a long division: u and q. -/
structure Two (w1 : World) (gu gq N M : Nat) (us qs : List Nat) (wr : World) : Prop where
 ou : Own wr gu us
 oq : Own wr gq qs
 lu : us.length = N
 lq : qs.length = M
 wu : ∀ i, us.getD i 0 < 4294967296
 wq : ∀ i, qs.getD i 0 < 4294967296
 ne : gu ≠ gq
 hu : w1.heap.size ≤ gu
 hq : w1.heap.size ≤ gq
 ext : Ext w1 wr

theorem Two.setU {w1 wr : World} {gu gq N M : Nat} {us qs : List Nat} (h : Two w1 gu gq N M us qs wr) (i y : Nat) (hi : i < N) (hy : y < 4294967296) :
  Two w1 gu gq N M (us.set i y) qs (wr.setCell ⟨gu, i, none⟩ (.int .u32 (y : Nat))) :=
 ⟨h.ou.set _ _, h.oq.set_other (Ne.symm h.ne) _ _, by simp [h.lu], h.lq, fun j => by
  rw [getD_set _ _ _ _ (by rw [h.lu]; exact hi)]; split
  ·exact hy
  ·exact h.wu j, h.wq, h.ne, h.hu, h.hq, h.ext.set h.hu _⟩
theorem Two.setQ {w1 wr : World} {gu gq N M : Nat} {us qs : List Nat} (h : Two w1 gu gq N M us qs wr) (i y : Nat) (hi : i < M) (hy : y < 4294967296) :
  Two w1 gu gq N M us (qs.set i y) (wr.setCell ⟨gq, i, none⟩ (.int .u32 (y : Nat))) :=
 ⟨h.ou.set_other h.ne _ _, h.oq.set _ _, h.lu, by simp [h.lq], h.wu, fun j => by
  rw [getD_set _ _ _ _ (by rw [h.lq]; exact hi)]; split
  ·exact hy
  ·exact h.wq j, h.ne, h.hu, h.hq, h.ext.set h.hq _⟩
theorem Two.after {w1 wr w2 : World} {gu gq N M : Nat} {us qs : List Nat} (h : Two w1 gu gq N M us qs wr) (e : Ext wr w2) : Two w1 gu gq N M us qs w2 :=
 ⟨h.ou.ext e, h.oq.ext e, h.lu, h.lq, h.wu, h.wq, h.ne, h.hu, h.hq, h.ext.trans e⟩
theorem Two.cellU {w1 wr : World} {gu gq N M : Nat} {us qs : List Nat} (h : Two w1 gu gq N M us qs wr) (i : Nat) (hi : i < N) :
  wr.cell? ⟨gu, i, none⟩ = some (.int .u32 ((us.getD i 0 : Nat) : Int)) ∧ wr.frozen? ⟨gu, i, none⟩ = false := ⟨h.ou.cell i (by rw [h.lu]; exact hi), h.ou.free i⟩
theorem Two.cellQ {w1 wr : World} {gu gq N M : Nat} {us qs : List Nat} (h : Two w1 gu gq N M us qs wr) (i : Nat) (hi : i < M) :
  wr.cell? ⟨gq, i, none⟩ = some (.int .u32 ((qs.getD i 0 : Nat) : Int)) ∧ wr.frozen? ⟨gq, i, none⟩ = false := ⟨h.oq.cell i (by rw [h.lq]; exact hi), h.oq.free i⟩

/-- At the head of the outer loop, k digits are still to come. -/
def DOut (w1 : World) (gu gq N M : Nat) (vs : List Nat) (A k : Nat) (wr : World) : Prop :=
 ∃ us qs, Two w1 gu gq N M us qs wr ∧ natVal qs * natVal vs + natVal us = A ∧ natVal us < natVal vs * 4294967296 ^ k ∧ (∀ i, i < k → qs.getD i 0 = 0)

/-- In 'multiply and subtract': k words are done; Nu: what u stood for before. -/
def DMs (w1 : World) (gu gq N M : Nat) (vs us0 qs : List Nat) (g j k c b : Nat) (wr : World) : Prop :=
 ∃ us, Two w1 gu gq N M us qs wr ∧ natVal us + g * (pv vs k * 4294967296 ^ j) = natVal us0 + 4294967296 ^ (j + k) * (b + c) ∧ (∀ i, j + k ≤ i → us.getD i 0 = us0.getD i 0)

theorem DMs.step {w1 wr : World} {gu gq N M g j k c b : Nat} {vs us0 qs : List Nat} (h : DMs w1 gu gq N M vs us0 qs g j k c b wr) (hN : j + k < N) (hb : b ≤ 1) :
  wr.cell? ⟨gu, j + k, none⟩ = some (.int .u32 ((us0.getD (j + k) 0 : Nat) : Int)) ∧ wr.frozen? ⟨gu, j + k, none⟩ = false ∧ Ext w1 wr ∧
  DMs w1 gu gq N M vs us0 qs g j (k + 1) ((g * vs.getD k 0 + c) / 4294967296) (if us0.getD (j + k) 0 < (g * vs.getD k 0 + c) % 4294967296 + b then 1 else 0)
   (wr.setCell ⟨gu, j + k, none⟩ (.int .u32 (((us0.getD (j + k) 0 + 4294967296 - (g * vs.getD k 0 + c) % 4294967296 - b) % 4294967296 : Nat) : Int))) := by
 obtain ⟨us, t, e, z⟩ := h
 have zk := z (j + k) (Nat.le_refl _)
 obtain ⟨c1, c2⟩ := t.cellU (j + k) hN
 refine ⟨by rw [← zk]; exact c1, c2, t.ext, _, t.setU _ _ hN (Nat.mod_lt _ (by omega)), ?_, fun i hi => ?_⟩
 ·rw [pv]
  have hs := natVal_set us (j + k) ((us0.getD (j + k) 0 + 4294967296 - (g * vs.getD k 0 + c) % 4294967296 - b) % 4294967296) (by rw [t.lu]; exact hN)
  rw [zk] at hs
  have hx := t.wu (j + k)
  rw [zk] at hx
  have hbo := borrow_eq (us0.getD (j + k) 0) ((g * vs.getD k 0 + c) % 4294967296) b hx (Nat.mod_lt _ (by omega)) hb
  exact ms_step _ _ _ g k j _ _ c b _ _ _ _ e rfl rfl hbo _ hs
 ·rw [getD_set _ _ _ _ (by rw [t.lu]; exact hN), if_neg (by omega)]; exact z i (by omega)

/-- Behind 'multiply and subtract'. -/
def DMe (w1 : World) (gu gq N M : Nat) (us0 qs : List Nat) (g j n V b : Nat) (wr : World) : Prop :=
 ∃ us, Two w1 gu gq N M us qs wr ∧ natVal us + g * (V * 4294967296 ^ j) = natVal us0 + 4294967296 ^ (j + n + 1) * b ∧ (∀ i, j + n + 1 ≤ i → us.getD i 0 = us0.getD i 0)

theorem DMs.last {w1 wr : World} {gu gq N M g j n c b : Nat} {vs us0 qs : List Nat} (h : DMs w1 gu gq N M vs us0 qs g j n c b wr) (hN : j + n < N) (hb : b ≤ 1) (hc : c < 4294967296) (hn : vs.length = n) :
  wr.cell? ⟨gu, j + n, none⟩ = some (.int .u32 ((us0.getD (j + n) 0 : Nat) : Int)) ∧ wr.frozen? ⟨gu, j + n, none⟩ = false ∧ Ext w1 wr ∧ us0.getD (j + n) 0 < 4294967296 ∧
  DMe w1 gu gq N M us0 qs g j n (natVal vs) (if us0.getD (j + n) 0 < c + b then 1 else 0)
   (wr.setCell ⟨gu, j + n, none⟩ (.int .u32 (((us0.getD (j + n) 0 + 4294967296 - c - b) % 4294967296 : Nat) : Int))) := by
 obtain ⟨us, t, e, z⟩ := h
 have zk := z (j + n) (Nat.le_refl _)
 obtain ⟨c1, c2⟩ := t.cellU (j + n) hN
 have hx := t.wu (j + n)
 rw [zk] at hx
 refine ⟨by rw [← zk]; exact c1, c2, t.ext, hx, _, t.setU _ _ hN (Nat.mod_lt _ (by omega)), ?_, fun i hi => ?_⟩
 ·have hs := natVal_set us (j + n) ((us0.getD (j + n) 0 + 4294967296 - c - b) % 4294967296) (by rw [t.lu]; exact hN)
  rw [zk] at hs
  have hbo := borrow_eq (us0.getD (j + n) 0) c b hx hc hb
  rw [pv_all vs n (Nat.le_of_eq hn)] at e
  exact ms_last _ _ _ g n j _ c b _ _ e hbo _ hs
 ·rw [getD_set _ _ _ _ (by rw [t.lu]; exact hN), if_neg (by omega)]; exact z i (by omega)

/-- In 'add back': k words are done; Mu: what u stood for before. -/
def DAb (w1 : World) (gu gq N M : Nat) (vs us1 qs : List Nat) (j k c : Nat) (wr : World) : Prop :=
 ∃ us, Two w1 gu gq N M us qs wr ∧ natVal us + 4294967296 ^ (j + k) * c = natVal us1 + pv vs k * 4294967296 ^ j ∧ (∀ i, j + k ≤ i → us.getD i 0 = us1.getD i 0)

theorem DAb.step {w1 wr : World} {gu gq N M j k c : Nat} {vs us1 qs : List Nat} (h : DAb w1 gu gq N M vs us1 qs j k c wr) (hN : j + k < N) :
  wr.cell? ⟨gu, j + k, none⟩ = some (.int .u32 ((us1.getD (j + k) 0 : Nat) : Int)) ∧ wr.frozen? ⟨gu, j + k, none⟩ = false ∧ Ext w1 wr ∧ us1.getD (j + k) 0 < 4294967296 ∧
  DAb w1 gu gq N M vs us1 qs j (k + 1) ((us1.getD (j + k) 0 + vs.getD k 0 + c) / 4294967296)
   (wr.setCell ⟨gu, j + k, none⟩ (.int .u32 (((us1.getD (j + k) 0 + vs.getD k 0 + c) % 4294967296 : Nat) : Int))) := by
 obtain ⟨us, t, e, z⟩ := h
 have zk := z (j + k) (Nat.le_refl _)
 obtain ⟨c1, c2⟩ := t.cellU (j + k) hN
 have hx := t.wu (j + k)
 rw [zk] at hx
 refine ⟨by rw [← zk]; exact c1, c2, t.ext, hx, _, t.setU _ _ hN (Nat.mod_lt _ (by omega)), ?_, fun i hi => ?_⟩
 ·rw [pv]
  have hs := natVal_set us (j + k) ((us1.getD (j + k) 0 + vs.getD k 0 + c) % 4294967296) (by rw [t.lu]; exact hN)
  rw [zk] at hs
  exact ab_step _ _ _ k j _ _ c _ _ _ e rfl rfl rfl _ hs
 ·rw [getD_set _ _ _ _ (by rw [t.lu]; exact hN), if_neg (by omega)]; exact z i (by omega)

/-- Behind a digit: u stands for what is left. -/
def DEnd (w1 : World) (gu gq N M : Nat) (qs : List Nat) (R : Nat) (wr : World) : Prop :=
 ∃ us, Two w1 gu gq N M us qs wr ∧ natVal us = R

theorem DMe.noBorrow {w1 wr : World} {gu gq N M g j n V : Nat} {us0 qs : List Nat} (h : DMe w1 gu gq N M us0 qs g j n V 0 wr) : DEnd w1 gu gq N M qs (natVal us0 - g * (V * 4294967296 ^ j)) wr := by
 obtain ⟨us, t, e, z⟩ := h
 exact ⟨us, t, by omega⟩
/-- The borrow says whether the guess was too great. -/
theorem DMe.guess {w1 wr : World} {gu gq N M g j n V b q : Nat} {us0 qs : List Nat} (h : DMe w1 gu gq N M us0 qs g j n V b wr) (h0 : natVal us0 < 4294967296 ^ (j + n + 1)) (hq : q * (V * 4294967296 ^ j) ≤ natVal us0)
  (hq1 : natVal us0 < (q + 1) * (V * 4294967296 ^ j)) (hqg : q ≤ g) (hg : g ≤ q + 1) (hb : b ≤ 1) : (b = 0 → g = q) ∧ (b = 1 → g = q + 1) := by
 obtain ⟨us, t, e, z⟩ := h
 have hz : ∀ i, j + n + 1 ≤ i → us.getD i 0 = 0 := fun i hi => by rw [z i hi]; exact zero_above us0 _ h0 i hi
 have hM := pv_lt us t.wu (j + n + 1)
 rw [pv_zero_above us _ hz] at hM
 exact ms_borrow _ _ g q _ _ b e hM hq hq1 hqg hg hb
theorem DMe.toAb {w1 wr : World} {gu gq N M g j n V b : Nat} {us0 qs vs : List Nat} (h : DMe w1 gu gq N M us0 qs g j n V b wr) (h0 : natVal us0 < 4294967296 ^ (j + n + 1)) :
  ∃ us1, DAb w1 gu gq N M vs us1 qs j 0 0 wr ∧ natVal us1 + g * (V * 4294967296 ^ j) = natVal us0 + 4294967296 ^ (j + n + 1) * b ∧ (∀ i, j + n + 1 ≤ i → us1.getD i 0 = 0) := by
 obtain ⟨us, t, e, z⟩ := h
 exact ⟨us, ⟨us, t, by simp [pv], fun i _ => rfl⟩, e, fun i hi => by rw [z i hi]; exact zero_above us0 _ h0 i hi⟩
theorem DAb.last {w1 wr : World} {gu gq N M g j n c Nu : Nat} {vs us1 qs : List Nat} (h : DAb w1 gu gq N M vs us1 qs j n c wr) (hN : j + n < N) (hc : c ≤ 1) (hn : vs.length = n)
  (he : natVal us1 + g * (natVal vs * 4294967296 ^ j) = Nu + 4294967296 ^ (j + n + 1) * 1) (hg1 : 1 ≤ g) (hg : (g - 1) * (natVal vs * 4294967296 ^ j) ≤ Nu) (hz : ∀ i, j + n + 1 ≤ i → us1.getD i 0 = 0) :
  wr.cell? ⟨gu, j + n, none⟩ = some (.int .u32 ((us1.getD (j + n) 0 : Nat) : Int)) ∧ wr.frozen? ⟨gu, j + n, none⟩ = false ∧ us1.getD (j + n) 0 < 4294967296 ∧
  DEnd w1 gu gq N M qs (Nu - (g - 1) * (natVal vs * 4294967296 ^ j)) (wr.setCell ⟨gu, j + n, none⟩ (.int .u32 (((us1.getD (j + n) 0 + c) % 4294967296 : Nat) : Int))) := by
 obtain ⟨us, t, e, z⟩ := h
 have zk := z (j + n) (Nat.le_refl _)
 obtain ⟨c1, c2⟩ := t.cellU (j + n) hN
 have hx := t.wu (j + n)
 rw [zk] at hx
 refine ⟨by rw [← zk]; exact c1, c2, hx, _, t.setU _ _ hN (Nat.mod_lt _ (by omega)), ?_⟩
 have hs := natVal_set us (j + n) ((us1.getD (j + n) 0 + c) % 4294967296) (by rw [t.lu]; exact hN)
 rw [zk] at hs
 rw [pv_all vs n (Nat.le_of_eq hn)] at e
 have hL : natVal us = pv us (j + n) + 4294967296 ^ (j + n) * us1.getD (j + n) 0 := by
  have := pv_zero_above us (j + n + 1) (fun i hi => by rw [z i (by omega)]; exact hz i hi)
  rw [pv, zk] at this
  exact this.symm
 have hLT := pv_lt us t.wu (j + n)
 rw [Nat.pow_succ, Nat.mul_one] at he
 have := ab_last Nu (natVal us1) (natVal us) (natVal vs) (4294967296 ^ j) (4294967296 ^ (j + n)) _ g _ c _ he e hg hg1 hL hLT hx hc rfl _ hs
 omega

theorem DMs.cellQ {w1 wr : World} {gu gq N M g j k c b : Nat} {vs us0 qs : List Nat} (h : DMs w1 gu gq N M vs us0 qs g j k c b wr) (i : Nat) (hi : i < M) :
  (∃ o : Nat, wr.cell? ⟨gq, i, none⟩ = some (.int .u32 o)) ∧ wr.frozen? ⟨gq, i, none⟩ = false ∧ ¬ gu = gq ∧ ¬ gq = gu := by
 obtain ⟨us, t, _⟩ := h
 obtain ⟨a, b⟩ := t.cellQ i hi
 exact ⟨⟨_, a⟩, b, t.ne, Ne.symm t.ne⟩
theorem DAb.cellQ {w1 wr : World} {gu gq N M j k c : Nat} {vs us1 qs : List Nat} (h : DAb w1 gu gq N M vs us1 qs j k c wr) (i : Nat) (hi : i < M) :
  (∃ o : Nat, wr.cell? ⟨gq, i, none⟩ = some (.int .u32 o)) ∧ wr.frozen? ⟨gq, i, none⟩ = false ∧ ¬ gu = gq ∧ ¬ gq = gu := by
 obtain ⟨us, t, _⟩ := h
 obtain ⟨a, b⟩ := t.cellQ i hi
 exact ⟨⟨_, a⟩, b, t.ne, Ne.symm t.ne⟩

/-- A round of 'multiply and subtract', in the walk's own words. -/
theorem DMs.round {w1 wr : World} {gu gq N M g j k c b : Nat} {vs us0 qs : List Nat} (h : DMs w1 gu gq N M vs us0 qs g j k c b wr) (hN : j + k < N) (hb : b ≤ 1) (hc : c < 4294967296) (hg : g < 4294967296) (hv : vs.getD k 0 < 4294967296) :
  ∃ p t m q x y b' : Nat, vs.getD k 0 = y ∧ wr.cell? ⟨gu, k + j, none⟩ = some (.int .u32 (x : Nat)) ∧ wr.frozen? ⟨gu, k + j, none⟩ = false ∧ Ext w1 wr ∧ x < 4294967296 ∧ y < 4294967296 ∧
   (g : Int) * (y : Int) = (p : Int) ∧ (p : Int) + (c : Int) = (t : Int) ∧ (t : Int) % 4294967296 = (m : Int) ∧ (t : Int) / 4294967296 = (q : Int) ∧ p ≤ 18446744065119617025 ∧ t < 18446744073709551616 ∧ m < 4294967296 ∧ q < 4294967296 ∧ b' ≤ 1 ∧
   b' = (if x < m + b then 1 else 0) ∧ DMs w1 gu gq N M vs us0 qs g j (k + 1) q b' (wr.setCell ⟨gu, k + j, none⟩ (.int .u32 (((x + 4294967296 - m - b) % 4294967296 : Nat) : Int))) := by
 obtain ⟨c1, c2, c3, c4⟩ := h.step hN hb
 obtain ⟨us, t, e, z⟩ := h
 have hx := t.wu (j + k)
 rw [z (j + k) (Nat.le_refl _)] at hx
 have hp := prod2_lt g _ hg hv
 rw [Nat.add_comm j k] at *
 refine ⟨g * vs.getD k 0, g * vs.getD k 0 + c, (g * vs.getD k 0 + c) % 4294967296, (g * vs.getD k 0 + c) / 4294967296, _, _, _, rfl, c1, c2, c3, hx, hv, by simp, by simp, by simp, by simp, hp, by omega, Nat.mod_lt _ (by omega), ?_, ?_, rfl, c4⟩
 ·omega
 ·split <;> omega
theorem DAb.round {w1 wr : World} {gu gq N M j k c : Nat} {vs us1 qs : List Nat} (h : DAb w1 gu gq N M vs us1 qs j k c wr) (hN : j + k < N) (hc : c ≤ 1) (hv : vs.getD k 0 < 4294967296) :
  ∃ x y : Nat, vs.getD k 0 = y ∧ wr.cell? ⟨gu, k + j, none⟩ = some (.int .u32 (x : Nat)) ∧ wr.frozen? ⟨gu, k + j, none⟩ = false ∧ Ext w1 wr ∧ x < 4294967296 ∧ y < 4294967296 ∧ (x + y + c) / 4294967296 ≤ 1 ∧
   DAb w1 gu gq N M vs us1 qs j (k + 1) ((x + y + c) / 4294967296) (wr.setCell ⟨gu, k + j, none⟩ (.int .u32 (((x + y + c) % 4294967296 : Nat) : Int))) := by
 obtain ⟨c1, c2, c3, c4, c5⟩ := h.step hN
 rw [Nat.add_comm j k] at *
 exact ⟨_, _, rfl, c1, c2, c3, c4, hv, by omega, c5⟩
end Go.Proofs.YtkeikfekkdplgaaGreatDoor
