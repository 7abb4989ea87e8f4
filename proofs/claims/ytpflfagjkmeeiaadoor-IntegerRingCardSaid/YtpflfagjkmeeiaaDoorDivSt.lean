/-
  What the loops of long division keep in memory. No program beyond the type of a word.
-/
import Derived.Test.YtpflfagjkmeeiaaDoorDiv
namespace Go.Proofs.YtpflfagjkmeeiaaDoor
open Go Go.RowKit

theorem Own.set_other {w : World} {g g' : Nat} {ys : List Nat} (h : Own w g ys) (hg : g ≠ g') (i : Nat) (v : Value) : Own (w.setCell ⟨g', i, none⟩ v) g ys := by
  unfold Own at *
  simp only [World.setCell, Array.getElem?_modify]
  rw [if_neg (by omega)]; exact h

/-- The two rows of a long division: u and q. -/
structure Two (w1 : World) (gu gq N M : Nat) (us qs : List Nat) (wr : World) : Prop where
  ou : Own wr gu us
  oq : Own wr gq qs
  lu : us.length = N
  lq : qs.length = M
  wu : ∀ i, us.getD i 0 < 4294967296
  wq : ∀ i, qs.getD i 0 < 4294967296
  ne : gu ≠ gq
  hu : w1.heap.size ≤ gu
  hq : w1.heap.size ≤ gq
  ext : Ext w1 wr

theorem Two.setU {w1 wr : World} {gu gq N M : Nat} {us qs : List Nat} (h : Two w1 gu gq N M us qs wr) (i y : Nat) (hi : i < N) (hy : y < 4294967296) :
    Two w1 gu gq N M (us.set i y) qs (wr.setCell ⟨gu, i, none⟩ (.int .u32 (y : Nat))) :=
  ⟨h.ou.set _ _, h.oq.set_other (Ne.symm h.ne) _ _, by simp [h.lu], h.lq, fun j => by
    rw [getD_set _ _ _ _ (by rw [h.lu]; exact hi)]; split
    · exact hy
    · exact h.wu j, h.wq, h.ne, h.hu, h.hq, h.ext.set h.hu _⟩
theorem Two.setQ {w1 wr : World} {gu gq N M : Nat} {us qs : List Nat} (h : Two w1 gu gq N M us qs wr) (i y : Nat) (hi : i < M) (hy : y < 4294967296) :
    Two w1 gu gq N M us (qs.set i y) (wr.setCell ⟨gq, i, none⟩ (.int .u32 (y : Nat))) :=
  ⟨h.ou.set_other h.ne _ _, h.oq.set _ _, h.lu, by simp [h.lq], h.wu, fun j => by
    rw [getD_set _ _ _ _ (by rw [h.lq]; exact hi)]; split
    · exact hy
    · exact h.wq j, h.ne, h.hu, h.hq, h.ext.set h.hq _⟩
theorem Two.after {w1 wr w2 : World} {gu gq N M : Nat} {us qs : List Nat} (h : Two w1 gu gq N M us qs wr) (e : Ext wr w2) : Two w1 gu gq N M us qs w2 :=
  ⟨h.ou.ext e, h.oq.ext e, h.lu, h.lq, h.wu, h.wq, h.ne, h.hu, h.hq, h.ext.trans e⟩
theorem Two.cellU {w1 wr : World} {gu gq N M : Nat} {us qs : List Nat} (h : Two w1 gu gq N M us qs wr) (i : Nat) (hi : i < N) :
    wr.cell? ⟨gu, i, none⟩ = some (.int .u32 ((us.getD i 0 : Nat) : Int)) ∧ wr.frozen? ⟨gu, i, none⟩ = false := ⟨h.ou.cell i (by rw [h.lu]; exact hi), h.ou.free i⟩
theorem Two.cellQ {w1 wr : World} {gu gq N M : Nat} {us qs : List Nat} (h : Two w1 gu gq N M us qs wr) (i : Nat) (hi : i < M) :
    wr.cell? ⟨gq, i, none⟩ = some (.int .u32 ((qs.getD i 0 : Nat) : Int)) ∧ wr.frozen? ⟨gq, i, none⟩ = false := ⟨h.oq.cell i (by rw [h.lq]; exact hi), h.oq.free i⟩

/-- At the head of the outer loop, k digits are still to come. -/
def DOut (w1 : World) (gu gq N M : Nat) (vs : List Nat) (A k : Nat) (wr : World) : Prop :=
  ∃ us qs, Two w1 gu gq N M us qs wr ∧ natVal qs * natVal vs + natVal us = A ∧ natVal us < natVal vs * 4294967296 ^ k ∧ (∀ i, i < k → qs.getD i 0 = 0)

/-- In 'multiply and subtract': k words are done; Nu: what u stood for before. -/
def DMs (w1 : World) (gu gq N M : Nat) (vs us0 qs : List Nat) (g j k c b : Nat) (wr : World) : Prop :=
  ∃ us, Two w1 gu gq N M us qs wr ∧ natVal us + g * (pv vs k * 4294967296 ^ j) = natVal us0 + 4294967296 ^ (j + k) * (b + c) ∧ (∀ i, j + k ≤ i → us.getD i 0 = us0.getD i 0)

theorem DMs.step {w1 wr : World} {gu gq N M g j k c b : Nat} {vs us0 qs : List Nat} (h : DMs w1 gu gq N M vs us0 qs g j k c b wr) (hN : j + k < N) (hb : b ≤ 1) :
    wr.cell? ⟨gu, j + k, none⟩ = some (.int .u32 ((us0.getD (j + k) 0 : Nat) : Int)) ∧ wr.frozen? ⟨gu, j + k, none⟩ = false ∧ Ext w1 wr ∧
    DMs w1 gu gq N M vs us0 qs g j (k + 1) ((g * vs.getD k 0 + c) / 4294967296) (if us0.getD (j + k) 0 < (g * vs.getD k 0 + c) % 4294967296 + b then 1 else 0)
      (wr.setCell ⟨gu, j + k, none⟩ (.int .u32 (((us0.getD (j + k) 0 + 4294967296 - (g * vs.getD k 0 + c) % 4294967296 - b) % 4294967296 : Nat) : Int))) := by
  obtain ⟨us, t, e, z⟩ := h
  have zk := z (j + k) (Nat.le_refl _)
  obtain ⟨c1, c2⟩ := t.cellU (j + k) hN
  refine ⟨by rw [← zk]; exact c1, c2, t.ext, _, t.setU _ _ hN (Nat.mod_lt _ (by omega)), ?_, fun i hi => ?_⟩
  · rw [pv]
    have hs := natVal_set us (j + k) ((us0.getD (j + k) 0 + 4294967296 - (g * vs.getD k 0 + c) % 4294967296 - b) % 4294967296) (by rw [t.lu]; exact hN)
    rw [zk] at hs
    have hx := t.wu (j + k)
    rw [zk] at hx
    have hbo := borrow_eq (us0.getD (j + k) 0) ((g * vs.getD k 0 + c) % 4294967296) b hx (Nat.mod_lt _ (by omega)) hb
    exact ms_step _ _ _ g k j _ _ c b _ _ _ _ e rfl rfl hbo _ hs
  · rw [getD_set _ _ _ _ (by rw [t.lu]; exact hN), if_neg (by omega)]; exact z i (by omega)

/-- Behind 'multiply and subtract'. -/
def DMe (w1 : World) (gu gq N M : Nat) (us0 qs : List Nat) (g j n V b : Nat) (wr : World) : Prop :=
  ∃ us, Two w1 gu gq N M us qs wr ∧ natVal us + g * (V * 4294967296 ^ j) = natVal us0 + 4294967296 ^ (j + n + 1) * b ∧ (∀ i, j + n + 1 ≤ i → us.getD i 0 = us0.getD i 0)

theorem DMs.last {w1 wr : World} {gu gq N M g j n c b : Nat} {vs us0 qs : List Nat} (h : DMs w1 gu gq N M vs us0 qs g j n c b wr) (hN : j + n < N) (hb : b ≤ 1) (hc : c < 4294967296) (hn : vs.length = n) :
    wr.cell? ⟨gu, j + n, none⟩ = some (.int .u32 ((us0.getD (j + n) 0 : Nat) : Int)) ∧ wr.frozen? ⟨gu, j + n, none⟩ = false ∧ Ext w1 wr ∧ us0.getD (j + n) 0 < 4294967296 ∧
    DMe w1 gu gq N M us0 qs g j n (natVal vs) (if us0.getD (j + n) 0 < c + b then 1 else 0)
      (wr.setCell ⟨gu, j + n, none⟩ (.int .u32 (((us0.getD (j + n) 0 + 4294967296 - c - b) % 4294967296 : Nat) : Int))) := by
  obtain ⟨us, t, e, z⟩ := h
  have zk := z (j + n) (Nat.le_refl _)
  obtain ⟨c1, c2⟩ := t.cellU (j + n) hN
  have hx := t.wu (j + n)
  rw [zk] at hx
  refine ⟨by rw [← zk]; exact c1, c2, t.ext, hx, _, t.setU _ _ hN (Nat.mod_lt _ (by omega)), ?_, fun i hi => ?_⟩
  · have hs := natVal_set us (j + n) ((us0.getD (j + n) 0 + 4294967296 - c - b) % 4294967296) (by rw [t.lu]; exact hN)
    rw [zk] at hs
    have hbo := borrow_eq (us0.getD (j + n) 0) c b hx hc hb
    rw [pv_all vs n (Nat.le_of_eq hn)] at e
    exact ms_last _ _ _ g n j _ c b _ _ e hbo _ hs
  · rw [getD_set _ _ _ _ (by rw [t.lu]; exact hN), if_neg (by omega)]; exact z i (by omega)

/-- In 'add back': k words are done; Mu: what u stood for before. -/
def DAb (w1 : World) (gu gq N M : Nat) (vs us1 qs : List Nat) (j k c : Nat) (wr : World) : Prop :=
  ∃ us, Two w1 gu gq N M us qs wr ∧ natVal us + 4294967296 ^ (j + k) * c = natVal us1 + pv vs k * 4294967296 ^ j ∧ (∀ i, j + k ≤ i → us.getD i 0 = us1.getD i 0)

theorem DAb.step {w1 wr : World} {gu gq N M j k c : Nat} {vs us1 qs : List Nat} (h : DAb w1 gu gq N M vs us1 qs j k c wr) (hN : j + k < N) :
    wr.cell? ⟨gu, j + k, none⟩ = some (.int .u32 ((us1.getD (j + k) 0 : Nat) : Int)) ∧ wr.frozen? ⟨gu, j + k, none⟩ = false ∧ Ext w1 wr ∧ us1.getD (j + k) 0 < 4294967296 ∧
    DAb w1 gu gq N M vs us1 qs j (k + 1) ((us1.getD (j + k) 0 + vs.getD k 0 + c) / 4294967296)
      (wr.setCell ⟨gu, j + k, none⟩ (.int .u32 (((us1.getD (j + k) 0 + vs.getD k 0 + c) % 4294967296 : Nat) : Int))) := by
  obtain ⟨us, t, e, z⟩ := h
  have zk := z (j + k) (Nat.le_refl _)
  obtain ⟨c1, c2⟩ := t.cellU (j + k) hN
  have hx := t.wu (j + k)
  rw [zk] at hx
  refine ⟨by rw [← zk]; exact c1, c2, t.ext, hx, _, t.setU _ _ hN (Nat.mod_lt _ (by omega)), ?_, fun i hi => ?_⟩
  · rw [pv]
    have hs := natVal_set us (j + k) ((us1.getD (j + k) 0 + vs.getD k 0 + c) % 4294967296) (by rw [t.lu]; exact hN)
    rw [zk] at hs
    exact ab_step _ _ _ k j _ _ c _ _ _ e rfl rfl rfl _ hs
  · rw [getD_set _ _ _ _ (by rw [t.lu]; exact hN), if_neg (by omega)]; exact z i (by omega)

/-- Behind a digit: u stands for what is left. -/
def DEnd (w1 : World) (gu gq N M : Nat) (qs : List Nat) (R : Nat) (wr : World) : Prop :=
  ∃ us, Two w1 gu gq N M us qs wr ∧ natVal us = R

theorem DMe.noBorrow {w1 wr : World} {gu gq N M g j n V : Nat} {us0 qs : List Nat} (h : DMe w1 gu gq N M us0 qs g j n V 0 wr) : DEnd w1 gu gq N M qs (natVal us0 - g * (V * 4294967296 ^ j)) wr := by
  obtain ⟨us, t, e, z⟩ := h
  exact ⟨us, t, by omega⟩
/-- The borrow says whether the guess was too great. -/
theorem DMe.guess {w1 wr : World} {gu gq N M g j n V b q : Nat} {us0 qs : List Nat} (h : DMe w1 gu gq N M us0 qs g j n V b wr) (h0 : natVal us0 < 4294967296 ^ (j + n + 1)) (hq : q * (V * 4294967296 ^ j) ≤ natVal us0)
    (hq1 : natVal us0 < (q + 1) * (V * 4294967296 ^ j)) (hqg : q ≤ g) (hg : g ≤ q + 1) (hb : b ≤ 1) : (b = 0 → g = q) ∧ (b = 1 → g = q + 1) := by
  obtain ⟨us, t, e, z⟩ := h
  have hz : ∀ i, j + n + 1 ≤ i → us.getD i 0 = 0 := fun i hi => by rw [z i hi]; exact zero_above us0 _ h0 i hi
  have hM := pv_lt us t.wu (j + n + 1)
  rw [pv_zero_above us _ hz] at hM
  exact ms_borrow _ _ g q _ _ b e hM hq hq1 hqg hg hb
theorem DMe.toAb {w1 wr : World} {gu gq N M g j n V b : Nat} {us0 qs vs : List Nat} (h : DMe w1 gu gq N M us0 qs g j n V b wr) (h0 : natVal us0 < 4294967296 ^ (j + n + 1)) :
    ∃ us1, DAb w1 gu gq N M vs us1 qs j 0 0 wr ∧ natVal us1 + g * (V * 4294967296 ^ j) = natVal us0 + 4294967296 ^ (j + n + 1) * b ∧ (∀ i, j + n + 1 ≤ i → us1.getD i 0 = 0) := by
  obtain ⟨us, t, e, z⟩ := h
  exact ⟨us, ⟨us, t, by simp [pv], fun i _ => rfl⟩, e, fun i hi => by rw [z i hi]; exact zero_above us0 _ h0 i hi⟩
theorem DAb.last {w1 wr : World} {gu gq N M g j n c Nu : Nat} {vs us1 qs : List Nat} (h : DAb w1 gu gq N M vs us1 qs j n c wr) (hN : j + n < N) (hc : c ≤ 1) (hn : vs.length = n)
    (he : natVal us1 + g * (natVal vs * 4294967296 ^ j) = Nu + 4294967296 ^ (j + n + 1) * 1) (hg1 : 1 ≤ g) (hg : (g - 1) * (natVal vs * 4294967296 ^ j) ≤ Nu) (hz : ∀ i, j + n + 1 ≤ i → us1.getD i 0 = 0) :
    wr.cell? ⟨gu, j + n, none⟩ = some (.int .u32 ((us1.getD (j + n) 0 : Nat) : Int)) ∧ wr.frozen? ⟨gu, j + n, none⟩ = false ∧ us1.getD (j + n) 0 < 4294967296 ∧
    DEnd w1 gu gq N M qs (Nu - (g - 1) * (natVal vs * 4294967296 ^ j)) (wr.setCell ⟨gu, j + n, none⟩ (.int .u32 (((us1.getD (j + n) 0 + c) % 4294967296 : Nat) : Int))) := by
  obtain ⟨us, t, e, z⟩ := h
  have zk := z (j + n) (Nat.le_refl _)
  obtain ⟨c1, c2⟩ := t.cellU (j + n) hN
  have hx := t.wu (j + n)
  rw [zk] at hx
  refine ⟨by rw [← zk]; exact c1, c2, hx, _, t.setU _ _ hN (Nat.mod_lt _ (by omega)), ?_⟩
  have hs := natVal_set us (j + n) ((us1.getD (j + n) 0 + c) % 4294967296) (by rw [t.lu]; exact hN)
  rw [zk] at hs
  rw [pv_all vs n (Nat.le_of_eq hn)] at e
  have hL : natVal us = pv us (j + n) + 4294967296 ^ (j + n) * us1.getD (j + n) 0 := by
    have := pv_zero_above us (j + n + 1) (fun i hi => by rw [z i (by omega)]; exact hz i hi)
    rw [pv, zk] at this
    exact this.symm
  have hLT := pv_lt us t.wu (j + n)
  rw [Nat.pow_succ, Nat.mul_one] at he
  have := ab_last Nu (natVal us1) (natVal us) (natVal vs) (4294967296 ^ j) (4294967296 ^ (j + n)) _ g _ c _ he e hg hg1 hL hLT hx hc rfl _ hs
  omega

theorem DMs.cellQ {w1 wr : World} {gu gq N M g j k c b : Nat} {vs us0 qs : List Nat} (h : DMs w1 gu gq N M vs us0 qs g j k c b wr) (i : Nat) (hi : i < M) :
    (∃ o : Nat, wr.cell? ⟨gq, i, none⟩ = some (.int .u32 o)) ∧ wr.frozen? ⟨gq, i, none⟩ = false ∧ ¬ gu = gq ∧ ¬ gq = gu := by
  obtain ⟨us, t, _⟩ := h
  obtain ⟨a, b⟩ := t.cellQ i hi
  exact ⟨⟨_, a⟩, b, t.ne, Ne.symm t.ne⟩
theorem DAb.cellQ {w1 wr : World} {gu gq N M j k c : Nat} {vs us1 qs : List Nat} (h : DAb w1 gu gq N M vs us1 qs j k c wr) (i : Nat) (hi : i < M) :
    (∃ o : Nat, wr.cell? ⟨gq, i, none⟩ = some (.int .u32 o)) ∧ wr.frozen? ⟨gq, i, none⟩ = false ∧ ¬ gu = gq ∧ ¬ gq = gu := by
  obtain ⟨us, t, _⟩ := h
  obtain ⟨a, b⟩ := t.cellQ i hi
  exact ⟨⟨_, a⟩, b, t.ne, Ne.symm t.ne⟩

/-- A round of 'multiply and subtract', in the walk's own words. -/
theorem DMs.round {w1 wr : World} {gu gq N M g j k c b : Nat} {vs us0 qs : List Nat} (h : DMs w1 gu gq N M vs us0 qs g j k c b wr) (hN : j + k < N) (hb : b ≤ 1) (hc : c < 4294967296) (hg : g < 4294967296) (hv : vs.getD k 0 < 4294967296) :
    ∃ p t m q x y b' : Nat, vs.getD k 0 = y ∧ wr.cell? ⟨gu, k + j, none⟩ = some (.int .u32 (x : Nat)) ∧ wr.frozen? ⟨gu, k + j, none⟩ = false ∧ Ext w1 wr ∧ x < 4294967296 ∧ y < 4294967296 ∧
      (g : Int) * (y : Int) = (p : Int) ∧ (p : Int) + (c : Int) = (t : Int) ∧ (t : Int) % 4294967296 = (m : Int) ∧ (t : Int) / 4294967296 = (q : Int) ∧ p ≤ 18446744065119617025 ∧ t < 18446744073709551616 ∧ m < 4294967296 ∧ q < 4294967296 ∧ b' ≤ 1 ∧
      b' = (if x < m + b then 1 else 0) ∧ DMs w1 gu gq N M vs us0 qs g j (k + 1) q b' (wr.setCell ⟨gu, k + j, none⟩ (.int .u32 (((x + 4294967296 - m - b) % 4294967296 : Nat) : Int))) := by
  obtain ⟨c1, c2, c3, c4⟩ := h.step hN hb
  obtain ⟨us, t, e, z⟩ := h
  have hx := t.wu (j + k)
  rw [z (j + k) (Nat.le_refl _)] at hx
  have hp := prod2_lt g _ hg hv
  rw [Nat.add_comm j k] at *
  refine ⟨g * vs.getD k 0, g * vs.getD k 0 + c, (g * vs.getD k 0 + c) % 4294967296, (g * vs.getD k 0 + c) / 4294967296, _, _, _, rfl, c1, c2, c3, hx, hv, by simp, by simp, by simp, by simp, hp, by omega, Nat.mod_lt _ (by omega), ?_, ?_, rfl, c4⟩
  · omega
  · split <;> omega
theorem DAb.round {w1 wr : World} {gu gq N M j k c : Nat} {vs us1 qs : List Nat} (h : DAb w1 gu gq N M vs us1 qs j k c wr) (hN : j + k < N) (hc : c ≤ 1) (hv : vs.getD k 0 < 4294967296) :
    ∃ x y : Nat, vs.getD k 0 = y ∧ wr.cell? ⟨gu, k + j, none⟩ = some (.int .u32 (x : Nat)) ∧ wr.frozen? ⟨gu, k + j, none⟩ = false ∧ Ext w1 wr ∧ x < 4294967296 ∧ y < 4294967296 ∧ (x + y + c) / 4294967296 ≤ 1 ∧
      DAb w1 gu gq N M vs us1 qs j (k + 1) ((x + y + c) / 4294967296) (wr.setCell ⟨gu, k + j, none⟩ (.int .u32 (((x + y + c) % 4294967296 : Nat) : Int))) := by
  obtain ⟨c1, c2, c3, c4, c5⟩ := h.step hN
  rw [Nat.add_comm j k] at *
  exact ⟨_, _, rfl, c1, c2, c3, c4, hv, by omega, c5⟩
end Go.Proofs.YtpflfagjkmeeiaaDoor
