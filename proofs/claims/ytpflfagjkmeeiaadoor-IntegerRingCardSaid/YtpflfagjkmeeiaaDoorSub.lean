/-
  The difference of two naturals in package integer, word by word, the second not greater. At most 2^30 words each.
-/
import Derived.Test.YtpflfagjkmeeiaaDoorOwn
import Derived.Test.YtpflfagjkmeeiaaDoorNatMath
import Derived.Test.YtpflfagjkmeeiaaDoorBits32
import Derived.Test.YtpflfagjkmeeiaaDoorTrim
namespace Go.Proofs.YtpflfagjkmeeiaaDoor
open Go Go.RowKit

/-- What the loop of sub keeps: k words are done. -/
def SubInv (w0 : World) (g N : Nat) (A B : List Nat) (k c : Nat) (wr : World) : Prop :=
  ∃ ys, Own wr g ys ∧ ys.length = N ∧ (∀ i, ys.getD i 0 < 4294967296) ∧ pv ys k + pv B k = pv A k + 4294967296 ^ k * c ∧ (∀ i, k ≤ i → ys.getD i 0 = A.getD i 0) ∧ Ext w0 wr

theorem SubInv.step {w0 : World} {g N : Nat} {A B : List Nat} {k c : Nat} {wr : World} (h : SubInv w0 g N A B k c wr) (hk : k < N) (hc : c ≤ 1) (hg : w0.heap.size ≤ g)
    (hA : ∀ i, A.getD i 0 < 4294967296) (hB : ∀ i, B.getD i 0 < 4294967296) :
    SubInv w0 g N A B (k + 1) (if A.getD k 0 < B.getD k 0 + c then 1 else 0) (wr.setCell ⟨g, k, none⟩ (.int .u32 (((A.getD k 0 + 4294967296 - B.getD k 0 - c) % 4294967296 : Nat) : Int))) := by
  obtain ⟨ys, h1, h2, h3, h4, h5, h6⟩ := h
  refine ⟨ys.set k ((A.getD k 0 + 4294967296 - B.getD k 0 - c) % 4294967296), h1.set _ _, by simpa using h2, fun i => ?_, ?_, fun i hi => ?_, h6.set hg _⟩
  · rw [getD_set _ _ _ _ (by omega)]; split
    · omega
    · exact h3 i
  · rw [pv, pv, pv, pv_set _ _ _ (by omega), getD_set _ _ _ _ (by omega), if_pos rfl]
    exact sub_step _ _ _ k _ _ c _ _ h4 (borrow_eq _ _ _ (hA k) (hB k) hc)
  · rw [getD_set _ _ _ _ (by omega), if_neg (by omega)]; exact h5 i (by omega)

theorem SubInv.start {w0 wr : World} {g n : Nat} {xs B : List Nat} (h : Own wr g (xs ++ (List.replicate n 0).drop n)) (hl : xs.length = n) (hx : ∀ i, xs.getD i 0 < 4294967296) (he : Ext w0 wr) :
    SubInv w0 g n xs B 0 0 wr := by
  simp only [List.drop_replicate, Nat.sub_self, List.replicate_zero, List.append_nil] at h
  exact ⟨_, h, hl, hx, by simp [pv], fun i _ => rfl, he⟩
theorem SubInv.cell {w0 wr : World} {g N k c : Nat} {A B : List Nat} (h : SubInv w0 g N A B k c wr) (hk : k < N) :
    wr.cell? ⟨g, k, none⟩ = some (.int .u32 ((A.getD k 0 : Nat) : Int)) ∧ wr.frozen? ⟨g, k, none⟩ = false ∧ Ext w0 wr := by
  obtain ⟨ys, h1, h2, h3, h4, h5, h6⟩ := h
  exact ⟨by rw [← h5 k (Nat.le_refl _)]; exact h1.cell k (by omega), h1.free k, h6⟩
theorem sub_fin (P p a b c : Nat) (h : P + b = a + p * c) (hP : P < p) (hb : b ≤ a) : P = a - b := by
  rcases Nat.eq_zero_or_pos c with hc | hc
  · rw [hc, Nat.mul_zero, Nat.add_zero] at h; omega
  · have := Nat.le_mul_of_pos_right p hc
    omega
theorem SubInv.fin {w0 wr : World} {g n c : Nat} {A B : List Nat} (h : SubInv w0 g n A B n c wr)
    (hlA : A.length = n) (hlB : B.length ≤ n) (hle : natVal B ≤ natVal A) (hn : n ≤ 1073741824) :
    ∃ ys, Wd wr (some ⟨g, 0, none⟩) n n ys ∧ natVal ys = natVal A - natVal B ∧ Ext w0 wr := by
  obtain ⟨ys, h1, h2, h3, h4, h5, h6⟩ := h
  have b0 : n ≤ 140737488355328 := by clear h4; omega
  have hw := h1.wd h3 n (Nat.le_of_eq h2) b0
  rw [h2] at hw
  refine ⟨ys, hw, ?_, h6⟩
  rw [pv_all ys _ (Nat.le_of_eq h2), pv_all A _ (Nat.le_of_eq hlA), pv_all B _ hlB] at h4
  have a1 := natVal_lt ys h3
  rw [h2] at a1
  exact sub_fin _ _ _ _ _ h4 a1 hle

set_option maxRecDepth 100000 in
set_option maxHeartbeats 1000000 in
theorem sub_wd (w : World) (aB aS : Option Addr) (nB nS cB cS : Nat) (B S : List Nat) (hB : Wd w aB nB cB B) (hS : Wd w aS nS cS S) (hle : nS ≤ nB) (hval : natVal S ≤ natVal B) (sB : nB ≤ 1073741824) :
    Calls Tryd.prog 40 #[.slice aB nB cB, .slice aS nS cS] w (RNat w nB (natVal B - natVal S)) := by
  have hlB := hB.len
  have hlS := hS.len
  have HB := hid hB.lt
  have HS := hid hS.lt
  have HlB := hid hlB
  have HlS := hid hlS
  have Hval := hid hval
  clear hlB hlS hval
  have HWB := hid hB
  have HWS := hid hS
  have hsh := hS.shape
  clear hB hS
  rcases hsh with hsh | ⟨b, off, rfl, hb⟩
  all_goals
    go_enter Tryd.func40, Tryd.ntmps40
    go_wp2_with (first
      | (at_make; refine wpl_make rfl _ _ _ rfl Tryd.underlying56 _ _ nB rfl rfl (by omega) (by omega) (by omega) ?_; intro w1 e1 z1 o1)
      | (with_reducible refine wpl_copy w rfl _ _ _ _ rfl Tryd.underlying56 _ _ _ _ _ rfl rfl _ _ o1 (by simp) (HWB.out.ext e1) (by omega) e1 (Nat.le_refl _) ?_; intro w2 o2 e2))
    have I0 := hid (SubInv.start (B := S) o2 HlB.out HB.out e2)
    clear o2 o1 e1 z1 e2
    go_loopw [6, 17] (fun c i wr => ∃ k cc : Nat, k ≤ nB ∧ cc ≤ 1 ∧ i = .int .i64 k ∧ c = .int .u32 cc ∧ Hid (SubInv w w.heap.size nB B S k cc wr)) (fun _ i _ => nB - (intOf i).toNat)
    case atStart => exact ⟨0, 0, by omega, by omega, rfl, rfl, I0⟩
    case round =>
      clear I0
      obtain ⟨k, cc, hk, hcc, rfl, rfl, hinv⟩ := hrel
      by_cases hk1 : k < nB
      · have hst := hid (hinv.out.step hk1 hcc (Nat.le_refl _) HB.out HS.out)
        obtain ⟨hc1, hf1, hext⟩ := hinv.out.cell hk1
        have hxl := HB.out k
        have hyl := HS.out k
        have hyz : nS ≤ k → S.getD k 0 = 0 := fun h => getD_big _ _ (by rw [HlS.out]; exact h)
        by_cases hs : k < nS
        · first
            | (exfalso; omega)
            | (have hcS := (HWS.out.ext hext).cell k hs
               clear hinv hyz
               generalize B.getD k 0 = x at *
               generalize S.getD k 0 = y at *
               have hcc' : (if x < y + cc then 1 else 0) ≤ 1 := by split <;> omega
               have hcd := hid hcc'
               clear hcc'
               go_wp2_with (go_at_call 59; refine (sub32_c x y cc hxl hyl hcc _).mono ?_; rintro e w' ⟨rfl, rfl⟩)
               go_roundw
               case rel => exact ⟨k + 1, _, by omega, hcd.out, by go_num, rfl, hst⟩
               case measure => simp [intOf]; omega)
        · have hy0 := hyz (by omega)
          clear hinv hyz
          generalize B.getD k 0 = x at *
          generalize S.getD k 0 = y at *
          subst hy0
          have hcc' : (if x < 0 + cc then 1 else 0) ≤ 1 := by split <;> omega
          have hcd := hid hcc'
          clear hcc'
          go_wp2_with (go_at_call 59; refine (sub32_c x 0 cc hxl hyl hcc _).mono ?_; rintro e w' ⟨rfl, rfl⟩)
          go_roundw
          case rel => exact ⟨k + 1, _, by omega, hcd.out, by go_num, by simp, hst⟩
          case measure => simp [intOf]; omega
      · obtain rfl : k = nB := by omega
        obtain ⟨zs, hz1, hz2, hz3⟩ := hinv.out.fin HlB.out (by rw [HlS.out]; exact hle) Hval.out sB
        have hz2 := hid hz2
        clear hinv
        go_wp2_with (go_at_call 56; refine (trim_c _ _ _ _ _ hz1).mono ?_; rintro e w3 ⟨ao, n, cap, rfl, he, hn⟩)
        go_ret
        exact ⟨ao, n, cap, rfl, hz3.trans he, hz2.out ▸ hn⟩

/-- A number without zeros at the end is at least the power of its last place. -/
theorem natVal_ge (xs : List Nat) (h : 0 < xs.length) (hz : xs.getD (xs.length - 1) 0 ≠ 0) : 4294967296 ^ (xs.length - 1) ≤ natVal xs := by
  have e := pv_all xs xs.length (Nat.le_refl _)
  obtain ⟨n, hn⟩ : ∃ n, xs.length = n + 1 := ⟨xs.length - 1, by omega⟩
  rw [hn] at e hz ⊢
  simp only [Nat.add_sub_cancel] at hz ⊢
  rw [pv] at e
  have := Nat.le_mul_of_pos_right (4294967296 ^ n) (Nat.pos_of_ne_zero hz)
  omega
theorem length_le_of_le (xs ys : List Nat) (hz : 0 < ys.length → ys.getD (ys.length - 1) 0 ≠ 0) (hx : ∀ i, xs.getD i 0 < 4294967296) (h : natVal ys ≤ natVal xs) : ys.length ≤ xs.length := by
  rcases Nat.eq_zero_or_pos ys.length with h0 | h0
  · omega
  · have h1 := natVal_ge ys h0 (hz h0)
    have h2 := natVal_lt xs hx
    have h3 : 4294967296 ^ (ys.length - 1) < 4294967296 ^ xs.length := by omega
    have := (Nat.pow_lt_pow_iff_right (by omega)).1 h3
    omega

theorem sub_c (w : World) (a1 a2 : Option Addr) (n1 n2 c1 c2 k1 k2 x y : Nat) (h1 : NatAt w k1 a1 n1 c1 x) (h2 : NatAt w k2 a2 n2 c2 y) (s1 : k1 ≤ 1073741824) (hle : y ≤ x) :
    Calls Tryd.prog 40 #[.slice a1 n1 c1, .slice a2 n2 c2] w (RNat w k1 (x - y)) := by
  obtain ⟨xs, h1, l1, _, rfl⟩ := h1
  obtain ⟨ys, h2, l2, hz, rfl⟩ := h2
  have e1 := h1.len
  have e2 := h2.len
  have hl : n2 ≤ n1 := by
    have := length_le_of_le xs ys (by rw [e2]; exact hz) h1.lt hle
    omega
  refine (sub_wd w a1 a2 n1 n2 c1 c2 xs ys h1 h2 hl hle (by omega)).mono ?_
  rintro e w' ⟨ao, n, cap, he, hx, hn⟩
  exact ⟨ao, n, cap, he, hx, hn.mono l1⟩
end Go.Proofs.YtpflfagjkmeeiaaDoor
