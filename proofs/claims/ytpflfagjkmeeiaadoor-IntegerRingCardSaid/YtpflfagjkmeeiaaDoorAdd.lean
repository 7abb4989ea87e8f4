/-
  The sum of two naturals in package integer, word by word. At most 2^30 words each.
-/
import Derived.Test.YtpflfagjkmeeiaaDoorOwn
import Derived.Test.YtpflfagjkmeeiaaDoorNatMath
import Derived.Test.YtpflfagjkmeeiaaDoorBits32
import Derived.Test.YtpflfagjkmeeiaaDoorTrim
namespace Go.Proofs.YtpflfagjkmeeiaaDoor
open Go Go.RowKit

/-- What the loop of add keeps: k words are done. -/
def AddInv (w0 : World) (g N : Nat) (A B : List Nat) (k c : Nat) (wr : World) : Prop :=
  ∃ ys, Own wr g ys ∧ ys.length = N ∧ (∀ i, ys.getD i 0 < 4294967296) ∧ pv ys k + 4294967296 ^ k * c = pv A k + pv B k ∧ (∀ i, k ≤ i → ys.getD i 0 = A.getD i 0) ∧ Ext w0 wr

theorem AddInv.step {w0 : World} {g N : Nat} {A B : List Nat} {k c : Nat} {wr : World} (h : AddInv w0 g N A B k c wr) (hk : k < N) (hg : w0.heap.size ≤ g) :
    AddInv w0 g N A B (k + 1) ((A.getD k 0 + B.getD k 0 + c) / 4294967296) (wr.setCell ⟨g, k, none⟩ (.int .u32 (((A.getD k 0 + B.getD k 0 + c) % 4294967296 : Nat) : Int))) := by
  obtain ⟨ys, h1, h2, h3, h4, h5, h6⟩ := h
  refine ⟨ys.set k ((A.getD k 0 + B.getD k 0 + c) % 4294967296), h1.set _ _, by simpa using h2, fun i => ?_, ?_, fun i hi => ?_, h6.set hg _⟩
  · rw [getD_set _ _ _ _ (by omega)]; split
    · omega
    · exact h3 i
  · rw [pv, pv, pv, pv_set _ _ _ (by omega), getD_set _ _ _ _ (by omega), if_pos rfl]
    exact add_step _ _ _ k _ _ c _ _ h4 rfl rfl
  · rw [getD_set _ _ _ _ (by omega), if_neg (by omega)]; exact h5 i (by omega)

theorem AddInv.start {w0 wr : World} {g n : Nat} {xs B : List Nat} (h : Own wr g (xs ++ (List.replicate (n + 1) 0).drop n)) (hl : xs.length = n) (hx : ∀ i, xs.getD i 0 < 4294967296) (he : Ext w0 wr) :
    AddInv w0 g (n + 1) xs B 0 0 wr := by
  refine ⟨_, h, by simp; omega, fun i => ?_, by simp [pv], fun i _ => ?_, he⟩
  · rw [getD_append]; split
    · exact hx i
    · rw [getD_drop_zeros]; omega
  · rw [getD_append]; split
    · rfl
    · rw [getD_drop_zeros, getD_big _ _ (by omega)]

theorem add_fin0 (P p q a b c : Nat) (h : P + q * c = a + b) (ha : a < p) (hb : b < p) (hq : 2 * p ≤ q) : P = a + b := by
  rcases Nat.eq_zero_or_pos c with hc | hc
  · rw [hc, Nat.mul_zero, Nat.add_zero] at h; exact h
  · have := Nat.le_mul_of_pos_right q hc
    omega
theorem add_fin (P p a b c : Nat) (h : P + p * 4294967296 * c = a + b) (ha : a < p) (hb : b < p) : P = a + b :=
  add_fin0 P p _ a b c h ha hb (by omega)
theorem AddInv.cell {w0 wr : World} {g N k c : Nat} {A B : List Nat} (h : AddInv w0 g N A B k c wr) (hk : k < N) :
    wr.cell? ⟨g, k, none⟩ = some (.int .u32 ((A.getD k 0 : Nat) : Int)) ∧ wr.frozen? ⟨g, k, none⟩ = false ∧ Ext w0 wr := by
  obtain ⟨ys, h1, h2, h3, h4, h5, h6⟩ := h
  exact ⟨by rw [← h5 k (Nat.le_refl _)]; exact h1.cell k (by omega), h1.free k, h6⟩

theorem AddInv.fin {w0 wr : World} {g n c : Nat} {A B : List Nat} (h : AddInv w0 g (n + 1) A B (n + 1) c wr) (hA : ∀ i, A.getD i 0 < 4294967296) (hB : ∀ i, B.getD i 0 < 4294967296)
    (hlA : A.length = n) (hlB : B.length ≤ n) (hn : n ≤ 1073741824) :
    ∃ ys, Wd wr (some ⟨g, 0, none⟩) (n + 1) (n + 1) ys ∧ natVal ys = natVal A + natVal B ∧ Ext w0 wr := by
  obtain ⟨ys, h1, h2, h3, h4, h5, h6⟩ := h
  have b0 : n + 1 ≤ 140737488355328 := by clear h4; omega
  have hw := h1.wd h3 (n + 1) (Nat.le_of_eq h2) b0
  rw [h2] at hw
  refine ⟨ys, hw, ?_, h6⟩
  have l1 : B.length ≤ n + 1 := Nat.le_succ_of_le hlB
  rw [pv_all ys _ (Nat.le_of_eq h2), pv_all A _ (by rw [hlA]; exact Nat.le_succ n), pv_all B _ l1, Nat.pow_succ] at h4
  have a1 := natVal_lt A hA
  have b1 := pv_lt B hB n
  rw [pv_all B _ hlB] at b1
  rw [hlA] at a1
  exact add_fin _ _ _ _ _ h4 a1 b1

set_option maxRecDepth 100000 in
set_option maxHeartbeats 1000000 in
theorem add_wd (w : World) (a1 a2 : Option Addr) (n1 n2 c1 c2 : Nat) (xs ys : List Nat) (h1 : Wd w a1 n1 c1 xs) (h2 : Wd w a2 n2 c2 ys) (s1 : n1 ≤ 1073741824) (s2 : n2 ≤ 1073741824) :
    Calls Tryd.prog 38 #[.slice a1 n1 c1, .slice a2 n2 c2] w (RNat w (max n1 n2 + 1) (natVal xs + natVal ys)) := by
  have key : ∀ (aB aS : Option Addr) (nB nS cB cS : Nat) (B S : List Nat) (hB : Wd w aB nB cB B) (hS : Wd w aS nS cS S) (hle : nS ≤ nB),
      (aB = a1 ∧ nB = n1 ∧ cB = c1 ∧ B = xs ∧ aS = a2 ∧ nS = n2 ∧ cS = c2 ∧ S = ys ∧ ¬ n1 < n2) ∨ (aB = a2 ∧ nB = n2 ∧ cB = c2 ∧ B = ys ∧ aS = a1 ∧ nS = n1 ∧ cS = c1 ∧ S = xs ∧ n1 < n2) →
      Calls Tryd.prog 38 #[.slice a1 n1 c1, .slice a2 n2 c2] w (RNat w (nB + 1) (natVal B + natVal S)) := by
    intro aB aS nB nS cB cS B S hB hS hle hor
    have hlB := hB.len
    have hlS := hS.len
    have HB := hid hB.lt
    have HS := hid hS.lt
    have HlB := hid hlB
    have HlS := hid hlS
    have sB : nB ≤ 1073741824 := by omega
    clear hlB hlS
    rcases hor with ⟨rfl, rfl, rfl, rfl, rfl, rfl, rfl, rfl, hlt⟩ | ⟨rfl, rfl, rfl, rfl, rfl, rfl, rfl, rfl, hlt⟩
    all_goals
      have HWB := hid hB
      have HWS := hid hS
      have hsh := hS.shape
      clear h1 h2 hB hS s1 s2
      rcases hsh with hsh | ⟨b, off, rfl, hb⟩
    all_goals
      go_enter Tryd.func38, Tryd.ntmps38
      go_wp2_with (first
        | (at_make; refine wpl_make rfl _ _ _ rfl Tryd.underlying56 _ _ (nB + 1) rfl rfl (by omega) (by omega) (by omega) ?_; intro w1 e1 z1 o1)
        | (with_reducible refine wpl_copy w rfl _ _ _ _ rfl Tryd.underlying56 _ _ _ _ _ rfl rfl _ _ o1 (by simp) (HWB.out.ext e1) (by omega) e1 (Nat.le_refl _) ?_; intro w2 o2 e2))
      have I0 := hid (AddInv.start (B := S) o2 HlB.out HB.out e2)
      clear o2 o1 e1 z1 e2
      go_loopw [6, 25] (fun c i wr => ∃ k cc : Nat, k ≤ nB + 1 ∧ cc ≤ 1 ∧ i = .int .i64 k ∧ c = .int .u32 cc ∧ Hid (AddInv w w.heap.size (nB + 1) B S k cc wr)) (fun _ i _ => nB + 1 - (intOf i).toNat)
      case atStart => exact ⟨0, 0, by omega, by omega, rfl, rfl, I0⟩
      case round =>
        clear I0
        obtain ⟨k, cc, hk, hcc, rfl, rfl, hinv⟩ := hrel
        by_cases hk1 : k < nB + 1
        · have hst := hid (hinv.out.step hk1 (Nat.le_refl _))
          obtain ⟨hc1, hf1, hext⟩ := hinv.out.cell hk1
          have hxl := HB.out k
          have hyl := HS.out k
          have hyz : nS ≤ k → S.getD k 0 = 0 := fun h => getD_big _ _ (by rw [HlS.out]; exact h)
          by_cases hs : k < nS
          · first
              | (exfalso; omega)
              | (have hcS := (HWS.out.ext hext).cell k hs
                 clear hinv hyz
                 generalize B.getD k 0 = x at *
                 generalize S.getD k 0 = y at *
                 have hcc' : (x + y + cc) / 4294967296 ≤ 1 := by omega
                 go_wp2_with (go_at_call 60; refine (add32_c x y cc hxl hyl hcc _).mono ?_; rintro e w' ⟨rfl, rfl⟩)
                 go_roundw
                 case rel => exact ⟨k + 1, _, by omega, hcc', by go_num, rfl, hst⟩
                 case measure => simp [intOf]; omega)
          · have hy0 := hyz (by omega)
            clear hinv hyz
            generalize B.getD k 0 = x at *
            generalize S.getD k 0 = y at *
            subst hy0
            have hcc' : (x + 0 + cc) / 4294967296 ≤ 1 := by omega
            go_wp2_with (go_at_call 60; refine (add32_c x 0 cc hxl hyl hcc _).mono ?_; rintro e w' ⟨rfl, rfl⟩)
            go_roundw
            case rel => exact ⟨k + 1, _, by omega, hcc', by go_num, rfl, hst⟩
            case measure => simp [intOf]; omega
        · obtain rfl : k = nB + 1 := by omega
          obtain ⟨zs, hz1, hz2, hz3⟩ := hinv.out.fin HB.out HS.out HlB.out (by rw [HlS.out]; exact hle) sB
          have hz2 := hid hz2
          clear hinv
          go_wp2_with (go_at_call 56; refine (trim_c _ _ _ _ _ hz1).mono ?_; rintro e w3 ⟨ao, n, cap, rfl, he, hn⟩)
          go_ret
          exact ⟨ao, n, cap, rfl, hz3.trans he, hz2.out ▸ hn⟩
  rcases Nat.lt_or_ge n1 n2 with h | h
  · have := key a2 a1 n2 n1 c2 c1 ys xs h2 h1 (by omega) (.inr ⟨rfl, rfl, rfl, rfl, rfl, rfl, rfl, rfl, h⟩)
    rw [Nat.add_comm (natVal xs), Nat.max_eq_right (Nat.le_of_lt h)]
    exact this
  · have := key a1 a2 n1 n2 c1 c2 xs ys h1 h2 h (.inl ⟨rfl, rfl, rfl, rfl, rfl, rfl, rfl, rfl, by omega⟩)
    rw [Nat.max_eq_left h]
    exact this
theorem add_c (w : World) (a1 a2 : Option Addr) (n1 n2 c1 c2 k1 k2 x y : Nat) (h1 : NatAt w k1 a1 n1 c1 x) (h2 : NatAt w k2 a2 n2 c2 y) (s1 : k1 ≤ 1073741824) (s2 : k2 ≤ 1073741824) :
    Calls Tryd.prog 38 #[.slice a1 n1 c1, .slice a2 n2 c2] w (RNat w (max k1 k2 + 1) (x + y)) := by
  obtain ⟨xs, h1, l1, _, rfl⟩ := h1
  obtain ⟨ys, h2, l2, _, rfl⟩ := h2
  refine (add_wd w a1 a2 n1 n2 c1 c2 xs ys h1 h2 (by omega) (by omega)).mono ?_
  rintro e w' ⟨ao, n, cap, he, hx, hn⟩
  exact ⟨ao, n, cap, he, hx, hn.mono (by omega)⟩
end Go.Proofs.YtpflfagjkmeeiaaDoor
