/-
  math/bits.Add32, Sub32 and Div32 at words: Add32, Sub32: every two words, the carry 0 or 1; Div32: the high word less than the divisor.
-/
import Derived.Test.YtpflfagjkmeeiaaDoorProg
import Derived.Test.YtpflfagjkmeeiaaDoorBase
import Derived.WalkLawsBesides
import Derived.WalkSpells
import Derived.Deep.QuietTactic
import Derived.BigQuiet
namespace Go.Proofs.YtpflfagjkmeeiaaDoor
open Go Go.RowKit

theorem tuple2 {k l : IntKind} {a b c d : Int} (h : a = c) (h' : b = d) : Value.tuple #[.int k a, .int l b] = .tuple #[.int k c, .int l d] := by rw [h, h']

set_option maxHeartbeats 400000 in
theorem add32_c (x y c : Nat) (hx : x < 4294967296) (hy : y < 4294967296) (hc : c ≤ 1) (w : World) :
    Calls Tryd.prog 60 #[.int .u32 (x : Int), .int .u32 (y : Int), .int .u32 (c : Int)] w
      (RSame w (.tuple #[.int .u32 (((x + y + c) % 4294967296 : Nat) : Int), .int .u32 (((x + y + c) / 4294967296 : Nat) : Int)])) := by
  go_enter Tryd.func60, Tryd.ntmps60
  go_wp2
  go_ret2
  exact RSame.mk' (tuple2 (by omega) (by omega))

theorem top32 (n : Nat) (h : n < 4294967296) : n / 2147483648 = if n.testBit 31 then 1 else 0 := by
  rw [Nat.testBit_eq_decide_div_mod_eq]
  simp only [decide_eq_true_eq]
  split <;> omega
theorem bit31 (n : Nat) (h : n < 4294967296) : n.testBit 31 = decide (2147483648 ≤ n) := by
  rw [Nat.testBit_eq_decide_div_mod_eq]
  simp only [decide_eq_decide]
  omega

theorem borrow32 (x y c : Nat) (hx : x < 4294967296) (hy : y < 4294967296) (hc : c ≤ 1) :
    bits BinOp.or IntKind.u32 (bits BinOp.and IntKind.u32 (bits BinOp.xor IntKind.u32 IntKind.u32.max (x : Int)) (y : Int))
      (bits BinOp.and IntKind.u32 (bits BinOp.xor IntKind.u32 IntKind.u32.max (bits BinOp.xor IntKind.u32 (x : Int) (y : Int))) (((x : Int) - y - c) % 4294967296)) / 2147483648
      = ((if x < y + c then 1 else 0 : Nat) : Int) := by
  have e1 : IntKind.u32.max = ((4294967295 : Nat) : Int) := rfl
  have e2 : ((x : Int) - y - c) % 4294967296 = (((x + 4294967296 - y - c) % 4294967296 : Nat) : Int) := by omega
  generalize hd : (x + 4294967296 - y - c) % 4294967296 = d at e2
  have hdl : d < 4294967296 := by omega
  have x1 : ∀ a b : Nat, a < 4294967296 → b < 4294967296 → a ^^^ b < 4294967296 := fun a b ha hb => Nat.xor_lt_two_pow (n := 32) ha hb
  have a1 : ∀ a b : Nat, b < 4294967296 → a &&& b < 4294967296 := fun a b hb => Nat.and_lt_two_pow (n := 32) _ hb
  have o1 : ∀ a b : Nat, a < 4294967296 → b < 4294967296 → a ||| b < 4294967296 := fun a b ha hb => Nat.or_lt_two_pow (n := 32) ha hb
  have hm : (4294967295 : Nat) < 4294967296 := by omega
  rw [e1, e2, u32_xor_nat _ _ hm hx, u32_xor_nat _ _ hx hy, u32_and_nat _ _ (x1 _ _ hm hx) hy, u32_xor_nat _ _ hm (x1 _ _ hx hy), u32_and_nat _ _ (x1 _ _ hm (x1 _ _ hx hy)) hdl,
    u32_or_nat _ _ (a1 _ _ hy) (a1 _ _ hdl)]
  have ht := top32 ((4294967295 ^^^ x) &&& y ||| (4294967295 ^^^ (x ^^^ y)) &&& d) (o1 _ _ (a1 _ _ hy) (a1 _ _ hdl))
  have : ((((4294967295 ^^^ x) &&& y ||| (4294967295 ^^^ (x ^^^ y)) &&& d : Nat) : Int)) / 2147483648 = ((((4294967295 ^^^ x) &&& y ||| (4294967295 ^^^ (x ^^^ y)) &&& d) / 2147483648 : Nat) : Int) := by
    omega
  rw [this, ht]
  simp only [Nat.testBit_or, Nat.testBit_and, Nat.testBit_xor, bit31 x hx, bit31 y hy, bit31 d hdl, bit31 _ hm]
  by_cases h1 : 2147483648 ≤ x <;> by_cases h2 : 2147483648 ≤ y <;> by_cases h3 : 2147483648 ≤ d <;> by_cases h4 : x < y + c <;> simp [h1, h2, h3, h4] <;> omega

set_option maxHeartbeats 400000 in
theorem sub32_c (x y c : Nat) (hx : x < 4294967296) (hy : y < 4294967296) (hc : c ≤ 1) (w : World) :
    Calls Tryd.prog 59 #[.int .u32 (x : Int), .int .u32 (y : Int), .int .u32 (c : Int)] w
      (RSame w (.tuple #[.int .u32 (((x + 4294967296 - y - c) % 4294967296 : Nat) : Int), .int .u32 ((if x < y + c then 1 else 0 : Nat) : Int)])) := by
  have hb := hid (borrow32 x y c hx hy hc)
  go_enter Tryd.func59, Tryd.ntmps59
  generalize hf : (if x < y + c then 1 else 0 : Nat) = f at hb ⊢
  have hf := hid hf
  go_wp2
  go_ret2
  exact RSame.mk' (tuple2 (by omega) hb.out)

theorem sub32_lt (x y c : Nat) (hx : x < 4294967296) (hy : y < 4294967296) (hc : c ≤ 1) (w : World) (h : x < y + c) :
    Calls Tryd.prog 59 #[.int .u32 (x : Int), .int .u32 (y : Int), .int .u32 (c : Int)] w
      (RSame w (.tuple #[.int .u32 (((x + 4294967296 - y - c) % 4294967296 : Nat) : Int), .int .u32 1])) := by
  have := sub32_c x y c hx hy hc w
  rw [if_pos h] at this; exact this
theorem sub32_ge (x y c : Nat) (hx : x < 4294967296) (hy : y < 4294967296) (hc : c ≤ 1) (w : World) (h : ¬ x < y + c) :
    Calls Tryd.prog 59 #[.int .u32 (x : Int), .int .u32 (y : Int), .int .u32 (c : Int)] w
      (RSame w (.tuple #[.int .u32 (((x + 4294967296 - y - c) % 4294967296 : Nat) : Int), .int .u32 0])) := by
  have := sub32_c x y c hx hy hc w
  rw [if_neg h] at this; exact this

set_option maxHeartbeats 400000 in
theorem div32_c (hi lo d : Nat) (hh : hi < d) (hl : lo < 4294967296) (hd : d < 4294967296) (w : World) :
    Calls Tryd.prog 65 #[.int .u32 (hi : Int), .int .u32 (lo : Int), .int .u32 (d : Int)] w fun e w' =>
      e = .returned (.tuple #[.int .u32 (((hi * 4294967296 + lo) / d : Nat) : Int), .int .u32 (((hi * 4294967296 + lo) % d : Nat) : Int)]) ∧ Ext w w' := by
  have h1 : ((d : Int) != 0) = true := by rw [bne_iff_ne]; omega
  have h2 : decide ((d : Int) ≤ (hi : Int)) = false := by simp; omega
  have h3 : bits .or .u64 ((hi : Int) * 4294967296) (lo : Int) = ((hi * 4294967296 + lo : Nat) : Int) := by
    have := u64_or_nat (hi * 4294967296) lo (by omega) (by omega)
    rw [nat_join 32 _ _ (by omega) (by omega)] at this
    simpa using this
  go_enter Tryd.func65, Tryd.ntmps65
  go_wp2_with fail
  have hd0 : ¬ (d : Int) = 0 := by omega
  go_quiet (fail)
  go_wp2
  go_ret2
  have hq : (hi * 4294967296 + lo) / d < 4294967296 := Nat.div_lt_of_lt_mul (by have := Nat.mul_le_mul_right 4294967296 (show hi + 1 ≤ d from hh); omega)
  have hr : (hi * 4294967296 + lo) % d < d := Nat.mod_lt _ (by omega)
  have q1 : ((hi : Int) * 4294967296 + lo) / d = ((hi * 4294967296 + lo) / d : Nat) := by simp
  have r1 : ((hi : Int) * 4294967296 + lo) % d = ((hi * 4294967296 + lo) % d : Nat) := by simp
  refine ⟨?_, (Ext.refl w).drewN _⟩
  refine congrArg Ending.returned (tuple2 ?_ ?_)
  · rw [q1]; generalize (hi * 4294967296 + lo) / d = q at hq ⊢; clear q1 r1 hr h3 h2 h1; omega
  · rw [r1]; generalize (hi * 4294967296 + lo) % d = q at hr ⊢; clear q1 r1 hq h3 h2 h1; omega
end Go.Proofs.YtpflfagjkmeeiaaDoor
