/-
  Integers of package integer: Parse at the string -0. No condition.
-/
import Derived.Test.YtpflfagjkmeeiaaDoorText
namespace Go.Proofs.YtpflfagjkmeeiaaDoor
open Go Go.RowKit

theorem Parse_m0 (w : World) : Calls Tryd.prog 27 #[.string ⟨#[45, 48]⟩] w (Ret w (IsT2 (IsI 0 0) (IsV (.int .i64 3)))) := by
  have h1 : (⟨(Lib.trimPrefix (⟨#[45, 48]⟩ : ByteArray).data.toList (⟨#[45]⟩ : ByteArray).data.toList).toArray⟩ : ByteArray) = ⟨#[48]⟩ := by rfl
  have h2 : Lib.hasPrefix (⟨#[45, 48]⟩ : ByteArray).data.toList (⟨#[45]⟩ : ByteArray).data.toList = true := by rfl
  have H := Tryd.strings_CutPrefix ⟨#[45, 48]⟩ ⟨#[45]⟩ (w.alloc (.cells #[.bool false, .slice none 0 0] 27))
  rw [h1, h2] at H
  have H := hid H
  clear h1 h2
  go_enter Tryd.func27, Tryd.ntmps27
  go_wp2_with fail
  refine Calls.mono H.out ?_
  rintro e w1 ⟨rfl, rfl⟩
  clear H
  go_wp2_with fail
  exact bodyPost_ret (v := .tuple #[.agg #[.bool false, .slice none 0 0], .int .i64 3]) (by simp [results, Tryd.results27, go_sem]) rfl ⟨_, rfl, ((Ext.refl w).alloc _), _, _, rfl, IsI.nil _ _, rfl⟩
end Go.Proofs.YtpflfagjkmeeiaaDoor
