/-
  strings.Cut at the separator '/': every string of less than 2^62 bytes.
-/
import Derived.Test.YtcgdkfadcglekaaGreatDoorRgm
import Derived.Test.YtcgdkfadcglekaaGreatDoorRat
namespace Go.Proofs.YtcgdkfadcglekaaGreatDoor
open Go Go.RowKit

set_option maxRecDepth 100000 in
theorem Index_slash (w : World) (s : ByteArray) : Calls Tryz.prog 132 #[.string s, .string ⟨#[47]⟩] w fun e w' => e = .returned (.int .i64 (Lib.indexByte s.data.toList 47)) ∧ w' = w := by
  by_cases hs : s = ⟨#[47]⟩
  · subst hs
    have h0 : Lib.indexByte (⟨#[47]⟩ : ByteArray).data.toList 47 = 0 := by decide
    rw [h0]
    go_enter Tryz.func132, Tryz.ntmps132
    go_wp2_with fail
    go_ret
    exact ⟨rfl, rfl⟩
  · have hs2 : ([47] == s.toList) = false := by rw [beq_eq_false_iff_ne, ba_list]; exact fun h => hs (ba_ext h.symm)
    go_enter Tryz.func132, Tryz.ntmps132
    go_wp2_with (go_at_call 144; refine Calls.mono (Tryz.stringslite_IndexByte s 47 _) ?_; rintro e w1 ⟨rfl, rfl⟩)
    go_ret
    exact ⟨rfl, rfl⟩
set_option maxRecDepth 100000 in
theorem Cut1_hit (w : World) (s : ByteArray) (i : Nat) (h : Lib.indexByte s.data.toList 47 = i) (hi : i + 1 ≤ s.size) (hs : s.size < 4611686018427387904) :
    Calls Tryz.prog 111 #[.string s, .string ⟨#[47]⟩] w fun e w' => e = .returned (.tuple #[.string (s.extract 0 i), .string (s.extract (i + 1) s.size), .bool true]) ∧ Ext w w' := by
  have c1 : (0 : Int) ≤ ↑i := by omega
  have c2 : (↑i : Int) ≤ ↑s.size := by omega
  have c3 : (0 : Int) ≤ ↑i + 1 := by omega
  have c4 : (↑i + 1 : Int) ≤ ↑s.size := by omega
  have H := hid h
  go_enter Tryz.func111, Tryz.ntmps111
  go_wp2_with (go_at_call 132; refine Calls.mono (Index_slash _ s) ?_; rintro e w1 ⟨rfl, rfl⟩; rw [H.out])
  go_region
  all_goals go_wp2
  all_goals go_ret3
  all_goals exact ⟨rfl, (Ext.refl _).drew⟩
set_option maxRecDepth 100000 in
theorem Cut1_miss (w : World) (s : ByteArray) (h : Lib.indexByte s.data.toList 47 = -1) :
    Calls Tryz.prog 111 #[.string s, .string ⟨#[47]⟩] w fun e w' => e = .returned (.tuple #[.string s, .string ⟨#[]⟩, .bool false]) ∧ Ext w w' := by
  have H := hid h
  go_enter Tryz.func111, Tryz.ntmps111
  go_wp2_with (go_at_call 132; refine Calls.mono (Index_slash _ s) ?_; rintro e w1 ⟨rfl, rfl⟩; rw [H.out])
  go_ret3
  exact ⟨rfl, Ext.refl _⟩
set_option maxRecDepth 100000 in
theorem Cut_of (w : World) (s a b : ByteArray) (t : Bool) (h : ∀ w, Calls Tryz.prog 111 #[.string s, .string ⟨#[47]⟩] w fun e w' => e = .returned (.tuple #[.string a, .string b, .bool t]) ∧ Ext w w') :
    Calls Tryz.prog 72 #[.string s, .string ⟨#[47]⟩] w (Ret w (IsT3 (IsV (.string a)) (IsV (.string b)) (IsV (.bool t)))) := by
  have H := hid h
  go_enter Tryz.func72, Tryz.ntmps72
  go_wp2_with (go_at_call 111; refine Calls.mono (H.out _) ?_; rintro e w1 ⟨rfl, e1⟩)
  go_ret3
  exact ⟨_, rfl, e1, _, _, _, rfl, rfl, rfl, rfl⟩
/-- What Cut hands back at '/': found at place i, or not. -/
theorem Cut_hit (w : World) (s : ByteArray) (i : Nat) (h : Lib.indexByte s.data.toList 47 = i) (hi : i + 1 ≤ s.size) (hs : s.size < 4611686018427387904) :
    Calls Tryz.prog 72 #[.string s, .string ⟨#[47]⟩] w (Ret w (IsT3 (IsV (.string (s.extract 0 i))) (IsV (.string (s.extract (i + 1) s.size))) (IsV (.bool true)))) := Cut_of w s _ _ _ fun w => Cut1_hit w s i h hi hs
theorem Cut_miss (w : World) (s : ByteArray) (h : Lib.indexByte s.data.toList 47 = -1) :
    Calls Tryz.prog 72 #[.string s, .string ⟨#[47]⟩] w (Ret w (IsT3 (IsV (.string s)) (IsV (.string ⟨#[]⟩)) (IsV (.bool false)))) := Cut_of w s _ _ _ fun w => Cut1_miss w s h
end Go.Proofs.YtcgdkfadcglekaaGreatDoor
