/-
  Package notebook: Uses: the names of the cells that an expression uses, in order.
  Package notebook: Fill.
-/
import Derived.Test.YtenhciieboegbaaGreatDoorNus
import Derived.Shelf.SlIter.Keys
import Derived.Shelf.Slices.In.SortNone
import Derived.Test.YtenhciieboegbaaGreatDoorText
import Derived.Lib.ReplaceLaws
import Derived.Lib.ItoaLen
namespace Go.Proofs.YtenhciieboegbaaGreatDoor
open Go Go.RowKit Go.Maps Go.Sort Go.Shelf
@[go_sem] theorem st_fnU {P : Program} {w : World} {a : Addr} {f : Fn} {u c : Array Value} {m : Mode} : (store a (.func f u c) m).run P w = stored P w a (.func f u c) m := run_store P w a _ m rfl
def soRen : Ren := ⟨fun | 6 => 46 | 7 => 47 | 8 => 54 | 9 => 88 | 10 => 89 | 11 => 94 | n => n, fun | 0 => 0 | 3 => 4 | 4 => 4 | 23 => 69 | 24 => 53 | 26 => 9 | 27 => 90 | 28 => 90 | 33 => 70 | n => n, fun | n => n⟩
theorem so6 : SlLaysZ.n6 Tryz.prog soRen := {
  mixed := by kernel_rfl
  f6 := ⟨Tryz.f46.name, by kernel_rfl, Tryz.func46.trans (congrArg some (by kernel_rfl))⟩
  f8 := ⟨Tryz.f54.name, by kernel_rfl, Tryz.func54.trans (congrArg some (by kernel_rfl))⟩
  f11 := ⟨Tryz.f94.name, by kernel_rfl, Tryz.func94.trans (congrArg some (by kernel_rfl))⟩
  t0 := by kernel_rfl
  a0 := fun w => by kernel_rfl
  z0 := fun w => by kernel_rfl
  v0 := fun w => by kernel_rfl
  t24 := by kernel_rfl
  a24 := fun w => by kernel_rfl
  z24 := fun w => by kernel_rfl
  v24 := fun w => by kernel_rfl
  t26 := by kernel_rfl
  a26 := fun w => by kernel_rfl
  z26 := fun w => by kernel_rfl
  v26 := fun w => by kernel_rfl
  t28 := by kernel_rfl
  a28 := fun w => by kernel_rfl
  z28 := fun w => by kernel_rfl
  v28 := fun w => by kernel_rfl
  i26 := by kernel_rfl }
theorem so7 : SlLaysZ.n10 Tryz.prog soRen := {
  mixed := by kernel_rfl
  f10 := ⟨Tryz.f89.name, by kernel_rfl, Tryz.func89.trans (congrArg some (by kernel_rfl))⟩
  t0 := by kernel_rfl
  a0 := fun w => by kernel_rfl
  z0 := fun w => by kernel_rfl
  v0 := fun w => by kernel_rfl
  t4 := by kernel_rfl
  a4 := fun w => by kernel_rfl
  z4 := fun w => by kernel_rfl
  v4 := fun w => by kernel_rfl
  t23 := by kernel_rfl
  a23 := fun w => by kernel_rfl
  z23 := fun w => by kernel_rfl
  v23 := fun w => by kernel_rfl
  t26 := by kernel_rfl
  a26 := fun w => by kernel_rfl
  z26 := fun w => by kernel_rfl
  v26 := fun w => by kernel_rfl
  t33 := by kernel_rfl
  a33 := fun w => by kernel_rfl
  z33 := fun w => by kernel_rfl
  v33 := fun w => by kernel_rfl }
theorem soSort : AnyZ.SortsIn Tryz.prog soRen Fence.wide 4 :=
  ⟨fun blk off cap ss W h1 h2 h3 => callsIn_wide.2 (Tryz.slices_Sort_string blk off cap ss W h1 h2 h3), fun p cap W => callsIn_wide.2 (Any.slices_Sort_string_none Tryz.lays190 p cap W)⟩
/-- The names that are used, in order, each once. -/
noncomputable def usS (x : Nd) : Sc := (strKeys (putS (usN x).reverse)).mergeSort (fun x y => decide (x ≤ y))
set_option maxRecDepth 100000 in
set_option maxHeartbeats 4000000 in
theorem sortedK_f {w : World} {b n : Nat} {l : Sc} (hown : w.ownsMap (H := Unit) Tryz.prog 9 (plainElem Tryz.prog 4) b n (putS l)) (hn : n ≤ 1000000) (Bm : Nat) (hBm : Bm < w.heap.size) (hm : w.cell? ⟨Bm, 0, none⟩ = some (.map (some b))) :
    Calls Tryz.prog 46 #[.func (.func 89) #[] #[.pointer (some ⟨Bm, 0, none⟩)]] w (Ret w (IsSr ((strKeys (putS l)).mergeSort (fun x y => decide (x ≤ y))))) := by
  have hsz := hown.size_le
  have hseq : SeqGives Fence.wide 2 Tryz.prog 89 #[.pointer (some ⟨Bm, 0, none⟩)] encStr (fun ss => ss.Perm (strKeys (putS l))) (Maps.size (putS l)) w :=
    AnyZ.keys_gives (ρ := soRen) { so7 with } Fence.wide 2 trivial rfl (by decide) Bm b n (putS l) w hBm hm hown
  refine Calls.mono (callsIn_wide.1 (AnyZ.sorted_in so6 Fence.wide 5 trivial trivial trivial trivial rfl (by decide) soSort (enters_of Tryz.func88 (by kernel_rfl) rfl) 89 _ trivial (enters_of Tryz.func89 (by kernel_rfl) rfl) _ (Maps.size (putS l)) (by unfold maxLen; omega) (by omega) w hseq)) ?_
  rintro e w' ⟨v, ss, rfl, hp, hrow, hnil, hb⟩
  refine ⟨v, rfl, hb, ?_⟩
  have hM : ss.mergeSort (fun x y => decide (x ≤ y)) = (strKeys (putS l)).mergeSort (fun x y => decide (x ≤ y)) := mergeSort_of_perm hp
  rw [← hM]
  have hr : Rwg 9 1 _ w' v _ _ := hrow
  obtain ⟨ao, cap, rfl, h1, h2, -, h4⟩ := hr.shape
  have hl : (ss.mergeSort (fun x y => decide (x ≤ y))).length = ss.length := by simp
  refine ⟨ao, cap, by rw [hl], by rw [hl]; omega, fun hne => ?_⟩
  obtain ⟨g, rfl, -, -, k⟩ := h4 (fun e => hne (List.length_eq_zero_iff.1 (by rw [hl]; exact e)))
  exact ⟨g, 0, rfl, fun j s hj => by rw [Nat.zero_add]; exact k j _ (by rw [List.getElem?_map, hj]; rfl)⟩
section
set_option maxRecDepth 100000
set_option maxHeartbeats 4000000
theorem st_fnT (f : Fn) (caps : Array Value) : StC1 Tryz.prog 87 (.func f #[] caps) := fun w a v h2 h3 => by go_simp
theorem keysM_f (w : World) (b : Nat) : Calls Tryz.prog 47 #[.map (some b)] w (fun e w' => e = .returned (.func (.func 89) #[] #[.pointer (some ⟨w.heap.size, 0, none⟩)]) ∧ w' = w.alloc (.cells #[.map (some b)] 69)) := by
  have hmf : ∀ (fn : Fn) (first cap : Array Value) (w : World), (Instr.makeFunc fn first cap).run Tryz.prog w = .ok (.func fn first cap) w := fun _ _ _ _ => rfl
  go_enter Tryz.func47, Tryz.ntmps47
  go_wp2
  go_ret
  exact ⟨rfl, rfl⟩
theorem Uses_f {x : Nd} {B : Nat} {us : List Value} {w : World} (hx : NdC B w x us) (hok : NdOk x) (hn : (usN x).length ≤ 900000) : Calls Tryz.prog 23 #[.agg us.toArray] w (Ret w (IsSr (usS x))) := by
  have hmf : ∀ (fn : Fn) (first cap : Array Value) (w : World), (Instr.makeFunc fn first cap).run Tryz.prog w = .ok (.func fn first cap) w := fun _ _ _ _ => rfl
  have hmk : ∀ w, (Instr.makeMap 69 none).run Tryz.prog w = .ok (.map (some w.heap.size)) (w.alloc (.map #[] 0)) := fun w => @run_makeMap Tryz.prog 69 w
  have hl8 := hx.len
  obtain ⟨u0, u1, u2, u3, u4, u5, u6, u7, rfl⟩ := len8 hl8
  have h1 : (w.alloc (.cells #[u0, u1, u2, u3, u4, u5, u6, u7] 32)).heap.size = w.heap.size + 1 := by simp
  have h2 : ((w.alloc (.cells #[u0, u1, u2, u3, u4, u5, u6, u7] 32)).alloc (.map #[] 0)).heap.size = w.heap.size + 2 := by simp
  have h3 : (((w.alloc (.cells #[u0, u1, u2, u3, u4, u5, u6, u7] 32)).alloc (.map #[] 0)).alloc (.cells #[.map (some (w.heap.size + 1))] 69)).heap.size = w.heap.size + 3 := by simp
  obtain ⟨W, hW, E, B1, OM, B3, B4⟩ : ∃ W, W = (((w.alloc (.cells #[u0, u1, u2, u3, u4, u5, u6, u7] 32)).alloc (.map #[] 0)).alloc (.cells #[.map (some (w.heap.size + 1))] 69)).alloc (.cells #[.nilFunc] 87) ∧ Ext w W ∧
      Bk W w.heap.size [u0, u1, u2, u3, u4, u5, u6, u7] ∧ W.ownsMap (H := Unit) Tryz.prog 9 (plainElem Tryz.prog 4) (w.heap.size + 1) 0 (putS []) ∧ Bk W (w.heap.size + 2) [.map (some (w.heap.size + 1))] ∧ Bk W (w.heap.size + 3) [.nilFunc] :=
    ⟨_, rfl, ((((Ext.refl w).alloc _).alloc _).alloc _).alloc _, (Bk.new w _ _).ext ((((Ext.refl _).alloc _).alloc _).alloc _), by rw [← h1]; exact ownsMap_ext (World.ownsMap_made _ _ _ _) (((Ext.refl _).alloc _).alloc _), (Bk.newE _ _ h2 _ _).ext ((Ext.refl _).alloc _), Bk.newE _ _ h3 _ _⟩
  have HX := hid hx
  have HOK := hid (And.intro hok hn)
  have HE := hid E
  have HB1 := hid B1
  have HOM := hid OM
  have HB3 := hid B3
  have HB4 := hid B4
  clear hx hok hn hl8 h1 h2 h3 E B1 OM B3 B4
  go_enter Tryz.func23, Tryz.ntmps23
  go_upto_region 3 with (fail)
  try simp only [Nat.reduceAdd, Nat.add_assoc]
  rw [← hW]
  clear hW hmk
  refine wp_region_lit ?_
  refine wpList_step fun K hK => ?_
  go_simp
  refine hK _ _ ?_
  clear hK K hmf
  refine stL (fun K hK => ?_)
  refine stCO 0 (u := .func (.func 45) #[] #[.pointer (some ⟨w.heap.size + 2, 0, none⟩), .pointer (some ⟨w.heap.size + 3, 0, none⟩)]) HB4.out (st_fnT _ _) rfl (fun x => by simp) (fun X B9 O => hK _ _ ?_)
  have HE1 := hid (O.ext HE.out (Nat.le_add_right _ _))
  have HU1 := hid (show UsA (w.heap.size + 2) (w.heap.size + 3) (w.heap.size + 1) 0 [] X from by
    have h : UsA (w.heap.size + 2) (w.heap.size + 3) (w.heap.size + 1) 0 [] X := ⟨by
      have hbl := HOM.out.lt
      obtain ⟨es, clock, hb, Ft, hs, hD⟩ := HOM.out
      exact ⟨es, clock, (O.block _ (by omega)).trans hb, Ft, hs, hD⟩, O.bk HB3.out (by omega), B9⟩
    exact h)
  have HB5 := hid (O.bk HB1.out (by omega))
  clear hK K O B9
  refine wpList_nil ?_
  go_upto_region 4 with (fail)
  refine wp_region_lit ?_
  refine stL (fun K hK => wp_ld (p := .pointer (some ⟨w.heap.size + 3, 0, none⟩)) (u := .func (.func 45) #[] #[.pointer (some ⟨w.heap.size + 2, 0, none⟩), .pointer (some ⟨w.heap.size + 3, 0, none⟩)]) (ld_fn _ _ _ (HU1.out.2.2.c 0 _ rfl)) (hK _ _ ?_))
  clear hK K
  go_simp
  refine stL (fun K hK => wp_ld (p := .pointer (some ⟨w.heap.size, 0, none⟩)) (u := .agg #[u0, u1, u2, u3, u4, u5, u6, u7]) (ld_Nd _ _ _ rfl HB5.out) (hK _ _ ?_))
  clear hK K
  go_simp
  have HCL := hid (look_f x B (w.heap.size + 2) (w.heap.size + 3) (w.heap.size + 1) 0 [] [u0, u1, u2, u3, u4, u5, u6, u7] w X HX.out HE1.out (Nat.le_succ _) HU1.out (by omega) (by omega) HOK.out.1 (by have := HOK.out.2; omega))
  refine stL (fun K hK => ?_)
  refine wp_callC (us := [.agg #[u0, u1, u2, u3, u4, u5, u6, u7]]) (caps := #[.pointer (some ⟨w.heap.size + 2, 0, none⟩), .pointer (some ⟨w.heap.size + 3, 0, none⟩)]) (en Tryz.func45) (by kernel_rfl) (by kernel_rfl) HCL.out (fun v X2 h => hK _ _ ?_) (fun ch X h => by { obtain ⟨hx, _⟩ := h; cases hx }) (fun X h => by { obtain ⟨hx, _⟩ := h; cases hx })
  clear hK K HCL
  obtain ⟨h0, hO, hU⟩ := h
  cases h0
  have HE2 := hid (hO.ext HE1.out (Nat.le_succ _))
  rw [List.append_nil, Nat.zero_add] at hU
  have HU2 := hid hU
  clear hO hU HE1 HU1 HB5 HB1 HOM HB3 HB4 HE
  refine wpList_nil ?_
  have c0 := HU2.out.2.1.c 0 _ rfl
  have HOW := hid (ownsMap_ext HU2.out.1 ((Ext.refl X2).alloc (.cells #[.map (some (w.heap.size + 1))] 69)))
  have HSO := hid (sortedK_f HOW.out (by have := HOK.out.2; omega) X2.heap.size (by simp) (by simp))
  go_wp2_with (first | (go_at_call 47; refine Calls.mono (keysM_f X2 _) ?_; rintro e w3 ⟨rfl, rfl⟩) | (go_at_call 46; refine Calls.mono HSO.out ?_; rintro e w4 ⟨v, rfl, e4, hv⟩; have hv := hid hv))
  go_ret
  exact ⟨_, rfl, (HE2.out.alloc _).trans e4, hv.out⟩
end
end Go.Proofs.YtenhciieboegbaaGreatDoor
namespace Go.Proofs.YtenhciieboegbaaGreatDoor
open Go Go.RowKit Go.Shelf
/-! ### Fill -/
/-- The table of powers is laid, and MaxLen holds some number. -/
def TabM (w : World) : Prop := Tab w ∧ ∃ m : Int, World.cell? w ⟨0, 0, none⟩ = some (.int .i64 m)
theorem TabM.ext {w w' : World} (h : TabM w) (e : Ext w w') : TabM w' := ⟨h.1.ext e, let ⟨m, hm⟩ := h.2; ⟨m, e.cell hm⟩⟩
/-- A name with its places filled. -/
def fillB (s x : ByteArray) (k : Int) : ByteArray := ⟨(Lib.replaceAll s.data.toList (⟨#[123]⟩ ++ x ++ ⟨#[125]⟩ : ByteArray).data.toList (Lib.itoa k)).toArray⟩
theorem cnt_le (s x : ByteArray) : Lib.countB s (⟨#[123]⟩ ++ x ++ ⟨#[125]⟩) ≤ s.size :=
  Lib.countB_le _ (by rw [ByteArray.size_append, ByteArray.size_append]; exact Nat.le_add_left _ _) s.size s (Nat.le_refl _)
set_option maxRecDepth 100000 in
set_option maxHeartbeats 4000000 in
theorem Fill_f {w : World} (T : TabM w) (s x : ByteArray) (k : Int) (hs : s.size ≤ 100000000) (hx : x.size ≤ 1000) (h0 : -9223372036854775808 ≤ k) (h1 : k ≤ 9223372036854775807) : Calls Tryz.prog 28 #[.string s, .string x, .int .i64 k] w (Ret w (IsV (.string (fillB s x k)))) := by
  obtain ⟨hT, m, hm⟩ := T
  have hl := Lib.itoa_length_le k h0 h1
  have hc := cnt_le s x
  have ho : 1 ≤ (⟨#[123]⟩ ++ x ++ ⟨#[125]⟩ : ByteArray).size := by rw [ByteArray.size_append, ByteArray.size_append]; exact Nat.le_add_left _ _
  have hlen : s.size + Lib.countB s (⟨#[123]⟩ ++ x ++ ⟨#[125]⟩) * (⟨(Lib.itoa k).toArray⟩ : ByteArray).size ≤ 140737488355328 := by
    have : (⟨(Lib.itoa k).toArray⟩ : ByteArray).size ≤ 21 := by show (Lib.itoa k).toArray.size ≤ 21; rw [List.size_toArray]; exact hl
    have := Nat.mul_le_mul hc this
    omega
  have q1 : (⟨#[123]⟩ : ByteArray).size + x.size ≤ 9223372036854775807 := by have : (⟨#[123]⟩ : ByteArray).size = 1 := rfl; omega
  have q2 : (⟨#[123]⟩ ++ x : ByteArray).size + (⟨#[125]⟩ : ByteArray).size ≤ 9223372036854775807 := by rw [ByteArray.size_append]; have : (⟨#[123]⟩ : ByteArray).size = 1 := rfl; have : (⟨#[125]⟩ : ByteArray).size = 1 := rfl; omega
  have hfin : (fillB s x k) = ⟨(Lib.replaceAll s.data.toList (⟨#[123]⟩ ++ x ++ ⟨#[125]⟩ : ByteArray).data.toList (⟨(Lib.itoa k).toArray⟩ : ByteArray).data.toList).toArray⟩ := by simp [fillB]
  rw [hfin]
  clear hfin
  generalize hold : (⟨#[123]⟩ ++ x ++ ⟨#[125]⟩ : ByteArray) = old at ho hlen hc
  go_enter Tryz.func28, Tryz.ntmps28
  go_wp2_with (first
    | (go_at_call 50; refine (Tryz.strconv_Itoa k h0 h1 _ (by first | exact hT | exact hT.ext (by assumption))).mono ?_; rintro e w1 ⟨rfl, kk, os, rfl⟩)
    | (go_at_call 49; refine (Tryz.strings_ReplaceAll s old _ m _ (by omega) (Ext.cell (ext_grow _ _ _) hm) ho hlen).mono ?_; rintro e w2 ⟨rfl, e2⟩))
  go_ret
  exact ⟨_, rfl, (ext_grow _ _ _).trans e2, rfl⟩
end Go.Proofs.YtenhciieboegbaaGreatDoor
