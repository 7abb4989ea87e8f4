/-
  strings.Cut at two separators of one byte, CutPrefix, HasPrefix, in lists of bytes. (Printed by wip/gen/ncu.py.)
  maps.Values of package notebook's words, collected by slices.Collect: the nine words in some order.
-/
import Derived.Test.YtenhciieboegbaaGreatDoorNpl
import Derived.Test.YtenhciieboegbaaGreatDoorShelf
import Derived.Test.YtenhciieboegbaaGreatDoorNnm
import Derived.Test.YtenhciieboegbaaGreatDoorFact
import Derived.Shelf.SlIter.Collect
import Derived.Sort.MapsRangeIn
import Derived.WalkKit
import Derived.OwnWalkIn
import Derived.TacticsInMore
import Derived.RegionIn
import Derived.LoopNIn
import Derived.LoopIn
import Derived.Lib.SlKeysI
namespace Go.Proofs.YtenhciieboegbaaGreatDoor
open Go Go.RowKit
theorem index_cut (c : UInt8) : ∀ l : List UInt8, (c ∉ l → Lib.indexByte l c = -1) ∧ (c ∈ l → Lib.indexByte l c = (((l.takeWhile (· != c)).length : Nat) : Int))
  | [] => ⟨fun _ => rfl, fun h => by cases h⟩
  | b :: l => by
    obtain ⟨h1, h2⟩ := index_cut c l
    rw [Lib.indexByte]
    by_cases e : b = c
    · subst e; exact ⟨fun h => absurd List.mem_cons_self h, fun _ => by simp⟩
    · have e2 : (b == c) = false := by simpa using e
      rw [e2]
      refine ⟨fun h => ?_, fun h => ?_⟩
      · have := h1 (fun hm => h (List.mem_cons_of_mem _ hm)); rw [this]; rfl
      · have hm : c ∈ l := (List.mem_cons.1 h).resolve_left (fun q => e q.symm)
        have := h2 hm
        rw [this]
        have hne : (((l.takeWhile (· != c)).length : Nat) : Int) ≠ -1 := by omega
        simp [e, hne]
theorem ba_ex (l : List UInt8) (a b : Nat) : (⟨l.toArray⟩ : ByteArray).extract a b = ⟨((l.drop a).take (b - a)).toArray⟩ := by
  apply ByteArray.ext
  rw [ByteArray.data_extract]
  simp [List.extract_toArray]
theorem tw_take (c : UInt8) (l : List UInt8) : l.take (l.takeWhile (· != c)).length = l.takeWhile (· != c) ∧ l.drop ((l.takeWhile (· != c)).length + 1) = (l.dropWhile (· != c)).drop 1 := by
  have h : ∀ k, l.take k = (l.takeWhile (· != c) ++ l.dropWhile (· != c)).take k ∧ l.drop k = (l.takeWhile (· != c) ++ l.dropWhile (· != c)).drop k := fun k => by rw [List.takeWhile_append_dropWhile]; exact ⟨rfl, rfl⟩
  rw [(h _).1, (h _).2]
  exact ⟨List.take_left' rfl, by rw [List.drop_append]; simp⟩
theorem tw_lt {c : UInt8} {l : List UInt8} (h : c ∈ l) : (l.takeWhile (· != c)).length + 1 ≤ l.length := by
  have h1 := List.takeWhile_append_dropWhile (p := (· != c)) (l := l)
  have h2 := congrArg List.length h1
  rw [List.length_append] at h2
  cases hd : l.dropWhile (· != c) with
  | nil =>
    rw [hd, List.append_nil] at h1
    rw [← h1] at h
    have := List.all_eq_true.1 (List.all_takeWhile (p := (· != c)) (l := l)) c h
    simp at this
  | cons a t => rw [hd, List.length_cons] at h2; omega
theorem tw_none {c : UInt8} {l : List UInt8} (h : c ∉ l) : l.takeWhile (· != c) = l ∧ (l.dropWhile (· != c)).drop 1 = [] := by
  have h1 : l.all (· != c) = true := List.all_eq_true.2 fun x hx => by simp; rintro rfl; exact h hx
  obtain ⟨t1, t2⟩ := tw_app (p := (· != c)) l [] h1 (fun c t e => by cases e)
  rw [List.append_nil] at t1 t2
  exact ⟨t1, by rw [t2]; rfl⟩
set_option maxRecDepth 100000 in
theorem idx125_f (w : World) (l : List UInt8) : Calls Tryz.prog 153 #[encS l, .string ⟨#[125]⟩] w fun e w' => e = .returned (.int .i64 (Lib.indexByte l 125)) ∧ w' = w := by
  have h := Tryz.stringslite_IndexByte ⟨l.toArray⟩ 125
  have H := fun w => hid (h w)
  clear h
  rw [encS]
  by_cases hs : l = [125]
  · subst hs
    have h0 : Lib.indexByte [125] 125 = 0 := by decide
    rw [h0]
    go_enter Tryz.func153, Tryz.ntmps153
    go_wp2_with fail
    go_ret
    exact ⟨rfl, rfl⟩
  · have hs2 : ([125] == l) = false := by rw [beq_eq_false_iff_ne]; exact fun h => hs h.symm
    have hs3 : (l == [125]) = false := by rw [beq_eq_false_iff_ne]; exact hs
    clear hs
    go_enter Tryz.func153, Tryz.ntmps153
    go_wp2_with (go_at_call 176; refine Calls.mono (H _).out ?_; rintro e w1 ⟨rfl, rfl⟩)
    go_ret
    exact ⟨rfl, rfl⟩
set_option maxRecDepth 100000 in
theorem cut125a_f (w : World) (l : List UInt8) (hs : l.length < 4611686018427387904) : Calls Tryz.prog 159 #[encS l, .string ⟨#[125]⟩] w fun e w' => e = .returned (.tuple #[encS (l.takeWhile (· != 125)), encS ((l.dropWhile (· != 125)).drop 1), .bool (decide (125 ∈ l))]) ∧ Ext w w' := by
  by_cases hm : (125 : UInt8) ∈ l
  · obtain ⟨i, hi⟩ : ∃ i, (l.takeWhile (· != 125)).length = i := ⟨_, rfl⟩
    have h1 := (index_cut 125 l).2 hm
    obtain ⟨t1, t2⟩ := tw_take 125 l
    have h2 := tw_lt hm
    rw [hi] at h1 t1 t2 h2
    rw [← t1, ← t2, decide_eq_true hm]
    obtain ⟨n, hn⟩ : ∃ n, l.length = n := ⟨_, rfl⟩
    have x1 : (⟨l.toArray⟩ : ByteArray).extract 0 i = ⟨(l.take i).toArray⟩ := by rw [ba_ex]; simp
    have x2 : (⟨l.toArray⟩ : ByteArray).extract (i + 1) l.length = ⟨(l.drop (i + 1)).toArray⟩ := by rw [ba_ex, List.take_of_length_le (by simp)]
    rw [hn] at x2
    have HX := hid (And.intro x1 x2)
    have c1 : (0 : Int) ≤ (i : Int) := by omega
    have c2 : (i : Int) ≤ (n : Int) := by omega
    have c3 : (0 : Int) ≤ (i : Int) + 1 := by omega
    have c4 : (i : Int) + 1 ≤ (n : Int) := by omega
    have hsz : (⟨l.toArray⟩ : ByteArray).size = n := by rw [← hn]; rfl
    rw [hn] at hs
    have H := hid h1
    have HN := hid hn
    clear x1 x2 t1 t2 h1 hm hi hn
    have HI := fun w => hid (idx125_f w l)
    rw [encS] at HI ⊢
    go_enter Tryz.func159, Tryz.ntmps159
    go_wp2_with (go_at_call 153; refine Calls.mono (HI _).out ?_; rintro e w1 ⟨rfl, rfl⟩; rw [H.out])
    go_region
    all_goals go_wp2
    all_goals go_ret3
    all_goals exact ⟨by rw [HX.out.1, HX.out.2]; rfl, (Ext.refl _).drew⟩
  · have h1 := (index_cut 125 l).1 hm
    obtain ⟨t1, t2⟩ := tw_none hm
    rw [t1, t2, decide_eq_false hm]
    have H := hid h1
    clear h1 hm t1 t2
    have HI := fun w => hid (idx125_f w l)
    rw [encS] at HI ⊢
    go_enter Tryz.func159, Tryz.ntmps159
    go_wp2_with (go_at_call 153; refine Calls.mono (HI _).out ?_; rintro e w1 ⟨rfl, rfl⟩; rw [H.out])
    go_ret3
    exact ⟨rfl, Ext.refl _⟩
set_option maxRecDepth 100000 in
theorem cut125_of (x : ByteArray) (a b : Value) (t : Bool) (h : ∀ w, Calls Tryz.prog 159 #[.string x, .string ⟨#[125]⟩] w fun e w' => e = .returned (.tuple #[a, b, .bool t]) ∧ Ext w w') (w : World) :
    Calls Tryz.prog 127 #[.string x, .string ⟨#[125]⟩] w fun e w' => e = .returned (.tuple #[a, b, .bool t]) ∧ Ext w w' := by
  have H := hid h
  clear h
  go_enter Tryz.func127, Tryz.ntmps127
  go_wp2_with (go_at_call 159; refine Calls.mono (H.out _) ?_; rintro e w1 ⟨rfl, e1⟩)
  go_ret3
  exact ⟨rfl, e1⟩
theorem cut125_f (w : World) (l : List UInt8) (hs : l.length < 4611686018427387904) : Calls Tryz.prog 127 #[encS l, .string ⟨#[125]⟩] w fun e w' => e = .returned (.tuple #[encS (l.takeWhile (· != 125)), encS ((l.dropWhile (· != 125)).drop 1), .bool (decide (125 ∈ l))]) ∧ Ext w w' :=
  cut125_of _ _ _ _ (fun w => cut125a_f w l hs) w
set_option maxRecDepth 100000 in
theorem idx34_f (w : World) (l : List UInt8) : Calls Tryz.prog 153 #[encS l, .string ⟨#[34]⟩] w fun e w' => e = .returned (.int .i64 (Lib.indexByte l 34)) ∧ w' = w := by
  have h := Tryz.stringslite_IndexByte ⟨l.toArray⟩ 34
  have H := fun w => hid (h w)
  clear h
  rw [encS]
  by_cases hs : l = [34]
  · subst hs
    have h0 : Lib.indexByte [34] 34 = 0 := by decide
    rw [h0]
    go_enter Tryz.func153, Tryz.ntmps153
    go_wp2_with fail
    go_ret
    exact ⟨rfl, rfl⟩
  · have hs2 : ([34] == l) = false := by rw [beq_eq_false_iff_ne]; exact fun h => hs h.symm
    have hs3 : (l == [34]) = false := by rw [beq_eq_false_iff_ne]; exact hs
    clear hs
    go_enter Tryz.func153, Tryz.ntmps153
    go_wp2_with (go_at_call 176; refine Calls.mono (H _).out ?_; rintro e w1 ⟨rfl, rfl⟩)
    go_ret
    exact ⟨rfl, rfl⟩
set_option maxRecDepth 100000 in
theorem cut34a_f (w : World) (l : List UInt8) (hs : l.length < 4611686018427387904) : Calls Tryz.prog 159 #[encS l, .string ⟨#[34]⟩] w fun e w' => e = .returned (.tuple #[encS (l.takeWhile (· != 34)), encS ((l.dropWhile (· != 34)).drop 1), .bool (decide (34 ∈ l))]) ∧ Ext w w' := by
  by_cases hm : (34 : UInt8) ∈ l
  · obtain ⟨i, hi⟩ : ∃ i, (l.takeWhile (· != 34)).length = i := ⟨_, rfl⟩
    have h1 := (index_cut 34 l).2 hm
    obtain ⟨t1, t2⟩ := tw_take 34 l
    have h2 := tw_lt hm
    rw [hi] at h1 t1 t2 h2
    rw [← t1, ← t2, decide_eq_true hm]
    obtain ⟨n, hn⟩ : ∃ n, l.length = n := ⟨_, rfl⟩
    have x1 : (⟨l.toArray⟩ : ByteArray).extract 0 i = ⟨(l.take i).toArray⟩ := by rw [ba_ex]; simp
    have x2 : (⟨l.toArray⟩ : ByteArray).extract (i + 1) l.length = ⟨(l.drop (i + 1)).toArray⟩ := by rw [ba_ex, List.take_of_length_le (by simp)]
    rw [hn] at x2
    have HX := hid (And.intro x1 x2)
    have c1 : (0 : Int) ≤ (i : Int) := by omega
    have c2 : (i : Int) ≤ (n : Int) := by omega
    have c3 : (0 : Int) ≤ (i : Int) + 1 := by omega
    have c4 : (i : Int) + 1 ≤ (n : Int) := by omega
    have hsz : (⟨l.toArray⟩ : ByteArray).size = n := by rw [← hn]; rfl
    rw [hn] at hs
    have H := hid h1
    have HN := hid hn
    clear x1 x2 t1 t2 h1 hm hi hn
    have HI := fun w => hid (idx34_f w l)
    rw [encS] at HI ⊢
    go_enter Tryz.func159, Tryz.ntmps159
    go_wp2_with (go_at_call 153; refine Calls.mono (HI _).out ?_; rintro e w1 ⟨rfl, rfl⟩; rw [H.out])
    go_region
    all_goals go_wp2
    all_goals go_ret3
    all_goals exact ⟨by rw [HX.out.1, HX.out.2]; rfl, (Ext.refl _).drew⟩
  · have h1 := (index_cut 34 l).1 hm
    obtain ⟨t1, t2⟩ := tw_none hm
    rw [t1, t2, decide_eq_false hm]
    have H := hid h1
    clear h1 hm t1 t2
    have HI := fun w => hid (idx34_f w l)
    rw [encS] at HI ⊢
    go_enter Tryz.func159, Tryz.ntmps159
    go_wp2_with (go_at_call 153; refine Calls.mono (HI _).out ?_; rintro e w1 ⟨rfl, rfl⟩; rw [H.out])
    go_ret3
    exact ⟨rfl, Ext.refl _⟩
set_option maxRecDepth 100000 in
theorem cut34_of (x : ByteArray) (a b : Value) (t : Bool) (h : ∀ w, Calls Tryz.prog 159 #[.string x, .string ⟨#[34]⟩] w fun e w' => e = .returned (.tuple #[a, b, .bool t]) ∧ Ext w w') (w : World) :
    Calls Tryz.prog 127 #[.string x, .string ⟨#[34]⟩] w fun e w' => e = .returned (.tuple #[a, b, .bool t]) ∧ Ext w w' := by
  have H := hid h
  clear h
  go_enter Tryz.func127, Tryz.ntmps127
  go_wp2_with (go_at_call 159; refine Calls.mono (H.out _) ?_; rintro e w1 ⟨rfl, e1⟩)
  go_ret3
  exact ⟨rfl, e1⟩
theorem cut34_f (w : World) (l : List UInt8) (hs : l.length < 4611686018427387904) : Calls Tryz.prog 127 #[encS l, .string ⟨#[34]⟩] w fun e w' => e = .returned (.tuple #[encS (l.takeWhile (· != 34)), encS ((l.dropWhile (· != 34)).drop 1), .bool (decide (34 ∈ l))]) ∧ Ext w w' :=
  cut34_of _ _ _ _ (fun w => cut34a_f w l hs) w
theorem hasPre_f (w : World) (s x : List UInt8) : Calls Tryz.prog 112 #[encS s, encS x] w (RSame w (.bool (x.isPrefixOf s))) := by
  refine Calls.mono (Tryz.strings_HasPrefix ⟨s.toArray⟩ ⟨x.toArray⟩ w) ?_
  rintro e w' ⟨rfl, rfl⟩
  exact ⟨rfl, rfl⟩
theorem cutPre_f (w : World) (s x : List UInt8) : Calls Tryz.prog 111 #[encS s, encS x] w (fun e w' => w' = w ∧ e = .returned (.tuple #[encS (if x.isPrefixOf s then s.drop x.length else s), .bool (x.isPrefixOf s)])) := by
  refine Calls.mono (Tryz.strings_CutPrefix ⟨s.toArray⟩ ⟨x.toArray⟩ w) ?_
  rintro e w' ⟨rfl, rfl⟩
  exact ⟨rfl, rfl⟩
end Go.Proofs.YtenhciieboegbaaGreatDoor
namespace Go.Proofs.YtenhciieboegbaaGreatDoor
open Go Go.RowKit Go.Maps Go.Sort Go.Shelf
def clRen : Ren := ⟨fun | 8 => 54 | 11 => 94 | n => n, fun | 0 => 0 | 24 => 53 | 26 => 9 | 28 => 90 | 33 => 70 | n => n, fun | n => n⟩
theorem clLays : SlLaysZ.n8 Tryz.prog clRen := {
  mixed := by kernel_rfl
  f8 := ⟨Tryz.f54.name, by kernel_rfl, Tryz.func54.trans (congrArg some (by kernel_rfl))⟩
  f11 := ⟨Tryz.f94.name, by kernel_rfl, Tryz.func94.trans (congrArg some (by kernel_rfl))⟩
  t0 := by kernel_rfl
  a0 := fun w => by kernel_rfl
  z0 := fun w => by kernel_rfl
  v0 := fun w => by kernel_rfl
  t24 := by kernel_rfl
  a24 := fun w => by kernel_rfl
  z24 := fun w => by kernel_rfl
  v24 := fun w => by kernel_rfl
  t26 := by kernel_rfl
  a26 := fun w => by kernel_rfl
  z26 := fun w => by kernel_rfl
  v26 := fun w => by kernel_rfl
  t28 := by kernel_rfl
  a28 := fun w => by kernel_rfl
  z28 := fun w => by kernel_rfl
  v28 := fun w => by kernel_rfl
  i26 := by kernel_rfl }
theorem strV {v : Value} {z : DU × List MemPlace} (h : plainElem Tryz.prog 9 v = some z) : ∃ c : List UInt8, v = encStr c := by
  obtain ⟨s, rfl, _, _⟩ := plainElem_string_inv ty_str h
  exact ⟨s.data.toList, by simp [encStr]⟩
theorem wD_key {k : Int} (h : Maps.has wD (.int .i64 k) = true) : k ∈ wKeys := by
  rw [wD, putL_has] at h; simpa using h
set_option maxRecDepth 100000 in
set_option maxHeartbeats 1000000 in
/-- The iterator over the values, for whatever the rounds keep. -/
theorem vals1_in (F : Fence) (n : Nat) (h7 : F.fn 95) (hro : F.round = none) (hn : 1 ≤ n) (l Bm b nn : Nat) (J : List (List UInt8) → World → Prop)
    (hY : ∀ pre x W, J pre W → pre.length < Maps.size wD → YieldAt F (n - 1) Tryz.prog l #[encStr x] W fun e W' => e = .returned (.bool true) ∧ J (pre ++ [x]) W' ∧ KeepsWalks W W')
    (W : World) (hJ : AbidesFrom W.heap.size J) (hm : W.cell? ⟨Bm, 0, none⟩ = some (.map (some b))) (hown : W.ownsMap Tryz.prog 3 (plainElem Tryz.prog 9) b nn wD) (h0 : J [] W) :
    CallsIn F n Tryz.prog 95 #[.func (.yield l) #[] #[], .pointer (some ⟨Bm, 0, none⟩)] W fun e W' => (∃ v, e = .returned v) ∧ ∃ ks : List Int, ks.Perm (intKeys wD) ∧ J (ks.map opW) W' := by
  refine callsIn_of_wp Tryz.func95 rfl h7 ?_ hro
  simp only [Tryz.ntmps95, List.size_toArray, List.length_cons, List.length_nil, Nat.reduceAdd, Nat.reduceSub, Array.replicate_succ, Array.replicate_zero, List.push_toArray, List.append_toArray, List.nil_append, List.cons_append]
  gi_wp2_with (first
    | (gi_at_range; refine wpListIn_range_own _ rfl _ 100 rfl 3 9 lawI ty_mis _ b nn _ rfl hown ?_; intro w0 hrg0 hg0 hs0)
    | gi_in)
  go_frame
  gi_loopw [4] (fun _ wr => ∃ (left : Lit → Bool) (cnt : Nat) (ks : List Int), wr.ranges Tryz.prog 3 (plainElem Tryz.prog 9) b W.heap.size nn wD left cnt ∧ ks.length + cnt ≤ Maps.size wD ∧ CollectedI wD left ks ∧ (∀ k ∈ ks, k ∈ wKeys) ∧ J (ks.map opW) wr)
    (fun _ wr => wr.rangeLeft b W.heap.size)
  case atStart =>
    exact ⟨_, _, [], hrg0, by simp, CollectedI.start wD, by simp, hJ [] W w0 none h0 hg0 (fun r e => by cases e)⟩
  case round =>
    obtain ⟨left, cnt, ks, hrg, hcs, hC, hK, hJs⟩ := hrel
    gi_wp2_with (first
      | (gi_at_next; refine wpListIn_next_ranges _ rfl _ rfl 3 lawI (plainElem Tryz.prog 9) encZ encStr (fun key kl hk => by obtain ⟨x, hx, _⟩ := Maps.keyOf_i64 ty_int hk; exact ⟨x, hx⟩) (fun v y hv => strV hv) b W.heap.size nn _ _ _ rfl hrg ?_ ?_)
      | gi_in)
    · intro hc0 hl0
      gi_wp2
      go_end0
      exact ⟨⟨_, rfl⟩, ks, hC.perm hown lawI ty_int hl0, hJs⟩
    · intro x c kl yd yp w2 cnt2 hkey hlk hv hat hrg2 hlt hg2 hs2 hen
      obtain ⟨x', ex, rfl, _⟩ := Maps.keyOf_i64 ty_int hkey
      obtain rfl : x = x' := encZ_inj ex
      have hx : x ∈ wKeys := wD_key (Maps.has_true_of_atKey hat)
      obtain rfl : opW x = c := by
        obtain ⟨s, hs, hz, _⟩ := plainElem_string_inv ty_str hv
        have h1 := hat (.map [])
        rw [wD, putL_at, if_pos hx] at h1
        simp only [Prod.mk.injEq] at hz
        rw [hz.1] at h1
        have h2 : s.data.toList = c := by
          have := congrArg (fun v => match v with | Value.string t => t.data.toList | _ => []) hs
          simpa [encStr] using this.symm
        rw [h2] at h1
        simpa using h1
      have hJ2 : J (ks.map opW) w2 := hJ (ks.map opW) wr w2 (some W.heap.size) hJs hg2 (fun r e => by cases e; exact ⟨Nat.le_refl _, hrg.iter_walk⟩)
      obtain ⟨fn, tmps, assign, body, hy, hR⟩ := hY (ks.map opW) (opW x) w2 hJ2 (by rw [List.length_map]; omega)
      clear hs2
      gi_wp2
      refine hR.mono ?_
      rintro e W3 ⟨rfl, hJ3, hk3⟩
      gi_wp2
      have hrg3 := hrg2.of_walks hk3
      go_roundw
      case rel => exact ⟨_, cnt2, ks ++ [x], hrg3, by simp; omega, hC.step hlk hat, fun k hk => (List.mem_append.1 hk).elim (hK k) (fun e => by rw [List.mem_singleton.1 e]; exact hx), by simpa using hJ3⟩
      case measure => rw [hrg3.left_eq, hrg.left_eq]; exact hlt
set_option maxRecDepth 100000 in
theorem values_f (w : World) (b : Nat) : CallsIn Fence.wide 5 Tryz.prog 55 #[.map (some b)] w fun e w' => e = .returned (.func (.func 95) #[] #[.pointer (some ⟨w.heap.size, 0, none⟩)]) ∧ w' = w.alloc (.cells #[.map (some b)] 100) := by
  refine callsIn_of_wp Tryz.func55 rfl trivial ?_ rfl
  simp only [Tryz.ntmps55, List.size_toArray, List.length_cons, List.length_nil, Nat.reduceAdd, Nat.reduceSub, Array.replicate_succ, Array.replicate_zero, List.push_toArray, List.append_toArray, List.nil_append, List.cons_append]
  gi_wp2
  go_ret
  exact ⟨rfl, rfl⟩
set_option maxHeartbeats 1000000 in
theorem vlsC : VlsC := by
  intro w b hown
  refine Calls.mono (callsIn_wide.1 (values_f w b)) ?_
  rintro e w1 ⟨rfl, rfl⟩
  have e1 : Ext w (w.alloc (.cells #[.map (some b)] 100)) := (Ext.refl w).alloc _
  have hown1 : (w.alloc (.cells #[.map (some b)] 100)).ownsMap Tryz.prog 3 (plainElem Tryz.prog 9) b 9 wD := hown.alloc _
  refine ⟨e1, _, rfl, ?_⟩
  have hseq : SeqGives Fence.wide 3 Tryz.prog 95 #[.pointer (some ⟨w.heap.size, 0, none⟩)] encStr (fun vs => ∃ ks : List Int, ks.Perm (intKeys wD) ∧ vs = ks.map opW) (Maps.size wD) (w.alloc (.cells #[.map (some b)] 100)) := fun l J W hW hJ hY h0 => by
    have hownW : W.ownsMap Tryz.prog 3 (plainElem Tryz.prog 9) b 9 wD := by
      have hbl := hown1.lt
      obtain ⟨es, clock, hb, Ft, hs, hD⟩ := hown1
      exact ⟨es, clock, (hW.block b hbl).trans hb, Ft, hs, hD⟩
    refine (vals1_in Fence.wide 3 trivial rfl (by omega) l w.heap.size b 9 J hY W hJ ((hW.cell (p := ⟨w.heap.size, 0, none⟩) (by simp)).trans (by simp)) hownW h0).mono ?_
    rintro e W' ⟨hv, ks, hp, hj⟩
    exact ⟨hv, ks.map opW, ⟨ks, hp, rfl⟩, hj⟩
  refine Calls.mono (callsIn_wide.1 (AnyZ.collect_in clLays Fence.wide 5 trivial trivial rfl (by omega) 95 _ trivial (enters_of Tryz.func95 (by kernel_rfl) rfl) _ (Maps.size wD) (by decide) (by decide) _ hseq)) ?_
  rintro e2 w2 ⟨v, vs, rfl, ⟨ks, hp, rfl⟩, hrow, hnil, hb⟩
  have hk : intKeys wD = [4, 5, 6, 7, 8, 9, 10, 12, 13] := by decide
  rw [hk] at hp
  refine ⟨hb, v, rfl, ks.map opW, ?_, by rw [List.length_map, hp.length_eq]; decide, fun s => ?_⟩
  · have hr : Rwg 9 1 _ w2 v _ _ := hrow
    obtain ⟨ao, cap, rfl, h1, h2, -, h4⟩ := hr.shape
    refine ⟨ao, cap, rfl, Nat.le_trans h1 h2, fun hne => ?_⟩
    obtain ⟨g, rfl, -, -, k⟩ := h4 (fun e => hne (List.length_eq_zero_iff.1 e))
    exact ⟨g, 0, rfl, fun j s hj => by rw [Nat.zero_add]; exact k j _ (by rw [List.getElem?_map, hj]; rfl)⟩
  · rw [List.mem_map, List.mem_map]
    constructor
    · rintro ⟨k, hk1, rfl⟩
      refine ⟨k, ?_, rfl⟩
      have := hp.mem_iff.1 hk1
      revert this
      simp only [wKeys, List.mem_cons, List.not_mem_nil, or_false]
      omega
    · rintro ⟨k, hk1, rfl⟩
      refine ⟨k, hp.mem_iff.2 ?_, rfl⟩
      revert hk1
      simp only [wKeys, List.mem_cons, List.not_mem_nil, or_false]
      omega
end Go.Proofs.YtenhciieboegbaaGreatDoor
