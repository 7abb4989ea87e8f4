/-
  The law NotebookRounds at every input. (Printed by wip/gen/nro.py.)
-/
import Derived.Test.YtenhciieboegbaaGreatDoorNmd
namespace Go.Proofs.YtenhciieboegbaaGreatDoor
open Go Go.RowKit Go.Maps
theorem MdL.ok {l : List Cl} (h : MdL l) : (∀ c ∈ l, TrC c ∧ nameB c.nm = true) ∧ (l.map Cl.nm).Nodup ∧ NmOk l := by
  have h4 : ∀ k : Nat, k ≤ 4 → (nmCs.take k).Nodup := by decide
  have h5 : ∀ s ∈ nmCs, nameB s = true ∧ s.length ≤ 1000000 := by decide
  have h6 : ∀ c ∈ l, c.nm ∈ nmCs := fun c hc => List.mem_of_mem_take (h.2.1 ▸ List.mem_map_of_mem hc)
  exact ⟨fun c hc => ⟨h.2.2 c hc, (h5 _ (h6 c hc)).1⟩, by rw [h.2.1]; exact h4 _ h.1, fun c hc => (h5 _ (h6 c hc)).2⟩
theorem MdL.pr {l : List Cl} (h : MdL l) : prE l = 0 ∧ prS l = shL l ∧ paE (shL l) = (l, 0) ∧ (shL l).length ≤ 20000 := by
  have h1 := tr_pr h.ok.1 h.ok.2.1 (by have := h.1; omega)
  refine ⟨h1, by rw [prS, if_pos h1], pa_sh h1, ?_⟩
  unfold prE at h1
  split at h1
  · split at h1
    · cases h1
    · omega
  · cases h1
theorem shL_small : ∀ (l : List Cl), l.length ≤ (shL l).length ∧ ∀ c ∈ l, c.nm.length ≤ (shL l).length
  | [] => ⟨Nat.zero_le _, fun c h => by simp at h⟩
  | c :: t => by
    have h := shL_small t
    have e : (shL (c :: t)).length = (shC c).length + (shL t).length := by simp [shL]
    have e2 : c.nm.length + 1 ≤ (shC c).length := by simp [shC]
    rw [e, List.length_cons]
    exact ⟨by omega, fun d hd => (List.mem_cons.1 hd).elim (fun q => by rw [q]; omega) fun q => by have := h.2 d q; omega⟩
theorem pa_small {s : List UInt8} {l : List Cl} (h : paE s = (l, 0)) : prE l = 0 ∧ prS l = s ∧ l.length ≤ s.length ∧ ∀ c ∈ l, c.nm.length ≤ s.length := by
  obtain ⟨h1, h2⟩ := pa_ok h
  have h3 := shL_small l
  rw [h2] at h3
  exact ⟨h1, by rw [prS, if_pos h1, h2], h3⟩
theorem fa_Tx0 (g : Nat) (w : World) : (Instr.fieldAt 40 (.pointer (some ⟨g, 0, none⟩)) 0).run Tryz.prog w = .ok (.pointer (some ⟨g, 0, none⟩)) w := by go_simp
theorem sameB_self (l : List Cl) : sameB l l = true := (sameB_iff l l).2 rfl
set_option maxRecDepth 100000 in
set_option maxHeartbeats 8000000 in
theorem Rounds_w {w : World} {v : Value} {s : List UInt8} (hT : TabM w) (hb : IsBys v w) (hs : s.length ≤ 9223372036854775807) : Calls Tryz.prog 6 #[v, encS s] w (Ret w (IsV (.bool true))) := by
  have HT := hid hT
  have HB := hid hb
  obtain ⟨sb, hsb⟩ : ∃ y : ByteArray, (⟨s.toArray⟩ : ByteArray) = y := ⟨_, rfl⟩
  have hsz : sb.size = s.length := by rw [← hsb]; rfl
  obtain ⟨n, hn⟩ : ∃ n, s.length = n := ⟨_, rfl⟩
  rw [hn] at hsz
  have HSB := hid (And.intro hsb (And.intro hn hs))
  rw [encS, hsb]
  clear hT hb hs hsb hn
  go_enter Tryz.func6, Tryz.ntmps6
  go_upto_region 4 with (go_at_call 9; refine Calls.mono (examples_f HT.out) ?_; rintro e w1 ⟨x, rfl, e1, hx⟩; obtain rfl : x = .bool true := hx; have e1 := hid e1)
  go_upto_region 5 with (go_at_call 10; refine Calls.mono (Made_f (HB.out.ext e1.out)) ?_; rintro e w2 ⟨v2, rfl, e2, l, hl, hv⟩; have e2 := hid (e1.out.trans e2); have hl := hid hl; have hv := hid hv)
  have HL := hid hl.out
  have HV := hid (hv.out.low (Nat.zero_le _))
  have HE2 := hid e2.out
  clear hl hv e1 e2
  refine wp_region_lit ?_
  refine stL (fun K hK => wp_mv (hK _ _ ?_))
  clear hK K
  go_simp
  refine stL (fun K hK => ?_)
  refine wp_callN (us := [v2]) (en Tryz.func14) (by kernel_rfl) (printed_f HV.out (by have := HL.out.1; omega) HL.out.ok.2.2 (HT.out.1.ext HE2.out)) (fun v3 w3 h => hK _ _ ?_) (fun ch X h => by { obtain ⟨x, hx, _⟩ := h; cases hx }) (fun X h => by { obtain ⟨x, hx, _⟩ := h; cases hx })
  clear hK K
  obtain ⟨x3, h0, e3, hv3⟩ := h
  cases h0
  obtain ⟨pb, hpb⟩ : ∃ y : ByteArray, (⟨(shL l).toArray⟩ : ByteArray) = y := ⟨_, rfl⟩
  have hv4 : v3 = .agg #[.string pb, .int .i64 0] := by rw [hv3, HL.out.pr.1, HL.out.pr.2.1, encS, hpb]
  subst hv4
  have HPB := hid hpb
  have HE3 := hid (HE2.out.trans e3)
  have HV3 := hid (HV.out.ext e3)
  clear e3 hv3 HE2 HV hpb
  go_simp
  refine stL (fun K hK => ?_)
  refine wp_alB (vs := [.string ⟨#[]⟩, .int .i64 0]) al_Tx (fun Bn e8 => hK _ _ ?_)
  obtain ⟨g7, hg⟩ : ∃ g, w3.heap.size = g := ⟨_, rfl⟩
  have hgw : w.heap.size ≤ g7 := by rw [← hg]; exact HE3.out.size
  have hle : g7 ≤ w3.heap.size ∧ w3.heap.size ≤ g7 := by omega
  clear hgw
  rw [hg] at Bn ⊢
  generalize w3.alloc (.cells ([.string ⟨#[]⟩, .int .i64 0]).toArray 40) = Y3 at Bn e8 ⊢
  clear hK K
  try go_simp
  refine stL (fun K hK => ?_)
  refine stVO (us := [.string pb, .int .i64 0]) Bn st_Tx rfl rfl (nwTx _ _) (fun X3 B9 O => hK _ _ ?_)
  have e9 : Ext w3 X3 := O.ext e8 (by omega)
  have HBg7 := hid B9
  have HGg7 := hid hle
  have HEX3 := hid (HE3.out.trans e9)
  have HVX3 := hid (HV3.out.ext e9)
  clear hK K O B9 Bn e8 e9 hg hle
  try go_simp
  refine wpList_nil ?_
  clear HE3 HV3
  go_upto_region 6 with (fail)
  refine wp_region_lit ?_
  refine stL (fun K hK => wp_fa (fa_Tx0 g7 _) (hK _ _ ?_))
  clear hK K
  go_simp
  refine stL (fun K hK => wp_ld (p := .pointer (some ⟨g7, 0, none⟩)) (u := .string pb) (ld_str _ _ _ (HBg7.out.c 0 _ rfl)) (hK _ _ ?_))
  clear hK K
  go_simp
  refine stL (fun K hK => ?_)
  refine wp_callN (us := [.string pb]) (R := Ret X3 (IsPa X3.heap.size l 0)) (en Tryz.func19) (by kernel_rfl) (by have h := parsed_f (s := shL l) (w := X3) (by have := HL.out.pr.2.2.2; omega) (HT.out.1.ext HEX3.out); rw [HL.out.pr.2.2.1, encS, HPB.out] at h; exact h) (fun v5 w4 h => hK _ _ ?_) (fun ch X h => by { obtain ⟨x, hx, _⟩ := h; cases hx }) (fun X h => by { obtain ⟨x, hx, _⟩ := h; cases hx })
  clear hK K
  obtain ⟨v6, h0, e4, l2, rfl, hl2⟩ := h
  cases h0
  obtain ⟨ao2, cp2, hv2, -⟩ := id hl2
  obtain ⟨m, hm⟩ : ∃ m, l.length = m := ⟨_, rfl⟩
  rw [hm] at hv2
  obtain rfl : l2 = .slice ao2 m cp2 := hv2
  have HE4 := hid (HEX3.out.trans e4)
  have HV4 := hid (HVX3.out.ext e4)
  have HB4 := hid (HBg7.out.ext e4)
  have HP4 := hid (hl2.low (Nat.zero_le _))
  clear e4 HEX3 HVX3 HBg7 hl2 hm
  go_simp
  refine stL (fun K hK => ?_)
  refine wp_alB (vs := [.slice none 0 0, .int .i64 0]) al_Pa (fun Bn e8 => hK _ _ ?_)
  obtain ⟨g8, hg⟩ : ∃ g, w4.heap.size = g := ⟨_, rfl⟩
  have hgw : w.heap.size ≤ g8 := by rw [← hg]; exact HE4.out.size
  have hle : g8 ≤ w4.heap.size ∧ w4.heap.size ≤ g8 := by omega
  clear hgw
  rw [hg] at Bn ⊢
  generalize w4.alloc (.cells ([.slice none 0 0, .int .i64 0]).toArray 47) = Y4 at Bn e8 ⊢
  clear hK K
  try go_simp
  refine stL (fun K hK => ?_)
  refine stVO (us := [.slice ao2 m cp2, .int .i64 0]) Bn st_Pa rfl rfl (nwPa _ _ _ _) (fun X4 B9 O => hK _ _ ?_)
  have e9 : Ext w4 X4 := O.ext e8 (by omega)
  have HBg8 := hid B9
  have HGg8 := hid hle
  have HEX4 := hid (HE4.out.trans e9)
  have HVX4 := hid (HV4.out.ext e9)
  have HPX4 := hid (HP4.out.ext e9)
  have HBX7 := hid (HB4.out.ext e9)
  clear hK K O B9 Bn e8 e9 hg hle
  try go_simp
  refine wpList_nil ?_
  clear HE4 HV4 HP4 HB4
  have c1 := HBX7.out.c 1 _ rfl
  have c2 := HBg8.out.c 1 _ rfl
  have c3 := HBg8.out.c 0 _ rfl
  go_upto_region 9 with (go_at_call 21; refine Calls.mono (Same42_f HPX4.out HVX4.out (by have := HL.out.1; omega)) ?_; rintro e w5 ⟨x5, rfl, e5, hx⟩; obtain rfl : x5 = .bool true := by { have h : x5 = _ := hx; rw [h, sameB_self] }; have e5 := hid (HEX4.out.trans e5))
  have HE5 := hid e5.out
  clear c1 c2 c3 e5 HBX7 HBg8 HVX4 HPX4 HEX4
  by_cases h4 : n ≤ 400
  · have hle : ¬ (400 : Int) < (n : Int) := by omega
    have H4 := hid h4
    go_upto_region 11 with (fail)
    obtain ⟨l3, hl3⟩ : ∃ y, (paE s).1 = y := ⟨_, rfl⟩
    obtain ⟨z3, hz3⟩ : ∃ y, (paE s).2 = y := ⟨_, rfl⟩
    have HPE := hid (And.intro hl3 hz3)
    clear hl3 hz3 h4 hle
    refine wp_region_lit ?_
    refine stL (fun K hK => wp_mv (hK _ _ ?_))
    clear hK K
    go_simp
    refine stL (fun K hK => ?_)
    refine wp_callN (us := [.string sb]) (R := Ret w5 (IsPa w5.heap.size l3 z3)) (en Tryz.func19) (by kernel_rfl) (by have h := parsed_f (s := s) (w := w5) (by have := H4.out; have := HSB.out.2.1; omega) (HT.out.1.ext HE5.out); rw [encS, HSB.out.1, HPE.out.1, HPE.out.2] at h; exact h) (fun v7 w6 h => hK _ _ ?_) (fun ch X h => by { obtain ⟨x, hx, _⟩ := h; cases hx }) (fun X h => by { obtain ⟨x, hx, _⟩ := h; cases hx })
    clear hK K
    obtain ⟨v8, h0, e6, u6, rfl, hl6⟩ := h
    cases h0
    obtain ⟨ao6, cp6, hv6, -⟩ := id hl6
    obtain ⟨m6, hm6⟩ : ∃ m, l3.length = m := ⟨_, rfl⟩
    rw [hm6] at hv6
    obtain rfl : u6 = .slice ao6 m6 cp6 := hv6
    have HE6 := hid (HE5.out.trans e6)
    have HP6 := hid (hl6.low (Nat.zero_le _))
    clear e6 HE5 hl6 hm6
    go_simp
    refine stL (fun K hK => ?_)
    refine wp_alB (vs := [.slice none 0 0, .int .i64 0]) al_Pa (fun Bn e8 => hK _ _ ?_)
    obtain ⟨g9, hg⟩ : ∃ g, w6.heap.size = g := ⟨_, rfl⟩
    have hgw : w.heap.size ≤ g9 := by rw [← hg]; exact HE6.out.size
    have hle : g9 ≤ w6.heap.size ∧ w6.heap.size ≤ g9 := by omega
    clear hgw
    rw [hg] at Bn ⊢
    generalize w6.alloc (.cells ([.slice none 0 0, .int .i64 0]).toArray 47) = Y6 at Bn e8 ⊢
    clear hK K
    try go_simp
    refine stL (fun K hK => ?_)
    refine stVO (us := [.slice ao6 m6 cp6, .int .i64 z3]) Bn st_Pa rfl rfl (nwPa _ _ _ _) (fun X6 B9 O => hK _ _ ?_)
    have e9 : Ext w6 X6 := O.ext e8 (by omega)
    have HBg9 := hid B9
    have HGg9 := hid hle
    have HEX6 := hid (HE6.out.trans e9)
    have HPX6 := hid (HP6.out.ext e9)
    clear hK K O B9 Bn e8 e9 hg hle
    try go_simp
    refine wpList_nil ?_
    clear HE6 HP6
    have c1 := HBg9.out.c 1 _ rfl
    by_cases hz : z3 = 0
    · subst hz
      have HQ := hid (pa_small (s := s) (l := l3) (by rw [← HPE.out.1, ← HPE.out.2]))
      have c3 := HBg9.out.c 0 _ rfl
      go_wp2_with (go_at_call 14; refine Calls.mono (printed_f HPX6.out (by have := HQ.out.2.2.1; have := H4.out; have := HSB.out.2.1; omega) (fun c hc => by have := HQ.out.2.2.2 c hc; have := H4.out; have := HSB.out.2.1; omega) (HT.out.1.ext HEX6.out)) ?_; rintro e w7 ⟨x7, rfl, e7, hx⟩; obtain rfl : x7 = .agg #[.string sb, .int .i64 0] := by { have h : x7 = _ := hx; rw [h, HQ.out.1, HQ.out.2.1, encS, HSB.out.1] }; have e7 := hid (HEX6.out.trans e7))
      go_ret
      exact ⟨_, rfl, e7.out, rfl⟩
    · have HZ := hid hz
      have hz2 : (z3 == 0) = false := by simpa using hz
      have hz3 : (z3 != 0) = true := by simpa using hz
      go_wp2_with fail
      go_ret
      exact ⟨_, rfl, HEX6.out, rfl⟩
  · have hle : (400 : Int) < (n : Int) := by omega
    go_wp2_with fail
    go_ret
    exact ⟨_, rfl, HE5.out, rfl⟩
end Go.Proofs.YtenhciieboegbaaGreatDoor
