/-
  The reference's Number: an integer in decimal digits.
  NotebookJoins, plain part and memory: the second notebook's cells under other names behind the first's.
  A drawn region whose operations keep an invariant of what is listed, the values and the world: boxes that differ, stores early or late. (Printed by wip/gen/rgj.py out of XRgv.)
-/
import Derived.Test.YtenhciieboegbaaGreatDoorRws
import Derived.Test.YtenhciieboegbaaGreatDoorRText
import Derived.Test.YtenhciieboegbaaGreatDoorRgv
namespace Go.Proofs.YtenhciieboegbaaGreatDoor
open Go Go.RowKit Go.Maps
set_option maxRecDepth 100000 in
set_option maxHeartbeats 4000000 in
theorem Number_f {w : World} {i : Nat} (hi : i ≤ 1000000) : Calls Tryz.prog 17 #[.int .i64 (i : Int)] w (Ret w (IsV (encS (Lib.itoa (i : Int))))) := by
  have HI := hid hi
  clear hi
  go_enter Tryz.func17, Tryz.ntmps17
  go_upto_region 1 with (fail)
  refine rgs 3 [some 6, some 7, some 8] [IsV (.int .i64 (i : Int)), IsI 2 (i : Int), IsT2 (IsV (encS (textS (i : Int)))) (IsV (.int .i64 (textE (i : Int))))] [] ?_ ?_ (hst := by repeat' (first | exact trivial | exact IsV.stb _ | exact IsI.stb _ _ | exact IsT2.stb (IsV.stb _) (IsV.stb _) | apply And.intro))
  · refine Rc (mv (Od.lit (x := .int .i64 (i : Int)) 0)) ?_
    refine Rc (cl1 (Φ := IsV (.int .i64 (i : Int))) (Χ := IsI 2 (i : Int)) (en Tryz.func31) (Od.lc 0 6) (fun x0 w' hE d0 => by { obtain rfl : x0 = .int .i64 (i : Int) := d0; exact ROf_f w' (i : Int) (by have := HI.out; omega) (by have := HI.out; omega) })) ?_
    refine Rc (cl1 (Φ := IsI 2 (i : Int)) (en Tryz.func39) (Od.lc 1 7) (fun x0 w' hE d0 => RText_f d0 (by decide))) ?_
    exact RgAll.nil
  intro x X1 e1 hΦ _
  obtain ⟨u, v, hx, hu, hv⟩ := hΦ 2 (by decide)
  simp only [layL, Act.put, List.setIfInBounds_toArray, List.set_cons_zero, List.set_cons_succ, Nat.reduceAdd]
  rw [hx, show u = _ from hu, show v = _ from hv]
  clear hΦ hx hu hv
  have HE := hid e1
  clear e1
  rw [textS_256 (z := (i : Int)) (by have := HI.out; omega), encS]
  generalize textE (i : Int) = te
  obtain ⟨tb, htb⟩ : ∃ y, (⟨(Lib.itoa (i : Int)).toArray⟩ : ByteArray) = y := ⟨_, rfl⟩
  rw [htb]
  have HTB := hid htb
  clear htb
  refine stL (fun K hK => wp_mv (hK _ _ ?_))
  clear hK K
  try go_simp
  refine wpList_step fun K hK => ?_
  go_simp
  refine hK _ _ ?_
  clear hK K
  refine wpList_step fun K hK => ?_
  go_simp
  refine hK _ _ ?_
  clear hK K
  refine stL (fun K hK => wp_mv (hK _ _ ?_))
  clear hK K
  try go_simp
  refine stL (fun K hK => wp_mv (hK _ _ ?_))
  clear hK K
  try go_simp
  refine wpList_nil ?_
  go_wp2_with fail
  go_ret
  exact ⟨.string tb, rfl, HE.out, by rw [encS, HTB.out]; exact rfl⟩
end Go.Proofs.YtenhciieboegbaaGreatDoor
namespace Go.Proofs.YtenhciieboegbaaGreatDoor
open Go Go.RowKit Go.Maps
def nmQ : Sc := [[113, 48], [113, 49], [113, 50], [113, 51]]
theorem nmQ_at {k : Nat} (h : k < 4) : ∃ s, nmQ[k]? = some s ∧ [113] ++ Lib.itoa (k : Int) = s := by
  match k, h with
  | 0, _ => exact ⟨_, rfl, by kernel_rfl⟩
  | 1, _ => exact ⟨_, rfl, by kernel_rfl⟩
  | 2, _ => exact ⟨_, rfl, by kernel_rfl⟩
  | 3, _ => exact ⟨_, rfl, by kernel_rfl⟩
/-- The cells under the names q0, q1, .. -/
def rnQ (l : List Cl) : List Cl := (nmQ.zip l).map fun p => ⟨p.1, p.2.e⟩
theorem rnQ_len {l : List Cl} (h : l.length ≤ 4) : (rnQ l).length = l.length := by
  rw [rnQ, List.length_map, List.length_zip]
  have : nmQ.length = 4 := rfl
  omega
theorem rnQ_at {l : List Cl} {i : Nat} {s : List UInt8} {c : Cl} (hs : nmQ[i]? = some s) (hc : l[i]? = some c) : (rnQ l)[i]? = some ⟨s, c.e⟩ := by
  rw [rnQ, List.getElem?_map, (List.getElem?_zip_eq_some (z := (s, c))).2 ⟨hs, hc⟩]
  rfl
theorem zip_fst {α β : Type} : ∀ (a : List α) (b : List β), (a.zip b).map Prod.fst = a.take b.length
  | [], b => by simp
  | x :: a, [] => by simp
  | x :: a, y :: b => by simp [zip_fst a b]
theorem rnQ_nms {l : List Cl} (_h : l.length ≤ 4) : (rnQ l).map Cl.nm = nmQ.take l.length := by
  rw [rnQ, List.map_map]
  have : (Cl.nm ∘ fun p : List UInt8 × Cl => (⟨p.1, p.2.e⟩ : Cl)) = Prod.fst := rfl
  rw [this, zip_fst]
theorem rnQ_tr {l : List Cl} (h : ∀ c ∈ l, TrC c) : ∀ c ∈ rnQ l, TrC c ∧ nameB c.nm = true := by
  intro c hc
  rw [rnQ, List.mem_map] at hc
  obtain ⟨⟨s, d⟩, hp, rfl⟩ := hc
  have h1 := List.of_mem_zip hp
  have h2 : ∀ s ∈ nmQ, nameB s = true := by decide
  exact ⟨h d h1.2, h2 s h1.1⟩
theorem jn_ok {l1 l2 : List Cl} (h1 : MdL l1) (h2 : MdL l2) : (∀ c ∈ l1 ++ rnQ l2, TrC c ∧ nameB c.nm = true) ∧ ((l1 ++ rnQ l2).map Cl.nm).Nodup ∧ (l1 ++ rnQ l2).length ≤ 8 := by
  refine ⟨fun c hc => (List.mem_append.1 hc).elim (h1.ok.1 c) (rnQ_tr h2.2.2 c), ?_, by rw [List.length_append, rnQ_len h2.1]; have := h1.1; have := h2.1; omega⟩
  rw [List.map_append, h1.2.1, rnQ_nms h2.1]
  have h : (nmCs ++ nmQ).Nodup := by decide
  exact h.sublist ((List.take_sublist _ _).append (List.take_sublist _ _))
theorem jn_law {l1 l2 : List Cl} (h1 : MdL l1) (h2 : MdL l2) : prE (l1 ++ rnQ l2) = 0 ∧ prE (rnQ l2) = 0 ∧ shL (l1 ++ rnQ l2) = shL l1 ++ shL (rnQ l2) ∧ paE (shL l1 ++ shL (rnQ l2)) = (l1 ++ rnQ l2, 0) ∧ (l1 ≠ [] → paE (shL l1 ++ shL l1) = ([], 420)) ∧ (shL (rnQ l2)).length ≤ 20000 := by
  obtain ⟨a, b, c⟩ := jn_ok h1 h2
  have hp := tr_pr a b (by omega)
  have hq := tr_pr (rnQ_tr h2.2.2) (by rw [rnQ_nms h2.1]; exact (show nmQ.Nodup by decide).sublist (List.take_sublist _ _)) (by rw [rnQ_len h2.1]; have := h2.1; omega)
  refine ⟨hp, hq, shL_app _ _, by rw [← shL_app]; exact pa_sh hp, fun hne => pa_twice h1.ok.1 h1.ok.2.1 (by have := h1.1; omega) hne, ?_⟩
  unfold prE at hq
  split at hq
  · split at hq
    · cases hq
    · omega
  · cases hq
/-- An old expression under appends to a newer row. -/
theorem NdI.old {o : Option Nat} {B : Nat} {w X : World} {x : Nd} {us : List Value} (h : NdC B w x us) (e : Ext w X) (ho : ∀ g, o = some g → w.heap.size ≤ g) : NdI o B X x us := fun w' hc hg =>
  NdC.kept (fun p v hp hv => hc p v hp (fun q => by have h1 := ho _ q; have h2 := World.block_lt_of_cell? w p hv; omega) (e.cell hv)) (e.gr.trans hg) x us h
/-- The rest of a row of cells. -/
theorem IsCs.drop {B : Nat} {a b : List Cl} {g o c : Nat} {w : World} (h : IsCs B (a ++ b) (.slice (some ⟨g, o, none⟩) (a ++ b).length c) w) : IsCs B b (.slice (some ⟨g, o + 9 * a.length, none⟩) b.length (c - a.length)) w := by
  obtain ⟨ao, c', hv, h2, h3, h4⟩ := h
  obtain ⟨rfl, rfl⟩ : ao = some ⟨g, o, none⟩ ∧ c = c' := by injection hv with q1 q2 q3; exact ⟨q1.symm, q3⟩
  rw [List.length_append] at h2
  refine ⟨_, _, rfl, by omega, by omega, fun hne => ?_⟩
  obtain ⟨g', o', q1, q2, q3⟩ := h4 (by simp [hne])
  injection q1 with q1
  injection q1 with q1 q4
  subst q1 q4
  refine ⟨g, _, rfl, q2, fun i x hi => ?_⟩
  obtain ⟨us, r1, r2, r3⟩ := q3 (a.length + i) x (by rw [List.getElem?_append_right (by omega)]; simpa using hi)
  exact ⟨us, fun j u hj => by have := r1 j u hj; rwa [show o + 9 * (a.length + i) + 1 + j = o + 9 * a.length + 9 * i + 1 + j by omega] at this, r2, by rwa [show o + 9 * (a.length + i) = o + 9 * a.length + 9 * i by omega] at r3⟩
end Go.Proofs.YtenhciieboegbaaGreatDoor
namespace Go.Proofs.YtenhciieboegbaaGreatDoor
open Go Go.RowKit
section
variable {P : Program} {ops : Array Oper} {Q : Exit → Act → World → Prop}
/-- What is to be shown of an operation: the invariant is handed on. -/
structure RgSj (P : Program) (ops : Array Oper) (Q : Exit → Act → World → Prop) (R : World → World → Prop) (ds : List (Option Tmp)) (a0 : Act) (w0 : World) (L : List (Value → World → Prop)) (Jv : Array Bool → (Nat → Value) → World → Prop) (i : Nat) (o : Oper) : Prop where
  out : ∀ (listed : Array Bool) (v : Nat → Value) (w : World), listed.size = ops.size → Jv listed v w → R w0 w → listed.getD i false = false → (∀ e ∈ needs .any ops i, listed.getD e false = true) → (∀ j, (ups .any ops i).contains j = true → L.getD j (fun _ _ => True) (v j) w) → Fr ds a0 v (layL v a0 0 ds) →
    ∀ K : Act → World → Prop, Shut (∀ x w', R w w' → Jv (listed.setIfInBounds i true) (updV v i x) w' → L.getD i (fun _ _ => True) x w' → K ((layL v a0 0 ds).put o.dst x) w') → Oper.wp P o (layL v a0 0 ds) w K Q
variable {R : World → World → Prop} {ds : List (Option Tmp)} {a0 : Act} {w0 : World} {L : List (Value → World → Prop)} {i : Nat} {o : Oper}
theorem rgj_main (Jv : Array Bool → (Nat → Value) → World → Prop) (n : Nat) (hn : n ≤ ops.size) (hds : (List.range n).map (dstOf ops) = ds) (hap : dstsApart ops n = true) (htp : twoParts .any ops n [] = true)
    (hRt : ∀ {a b c}, R a b → R b c → R a c)
    (hst : AllStbR R L)
    (hop : ∀ i o, i < n → ops[i]? = some o → o.guard = none ∧ RgSj P ops Q R ds a0 w0 L Jv i o)
    (hend : ∀ v w, R w0 w → (∀ i, i < n → L.getD i (fun _ _ => True) (v i) w) → Jv (firstN ops.size n) v w → wpAny P .any ops Q (ops.size - n) (firstN ops.size n) (layL v a0 0 ds) w) :
    ∀ (fuel : Nat) (listed : Array Bool) (v : Nat → Value) (w : World), listed.size = ops.size → (∀ j, n ≤ j → listed.getD j false = false) →
      fuel + doneN listed n = ops.size → (∀ i, listed.getD i false = true → ∀ e ∈ needs .any ops i, listed.getD e false = true) → R w0 w →
      (∀ i, i < n → listed.getD i false = true → L.getD i (fun _ _ => True) (v i) w) →
      Jv listed v w →
      wpAny P .any ops Q fuel listed (layN ops v a0 n) w := by
  simp only [twoParts, Bool.and_eq_true, List.all_eq_true, List.mem_range, Bool.or_eq_true, decide_eq_true_eq] at htp
  obtain ⟨htp1, htp2⟩ := htp
  intro fuel
  induction fuel with
  | zero =>
    intro listed v w hsz hbig hcnt hcl hE hΦ hS
    have hle : doneN listed n ≤ n := by
      have := List.countP_le_length (p := fun i => listed.getD i false) (l := List.range n)
      simpa [doneN] using this
    have hall : ∀ i, i < n → listed.getD i false = true := fun i hi => by
      cases h : listed.getD i false
      · have := doneN_lt hi h; omega
      · rfl
    have hl : listed = firstN ops.size n := by
      apply Array.ext (by simp [firstN, hsz])
      intro i h1 h2
      have h3 : listed[i] = listed.getD i false := by simp [h1]
      rw [h3, hall i (by omega)]; simp [firstN]; omega
    have := hend v w hE (fun i hi => hΦ i hi (hall i hi)) (hl ▸ hS)
    rw [layN_layL v a0 n ds hds, hl]
    rwa [show ops.size - n = 0 by omega] at this
  | succ fuel ih =>
    intro listed v w hsz hbig hcnt hcl hE hΦ hS
    by_cases hall : ∃ i, i < n ∧ (!listed.getD i false) = true
    · obtain ⟨i1, hi1, h1⟩ := hall
      have hu1 : listed.getD i1 false = false := by simpa using h1
      obtain ⟨i0, hi0, h0, hmin⟩ := exists_least (fun i => !listed.getD i false) n ⟨i1, hi1, by rw [hu1]; rfl⟩
      have hi0s : i0 < listed.size := by omega
      have hr0 : i0 ∈ Region.ready .any ops listed := ready_of_needs (by simpa [hi0s] using h0) (by omega) (fun e he => by
        have := hmin e (by simpa using htp2 i0 hi0 e he)
        simpa using this)
      refine ⟨fun h => (by rw [h] at hr0; cases hr0), fun i hi => ?_⟩
      have hin : i < n := by
        rcases Nat.lt_or_ge i n with h | h
        · exact h
        · exfalso
          obtain ⟨_, o, ho, _⟩ := mem_ready.1 hi
          have his : i < ops.size := (Array.getElem?_eq_some_iff.1 ho).1
          rcases (htp1 i his).resolve_left (by omega) i1 hi1 with h2 | h2
          · have h3 := sweep_listed hcl i (needs .any ops i) (needs_ready hi) i1 (List.contains_iff_mem.1 h2)
            rw [hu1] at h3; cases h3
          · simp at h2
      obtain ⟨hun, o, ho, _⟩ := mem_ready.1 hi
      have hil : i < listed.size := by omega
      have hunf : listed.getD i false = false := by simp [hil] at hun ⊢; exact hun
      have hdeps : ∀ j, (ups .any ops i).contains j = true → L.getD j (fun _ _ => True) (v j) w := fun j hj => by
        have hjl := sweep_listed hcl i (needs .any ops i) (needs_ready hi) j (List.contains_iff_mem.1 hj)
        have hjn : j < n := by
          rcases Nat.lt_or_ge j n with h | h
          · exact h
          · rw [hbig j h] at hjl; cases hjl
        exact hΦ j hjn hjl
      have hthis := hop i o hin ho
      refine wpOp_step ho fun K hK => ?_
      have hdst : o.dst = dstOf ops i := by simp [dstOf, ho]
      have hrun := hthis.2.out listed v w hsz hS hE hunf (needs_ready hi) hdeps (Fr.of ds a0 v) K
      rw [← layN_layL v a0 n ds hds] at hrun
      rw [if_pos (by simp [Region.wanted, hthis.1])]
      refine hrun ?_
      intro x w' e1 hj hx
      refine hK _ _ ?_
      rw [hdst, layN_put a0 v i x n hin (fun j k hj hk hjk => dstsApart_spec hap hj hk hjk)]
      refine ih _ _ _ (by simp [hsz]) (fun j hj => ?_) ?_ (fun j hj e he => ?_) (hRt hE e1) (fun j hj hlj => ?_) hj
      · rw [getD_set_ne false (by omega)]; exact hbig j hj
      · rw [doneN_set _ _ hun, if_pos hin]; omega
      · by_cases hij : i = j
        · subst hij
          exact getD_set_true (needs_ready hi e he)
        · rw [getD_set_ne false hij] at hj
          exact getD_set_true (hcl j hj e he)
      · by_cases hij : j = i
        · subst hij; simpa only [updV, if_true] using hx
        · rw [getD_set_ne false (Ne.symm hij)] at hlj
          simp only [updV]; rw [if_neg hij]
          exact hst.get j _ _ _ e1 (hΦ j hj hlj)
    · have hall' : ∀ i, i < n → listed.getD i false = true := fun i hi => by
        cases h : listed.getD i false
        · exact absurd ⟨i, hi, by rw [h]; rfl⟩ hall
        · rfl
      have hl : listed = firstN ops.size n := by
        apply Array.ext (by simp [firstN, hsz])
        intro i h1 h2
        have h3 : listed[i] = listed.getD i false := by simp [h1]
        rw [h3]
        rcases Nat.lt_or_ge i n with h | h
        · rw [hall' i h]; simp [firstN, h]
        · rw [hbig i h]; simp [firstN]; omega
      have := hend v w hE (fun i hi => hΦ i hi (hall' i hi)) (hl ▸ hS)
      rw [layN_layL v a0 n ds hds, hl]
      have hdn := doneN_all n hall'
      rwa [show ops.size - n = fuel + 1 by omega] at this
theorem wp_region_rgj (Jv : Array Bool → (Nat → Value) → World → Prop) (R : World → World → Prop) (n : Nat) (ds : List (Option Tmp)) (L : List (Value → World → Prop)) {id : Nat}
    (hm : P.follows .mixedOrders = true) (hn : decide (n ≤ ops.size) = true) (hds : (List.range n).map (dstOf ops) = ds) (hap : dstsApart ops n = true) (htp : twoParts .any ops n [] = true)
    (hRt : ∀ {a b c}, R a b → R b c → R a c) (hRe : ∀ {a b}, Ext a b → R a b)
    (hst : AllStbR R L)
    (hop : ∀ i o, i < n → ops[i]? = some o → o.guard = none ∧ RgSj P ops Q R ds a0 w0 L Jv i o) (hJ0 : ∀ v, Jv (Array.replicate ops.size false) v w0.drew)
    (hend : ∀ v w, R w0 w → (∀ i, i < n → L.getD i (fun _ _ => True) (v i) w) → Jv (firstN ops.size n) v w → wpAny P .any ops Q (ops.size - n) (firstN ops.size n) (layL v a0 0 ds) w) :
    (Code.region id ops true).wp P Q a0 w0 := by
  refine wp_region_any hm ?_
  have hE : R w0 w0.drew := hRe (Ext.refl w0).drew
  have hD : ∀ m, doneN (Array.replicate ops.size false) m = 0 := fun m => by
    unfold doneN
    rw [List.countP_eq_zero.2]
    intro i _
    simp [listed_false]
  have := rgj_main Jv (P := P) (Q := Q) (R := R) (a0 := a0) (w0 := w0) (L := L) n (of_decide_eq_true hn) hds hap htp hRt hst hop hend
    ops.size (Array.replicate ops.size false) (slotVal ops a0) w0.drew (by simp) (fun j _ => by simp [listed_false]) (by rw [hD]; rfl)
    (fun i hi => by simp [listed_false] at hi) hE (fun i hi h => by simp [listed_false] at h) (hJ0 _)
  have hlay : layN ops (slotVal ops a0) a0 n = a0 := layN_self a0 n
  rwa [hlay] at this
/-- An operation that lets the heap grow. -/
theorem RgSj.ok {Jv : Array Bool → (Nat → Value) → World → Prop} (hRe : ∀ {a b}, Ext a b → R a b) (hJ : ∀ listed v w w' x, Jv listed v w → Ext w w' → listed.getD i false = false → L.getD i (fun _ _ => True) x w' → Jv (listed.setIfInBounds i true) (updV v i x) w') (h : ∀ w, R w0 w → Ok P ops Q ds a0 w L [] i o) : RgSj P ops Q R ds a0 w0 L Jv i o :=
  ⟨fun listed v w _ hj hR hu _ hd hf K hK => (h w hR).out v _ w (Ext.refl w) hd hf K (by intro x w' e hL _; exact hK.out x w' (hRe e) (hJ listed v w w' x hj e hu hL) hL)⟩
end
end Go.Proofs.YtenhciieboegbaaGreatDoor
