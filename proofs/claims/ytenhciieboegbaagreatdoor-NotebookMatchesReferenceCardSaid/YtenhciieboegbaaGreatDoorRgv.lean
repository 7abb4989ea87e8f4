/-
  A drawn region that makes boxes and fills them, stores early or late: facts that a relation keeps; what a store leaves is said of the box that it fills.
-/
import Derived.Test.YtenhciieboegbaaGreatDoorRgx
namespace Go.Proofs.YtenhciieboegbaaGreatDoor
open Go Go.RowKit
section
variable {P:Program} {ops:Array Oper} {Q:Exit→Act→World→Prop}
abbrev Tv:=Option (Nat×(Value→World→Prop))
structure RgSv (P:Program) (ops:Array Oper) (Q:Exit→Act→World→Prop) (R:World→World→Prop) (ds:List (Option Tmp)) (a0:Act) (w0:World) (L:List (Value→World→Prop)) (i:Nat) (o:Oper) (j:Nat) (F:Value→World→Prop):Prop where
  out:∀(v:Nat→Value) (w:World),R w0 w→(∀j,(ups .any ops i).contains j=true→L.getD j (λ_ _=>True) (v j) w)→Fr ds a0 v (layL v a0 0 ds)→
    ∀K:Act→World→Prop,Shut (∀w',R w w'→F (v j) w'→K (layL v a0 0 ds) w')→Oper.wp P o (layL v a0 0 ds) w K Q
inductive RgAllV (P:Program) (ops:Array Oper) (Q:Exit→Act→World→Prop) (R:World→World→Prop) (ds:List (Option Tmp)) (a0:Act) (w0:World) (L:List (Value→World→Prop)) (tg:List Tv):Nat→Nat→List Oper→Prop
  |nil {i:Nat} {os:List Oper}:RgAllV P ops Q R ds a0 w0 L tg i 0 os
  |op {i k:Nat} {o:Oper} {os:List Oper}:tg.getD i none=none→RgLx P ops Q R ds a0 w0 L i o→RgAllV P ops Q R ds a0 w0 L tg (i+1) k os→RgAllV P ops Q R ds a0 w0 L tg i (k+1) (o ::os)
  |st {i k j:Nat} {F:Value→World→Prop} {o:Oper} {os:List Oper}:tg.getD i none=some (j,F)→o.dst=none→o.guard=none→RgSv P ops Q R ds a0 w0 L i o j F→RgAllV P ops Q R ds a0 w0 L tg (i+1) k os→RgAllV P ops Q R ds a0 w0 L tg i (k+1) (o ::os)
variable {R:World→World→Prop} {ds:List (Option Tmp)} {a0:Act} {w0:World} {L:List (Value→World→Prop)} {tg:List Tv} {i:Nat} {o:Oper}
theorem RgAllV.get{k i:Nat}{os:List Oper}(h:RgAllV P ops Q R ds a0 w0 L tg i k os):∀j,j<k→ ∀o,os[j]? =some o→
    (match tg.getD (i+j) none with|none=>RgLx P ops Q R ds a0 w0 L (i+j) o|some (t,F)=>o.dst=none∧o.guard=none∧RgSv P ops Q R ds a0 w0 L (i+j) o t F):=by
  induction h with
  |nil=>intro j hj;omega
  | op ht h _ ih=>
    intro j hj o ho;cases j with
    | zero=>
      obtain rfl:=by simpa using ho
      simp only[Nat.add_zero];rw[ht];exact h
    | succ j=>
      have:=ih j (by omega) o (by simpa using ho)
      rwa [Nat.add_assoc,Nat.add_comm 1 j]at this
  | st ht hd hg h _ ih=>
    intro j hj o ho;cases j with
    | zero=>
      obtain rfl:=by simpa using ho
      simp only[Nat.add_zero];rw[ht];exact⟨hd,hg,h⟩
    | succ j=>
      have:=ih j (by omega) o (by simpa using ho)
      rwa [Nat.add_assoc,Nat.add_comm 1 j]at this
theorem rgv_main(n:Nat)(hn:n≤ops.size)(hds:(List.range n).map (dstOf ops)=ds)(hap:dstsApart ops n=true)(htp:twoParts .any ops n []=true)
    (hRt:∀ {a b c},R a b→R b c→R a c)
    (hst:AllStbR R L)
    (htg:∀i,i<n→ ∀j F,tg.getD i none=some (j,F)→(ups .any ops i).contains j=true∧StbR R F∧ ∀x w,L.getD i (λ_ _=>True) x w)
    (hop:RgAllV P ops Q R ds a0 w0 L tg 0 n ops.toList)
    (hend:∀v w,R w0 w→(∀i,i<n→L.getD i (λ_ _=>True) (v i) w)→(∀i,i<n→ ∀j F,tg.getD i none=some (j,F)→F (v j) w)→wpAny P .any ops Q (ops.size-n) (firstN ops.size n) (layL v a0 0 ds) w):
    ∀ (fuel:Nat) (listed:Array Bool) (v:Nat→Value) (w:World),listed.size=ops.size→(∀j,n≤j→listed.getD j false=false)→
      fuel+doneN listed n=ops.size→(∀i,listed.getD i false=true→ ∀e∈needs .any ops i,listed.getD e false=true)→R w0 w→
      (∀i,i<n→listed.getD i false=true→L.getD i (λ_ _=>True) (v i) w)→
      (∀i,i<n→listed.getD i false=true→ ∀j F,tg.getD i none=some (j,F)→F (v j) w)→
      wpAny P .any ops Q fuel listed (layN ops v a0 n) w:=by
  simp only[twoParts,Bool.and_eq_true,List.all_eq_true,List.mem_range,Bool.or_eq_true,decide_eq_true_eq]at htp;obtain⟨htp1,htp2⟩:=htp;intro fuel
  induction fuel with
  | zero=>
    intro listed v w hsz hbig hcnt hcl hE hΦ hS
    have hle:doneN listed n≤n:=by
      have:=List.countP_le_length (p:=λi=>listed.getD i false) (l:=List.range n)
      simpa [doneN]using this
    have hall:∀i,i<n→listed.getD i false=true:=λi hi=>by
      cases h:listed.getD i false
      ·have:=doneN_lt hi h;omega
      ·rfl
    have hl:listed=firstN ops.size n:=by
      apply Array.ext (by simp[firstN,hsz]);intro i h1 h2;have h3:listed[i]=listed.getD i false:=by simp[h1]
      rw[h3,hall i (by omega)];simp[firstN];omega
    have:=hend v w hE (λi hi=>hΦ i hi (hall i hi)) (λi hi=>hS i hi (hall i hi));rw[layN_layL v a0 n ds hds,hl]
    rwa [show ops.size-n=0 by omega]at this
  | succ fuel ih=>
    intro listed v w hsz hbig hcnt hcl hE hΦ hS;by_cases hall:∃i,i<n∧(!listed.getD i false)=true
    · obtain ⟨i1,hi1,h1⟩:=hall
      have hu1:listed.getD i1 false=false:=by simpa using h1
      obtain⟨i0,hi0,h0,hmin⟩:=exists_least (λi=> !listed.getD i false) n ⟨i1,hi1,by rw[hu1];rfl⟩;have hi0s:i0<listed.size:=by omega
      have hr0:i0∈Region.ready .any ops listed:=ready_of_needs (by simpa [hi0s]using h0) (by omega) (λe he=>by
        have:=hmin e (by simpa using htp2 i0 hi0 e he)
        simpa using this)
      refine⟨λh=>(by rw[h]at hr0;cases hr0),λi hi=>?_⟩
      have hin:i<n:=by
        rcases Nat.lt_or_ge i n with h|h
        ·exact h
        · exfalso
          obtain⟨_,o,ho,_⟩:=mem_ready.1 hi;have his:i<ops.size:=(Array.getElem?_eq_some_iff.1 ho).1;rcases(htp1 i his).resolve_left (by omega) i1 hi1 with h2|h2
          · have h3:=sweep_listed hcl i (needs .any ops i) (needs_ready hi) i1 (List.contains_iff_mem.1 h2)
            rw[hu1]at h3;cases h3
          ·simp at h2
      obtain⟨hun,o,ho,_⟩:=mem_ready.1 hi;have hil:i<listed.size:=by omega
      have hunf:listed.getD i false=false:=by simp[hil]at hun ⊢;exact hun
      have hdeps:∀j,(ups .any ops i).contains j=true→L.getD j (λ_ _=>True) (v j) w:=λj hj=>by
        have hjl:=sweep_listed hcl i (needs .any ops i) (needs_ready hi) j (List.contains_iff_mem.1 hj)
        have hjn:j<n:=by
          rcases Nat.lt_or_ge j n with h|h
          ·exact h
          ·rw[hbig j h]at hjl;cases hjl
        exact hΦ j hjn hjl
      have hthis:=RgAllV.get hop i hin o (by simpa using ho);rw[Nat.zero_add]at hthis;refine wpOp_step ho λK hK=>?_
      have hdst:o.dst=dstOf ops i:=by simp[dstOf,ho]
      cases htgi:tg.getD i none with
      | none=>
        rw[htgi]at hthis;have hrun:=hthis v w hE hdeps K;rw[← layN_layL v a0 n ds hds]at hrun;refine hrun ?_;intro x w' e1 hx;refine hK _ _ ?_;rw[hdst,layN_put a0 v i x n hin (λj k hj hk hjk=>dstsApart_spec hap hj hk hjk)];refine ih _ _ _ (by simp[hsz]) (λj hj=>?_) ?_ (λj hj e he=>?_) (hRt hE e1) (λj hj hlj=>?_) (λk hk hlk j F ht=>?_)
        ·rw[getD_set_ne false (by omega)];exact hbig j hj
        ·rw[doneN_set _ _ hun,if_pos hin];omega
        · by_cases hij:i=j
          · subst hij
            exact getD_set_true (needs_ready hi e he)
          · rw[getD_set_ne false hij]at hj
            exact getD_set_true (hcl j hj e he)
        · by_cases hij:j=i
          ·subst hij;simpa only[updV,if_true]using hx
          · rw[getD_set_ne false (Ne.symm hij)]at hlj
            simp only[updV];rw[if_neg hij];exact hst.get j _ _ _ e1 (hΦ j hj hlj)
        · have hki:k≠i:=λh=>by rw[h,htgi]at ht;cases ht
          rw[getD_set_ne false (Ne.symm hki)]at hlk
          have hji:j≠i:=λh=>by
            have h1:=(htg k hk j F ht).1;have h2:=sweep_listed hcl k (needs .any ops k) (λe he=>hcl k hlk e he) j (List.contains_iff_mem.1 h1);rw[h,hunf]at h2;cases h2
          simp only[updV];rw[if_neg hji];exact(htg k hk j F ht).2.1 _ _ _ e1 (hS k hk hlk j F ht)
      | some jF=>
        obtain⟨t,F⟩:=jF;rw[htgi]at hthis;obtain⟨hd0,hg0,hthis⟩:=hthis;have hrun:=hthis.out v w hE hdeps (Fr.of ds a0 v) K;rw[← layN_layL v a0 n ds hds]at hrun;rw[if_pos (by simp[Region.wanted,hg0])];refine hrun ?_;intro w' e1 hst';refine hK _ _ ?_;refine ih _ _ _ (by simp[hsz]) (λj hj=>?_) ?_ (λj hj e he=>?_) (hRt hE e1) (λj hj hlj=>?_) (λk hk hlk j F2 ht=>?_)
        ·rw[getD_set_ne false (by omega)];exact hbig j hj
        ·rw[doneN_set _ _ hun,if_pos hin];omega
        · by_cases hij:i=j
          · subst hij
            exact getD_set_true (needs_ready hi e he)
          · rw[getD_set_ne false hij]at hj
            exact getD_set_true (hcl j hj e he)
        · by_cases hij:j=i
          ·rw[hij];exact(htg i hin t F htgi).2.2 _ _
          · rw[getD_set_ne false (Ne.symm hij)]at hlj
            exact hst.get j _ _ _ e1 (hΦ j hj hlj)
        · by_cases hki:k=i
          · subst hki
            rw[htgi]at ht;injection ht with ht;injection ht with h1 h2;subst h1;subst h2;exact hst'
          · rw[getD_set_ne false (Ne.symm hki)]at hlk
            exact(htg k hk j F2 ht).2.1 _ _ _ e1 (hS k hk hlk j F2 ht)
    · have hall':∀i,i<n→listed.getD i false=true:=λi hi=>by
        cases h:listed.getD i false
        ·exact absurd ⟨i,hi,by rw[h];rfl⟩ hall
        ·rfl
      have hl:listed=firstN ops.size n:=by
        apply Array.ext (by simp[firstN,hsz]);intro i h1 h2;have h3:listed[i]=listed.getD i false:=by simp[h1]
        rw[h3];rcases Nat.lt_or_ge i n with h|h
        ·rw[hall' i h];simp[firstN,h]
        ·rw[hbig i h];simp[firstN];omega
      have:=hend v w hE (λi hi=>hΦ i hi (hall' i hi)) (λi hi=>hS i hi (hall' i hi));rw[layN_layL v a0 n ds hds,hl];have hdn:=doneN_all n hall'
      rwa [show ops.size-n=fuel+1 by omega]at this
theorem wp_region_rgv(R:World→World→Prop)(n:Nat)(ds:List (Option Tmp))(L:List (Value→World→Prop))(tg:List Tv){id:Nat}
    (hm:P.follows .mixedOrders=true) (hn:decide (n≤ops.size)=true) (hds:(List.range n).map (dstOf ops)=ds) (hap:dstsApart ops n=true) (htp:twoParts .any ops n []=true)
    (hRt:∀ {a b c},R a b→R b c→R a c) (hRe:∀ {a b},Ext a b→R a b)
    (hst:AllStbR R L)
    (htg:∀i,i<n→ ∀j F,tg.getD i none=some (j,F)→(ups .any ops i).contains j=true∧StbR R F∧ ∀x w,L.getD i (λ_ _=>True) x w)
    (hop:RgAllV P ops Q R ds a0 w0 L tg 0 n ops.toList)
    (hend:∀v w,R w0 w→(∀i,i<n→L.getD i (λ_ _=>True) (v i) w)→(∀i,i<n→ ∀j F,tg.getD i none=some (j,F)→F (v j) w)→wpAny P .any ops Q (ops.size-n) (firstN ops.size n) (layL v a0 0 ds) w):
    (Code.region id ops true).wp P Q a0 w0:=by
  refine wp_region_any hm ?_;have hE:R w0 w0.drew:=hRe (Ext.refl w0).drew
  have hD:∀m,doneN (Array.replicate ops.size false) m=0:=λm=>by
    unfold doneN;rw[List.countP_eq_zero.2];intro i _;simp[listed_false]
  have:=rgv_main (P:=P) (Q:=Q) (R:=R) (a0:=a0) (w0:=w0) (tg:=tg) (L:=L) n (of_decide_eq_true hn) hds hap htp hRt hst htg hop hend
    ops.size (Array.replicate ops.size false) (slotVal ops a0) w0.drew (by simp) (λj _=>by simp[listed_false]) (by rw[hD];rfl)
    (λi hi=>by simp[listed_false]at hi) hE (λi hi h=>by simp[listed_false]at h) (λi hi h=>by simp[listed_false]at h)
  have hlay:layN ops (slotVal ops a0) a0 n=a0:=layN_self a0 n
  rwa [hlay]at this
theorem RcV{k:Nat}{os:List Oper}(hRe:∀ {a b},Ext a b→R a b)(h:∀w,R w0 w→Ok P ops Q ds a0 w L [] i o)(hs:RgAllV P ops Q R ds a0 w0 L tg (i+1) k os)(ht:tg.getD i none=none:=by kernel_rfl)(hg:o.guard=none:=by rfl):RgAllV P ops Q R ds a0 w0 L tg i (k+1) (o ::os):=
  .op ht (RgLx.mk hg λv a w hR hd hf K hK=>(h w hR).out v a w (Ext.refl w) hd hf K (by intro x w' e hL _;exact hK.out x w' (hRe e) hL)) hs
theorem RcT(j tp:Nat){T k:Nat}{y:Operand}{fR F:Value→World→Prop}{os:List Oper}(h:∀w x u,R w0 w→L.getD j (λ_ _=>True) x w→fR u w→ ∃w',(Instr.storeAt T x u).run P w=.ok () w'∧R w w'∧F x w')(hy:∀w,R w0 w→Od ops ds a0 w L i y fR)
    (hs:RgAllV P ops Q R ds a0 w0 L tg (i+1) k os) (ht:tg.getD i none=some (j,F):=by rfl) (ho:o.op=.store T (.tmp tp) y:=by rfl) (hdd:o.dst=none:=by rfl) (hg:o.guard=none:=by rfl) (hu:(ups .any ops i).contains j=true:=by kernel_rfl)
    (h1:ds[j]? =some (some tp):=by kernel_rfl) (h2:(ds.drop (j+1)).contains (some tp)=false:=by kernel_rfl) (h3:decide (tp<a0.tmps.size)=true:=by kernel_rfl):RgAllV P ops Q R ds a0 w0 L tg i (k+1) (o ::os):=by
  refine .st ht hdd hg ⟨λv w hR hd hf K hK=>?_⟩ hs;have hp:(layL v a0 0 ds).eval (.tmp tp)=v j:=by rw[eval_tmp,hf.val j tp _ rfl h1 h2 h3]
  obtain⟨w',h4,h5,h6⟩:=h w (v j) _ hR (hd j hu) ((hy w hR).out v _ w (Ext.refl w) hd hf);refine st_wp ho hp rfl h4 ?_;rw[hdd];exact hK.out w' h5 h6
theorem alX{T:Nat}{vs:List Value}{boxes:List Nat}{fQ:Value→World→Prop}(hr:∀w,(Instr.alloc T true (.tuple #[])).run P w=.ok (.pointer (some ⟨w.heap.size,0,none⟩)) (w.alloc (.cells vs.toArray T)))(hΧ:∀w,Ext w0 w→fQ (.pointer (some ⟨w.heap.size,0,none⟩)) (w.alloc (.cells vs.toArray T)))
    (ho:o.op=.alloc T:=by rfl) (hi:L.getD i (λ_ _=>True)=fQ:=by kernel_rfl) (hb:boxes.contains i=false:=by kernel_rfl):Ok P ops Q ds a0 w0 L boxes i o:=
  ⟨fun v a w hE hd hf K hK=>by
    have hrun:(execOp a.eval o).run P w=.ok (.value (.pointer (some ⟨w.heap.size,0,none⟩))) (w.alloc (.cells vs.toArray T)):=by
      unfold execOp;rw[ho];dsimp only;simp[hr]
    unfold Oper.wp;rw[hrun];refine hK.out _ _ ((Ext.refl _).alloc _) ?_ (FreshIf.no hb);rw[hi]
    exact hΧ w hE⟩
end
end Go.Proofs.YtenhciieboegbaaGreatDoor
