/-
  A drawn region whose operations keep an invariant of what is listed, the values and the world: boxes that differ, stores early or late. (Printed by wip/gen/rgj.py out of XRgv.)
  Memory of the reference's good: a scope, copied, with one more name, in a drawn region.
-/
import Derived.Test.YtenhciieboegbaaGreatDoorRgv
import Derived.Test.YtenhciieboegbaaGreatDoorNr3
import Derived.Test.YtenhciieboegbaaGreatDoorNex
namespace Go.Proofs.YtenhciieboegbaaGreatDoor
open Go Go.RowKit
section
variable {P:Program} {ops:Array Oper} {Q:Exit→Act→World→Prop}
structure RgSj (P:Program) (ops:Array Oper) (Q:Exit→Act→World→Prop) (R:World→World→Prop) (ds:List (Option Tmp)) (a0:Act) (w0:World) (L:List (Value→World→Prop)) (Jv:Array Bool→(Nat→Value)→World→Prop) (i:Nat) (o:Oper):Prop where
  out:∀(listed:Array Bool) (v:Nat→Value) (w:World),listed.size=ops.size→Jv listed v w→R w0 w→listed.getD i false=false→(∀e∈needs .any ops i,listed.getD e false=true)→(∀j,(ups .any ops i).contains j=true→L.getD j (λ_ _=>True) (v j) w)→Fr ds a0 v (layL v a0 0 ds)→
    ∀K:Act→World→Prop,Shut (∀x w',R w w'→Jv (listed.setIfInBounds i true) (updV v i x) w'→L.getD i (λ_ _=>True) x w'→K ((layL v a0 0 ds).put o.dst x) w')→Oper.wp P o (layL v a0 0 ds) w K Q
variable {R:World→World→Prop} {ds:List (Option Tmp)} {a0:Act} {w0:World} {L:List (Value→World→Prop)} {i:Nat} {o:Oper}
theorem rgj_main(Jv:Array Bool→(Nat→Value)→World→Prop)(n:Nat)(hn:n≤ops.size)(hds:(List.range n).map (dstOf ops)=ds)(hap:dstsApart ops n=true)(htp:twoParts .any ops n []=true)
    (hRt:∀ {a b c},R a b→R b c→R a c)
    (hst:AllStbR R L)
    (hop:∀i o,i<n→ops[i]? =some o→o.guard=none∧RgSj P ops Q R ds a0 w0 L Jv i o)
    (hend:∀v w,R w0 w→(∀i,i<n→L.getD i (λ_ _=>True) (v i) w)→Jv (firstN ops.size n) v w→wpAny P .any ops Q (ops.size-n) (firstN ops.size n) (layL v a0 0 ds) w):
    ∀ (fuel:Nat) (listed:Array Bool) (v:Nat→Value) (w:World),listed.size=ops.size→(∀j,n≤j→listed.getD j false=false)→
      fuel+doneN listed n=ops.size→(∀i,listed.getD i false=true→ ∀e∈needs .any ops i,listed.getD e false=true)→R w0 w→
      (∀i,i<n→listed.getD i false=true→L.getD i (λ_ _=>True) (v i) w)→
      Jv listed v w→
      wpAny P .any ops Q fuel listed (layN ops v a0 n) w:=by
  simp only[twoParts,Bool.and_eq_true,List.all_eq_true,List.mem_range,Bool.or_eq_true,decide_eq_true_eq]at htp;obtain⟨htp1,htp2⟩:=htp;intro fuel
  induction fuel with
  | zero=>
    intro listed v w hsz hbig hcnt hcl hE hΦ hS
    have hle:doneN listed n≤n:=by
      have:=List.countP_le_length (p:=λi=>listed.getD i false) (l:=List.range n)
      simpa [doneN]using this
    have hall:∀i,i<n→listed.getD i false=true:=λi hi=>by
      cases h:listed.getD i false
      ·have:=doneN_lt hi h;omega
      ·rfl
    have hl:listed=firstN ops.size n:=by
      apply Array.ext (by simp[firstN,hsz]);intro i h1 h2;have h3:listed[i]=listed.getD i false:=by simp[h1]
      rw[h3,hall i (by omega)];simp[firstN];omega
    have:=hend v w hE (λi hi=>hΦ i hi (hall i hi)) (hl▸hS);rw[layN_layL v a0 n ds hds,hl]
    rwa [show ops.size-n=0 by omega]at this
  | succ fuel ih=>
    intro listed v w hsz hbig hcnt hcl hE hΦ hS;by_cases hall:∃i,i<n∧(!listed.getD i false)=true
    · obtain ⟨i1,hi1,h1⟩:=hall
      have hu1:listed.getD i1 false=false:=by simpa using h1
      obtain⟨i0,hi0,h0,hmin⟩:=exists_least (λi=> !listed.getD i false) n ⟨i1,hi1,by rw[hu1];rfl⟩;have hi0s:i0<listed.size:=by omega
      have hr0:i0∈Region.ready .any ops listed:=ready_of_needs (by simpa [hi0s]using h0) (by omega) (λe he=>by
        have:=hmin e (by simpa using htp2 i0 hi0 e he)
        simpa using this)
      refine⟨λh=>(by rw[h]at hr0;cases hr0),λi hi=>?_⟩
      have hin:i<n:=by
        rcases Nat.lt_or_ge i n with h|h
        ·exact h
        · exfalso
          obtain⟨_,o,ho,_⟩:=mem_ready.1 hi;have his:i<ops.size:=(Array.getElem?_eq_some_iff.1 ho).1;rcases(htp1 i his).resolve_left (by omega) i1 hi1 with h2|h2
          · have h3:=sweep_listed hcl i (needs .any ops i) (needs_ready hi) i1 (List.contains_iff_mem.1 h2)
            rw[hu1]at h3;cases h3
          ·simp at h2
      obtain⟨hun,o,ho,_⟩:=mem_ready.1 hi;have hil:i<listed.size:=by omega
      have hunf:listed.getD i false=false:=by simp[hil]at hun ⊢;exact hun
      have hdeps:∀j,(ups .any ops i).contains j=true→L.getD j (λ_ _=>True) (v j) w:=λj hj=>by
        have hjl:=sweep_listed hcl i (needs .any ops i) (needs_ready hi) j (List.contains_iff_mem.1 hj)
        have hjn:j<n:=by
          rcases Nat.lt_or_ge j n with h|h
          ·exact h
          ·rw[hbig j h]at hjl;cases hjl
        exact hΦ j hjn hjl
      have hthis:=hop i o hin ho;refine wpOp_step ho λK hK=>?_
      have hdst:o.dst=dstOf ops i:=by simp[dstOf,ho]
      have hrun:=hthis.2.out listed v w hsz hS hE hunf (needs_ready hi) hdeps (Fr.of ds a0 v) K;rw[← layN_layL v a0 n ds hds]at hrun;rw[if_pos (by simp[Region.wanted,hthis.1])];refine hrun ?_;intro x w' e1 hj hx;refine hK _ _ ?_;rw[hdst,layN_put a0 v i x n hin (λj k hj hk hjk=>dstsApart_spec hap hj hk hjk)];refine ih _ _ _ (by simp[hsz]) (λj hj=>?_) ?_ (λj hj e he=>?_) (hRt hE e1) (λj hj hlj=>?_) hj
      ·rw[getD_set_ne false (by omega)];exact hbig j hj
      ·rw[doneN_set _ _ hun,if_pos hin];omega
      · by_cases hij:i=j
        · subst hij
          exact getD_set_true (needs_ready hi e he)
        · rw[getD_set_ne false hij]at hj
          exact getD_set_true (hcl j hj e he)
      · by_cases hij:j=i
        ·subst hij;simpa only[updV,if_true]using hx
        · rw[getD_set_ne false (Ne.symm hij)]at hlj
          simp only[updV];rw[if_neg hij];exact hst.get j _ _ _ e1 (hΦ j hj hlj)
    · have hall':∀i,i<n→listed.getD i false=true:=λi hi=>by
        cases h:listed.getD i false
        ·exact absurd ⟨i,hi,by rw[h];rfl⟩ hall
        ·rfl
      have hl:listed=firstN ops.size n:=by
        apply Array.ext (by simp[firstN,hsz]);intro i h1 h2;have h3:listed[i]=listed.getD i false:=by simp[h1]
        rw[h3];rcases Nat.lt_or_ge i n with h|h
        ·rw[hall' i h];simp[firstN,h]
        ·rw[hbig i h];simp[firstN];omega
      have:=hend v w hE (λi hi=>hΦ i hi (hall' i hi)) (hl▸hS);rw[layN_layL v a0 n ds hds,hl];have hdn:=doneN_all n hall'
      rwa [show ops.size-n=fuel+1 by omega]at this
theorem wp_region_rgj(Jv:Array Bool→(Nat→Value)→World→Prop)(R:World→World→Prop)(n:Nat)(ds:List (Option Tmp))(L:List (Value→World→Prop)){id:Nat}
    (hm:P.follows .mixedOrders=true) (hn:decide (n≤ops.size)=true) (hds:(List.range n).map (dstOf ops)=ds) (hap:dstsApart ops n=true) (htp:twoParts .any ops n []=true)
    (hRt:∀ {a b c},R a b→R b c→R a c) (hRe:∀ {a b},Ext a b→R a b)
    (hst:AllStbR R L)
    (hop:∀i o,i<n→ops[i]? =some o→o.guard=none∧RgSj P ops Q R ds a0 w0 L Jv i o) (hJ0:∀v,Jv (Array.replicate ops.size false) v w0.drew)
    (hend:∀v w,R w0 w→(∀i,i<n→L.getD i (λ_ _=>True) (v i) w)→Jv (firstN ops.size n) v w→wpAny P .any ops Q (ops.size-n) (firstN ops.size n) (layL v a0 0 ds) w):
    (Code.region id ops true).wp P Q a0 w0:=by
  refine wp_region_any hm ?_;have hE:R w0 w0.drew:=hRe (Ext.refl w0).drew
  have hD:∀m,doneN (Array.replicate ops.size false) m=0:=λm=>by
    unfold doneN;rw[List.countP_eq_zero.2];intro i _;simp[listed_false]
  have:=rgj_main Jv (P:=P) (Q:=Q) (R:=R) (a0:=a0) (w0:=w0) (L:=L) n (of_decide_eq_true hn) hds hap htp hRt hst hop hend
    ops.size (Array.replicate ops.size false) (slotVal ops a0) w0.drew (by simp) (λj _=>by simp[listed_false]) (by rw[hD];rfl)
    (λi hi=>by simp[listed_false]at hi) hE (λi hi h=>by simp[listed_false]at h) (hJ0 _)
  have hlay:layN ops (slotVal ops a0) a0 n=a0:=layN_self a0 n
  rwa [hlay]at this
theorem RgSj.ok{Jv:Array Bool→(Nat→Value)→World→Prop}(hRe:∀ {a b},Ext a b→R a b)(hJ:∀listed v w w' x,Jv listed v w→Ext w w'→listed.getD i false=false→L.getD i (λ_ _=>True) x w'→Jv (listed.setIfInBounds i true) (updV v i x) w')(h:∀w,R w0 w→Ok P ops Q ds a0 w L [] i o):RgSj P ops Q R ds a0 w0 L Jv i o:=
  ⟨λlisted v w _ hj hR hu _ hd hf K hK=>(h w hR).out v _ w (Ext.refl w) hd hf K (by intro x w' e hL _;exact hK.out x w' (hRe e) (hJ listed v w w' x hj e hu hL) hL)⟩
end
end Go.Proofs.YtenhciieboegbaaGreatDoor
namespace Go.Proofs.YtenhciieboegbaaGreatDoor
open Go Go.RowKit Go.Maps
def RwS(base:Nat)(b:Sc)(v:Value)(w:World):Prop:=Rwg 9 1 base w v b.length (b.map encS)∧NwB w v
theorem RwS.ext{base:Nat}{b:Sc}{v:Value}{w w':World}(h:RwS base b v w)(e:Ext w w'):RwS base b v w':=
  ⟨h.1.ext e,h.2.kept λg hg=>e.block g ((World.ownsRow.lt h.1) g hg).2⟩
theorem RwS.zero(w:World){base:Nat}(hb:base≤w.heap.size):RwS base [] (.slice (some ⟨w.heap.size,0,none⟩) 0 0) (w.alloc (.cells #[] 9)):=by
  refine⟨RwgS.zero w hb,λg cs e fz h1 h2=>?_⟩;obtain rfl:w.heap.size=g:=by injection h1
  rw[World.alloc_heap_new]at h2;injection h2 with h2;injection h2 with h2;subst h2;intro u hu;simp at hu
def IsSg(b:Sc)(v:Value)(w:World):Prop:=∃g c,v=.slice (some ⟨g,0,none⟩) b.length c∧ ∀j s,b[j]? =some s→World.cell? w ⟨g,j,none⟩=some (encS s)
theorem IsSg.ext{b:Sc}{v:Value}{w w':World}(h:IsSg b v w)(e:Ext w w'):IsSg b v w':=let ⟨g,c,h1,h2⟩:=h;⟨g,c,h1,λj s hj=>e.cell (h2 j s hj)⟩
theorem IsSg.stb(b:Sc):Stb (IsSg b):=λ_ _ _ e h=>h.ext e
theorem IsSg.sr{b:Sc}{v:Value}{w:World}(h:IsSg b v w)(hb:b.length≤1000000000):IsSr b v w:=
  let ⟨g,c,h1,h2⟩:=h;⟨_,c,h1,by omega,λ_=>⟨g,0,rfl,λj s hj=>by rw[Nat.zero_add];exact h2 j s hj⟩⟩
theorem IsSg.src{b:Sc}{v:Value}{w:World}(h:IsSg b v w):SrcR b.length (b.map encS) v w:=by
  obtain⟨g,c,h1,h2⟩:=h;refine .inr ⟨g,0,c,h1,λj u hj=>?_⟩;rw[Nat.zero_add];simp only[List.getElem?_map,Option.map_eq_some_iff]at hj;obtain⟨s,hs,rfl⟩:=hj;exact h2 j s hs
theorem RwS.sg{base:Nat}{b:Sc}{v:Value}{w:World}(h:RwS base b v w)(hb:b≠ []):IsSg b v w:=by
  obtain⟨ao,cp,h1,h2,h3,h4,h5⟩:=h.1.shape;obtain⟨g,rfl,k1,k2,k3⟩:=h5 (by simpa using hb);exact⟨g,cp,h1,λj x hj=>k3 j _ (by simp[hj])⟩
theorem sc_one{b:Sc}:∀u∈b.map encS,u.oneCell'=true∧NoWord u:=λu hu=>by
  obtain⟨s,-,rfl⟩:=List.mem_map.1 hu;exact⟨rfl,NoWord.string _⟩
structure Jg (X:World) (b:Sc) (nm:List UInt8) (l:Array Bool) (v:Nat→Value) (w:World):Prop where
  j4:l.getD 4 false=true→l.getD 6 false=false→ ∃g,v 4=.slice (some ⟨g,0,none⟩) 0 0∧RwS X.heap.size [] (v 4) w∧(l.getD 9 false=true→v 9≠ .slice (some ⟨g,0,none⟩) 1 1)
  j9:l.getD 9 false=true→ ∃g,v 9=.slice (some ⟨g,0,none⟩) 1 1∧g<w.heap.size∧(l.getD 10 false=false→World.cell? w ⟨g,0,none⟩=some (encS nm))
  j6:l.getD 6 false=true→l.getD 10 false=false→RwS X.heap.size b (v 6) w
  j10:l.getD 10 false=true→l.getD 6 false=true∧RwS X.heap.size (b++ [nm]) (v 10) w
theorem Jg.start(X:World)(b:Sc)(nm:List UInt8)(n:Nat)(v:Nat→Value)(w:World):Jg X b nm (Array.replicate n false) v w:=by
  have h:∀k,(Array.replicate n false).getD k false=false:=λk=>by
    rw[Array.getD_eq_getD_getElem?,Array.getElem?_replicate];split <;> rfl
  constructor
  ·intro q;rw[h]at q;cases q
  ·intro q;rw[h]at q;cases q
  ·intro q;rw[h]at q;cases q
  ·intro q;rw[h]at q;cases q
theorem set_sm{l:Array Bool}{i:Nat}(h:i<l.size):(l.setIfInBounds i true).getD i false=true:=by
  simp[Array.getD_eq_getD_getElem?,h]
theorem updV_ne{v:Nat→Value}{i k:Nat}(x:Value)(h:k≠i):updV v i x k=v k:=if_neg h
theorem updV_eq{v:Nat→Value}{i:Nat}(x:Value):updV v i x i=x:=if_pos rfl
theorem Jg.plain{X:World}{b:Sc}{nm:List UInt8}{l:Array Bool}{v:Nat→Value}{w w':World}{i:Nat}(x:Value)(h:Jg X b nm l v w)(e:Ext w w')(h4:i≠4)(h6:i≠6)(h9:i≠9)(h10:i≠10):Jg X b nm (l.setIfInBounds i true) (updV v i x) w':=by
  constructor
  · rw[getD_set_ne' h4,getD_set_ne' h6,getD_set_ne' h9,updV_ne x h4.symm,updV_ne x h9.symm]
    exact λq1 q2=>let ⟨g,r1,r2,r3⟩:=h.j4 q1 q2;⟨g,r1,r2.ext e,r3⟩
  · rw[getD_set_ne' h9,getD_set_ne' h10,updV_ne x h9.symm]
    exact λq1=>let ⟨g,r1,r2,r3⟩:=h.j9 q1;⟨g,r1,Nat.lt_of_lt_of_le r2 e.size,λq=>e.cell (r3 q)⟩
  · rw[getD_set_ne' h6,getD_set_ne' h10,updV_ne x h6.symm]
    exact λq1 q2=>(h.j6 q1 q2).ext e
  · rw[getD_set_ne' h6,getD_set_ne' h10,updV_ne x h10.symm]
    exact λq1=>⟨(h.j10 q1).1,(h.j10 q1).2.ext e⟩
theorem Jg.s4{X:World}{b:Sc}{nm:List UInt8}{l:Array Bool}{v:Nat→Value}{w:World}(h:Jg X b nm l v w)(hX:X.heap.size≤w.heap.size):Jg X b nm (l.setIfInBounds 4 true) (updV v 4 (.slice (some ⟨w.heap.size,0,none⟩) 0 0)) (w.alloc (.cells #[] 9)):=by
  have e:Ext w (w.alloc (.cells #[] 9)):=(Ext.refl w).alloc _;constructor
  · rw[getD_set_ne' (show(4:Nat)≠6 by decide),getD_set_ne' (show(4:Nat)≠9 by decide),updV_eq,updV_ne _ (show(9:Nat)≠4 by decide)]
    refine λ_ _=>⟨_,rfl,RwS.zero w hX,λq=>?_⟩
    obtain⟨g,r1,r2,-⟩:=h.j9 q;rw[r1];intro q2;injection q2 with q2;injection q2 with q2;injection q2 with q2;omega
  · rw[getD_set_ne' (show(4:Nat)≠9 by decide),getD_set_ne' (show(4:Nat)≠10 by decide),updV_ne _ (show(9:Nat)≠4 by decide)]
    exact λq1=>let ⟨g,r1,r2,r3⟩:=h.j9 q1;⟨g,r1,Nat.lt_of_lt_of_le r2 e.size,λq=>e.cell (r3 q)⟩
  · rw[getD_set_ne' (show(4:Nat)≠6 by decide),getD_set_ne' (show(4:Nat)≠10 by decide),updV_ne _ (show(6:Nat)≠4 by decide)]
    exact λq1 q2=>(h.j6 q1 q2).ext e
  · rw[getD_set_ne' (show(4:Nat)≠6 by decide),getD_set_ne' (show(4:Nat)≠10 by decide),updV_ne _ (show(10:Nat)≠4 by decide)]
    exact λq1=>⟨(h.j10 q1).1,(h.j10 q1).2.ext e⟩
theorem Jg.s9{X:World}{b:Sc}{nm:List UInt8}{l:Array Bool}{v:Nat→Value}{w:World}(h:Jg X b nm l v w):Jg X b nm (l.setIfInBounds 9 true) (updV v 9 (.slice (some ⟨w.heap.size,0,none⟩) 1 1)) (w.alloc (.cells #[encS nm] 9)):=by
  have e:Ext w (w.alloc (.cells #[encS nm] 9)):=(Ext.refl w).alloc _;constructor
  · rw[getD_set_ne' (show(9:Nat)≠6 by decide),getD_set_ne' (show(9:Nat)≠4 by decide),updV_eq,updV_ne _ (show(4:Nat)≠9 by decide)]
    refine λq1 q2=>?_
    obtain⟨g,r1,r2,-⟩:=h.j4 q1 q2;refine⟨g,r1,r2.ext e,λ_ q3=>?_⟩;have hlt:=((World.ownsRow.lt r2.1) g (by rw[r1];rfl)).2;injection q3 with q3;injection q3 with q3;injection q3 with q3;omega
  · rw[getD_set_ne' (show(9:Nat)≠10 by decide),updV_eq]
    exact λ_=>⟨_,rfl,by simp,λ_=>by have:=(Bk.new w #[encS nm] 9).c 0 (encS nm) rfl;exact this⟩
  · rw[getD_set_ne' (show(9:Nat)≠6 by decide),getD_set_ne' (show(9:Nat)≠10 by decide),updV_ne _ (show(6:Nat)≠9 by decide)]
    exact λq1 q2=>(h.j6 q1 q2).ext e
  · rw[getD_set_ne' (show(9:Nat)≠6 by decide),getD_set_ne' (show(9:Nat)≠10 by decide),updV_ne _ (show(10:Nat)≠9 by decide)]
    exact λq1=>⟨(h.j10 q1).1,(h.j10 q1).2.ext e⟩
theorem Jg.s6{X:World}{b:Sc}{nm:List UInt8}{l:Array Bool}{v:Nat→Value}{w w':World}{x:Value}(h:Jg X b nm l v w)(h4:l.getD 4 false=true)(h6:l.getD 6 false=false)(hs:6<l.size)(hx:RwS X.heap.size b x w')(hg:w.grownBy w' (v 4).ownBlock):Jg X b nm (l.setIfInBounds 6 true) (updV v 6 x) w':=by
  have t6:(l.setIfInBounds 6 true).getD 6 false=true:=set_sm hs
  have h10:l.getD 10 false=false:=by
    cases q:l.getD 10 false
    ·rfl
    ·have:=(h.j10 q).1;rw[h6]at this;cases this
  constructor
  ·rw[t6];intro _ q;cases q
  · rw[getD_set_ne' (show(6:Nat)≠9 by decide),getD_set_ne' (show(6:Nat)≠10 by decide),updV_ne _ (show(9:Nat)≠6 by decide)]
    intro q1;obtain⟨g,r1,r2,r3⟩:=h.j9 q1;obtain⟨g4,k1,-,k3⟩:=h.j4 h4 h6;refine⟨g,r1,Nat.lt_of_lt_of_le r2 hg.size,λq=>?_⟩;have hne:g≠g4:=λe=>k3 q1 (by rw[r1,e])
    exact(World.cell?_of_block (w:=w) (hg.block g r2 (λe=>hne (by rw[k1]at e;exact Option.some.inj e)))).trans (r3 q)
  ·rw[updV_eq];exact λ_ _=>hx
  ·rw[getD_set_ne' (show(6:Nat)≠10 by decide),h10];intro q;cases q
theorem Jg.s10{X:World}{b:Sc}{nm:List UInt8}{l:Array Bool}{v:Nat→Value}{w w':World}{x:Value}(h:Jg X b nm l v w)(h6:l.getD 6 false=true)(hs:10<l.size)(hsz:w.heap.size≤w'.heap.size)(hx:RwS X.heap.size (b++ [nm]) x w'):Jg X b nm (l.setIfInBounds 10 true) (updV v 10 x) w':=by
  have t10:(l.setIfInBounds 10 true).getD 10 false=true:=set_sm hs;constructor
  ·rw[getD_set_ne' (show(10:Nat)≠6 by decide),h6];intro _ q;cases q
  · rw[getD_set_ne' (show(10:Nat)≠9 by decide),t10,updV_ne _ (show(9:Nat)≠10 by decide)]
    intro q1;obtain⟨g,r1,r2,-⟩:=h.j9 q1;exact⟨g,r1,Nat.lt_of_lt_of_le r2 hsz,λq=>by cases q⟩
  ·rw[t10];intro _ q;cases q
  ·rw[getD_set_ne' (show(10:Nat)≠6 by decide),updV_eq];exact λ_=>⟨h6,hx⟩
theorem wp_sx{w:World}{o:Oper}{a:Act}{Q:Exit→Act→World→Prop}{K:Act→World→Prop}(s x:Operand)
    (ho:o.op=.call {callee:=.builtin .append,args:= #[s,x],argTypes:= #[53,53]}) (base:Nat) (b b':Sc) (v xv:Value) (hs:a.eval s=v) (hx:a.eval x=xv) (hI:RwS base b v w) (hsrc:SrcR b'.length (b'.map encS) xv w) (hl:b.length+b'.length≤1000000) (hbase:base≤w.heap.size)
    (h:∀v' w',RwS base (b++b') v' w'→w.grownBy w' v.ownBlock→Gr w w'→Below base w w'→K (a.put o.dst v') w'):Oper.wp Tryz.prog o a w K Q:=by
  refine wp_rwnS s x 53 ho base 9 (.string ⟨#[]⟩) 1 16 (by kernel_rfl) (by kernel_rfl) rfl (by decide) (λu hu=>by obtain rfl:u=.string ⟨#[]⟩:=(by simpa [Value.cells]using hu);exact NoWord.string _) v b.length (b.map encS) hs hI.1 hI.2 b'.length (b'.map encS) xv hx (by simp) hsrc (λu hu=>(sc_one u hu).1) (λu hu=>(sc_one u hu).2) (by omega) (by omega) hbase ?_;intro v' w' r1 r2 r3 r4 r5 r6;exact h v' w' ⟨by rw[List.length_append,List.map_append];exact r1,r2⟩ r3 r4 r5
end Go.Proofs.YtenhciieboegbaaGreatDoor
