/-
  A drawn region whose operations keep an invariant of what is listed, the values and the world: boxes that differ, stores early or late. (Printed by wip/gen/rgj.py out of XRgv.)
  Memory of the reference's good: a scope, copied, with one more name, in a drawn region.
  Rows of words that a call has made, as slices with room: written, read, appended to. No condition.
  The reference package: word, size in order (reaches). Every slice of words.
  The reference package: Neg, Abs, Add, Sub, Sign, Cmp, Bits. Every two integers of at most 2^28 words.
  Valid of the reference at canonical integers (out of XValid).
-/
import Derived.Test.YtenhciieboegbaaGreatDoorRgv
import Derived.Test.YtenhciieboegbaaGreatDoorNr3
import Derived.Test.YtenhciieboegbaaGreatDoorNex
import Derived.Test.YtenhciieboegbaaGreatDoorRow
import Derived.Test.YtenhciieboegbaaGreatDoorInt1
import Derived.Test.YtenhciieboegbaaGreatDoorRwn
namespace Go.Proofs.YtenhciieboegbaaGreatDoor
open Go Go.RowKit
open Go.Proofs.Tryz
set_option maxRecDepth 100000
set_option maxHeartbeats 1000000
section
variable {P:Program} {ops:Array Oper} {Q:Exit->Act->World->Prop}
structure RgSj (P:Program) (ops:Array Oper) (Q:Exit->Act->World->Prop) (R:World->World->Prop) (ds:List (Option Tmp)) (a0:Act) (w0:World) (L:List (Value->World->Prop)) (Jv:Array Bool->(Nat->Value)->World->Prop) (i:Nat) (o:Oper):Prop where
  out:∀(listed:Array Bool) (v:Nat->Value) (w:World),listed.size=ops.size->Jv listed v w->R w0 w->listed.getD i false=false->(∀e∈xW .any ops i,listed.getD e false=true)->(∀j,(ups .any ops i).contains j=true->L.getD j (λ_ _=>True) (v j) w)->Fr ds a0 v (xZ v a0 0 ds)->
    ∀K:Act->World->Prop,Shut (∀x w',R w w'->Jv (listed.setIfInBounds i true) (jD v i x) w'->L.getD i (λ_ _=>True) x w'->K ((xZ v a0 0 ds).put o.dst x) w')->Oper.wp P o (xZ v a0 0 ds) w K Q
variable {R:World->World->Prop} {ds:List (Option Tmp)} {a0:Act} {w0:World} {L:List (Value->World->Prop)} {i:Nat} {o:Oper}
theorem rgj_main(Jv:Array Bool->(Nat->Value)->World->Prop)(n:Nat)(hn:n<=ops.size)(hds:(List.range n).map (xG ops)=ds)(hap:xJ ops n=true)(htp:jG .any ops n []=true)
    (hRt:∀ {a b c},R a b->R b c->R a c)
    (hst:AllStbR R L)
    (hop:∀i o,i<n->ops[i]? =some o->o.guard=none/\RgSj P ops Q R ds a0 w0 L Jv i o)
    (hend:∀v w,R w0 w->(∀i,i<n->L.getD i (λ_ _=>True) (v i) w)->Jv (qU ops.size n) v w->wpAny P .any ops Q (ops.size-n) (qU ops.size n) (xZ v a0 0 ds) w):
    ∀ (fuel:Nat) (listed:Array Bool) (v:Nat->Value) (w:World),listed.size=ops.size->(∀j,n<=j->listed.getD j false=false)->
      fuel+jC listed n=ops.size->(∀i,listed.getD i false=true->∀e∈xW .any ops i,listed.getD e false=true)->R w0 w->
      (∀i,i<n->listed.getD i false=true->L.getD i (λ_ _=>True) (v i) w)->
      Jv listed v w->
      wpAny P .any ops Q fuel listed (jV ops v a0 n) w:=by
  simp only[jG,Bool.and_eq_true,List.all_eq_true,List.mem_range,Bool.or_eq_true,zS]at htp;obtain⟨htp1,htp2⟩:=htp;intro fuel
  induction fuel with
  | zero=>
    intro listed v w hsz hbig hcnt hcl hE hΦ hS
    have hle:jC listed n<=n:=by
      have:=List.countP_le_length (p:=λi=>listed.getD i false) (l:=List.range n)
      simpa [jC]using this
    have hall:∀i,i<n->listed.getD i false=true:=λi hi=>by
      cases h:listed.getD i false
      ·have:=doneN_lt hi h;omega
      ·rfl
    have hl:listed=qU ops.size n:=by
      apply Array.ext (by simp[qU,hsz]);intro i h1 h2;have h3:listed[i]=listed.getD i false:=by simp[h1]
      rw[h3,hall i (by omega)];simp[qU];omega
    have:=hend v w hE (λi hi=>hΦ i hi (hall i hi)) (hl▸hS);rw[xT v a0 n ds hds,hl]
    rwa [show ops.size-n=0 by omega]at this
  | succ fuel ih=>
    intro listed v w hsz hbig hcnt hcl hE hΦ hS;by_cases hall:∃i,i<n/\(!listed.getD i false)=true
    · obtain ⟨i1,hi1,h1⟩:=hall
      have hu1:listed.getD i1 false=false:=yj
      obtain⟨i0,hi0,h0,hmin⟩:=exists_least (λi=> !listed.getD i false) n ⟨i1,hi1,by rw[hu1];rfl⟩;have hi0s:i0<listed.size:=ze
      have hr0:i0∈Region.ready .any ops listed:=ready_of_needs (by simpa [hi0s]using h0) ze (λe he=>by
        have:=hmin e (by simpa using htp2 i0 hi0 e he)
        simpa using this)
      refine⟨λh=>(by rw[h]at hr0;cases hr0),λi hi=>?_⟩
      have hin:i<n:=by
        rcases zR i n with h|h
        ·exact h
        · exfalso
          obtain⟨_,o,ho,_⟩:=mem_ready.1 hi;have his:i<ops.size:=(Array.getElem?_eq_some_iff.1 ho).1;rcases(htp1 i his).resolve_left ze i1 hi1 with h2|h2
          · have h3:=xK hcl i (xW .any ops i) (xA hi) i1 (List.contains_iff_mem.1 h2)
            rw[hu1]at h3;cases h3
          ·simp at h2
      obtain⟨hun,o,ho,_⟩:=mem_ready.1 hi;have hil:i<listed.size:=ze
      have hunf:listed.getD i false=false:=by simp[hil]at hun ⊢;exact hun
      have hdeps:∀j,(ups .any ops i).contains j=true->L.getD j (λ_ _=>True) (v j) w:=λj hj=>by
        have hjl:=xK hcl i (xW .any ops i) (xA hi) j (List.contains_iff_mem.1 hj)
        have hjn:j<n:=by
          rcases zR j n with h|h
          ·exact h
          ·rw[hbig j h]at hjl;cases hjl
        exact hΦ j hjn hjl
      have hthis:=hop i o hin ho;refine wpOp_step ho λK hK=>?_
      have hdst:o.dst=xG ops i:=by simp[xG,ho]
      have hrun:=hthis.2.out listed v w hsz hS hE hunf (xA hi) hdeps (Fr.of ds a0 v) K;rw[<-xT v a0 n ds hds]at hrun;rw[if_pos (by simp[Region.wanted,hthis.1])];refine hrun ?_;intro x w' e1 hj hx;refine hK _ _ ?_;rw[hdst,layN_put a0 v i x n hin (λj k hj hk hjk=>jN hap hj hk hjk)];refine ih _ _ _ (by simp[hsz]) (λj hj=>?_) ?_ (λj hj e he=>?_) (hRt hE e1) (λj hj hlj=>?_) hj
      ·rw[getD_set_ne false (by omega)];exact hbig j hj
      ·rw[doneN_set _ _ hun,if_pos hin];omega
      · by_cases hij:i=j
        · subst hij
          exact getD_set_true (xA hi e he)
        · rw[getD_set_ne false hij]at hj
          exact getD_set_true (hcl j hj e he)
      · by_cases hij:j=i
        ·subst hij;simpa only[jD,if_true]using hx
        · rw[getD_set_ne false (Ne.symm hij)]at hlj
          simp only[jD];rw[if_neg hij];exact hst.get j _ _ _ e1 (hΦ j hj hlj)
    · have hall':∀i,i<n->listed.getD i false=true:=λi hi=>by
        cases h:listed.getD i false
        ·exact absurd ⟨i,hi,by rw[h];rfl⟩ hall
        ·rfl
      have hl:listed=qU ops.size n:=by
        apply Array.ext (by simp[qU,hsz]);intro i h1 h2;have h3:listed[i]=listed.getD i false:=by simp[h1]
        rw[h3];rcases zR i n with h|h
        ·rw[hall' i h];simp[qU,h]
        ·rw[hbig i h];simp[qU];omega
      have:=hend v w hE (λi hi=>hΦ i hi (hall' i hi)) (hl▸hS);rw[xT v a0 n ds hds,hl];have hdn:=doneN_all n hall'
      rwa [show ops.size-n=fuel+1 by omega]at this
theorem wp_region_rgj(Jv:Array Bool->(Nat->Value)->World->Prop)(R:World->World->Prop)(n:Nat)(ds:List (Option Tmp))(L:List (Value->World->Prop)){id:Nat}
    (hm:P.follows .mixedOrders=true) (hn:decide (n<=ops.size)=true) (hds:(List.range n).map (xG ops)=ds) (hap:xJ ops n=true) (htp:jG .any ops n []=true)
    (hRt:∀ {a b c},R a b->R b c->R a c) (hRe:∀ {a b},Ext a b->R a b)
    (hst:AllStbR R L)
    (hop:∀i o,i<n->ops[i]? =some o->o.guard=none/\RgSj P ops Q R ds a0 w0 L Jv i o) (hJ0:∀v,Jv (Array.replicate ops.size false) v w0.drew)
    (hend:∀v w,R w0 w->(∀i,i<n->L.getD i (λ_ _=>True) (v i) w)->Jv (qU ops.size n) v w->wpAny P .any ops Q (ops.size-n) (qU ops.size n) (xZ v a0 0 ds) w):
    (Code.region id ops true).wp P Q a0 w0:=by
  refine wp_region_any hm ?_;have hE:R w0 w0.drew:=hRe (Ext.refl w0).drew
  have hD:∀m,jC (Array.replicate ops.size false) m=0:=λm=>by
    unfold jC;rw[List.countP_eq_zero.2];intro i _;simp[xF]
  have:=rgj_main Jv (P:=P) (Q:=Q) (R:=R) (a0:=a0) (w0:=w0) (L:=L) n (of_decide_eq_true hn) hds hap htp hRt hst hop hend
    ops.size (Array.replicate ops.size false) (slotVal ops a0) w0.drew zo (λj _=>by simp[xF]) (by rw[hD];rfl)
    (λi hi=>by simp[xF]at hi) hE (λi hi h=>by simp[xF]at h) (hJ0 _)
  have hlay:jV ops (slotVal ops a0) a0 n=a0:=layN_self a0 n
  rwa [hlay]at this
theorem RgSj.ok{Jv:Array Bool->(Nat->Value)->World->Prop}(hRe:∀ {a b},Ext a b->R a b)(hJ:∀listed v w w' x,Jv listed v w->Ext w w'->listed.getD i false=false->L.getD i (λ_ _=>True) x w'->Jv (listed.setIfInBounds i true) (jD v i x) w')(h:∀w,R w0 w->Ok P ops Q ds a0 w L [] i o):RgSj P ops Q R ds a0 w0 L Jv i o:=
  ⟨λlisted v w _ hj hR hu _ hd hf K hK=>(h w hR).out v _ w (Ext.refl w) hd hf K (by intro x w' e hL _;exact hK.out x w' (hRe e) (hJ listed v w w' x hj e hu hL) hL)⟩
end
open Go Go.RowKit Go.Maps
def RwS(base:Nat)(b:Sc)(v:Value)(w:World):Prop:=Rwg 9 1 base w v b.length (b.map qB)/\NwB w v
theorem RwS.ext{base:Nat}{b:Sc}{v:Value}{w w':World}(h:RwS base b v w)(e:Ext w w'):RwS base b v w':=
  ⟨h.1.ext e,h.2.kept λg hg=>e.block g ((World.ownsRow.lt h.1) g hg).2⟩
theorem RwS.zero(w:World){base:Nat}(hb:base<=w.heap.size):RwS base [] (.slice (some ⟨w.heap.size,0,none⟩) 0 0) (w.alloc (.cells #[] 9)):=by
  refine⟨RwgS.zero w hb,λg cs e fz h1 h2=>?_⟩;obtain rfl:w.heap.size=g:=by injection h1
  rw[World.alloc_heap_new]at h2;injection h2 with h2;injection h2 with h2;subst h2;intro u hu;simp at hu
def IsSg(b:Sc)(v:Value)(w:World):Prop:=∃g c,v=.slice (some ⟨g,0,none⟩) b.length c/\∀j s,b[j]? =some s->World.cell? w ⟨g,j,none⟩=some (qB s)
theorem IsSg.ext{b:Sc}{v:Value}{w w':World}(h:IsSg b v w)(e:Ext w w'):IsSg b v w':=let ⟨g,c,h1,h2⟩:=h;⟨g,c,h1,λj s hj=>e.cell (h2 j s hj)⟩
theorem IsSg.stb(b:Sc):Stb (IsSg b):=λ_ _ _ e h=>h.ext e
instance (b:Sc):StbC (IsSg b):=⟨IsSg.stb b⟩
theorem IsSg.sr{b:Sc}{v:Value}{w:World}(h:IsSg b v w)(hb:b.length<=1000000000):IsSr b v w:=
  let ⟨g,c,h1,h2⟩:=h;⟨_,c,h1,by omega,λ_=>⟨g,0,rfl,λj s hj=>by rw[Nat.zero_add];exact h2 j s hj⟩⟩
theorem IsSg.src{b:Sc}{v:Value}{w:World}(h:IsSg b v w):SrcR b.length (b.map qB) v w:=by
  obtain⟨g,c,h1,h2⟩:=h;refine .inr ⟨g,0,c,h1,λj u hj=>?_⟩;rw[Nat.zero_add];simp only[List.getElem?_map,Option.map_eq_some_iff]at hj;obtain⟨s,hs,rfl⟩:=hj;exact h2 j s hs
theorem RwS.sg{base:Nat}{b:Sc}{v:Value}{w:World}(h:RwS base b v w)(hb:b≠ []):IsSg b v w:=by
  obtain⟨ao,cp,h1,h2,h3,h4,h5⟩:=h.1.shape;obtain⟨g,rfl,k1,k2,k3⟩:=h5 (by simpa using hb);exact⟨g,cp,h1,λj x hj=>k3 j _ (by simp[hj])⟩
theorem sc_one{b:Sc}:∀u∈b.map qB,u.oneCell'=true/\NoWord u:=λu hu=>by
  obtain⟨s,-,rfl⟩:=List.mem_map.1 hu;exact⟨rfl,NoWord.string _⟩
structure Jg (X:World) (b:Sc) (nm:List UInt8) (l:Array Bool) (v:Nat->Value) (w:World):Prop where
  j4:l.getD 4 false=true->l.getD 6 false=false->∃g,v 4=.slice (some ⟨g,0,none⟩) 0 0/\RwS X.heap.size [] (v 4) w/\(l.getD 9 false=true->v 9≠ .slice (some ⟨g,0,none⟩) 1 1)
  j9:l.getD 9 false=true->∃g,v 9=.slice (some ⟨g,0,none⟩) 1 1/\g<w.heap.size/\(l.getD 10 false=false->World.cell? w ⟨g,0,none⟩=some (qB nm))
  j6:l.getD 6 false=true->l.getD 10 false=false->RwS X.heap.size b (v 6) w
  j10:l.getD 10 false=true->l.getD 6 false=true/\RwS X.heap.size (b++ [nm]) (v 10) w
theorem Jg.start(X:World)(b:Sc)(nm:List UInt8)(n:Nat)(v:Nat->Value)(w:World):Jg X b nm (Array.replicate n false) v w:=by
  have h:∀k,(Array.replicate n false).getD k false=false:=λk=>by
    rw[Array.getD_eq_getD_getElem?,Array.getElem?_replicate];split <;> rfl
  constructor
  ·intro q;rw[h]at q;cases q
  ·intro q;rw[h]at q;cases q
  ·intro q;rw[h]at q;cases q
  ·intro q;rw[h]at q;cases q
theorem set_sm{l:Array Bool}{i:Nat}(h:i<l.size):(l.setIfInBounds i true).getD i false=true:=by
  simp[Array.getD_eq_getD_getElem?,h]
theorem qS{v:Nat->Value}{i k:Nat}(x:Value)(h:k≠i):jD v i x k=v k:=if_neg h
theorem jX{v:Nat->Value}{i:Nat}(x:Value):jD v i x i=x:=if_pos rfl
theorem Jg.plain{X:World}{b:Sc}{nm:List UInt8}{l:Array Bool}{v:Nat->Value}{w w':World}{i:Nat}(x:Value)(h:Jg X b nm l v w)(e:Ext w w')(h4:i≠4)(h6:i≠6)(h9:i≠9)(h10:i≠10):Jg X b nm (l.setIfInBounds i true) (jD v i x) w':=by
  constructor
  · rw[qE h4,qE h6,qE h9,qS x h4.symm,qS x h9.symm]
    exact λq1 q2=>let ⟨g,r1,r2,r3⟩:=h.j4 q1 q2;⟨g,r1,r2.ext e,r3⟩
  · rw[qE h9,qE h10,qS x h9.symm]
    exact λq1=>let ⟨g,r1,r2,r3⟩:=h.j9 q1;⟨g,r1,Nat.lt_of_lt_of_le r2 e.size,λq=>e.cell (r3 q)⟩
  · rw[qE h6,qE h10,qS x h6.symm]
    exact λq1 q2=>(h.j6 q1 q2).ext e
  · rw[qE h6,qE h10,qS x h10.symm]
    exact λq1=>⟨(h.j10 q1).1,(h.j10 q1).2.ext e⟩
theorem Jg.s4{X:World}{b:Sc}{nm:List UInt8}{l:Array Bool}{v:Nat->Value}{w:World}(h:Jg X b nm l v w)(hX:X.heap.size<=w.heap.size):Jg X b nm (l.setIfInBounds 4 true) (jD v 4 (.slice (some ⟨w.heap.size,0,none⟩) 0 0)) (w.alloc (.cells #[] 9)):=by
  have e:Ext w (w.alloc (.cells #[] 9)):=(Ext.refl w).alloc _;constructor
  · rw[qE (show(4:Nat)≠6 by decide),qE (show(4:Nat)≠9 by decide),jX,qS _ (show(9:Nat)≠4 by decide)]
    refine λ_ _=>⟨_,rfl,RwS.zero w hX,λq=>?_⟩
    obtain⟨g,r1,r2,-⟩:=h.j9 q;rw[r1];intro q2;injection q2 with q2;injection q2 with q2;injection q2 with q2;omega
  · rw[qE (show(4:Nat)≠9 by decide),qE (show(4:Nat)≠10 by decide),qS _ (show(9:Nat)≠4 by decide)]
    exact λq1=>let ⟨g,r1,r2,r3⟩:=h.j9 q1;⟨g,r1,Nat.lt_of_lt_of_le r2 e.size,λq=>e.cell (r3 q)⟩
  · rw[qE (show(4:Nat)≠6 by decide),qE (show(4:Nat)≠10 by decide),qS _ (show(6:Nat)≠4 by decide)]
    exact λq1 q2=>(h.j6 q1 q2).ext e
  · rw[qE (show(4:Nat)≠6 by decide),qE (show(4:Nat)≠10 by decide),qS _ (show(10:Nat)≠4 by decide)]
    exact λq1=>⟨(h.j10 q1).1,(h.j10 q1).2.ext e⟩
theorem Jg.s9{X:World}{b:Sc}{nm:List UInt8}{l:Array Bool}{v:Nat->Value}{w:World}(h:Jg X b nm l v w):Jg X b nm (l.setIfInBounds 9 true) (jD v 9 (.slice (some ⟨w.heap.size,0,none⟩) 1 1)) (w.alloc (.cells #[qB nm] 9)):=by
  have e:Ext w (w.alloc (.cells #[qB nm] 9)):=(Ext.refl w).alloc _;constructor
  · rw[qE (show(9:Nat)≠6 by decide),qE (show(9:Nat)≠4 by decide),jX,qS _ (show(4:Nat)≠9 by decide)]
    refine λq1 q2=>?_
    obtain⟨g,r1,r2,-⟩:=h.j4 q1 q2;refine⟨g,r1,r2.ext e,λ_ q3=>?_⟩;have hlt:=((World.ownsRow.lt r2.1) g (by rw[r1];rfl)).2;injection q3 with q3;injection q3 with q3;injection q3 with q3;omega
  · rw[qE (show(9:Nat)≠10 by decide),jX]
    exact λ_=>⟨_,rfl,by simp,λ_=>by have:=(Bk.new w #[qB nm] 9).c 0 (qB nm) rfl;exact this⟩
  · rw[qE (show(9:Nat)≠6 by decide),qE (show(9:Nat)≠10 by decide),qS _ (show(6:Nat)≠9 by decide)]
    exact λq1 q2=>(h.j6 q1 q2).ext e
  · rw[qE (show(9:Nat)≠6 by decide),qE (show(9:Nat)≠10 by decide),qS _ (show(10:Nat)≠9 by decide)]
    exact λq1=>⟨(h.j10 q1).1,(h.j10 q1).2.ext e⟩
theorem Jg.s6{X:World}{b:Sc}{nm:List UInt8}{l:Array Bool}{v:Nat->Value}{w w':World}{x:Value}(h:Jg X b nm l v w)(h4:l.getD 4 false=true)(h6:l.getD 6 false=false)(hs:6<l.size)(hx:RwS X.heap.size b x w')(hg:w.grownBy w' (v 4).ownBlock):Jg X b nm (l.setIfInBounds 6 true) (jD v 6 x) w':=by
  have t6:(l.setIfInBounds 6 true).getD 6 false=true:=set_sm hs
  have h10:l.getD 10 false=false:=by
    cases q:l.getD 10 false
    ·rfl
    ·have:=(h.j10 q).1;rw[h6]at this;cases this
  constructor
  ·rw[t6];intro _ q;cases q
  · rw[qE (show(6:Nat)≠9 by decide),qE (show(6:Nat)≠10 by decide),qS _ (show(9:Nat)≠6 by decide)]
    intro q1;obtain⟨g,r1,r2,r3⟩:=h.j9 q1;obtain⟨g4,k1,-,k3⟩:=h.j4 h4 h6;refine⟨g,r1,Nat.lt_of_lt_of_le r2 hg.size,λq=>?_⟩;have hne:g≠g4:=λe=>k3 q1 (by rw[r1,e])
    exact(World.cell?_of_block (w:=w) (hg.block g r2 (λe=>hne (by rw[k1]at e;exact Option.some.inj e)))).trans (r3 q)
  ·rw[jX];exact λ_ _=>hx
  ·rw[qE (show(6:Nat)≠10 by decide),h10];intro q;cases q
theorem Jg.s10{X:World}{b:Sc}{nm:List UInt8}{l:Array Bool}{v:Nat->Value}{w w':World}{x:Value}(h:Jg X b nm l v w)(h6:l.getD 6 false=true)(hs:10<l.size)(hsz:w.heap.size<=w'.heap.size)(hx:RwS X.heap.size (b++ [nm]) x w'):Jg X b nm (l.setIfInBounds 10 true) (jD v 10 x) w':=by
  have t10:(l.setIfInBounds 10 true).getD 10 false=true:=set_sm hs;constructor
  ·rw[qE (show(10:Nat)≠6 by decide),h6];intro _ q;cases q
  · rw[qE (show(10:Nat)≠9 by decide),t10,qS _ (show(9:Nat)≠10 by decide)]
    intro q1;obtain⟨g,r1,r2,-⟩:=h.j9 q1;exact⟨g,r1,Nat.lt_of_lt_of_le r2 hsz,λq=>by cases q⟩
  ·rw[t10];intro _ q;cases q
  ·rw[qE (show(10:Nat)≠6 by decide),jX];exact λ_=>⟨h6,hx⟩
theorem wp_sx{w:World}{o:Oper}{a:Act}{Q:Exit->Act->World->Prop}{K:Act->World->Prop}(s x:Operand)
    (ho:o.op=.call {callee:=.builtin .append,args:= #[s,x],argTypes:= #[53,53]}) (base:Nat) (b b':Sc) (v xv:Value) (hs:a.eval s=v) (hx:a.eval x=xv) (hI:RwS base b v w) (hsrc:SrcR b'.length (b'.map qB) xv w) (hl:b.length+b'.length<=1000000) (hbase:base<=w.heap.size)
    (h:∀v' w',RwS base (b++b') v' w'->w.grownBy w' v.ownBlock->Gr w w'->Below base w w'->K (a.put o.dst v') w'):Oper.wp prog o a w K Q:=by
  refine wp_rwnS s x 53 ho base 9 (.string ⟨#[]⟩) 1 16 zc zc rfl dcx (λu hu=>by obtain rfl:u=.string ⟨#[]⟩:=(by simpa [Value.cells]using hu);exact NoWord.string _) v b.length (b.map qB) hs hI.1 hI.2 b'.length (b'.map qB) xv hx zo hsrc (λu hu=>(sc_one u hu).1) (λu hu=>(sc_one u hu).2) ze ze hbase ?_;intro v' w' r1 r2 r3 r4 r5 r6;exact h v' w' ⟨by rw[zQ,List.map_append];exact r1,r2⟩ r3 r4 r5
theorem RowOf.set{e:TypeId}{ok:Value->Prop}{w:World}{base:Nat}{xs:List Value}{g n cap:Nat}(h:RowOf e ok w base (.slice (some ⟨g,0,none⟩) n cap) xs)(j:Nat)(u:Value)(hu:ok u):
    RowOf e ok (w.setCell ⟨g,j,none⟩ u) base (.slice (some ⟨g,0,none⟩) n cap) (xs.set j u)/\Below base w (w.setCell ⟨g,j,none⟩ u):=by
  rcases h with⟨h,rfl⟩| ⟨g',cap',cur,h1,h2,h3,h4,h5,h6,h7,h8⟩
  ·cases h
  · simp only[Value.slice.injEq,Option.some.injEq,Addr.mk.injEq,and_true]at h1
    obtain⟨rfl,rfl,rfl⟩:=h1;refine⟨.inr ⟨g,cap,cur.setIfInBounds j u,by simp,h2,?_,by simpa using h4,h5,by simpa using h6,?_,?_⟩,(Below.refl base w).setCell h2 u⟩
    · simp only[World.setCell,Array.getElem?_modify,if_true]
      rw[h3];simp
    ·rw[Array.toList_setIfInBounds,List.length_set,List.take_set,h7]
    · intro i v hv
      rw[Array.getElem?_setIfInBounds]at hv
      split at hv
      · split at hv
        ·simp at hv;rw[<-hv];exact hu
        ·simp at hv
      ·exact h8 i v hv
def isU32(x:Value):Prop:=∃n:Nat,x=.int .u32 (n:Int)
theorem RowOf.wd{w:World}{base n cap:Nat}{ao:Option Addr}{xs:List Nat}(h:RowOf 97 isU32 w base (.slice ao n cap) (qL xs))(hx:∀i,xs.getD i 0<4294967296):Wd w ao n cap xs:=by
  have h0:=h;rcases h with⟨h,hw⟩| ⟨g,cap',cur,h1,h2,h3,h4,h5,h6,h7,h8⟩
  · simp only[Value.slice.injEq]at h
    obtain⟨rfl,rfl,rfl⟩:=h;have:xs= []:=by simpa [qL]using hw
    rw[this];exact wd_nil _ _ _ ze
  · simp only[Value.slice.injEq]at h1
    obtain⟨rfl,rfl,rfl⟩:=h1;refine⟨(qK xs).symm,h4,h5,hx,.inr ⟨g,0,rfl,heap_lt h3,λj hj=>?_⟩⟩;rw[Nat.zero_add];exact h0.cell j _ (jA? xs j (by rw[qK]at hj;exact hj))
def Rw(w:World)(base:Nat)(v:Value)(xs:List Nat):Prop:=RowOf 97 isU32 w base v (qL xs)/\∀i,xs.getD i 0<4294967296
theorem Rw.ext{w w':World}{base:Nat}{v:Value}{xs:List Nat}(h:Rw w base v xs)(e:Ext w w'):Rw w' base v xs:=⟨h.1.ext e,h.2⟩
theorem Rw.shape{w:World}{base:Nat}{v:Value}{xs:List Nat}(h:Rw w base v xs):∃ao cap,v=.slice ao xs.length cap/\(xs≠ []->∃g,ao=some ⟨g,0,none⟩/\base<=g/\g<w.heap.size)/\xs.length<=cap/\cap<=9223372036854775807:=by
  obtain⟨ao,cap,h1,h2,h3,h4⟩:=h.1.shape;rw[qK]at h1 h3;exact⟨ao,cap,h1,λhx=>h2 (λh=>hx (List.map_eq_nil_iff.1 h)),h3,h4⟩
theorem Rw.start(w:World)(base:Nat)(h:base<=w.heap.size):Rw (w.alloc (.cells #[] 97)) base (.slice (some ⟨w.heap.size,0,none⟩) 0 0) []:=
  ⟨.inr ⟨w.heap.size,0,#[],rfl,h,heap_alloc_new _ _,by simp[qL],by omega,rfl,by simp[qL],by simp⟩,λi=>by simp⟩
theorem app_row(w:World)(base g:Nat)(ao:Option Addr)(n cap:Nat)(xs:List Nat)(h:Wd w ao n cap xs)(hn:n<=1099511627776)(hr:Rw w base (.slice (some ⟨g,0,none⟩) 0 0) [])(hbase:base<=w.heap.size)(ty:TypeId):
    ∃v w',(Builtin.append_ #[27,27] ty #[.slice (some ⟨g,0,none⟩) 0 0,.slice ao n cap]).run prog w=.ok v w'/\Ext w w'/\Rw w' base v xs:=by
  obtain⟨i,hi,hz0,hz1,hz2⟩:=info_parts Tryz.infoU32;have hu:prog.underlying 27=some (.slice 97):=zc
  have hlen:=h.len;rcases zK n with h0|h0
  · subst h0
    obtain rfl:xs= []:=List.eq_nil_of_length_eq_zero hlen
    have hsrc:Src prog i.size 27 (.slice ao 0 cap) 0 [] w:=by
      cases ao with
      |none=>exact Src.ofNil w hu cap
      |some a=>exact Src.ofSlice w hu a 0 cap [] zo zo (λ_ h=>by cases h)
    have:=run_append_room_src w 27 27 ty 97 i hu hi g 0 0 0 (.slice ao 0 cap) 0 [] hsrc ze (λj hj=>by simp at hj) (λj hj=>by simp at hj);exact⟨_,_,this,Ext.refl w,hr⟩
  · rcases h.at_ with h1| ⟨b,off,rfl,hb,hc⟩
    ·omega
    · have hnews:∀j u,(qL xs)[j]? =some u->w.cell? ((⟨b,off,none⟩:Addr).add j)=some u:=λj u hj=>by
        have hjn:j<n:=by
          rcases zR j n with h|h
          ·exact h
          ·rw[List.getElem?_eq_none (by rw[qK];omega)]at hj;cases hj
        rw[jA? _ _ (by omega)]at hj;rw[Addr.add_lit,hc j hjn];exact hj
      have hsrc:Src prog i.size 27 (.slice (some ⟨b,off,none⟩) n cap) n (qL xs) w:=
        Src.ofSlice w hu _ n cap (qL xs) (by rw[qK,hlen,hz1,Nat.mul_one]) hnews (λv hv=>by
          simp only[qL,List.mem_map]at hv;obtain⟨y,_,rfl⟩:=hv
          rfl)
      have hge:=grownCap_ge w n 0 97;have hle:=grownCap_le_maxLen w n 0 97 (by unfold maxLen;omega)
      have hrun:=run_append_grow_src w 27 27 ty 97 i (.int .u32 0) hu hi hz0 (some ⟨g,0,none⟩) 0 0 [] (run_firstCells_some w.drew i.size 0 ⟨g,0,none⟩ 0 0 [] zo zo) (.slice (some ⟨b,off,none⟩) n cap) n (qL xs) hsrc
        ze ze (by rw[Nat.zero_add];exact growslice_fits ze (by rw[hz2];omega))
      rw[Nat.zero_add]at hrun;refine⟨_,_,hrun,(Ext.refl w).drew.alloc _,⟨.inr ⟨w.heap.size,_,_,by rw[qK,hlen],hbase,heap_alloc_new w.drew _,?_,?_,?_,?_,?_⟩,h.lt⟩⟩
      ·rw[qK,hlen];exact hge
      ·unfold maxLen at hle;omega
      · simp only[List.nil_append,Array.size_append,List.size_toArray,qK,hlen,size_zeroCells]
        first| (simp[Value.cells];done)| (simp[Value.cells];omega)
      ·rw[Array.toList_append];exact List.take_left
      · intro j y hj
        have hmem:=List.mem_of_getElem? (by rw[Array.getElem?_toList];exact hj);rw[Array.toList_append]at hmem;rcases List.mem_append.1 hmem with h|h
        · have h9:y∈qL xs:=by simpa using h
          simp only[qL,List.mem_map]at h9;obtain⟨z,_,rfl⟩:=h9;exact⟨z,rfl⟩
        · have hz:(Value.int .u32 0).cells= #[.int .u32 0]:=rfl
          rw[hz,jL]at h;rw[(List.mem_replicate.1 h).2];exact⟨0,rfl⟩
theorem wpl_app{w:World}{ops:Array Oper}{rest:List Oper}{o:Oper}{a:Act}{Q:Exit->Act->World->Prop}(hgd:o.guard=none)(s x:Operand)
    (ho:o.op=Op.call {callee:=Callee.builtin Builtin.append,args:= #[s,x],argTypes:= #[27,27]})
    (base g:Nat) (ao:Option Addr) (n cap:Nat) (xs:List Nat) (hs:a.eval s=.slice (some ⟨g,0,none⟩) 0 0) (hx:a.eval x=.slice ao n cap) (h:Wd w ao n cap xs) (hn:n<=1099511627776) (hr:Rw w base (.slice (some ⟨g,0,none⟩) 0 0) []) (hbase:base<=w.heap.size)
    (hK:∀v w',Ext w w'->Rw w' base v xs->wpList prog ops Q rest (a.put o.dst v) w'):wpList prog ops Q (o ::rest) a w:=by
  obtain⟨v,w',hrun,e,hv⟩:=app_row w base g ao n cap xs h hn hr hbase o.type;refine wpList_plain hgd λK hK'=>?_
  unfold Oper.wp;simp[execOp,ho,resolve,invoke,builtin,hs,hx,hrun,Result.andThen];exact hK' _ _ (hK v w' e hv)
def Upd(g:Nat)(w w':World):Prop:=Below g w w'/\∀b,b≠g->b<w.heap.size->w'.heap[b]? =w.heap[b]?
theorem Upd.refl(g:Nat)(w:World):Upd g w w:=⟨Below.refl _ _,λ_ _ _=>rfl⟩
theorem Upd.trans{g:Nat}{a b c:World}(h:Upd g a b)(k:Upd g b c):Upd g a c:=
  ⟨Below.trans h.1 k.1,λx hx hl=>(k.2 x hx (Nat.lt_of_lt_of_le hl (Below.size h.1))).trans (h.2 x hx hl)⟩
theorem Upd.set(g j:Nat)(w:World)(v:Value):Upd g w (w.setCell ⟨g,j,none⟩ v):=
  ⟨(Below.refl g w).setCell (zN _) v,λ_ hb _=>Below.heap_setCell _ _ _ _ hb⟩
theorem Upd.ext{g:Nat}{w0 w w':World}(u:Upd g w w')(e:Ext w0 w)(hg:w0.heap.size<=g):Ext w0 w':=Below.ext e u.1 hg
theorem Bx.upd{g b n c:Nat}{s:Bool}{a:Option Addr}{w w':World}(h:Bx w b s a n c)(u:Upd g w w')(hb:b≠g):Bx w' b s a n c:=by
  have h5:=u.2 b hb h.lt;obtain⟨h1,h2,h3,h4⟩:=h;simp only[World.cell?,World.frozen?]at*;exact⟨by simp only[World.cell?];rw[h5];exact h1,by simp only[World.cell?];rw[h5];exact h2,by simp only[World.frozen?];rw[h5];exact h3,by simp only[World.frozen?];rw[h5];exact h4⟩
theorem Rw.put{w:World}{base g n cap:Nat}{xs:List Nat}(h:Rw w base (.slice (some ⟨g,0,none⟩) n cap) xs)(j y:Nat)(hj:j<xs.length)(hy:y<4294967296):Rw (w.setCell ⟨g,j,none⟩ (.int .u32 (y:Int))) base (.slice (some ⟨g,0,none⟩) n cap) (xs.set j y):=by
  refine⟨?_,λi=>?_⟩
  · have:=(h.1.set j (.int .u32 (y:Int)) ⟨y,rfl⟩).1
    rwa [show(qL xs).set j (Value.int .u32 (y:Int))=qL (xs.set j y)by simp[qL,List.map_set]]at this
  · rw[jH _ _ _ _ hj];split
    ·exact hy
    ·exact h.2 i
theorem Rw.cell{w:World}{base g n cap:Nat}{xs:List Nat}(h:Rw w base (.slice (some ⟨g,0,none⟩) n cap) xs)(j:Nat)(hj:j<xs.length):w.cell? ⟨g,j,none⟩=some (.int .u32 ((xs.getD j 0:Nat):Int)):=h.1.cell j _ (jA? xs j hj)
theorem Rw.free{w:World}{base g n cap:Nat}{xs:List Nat}(h:Rw w base (.slice (some ⟨g,0,none⟩) n cap) xs)(j:Nat):w.frozen? ⟨g,j,none⟩=false:=h.1.free j
theorem word_c(w:World)(ao:Option Addr)(n cap:Nat)(xs:List Nat)(h:Wd w ao n cap xs)(i:Nat)(hi:i<9223372036854775807):
    Calls prog 168 #[.slice ao n cap,.int .i64 (i:Int)] w (RSame w (.int .u64 ((xs.getD i 0:Nat):Int))):=by
  by_cases hl:i<n
  · rcases h.shape with h0| ⟨b,off,rfl,hb⟩
    ·omega
    · have hc:=h.cell i hl
      have hx:=h.lt i;generalize xs.getD i 0=x at*;clear h;go_enter func168,ntmps168;go_wp2_with fail
      go_ret
      exact⟨rfl,rfl⟩
  · have hx:xs.getD i 0=0:=getD_big _ _ (by rw[h.len];omega)
    rw[hx];clear hx h;go_enter func168,ntmps168;go_wp2_with fail
    go_ret
    exact⟨rfl,rfl⟩
theorem bitLen_half(x:Nat)(h:0<x):bitLen x=bitLen (x/2)+1:=by
  obtain⟨k,h1,h2,h3⟩:=bitLen_bounds x ze;rcases zK k with h0|h0
  · subst h0
    have:x=1:=ze
    subst this;decide
  · obtain⟨j,rfl⟩:∃j,k=j+1:=⟨k-1,by omega⟩
    rw[h1,bitLen_eq (x/2) j (by rw[Nat.pow_succ]at h2;omega) (by rw[Nat.pow_succ]at h3;omega)]
theorem RBits_c(w:World)(s1:Bool)(a1:Option Addr)(n1 c1 k1:Nat)(z1:Int)(h1:IntAt w k1 s1 a1 n1 c1 z1)(l1:k1<=268435456):Calls prog 67 #[.agg #[.bool s1,.slice a1 n1 c1]] w (RVal w (.int .i64 (bitLen z1.natAbs:Nat))):=by
  obtain⟨W,hW,K0⟩:∃W,W=w.alloc (.cells #[.bool s1,.slice a1 n1 c1] 29)/\Kq w W [(w.heap.size, [.bool s1,.slice a1 n1 c1])]:=⟨_,rfl,by simpa using(Kq.start w).alloc [.bool s1,.slice a1 n1 c1] 29⟩;have b2:=K0.bx w.heap.size s1 a1 n1 c1 zo;have E:=hid K0.ext;have F1:=b2.c0;have F2:=b2.c1;have F3:=b2.f0;have F4:=b2.f1;obtain⟨m,⟨xs,hw,hk,htop,hv⟩,hs,hz⟩:=h1;have hz':bitLen z1.natAbs=bitLen m:=by rw[hz];cases s1 <;> simp
  rw[hz'];have hlen:=hw.len;rcases zK n1 with h0|h0
  · subst h0
    have hm:bitLen m=0:=by
      rw[<-hv,List.eq_nil_of_length_eq_zero hlen];rfl
    rw[hm];clear hw hk htop hv hs hz hz' hlen b2 K0;go_enter func67,ntmps67;go_wp2_with fail;rw[<-hW];clear hW;go_wp2_with fail
    go_ret
    exact⟨rfl,E.out⟩
  · obtain⟨j,rfl⟩:∃j,n1=j+1:=⟨n1-1,by omega⟩
    have hbv:=bitLen_natVal xs j hlen hw.lt (by simpa using htop ze);rw[hv]at hbv;rcases hw.shape with h9| ⟨b,off,rfl,hb⟩
    ·omega
    have hw':=hw.ext K0.ext;have hcell:=hw'.cell j ze;have hcellw:=hw.cell j ze;have hjl:j<268435456:=ze
    have hxl:=hw.lt j;have hcapo:=hw.capo;have hbig:=hw.big;obtain⟨x,hx⟩:∃x,x=xs.getD j 0:=⟨_,rfl⟩;rw[<-hx]at hbv hcell hxl hcellw;have Hbv:=hid hbv;obtain⟨T,hT⟩:∃T,T=bitLen m:=⟨_,rfl⟩;rw[<-hT]at Hbv ⊢
    have hTl:T<=34359738368:=by
      have:=(lib_bitLen x hxl).2;have h2:=Hbv.out;omega
    have hnz:((((j+1:Nat):Int))==0)=false:=yi
    have hje:(((j+1:Nat):Int)-1)=(j:Int):=ze
    clear hw hk htop hv hs hz hz' hlen b2 K0 hw' hbv hT h0 hx;go_enter func67,ntmps67;go_wp2_with fail;rw[<-hW];clear hW;go_wp2_with fail;have I0:=hid (show 32*j+bitLen x=T from Hbv.out.symm);clear Hbv F1 F2 F3 F4 hcell hcellw
    go_loopg [3,4] x (λgk v3 v4 wr=>∃n:Nat,v3=.int .i64 (n:Int)/\v4=.int .u32 (gk:Int)/\gk<4294967296/\Hid (n+bitLen gk=T)/\wr=W)
    case atStart=>exact⟨32*j,by go_must (first|rfl| (congr 1;omega)),rfl,hxl,I0,rfl⟩
    case round=>
      clear I0;obtain⟨n,rfl,rfl,hgl,hn,rfl⟩:=hrel;by_cases hg:0<gk
      · have hb:=bitLen_half gk hg
        have hn2:=hid (show n+1+bitLen (gk/2)=T by have:=hn.out;omega);have hnl:n<=T:=by have:=hn.out;omega
        clear hb hn;go_wp2_with fail
        go_roundg (gk/2)
        case measure=>omega
        case rel=>exact⟨n+1,by go_num,by go_num,by omega,hn2,rfl⟩
      · obtain rfl:gk=0:=by omega
        have hn2:=hid (show n=T by have:=hn.out;simpa [bitLen]using this);clear hn;go_wp2_with fail
        go_ret
        exact⟨by rw[hn2.out];rfl,E.out⟩
theorem IntAt.top{w:World}{k n cap:Nat}{s:Bool}{ao:Option Addr}{z:Int}(h:IntAt w k s ao n cap z)(h0:0<n):∃b off x,ao=some ⟨b,off,none⟩/\w.cell? ⟨b,off+(n-1),none⟩=some (.int .u32 (x:Nat))/\x≠0/\n<=cap/\cap<=9223372036854775807:=by
  obtain⟨m,⟨xs,hw,_,hz,_⟩,_⟩:=h;rcases hw.at_ with h1| ⟨b,off,h1,_,h3⟩
  ·omega
  ·exact⟨b,off,_,h1,h3 (n-1) ze,hz h0,hw.capo,hw.big⟩
theorem tVld_1{P:Prop}(h:P:=by
  go_enter func66,ntmps66;go_upto_region 1 with fail;rw[<-hW];clear hW;have F1:=b1.c0;have F2:=b1.c1;have F3:=b1.f0;have F4:=b1.f1;go_wp2_with fail;exact zH (v:=.bool true) (by simp[results,results66,go_sem]) rfl ⟨_,rfl,E.out,rfl⟩
  ):P:=h
theorem RValid_c(w:World)(s1:Bool)(a1:Option Addr)(n1 c1 k1:Nat)(z1:Int)(h1:IntAt w k1 s1 a1 n1 c1 z1):Calls prog 66 #[.agg #[.bool s1,.slice a1 n1 c1]] w (Ret w (IsV (.bool true))):=by
  obtain⟨W,hW,K0⟩:∃W,W=w.alloc (.cells #[.bool s1,.slice a1 n1 c1] 29)/\Kq w W [(w.heap.size, [.bool s1,.slice a1 n1 c1])]:=⟨_,rfl,by simpa using(Kq.start w).alloc [.bool s1,.slice a1 n1 c1] 29⟩;have b1:=K0.bx w.heap.size s1 a1 n1 c1 zo;have E:=hid K0.ext;clear K0;rcases zK n1 with h0|h0
  · subst h0
    obtain rfl:s1=false:=by obtain⟨m,_,h,_⟩:=h1;exact h rfl
    clear h1;exact tVld_1
  · obtain⟨b,off,x,rfl,hc,hx,hcap,hbig⟩:=(h1.ext E.out).top h0
    have hn:((n1:Int)==0)=false:=yi
    have hn2:decide ((0:Int)<(n1:Int))=true:=jh
    have hx2:((x:Int)==0)=false:=yi
    have hx3:((x:Int) !=0)=true:=jh
    clear h1 hx;exact tVld_1
theorem RValid_f{k1:Nat}{z1:Int}{x:Value}{w:World}(hx:IsI k1 z1 x w):Calls prog 66 #[x] w (Ret w (IsV (.bool true))):=by
  obtain⟨s,a,n,c,rfl,h1⟩:=hx;exact RValid_c w s a n c k1 z1 h1
end Go.Proofs.YtenhciieboegbaaGreatDoor
