/- Lemmas. -/
import Derived.Test.YtkeikfekkdplgaaGreatDoorReadB
import Derived.Test.YtkeikfekkdplgaaGreatDoorSubN
import Derived.Test.YtkeikfekkdplgaaGreatDoorEv8
import Derived.Test.YtkeikfekkdplgaaGreatDoorTre
import Derived.Test.YtkeikfekkdplgaaGreatDoorVal
namespace Go.Proofs.YtkeikfekkdplgaaGreatDoor
section
open Go Go.RowKit
open Go.Proofs.Tryz
theorem jg{P:Prop}(h:P:=by first|decide| (have:=HL.out;omega)):P:=h
theorem zaf{P:Prop}(h:P:=by have:=HL.out;have:=E2.size;simp;omega):P:=h
set_option maxHeartbeats 4000000
section
variable {P:Program} {md:Region.Mode} {ops:Array Oper} {Q:Exit->Act->World->Prop}
theorem rgk_main(n:Nat)(ch:List Nat)(R:World->World->Prop)(fP:Nat->Value->World->Prop){a0:Act}{w0:World}
  (hn:n<=ops.size) (hap:qO ops n=true) (htp:xH md ops n []=true)
  (hlk:∀i j,i∈ch->j∈ch->i<j->(ups md ops j).contains i=true) (hnc:∀i,i<n->i∉ch->∀c∈ch,(ups md ops i).contains c=false) (h3:∀i j k,i∈ch->j∈ch->k∈ch->¬(i<j/\j<k))
  (hRt:∀ {a b c},R a b->R b c->R a c) (hER:∀ {a b},Ext a b->R a b)
  (hst:∀i,i<n->Stb (fP i)) (hstR:∀i,i<n->i∉ch->∀x w w',R w w'->fP i x w->fP i x w')
  (hop:∀i,i<n->∀o,ops[i]? =some o->∀(v:Nat->Value) (w:World),R w0 w->(i∈ch->(∀k∈ch,i<=k)->Ext w0 w)->(∀j,(ups md ops i).contains j=true->fP j (v j) w)->∀K:Act->World->Prop,
   (∀x w',(if i∈ch then R w w' else Ext w w')->fP i x w'->K ((qY ops v a0 n).put o.dst x) w')->if Region.wanted o (yielded ops (qY ops v a0 n).tmps)=true then Oper.wp P o (qY ops v a0 n) w K Q else K ((qY ops v a0 n).put o.dst undef) w)
  (hend:∀v w,R w0 w->(∀i,i<n->(i∉ch\/∀k∈ch,k<=i)->fP i (v i) w)->wpAny P md ops Q (ops.size-n) (qG ops.size n) (qY ops v a0 n) w):
  ∀ (fuel:Nat) (listed:Array Bool) (v:Nat->Value) (w:World),listed.size=ops.size->(∀j,n<=j->listed.getD j false=false)->fuel+xA listed n=ops.size->
   (∀i,listed.getD i false=true->∀e∈qT md ops i,listed.getD e false=true)->R w0 w->((∀k∈ch,listed.getD k false=false)->Ext w0 w)->
   (∀i,i<n->listed.getD i false=true->(i∉ch\/∀k∈ch,i<k->listed.getD k false=false)->fP i (v i) w)->wpAny P md ops Q fuel listed (qY ops v a0 n) w:=by
 simp only[xH,Bool.and_eq_true,List.all_eq_true,List.mem_range,Bool.or_eq_true,jQ]at htp;obtain⟨htp1,htp2⟩:=htp;intro fuel
 induction fuel with
 | zero=>
  intro listed v w hsz hbig hcnt hcl hR hX hZ
  have hle:xA listed n<=n:=by
   have:=List.countP_le_length (p:=λi=>listed.getD i false) (l:=List.range n)
   simpa [xA]using this
  have hall:∀i,i<n->listed.getD i false=true:=λi hi=>by
   cases h:listed.getD i false
   ·have:=doneN_lt hi h;omega
   ·rfl
  have hl:listed=qG ops.size n:=by
   apply Array.ext (by simp[qG,hsz]);intro i g1 g2;have h4:listed[i]=listed.getD i false:=by simp[g1]
   rw[h4];rcases jN i n with h|h
   ·rw[hall i h];simp[qG,h]
   ·rw[hbig i h];simp[qG];omega
  have h0:ops.size-n=0:=zb
  have:=hend v w hR (λi hi h=>hZ i hi (hall i hi) (h.imp id λh k hk hik=>absurd (h k hk) zb));rw[h0]at this;rw[hl];exact this
 | succ fuel ih=>
  intro listed v w hsz hbig hcnt hcl hR hX hZ;by_cases hall:∃i,i<n/\(!listed.getD i false)=true
  ·obtain⟨i1,hi1,h1⟩:=hall;have hu1:listed.getD i1 false=false:=by simpa using h1
   obtain⟨i0,hi0,h0,hmin⟩:=exists_least (λi=> !listed.getD i false) n ⟨i1,hi1,by rw[hu1];rfl⟩;have hi0s:i0<listed.size:=zb
   have hr0:i0∈Region.ready md ops listed:=xI (by simpa [hi0s]using h0) zb (λe he=>by
    have:=hmin e (by simpa using htp2 i0 hi0 e he)
    simpa using this)
   refine⟨λh=>(by rw[h]at hr0;cases hr0),λi hi=>?_⟩
   have hin:i<n:=by
    rcases jN i n with h|h
    ·exact h
    ·exfalso;obtain⟨_,o,ho,_⟩:=mem_ready.1 hi;have his:i<ops.size:=(Array.getElem?_eq_some_iff.1 ho).1;rcases(htp1 i his).resolve_left zb i1 hi1 with h2|h2
     ·have h3:=qN hcl i (qT md ops i) (qM hi) i1 (List.contains_iff_mem.1 h2);rw[hu1]at h3;cases h3
     ·simp at h2
   obtain⟨hun,o,ho,_⟩:=mem_ready.1 hi;have hil:i<listed.size:=zb
   have hunf:listed.getD i false=false:=by simp[hil]at hun ⊢;exact hun
   have hup:∀j,(ups md ops i).contains j=true->listed.getD j false=true:=λj hj=>qN hcl i (qT md ops i) (qM hi) j (List.contains_iff_mem.1 hj)
   have hupl:∀k j,listed.getD k false=true->(ups md ops k).contains j=true->listed.getD j false=true:=λk j hk hj=>qN hcl k (qT md ops k) (hcl k hk) j (List.contains_iff_mem.1 hj)
   have hlater:∀k,i∈ch->k∈ch->i<k->listed.getD k false=false:=λk hic hkc hik=>by
    cases hl:listed.getD k false
    ·rfl
    ·have:=hupl k i hl (hlk i k hic hkc hik);rw[hunf]at this;cases this
   refine wpOp_step ho λK hK=>?_
   refine hop i hin o ho v w hR (λhic hmin=>hX λk hk=>by
    rcases jN i k with h|h
    ·exact hlater k hic hk h
    ·have:=hmin k hk
     rw[show k=i by omega];exact hunf) (λj hj=>?_) K ?_
   ·have hjl:=hup j hj
    have hjn:j<n:=by
     rcases jN j n with h|h
     ·exact h
     ·rw[hbig j h]at hjl;cases hjl
    refine hZ j hjn hjl ?_;by_cases hjc:j∈ch
    ·right
     have hic:i∈ch:=by
      by_cases h:i∈ch
      ·exact h
      ·rw[hnc i hin h j hjc]at hj;cases hj
     intro k hk hjk;rcases Nat.lt_trichotomy k i with h|h|h
     ·exact absurd ⟨hjk,h⟩ (h3 j k i hjc hk hic)
     ·rw[h];exact hunf
     ·exact hlater k hic hk h
    ·exact .inl hjc
   ·intro x w' hRw hx;refine hK _ _ ?_;have hdst:o.dst=qR ops i:=by simp[qR,ho]
    have hRR:R w w':=by
     by_cases h:i∈ch
     ·rw[if_pos h]at hRw;exact hRw
     ·rw[if_neg h]at hRw;exact hER hRw
    rw[hdst,layN_put a0 v i x n hin (λj k hj hk hjk=>xN hap hj hk hjk)];refine ih _ _ _ (by simp[hsz]) (λj hj=>?_) ?_ (λj hj e he=>?_) (hRt hR hRR) (λhnone=>?_) (λj hj hlj hcj=>?_)
    ·rw[getD_set_ne false (by omega)];exact hbig j hj
    ·rw[doneN_set _ _ hun,if_pos hin];omega
    ·by_cases hij:i=j
     ·subst hij;exact getD_set_true (qM hi e he)
     ·rw[getD_set_ne false hij]at hj;exact getD_set_true (hcl j hj e he)
    ·have hic:i∉ch:=λhic=>by
      have:=hnone i hic;rw[show(listed.setIfInBounds i true).getD i false=true by simp[hil]]at this;cases this
     rw[if_neg hic]at hRw;refine Ext.trans (hX λk hk=>?_) hRw;have:=hnone k hk;rw[getD_set_ne false (λe=>hic (by rw[e];exact hk))]at this;exact this
    ·by_cases hij:j=i
     ·subst hij;simpa only[jB,if_true]using hx
     ·rw [getD_set_ne false (Ne.symm hij)]at hlj;simp only[jB];rw[if_neg hij];by_cases hjc:j∈ch
      ·have hcj:=hcj.resolve_left (λh=>h hjc)
       have hic:i∉ch:=λhic=>by
        rcases Nat.lt_trichotomy j i with h|h|h
        ·have:=hcj i hic h;rw[show(listed.setIfInBounds i true).getD i false=true by simp[hil]]at this;cases this
        ·exact hij h
        ·have:=hlater j hic hjc h;rw[hlj]at this;cases this
       rw[if_neg hic]at hRw;refine hst j hj _ _ _ hRw (hZ j hj hlj (.inr λk hk hjk=>?_));have:=hcj k hk hjk;rw[getD_set_ne false (λe=>hic (by rw[e];exact hk))]at this;exact this
      ·exact hstR j hj hjc _ _ _ hRR (hZ j hj hlj (.inl hjc))
  ·have hall':∀i,i<n->listed.getD i false=true:=λi hi=>by
    cases h:listed.getD i false
    ·exact absurd ⟨i,hi,by rw[h];rfl⟩ hall
    ·rfl
   have hl:listed=qG ops.size n:=by
    apply Array.ext (by simp[qG,hsz]);intro i g1 g2;have h4:listed[i]=listed.getD i false:=by simp[g1]
    rw[h4];rcases jN i n with h|h
    ·rw[hall' i h];simp[qG,h]
    ·rw[hbig i h];simp[qG];omega
   have hf:fuel+1=ops.size-n:=by
    have:=doneN_all (listed:=listed) n hall';omega
   have:=hend v w hR (λi hi h=>hZ i hi (hall' i hi) (h.imp id λh k hk hik=>absurd (h k hk) zb));rw[<-hf]at this;rw[hl];exact this
structure Rel (R:World->World->Prop):Prop where
 tr:∀ {a b c},R a b->R b c->R a c
 ext:∀ {a b},Ext a b->R a b
def RgkAll(P:Program)(ops:Array Oper)(Q:Exit->Act->World->Prop)(ds:List (Option Tmp))(a0:Act)(w0:World)(R:World->World->Prop)(L:List (Value->World->Prop))(ch:List Nat):Nat->Nat->List Oper->Prop
 |_,0,_=>True
 |_,_+1, []=>True
 | i,k+1,o ::os=>(∀w,R w0 w->if i∈ch then(o.guard=none/\(((∀k∈ch,i<=k)->Ext w0 w)->∀(v:Nat->Value) (a:Act),(∀j,(ups .any ops i).contains j=true->L.getD j (λ_ _=>True) (v j) w)->Fr ds a0 v a->∀K:Act->World->Prop,(∀x w',R w w'->L.getD i (λ_ _=>True) x w'->K (a.put o.dst x) w')->Oper.wp P o a w K Q))
   else RgL P .any ops Q ds a0 w L [] i o)/\RgkAll P ops Q ds a0 w0 R L ch (i+1) k os
theorem RgkAll.get{ds:List (Option Tmp)}{a0:Act}{w0:World}{R:World->World->Prop}{L:List (Value->World->Prop)}{ch:List Nat}:
  ∀ (k i:Nat) (os:List Oper),RgkAll P ops Q ds a0 w0 R L ch i k os->∀j,j<k->∀o,os[j]? =some o->∀w,R w0 w->if i+j∈ch then(o.guard=none/\(((∀k∈ch,i+j<=k)->Ext w0 w)->∀(v:Nat->Value) (a:Act),(∀q,(ups .any ops (i+j)).contains q=true->L.getD q (λ_ _=>True) (v q) w)->Fr ds a0 v a->∀K:Act->World->Prop,(∀x w',R w w'->L.getD (i+j) (λ_ _=>True) x w'->K (a.put o.dst x) w')->Oper.wp P o a w K Q))
   else RgL P .any ops Q ds a0 w L [] (i+j) o
 |0,_,_,_,j,h,_,_=>by omega
 |_+1,_, [],_,_,_,_,ho=>by simp at ho
 |k+1,i,o ::os,h,0,_,o',ho=>by simp at ho;subst ho;exact h.1
 | k+1,i,o ::os,h,j+1,hj,o',ho=>by
  have:=RgkAll.get k (i+1) os h.2 j zb o' jt
  rwa [show i+(j+1)=i+1+j by omega]
variable {ds:List (Option Tmp)} {a0:Act} {w0:World} {R:World->World->Prop} {L:List (Value->World->Prop)} {ch:List Nat} {i k:Nat} {o:Oper} {os:List Oper}
theorem RgkAll.nil:RgkAll P ops Q ds a0 w0 R L ch i 0 os:=by cases os <;> trivial
theorem Kk(h:∀w,R w0 w->Ok P ops Q ds a0 w L [] i o)(hs:RgkAll P ops Q ds a0 w0 R L ch (i+1) k os)(hg:o.guard=none:=by rfl)(hc:decide (i∈ch)=false:=by kernel_rfl):RgkAll P ops Q ds a0 w0 R L ch i (k+1) (o ::os):=
 ⟨λw hR=>by rw[if_neg (of_decide_eq_false hc)];exact RgL.mk hg (h w hR).out,hs⟩
theorem KC(h:∀w,R w0 w->((∀k∈ch,i<=k)->Ext w0 w)->∀(v:Nat->Value) (a:Act),(∀j,(ups .any ops i).contains j=true->L.getD j (λ_ _=>True) (v j) w)->Fr ds a0 v a->∀K:Act->World->Prop,(∀x w',R w w'->L.getD i (λ_ _=>True) x w'->K (a.put o.dst x) w')->Oper.wp P o a w K Q)
  (hs:RgkAll P ops Q ds a0 w0 R L ch (i+1) k os) (hg:o.guard=none:=by rfl) (hc:decide (i∈ch)=true:=by kernel_rfl):RgkAll P ops Q ds a0 w0 R L ch i (k+1) (o ::os):=
 ⟨λw hR=>by rw[if_pos (of_decide_eq_true hc)];exact⟨hg,h w hR⟩,hs⟩
def lkOk(md:Region.Mode)(ops:Array Oper)(n:Nat)(ch:List Nat):Bool:=
 (ch.all λi=>ch.all λj=> !decide (i<j)||(ups md ops j).contains i)&&((List.range n).all λi=>decide (i∈ch)||ch.all λc=> !(ups md ops i).contains c)&&(ch.all λi=>ch.all λj=>ch.all λk=> !(decide (i<j)&&decide (j<k)))
theorem rgk(n:Nat)(ch:List Nat)(R:World->World->Prop)(ds:List (Option Tmp))(L:List (Value->World->Prop))(fuel:Nat){id:Nat}(hR:Rel R)
  (hop:RgkAll P ops Q ds a0 w0 R L ch 0 n ops.toList) (hstR:∀i,i<n->i∉ch->∀x w w',R w w'->L.getD i (λ_ _=>True) x w->L.getD i (λ_ _=>True) x w')
  (hend:∀v w,R w0 w->(∀i,i<n->(i∉ch\/∀k∈ch,k<=i)->L.getD i (λ_ _=>True) (v i) w)->wpAny P .any ops Q fuel (qG ops.size n) (qZ v a0 0 ds) w)
  (hm:P.follows .mixedOrders=true:=by kernel_rfl) (hn:n<=ops.size:=by decide) (hf:ops.size-n=fuel:=by kernel_rfl) (hds:(List.range n).map (qR ops)=ds:=by kernel_rfl) (hap:qO ops n=true:=by kernel_rfl) (htp:xH .any ops n []=true:=by kernel_rfl) (hlk:lkOk .any ops n ch=true:=by kernel_rfl)
  (hst:AllStb L:=by exact AStb.out):(Code.region id ops true).wp P Q a0 w0:=by
 refine wp_region_any hm ?_;have hE:Ext w0 w0.drew:=(Ext.refl w0).drew;simp only[lkOk,Bool.and_eq_true,List.all_eq_true,List.mem_range,Bool.or_eq_true,Bool.not_eq_true',decide_eq_false_iff_not,jQ,Bool.and_eq_false_iff]at hlk;obtain⟨⟨k1,k2⟩,k3⟩:=hlk
 have hD:∀m,xA (Array.replicate ops.size false) m=0:=λm=>by
  unfold xA;rw[List.countP_eq_zero.2];intro i _;simp[qH]
 have:=rgk_main (P:=P) (md:=.any) (Q:=Q) (a0:=a0) (w0:=w0) n ch R (λi=>L.getD i (λ_ _=>True)) hn hap htp (λi j hi hj hij=>(k1 i hi j hj).resolve_left zb) (λi hi hc c hcc=>by
   have:=(k2 i hi).resolve_left hc c hcc
   simpa using this) (λi j k hi hj hk h=>by
   rcases k3 i hi j hj k hk with h'|h'
   ·exact h' h.1
   ·exact h' h.2) hR.tr hR.ext (λi _=>hst.get i) hstR
  (fun i hi o ho v w hRw hXw hd K hK=>by
   have h:=RgkAll.get n 0 ops.toList hop i hi o jt w hRw;rw[Nat.zero_add]at h;rw[xB v a0 n ds hds]at hK ⊢;by_cases hc:i∈ch
   ·rw[if_pos hc]at h;rw[if_pos (by simp[Region.wanted,h.1])];refine h.2 (hXw hc) v _ hd (Fr.of ds a0 v) K (λx w' hx hL=>hK x w' (by rw[if_pos hc];exact hx) hL)
   ·rw[if_neg hc]at h
    exact h v w (Ext.refl _) hd K (λx w' hx hL _=>hK x w' (by rw[if_neg hc];exact hx) hL))
  (λv w hRw hZ=>by rw[xB v a0 n ds hds,hf];exact hend v w hRw hZ)
  ops.size (Array.replicate ops.size false) (xS ops a0) w0.drew zd (λj _=>by simp[qH]) (by rw[hD];rfl) (λi hi=>by simp[qH]at hi) (hR.ext hE) (λ_=>hE) (λi _ hi=>by simp[qH]at hi)
 have hlay:qY ops (xS ops a0) a0 n=a0:=layN_self a0 n
 rwa [hlay]at this
end
open Go Go.RowKit Go.Maps Go.Shelf
attribute [local go_sem] Oper.semAt_some
theorem st_InV:StV prog 28 2:=stM za
set_option maxRecDepth 100000
theorem xW(w:World)(k:Int)(h0: -9223372036854775808<=k)(h1:k<=9223372036854775807):Calls prog 121 #[.int .i64 k] w (Ret w (IsI 2 k)):=by
 obtain⟨W,hW,E,B⟩:∃W,W=w.alloc (.cells #[.bool false,.slice none 0 0] 28)/\Ext w W/\Bk W w.heap.size [.bool false,.slice none 0 0]:=zh;go_enter func121,ntmps121;go_upto_region 1 with fail;rw[<-hW];clear hW;refine rgs 2 [some 3,some 4] [iV k,IsI 2 k] [] ?_ ?_
 ·refine Rc zt ?_;refine Rc (cl1 (en func26) (qA (fP:=iV k) 0 3) (λx0 w' hE d0=>by{obtain rfl:x0=.int .i64 k:=d0;exact ROf_f w' k h0 h1})) ?_;exact rn0
 intro v W1 e1 hZ _;obtain⟨s,a,n,c,hv,g⟩:=hZ 1 dcx;simp only[lxE,Nat.reduceAdd];rw[hv];replace E:=E.trans e1;replace B:=B.ext e1;clear hZ hv e1;refine stL (λK hK'=>?_);refine qX (us:= [.bool s,.slice a n c]) B st_InV rfl rfl nwZInt (λX9 B9 O=>hK' _ _ ?_);replace g:IsI 2 k (.agg #[.bool s,.slice a n c]) X9:=IsI.gstb _ _ _ _ _ O.gr ⟨_,_,_,_,rfl,g⟩;replace E:=O.ext E (jJ _);refine jE ?_;have d0:=B9.c 0 _ rfl;have d1:=B9.c 1 _ rfl;clear hK' K O B B9;go_wp2_with fail;exact jD (v:=.agg #[.bool s,.slice a n c]) (by simp[results,results121,go_sem,d0,d1]) rfl ⟨_,rfl,E,g⟩
theorem i128{w w':World}{s:Bool}{a:Option Addr}{n c:Nat}{z:Int}(h:IntAt w 2 s a n c z)(e:Ext w w'):IsI 128 z (.agg #[.bool s,.slice a n c]) w':=(IsI.mono (show IsI 2 z (.agg #[.bool s,.slice a n c]) w from⟨_,_,_,_,rfl,h⟩) dcx).ext e
def SrcB(base m:Nat)(news:List Value)(x:Value)(w:World):Prop:=(x=.slice none 0 0/\m=0/\news= [])\/∃g f c,x=.slice (some ⟨g,f,none⟩) m c/\g<base/\∀j u,news[j]? =some u->World.cell? w ⟨g,f+j,none⟩=some u
theorem SrcB.src{base m:Nat}{news:List Value}{x:Value}{w w':World}(h:SrcB base m news x w)(b:Below base w w')(_hb:base<=w.heap.size):SrcR m news x w':=h.imp id λ⟨g,f,c,h1,h2,h3⟩=>⟨g,f,c,h1,λj u hj=>(b.cell (p:=⟨g,f+j,none⟩) h2).trans (h3 j u hj)⟩
theorem ints_f{w:World}{base N m:Nat}{v:Value}{la:Option Addr}{lc:Nat}{news:List Value}(hI:IsIR base N v w)(hN:N<=1000000)(hm:m<=1000)(hb:base<=w.heap.size)(hl:SrcB base m news (.slice la m lc) w)(hk:IntsAt news m w):
  Calls prog 96 #[v,.slice la m lc] w (RetI base (N+1+m) v w):=by
 have HI:=hid hI;have HL:=hid (jI hN (jI hm hb));have HS:=hid (jI hl hk);clear hI hN hm hb hl hk;go_enter func96,ntmps96
 go_wp2_with (first
  | (go_at_call 121;go_must (refine(xW _ (m:Int) jg jg).mono ?_;rintro e w2 ⟨_,rfl,E2,s,a,n8,c,rfl,hx⟩))
  | (at_builtin;have hg9:=HX;go_must (refine wpl_ir rfl _ _ rfl base (N+1) m v3 _ news rfl rfl HX.out.1 (HS.out.1.src (HX.out.2.below HI.out HL.out.2.2) HL.out.2.2) (HS.out.2.gr HX.out.2.gr) zl (by have:=HL.out;have:=HZ.out;omega) ?_;intro v4 w4 hI4 p4))
  | (at_builtin;go_must (refine wpl_ir rfl _ _ rfl base N 1 v _ [.bool s,.slice a n8 c] rfl rfl (HI.out.ext (E2.trans ((Ext.refl _).alloc _))) (SrcR.new _ #[.bool s,.slice a n8 c] _ 1 1) (IntsAt.cons (i128 hx ((Ext.refl _).alloc _)) (IntsAt.nil _)) zl zaf ?_;intro v3 w3 hI3 p3;have HX:=hid (jI hI3 ((Pg.ext0 (E2.trans ((Ext.refl _).alloc _))).trans p3));have HZ:=hid (show w.heap.size<=w3.heap.size from HX.out.2.gb.size);clear hI3 p3)))
 go_ret
 exact⟨_,rfl,HX.out.2.trans p4,hI4⟩
theorem numbers_f{w:World}{base N:Nat}{v:Value}{l:List Int}{la:Option Addr}{lc:Nat}(hI:IsIR base N v w)(hN:N<=1000000)(hm:l.length<=1000)(hb:base<=w.heap.size)(hr:∀x∈l,-9223372036854775808<=x/\x<=9223372036854775807)
  (hl:l≠ []->∃g o,la=some ⟨g,o,none⟩/\g<base/\∀j x,l[j]? =some x->World.cell? w ⟨g,o+j,none⟩=some (.int .i64 x)):
  Calls prog 95 #[v,.slice la l.length lc] w (RetI base (N+1+l.length) v w):=by
 obtain⟨n,hn⟩:∃n,l.length=n:=⟨_,rfl⟩;have HI:=hid hI;have HL:=hid (jI hN (jI (hn▸hm:n<=1000) hb));have HS:=hid (jI hl (jI hr hn));rw[hn];clear hI hN hm hb hl hr hn;go_enter func95,ntmps95
 go_wp2_with (first
  | (go_at_call 121;go_must (refine(xW _ (n:Int) jg jg).mono ?_;rintro e w2 ⟨_,rfl,E2,s,a,n8,c,rfl,hx⟩))
  | (at_builtin;go_must (refine wpl_ir rfl _ _ rfl base N 1 v _ [.bool s,.slice a n8 c] rfl rfl (HI.out.ext (E2.trans ((Ext.refl _).alloc _))) (SrcR.new _ #[.bool s,.slice a n8 c] _ 1 1) (IntsAt.cons (i128 hx ((Ext.refl _).alloc _)) (IntsAt.nil _)) zl zaf ?_;intro v3 w3 hI3 p3;have HX:=hid (jI hI3 ((Pg.ext0 (E2.trans ((Ext.refl _).alloc _))).trans p3));clear hI3 p3 hx E2)))
 go_loopg [0,5] n (λgk v0 v5 wr=>∃i:Nat,v5=.int .i64 (i:Int)/\i+gk=n/\Hid (IsIR base (N+1+i) v0 wr/\Pg v w v0 wr))
 case atStart=>exact⟨0,rfl,by omega,hid ⟨HX.out.1,HX.out.2⟩⟩
 case round=>
  obtain⟨i,rfl,hg,S⟩:=hrel;by_cases hi:i<n
  ·have hil:(i:Int)<(n:Int):=by omega
   have hiw:IntKind.i64.wrap ((i:Int)+1)=((i+1:Nat):Int):=by have:=HL.out;simp only[IntKind.wrap_i64];omega
   have hne:l≠ []:=by rintro rfl;have:=HS.out.2.2;simp at this;omega
   obtain⟨g,o,rfl,hgb,hcs⟩:=HS.out.1 hne;obtain⟨x,hx⟩:∃x,l[i]? =some x:=⟨_,List.getElem?_eq_getElem (by have:=HS.out.2.2;omega)⟩;have hxr:=HS.out.2.1 x (List.mem_of_getElem? hx);have hcx:=((S.out.2.below HI.out HL.out.2.2).cell (p:=⟨g,o+i,none⟩) hgb).trans (hcs i x hx);have HK:=hid (jI hxr (jI hi hg));have HZ:=hid (show w.heap.size<=wr.heap.size from S.out.2.gb.size);clear hxr hx hi hg hcs hne HX
   go_wp2_with (first
    | (go_at_call 121;go_must (refine(xW _ x HK.out.1.1 HK.out.1.2).mono ?_;rintro e w2 ⟨_,rfl,E2,s,a,n9,c,rfl,hx⟩))
    | (at_builtin;go_must (refine wpl_ir rfl _ _ rfl base (N+1+i) 1 _ _ [.bool s,.slice a n9 c] rfl rfl (S.out.1.ext (E2.trans ((Ext.refl _).alloc _))) (SrcR.new _ #[.bool s,.slice a n9 c] _ 1 1) (IntsAt.cons (i128 hx ((Ext.refl _).alloc _)) (IntsAt.nil _)) (by have:=HL.out;have:=HK.out;omega) (by have:=HL.out;have:=E2.size;have:=HZ.out;simp;omega) ?_;intro v3 w3 hI3 p3;have HX:=hid (jI hI3 (S.out.2.trans ((Pg.ext0 (E2.trans ((Ext.refl _).alloc _))).trans p3)));clear hI3 p3 hx E2)))
   go_roundg (gk-1)
   case measure=>have:=HK.out;omega
   case rel=>exact⟨i+1,rfl,by have:=HK.out;omega,hid ⟨HX.out.1,HX.out.2⟩⟩
  ·have hil:¬((i:Int)<(n:Int)):=by omega
   obtain rfl:i=n:=zb
   go_wp2
   go_ret
   exact⟨_,rfl,S.out.2,S.out.1⟩
theorem tWrd2_1{P:Prop}(h:P:=by
  go_wp2_with (first
   | (go_at_call 121;go_must (refine(xW _ 0 jg jg).mono ?_;rintro e w2 ⟨_,rfl,E2,s,a,n8,c,rfl,hx⟩))
   | (at_builtin;go_must (refine wpl_ir rfl _ _ rfl base N 1 v _ [.bool s,.slice a n8 c] rfl rfl (HI.out.ext (E2.trans ((Ext.refl _).alloc _))) (SrcR.new _ #[.bool s,.slice a n8 c] _ 1 1) (IntsAt.cons (i128 hx ((Ext.refl _).alloc _)) (IntsAt.nil _)) zl zaf ?_;intro v3 w3 hI3 p3;have HX:=hid (jI hI3 ((Pg.ext0 (E2.trans ((Ext.refl _).alloc _))).trans p3));clear hI3 p3 hx E2)))
  go_loopg [0,5] 0 (λgk v0 v5 wr=>v0=v3/\v5=.int .i64 0/\wr=w3)
  case atStart=>exact⟨rfl,rfl,rfl⟩
  case round=>
   obtain⟨rfl,rfl,rfl⟩:=hrel
   go_wp2
   go_ret
   exact⟨_,rfl,HX.out.2,HX.out.1⟩
  ):P:=h
theorem steps_n{w:World}{base N:Nat}{v:Value}(hI:IsIR base N v w)(hN:N<=1000000)(hb:base<=w.heap.size):Calls prog 98 #[v,.slice none 0 0] w (RetI base (N+1) v w):=by
 have HI:=hid hI;have HL:=hid (jI hN hb);clear hI hN hb;go_enter func98,ntmps98;exact tWrd2_1
theorem pell_n{w:World}{base N:Nat}{v:Value}(hI:IsIR base N v w)(hN:N<=1000000)(hb:base<=w.heap.size):Calls prog 99 #[v,.slice none 0 0] w (RetI base (N+1) v w):=by
 have HI:=hid hI;have HL:=hid (jI hN hb);clear hI hN hb;go_enter func99,ntmps99;exact tWrd2_1
theorem fpoints_n{w:World}{base N:Nat}{v:Value}(hI:IsIR base N v w)(hN:N<=1000000)(hb:base<=w.heap.size):Calls prog 123 #[v,.slice none 0 0] w (RetI base (N+1) v w):=by
 have HI:=hid hI;have HL:=hid (jI hN hb);clear hI hN hb;go_enter func123,ntmps123;exact tWrd2_1
theorem points_n{w:World}{base N:Nat}{v:Value}(hI:IsIR base N v w)(hN:N<=1000000)(hb:base<=w.heap.size):Calls prog 103 #[v,.slice none 0 0] w (RetI base (N+1) v w):=by
 have HI:=hid hI;have HL:=hid (jI hN hb);clear hI hN hb;go_enter func103,ntmps103;exact tWrd2_1
end
section
open Go Go.RowKit Go.Maps Go.Shelf
open Go.Proofs.Tryz
theorem yc{P:Prop}(h:P:=by exact lv (fP:=IsZ) _ (λw' e=>qE w' b 0 false none 0 0 ((B.ext e).c 0 _ rfl) ((B.ext e).c 1 _ rfl)) (qA 1 8) (λw' _=>⟨0,_,_,_,_,rfl,IsI.nil _ _⟩)):P:=h
theorem xp{P:Prop}(h:P:=by have:=HL.out;have:=HW.out;have:=e1.size;omega):P:=h
theorem zae{P:Prop}(h:P:=by simp only[List.map_toArray,List.map_cons,List.map_nil];rw[h1,h1'];exact hr):P:=h
theorem zaj{P:Prop}(h:P:=by have:=HL.out;have:=E2.size;have:=HX.out.2.gb.size;have:=HW.out;simp;omega):P:=h
theorem zam{P:Prop}(h:P:=by simp only[List.map_toArray,List.map_cons,List.map_nil];rw[h1];exact hr):P:=h
set_option maxHeartbeats 4000000
attribute [local go_sem] Oper.semAt_some
def IsZ:Value->World->Prop:=λx w=>∃z s a n c,x=.agg #[.bool s,.slice a n c]/\IsI 128 z x w
theorem IsZ.stb:Stb IsZ:=λ_ _ _ e ⟨z,s,a,n,c,h1,h2⟩=>⟨z,s,a,n,c,h1,h2.ext e⟩
instance:StbC IsZ:=⟨IsZ.stb⟩
theorem IsZ.of{k:Nat}{z:Int}{x:Value}{w:World}(h:IsI k z x w)(hk:k<=128):IsZ x w:=by
 obtain⟨s,a,n,c,rfl,h1⟩:=id h;exact⟨z,s,a,n,c,rfl,h.mono hk⟩
def IsNews(m:Nat):Value->World->Prop:=λx w=>∃news,SrcR m news x w/\IntsAt news m w
theorem IsNews.stb(m:Nat):Stb (IsNews m):=λ_ _ _ e ⟨n,h1,h2⟩=>⟨n,h1.ext e,h2.gr e.gr⟩
instance (m:Nat):StbC (IsNews m):=⟨IsNews.stb m⟩
theorem IsIR.stb(base N:Nat):Stb (IsIR base N):=λ_ _ _ e h=>h.ext e
instance (base N:Nat):StbC (IsIR base N):=⟨IsIR.stb base N⟩
section
variable {ops:Array Oper} {Q:Exit->Act->World->Prop} {ds:List (Option Tmp)} {a0:Act} {w0:World} {L:List (Value->World->Prop)} {boxes:List Nat} {i k:Nat} {o:Oper} {os:List Oper}
theorem bsRunZ{P:Program}{T n:Nat}{ps:Array (Nat×Operand)}{a:Act}{v:Value}{w w':World}(ho:o.op=.buildSlice T n ps)(hr:(Instr.buildSlice T n (ps.map λp=>(p.1,a.eval p.2))).run P w=.ok v w'):(execOp a.eval o).run P w=.ok (.value v) w':=by
 unfold execOp;rw[ho];dsimp only;rw[Sem.run_bind,hr];rfl
theorem okE'{P:Program}(hb:boxes.contains i=false)(h:∀(v:Nat->Value) (a:Act) (w:World),Ext w0 w->(∀j,(ups .any ops i).contains j=true->L.getD j (λ_ _=>True) (v j) w)->Fr ds a0 v a->
  ∃x w',(execOp a.eval o).run P w=.ok (.value x) w'/\Ext w w'/\L.getD i (λ_ _=>True) x w'):Ok P ops Q ds a0 w0 L boxes i o:=
 ⟨fun v a w hE hd hf K hK=>by
  obtain⟨x,w',hr,he,hx⟩:=h v a w hE hd hf;unfold Oper.wp;rw[hr]
  exact hK.out x w' he hx (FreshIf.no hb)⟩
theorem bsZ1{x:Operand}(hx:Od ops ds a0 w0 L i x IsZ)(ho:o.op=.buildSlice 69 1 #[(0,x)]:=by rfl)(hi:L.getD i (λ_ _=>True)=IsNews 1:=by kernel_rfl)(hb:boxes.contains i=false:=by kernel_rfl):Ok prog ops Q ds a0 w0 L boxes i o:=
 okE' hb λv a w hE hd hf=>by
  obtain⟨z,s,b,n,c,h1,h2⟩:=hx.out v a w hE hd hf;rw[h1]at h2;have hr:(Instr.buildSlice 69 1 #[(0,.agg #[.bool s,.slice b n c])]).run prog w=.ok (.slice (some ⟨w.heap.size,0,none⟩) 1 1) (w.alloc (.cells #[.bool s,.slice b n c] 28)):=zy
  exact⟨_,_,bsRunZ ho zam,(Ext.refl w).alloc _,by rw[hi];exact⟨_,SrcR.new w #[.bool s,.slice b n c] _ 1 1,IntsAt.cons (h2.ext ((Ext.refl w).alloc _)) (IntsAt.nil _)⟩⟩
theorem bsZ2{x y:Operand}(hx:Od ops ds a0 w0 L i x IsZ)(hy:Od ops ds a0 w0 L i y IsZ)(ho:o.op=.buildSlice 69 2 #[(0,x),(1,y)]:=by rfl)(hi:L.getD i (λ_ _=>True)=IsNews 2:=by kernel_rfl)(hb:boxes.contains i=false:=by kernel_rfl):Ok prog ops Q ds a0 w0 L boxes i o:=
 okE' hb λv a w hE hd hf=>by
  obtain⟨z,s,b,n,c,h1,h2⟩:=hx.out v a w hE hd hf;obtain⟨z',s',b',n',c',h1',h2'⟩:=hy.out v a w hE hd hf;rw[h1]at h2;rw[h1']at h2';have hr:(Instr.buildSlice 69 2 #[(0,.agg #[.bool s,.slice b n c]),(1,.agg #[.bool s',.slice b' n' c'])]).run prog w=.ok (.slice (some ⟨w.heap.size,0,none⟩) 2 2) (w.alloc (.cells #[.bool s,.slice b n c,.bool s',.slice b' n' c'] 28)):=zy
  exact⟨_,_,bsRunZ ho zae,(Ext.refl w).alloc _,by rw[hi];exact⟨_,SrcR.new w #[.bool s,.slice b n c,.bool s',.slice b' n' c'] _ 2 2,IntsAt.cons (h2.ext ((Ext.refl w).alloc _)) (IntsAt.cons (h2'.ext ((Ext.refl w).alloc _)) (IntsAt.nil _))⟩⟩
theorem bsZ3{x y u:Operand}(hx:Od ops ds a0 w0 L i x IsZ)(hy:Od ops ds a0 w0 L i y IsZ)(hu:Od ops ds a0 w0 L i u IsZ)(ho:o.op=.buildSlice 69 3 #[(0,x),(1,y),(2,u)]:=by rfl)(hi:L.getD i (λ_ _=>True)=IsNews 3:=by kernel_rfl)(hb:boxes.contains i=false:=by kernel_rfl):Ok prog ops Q ds a0 w0 L boxes i o:=
 okE' hb λv a w hE hd hf=>by
  obtain⟨z,s,b,n,c,h1,h2⟩:=hx.out v a w hE hd hf;obtain⟨z',s',b',n',c',h1',h2'⟩:=hy.out v a w hE hd hf;obtain⟨z3,s3,b3,n3,c3,h13,h23⟩:=hu.out v a w hE hd hf;rw[h1]at h2;rw[h1']at h2';rw[h13]at h23;have hr:(Instr.buildSlice 69 3 #[(0,.agg #[.bool s,.slice b n c]),(1,.agg #[.bool s',.slice b' n' c']),(2,.agg #[.bool s3,.slice b3 n3 c3])]).run prog w=.ok (.slice (some ⟨w.heap.size,0,none⟩) 3 3) (w.alloc (.cells #[.bool s,.slice b n c,.bool s',.slice b' n' c',.bool s3,.slice b3 n3 c3] 28)):=zy
  exact⟨_,_,bsRunZ ho (by simp only[List.map_toArray,List.map_cons,List.map_nil];rw[h1,h1',h13];exact hr),(Ext.refl w).alloc _,by rw[hi];exact⟨_,SrcR.new w #[.bool s,.slice b n c,.bool s',.slice b' n' c',.bool s3,.slice b3 n3 c3] _ 3 3,IntsAt.cons (h2.ext ((Ext.refl w).alloc _)) (IntsAt.cons (h2'.ext ((Ext.refl w).alloc _)) (IntsAt.cons (h23.ext ((Ext.refl w).alloc _)) (IntsAt.nil _)))⟩⟩
theorem lnZ{x:Operand}{p:Option Addr}{n c:Nat}{T:TypeId}(hx:Od ops ds a0 w0 L i x (IsV (.slice p n c)))(ho:o.op=.call {callee:=.builtin .len,args:= #[x],argTypes:= #[T]} :=by rfl)(hT:prog.underlying T=some (.slice (prog.elem T)):=by kernel_rfl)(hi:L.getD i (λ_ _=>True)=iV n:=by kernel_rfl)(hb:boxes.contains i=false:=by kernel_rfl):Ok prog ops Q ds a0 w0 L boxes i o:=
 okE' hb λv a w hE hd hf=>by
  have e1:a.eval x=_:=hx.out v a w hE hd hf;have h9:=run_len_slice (P:=prog) w T o.type p n c hT;refine⟨_,w,?_,Ext.refl w,by rw[hi];exact rfl⟩;simp[execOp,ho,resolve,invoke,builtin,e1,h9,goInt]
theorem numZ{x:Operand}{z:Int}(hx:Od ops ds a0 w0 L i x (iV z))(hz: -9223372036854775808<=z/\z<=9223372036854775807:=by decide){c:Call}(ho:o.op=.call c:=by rfl)(hc:c.callee=.value (.func 121):=by rfl)(ha:c.args= #[x]:=by rfl)(hi:L.getD i (λ_ _=>True)=IsZ:=by kernel_rfl)(hb:boxes.contains i=false:=by kernel_rfl):Ok prog ops Q ds a0 w0 L boxes i o:=
 cl1 (en func121) hx (λu w' _ d0=>by
  obtain rfl:u=.int .i64 z:=d0
  exact(xW w' z hz.1 hz.2).mono λe w2 ⟨x,h1,h2,h3⟩=>⟨x,h1,h2,IsZ.of h3 dcx⟩) ho hc ha hi hb
theorem asA{P:Program}{fuel:Nat}{listed:Array Bool}{a:Act}{w:World}(j t:Nat)(x:Operand)(u:Value)(hu:a.eval x=u)(h:wpAny P .any ops Q fuel (listed.setIfInBounds j true) (a.put (some t) u) w)(ho:ops[j]? =some o:=by rfl)(hd:o.dst=some t:=by rfl)(hop:o.op=.assign x\/o.op=.move x:=by first|exact .inl rfl|exact .inr rfl)(hr:Region.ready .any ops listed= [j]:=by kernel_rfl)(hg:o.guard=none:=by rfl):wpAny P .any ops Q (fuel+1) listed a w:=
 stA j ho (λK hK=>by
  unfold Oper.wp execOp;subst hu;rw[<-hd]at h
  rcases hop with e|e <;> rw[e] <;> exact hK _ _ h) hr hg
end
def Rk(b:Nat)(vs:List Value)(w w':World):Prop:=w.heap.size<=w'.heap.size/\(Bk w b vs->Bk w' b vs)
theorem Rk.rel(b:Nat)(vs:List Value):Rel (Rk b vs):=⟨λh k=>⟨jK h.1 k.1,λB=>k.2 (h.2 B)⟩,λe=>⟨e.size,λB=>B.ext e⟩⟩
theorem Pg.rk{v v':Value}{w w':World}{b:Nat}{vs:List Value}(h:Pg v w v' w')(hne:v.ownBlock≠some b):Rk b vs w w':=⟨h.gb.size,λB=>h.bk B hne⟩
def IsPg(base N:Nat)(v:Value)(w0:World):Value->World->Prop:=λx w=>IsIR base N x w/\Pg v w0 x w
theorem IsPg.stb(base N:Nat)(v:Value)(w0:World):Stb (IsPg base N v w0):=λ_ _ _ e h=>⟨h.1.ext e,h.2.ext e⟩
instance (base N:Nat) (v:Value) (w0:World):StbC (IsPg base N v w0):=⟨IsPg.stb base N v w0⟩
section
variable {ops:Array Oper} {Q:Exit->Act->World->Prop} {ds:List (Option Tmp)} {a0:Act} {w0:World} {L:List (Value->World->Prop)} {ch:List Nat} {i k:Nat} {o:Oper} {os:List Oper}
theorem KCf{R:World->World->Prop}{base N:Nat}{f:FuncId}{c:Call}{x y:Operand}{v:Value}{fS fQ:Value->World->Prop}(he:∀args w,(callFunc f args).run prog w=.ok (.enter f args) w)(hx:∀w,Od ops ds a0 w L i x (IsV v))(hy:∀w,Od ops ds a0 w L i y fS)
  (h:∀u' w,Ext w0 w->fS u' w->Calls prog f #[v,u'] w (RetI base N v w)) (hR:∀w x w',Ext w0 w->Pg v w x w'->IsIR base N x w'->R w w'/\fQ x w') (hs:RgkAll prog ops Q ds a0 w0 R L ch (i+1) k os)
  (ho:o.op=.call c:=by rfl) (hc:c.callee=.value (.func f):=by rfl) (ha:c.args= #[x,y]:=by rfl) (hi:L.getD i (λ_ _=>True)=fQ:=by kernel_rfl) (hg:o.guard=none:=by rfl) (hcn:decide (i∈ch)=true:=by kernel_rfl) (hf:decide (∀k∈ch,i<=k)=true:=by kernel_rfl):RgkAll prog ops Q ds a0 w0 R L ch i (k+1) (o ::os):=
 KC (λw hRw hX vv a hd hf' K hK=>by
  have hE:=hX (of_decide_eq_true hf);have e0:a.eval x=v:=(hx w).out vv a w (Ext.refl w) hd hf'
  exact xC (R:=RetI base N v w) (xs:= [x,y]) (us:= [v,a.eval y]) he (by simp[e0]) (h _ w hE ((hy w).out vv a w (Ext.refl w) hd hf'))
   (fun r w' hr=>by
    obtain⟨r',q1,q2,q3⟩:=hr;cases q1;obtain⟨z1,z2⟩:=hR w _ w' hE q2 q3
    exact hK _ _ z1 (by rw[hi];exact z2)) (λch w' hr=>by obtain⟨_,h,_⟩:=hr;cases h) (λw' hr=>by obtain⟨_,h,_⟩:=hr;cases h) ho hc ha) hs hg hcn
theorem stC2{base N:Nat}{f:FuncId}{c:Call}{x y:Operand}{fuel:Nat}{listed:Array Bool}{a:Act}{w:World}{u u':Value}(j t:Nat)(he:∀args w,(callFunc f args).run prog w=.ok (.enter f args) w)(hx:a.eval x=u)(hy:a.eval y=u')(h:Calls prog f #[u,u'] w (RetI base N u w))
  (hn:∀v w',Pg u w v w'->IsIR base N v w'->wpAny prog .any ops Q fuel (listed.setIfInBounds j true) (a.put (some t) v) w') (ho':ops[j]? =some o:=by rfl) (hd:o.dst=some t:=by rfl)
  (ho:o.op=.call c:=by rfl) (hc:c.callee=.value (.func f):=by rfl) (ha:c.args= #[x,y]:=by rfl) (hr:Region.ready .any ops listed= [j]:=by kernel_rfl) (hg:o.guard=none:=by rfl):wpAny prog .any ops Q (fuel+1) listed a w:=
 stA j ho' (λK hK=>xC (R:=RetI base N u w) (xs:= [x,y]) (us:= [u,u']) he (by simp[hx,hy]) h
  (λr w' hr=>by obtain⟨r',q1,q2,q3⟩:=hr;cases q1;rw[hd];exact hK _ _ (hn r w' q2 q3)) (λch w' hr=>by obtain⟨_,h,_⟩:=hr;cases h) (λw' hr=>by obtain⟨_,h,_⟩:=hr;cases h) ho hc ha) hr hg
end
set_option maxRecDepth 100000
theorem fa_Gr0(g:Nat)(w:World):(Instr.fieldAt 75 (.pointer (some ⟨g,0,none⟩)) 0).run prog w=.ok (.pointer (some ⟨g,0,none⟩)) w:=by go_simp
theorem fa_Gr1(g:Nat)(w:World):(Instr.fieldAt 75 (.pointer (some ⟨g,0,none⟩)) 1).run prog w=.ok (.pointer (some ⟨g,2,none⟩)) w:=by go_simp
theorem ld_Gens:LdC1 prog 71:=λw a v h=>by go_simp
theorem group_n{w:World}{base N:Nat}{v:Value}(hI:IsIR base N v w)(hN:N<=1000)(hb:base<=w.heap.size):Calls prog 97 #[v,.agg #[.bool false,.slice none 0 0,.slice none 0 0,.slice none 0 0,.int .i64 0]] w (RetI base (N+4) v w):=by
 obtain⟨W,hW,E,B⟩:∃W,W=w.alloc (.cells #[.bool false,.slice none 0 0,.slice none 0 0,.slice none 0 0,.int .i64 0] 75)/\Ext w W/\Bk W w.heap.size [.bool false,.slice none 0 0,.slice none 0 0,.slice none 0 0,.int .i64 0]:=zh;obtain⟨b,hbb⟩:∃b,w.heap.size=b:=⟨_,rfl⟩;have HO:=hid (show v.ownBlock≠some b from λe=>by have:=(hI.own_lt e).1;omega);have HI:=hid (hI.ext E);have HL:=hid (jI hN hb);have HE:=hid E;have HW:=hid E.size;rw[hbb]at B;have HB:=hid B;go_enter func97,ntmps97;go_upto_region 1 with fail;rw[<-hW];clear hW hI hN hb E;refine rg 8 (dR 7 8) [IsV v,IsP b 0,IsZ,IsP b 2,IsV (.slice none 0 0),iV ((0:Nat):Int),IsZ,IsNews 2] [] 2 ?_ ?_
 ·refine Rc zt ?_;refine Rc (fa (fa_Gr0 b) (qB 3)) ?_;refine Rc yc ?_;refine Rc (fa (fa_Gr1 b) (qB 3)) ?_;refine Rc (lvC 2 B ld_Gens (qA 3 10)) ?_;refine Rc (lnZ (p:=none) (n:=0) (c:=0) (qA 4 11)) ?_;refine Rc (numZ (z:=0) (qA 5 12)) ?_;refine Rc (bsZ2 (qA 2 9) (qA 6 13)) ?_;exact rn0
 intro x X e1 hZ _;obtain⟨news,hs,hk⟩:=hZ 7 dcx;simp only[lxE,Nat.reduceAdd];rw[show x 0=v from hZ 0 dcx];clear hZ;refine stA 8 rfl (λK hK=>wp_ir (.tmp 7) (.tmp 14) rfl base N 2 v (x 7) news rfl rfl (HI.out.ext e1) hs hk zl xp (λv3 w3 hI3 p3=>hK _ _ ?_));have HX:=hid (jI hI3 ((Pg.ext0 e1).trans p3));clear hI3 p3 hs hk hK K e1 B;have B3:=HX.out.2.bk HB.out HO.out;have c2:=B3.c 2 _ rfl;have c3:=B3.c 3 _ rfl;have c4:=B3.c 4 _ rfl;clear B3;refine asA 9 0 (.tmp 15) v3 rfl ?_;refine jL za ?_ _;go_wp2_with fail
 go_loopg [0,5] 0 (λgk v0 v5 wr=>v0=v3/\v5=.int .i64 0/\wr=w3)
 case atStart=>exact⟨rfl,rfl,rfl⟩
 case round=>
  obtain⟨rfl,rfl,rfl⟩:=hrel;go_wp2_with (first| (go_at_call 121;go_must (refine(xW _ 0 dcx dcx).mono ?_;rintro e w2 ⟨_,rfl,E2,s,a,n8,c,rfl,hx⟩))| (at_builtin;go_must (refine wpl_ir rfl _ _ rfl base (N+2) 1 _ _ [.bool s,.slice a n8 c] rfl rfl (HX.out.1.ext (E2.trans ((Ext.refl _).alloc _))) (SrcR.new _ #[.bool s,.slice a n8 c] _ 1 1) (IntsAt.cons (i128 hx ((Ext.refl _).alloc _)) (IntsAt.nil _)) zl zaj ?_;intro v6 w6 hI p;have H6:=hid (jI hI (HX.out.2.trans ((Pg.ext0 (E2.trans ((Ext.refl _).alloc _))).trans p)));clear hI p hx E2;have B6:=H6.out.2.bk HB.out HO.out;have d3:=B6.c 3 _ rfl;have d4:=B6.c 4 _ rfl;clear B6 c2 c3 c4)))
  go_loopg [0,6] 0 (λgk v0 v5 wr=>v0=v6/\v5=.int .i64 0/\wr=w6)
  case atStart=>exact⟨rfl,rfl,rfl⟩
  case round=>
   obtain⟨rfl,rfl,rfl⟩:=hrel;go_wp2_with (first| (go_at_call 121;go_must (refine(xW _ 0 dcx dcx).mono ?_;rintro e w2 ⟨_,rfl,E2,s,a,n8,c,rfl,hx⟩))| (at_builtin;go_must (refine wpl_ir rfl _ _ rfl base (N+2+1) 1 _ _ [.bool s,.slice a n8 c] rfl rfl (H6.out.1.ext (E2.trans ((Ext.refl _).alloc _))) (SrcR.new _ #[.bool s,.slice a n8 c] _ 1 1) (IntsAt.cons (i128 hx ((Ext.refl _).alloc _)) (IntsAt.nil _)) zl (by have:=HL.out;have:=E2.size;have:=H6.out.2.gb.size;have:=HW.out;simp;omega) ?_;intro v7 w7 hI p;have H7:=hid (jI hI (H6.out.2.trans ((Pg.ext0 (E2.trans ((Ext.refl _).alloc _))).trans p)));clear hI p hx E2;have B7:=H7.out.2.bk HB.out HO.out;clear B7)))
   go_ret
   exact⟨_,rfl,(Pg.ext0 HE.out).trans H7.out.2,H7.out.1⟩
theorem fa_Un0(g:Nat)(w:World):(Instr.fieldAt 78 (.pointer (some ⟨g,0,none⟩)) 0).run prog w=.ok (.pointer (some ⟨g,0,none⟩)) w:=by go_simp
theorem fa_Un1(g:Nat)(w:World):(Instr.fieldAt 78 (.pointer (some ⟨g,0,none⟩)) 1).run prog w=.ok (.pointer (some ⟨g,2,none⟩)) w:=by go_simp
theorem ld_Trm:LdC1 prog 76:=λw a v h=>by go_simp
theorem unit_n{w:World}{base N:Nat}{v:Value}(hI:IsIR base N v w)(hN:N<=1000)(hb:base<=w.heap.size):Calls prog 100 #[v,.agg #[.bool false,.slice none 0 0,.slice none 0 0]] w (RetI base (N+2) v w):=by
 obtain⟨W,hW,E,B⟩:∃W,W=w.alloc (.cells #[.bool false,.slice none 0 0,.slice none 0 0] 78)/\Ext w W/\Bk W w.heap.size [.bool false,.slice none 0 0,.slice none 0 0]:=zh;obtain⟨b,hbb⟩:∃b,w.heap.size=b:=⟨_,rfl⟩;have HO:=hid (show v.ownBlock≠some b from λe=>by have:=(hI.own_lt e).1;omega);have HI:=hid (hI.ext E);have HL:=hid (jI hN hb);have HE:=hid E;have HW:=hid E.size;rw[hbb]at B;have HB:=hid B;go_enter func100,ntmps100;go_upto_region 1 with fail;rw[<-hW];clear hW hI hN hb E;refine rg 8 (dR 7 8) [IsV v,IsP b 0,IsZ,IsP b 2,IsV (.slice none 0 0),iV ((0:Nat):Int),IsZ,IsNews 2] [] 2 ?_ ?_
 ·refine Rc zt ?_;refine Rc (fa (fa_Un0 b) (qB 3)) ?_;refine Rc yc ?_;refine Rc (fa (fa_Un1 b) (qB 3)) ?_;refine Rc (lvC 2 B ld_Trm (qA 3 10)) ?_;refine Rc (lnZ (p:=none) (n:=0) (c:=0) (qA 4 11)) ?_;refine Rc (numZ (z:=0) (qA 5 12)) ?_;refine Rc (bsZ2 (qA 2 9) (qA 6 13)) ?_;exact rn0
 intro x X e1 hZ _;obtain⟨news,hs,hk⟩:=hZ 7 dcx;simp only[lxE,Nat.reduceAdd];rw[show x 0=v from hZ 0 dcx];clear hZ;refine stA 8 rfl (λK hK=>wp_ir (.tmp 7) (.tmp 14) rfl base N 2 v (x 7) news rfl rfl (HI.out.ext e1) hs hk zl xp (λv3 w3 hI3 p3=>hK _ _ ?_));have HX:=hid (jI hI3 ((Pg.ext0 e1).trans p3));clear hI3 p3 hs hk hK K e1 B;have B3:=HX.out.2.bk HB.out HO.out;have c2:=B3.c 2 _ rfl;clear B3;refine asA 9 0 (.tmp 15) v3 rfl ?_;refine jL za ?_ _;go_wp2_with fail
 go_loopg [0,5] 0 (λgk v0 v5 wr=>v0=v3/\v5=.int .i64 0/\wr=w3)
 case atStart=>exact⟨rfl,rfl,rfl⟩
 case round=>
  obtain⟨rfl,rfl,rfl⟩:=hrel
  go_wp2
  go_ret
  exact⟨_,rfl,(Pg.ext0 HE.out).trans HX.out.2,HX.out.1⟩
end
section
open Go Go.RowKit Go.Maps Go.Shelf
open Go.Proofs.Tryz
theorem zr{P:Prop}(h:P:=by simp only[List.map_toArray,List.map_cons,List.map_nil];exact hr):P:=h
theorem zas{P:Prop}(h:P:=by simp only[World.size_alloc];omega):P:=h
set_option maxRecDepth 100000
set_option maxHeartbeats 8000000
attribute [local go_sem] Oper.semAt_some
def nameC(i:Nat):ByteArray:=match i with
 |0=>⟨#[97]⟩
 |1=>⟨#[98]⟩
 |2=>⟨#[99,50]⟩
 |_=>⟨#[108,111,110,103,95,110,97,109,101]⟩
def cellV(i:Nat):List Value:= [.string (nameC i),.int .i64 1,.string ⟨#[]⟩,.int .i64 0,.bool false,.slice none 0 0,.int .i64 0,.int .i64 0,.slice none 0 0]
theorem cellV_nw(i:Nat):(∀u∈cellV i,u.oneCell'=true)/\∀u∈cellV i,NoWord u:=by
 refine⟨λu hu=>?_,λu hu=>?_⟩
 all_goals
  simp only[cellV,List.mem_cons,List.not_mem_nil,or_false]at hu;rcases hu with rfl|rfl|rfl|rfl|rfl|rfl|rfl|rfl|rfl
 all_goals first|rfl|exact NoWord.bool _|exact NoWord.slice _ _ _|exact NoWord.int64 _|exact NoWord.string _
def IsNm:Value->World->Prop:=λx w=>∃g,x=.slice (some ⟨g,0,none⟩) 4 4/\∀j,j<4->World.cell? w ⟨g,j,none⟩=some (.string (nameC j))
theorem IsNm.stb:Stb IsNm:=λ_ _ _ e ⟨g,h1,h2⟩=>⟨g,h1,λj hj=>e.cell (h2 j hj)⟩
instance:StbC IsNm:=⟨IsNm.stb⟩
def IsNp(i:Nat):Value->World->Prop:=λx w=>∃g,x=.pointer (some ⟨g,i,none⟩)/\World.cell? w ⟨g,i,none⟩=some (.string (nameC i))
theorem IsNp.stb(i:Nat):Stb (IsNp i):=λ_ _ _ e ⟨g,h1,h2⟩=>⟨g,h1,e.cell h2⟩
instance (i:Nat):StbC (IsNp i):=⟨IsNp.stb i⟩
def IsRc(us:List Value):Value->World->Prop:=λx w=>SrcR 1 us x w
theorem IsRc.stb(us:List Value):Stb (IsRc us):=λ_ _ _ e h=>h.ext e
instance (us:List Value):StbC (IsRc us):=⟨IsRc.stb us⟩
section
variable {ops:Array Oper} {Q:Exit->Act->World->Prop} {ds:List (Option Tmp)} {a0:Act} {w0:World} {L:List (Value->World->Prop)} {boxes:List Nat} {i k:Nat} {o:Oper} {os:List Oper}
theorem bsNm(ho:o.op=.buildSlice 51 4 #[(0,.const (.string ⟨#[97]⟩)),(1,.const (.string ⟨#[98]⟩)),(2,.const (.string ⟨#[99,50]⟩)),(3,.const (.string ⟨#[108,111,110,103,95,110,97,109,101]⟩))]:=by rfl)(hi:L.getD i (λ_ _=>True)=IsNm:=by kernel_rfl)(hb:boxes.contains i=false:=by kernel_rfl):Ok prog ops Q ds a0 w0 L boxes i o:=
 okE' hb λv a w hE hd hf=>by
  have hr:(Instr.buildSlice 51 4 #[(0,.string ⟨#[97]⟩),(1,.string ⟨#[98]⟩),(2,.string ⟨#[99,50]⟩),(3,.string ⟨#[108,111,110,103,95,110,97,109,101]⟩)]).run prog w=.ok (.slice (some ⟨w.heap.size,0,none⟩) 4 4) (w.alloc (.cells #[.string ⟨#[97]⟩,.string ⟨#[98]⟩,.string ⟨#[99,50]⟩,.string ⟨#[108,111,110,103,95,110,97,109,101]⟩] 9)):=zy
  have B:=Bk.new w #[.string ⟨#[97]⟩,.string ⟨#[98]⟩,.string ⟨#[99,50]⟩,.string ⟨#[108,111,110,103,95,110,97,109,101]⟩] 9
  have hc:∀j,j<4->World.cell? (w.alloc (.cells #[.string ⟨#[97]⟩,.string ⟨#[98]⟩,.string ⟨#[99,50]⟩,.string ⟨#[108,111,110,103,95,110,97,109,101]⟩] 9)) ⟨w.heap.size,j,none⟩=some (.string (nameC j)):=λj hj=>by
   match j,hj with
   |0,_=>exact B.c 0 _ rfl
   |1,_=>exact B.c 1 _ rfl
   |2,_=>exact B.c 2 _ rfl
   |3,_=>exact B.c 3 _ rfl
  exact⟨_,_,bsRunZ ho zr,(Ext.refl w).alloc _,by rw[hi];exact⟨_,rfl,hc⟩⟩
theorem ixNm{j:Nat}{x y:Operand}(hj:j<4)(hx:Od ops ds a0 w0 L i x IsNm)(hy:Od ops ds a0 w0 L i y (iV (j:Int)))(ho:o.op=.indexAddr 51 x y:=by rfl)(hi:L.getD i (λ_ _=>True)=IsNp j:=by kernel_rfl)(hb:boxes.contains i=false:=by kernel_rfl):Ok prog ops Q ds a0 w0 L boxes i o:=
 okE' hb λv a w hE hd hf=>by
  obtain⟨g,h1,h2⟩:=hx.out v a w hE hd hf;have h3:a.eval y=_:=hy.out v a w hE hd hf;refine⟨_,w,?_,Ext.refl w,by rw[hi];exact⟨g,rfl,h2 j hj⟩⟩;have hr:=ix_rS (some ⟨g,0,none⟩) g 4 4 j rfl hj w;unfold execOp;rw[ho];dsimp only;rw[h1,h3];simp[hr]
theorem ldNm{j:Nat}{x:Operand}(hx:Od ops ds a0 w0 L i x (IsNp j))(ho:o.op=.load 9 x:=by rfl)(hi:L.getD i (λ_ _=>True)=IsV (.string (nameC j)):=by kernel_rfl)(hb:boxes.contains i=false:=by kernel_rfl):Ok prog ops Q ds a0 w0 L boxes i o:=
 okE' hb λv a w hE hd hf=>by
  obtain⟨g,h1,h2⟩:=hx.out v a w hE hd hf;refine⟨_,w,?_,Ext.refl w,by rw[hi];exact rfl⟩;have hr:=ld_str' w ⟨g,j,none⟩ (.string (nameC j)) h2;unfold execOp;rw[ho];dsimp only;rw[h1];simp[hr]
theorem bdNn(ho:o.op=.build 31 #[(0,.const (.int .i64 1))]:=by rfl)(hi:L.getD i (λ_ _=>True)=IsV (.agg #[.int .i64 1,.string ⟨#[]⟩,.int .i64 0,.bool false,.slice none 0 0,.int .i64 0,.int .i64 0,.slice none 0 0]):=by kernel_rfl)(hb:boxes.contains i=false:=by kernel_rfl):Ok prog ops Q ds a0 w0 L boxes i o:=
 okE' hb λv a w hE hd hf=>by
  have hr:(Instr.build 31 #[(0,.int .i64 1)]).run prog w=.ok (.agg #[.int .i64 1,.string ⟨#[]⟩,.int .i64 0,.bool false,.slice none 0 0,.int .i64 0,.int .i64 0,.slice none 0 0]) w:=zy
  exact⟨_,w,bdG ho zr,Ext.refl w,by rw[hi];exact rfl⟩
theorem bdCl{j:Nat}{x y:Operand}(hx:Od ops ds a0 w0 L i x (IsV (.string (nameC j))))(hy:Od ops ds a0 w0 L i y (IsV (.agg #[.int .i64 1,.string ⟨#[]⟩,.int .i64 0,.bool false,.slice none 0 0,.int .i64 0,.int .i64 0,.slice none 0 0])))(ho:o.op=.build 127 #[(0,x),(1,y)]:=by rfl)(hi:L.getD i (λ_ _=>True)=IsV (.agg (cellV j).toArray):=by kernel_rfl)(hb:boxes.contains i=false:=by kernel_rfl):Ok prog ops Q ds a0 w0 L boxes i o:=
 okE' hb λv a w hE hd hf=>by
  have h1:a.eval x=_:=hx.out v a w hE hd hf;have h2:a.eval y=_:=hy.out v a w hE hd hf;obtain⟨nm,hnm⟩:∃nm,nameC j=nm:=⟨_,rfl⟩;have hr:(Instr.build 127 #[(0,.string nm),(1,.agg #[.int .i64 1,.string ⟨#[]⟩,.int .i64 0,.bool false,.slice none 0 0,.int .i64 0,.int .i64 0,.slice none 0 0])]).run prog w=.ok (.agg #[.string nm,.int .i64 1,.string ⟨#[]⟩,.int .i64 0,.bool false,.slice none 0 0,.int .i64 0,.int .i64 0,.slice none 0 0]) w:=zy
  rw[<-hnm]at hr;exact⟨_,w,bdG ho (by simp only[List.map_toArray,List.map_cons,List.map_nil];rw[h1,h2];exact hr),Ext.refl w,by rw[hi];exact rfl⟩
theorem bs_Ce(j:Nat)(w:World):(Instr.buildSlice 33 1 #[(0,.agg (cellV j).toArray)]).run prog w=.ok (.slice (some ⟨w.heap.size,0,none⟩) 1 1) (w.alloc (.cells (cellV j).toArray 127)):=by
 obtain⟨nm,hnm⟩:∃nm,nameC j=nm:=⟨_,rfl⟩;unfold cellV;rw[hnm]
 go_simp
theorem bs_VlL{us:List Value}(hl:us.length=11)(w:World):(Instr.buildSlice 34 1 #[(0,.agg us.toArray)]).run prog w=.ok (.slice (some ⟨w.heap.size,0,none⟩) 1 1) (w.alloc (.cells us.toArray 50)):=by
 obtain⟨l0,l1,l2,l3,l4,l5,l6,l7,l8,l9,l10,rfl⟩:=len11 hl
 go_simp
theorem bsRc{T T1:Nat}{us:List Value}{x:Operand}(hr:∀w,(Instr.buildSlice T 1 #[(0,.agg us.toArray)]).run prog w=.ok (.slice (some ⟨w.heap.size,0,none⟩) 1 1) (w.alloc (.cells us.toArray T1)))(hx:Od ops ds a0 w0 L i x (IsV (.agg us.toArray)))(ho:o.op=.buildSlice T 1 #[(0,x)]:=by rfl)(hi:L.getD i (λ_ _=>True)=IsRc us:=by kernel_rfl)(hb:boxes.contains i=false:=by kernel_rfl):Ok prog ops Q ds a0 w0 L boxes i o:=
 okE' hb λv a w hE hd hf=>by
  have h1:a.eval x=_:=hx.out v a w hE hd hf;exact⟨_,_,bsRunZ ho (by simp only[List.map_toArray,List.map_cons,List.map_nil];rw[h1];exact hr w),(Ext.refl w).alloc _,by rw[hi];exact SrcR.new w us.toArray T1 1 1⟩
end
def IsCls:Value->World->Prop:=λx w=>∃(cs:List qL) (c v:Value),x=.tuple #[c,v]/\cs.length<=4/\cellOk [3] cs/\(∀d∈cs,d.hyps.length<=1)/\CsR w.heap.size cs c w/\VsR w.heap.size cs v w
structure CsI (B:Nat) (W:World) (i:Nat) (cs:List qL) (nl vl:List (List Value)) (v6 v7:Value) (wr:World):Prop where
 len:cs.length=i
 ok:cellOk [3] cs
 hl:∀d∈cs,d.hyps.length<=1
 r6:Rwg 127 9 B wr v6 i nl.flatten
 n6:NwB wr v6
 l6:nl.length=i
 c6:∀(j:Nat) (d:qL),cs[j]? =some d->∃vs:List Value,nl[j]? =some vs/\vs.length=9/\vs[0]? =some (.string d.name)
 a6:∀vs∈nl,vs.length=9
 r7:Rwg 50 11 B wr v7 i vl.flatten
 n7:NwB wr v7
 l7:vl.length=i
 c7:∀(j:Nat) (d:qL),cs[j]? =some d->∃vs:List Value,vl[j]? =some vs/\VcX v6 v7 d vs wr
 a7:∀vs∈vl,vs.length=11
 ne:∀g,v6.ownBlock=some g->v7.ownBlock≠some g
 bl:Below B W wr
theorem flatN{k:Nat}:∀ {L:List (List Value)},(∀vs∈L,vs.length=k)->∀ {j:Nat} {vs:List Value},L[j]? =some vs->∀ {q:Nat} {u:Value},vs[q]? =some u->L.flatten[k*j+q]? =some u
 | [],_,j,vs,h,_,_,_=>by simp at h
 | x ::L,hl,0,vs,h,q,u,hq=>by
  have h:x=vs:=yj
  subst h;rw[List.flatten_cons,Nat.mul_zero,Nat.zero_add];exact apL _ _ hq
 | x ::L,hl,j+1,vs,h,q,u,hq=>by
  have h:L[j]? =some vs:=yj
  have:=flatN (λv hv=>hl v (List.mem_cons_of_mem _ hv)) h hq;rw[List.flatten_cons,show k*(j+1)+q=x.length+(k*j+q)by rw[hl x List.mem_cons_self,Nat.mul_add,Nat.mul_one];omega];exact apR _ _ this
theorem CsI.out{B i:Nat}{W wr:World}{cs:List qL}{nl vl:List (List Value)}{v6 v7:Value}(S:CsI B W i cs nl vl v6 v7 wr)(hi:i<=4):IsCls (.tuple #[v6,v7]) wr:=by
 refine⟨cs,v6,v7,rfl,by rw[S.len];exact hi,S.ok,S.hl,?_,?_⟩
 ·obtain⟨ao,cap,h1,-,-,-,h2⟩:=S.r6.shape;refine⟨ao,cap,by rw[h1,S.len],λhn=>?_⟩;obtain⟨g,k1,k2,k3,k4⟩:=h2 (λe=>hn (List.length_eq_zero_iff.1 (S.len.trans e)));refine⟨g,k1,k3,λj d hj=>?_⟩;obtain⟨vs,q1,q2,q3⟩:=S.c6 j d hj;exact⟨vs,q2,q3,λq u hq=>k4 _ _ (flatN S.a6 q1 hq)⟩
 ·obtain⟨ao,cap,h1,-,-,-,h2⟩:=S.r7.shape;refine⟨ao,cap,by rw[h1,S.len],λhn=>?_⟩;obtain⟨g,k1,k2,k3,k4⟩:=h2 (λe=>hn (List.length_eq_zero_iff.1 (S.len.trans e)));refine⟨g,k1,k3,λj d hj=>?_⟩;obtain⟨vs,q1,q2⟩:=S.c7 j d hj;exact⟨vs,q2.out,λq u hq=>k4 _ _ (flatN S.a7 q1 hq)⟩
theorem cells_f{w:World}{ca ea:Option Addr}{cn cc en' ec:Nat}{gr:Int}{op:Bool}(hb:IsBy (.slice ca cn cc) w):Calls prog 12 #[.agg #[.slice ca cn cc,.slice ea en' ec,.int .u8 gr],.bool op] w (Ret w IsCls):=by
 obtain⟨ca',cn',cc',hq,hn,hc⟩:=hb;cases hq;obtain⟨W,hW,E,B⟩:∃W,W=w.alloc (.cells #[.slice ca cn cc,.slice ea en' ec,.int .u8 gr] 24)/\Ext w W/\Bk W w.heap.size [.slice ca cn cc,.slice ea en' ec,.int .u8 gr]:=zh;go_enter func12,ntmps12;go_upto_region 1 with fail;rw[<-hW];clear hW;have hE:=E.size;have hlt:=B.lt;have HB:=hid B;have HE:=hid E;have HCN:=hid (jI hn hc);obtain⟨b,hb⟩:∃b,w.heap.size=b:=⟨_,rfl⟩;have HW:=hid hb;rw[hb]at HB hlt;rw[hb];have HL:=hid hlt;clear B E hb hn hc hlt hE
 go_wp2
 go_loopg [6,7,8] 4 (λgk v6 v7 v8 wr=>∃(i:Nat) (cs:List qL) (nl vl:List (List Value)),v8=.int .i64 (i:Int)/\i+gk=4/\Hid (CsI (b+1) W i cs nl vl v6 v7 wr))
 case atStart=>
  have hl:=HL.out;exact⟨0, [], [], [],rfl,by omega,hid ⟨rfl,(λc hc=>absurd hc List.not_mem_nil),(λd hd=>absurd hd List.not_mem_nil),(rwgZ _ _ _ W zb).ext ((Ext.refl _).alloc _),(nwbZ _ W).kept (λg hg=>by cases hg;exact((Ext.refl (W.alloc (.cells #[] 127))).alloc _).block _ zas),rfl,(λj d h=>by simp at h),(λvs h=>absurd h List.not_mem_nil),by{have h:=rwgZ 50 11 (b+1) (W.alloc (.cells #[] 127)) zas;rw[World.size_alloc]at h;exact h},by{have h:=nwbZ 50 (W.alloc (.cells #[] 127));rw[World.size_alloc]at h;exact h},rfl,(λj d h=>by simp at h),(λvs h=>absurd h List.not_mem_nil),(λg h1 h2=>by cases h1;have h3:=Option.some.inj h2;simp only at h3;omega),((Below.refl _ _).alloc zb _).alloc zas _⟩⟩
 case round=>
  obtain⟨i,cs,nl,vl,rfl,hg,S⟩:=hrel;have B:=HB.out;have c0:=(S.out.bl.cell (p:=⟨b,0,none⟩) jm).trans (B.c 0 _ rfl);by_cases hi:i<cn/\i<4
  ·obtain ⟨hi1,hi2⟩:=hi;obtain⟨g,o,rfl,hcs⟩:=HCN.out.2 zb;obtain⟨y,hy,hcy⟩:=hcs i hi1;have hcy:=(S.out.bl.cell (p:=⟨g,o+i,none⟩) (by have:=World.block_lt_of_cell? _ _ hcy;have:=HW.out;simp only at *;omega)).trans (HE.out.cell hcy);have hil:(i:Int)<(cn:Int):=by omega
   have hil4:(i:Int)<4:=zb
   have HG:=hid hg;clear hcs hg B;go_upto_region 7 with fail;obtain⟨z,hz⟩:∃z:Int,(y:Int)%16-5=z:=⟨_,rfl⟩;have hzb: -5<=z/\z<=10:=zb
   rw[hz];refine rgs 3 [some 32,some 33,some 10] [iV z,IsSg z,IsNb wr.heap.size [.bool false,.slice none 0 0,.bool false,.slice none 0 0,.bool false,.slice none 0 0,.bool false,.slice none 0 0,.bool false,.slice none 0 0,.int .i64 0]] [] ?_ ?_
   ·refine Rc (mv (qB 9)) ?_;refine Rc (cl1 (en func46) (qA (fP:=iV z) 0 32) (λx0 w' hE d0=>by{obtain rfl:x0=_:=d0;exact single_f w' zb})) ?_;refine Rc (alB al_Vl (jJ _)) ?_;exact rn0
   intro v X1 e1 hZ _;obtain⟨s1,a1,n1,c1,s2,a2,n2,c2,s3,a3,n3,c3,s4,a4,n4,c4,hv1,g1,g2⟩:=hZ 1 dcx;obtain⟨g10,hv2,hg10,B10⟩:=hZ 2 dcx;simp only[lxE,Nat.reduceAdd];rw[hv1,hv2];clear hZ hv1 hv2;refine stL (λK hK'=>?_);refine qX (us:= [.bool s1,.slice a1 n1 c1,.bool s2,.slice a2 n2 c2,.bool s3,.slice a3 n3 c3,.bool s4,.slice a4 n4 c4,.bool true,.slice none 0 0,.int .i64 0]) B10 st_Vl rfl rfl nwVl (λX2 B11 O=>hK' _ _ ?_);replace g1:=IsRat.gstb _ _ _ _ _ O.gr g1;replace g2:=IsRat.gstb _ _ _ _ _ O.gr g2;have e2:=O.ext e1 hg10;refine jE ?_;clear hK' K O B10 e1;have hcy2:=e2.cell hcy;have c02:=e2.cell c0
   have hcase:(op=true/\100<y)\/(op=true/\y=99)\/(op=true/\¬100<y/\¬y=99)\/op=false:=by
    cases op <;> simp <;> omega
   rcases hcase with⟨rfl,hy1⟩| ⟨rfl,hy1⟩| ⟨rfl,hy1,hy2⟩|rfl
   case' inl=>
    have hyi:(100:Int)<(y:Int):=zb
    have hof:=λw'=>rqOf_f w' (z+(y:Int)/64) 1 zb dcx dcx
    go_upto_region 11 with(go_at_call 47;go_must (refine(hof _).mono ?_;rintro e w9 ⟨_,rfl,E9,s5,a5,n5,c5,s6,a6,n6,c6,rfl,g3,g4⟩;have L4:=(B11.ext E9).c 4 _ rfl;have F4:=(B11.ext E9).f 4;have L5:=(B11.ext E9).c 5 _ rfl;have F5:=(B11.ext E9).f 5;have L6:=(B11.ext E9).c 6 _ rfl;have F6:=(B11.ext E9).f 6;have L7:=(B11.ext E9).c 7 _ rfl;have F7:=(B11.ext E9).f 7;have L8:=(B11.ext E9).c 8 _ rfl;have F8:=(B11.ext E9).f 8));obtain⟨O,B12⟩:=(B11.ext E9).mid5 (u4:=.bool s5) (u5:=.slice a5 n5 c5) (u6:=.bool s6) (u7:=.slice a6 n6 c6) (u8:=.bool false) (NoWord.bool _) (NoWord.slice _ _ _) (NoWord.bool _) (NoWord.slice _ _ _) (NoWord.bool _);have e3:=O.ext (e2.trans E9) hg10;have hV:=VcB.of B12 (IsI.gstb _ _ _ _ _ O.gr (IsRat.lo (IsRat.stbE _ _ _ _ _ E9 g1))) (IsI.gstb _ _ _ _ _ O.gr (IsRat.lo ⟨_,_,_,_,_,_,_,_,rfl,g3,g4⟩)) zb;clear L4 L5 L6 L7 L8 F4 F5 F6 F7 F8 O g1 g2 g3 g4 hof E9 e2 B11 hcy2 c02 B12;have hcy2:=e3.cell hcy;have c02:=e3.cell c0;generalize((((w9.setCell ⟨g10,4,none⟩ (.bool s5)).setCell ⟨g10,5,none⟩ (.slice a5 n5 c5)).setCell ⟨g10,6,none⟩ (.bool s6)).setCell ⟨g10,7,none⟩ (.slice a6 n6 c6)).setCell ⟨g10,8,none⟩ (.bool false)=X at*;have hyn:¬((y:Int)=99):=zb
    go_upto_region 13 with fail;clear hyi hyn hy1
   case' inr.inl=>
    have hyn:(y:Int)=99:=zb
    have hyi:¬((100:Int)<(y:Int)):=zb
    have L0:=B11.c 0 _ rfl;have L1:=B11.c 1 _ rfl;have L2:=B11.c 2 _ rfl;have L3:=B11.c 3 _ rfl;have L4:=B11.c 4 _ rfl;have L5:=B11.c 5 _ rfl;have L6:=B11.c 6 _ rfl;have L7:=B11.c 7 _ rfl;have L8:=B11.c 8 _ rfl;have L9:=B11.c 9 _ rfl;have L10:=B11.c 10 _ rfl;have F0:=B11.f 0;have F1:=B11.f 1;have F2:=B11.f 2;have F3:=B11.f 3;have F4:=B11.f 4;have F5:=B11.f 5;have F6:=B11.f 6;have F7:=B11.f 7;have F8:=B11.f 8;have F9:=B11.f 9;have F10:=B11.f 10;go_upto_region 13 with fail;clear L0 L1 L2 L3 L4 L5 L6 L7 L8 L9 L10 F0 F1 F2 F3 F4 F5 F6 F7 F8 F9 F10;obtain⟨O,B12⟩:=B11.putO (us:= [.bool false,.slice none 0 0,.bool false,.slice none 0 0,.bool false,.slice none 0 0,.bool false,.slice none 0 0,.bool true,.slice none 0 0,.int .i64 6]) rfl nwVl;change Code.wp _ _ _ _ (xD X2 g10 0 [.bool false,.slice none 0 0,.bool false,.slice none 0 0,.bool false,.slice none 0 0,.bool false,.slice none 0 0,.bool true,.slice none 0 0,.int .i64 6]);have e3:=O.ext e2 hg10;have hV:=VcB.of B12 (IsI.nil _ _) (IsI.nil _ _) dcx;clear hcy2 c02;have hcy2:=e3.cell hcy;have c02:=e3.cell c0;clear O B12 B11 g1 g2 e2 hyn hyi hy1;generalize xD X2 g10 0 [.bool false,.slice none 0 0,.bool false,.slice none 0 0,.bool false,.slice none 0 0,.bool false,.slice none 0 0,.bool true,.slice none 0 0,.int .i64 6]=X at*
   case' inr.inr.inl=>
    have hyi:¬((100:Int)<(y:Int)):=zb
    have hyn:¬((y:Int)=99):=zb
    go_upto_region 13 with fail;have hV:=VcB.of B11 (IsRat.lo g1) (IsRat.lo g2) zb;clear hyi hyn hy1 hy2 g1 g2 B11;have e3:=e2;clear e2;generalize X2=X at*
   case' inr.inr.inr=>
    go_upto_region 13 with fail;have hV:=VcB.of B11 (IsRat.lo g1) (IsRat.lo g2) zb;clear g1 g2 B11;have e3:=e2;clear e2;generalize X2=X at*
   all_goals
    obtain⟨us,d,B12,h9,hd1,hd2,hd3,hd4,hd5⟩:=hV;clear hcy c0;have hul:=(hd5 u6 u7).1;by_cases h3:(y:Int)%3=0
    case' pos=>
     have L9:=λo=>(B12.ext ((Ext.refl X).alloc o)).c 9 _ h9
     have F9:=λo=>(B12.ext ((Ext.refl X).alloc o)).f 9
     go_upto_region 15 with fail;obtain⟨X1,hX1⟩:∃X1,(X.alloc (.cells #[.int .i64 3] 3)).setCell ⟨g10,9,none⟩ (.slice (some ⟨X.heap.size,0,none⟩) 1 1)=X1:=⟨_,rfl⟩;rw[hX1];obtain⟨V1,B13,O⟩:=(hd5 u6 u7).set9 B12 (λh=>by have h1:=(S.out.r6.own_lt h).1;have h2:=e3.size;omega) (λh=>by have h1:=(S.out.r7.own_lt h).1;have h2:=e3.size;omega) hX1;have hT:∃(us1:List Value) (d1:qL),VcX u6 u7 d1 us1 X1/\Bk X1 g10 us1/\d1.lo<=d1.hi/\ -5<=d1.lo/\d1.hi<=13/\(d1.hyps= []\/d1.hyps= [3]):=⟨_,_,V1,B13,hd1,hd2,hd3,.inr rfl⟩;have e4:=O.ext (e3.trans ((Ext.refl X).alloc _)) hg10;clear hX1 V1 B13 O L9 F9 B12 e3 hd5 hcy2 c02
    case' neg=>
     go_upto_region 15 with fail;have hT:∃(us1:List Value) (d1:qL),VcX u6 u7 d1 us1 X/\Bk X g10 us1/\d1.lo<=d1.hi/\ -5<=d1.lo/\d1.hi<=13/\(d1.hyps= []\/d1.hyps= [3]):=⟨_,_,hd5 u6 u7,B12,hd1,hd2,hd3,.inl hd4⟩;have e4:=e3;clear B12 e3 hd5 hcy2 c02;generalize X=X1 at*
    all_goals
     obtain⟨us1,d1,hV1,B14,k1,k2,k3,k4⟩:=hT;obtain⟨bC,hC1,hC2⟩:=infoC;obtain⟨bV,hD1,hD2⟩:=infoV;have HI:=hid hC1;have HBy:=hid hC2;have HIV:=hid hD1;have HBV:=hid hD2;have HE4:=hid e4;have hiw:IntKind.i64.wrap ((i:Int)+1)=((i+1:Nat):Int):=js
     have hi4:i<4:=zb
     clear hC1 hC2 hD1 hD2;refine rgs 8 (dR 75 8) [IsV u6,IsNm,iV (i:Int),IsNp i,IsV (.string (nameC i)),IsV (.agg #[.int .i64 1,.string ⟨#[]⟩,.int .i64 0,.bool false,.slice none 0 0,.int .i64 0,.int .i64 0,.slice none 0 0]),IsV (.agg (cellV i).toArray),IsRc (cellV i)] [] ?_ ?_
     ·refine Rc (mv (qB 6)) ?_;refine Rc bsNm ?_;refine Rc (mv (qB (x:=.int .i64 (i:Int)) 8)) ?_;refine Rc (ixNm (j:=i) hi4 (qA 1 76) (qA 2 77)) ?_;refine Rc (ldNm (j:=i) (qA 3 78)) ?_;refine Rc bdNn ?_;refine Rc (bdCl (j:=i) (qA 4 79) (qA 5 80)) ?_;refine Rc (bsRc (us:=cellV i) (T1:=127) (bs_Ce i) (qA 6 81)) ?_;exact rn0
     intro x X2 e5 hZ _;have hsr:SrcR 1 (cellV i) (x 7) X2:=hZ 7 dcx;simp only[lxE,Nat.reduceAdd];rw[show x 0=u6 from hZ 0 dcx];clear hZ;have eX:=e4.trans e5;have hsz2:=eX.size;have hBsz:b+1<=wr.heap.size:=by have:=S.out.bl.size;have:=HL.out;omega
     have hne76:∀g,u7.ownBlock=some g->u6.ownBlock≠some g:=λg h1 h2=>S.out.ne g h2 h1
     refine wpl_rwnS rfl (.tmp 75) (.tmp 82) 33 rfl (b+1) 127 (.agg zCe.toArray) 9 bC za HI.out zbq dcx (λu hu=>nwZCe u jo) u6 i nl.flatten rfl (S.out.r6.ext eX) (S.out.n6.kept (λg hg=>eX.block g (S.out.r6.own_lt hg).1)) 1 (cellV i) (x 7) rfl rfl hsr (cellV_nw i).1 (cellV_nw i).2 zb (by have:=Nat.mul_le_mul (show i+1<=5 by omega) HBy.out;omega) zb ?_;intro v6' X3 q1 q2 q3 q4 q5 q6;have q3b:∀q,q<X2.heap.size->u6.ownBlock≠some q->X3.heap[q]? =X2.heap[q]? :=λq hq hne=>q3.block q hq (λe=>hne e.symm)
     have hg6:u6.ownBlock≠some g10:=λe=>by have:=(S.out.r6.own_lt e).1;omega
     have B15:Bk X3 g10 us1:=⟨λj u hj=>(World.cell?_of_block (w:=X2) (a:=⟨g10,j,none⟩) (q3b g10 (B14.ext e5).lt hg6)).trans ((B14.ext e5).c j u hj),λj=>(World.frozen?_of_block (w:=X2) (a:=⟨g10,j,none⟩) (q3b g10 (B14.ext e5).lt hg6)).trans ((B14.ext e5).f j),Nat.lt_of_lt_of_le (B14.ext e5).lt q3.size⟩;obtain⟨vl1,va1,vnw1,-⟩:=id hV1;have hV3:VcX v6' u7 d1 us1 X3:=(hV1.ext e5).grow q3 q4 (.inl rfl) q6 (.inl rfl);have hold3:∀(j:Nat) (d:qL),cs[j]? =some d->∃vs:List Value,vl[j]? =some vs/\VcX v6' u7 d vs X3:=λj d hj=>let ⟨vs,z1,z2⟩:=S.out.c7 j d hj;⟨vs,z1,(z2.ext eX).grow q3 q4 (.inl rfl) q6 (.inl rfl)⟩
     have r73:Rwg 50 11 (b+1) X3 u7 i vl.flatten:=(S.out.r7.ext eX).grown q3 (λg h1 h2=>hne76 g h1 h2);have n73:NwB X3 u7:=(S.out.n7.kept (λg hg=>eX.block g (S.out.r7.own_lt hg).1)).kept (λg hg=>q3b g (by have:=(S.out.r7.own_lt hg).1;omega) (hne76 g hg))
     have hne3:∀g,v6'.ownBlock=some g->u7.ownBlock≠some g:=λg h1 h2=>by
      rcases q6 with h|h
      ·exact hne76 g h2 (h▸h1)
      ·rw[h]at h1;cases h1;have:=(S.out.r7.own_lt h2).1;omega
     have bl3:Below (b+1) W X3:=Below.trans S.out.bl (Below.trans (eX.mono hBsz) q5);have H3:=hid (jI q1 (jI q2 (jI hold3 (jI r73 (jI n73 (jI hne3 (jI bl3 hV3)))))));have hsz3:b+1<=X3.heap.size:=by have:=q3.size;omega
     clear hold3 r73 n73 hne3 bl3 hV3 q1 q2 q3 q4 q5 q6 q3b hg6 hsr e5 eX hsz2 hBsz hne76 hV1 B14 HE4;have HV1:=hid (jI vl1 (jI va1 vnw1));clear vl1 va1 vnw1;go_upto_region 16 with fail;refine rgs 3 (dR 84 3) [IsV u7,IsV (.agg us1.toArray),IsRc us1] [] ?_ ?_
     ·refine Rc (mv (qB 7)) ?_;refine Rc (lvV B15 ld_Vl (qB 10) HV1.out.1) ?_;refine Rc (bsRc (us:=us1) (T1:=50) (bs_VlL HV1.out.1) (qA 1 85)) ?_;exact rn0
     intro x X4 e6 hZ _;have hsr:SrcR 1 us1 (x 2) X4:=hZ 2 dcx;simp only[lxE,Nat.reduceAdd];rw[show x 0=u7 from hZ 0 dcx];clear hZ B15;obtain⟨q1,q2,hold3,r73,n73,hne3,bl3,hV3⟩:=H3.out;have hsz4:=e6.size;refine wpl_rwnS rfl (.tmp 84) (.tmp 86) 34 rfl (b+1) 50 (.agg zVl2.toArray) 11 bV za HIV.out zbq dcx (λu hu=>nwZVl2 u jo) u7 i vl.flatten rfl (r73.ext e6) (n73.kept (λg hg=>e6.block g (r73.own_lt hg).1)) 1 us1 (x 2) rfl (by have:=HV1.out.1;omega) hsr (λu hu=>List.all_eq_true.1 HV1.out.2.1 u hu) HV1.out.2.2 zb (by have:=Nat.mul_le_mul (show i+1<=5 by omega) HBV.out;omega) zb ?_;intro v7' X5 p1 p2 p3 p4 p5 p6;have p3b:∀q,q<X4.heap.size->u7.ownBlock≠some q->X5.heap[q]? =X4.heap[q]? :=λq hq hne=>p3.block q hq (λe=>hne e.symm)
     have h6lt:∀g,v6'.ownBlock=some g->g<X4.heap.size:=λg hg=>by have:=(q1.own_lt hg).1;omega
     have hRel:=hid (show CsI (b+1) W (i+1) (cs++ [{d1 with name:=nameC i}]) (nl++ [cellV i]) (vl++ [us1]) v6' v7' X5 from
      {
       len:=by rw[jM,S.out.len];rfl
       ok:=λc hc=>by
        rcases List.mem_append.1 hc with h|h
        ·exact S.out.ok c h
        ·rw[List.mem_singleton]at h;subst h;refine⟨k1,?_,λy hy=>?_⟩
         ·show(Kn.mk d1.lo d1.hi true).Le 4294967296;unfold Kn.Le;simp only;omega
         ·have hy:y∈d1.hyps:=hy;rcases k4 with h|h
          ·rw[h]at hy;simp at hy
          ·rw[h]at hy;exact hy
       hl:=λd hd=>by
        rcases List.mem_append.1 hd with h|h
        ·exact S.out.hl d h
        ·rw[List.mem_singleton]at h;subst h;show d1.hyps.length<=1;rcases k4 with h|h <;> rw[h] <;> simp
       r6:=by rw[List.flatten_append,List.flatten_singleton];exact(q1.ext e6).grown p3 (λg h1 h2=>hne3 g h1 h2)
       n6:=(q2.kept (λg hg=>e6.block g (q1.own_lt hg).1)).kept (λg hg=>p3b g (h6lt g hg) (λh=>hne3 g hg h))
       l6:=by rw[jM,S.out.l6];rfl
       c6:=λj d hj=>by
        rcases jN j cs.length with h|h
        ·rw[List.getElem?_append_left h]at hj;obtain⟨vs,z1,z2,z3⟩:=S.out.c6 j d hj;exact⟨vs,by rw[List.getElem?_append_left (List.getElem?_eq_some_iff.1 z1).1];exact z1,z2,z3⟩
        ·rw[List.getElem?_append_right h]at hj
         have hj0:j-cs.length=0:=by
          have:=(List.getElem?_eq_some_iff.1 hj).1;simp at this;omega
         rw[hj0]at hj;cases hj;have hjl:j=nl.length:=by have:=S.out.len;have:=S.out.l6;omega
         exact⟨cellV i,by rw[hjl];simp,rfl,rfl⟩
       a6:=λvs h=>by
        rcases List.mem_append.1 h with h|h
        ·exact S.out.a6 vs h
        ·rw[List.mem_singleton]at h;rw[h];rfl
       r7:=by rw[List.flatten_append,List.flatten_singleton];exact p1
       n7:=p2
       l7:=by rw[jM,S.out.l7];rfl
       c7:=λj d hj=>by
        rcases jN j cs.length with h|h
        ·rw[List.getElem?_append_left h]at hj;obtain⟨vs,z1,z2⟩:=hold3 j d hj;exact⟨vs,by rw[List.getElem?_append_left (List.getElem?_eq_some_iff.1 z1).1];exact z1,(z2.ext e6).grow p3 p4 (.inr (.inl rfl)) (.inl rfl) p6⟩
        ·rw[List.getElem?_append_right h]at hj
         have hj0:j-cs.length=0:=by
          have:=(List.getElem?_eq_some_iff.1 hj).1;simp at this;omega
         rw[hj0]at hj;cases hj;have hjl:j=vl.length:=by have:=S.out.len;have:=S.out.l7;omega
         exact⟨us1,by rw[hjl];simp,(hV3.ext e6).grow p3 p4 (.inr (.inl rfl)) (.inl rfl) p6⟩
       a7:=λvs h=>by
        rcases List.mem_append.1 h with h|h
        ·exact S.out.a7 vs h
        ·rw[List.mem_singleton]at h;rw[h];exact HV1.out.1
       ne:=λg h1 h2=>by
        rcases p6 with h|h
        ·exact hne3 g h1 (h▸h2)
        ·rw[h]at h2;cases h2;have:=h6lt _ h1;omega
       bl:=Below.trans bl3 (Below.trans (e6.mono hsz3) p5)})
     clear q1 q2 hold3 r73 n73 hne3 bl3 hV3 p1 p2 p3 p4 p5 p6 p3b h6lt hsr e6 H3 k1 k2 k3 k4 S;go_wp2_with fail
     go_roundg (gk-1)
     case measure=>have:=HG.out;omega
     case rel=>exact⟨i+1,_,_,_,rfl,by have:=HG.out;omega,hRel⟩
  ·have B0:=HB.out;have e4:Ext w wr:=Below.trans HE.out (S.out.bl.mono (by have:=HW.out;omega));have hou:=S.out.out zb;clear B0 S;by_cases hi1:i<cn
   ·have hil:(i:Int)<(cn:Int):=by omega
    have hil4:¬((i:Int)<4):=zb
    clear hi
    go_wp2
    exact jD (v:=.tuple #[u6,u7]) (by simp[results,results12,go_sem]) rfl ⟨_,rfl,e4,hou⟩
   ·have hil:¬((i:Int)<(cn:Int)):=by omega
    clear hi
    go_wp2
    exact jD (v:=.tuple #[u6,u7]) (by simp[results,results12,go_sem]) rfl ⟨_,rfl,e4,hou⟩
end
end Go.Proofs.YtkeikfekkdplgaaGreatDoor
