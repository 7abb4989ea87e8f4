/- Lemmas. -/
import Derived.Test.YtkeikfekkdplgaaGreatDoorBst4
import Derived.Test.YtkeikfekkdplgaaGreatDoorWrd
import Derived.Test.YtkeikfekkdplgaaGreatDoorAdd0
import Derived.Test.YtkeikfekkdplgaaGreatDoorTre
namespace Go.Proofs.YtkeikfekkdplgaaGreatDoor
section
open Go Go.RowKit Go.Maps Go.Shelf
theorem bestH_congr{hy:List Value ->List Int}{gs:List Int}{L L':List (List Value)}{x:ByteArray}(h:L'.filter (λvs =>decide (xH vs =x))=L.filter (λvs =>decide (xH vs =x))):xY hy gs L' x =xY hy gs L x:=by
 unfold xY;rw[h]
theorem bsG_congr{L L':List (List Value)}{dat:List Value ->EnD}{gs:List Int}{y:List UInt8}(h:L'.filter (λvs =>decide (xH vs =⟨y.toArray⟩))=L.filter (λvs =>decide (xH vs =⟨y.toArray⟩))):bsG L' dat gs y =bsG L dat gs y:=by
 unfold bsG;rw[bestH_congr h]
theorem less_fil{L:List (List Value)}{p:List Value ->Bool}{x:ByteArray}(h:∀vs,xH vs =x ->p vs =true):(L.filter p).filter (λvs =>decide (xH vs =x))=L.filter (λvs =>decide (xH vs =x)) :=by
 rw[List.filter_filter]
 refine List.filter_congr λvs _ =>?_
 by_cases hx:xH vs =x
 ·simp[hx,h vs hx]
 ·simp[hx]
theorem more_fil{L:List (List Value)}{j m:Nat}{new:List Value}{nm x:ByteArray}(hx:x≠nm)(hn:xH new =nm)(hm:m =j\/m =j + 1/\∃vs,L[j]? =some vs/\xH vs =nm):
  (L.take j ++ [new] ++L.drop m).filter (λvs =>decide (xH vs =x))=L.filter (λvs =>decide (xH vs =x)) :=by
 have h1:([new]:List (List Value)).filter (λvs =>decide (xH vs =x))= [] :=by simp[hn,Ne.symm hx]
 rw[List.filter_append,List.filter_append,h1,List.append_nil,<-List.filter_append]
 rcases hm with rfl| ⟨rfl,vs,h2,h3⟩
 ·rw[List.take_append_drop]
 ·obtain⟨hl,rfl⟩ :=List.getElem?_eq_some_iff.1 h2
  have h4:L =L.take j ++L[j] ::L.drop (j + 1) :=by rw[<-List.drop_eq_getElem_cons hl,List.take_append_drop]
  conv =>rhs;rw[h4]
  rw[List.filter_append,List.filter_append,List.filter_cons_of_neg (by simp[h3,Ne.symm hx])]
theorem bestH_gs{hy:List Value ->List Int}{gs:List Int}{L:List (List Value)}{x:ByteArray}{k:Int}(h:∀vs∈L,k ∉ hy vs):xY hy (gs ++ [k]) L x =xY hy gs L x:=by
 unfold xY
 congr 1
 refine List.filter_congr λvs hv =>?_
 have hk:=h vs (List.mem_filter.1 hv).1
 congr 1
 rw[Bool.eq_iff_iff]
 simp only[List.any_eq_true,Bool.not_eq_true',List.any_eq_false,jY,List.mem_append,List.mem_singleton]
 constructor
 ·rintro⟨z,h1,h2⟩
  exact⟨z,h1,λq hq e =>h2 q (.inl hq) e⟩
 ·rintro⟨z,h1,h2⟩
  refine⟨z,h1,λq hq e =>?_⟩
  rcases hq with hq|rfl
  ·exact h2 q hq e
  ·exact hk (e ▸ h1)
theorem agree_R{cs:List qJ}{L L':List (List Value)}{dat dat':List Value ->EnD}{gs gs':List Int}{e:Ex}{s0:Nat}(h:∀x∈ (evR cs L dat gs e s0).2.2.1,bsG L' dat' gs' x =bsG L dat gs x):evR cs L' dat' gs' e s0 =evR cs L dat gs e s0:=
 ev_agree cs _ _ flG e [] _ _ _ rfl h
theorem bsG_nil(dat:List Value ->EnD)(gs:List Int):bsG [] dat gs =λ_ =>none:=by
 funext y;simp[bsG,xY,bestL]
theorem none_R{cs:List qJ}{L:List (List Value)}{dat:List Value ->EnD}{gs:List Int}{e:Ex}{s0:Nat}{q:Kn}(h:(evR cs [] dat gs e s0).1 =.ok q):(evR cs L dat gs e s0).2.2.1 = [] :=by
 obtain⟨r,hr⟩:∃r,evR cs [] dat gs e s0 =r:=⟨_,rfl⟩
 rw[hr]at h
 obtain⟨r1,st⟩ :=r
 simp only at h
 subst h
 unfold evR at hr
 rw[bsG_nil]at hr
 obtain⟨h1,h2⟩ :=ev_none' cs (bsG L dat gs) flG e [] _ _ _ hr
 unfold evR
 rw[h2]
 exact h1
/-! ### Names do not begin with z -/
theorem repK_head(c:UInt8)(t o new:List UInt8)(h:c≠123)(k:Nat):∃t',Lib.replaceK (123 ::o) new k (c ::t)=c ::t':=by
 cases k with
 |zero =>exact⟨t,rfl⟩
 | succ k =>
  rw[Lib.replaceK]
  split
  ·exact⟨t,rfl⟩
  ·rename_i hm
   have hi:Lib.index (c ::t) (123 ::o)≠-1:=by simpa using hm
   have hp:¬((123 ::o).isPrefixOf (c ::t)=true) :=by
    simp only[List.isPrefixOf,Bool.and_eq_true,beq_iff_eq]
    exact λe =>h e.1.symm
   have h1:1 <=Lib.index (c ::t) (123 ::o) :=by
    have h2:=Lib.index_ge t (123 ::o)
    rw[Lib.index,if_neg hp]at hi ⊢
    by_cases h3:Lib.index t (123 ::o)= -1
    ·rw[h3]at hi;exact absurd rfl hi
    ·rw[if_neg (by simpa using h3)];omega
   obtain⟨n,hn⟩:∃n:Nat,(Lib.index (c ::t) (123 ::o)).toNat =n + 1:=⟨(Lib.index (c ::t) (123 ::o)).toNat - 1,by omega⟩
   rw[hn,List.take_succ_cons]
   exact⟨_,rfl⟩
theorem fillB_head{s:ByteArray}{c:UInt8}{t:List UInt8}(hs:s.data.toList =c ::t)(h:c≠123)(x:ByteArray)(k:Int):∃t',(fillB s x k).data.toList =c ::t':=by
 show ∃t',(Lib.replaceAll s.data.toList (⟨#[123]⟩ ++x ++ ⟨#[125]⟩:ByteArray).data.toList (Lib.itoa k)).toArray.toList =c ::t'
 obtain⟨o,ho⟩:∃o,(⟨#[123]⟩ ++x ++ ⟨#[125]⟩:ByteArray).data.toList =123 ::o:=⟨x.data.toList ++ [125],by simp⟩
 rw[ho,hs]
 unfold Lib.replaceAll Lib.replace
 split
 ·exact⟨t,rfl⟩
 ·exact repK_head c t o _ h _
theorem fiN_head{c:UInt8}(h:c≠123):∀(xs:List (Nat× (ByteArray×Int))) (s:ByteArray) (t:List UInt8),s.data.toList =c ::t ->∃t',(fiN s xs).data.toList =c ::t'
 | [],s,t,hs =>⟨t,hs⟩
 | p ::xs,s,t,hs =>by
  obtain⟨t',h'⟩ :=fillB_head hs h (clp p).1 (clp p).2
  exact fiN_head h xs _ t' h'
theorem names_z:∀(d:Nat) (bs:List ByteArray) (e:Ex) (env:Env),wfT d bs e ->∀y∈xA flG e env,∃c t,y =c ::t/\c≠122
 |d,bs,.num z,env,h =>by simp[xA]
 |d,bs,.var x,env,h =>by simp[xA]
 |d,bs,.cell x,env,h =>by simp[xA]
 | d,bs,.val x n,env,h =>by
  intro y hy
  rw[xA,List.mem_singleton]at hy
  obtain⟨c,t,h1,h2,h3⟩:hdOk x:=by cases d <;> exact h.2.2.2
  obtain⟨t',h4⟩ :=fiN_head h3 (upto (bwv env) env.length) x t h1
  exact⟨c,t',by rw[hy];exact h4,h2⟩
 |0,bs,.loop fst x lo hi b,env,h =>absurd h (by simp[wfT])
 |0,bs,.bin op a b,env,h =>absurd h (by simp[wfT])
 | d + 1,bs,.loop fst x lo hi b,env,h =>by
  intro y hy
  rw[xA,List.mem_flatMap]at hy
  obtain⟨i,-,hy⟩ :=hy
  exact names_z d _ b _ h.2.2.2.2.2 y hy
 | d + 1,bs,.bin op a b,env,h =>by
  intro y hy
  rw[xA,List.mem_append]at hy
  exact hy.elim (names_z d _ a _ h.2.1 y) (names_z d _ b _ h.2.2 y)
theorem read_z{cs:List qJ}{L:List (List Value)}{dat:List Value ->EnD}{gs:List Int}{e:Ex}(hT:wfT 4 [] e)(s0:Nat):∀y∈ (evR cs L dat gs e s0).2.2.1,(⟨y.toArray⟩:ByteArray)≠ ⟨#[122,122,58,49]⟩ :=by
 intro y hy e1
 obtain⟨c,t,h1,h2⟩ :=ev_names cs _ flG (λx =>∃c t,x =c ::t/\c≠122) e [] _ _ _ (names_z 4 [] e [] hT) rfl (λx hx =>absurd hx List.not_mem_nil) y hy
 subst h1
 have e2:=congrArg (λb:ByteArray =>b.data.toList) e1
 simp at e2
 exact h2 e2.1
end
section
open Go Go.RowKit
section
variable {P:Program} {md:Region.Mode} {ops:Array Oper} {Q:Exit->Act->World->Prop}
theorem rgk_main2(n0 n:Nat)(ch rs:List Nat)(R:World->World->Prop)(fP C:Nat->Value->World->Prop){a0:Act}{w0:World}
    (hn:n<=ops.size) (hap:qO ops n=true) (htp:xD md ops n []=true)
    (hlk:∀i j,i∈ch->j∈ch->i<j->(ups md ops j).contains i=true)
    (hRt:∀ {a b c},R a b->R b c->R a c) (hER:∀ {a b},Ext a b->R a b)
    (hst:∀i,i<n->Stb (fP i)) (hsC:∀i,Stb (C i)) (hrs:∀i∈rs,∀k∈ch,k=i\/(ups md ops i).contains k=true) (hstR:∀i,i<n->i∉rs->∀x w w',R w w'->fP i x w->fP i x w')
    (hop:∀i,n0<=i->i<n->∀o,ops[i]? =some o->∀(v:Nat->Value) (w:World),R w0 w->(i∈ch->(∀k∈ch,i<=k)->Ext w0 w)->(∀j,(ups md ops i).contains j=true->fP j (v j) w)->(i∈ch->∀j∈ch,(ups md ops i).contains j=true->(∀k∈ch,j<k->i<=k)->C j (v j) w)->∀K:Act->World->Prop,
      (∀x w',(if i∈ch then R w w' else Ext w w')->fP i x w'->(i∈ch->C i x w')->K ((qT ops v a0 n).put o.dst x) w')->if Region.wanted o (yielded ops (qT ops v a0 n).tmps)=true then Oper.wp P o (qT ops v a0 n) w K Q else K ((qT ops v a0 n).put o.dst undef) w)
    (hend:∀v w,R w0 w->(∀i,i<n->fP i (v i) w)->wpAny P md ops Q (ops.size-n) (qG ops.size n) (qT ops v a0 n) w):
    ∀ (fuel:Nat) (listed:Array Bool) (v:Nat->Value) (w:World),listed.size=ops.size->(∀j,n<=j->listed.getD j false=false)->fuel+qU listed n=ops.size->
      (∀i,listed.getD i false=true->∀e∈qS md ops i,listed.getD e false=true)->(∀i,i<n0->listed.getD i false=true)->R w0 w->((∀k∈ch,listed.getD k false=false)->Ext w0 w)->
      (∀i,i<n->listed.getD i false=true->fP i (v i) w)->(∀i∈ch,i<n->listed.getD i false=true->(∀k∈ch,i<k->listed.getD k false=false)->C i (v i) w)->wpAny P md ops Q fuel listed (qT ops v a0 n) w:=by
  simp only[xD,Bool.and_eq_true,List.all_eq_true,List.mem_range,Bool.or_eq_true,jY]at htp;obtain⟨htp1,htp2⟩:=htp;intro fuel
  induction fuel with
  | zero=>
    intro listed v w hsz hbig hcnt hcl hlo hR hX hZ hC
    have hle:qU listed n<=n:=by
      have:=List.countP_le_length (p:=λi=>listed.getD i false) (l:=List.range n)
      simpa [qU]using this
    have hall:∀i,i<n->listed.getD i false=true:=λi hi=>by
      cases h:listed.getD i false
      ·have:=doneN_lt hi h;omega
      ·rfl
    have hl:listed=qG ops.size n:=by
      apply Array.ext (by simp[qG,hsz]);intro i g1 g2;have h4:listed[i]=listed.getD i false:=by simp[g1]
      rw[h4];rcases jU i n with h|h
      ·rw[hall i h];simp[qG,h]
      ·rw[hbig i h];simp[qG];omega
    have h0:ops.size-n=0:=by omega
    have:=hend v w hR (λi hi=>hZ i hi (hall i hi));rw[h0]at this;rw[hl];exact this
  | succ fuel ih=>
    intro listed v w hsz hbig hcnt hcl hlo hR hX hZ hC;by_cases hall:∃i,i<n/\(!listed.getD i false)=true
    · obtain ⟨i1,hi1,h1⟩:=hall
      have hu1:listed.getD i1 false=false:=by simpa using h1
      obtain⟨i0,hi0,h0,hmin⟩:=xX (λi=> !listed.getD i false) n ⟨i1,hi1,by rw[hu1];rfl⟩;have hi0s:i0<listed.size:=by omega
      have hr0:i0∈Region.ready md ops listed:=xG (by simpa [hi0s]using h0) (by omega) (λe he=>by
        have:=hmin e zah
        simpa using this)
      refine⟨λh=>(by rw[h]at hr0;cases hr0),λi hi=>?_⟩
      have hin:i<n:=by
        rcases jU i n with h|h
        ·exact h
        · exfalso
          obtain⟨_,o,ho,_⟩:=mem_ready.1 hi;have his:i<ops.size:=(Array.getElem?_eq_some_iff.1 ho).1;rcases(htp1 i his).resolve_left (by omega) i1 hi1 with h2|h2
          · have h3:=qK hcl i (qS md ops i) (qL hi) i1 (List.contains_iff_mem.1 h2)
            rw[hu1]at h3;cases h3
          ·simp at h2
      obtain⟨hun,o,ho,_⟩:=mem_ready.1 hi;have hil:i<listed.size:=by omega
      have hunf:listed.getD i false=false:=by simp[hil]at hun ⊢;exact hun
      have hup:∀j,(ups md ops i).contains j=true->listed.getD j false=true:=λj hj=>qK hcl i (qS md ops i) (qL hi) j (List.contains_iff_mem.1 hj)
      have hupl:∀k j,listed.getD k false=true->(ups md ops k).contains j=true->listed.getD j false=true:=λk j hk hj=>qK hcl k (qS md ops k) (hcl k hk) j (List.contains_iff_mem.1 hj)
      have hlater:∀k,i∈ch->k∈ch->i<k->listed.getD k false=false:=λk hic hkc hik=>by
        cases hl:listed.getD k false
        ·rfl
        · have:=hupl k i hl (hlk i k hic hkc hik)
          rw[hunf]at this;cases this
      refine wpOp_step ho λK hK=>?_
      refine hop i (by rcases jU i n0 with h|h;· {rw[hlo i h]at hunf;cases hunf};·exact h) hin o ho v w hR (λhic hmin=>hX λk hk=>by
        rcases jU i k with h|h
        ·exact hlater k hic hk h
        · have:=hmin k hk
          rw[show k=i by omega];exact hunf) (λj hj=>?_) (λhic j hjc hj hjp=>?_) K ?_
      · have hjl:=hup j hj
        have hjn:j<n:=by
          rcases jU j n with h|h
          ·exact h
          ·rw[hbig j h]at hjl;cases hjl
        exact hZ j hjn hjl
      · have hjl:=hup j hj
        have hjn:j<n:=by
          rcases jU j n with h|h
          ·exact h
          ·rw[hbig j h]at hjl;cases hjl
        refine hC j hjc hjn hjl λk hk hjk=>?_
        rcases Nat.lt_trichotomy k i with h|h|h
        ·exact absurd (hjp k hk hjk) (by omega)
        ·rw[h];exact hunf
        ·exact hlater k hic hk h
      · intro x w' hRw hx hxC
        refine hK _ _ ?_;have hdst:o.dst=qP ops i:=by simp[qP,ho]
        have hRR:R w w':=by
          by_cases h:i∈ch
          ·rw[if_pos h]at hRw;exact hRw
          ·rw[if_neg h]at hRw;exact hER hRw
        rw[hdst,layN_put a0 v i x n hin (λj k hj hk hjk=>xM hap hj hk hjk)];refine ih _ _ _ (by simp[hsz]) (λj hj=>?_) ?_ (λj hj e he=>?_) (λj hj=>getD_set_true (hlo j hj)) (hRt hR hRR) (λhnone=>?_) (λj hj hlj=>?_) (λj hjc hj hlj hcj=>?_)
        ·rw[getD_set_ne false (by omega)];exact hbig j hj
        ·rw[doneN_set _ _ hun,if_pos hin];omega
        · by_cases hij:i=j
          · subst hij
            exact getD_set_true (qL hi e he)
          · rw[getD_set_ne false hij]at hj
            exact getD_set_true (hcl j hj e he)
        · have hic:i∉ch:=λhic=>by
            have:=hnone i hic;rw[show(listed.setIfInBounds i true).getD i false=true by simp[hil]]at this;cases this
          rw[if_neg hic]at hRw;refine Ext.trans (hX λk hk=>?_) hRw;have:=hnone k hk;rw[getD_set_ne false (λe=>hic (by rw[e];exact hk))]at this;exact this
        · by_cases hij:j=i
          ·subst hij;simpa only[xW,if_true]using hx
          · rw [getD_set_ne false (Ne.symm hij)]at hlj
            simp only[xW];rw[if_neg hij];by_cases hic:i∈ch
            · refine hstR j hj (λhjr=>?_) _ _ _ hRR (hZ j hj hlj)
              rcases hrs j hjr i hic with h|h
              ·exact hij h.symm
              · have:=hupl j i hlj h
                rw[hunf]at this;cases this
            · rw[if_neg hic]at hRw
              exact hst j hj _ _ _ hRw (hZ j hj hlj)
        · by_cases hij:j=i
          ·subst hij;simp only[xW,if_true];exact hxC hjc
          · rw [getD_set_ne false (Ne.symm hij)]at hlj
            simp only[xW];rw[if_neg hij]
            have hic:i∉ch:=λhic=>by
              rcases Nat.lt_trichotomy j i with h|h|h
              · have:=hcj i hic h
                rw[show(listed.setIfInBounds i true).getD i false=true by simp[hil]]at this;cases this
              ·exact hij h
              · have:=hlater j hic hjc h
                rw[hlj]at this;cases this
            rw[if_neg hic]at hRw;refine hsC j _ _ _ hRw (hC j hjc hj hlj λk hk hjk=>?_);have:=hcj k hk hjk;rw[getD_set_ne false (λe=>hic (by rw[e];exact hk))]at this;exact this
    · have hall':∀i,i<n->listed.getD i false=true:=λi hi=>by
        cases h:listed.getD i false
        ·exact absurd ⟨i,hi,by rw[h];rfl⟩ hall
        ·rfl
      have hl:listed=qG ops.size n:=by
        apply Array.ext (by simp[qG,hsz]);intro i g1 g2;have h4:listed[i]=listed.getD i false:=by simp[g1]
        rw[h4];rcases jU i n with h|h
        ·rw[hall' i h];simp[qG,h]
        ·rw[hbig i h];simp[qG];omega
      have hf:fuel+1=ops.size-n:=by
        have:=doneN_all (listed:=listed) n hall';omega
      have:=hend v w hR (λi hi=>hZ i hi (hall' i hi));rw[<-hf]at this;rw[hl];exact this
variable {ds:List (Option Tmp)} {a0:Act} {w0 w:World} {R:World->World->Prop} {L:List (Value->World->Prop)} {C:Nat->Value->World->Prop} {ch:List Nat} {i k:Nat} {o:Oper} {os:List Oper}
def OkC(P:Program)(ops:Array Oper)(Q:Exit->Act->World->Prop)(ds:List (Option Tmp))(a0:Act)(w0 w:World)(R:World->World->Prop)(L:List (Value->World->Prop))(C:Nat->Value->World->Prop)(ch:List Nat)(i:Nat)(o:Oper):Prop:=
  ((∀k∈ch,i<=k)->Ext w0 w)->∀(v:Nat->Value) (a:Act),(∀j,(ups .any ops i).contains j=true->L.getD j (λ_ _=>True) (v j) w)->(∀j∈ch,(ups .any ops i).contains j=true->(∀k∈ch,j<k->i<=k)->C j (v j) w)->Fr ds a0 v a->∀K:Act->World->Prop,(∀x w',R w w'->L.getD i (λ_ _=>True) x w'->C i x w'->K (a.put o.dst x) w')->Oper.wp P o a w K Q
def RgC(P:Program)(ops:Array Oper)(Q:Exit->Act->World->Prop)(ds:List (Option Tmp))(a0:Act)(w0 w:World)(R:World->World->Prop)(L:List (Value->World->Prop))(C:Nat->Value->World->Prop)(ch:List Nat)(i:Nat)(o:Oper):Prop:=
  ((∀k∈ch,i<=k)->Ext w0 w)->∀(v:Nat->Value),(∀j,(ups .any ops i).contains j=true->L.getD j (λ_ _=>True) (v j) w)->(∀j∈ch,(ups .any ops i).contains j=true->(∀k∈ch,j<k->i<=k)->C j (v j) w)->∀K:Act->World->Prop,(∀x w',R w w'->L.getD i (λ_ _=>True) x w'->C i x w'->K ((qW v a0 0 ds).put o.dst x) w')->
    if Region.wanted o (yielded ops (qW v a0 0 ds).tmps)=true then Oper.wp P o (qW v a0 0 ds) w K Q else K ((qW v a0 0 ds).put o.dst undef) w
def RgcAll(P:Program)(ops:Array Oper)(Q:Exit->Act->World->Prop)(ds:List (Option Tmp))(a0:Act)(w0:World)(R:World->World->Prop)(L:List (Value->World->Prop))(C:Nat->Value->World->Prop)(ch:List Nat):Nat->Nat->List Oper->Prop
  |_,0,_=>True
  |_,_+1, []=>True
  |i,k+1,o ::os=>(∀w,R w0 w->if i∈ch then RgC P ops Q ds a0 w0 w R L C ch i o else RgL P .any ops Q ds a0 w L [] i o)/\RgcAll P ops Q ds a0 w0 R L C ch (i+1) k os
theorem RgcAll.get:∀(k i:Nat) (os:List Oper),RgcAll P ops Q ds a0 w0 R L C ch i k os->∀j,j<k->∀o,os[j]? =some o->∀w,R w0 w->if i+j∈ch then RgC P ops Q ds a0 w0 w R L C ch (i+j) o else RgL P .any ops Q ds a0 w L [] (i+j) o
  |0,_,_,_,j,h,_,_=>by omega
  |_+1,_, [],_,_,_,_,ho=>by simp at ho
  |k+1,i,o ::os,h,0,_,o',ho=>by simp at ho;subst ho;exact h.1
  | k+1,i,o ::os,h,j+1,hj,o',ho=>by
    have:=RgcAll.get k (i+1) os h.2 j (by omega) o' jt
    rwa [show i+(j+1)=i+1+j by omega]
theorem RgcAll.nil:RgcAll P ops Q ds a0 w0 R L C ch i 0 os:=by cases os <;> trivial
theorem KxG(g t:Nat)(b:Bool)(h:∀w,R w0 w->Ok P ops Q ds a0 w L [] i o)(hs:RgcAll P ops Q ds a0 w0 R L C ch (i+1) k os)(hg:o.guard=some (g,b):=by rfl)(hdst:qP ops g=some t:=by kernel_rfl)(h1:ds[g]? =some (some t):=by kernel_rfl)(h2:(ds.drop (g+1)).contains (some t)=false:=by kernel_rfl)(h3:decide (t<a0.tmps.size)=true:=by kernel_rfl)(hu:(ups .any ops i).contains g=true:=by kernel_rfl)
    (hL:L.getD g (λ_ _=>True)=IsV (.bool b):=by kernel_rfl) (hc:decide (i∈ch)=false:=by kernel_rfl):RgcAll P ops Q ds a0 w0 R L C ch i (k+1) (o ::os):=
  ⟨λw hw=>by rw[if_neg (of_decide_eq_false hc)];exact RgL.mkG g t b hg hdst h1 h2 h3 hu (λ_ _ h=>by rw[hL]at h;exact h) (h w hw).out,hs⟩
theorem KxN(h:∀w,R w0 w->Ok P ops Q ds a0 w L [] i o)(hs:RgcAll P ops Q ds a0 w0 R L C ch (i+1) k os)(hg:o.guard=none:=by rfl)(hc:decide (i∈ch)=false:=by kernel_rfl):RgcAll P ops Q ds a0 w0 R L C ch i (k+1) (o ::os):=
  ⟨λw hw=>by rw[if_neg (of_decide_eq_false hc)];exact RgL.mk hg (h w hw).out,hs⟩
theorem KcG(g t:Nat)(b:Bool)(h:∀w,R w0 w->OkC P ops Q ds a0 w0 w R L C ch i o)(hs:RgcAll P ops Q ds a0 w0 R L C ch (i+1) k os)(hg:o.guard=some (g,b):=by rfl)(hdst:qP ops g=some t:=by kernel_rfl)(h1:ds[g]? =some (some t):=by kernel_rfl)(h2:(ds.drop (g+1)).contains (some t)=false:=by kernel_rfl)(h3:decide (t<a0.tmps.size)=true:=by kernel_rfl)(hu:(ups .any ops i).contains g=true:=by kernel_rfl)
    (hL:L.getD g (λ_ _=>True)=IsV (.bool b):=by kernel_rfl) (hc:decide (i∈ch)=true:=by kernel_rfl):RgcAll P ops Q ds a0 w0 R L C ch i (k+1) (o ::os):=
  ⟨fun w hR=>by
    rw[if_pos (of_decide_eq_true hc)];intro hX v hd hC K hK;have hb:v g=.bool b:=by have:=hd g hu;rw[hL]at this;exact this
    have hy:=(Fr.of ds a0 v).yielded (ops:=ops) g t b hb hdst h1 h2 h3;rw[if_pos (by simp[Region.wanted,hg,hy])]
    exact h w hR hX v _ hd hC (Fr.of ds a0 v) K hK,hs⟩
def lkOk2(md:Region.Mode)(ops:Array Oper)(_n:Nat)(ch:List Nat):Bool:=
  (ch.all λi=>ch.all λj=> !decide (i<j)||(ups md ops j).contains i)
theorem firstN_getD{size n i:Nat}(h:i<size):(qG size n).getD i false=decide (i<n):=by simp[qG,h]
structure RSt (R:World->World->Prop) (fP:Value->World->Prop):Prop where
  out:∀x w w',R w w'->fP x w->fP x w'
theorem RSt.v{R:World->World->Prop}(u:Value):RSt R (IsV u):=⟨λ_ _ _ _ h=>h⟩
def AllRs(R:World->World->Prop)(rs:List Nat):Nat->List (Value->World->Prop)->Prop
  |_, []=>True
  |i,fP ::L=>(i∈rs\/RSt R fP)/\AllRs R rs (i+1) L
theorem AllRs.get{R:World->World->Prop}{rs:List Nat}:∀(L:List (Value->World->Prop)) (i:Nat),AllRs R rs i L->∀j,i+j∉rs->RSt R (L.getD j (λ_ _=>True))
  | [],_,_,_,_=>⟨λ_ _ _ _ _=>trivial⟩
  |fP ::L,i,h,0,hn=>h.1.resolve_left hn
  |fP ::L,i,h,j+1,hn=>AllRs.get L (i+1) h.2 j (by rw[show i+1+j=i+(j+1)by omega];exact hn)
theorem rgk2(n0 n:Nat)(ch rs:List Nat)(R:World->World->Prop)(ds:List (Option Tmp))(L:List (Value->World->Prop))(C:Nat->Value->World->Prop)(v0:Nat->Value)(ds0:List (Option Tmp))(fuel fuel':Nat)(hR:Rel R)
    (hop:RgcAll P ops Q ds a0 w0 R L C ch n0 (n-n0) (ops.toList.drop n0)) (hsC:∀i,Stb (C i)) (hstR:AllRs R rs 0 L)
    (h0:∀i,i<n0->L.getD i (λ_ _=>True) (v0 i) w0)
    (hend:∀v w,R w0 w->(∀i,i<n->L.getD i (λ_ _=>True) (v i) w)->wpAny P .any ops Q fuel (qG ops.size n) (qW v a0 0 ds) w)
    (hc0:ch.all (λk=>decide (n0<=k))=true:=by kernel_rfl) (hn:n<=ops.size:=by decide) (hn0:n0<=n:=by decide) (hf:ops.size-n=fuel:=by kernel_rfl) (hf':ops.size-n0=fuel':=by kernel_rfl) (hds:(List.range n).map (qP ops)=ds:=by kernel_rfl) (hds0:(List.range n0).map (qP ops)=ds0:=by kernel_rfl) (hap:qO ops n=true:=by kernel_rfl) (htp:xD .any ops n []=true:=by kernel_rfl) (hcl:(List.range n0).all (λi=>(qS .any ops i).all λe=>decide (e<n0))=true:=by kernel_rfl) (hlk:lkOk2 .any ops n ch=true:=by kernel_rfl) (hrs:rs.all (λi=>ch.all λk=>decide (k=i)||(ups .any ops i).contains k)=true:=by kernel_rfl)
    (hst:AllStb L:=by exact AStb.out):wpAny P .any ops Q fuel' (qG ops.size n0) (qW v0 a0 0 ds0) w0:=by
  simp only[lkOk2,List.all_eq_true,List.mem_range,Bool.or_eq_true,Bool.not_eq_true',decide_eq_false_iff_not,jY]at hlk hcl hc0 hrs;have k1:=hlk;have hg0:∀i,i<ops.size->(qG ops.size n0).getD i false=decide (i<n0):=λi hi=>firstN_getD hi
  have hge:∀i,ops.size<=i->(qG ops.size n0).getD i false=false:=λi hi=>by simp[qG,Nat.not_lt.2 hi]
  have hall:∀i,(qG ops.size n0).getD i false=true->i<n0:=λi hi=>by
    rcases jU i ops.size with h|h
    ·rw[hg0 i h]at hi;exact of_decide_eq_true hi
    ·rw[hge i h]at hi;cases hi
  have hcount:∀m,m<=ops.size->qU (qG ops.size n0) m=min m n0:=λm=>by
    induction m with
    |zero=>intro _;simp[qU]
    | succ m ih=>
      intro hm;have h:=ih (by omega);unfold qU at h ⊢;rw[List.range_succ,List.countP_append,h,List.countP_singleton,hg0 m (by omega)];by_cases e:m<n0 <;> simp[e] <;> omega
  obtain⟨v1,hv1⟩:∃v1:Nat->Value,v1=λi=>if i<n0 then v0 i else(match qP ops i with|some t=>(qW v0 a0 0 ds0).tmps.getD t undef|none=>undef):=⟨_,rfl⟩
  have hlo:∀m,m<=n0->qT ops v1 a0 m=qT ops v0 a0 m:=λm=>by
    induction m with
    |zero=>intro _;rfl
    |succ m ih=>intro hm;rw[qT,qT,ih (by omega),hv1];simp only;rw[if_pos (by omega)]
  have hlay:∀m,qT ops v1 a0 (n0+m)=qW v0 a0 0 ds0:=λm=>by
    induction m with
    |zero=>rw[Nat.add_zero,hlo n0 (jP _),qY v0 a0 n0 ds0 hds0]
    | succ m ih=>
      rw[<-Nat.add_assoc,qT,ih,hv1];simp only;rw[if_neg (by omega)];exact put_self _ _
  have hl:=hlay (n-n0);rw[show n0+(n-n0)=n by omega]at hl;rw[<-hl]
  refine rgk_main2 (P:=P) (md:=.any) (Q:=Q) (a0:=a0) (w0:=w0) n0 n ch rs R (λi=>L.getD i (λ_ _=>True)) C hn hap htp (λi j hi hj hij=>(k1 i hi j hj).resolve_left (by omega)) hR.tr hR.ext (λi _=>hst.get i) hsC hrs (λi _ hn=>(AllRs.get L 0 hstR i (by rw[Nat.zero_add];exact hn)).out)
    (fun i hi0 hi o ho v w hRw hXw hd hdC K hK=>by
      have h:=RgcAll.get (n-n0) n0 _ hop (i-n0) (by omega) o (by rw[List.getElem?_drop,show n0+(i-n0)=i by omega];simpa using ho) w hRw;rw[show n0+(i-n0)=i by omega]at h;rw[qY v a0 n ds hds]at hK ⊢;by_cases hc:i∈ch
      · rw[if_pos hc]at h
        exact h (hXw hc) v hd (hdC hc) K (λx w' hx hL hLC=>hK x w' (by rw[if_pos hc];exact hx) hL (λ_=>hLC))
      · rw[if_neg hc]at h
        exact h v w (Ext.refl _) hd K (λx w' hx hL _=>hK x w' (by rw[if_neg hc];exact hx) hL (λh=>absurd h hc)))
    (λv w hRw hZ=>by rw[qY v a0 n ds hds,hf];exact hend v w hRw hZ)
    fuel' (qG ops.size n0) v1 w0 (by simp[qG]) (λj hj=>?_) ?_ (λi hi e he=>?_) (λi hi=>?_) (hR.ext (Ext.refl w0)) (λ_=>Ext.refl w0) (λi _ hi=>?_) (λi hic _ hi _=>?_)
  · cases hq:(qG ops.size n0).getD j false
    ·rfl
    ·have:=hall j hq;omega
  ·rw[hcount n hn];omega
  · have h1:=hall i hi
    have h2:=hcl i h1 e he;rw[hg0 e (by omega)];exact decide_eq_true h2
  ·rw[hg0 i (by omega)];exact decide_eq_true hi
  · have h1:=hall i hi
    rw[hv1];simp only;rw[if_pos h1];exact h0 i h1
  · have h1:=hall i hi
    have h2:=hc0 i hic;omega
end
end
section
open Go Go.RowKit Go.Maps Go.Shelf
set_option maxRecDepth 100000
set_option maxHeartbeats 8000000
attribute [local go_sem] Oper.semAt_some
theorem OutX.of{res:Res Kn}{left:Nat}{rs hs:List Value}{u:Value}{w0 W:World}{g:Nat}{us:List Value}(h:IsOutX res left rs hs u w0)(hu:u=.agg us.toArray)(E:Ext w0 W)(B:Bk W g us):OutX res left rs hs g W:=by
 obtain⟨vl,ha,hn,hc,ra,rn,rc,e,h1,h2,h3,h4,h5,h6⟩:=h;rw[hu]at e;obtain rfl:us=_:=congrArg Array.toList (Value.agg.inj e);obtain⟨v0,v1,v2,v3,v4,v5,v6,v7,v8,v9,v10,rfl⟩:=len11 h1;exact⟨⟨_,ha,hn,hc,rfl,λj v hj=>B.c j v (getE_app _ [Value.slice ra rn rc,.int .i64 (left:Int)] hj),IsVl.stb _ _ _ _ _ E h4,h5.ext E⟩,⟨ra,rn,rc,B.c 11 _ rfl,h6.ext E⟩,B.c 12 _ rfl⟩
theorem IsOutX.us{res:Res Kn}{left:Nat}{rs hs:List Value}{u:Value}{w:World}(h:IsOutX res left rs hs u w):∃us:List Value,u=.agg us.toArray/\us.length=13/\us.all (λu=>u.oneCell')=true:=by
 obtain⟨vl,ha,hn,hc,ra,rn,rc,rfl,h1,h2,-⟩:=h;exact⟨vl++ [Value.slice ra rn rc,Value.int .i64 (left:Int)],rfl,by rw[jT,h1];rfl,by rw[List.all_append,h2];rfl⟩
theorem sameO_t{w:World}{r:Res Kn}{left:Nat}{rd:List (List UInt8)}{hl:List Int}{x y:Value}(hx:IsOutX r left (rd.map encStr) (hl.map (Value.int .i64)) x w)(hy:IsOutX r left (rd.map encStr) (hl.map (Value.int .i64)) y w)(hk:hl.length<=1000000)(hr:rd.length<=1000000):Calls Tryz.prog 15 #[x,y] w (Ret w (IsV (.bool true))):=by
 obtain⟨us,rfl,lu,ou⟩:=hx.us;obtain⟨vs,rfl,lv',ov⟩:=hy.us;obtain⟨W,hW,E,B2,B3⟩:∃W,W=(w.alloc (.cells us.toArray 53)).alloc (.cells vs.toArray 53)/\Ext w W/\Bk W w.heap.size us/\Bk W (w.heap.size+1) vs:=zy;have OA:=OutX.of hx rfl E B2;have OB:=OutX.of hy rfl E B3;have HK:=hid (jO hk hr);clear hk hr hx hy B2 B3 lu lv' ou ov;go_enter Tryz.func15,Tryz.ntmps15;go_upto_region 1 with fail;rw[<-hW];clear hW;obtain⟨b,hb⟩:∃b,w.heap.size=b:=⟨_,rfl⟩;rw[hb]at OA OB ⊢;obtain⟨ra,rn,rc,cA,rA⟩:=OA.rd;obtain⟨qa,qn,qc,cB,rB⟩:=OB.rd;have RA:=hid rA;have RB:=hid rB;have lA:=OA.left;have lB:=OB.left;clear rA rB;refine rgs 19 (dR 5 19) [IsP b 0,IsVh r (hl.map (Value.int .i64)),IsP (b+1) 0,IsVh r (hl.map (Value.int .i64)),IsV (.bool true),IsV (.bool true),IsP b 11,IsV (.slice ra rn rc),IsP (b+1) 11,IsV (.slice qa qn qc),IsV (.bool true),IsV (.bool true),IsV (.bool true),IsP b 12,iV (left:Int),IsP (b+1) 12,iV (left:Int),IsV (.bool true),IsV (.bool true)] [] ?_ ?_
 ·refine Rc (fa (xO (b)) (qB (x:=.pointer (some ⟨b,0,none⟩)) 2)) ?_;refine Rc (ldVh OA (qA (fP:=IsP b 0) 0 5)) ?_;refine Rc (fa (xO (b+1)) (qB (x:=.pointer (some ⟨b+1,0,none⟩)) 3)) ?_;refine Rc (ldVh OB (qA (fP:=IsP (b+1) 0) 2 7)) ?_;refine Rc (cl2 (en Tryz.func23) (qA (fP:=IsVh r (hl.map (Value.int .i64))) 1 6) (qA (fP:=IsVh r (hl.map (Value.int .i64))) 3 8) (λx0 x1 w' hE d0 d1=>by{exact sameV_t d0 d1 HK.out.1})) ?_;refine Rc (mv (qA (fP:=IsV (.bool true)) 4 9)) ?_;refine RcG 5 10 true (fa (fa_Out1 (b)) (qB (x:=.pointer (some ⟨b,0,none⟩)) 2)) ?_;refine RcG 5 10 true (lv (fP:=IsV (.slice ra rn rc)) _ (λw' e=>ld_aStr w' _ _ (e.cell cA)) (qA (fP:=IsP b 11) 6 11) (λ_ _=>rfl)) ?_;refine RcG 5 10 true (fa (fa_Out1 (b+1)) (qB (x:=.pointer (some ⟨b+1,0,none⟩)) 3)) ?_;refine RcG 5 10 true (lv (fP:=IsV (.slice qa qn qc)) _ (λw' e=>ld_aStr w' _ _ (e.cell cB)) (qA (fP:=IsP (b+1) 11) 8 13) (λ_ _=>rfl)) ?_;refine RcG 5 10 true (cl2 (en Tryz.func24) (qA (fP:=IsV (.slice ra rn rc)) 7 12) (qA (fP:=IsV (.slice qa qn qc)) 9 14) (λx0 x1 w' hE d0 d1=>by{obtain rfl:x0=.slice ra rn rc:=d0;obtain rfl:x1=.slice qa qn qc:=d1;exact sameS_t (RA.out.ext hE) (RB.out.ext hE) HK.out.2})) ?_;refine Rc (pk (qC 5 10) (qA (fP:=IsV (.bool true)) 10 15)) ?_;refine Rc (mv (qA (fP:=IsV (.bool true)) 11 16)) ?_;refine RcG 12 17 true (fa (fa_Out2 (b)) (qB (x:=.pointer (some ⟨b,0,none⟩)) 2)) ?_;refine RcG 12 17 true (lv (fP:=iV (left:Int)) _ (λw' e=>xE w' _ _ (e.cell lA)) (qA (fP:=IsP b 12) 13 18) (λ_ _=>rfl)) ?_;refine RcG 12 17 true (fa (fa_Out2 (b+1)) (qB (x:=.pointer (some ⟨b+1,0,none⟩)) 3)) ?_;refine RcG 12 17 true (lv (fP:=iV (left:Int)) _ (λw' e=>xE w' _ _ (e.cell lB)) (qA (fP:=IsP (b+1) 12) 15 20) (λ_ _=>rfl)) ?_;refine RcG 12 17 true (bn (r:=.bool true) (qC 14 19) (qC 16 21) (hr:=λw=>by go_simp)) ?_;refine Rc (pk (qC 12 17) (qA (fP:=IsV (.bool true)) 17 22)) ?_;exact rn0
 intro v X e1 hZ _;simp only[lxE,Nat.reduceAdd];rw[show v 18=.bool true from hZ 18 dcx];replace E:=E.trans e1;clear e1 hZ;go_wp2_with fail
 go_ret
 exact⟨_,rfl,E,rfl⟩
end
section
open Go Go.RowKit Go.Maps Go.Shelf
open Go.Proofs.Tryz
attribute [local go_sem] Oper.semAt_some
set_option maxRecDepth 100000
/-! ### The data of the entries,with one more -/
theorem bestH_hy{hy hy':List Value ->List Int}{gs:List Int}{L:List (List Value)}{x:ByteArray}(h:∀vs∈L,hy' vs =hy vs):xY hy' gs L x =xY hy gs L x:=by
 unfold xY
 have h1:(L.filter (λvs =>decide (xH vs =x))).filter (λvs => !(hy' vs).any (λh => !gs.any (λy =>decide (y =h))))=(L.filter (λvs =>decide (xH vs =x))).filter (λvs => !(hy vs).any (λh => !gs.any (λy =>decide (y =h)))) :=
  List.filter_congr λvs hv =>by rw[h vs (List.mem_filter.1 hv).1]
 rw[h1]
 obtain⟨M,hM⟩:∃M,(L.filter (λvs =>decide (xH vs =x))).filter (λvs => !(hy vs).any (λh => !gs.any (λy =>decide (y =h))))=M:=⟨_,rfl⟩
 have h2:∀vs∈M,hy' vs =hy vs:=λvs hv =>by rw[<-hM]at hv;exact h vs (List.mem_filter.1 (List.mem_filter.1 hv).1).1
 rw[hM]
 clear hM h1 h
 cases M with
 |nil =>rfl
 | cons a t =>
  simp only[bestL,Option.some.injEq]
  have h3:∀(t:List (List Value)) (a:List Value),hy' a =hy a ->(∀vs∈t,hy' vs =hy vs) ->jA (λvs =>(hy' vs).length) t a =jA (λvs =>(hy vs).length) t a:=by
   intro t
   induction t with
   |nil =>intro a _ _;rfl
   | cons b t ih =>
    intro a ha hb
    simp only[jA]
    have hb0:=hb b List.mem_cons_self
    by_cases hlt:(hy b).length < (hy a).length
    ·rw[if_pos (show(hy' b).length < (hy' a).length by rw[hb0,ha];exact hlt),if_pos hlt]
     exact ih b hb0 (λvs hv =>hb vs (List.mem_cons_of_mem _ hv))
    ·rw[if_neg (show ¬(hy' b).length < (hy' a).length by rw[hb0,ha];exact hlt),if_neg hlt]
     exact ih a ha (λvs hv =>hb vs (List.mem_cons_of_mem _ hv))
  exact h3 t a (h2 a List.mem_cons_self) (λvs hv =>h2 vs (List.mem_cons_of_mem _ hv))
theorem bsG_dat{L:List (List Value)}{dat dat':List Value ->EnD}{gs:List Int}{y:List UInt8}(h:∀vs∈L,dat' vs =dat vs):bsG L dat' gs y =bsG L dat gs y:=by
 unfold bsG
 rw[bestH_hy (hy:=λvs =>(dat vs).hyps) (λvs hv =>by rw[h vs hv])]
 cases hb:xY (λvs =>(dat vs).hyps) gs L ⟨y.toArray⟩with
 |none =>rfl
 |some vs =>simp only[Option.map_some];rw[h vs (bestH_mem hb)]
structure ShE (cs:List qJ) (L:List (List Value)) (dat:List Value ->EnD) (sv:Value) (w:World):Prop where
 sr:HdS L sv w
 ent:∀vs∈L,EntAt w.heap.size (dat vs) (vs.take 31) w
 hy:∀vs∈L,∃u,vs[30]? =some u/\IrR (dat vs).hyps u w
 ok:∀gs:List Int,gs.length <=1000 ->ShpMOk [1,2,3] cs L dat gs
theorem ShE.ext{cs:List qJ}{L:List (List Value)}{dat:List Value ->EnD}{sv:Value}{w w':World}(h:ShE cs L dat sv w)(e:Ext w w'):ShE cs L dat sv w':=
 ⟨h.sr.ext e,λvs hv =>((h.ent vs hv).rm (Rm.ext (h:=w.heap.size) e) (jP _)).up e.size,λvs hv =>let ⟨u,k1,k2⟩ :=h.hy vs hv;⟨u,k1,k2.ext e⟩,h.ok⟩
theorem ShE.sub{cs:List qJ}{L L':List (List Value)}{dat:List Value ->EnD}{sv sv':Value}{w:World}(h:ShE cs L dat sv w)(hs:∀vs∈L',vs∈L)(hl:L'.length <=L.length)(h':HdS L' sv' w):ShE cs L' dat sv' w:=
 ⟨h',λvs hv =>h.ent vs (hs vs hv),λvs hv =>h.hy vs (hs vs hv),λgs hg =>let k:=h.ok gs hg;⟨k.cl,k.ck,jQ hl k.ll,λvs hv =>k.lk vs (hs vs hv),λvs hv =>k.ln vs (hs vs hv),k.gl,λvs hv =>k.dk vs (hs vs hv)⟩⟩
open Classical in
theorem ShE.more{cs:List qJ}{L L2:List (List Value)}{dat:List Value ->EnD}{sv sv2:Value}{w:World}(h:ShE cs L dat sv w)(hs2:HdS L2 sv2 w)(hL:∀vs∈L2,∃p,HeldW p vs w)(h1:cs.length <=4)(h2:cellOk [3] cs)(h3:∀d∈cs,d.hyps.length <=1)(hl:L2.length <=1000):
  ∃dat2,(∀vs∈L,dat2 vs =dat vs)/\ShE cs L2 dat2 sv2 w:=by
 refine⟨λvs =>if vs∈L then dat vs else datW w vs,λvs hv =>if_pos hv,hs2,λvs hv =>?_,λvs hv =>?_,λgs hg =>?_⟩
 ·by_cases hm:vs∈L
  ·simp only[if_pos hm];exact h.ent vs hm
  ·simp only[if_neg hm]
   obtain⟨p,hp⟩ :=hL vs hv
   obtain⟨nm,hn⟩ :=datW_at hp
   exact hn.at
 ·by_cases hm:vs∈L
  ·simp only[if_pos hm];exact h.hy vs hm
  ·simp only[if_neg hm]
   obtain⟨p,hp⟩ :=hL vs hv
   obtain⟨nm,hn⟩ :=datW_at hp
   obtain⟨u,k1,k2,-⟩ :=hn.hyr
   refine⟨u,?_,k2⟩
   rw[List.getElem?_take]at k1
   simpa using k1
 ·have k:=shpOk_of (gs:=gs) h1 h2 h3 hl hL hg
  have k':=h.ok gs hg
  refine⟨k.cl,k.ck,k.ll,k.lk,k.ln,k.gl,λvs hv =>?_⟩
  by_cases hm:vs∈L
  ·simp only[if_pos hm];exact k'.dk vs hm
  ·simp only[if_neg hm];exact k.dk vs hv
theorem bsG_gs{L:List (List Value)}{dat:List Value ->EnD}{gs:List Int}{k:Int}(h:∀vs∈L,k ∉ (dat vs).hyps)(y:List UInt8):bsG L dat (gs ++ [k]) y =bsG L dat gs y:=by
 unfold bsG;rw[bestH_gs h]
theorem baU{x y:ByteArray}(h:x.toList =y.toList):x =y:=by rw[ByteArray.toList_eq,ByteArray.toList_eq]at h;exact ByteArray.ext (Array.toList_inj.1 h)
/-! ### Rows -/
theorem IsHw.only{base k:Nat}{M:List (List Value)}{v:Value}{w w':World}(h:IsHw base M v w)(O:OnlyB k w w')(hk:k < base):IsHw base M v w':=
 ⟨h.1.grown O.gb (λg hg e =>by have:=(h.1.own_lt hg).2;have:=Option.some.inj e;omega),h.2.kept (λg hg =>O.block g (λe =>by have:=(h.1.own_lt hg).2;omega))⟩
theorem IsHw.shape{base:Nat}{M:List (List Value)}{v:Value}{w:World}(h:IsHw base M v w):∃a n c,v =.slice a n c:=let ⟨_ao,_cap,k,_⟩ :=h.1.shape;⟨_,_,_,k⟩
section
variable {ops:Array Oper} {Q:Exit ->Act ->World ->Prop} {ds:List (Option Tmp)} {a0:Act} {w0:World} {L:List (Value ->World ->Prop)} {boxes:List Nat} {i k:Nat} {o:Oper} {os:List Oper}
theorem cl6{P:Program}{f:FuncId}{c:Call}{x1 x2 x3 x4 x5 x6:Operand}{R1 U2 R3 R4 P5 P6 fQ:Value ->World ->Prop}(he:∀args w,(callFunc f args).run P w =.ok (.enter f args) w)(h1:Od ops ds a0 w0 L i x1 R1)(h2:Od ops ds a0 w0 L i x2 U2)(h3:Od ops ds a0 w0 L i x3 R3)(h4:Od ops ds a0 w0 L i x4 R4)(h5:Od ops ds a0 w0 L i x5 P5)(h6:Od ops ds a0 w0 L i x6 P6)
  (h:∀u1 u2 u3 u4 u5 u6 w,Ext w0 w ->R1 u1 w ->U2 u2 w ->R3 u3 w ->R4 u4 w ->P5 u5 w ->P6 u6 w ->Calls P f #[u1,u2,u3,u4,u5,u6] w (Ret w fQ))
  (ho:o.op =.call c:=by rfl) (hc:c.callee =.value (.func f) :=by rfl) (ha:c.args = #[x1,x2,x3,x4,x5,x6] :=by rfl) (hi:L.getD i (λ_ _ =>True)=fQ:=by kernel_rfl) (hb:boxes.contains i =false:=by kernel_rfl):Ok P ops Q ds a0 w0 L boxes i o:=
 cl he ho hc hi hb λv a w hE hd hf =>by
  rw[ha,show(#[x1,x2,x3,x4,x5,x6]:Array Operand).map a.eval = #[a.eval x1,a.eval x2,a.eval x3,a.eval x4,a.eval x5,a.eval x6]by simp]
  exact h _ _ _ _ _ _ w hE (h1.out v a w hE hd hf) (h2.out v a w hE hd hf) (h3.out v a w hE hd hf) (h4.out v a w hE hd hf) (h5.out v a w hE hd hf) (h6.out v a w hE hd hf)
def IsE1(base:Nat)(nm:ByteArray):Value ->World ->Prop:=λx w =>∃es,x =.agg es.toArray/\EnS base nm 1 es w
theorem IsE1.stb(base:Nat)(nm:ByteArray):Stb (IsE1 base nm) :=λ_ _ _ e ⟨es,h1,h2⟩ =>⟨es,h1,h2.ext e⟩
instance (base:Nat) (nm:ByteArray):StbC (IsE1 base nm) :=⟨IsE1.stb base nm⟩
theorem bsE1{base:Nat}(hb0:base <=w0.heap.size){x:Operand}(hx:Od ops ds a0 w0 L i x IsZ)(ho:o.op =.buildSlice 69 1 #[(0,x)] :=by rfl)(hi:L.getD i (λ_ _ =>True)=IsIE base 1:=by kernel_rfl)(hb:boxes.contains i =false:=by kernel_rfl):Ok prog ops Q ds a0 w0 L boxes i o:=
 xZ hb λv a w hE hd hf =>by
  obtain⟨z,s,b,n,c,h1,h2⟩ :=hx.out v a w hE hd hf
  rw[h1]at h2
  have hr:(Instr.buildSlice 69 1 #[(0,.agg #[.bool s,.slice b n c])]).run prog w =.ok (.slice (some ⟨w.heap.size,0,none⟩) 1 1) (w.alloc (.cells #[.bool s,.slice b n c] 28)) :=ja
  have hk:IntsAt [.bool s,.slice b n c] 1 (w.alloc (.cells #[.bool s,.slice b n c] 28)) :=IntsAt.cons (h2.ext ((Ext.refl w).alloc _)) (IntsAt.nil _)
  have hnw:NwB (w.alloc (.cells #[.bool s,.slice b n c] 28)) (.slice (some ⟨w.heap.size,0,none⟩) 1 1) :=by
   intro g cs e fz hg ho' u hu
   cases hg
   rw[jW]at ho'
   cases ho'
   exact hk.nw.2 u (by simpa using hu)
  exact⟨_,_,jH ho (by simp only[List.map_toArray,List.map_cons,List.map_nil];rw[h1];exact hr),(Ext.refl w).alloc _,by rw[hi];exact⟨_,World.ownsRow_lit (base:=base) w #[.bool s,.slice b n c] 1 (jQ hb0 hE.size) dcx rfl,hnw,hk⟩⟩
theorem bdE1{base:Nat}{nm:ByteArray}{x y:Operand}(hx:Od ops ds a0 w0 L i x (IsV (.string nm)))(hy:Od ops ds a0 w0 L i y (IsIE base 1))(ho:o.op =.build 95 #[(0,x),(1,y)] :=by rfl)(hi:L.getD i (λ_ _ =>True)=IsE1 base nm:=by kernel_rfl)(hb:boxes.contains i =false:=by kernel_rfl):Ok prog ops Q ds a0 w0 L boxes i o:=
 xZ hb λv a w hE hd hf =>by
  have h1:a.eval x =_:=hx.out v a w hE hd hf
  have h2:=hy.out v a w hE hd hf
  obtain⟨b,c,hbc⟩:∃b c,a.eval y =.slice b 1 c:=by obtain⟨xs,k1,-⟩ :=h2;obtain⟨ao,cap,k,-⟩ :=k1.shape;exact⟨_,_,k⟩
  rw[hbc]at h2
  exact⟨_,w,bdG ho (by simp only[List.map_toArray,List.map_cons,List.map_nil];rw[h1,hbc];exact bd_EnV nm b 1 c w),Ext.refl w,by rw[hi];exact⟨_,rfl,b,c,none,0, [],rfl,by decide,by decide,h2,by decide,λz hz =>absurd hz List.not_mem_nil,λh =>absurd rfl h⟩⟩
theorem HeldW.form{p:Int×Int×Int}{vs:List Value}{w:World}(h:HeldW p vs w):∃nm va vn vc ha hn hc a n c,vs =jI nm va vn vc ha hn hc ++ [Value.slice a n c] :=by
 obtain⟨nm,d,es,g,o,c,rfl,⟨-,-,-,va,vc,ha,hc,rfl,-⟩,-⟩ :=h
 exact⟨nm,va,_,vc,ha,_,hc,_,_,_,rfl⟩
theorem ld_HdA{w:World}{g f:Nat}{vs:List Value}(hl:vs.length =32)(hc:∀q u,vs[q]? =some u ->World.cell? w ⟨g,f + q,none⟩=some u):(Instr.loadAt 98 (.pointer (some ⟨g,f,none⟩))).run prog w =.ok (.agg vs.toArray) w:=ldM za za hl hc
theorem fa_EnA(g f:Nat)(w:World):(Instr.fieldAt 95 (.pointer (some ⟨g,f,none⟩)) 0).run prog w =.ok (.pointer (some ⟨g,f,none⟩)) w:=by go_simp
theorem bsHv{p:Int×Int×Int}{vs:List Value}{W:World}{x:Operand}(hf':HeldW p vs W)(hx:Od ops ds a0 w0 L i x (IsV (.agg vs.toArray)))(ho:o.op =.buildSlice 37 1 #[(0,x)] :=by rfl)(hi:L.getD i (λ_ _ =>True)=IsSrc 1 vs:=by kernel_rfl)(hb:boxes.contains i =false:=by kernel_rfl):Ok prog ops Q ds a0 w0 L boxes i o:=
 xZ hb λv a w hE hd hf =>by
  have h1:a.eval x =_:=hx.out v a w hE hd hf
  obtain⟨nm,va,vn,vc,ha,hn,hc,a',n',c',rfl⟩ :=hf'.form
  exact⟨_,_,jH ho (by simp only[List.map_toArray,List.map_cons,List.map_nil];rw[h1];exact bs_HeE _ _ _ _ _ _ _ _ _ _ _),(Ext.refl w).alloc _,by rw[hi];exact SrcR.new w (jI nm va vn vc ha hn hc ++ [Value.slice a' n' c']).toArray _ 1 1⟩
theorem bd_So0(w:World):(Instr.build 102 #[]).run prog w =.ok (.agg #[.int .i64 0,.int .i64 0,.int .i64 0]) w:=by go_simp
theorem bd_Sh0(w:World):(Instr.build 39 #[]).run prog w =.ok (.agg #[.slice none 0 0]) w:=by go_simp
end
/-! ### Results loaded;rows of numbers that grow in a region -/
theorem IsVl.one{res:Res Kn}{a:Option Addr}{n c:Nat}{vl:List Value}{W:World}(h3:IsVl res (.slice a n c) (.agg vl.toArray) W):vl.all (λu =>u.oneCell')=true/\∀v∈vl,NoWord v:=by
 cases res with
 | error m =>
  have e:=Value.agg.inj h3
  have e:vl =_:=congrArg Array.toList e
  rw[e]
  exact⟨rfl,λv hv =>by simp at hv;rcases hv with rfl|rfl|rfl|rfl|rfl|rfl|rfl|rfl|rfl|rfl|rfl <;> first|exact NoWord.bool _|exact NoWord.slice _ _ _|exact NoWord.int64 _⟩
 | ok q =>
  obtain⟨s1,a1,n1,c1,s2,a2,n2,c2,s3,a3,n3,c3,s4,a4,n4,c4,e,k1,k2⟩ :=h3
  have e:=Value.agg.inj e
  have e:vl =_:=congrArg Array.toList e
  rw[e]
  exact⟨rfl,λv hv =>by
   simp at hv
   rcases hv with rfl|rfl|rfl|rfl|rfl|rfl|rfl|rfl|rfl|rfl|rfl <;> first|exact NoWord.bool _|exact NoWord.slice _ _ _|exact NoWord.int64 _⟩
theorem OutX.val{res:Res Kn}{left:Nat}{rs hs:List Value}{g:Nat}{W:World}(h:OutX res left rs hs g W):∃us:List Value,us.length =13/\ (∀j v,us[j]? =some v ->World.cell? W ⟨g,j,none⟩=some v)/\IsOutX res left rs hs (.agg us.toArray) W:=by
 obtain⟨⟨vl,ha,hn,hc,h1,h2,h3,h4⟩,⟨ra,rn,rc,h5,h6⟩,h7⟩ :=h
 refine⟨vl ++ [Value.slice ra rn rc,Value.int .i64 (left:Int)],by rw[jT,h1];rfl,λj v hj =>?_,vl,ha,hn,hc,ra,rn,rc,rfl,h1,h3.one.1,h3.one.2,h3,h4,h6⟩
 rcases jU j 11 with h|h
 ·rw[List.getElem?_append_left (by omega)]at hj;exact h2 j v hj
 ·rw[List.getElem?_append_right (by omega),h1]at hj
  obtain⟨d,rfl⟩:∃d,j =11 + d:=⟨j - 11,by omega⟩
  rw[show 11 + d - 11 =d by omega]at hj
  match d with
  |0 =>cases hj;exact h5
  |1 =>cases hj;exact h7
  |d + 2 =>simp at hj
theorem one_new(X:World):OneS X.heap.size (X.alloc (.cells [Value.slice none 0 0].toArray 39)) :=by
 refine⟨λo =>?_,by simp,none,0,0,(Bk.new X [Value.slice none 0 0].toArray 39).c 0 _ rfl⟩
 simp only[World.cell?]
 rw[jW]
 simp
def IsNo(B:Nat):Value ->World ->Prop:=λx w =>∃g,x =.pointer (some ⟨g,0,none⟩)/\B <=g/\Bk w g [.slice none 0 0]/\OneS g w
theorem IsNo.stb(B:Nat):Stb (IsNo B) :=λ_ _ _ e ⟨g,h1,h2,h3,h4⟩ =>⟨g,h1,h2,h3.ext e,h4.ext e⟩
instance (B:Nat):StbC (IsNo B) :=⟨IsNo.stb B⟩
section
variable {ops:Array Oper} {Q:Exit ->Act ->World ->Prop} {ds:List (Option Tmp)} {a0:Act} {w0:World} {L:List (Value ->World ->Prop)} {boxes:List Nat} {i k:Nat} {o:Oper} {os:List Oper}
theorem alNo{B:Nat}(hB:B <=w0.heap.size)(ho:o.op =.alloc 39:=by rfl)(hi:L.getD i (λ_ _ =>True)=IsNo B:=by kernel_rfl)(hb:boxes.contains i =false:=by kernel_rfl):Ok prog ops Q ds a0 w0 L boxes i o:=
 ⟨fun v a w hE hd hf K hK =>by
  have hrun:(execOp a.eval o).run prog w =.ok (.value (.pointer (some ⟨w.heap.size,0,none⟩))) (w.alloc (.cells [Value.slice none 0 0].toArray 39)) :=by
   unfold execOp
   rw[ho]
   dsimp only
   simp[al_ShN w]
  unfold Oper.wp
  rw[hrun]
  exact hK.out _ _ ((Ext.refl w).alloc _) (by rw[hi];exact⟨_,rfl,jQ hB hE.size,Bk.new w [Value.slice none 0 0].toArray 39,one_new w⟩) (FreshIf.no hb)⟩
end
def Rn9(B:Nat)(w w':World):Prop:=w.heap.size <=w'.heap.size/\ (B <=w.heap.size ->Below B w w')/\∀g,World.cell? w ⟨g,0,none⟩=some (.int .i64 9) ->World.cell? w' ⟨g,0,none⟩=some (.int .i64 9)
theorem Rn9.rel(B:Nat):Rel (Rn9 B) :=⟨λh k =>⟨jQ h.1 k.1,λhb =>Below.trans (h.2.1 hb) (k.2.1 (jQ hb h.1)),λg hg =>k.2.2 g (h.2.2 g hg)⟩,λe =>⟨e.size,λhb =>e.mono hb,λ_g hg =>e.cell hg⟩⟩
theorem Rn9.ext{w w':World}(h:Rn9 w.heap.size w w'):Ext w w':=h.2.1 (jP _)
def IsE0:Value ->World ->Prop:=λx _ =>∃g,x =.slice (some ⟨g,0,none⟩) 0 0
theorem IsE0.stb:Stb IsE0:=λ_ _ _ _ h =>h
instance:StbC IsE0:=⟨IsE0.stb⟩
def IsN9:Value ->World ->Prop:=λx w =>∃h,x =.slice (some ⟨h,0,none⟩) 1 1/\World.cell? w ⟨h,0,none⟩=some (.int .i64 9)
theorem IsN9.stb:Stb IsN9:=λ_ _ _ e ⟨h,h1,h2⟩ =>⟨h,h1,e.cell h2⟩
instance:StbC IsN9:=⟨IsN9.stb⟩
def IsTT:Value ->World ->Prop:=λ_ _ =>True
theorem IsTT.stb:Stb IsTT:=λ_ _ _ _ _ =>trivial
instance:StbC IsTT:=⟨IsTT.stb⟩
theorem RSt.tt{R:World ->World ->Prop}:RSt R IsTT:=⟨λ_ _ _ _ _ =>trivial⟩
theorem RSt.e0{R:World ->World ->Prop}:RSt R IsE0:=⟨λ_ _ _ _ h =>h⟩
theorem RSt.n9(B:Nat):RSt (Rn9 B) IsN9:=⟨λ_ _ _ h ⟨g,h1,h2⟩ =>⟨g,h1,h.2.2 g h2⟩⟩
section
variable {ops:Array Oper} {Q:Exit ->Act ->World ->Prop} {ds:List (Option Tmp)} {a0:Act} {w0:World} {L:List (Value ->World ->Prop)} {boxes:List Nat} {i k:Nat} {o:Oper} {os:List Oper}
theorem bsE0(ho:o.op =.buildSlice 41 0 #[] :=by rfl)(hi:L.getD i (λ_ _ =>True)=IsE0:=by kernel_rfl)(hb:boxes.contains i =false:=by kernel_rfl):Ok prog ops Q ds a0 w0 L boxes i o:=
 xZ hb λv a w hE hd hf =>by
  have hr:(Instr.buildSlice 41 0 #[]).run prog w =.ok (.slice (some ⟨w.heap.size,0,none⟩) 0 0) (w.alloc (.cells #[] 3)) :=ja
  exact⟨_,_,jH ho (by simp only[List.map_toArray,List.map_nil];exact hr),(Ext.refl w).alloc _,by rw[hi];exact⟨_,rfl⟩⟩
theorem bsN9(ho:o.op =.buildSlice 41 1 #[(0,.const (.int .i64 9))] :=by rfl)(hi:L.getD i (λ_ _ =>True)=IsN9:=by kernel_rfl)(hb:boxes.contains i =false:=by kernel_rfl):Ok prog ops Q ds a0 w0 L boxes i o:=
 xZ hb λv a w hE hd hf =>by
  have hr:(Instr.buildSlice 41 1 #[(0,.int .i64 9)]).run prog w =.ok (.slice (some ⟨w.heap.size,0,none⟩) 1 1) (w.alloc (.cells #[.int .i64 9] 3)) :=ja
  exact⟨_,_,jH ho (by simp only[List.map_toArray,List.map_cons,List.map_nil];exact hr),(Ext.refl w).alloc _,by rw[hi];exact⟨_,rfl,(Bk.new w #[.int .i64 9] 3).c 0 _ rfl⟩⟩
end
theorem evT{a:Act}{t:Nat}{x:Value}(h:a.tmps[t]?.getD undef =x):a.eval (.tmp t)=x:=by rw[<-h];simp[Act.eval]
theorem IsN9.ir{x:Value}{w:World}(h:IsN9 x w):IrR [9] x w:=by
 obtain⟨g,rfl,h2⟩ :=h
 exact⟨_,_,rfl,λ_ =>⟨g,0,rfl,λj y hj =>by
  match j with
  |0 =>cases hj;exact h2
  |j + 1 =>simp at hj⟩⟩
def IsCp(gs:List Int):Value ->World ->Prop:=λv w =>(gs = []/\∃g,v =.slice (some ⟨g,0,none⟩) 0 0)\/ (gs≠ []/\∃B,Rwg 3 1 B w v gs.length (gs.map (λz =>Value.int .i64 z))/\NwB w v)
theorem IsCp.stb(gs:List Int):Stb (IsCp gs) :=λ_ _ _ e h =>h.imp id λ⟨h1,B,h2,h3⟩ =>⟨h1,B,h2.ext e,h3.kept λg hg =>e.block g (h2.own_lt hg).1⟩
instance (gs:List Int):StbC (IsCp gs) :=⟨IsCp.stb gs⟩
theorem ld_OutX{w:World}{g:Nat}{vs:List Value}(hl:vs.length =13)(hc:∀j v,vs[j]? =some v ->World.cell? w ⟨g,j,none⟩=some v):(Instr.loadAt 53 (.pointer (some ⟨g,0,none⟩))).run prog w =.ok (.agg vs.toArray) w:=ldM za za hl (λj v hj =>by rw[Nat.zero_add];exact hc j v hj)
theorem wp_ap0{w:World}{o:Oper}{a:Act}{Q:Exit ->Act ->World ->Prop}{K:Act ->World ->Prop}(t:Tmp)(s x:Operand)
  (ho:o.op =.call {callee:=.builtin .append,args:= #[s,x],argTypes:= #[41,41]}) (g:Nat) (gs:List Int) (xv:Value) (hs:a.eval s =.slice (some ⟨g,0,none⟩) 0 0) (hx:a.eval x =xv) (hI:IrR gs xv w) (hl:gs.length <=1000)
  (h:∀v' w',Ext w w' ->((gs = []/\v' =.slice (some ⟨g,0,none⟩) 0 0)\/ (gs≠ []/\Rwg 3 1 w.heap.size w' v' gs.length (gs.map (λz =>Value.int .i64 z))/\NwB w' v')) ->K (a.put (some t) v') w') (hdt:o.dst =some t:=by rfl):Oper.wp prog o a w K Q:=by
 obtain⟨ao,c,rfl,hc⟩ :=hI
 obtain⟨i,hi,hz0,hz1,hz2⟩ :=info_parts infI
 by_cases hne:gs = []
 ·subst hne
  have hr:(Builtin.append_ #[41,41] o.type #[.slice (some ⟨g,0,none⟩) 0 0,.slice ao ([]:List Int).length c]).run prog w =.ok (.slice (some ⟨g,0,none⟩) 0 0) w:=by
   have hsrc:Src prog i.size 41 (.slice ao ([]:List Int).length c) 0 [] w:=by
    cases ao with
    |none =>exact Src.ofNil w underlying41 c
    |some ad =>exact Src.ofSlice w underlying41 ad 0 c [] (by simp) (λj u hj =>by simp at hj) (λu hu =>absurd hu List.not_mem_nil)
   have:=run_append_room_src w 41 41 o.type 3 i underlying41 hi g 0 0 0 _ 0 [] hsrc dcx (λj hj =>absurd hj (Nat.not_lt_zero _)) (λj hj =>absurd hj (Nat.not_lt_zero _))
   simpa [World.setCells]using this
  unfold Oper.wp execOp
  simp only[ho,resolve,invoke,builtin,Sem.run_bind,Sem.run_pure,Result.andThen_ok,List.map_toArray,List.map_cons,List.map_nil,hs,hx,hr]
  have hk:=h _ _ (Ext.refl w) (.inl ⟨rfl,rfl⟩)
  rw[<-hdt]at hk
  exact hk
 ·obtain⟨gg,og,rfl,hcc⟩ :=hc hne
  have hn1:1 <=gs.length:=List.length_pos_iff.2 hne
  have hnl:∀j u,(gs.map (λz =>Value.int .i64 z))[j]? =some u ->w.cell? ((⟨gg,og,none⟩:Addr).add j)=some u:=λj u hj =>by
   rw[List.getElem?_map]at hj
   obtain⟨x,hx,rfl⟩ :=Option.map_eq_some_iff.1 hj
   have:=hcc j x hx
   cases j <;> simpa [Addr.add]using this
  have h1:∀u∈gs.map (λz =>Value.int .i64 z),u.oneCell' =true:=λu hu =>by obtain⟨z,-,rfl⟩ :=List.mem_map.1 hu;rfl
  have hnw:∀u∈gs.map (λz =>Value.int .i64 z),NoWord u:=λu hu =>by obtain⟨z,-,rfl⟩ :=List.mem_map.1 hu;exact NoWord.int64 _
  have hsrc:Src prog i.size 41 (.slice (some ⟨gg,og,none⟩) gs.length c) gs.length (gs.map (λz =>Value.int .i64 z)) w:=Src.ofSlice w underlying41 _ _ c _ (by rw[List.length_map,hz1,Nat.mul_one]) hnl h1
  have hcap:Builtin.nextslicecap (0 + gs.length) 0 * i.bytes <=281474976710656:=by rw[hz2];unfold Builtin.nextslicecap;split <;>(try split) <;> omega
  have r1:=run_append_grow_src w 41 41 o.type 3 i _ underlying41 hi hz0 none 0 0 [] (run_firstCells_none w.drew i.size 0 0 0) _ gs.length _ hsrc (by omega) (by omega) hcap
  have r2:=run_append_grow_src w 41 41 o.type 3 i _ underlying41 hi hz0 (some ⟨g,0,none⟩) 0 0 [] (run_firstCells_some w.drew i.size 0 _ 0 0 [] (by simp) (λj u hj =>by simp at hj)) _ gs.length _ hsrc (by omega) (by omega) hcap
  obtain⟨v',w',hr,k2,k3,k5,k6⟩ :=run_append_nw (P:=prog) w w.heap.size 41 o.type 3 i _ 1 8 underlying41 hi hz0 hz1 hz2 rfl dcx (λu hu =>by simp[Value.cells]at hu;subst hu;exact NoWord.int64 _) (.slice none 0 0) 0 [] (Rwg.nil _ _ _ _) (λg cs e fz hg =>by cases hg) ⟨gg,og,none⟩ gs.length c _ (by rw[List.length_map,Nat.mul_one]) hnl h1 hnw (by unfold maxLen;omega) (by omega) (jP _)
  rw[hr]at r1
  obtain⟨e1,e2⟩ :=Result.ok.inj r1
  rw[<-e1,<-e2]at r2
  have E:Ext w w':=(jS w.heap.size w).grown k3 (jP _) λb hb =>by cases hb
  unfold Oper.wp execOp
  simp only[ho,resolve,invoke,builtin,Sem.run_bind,Sem.run_pure,Result.andThen_ok,List.map_toArray,List.map_cons,List.map_nil,hs,hx,r2]
  have hk:=h _ _ E (.inr ⟨hne,by simp only[Nat.zero_add,List.nil_append]at k2;exact k2,k6⟩)
  rw[<-hdt]at hk
  exact hk
theorem wp_ap9{B:Nat}{w:World}{o:Oper}{a:Act}{Q:Exit ->Act ->World ->Prop}{K:Act ->World ->Prop}(t:Tmp)(s x:Operand)
  (ho:o.op =.call {callee:=.builtin .append,args:= #[s,x],argTypes:= #[41,41]}) (gs:List Int) (v xv:Value) (hs:a.eval s =v) (hx:a.eval x =xv) (hc:IsCp gs v w) (h9:IsN9 xv w) (hl:gs.length <=1000) (hg:∀z∈gs,z≠9) (hB:∀g,v.ownBlock =some g ->gs≠ [] ->B <=g)
  (h:∀v' w',Rn9 B w w' ->IrR (gs ++ [9]) v' w' ->K (a.put (some t) v') w') (hdt:o.dst =some t:=by rfl):Oper.wp prog o a w K Q:=by
 rcases hc with⟨rfl,g,rfl⟩| ⟨hne,B',hr,hnw⟩
 ·refine wp_ap0 t s x ho g [9] xv hs hx h9.ir dcx (λv' w' E hv =>h v' w' ((Rn9.rel B).ext E) ?_) hdt
  rcases hv with⟨hq,-⟩| ⟨-,hq,-⟩
  ·cases hq
  ·exact IrR.of hq rfl
 ·obtain⟨bytes,hi,hb⟩:∃b,(prog.info? 3).map (λi =>(i.zero,i.size,i.bytes))=some (some (.int .i64 0),1,b)/\b =8:=⟨8,infI,rfl⟩
  obtain⟨g9,hx9,hc9⟩ :=h9
  have hsr:SrcR 1 [Value.int .i64 9] xv w:=.inr ⟨g9,0,1,hx9,λj u hj =>by
   match j with
   |0 =>cases hj;exact hc9
   |j + 1 =>simp at hj⟩
  have hB':B' <=w.heap.size:=by
   obtain⟨ao,cap,-,-,-,-,h2⟩ :=hr.shape
   obtain⟨g,hg1,hg2,hg3,-⟩ :=h2 (by have:=List.length_pos_iff.2 hne;omega)
   omega
  refine wp_rwnS s x 41 ho B' 3 (.int .i64 0) 1 bytes za hi rfl dcx (λu hu =>by simp[Value.cells]at hu;subst hu;exact NoWord.int64 _) v gs.length _ hs hr hnw 1 [.int .i64 9] xv hx rfl hsr (λu hu =>by rw[List.mem_singleton]at hu;rw[hu];rfl) (λu hu =>by rw[List.mem_singleton]at hu;rw[hu];exact NoWord.int64 _) (by omega) (by subst hb;omega) hB' ?_
  intro v' w' r1 r2 r3 r4 r5 r6
  rw[hdt]
  refine h v' w' ⟨r3.size,λhb =>(jS B w).grown r3 hb λb hb =>hB b hb hne,λq hq =>?_⟩ (IrR.of (n:=gs.length + 1) (by simpa using r1) (by simp))
  refine r3.cell (a:=⟨q,0,none⟩) hq (λe =>?_)
  obtain⟨ao,cap,hv,-,-,-,h2⟩ :=hr.shape
  obtain⟨g,hg1,hg2,hg3,hg4⟩ :=h2 (by have:=List.length_pos_iff.2 hne;omega)
  rw[hv,hg1]at e
  obtain rfl:g =q:=by cases e;rfl
  obtain⟨z,gs',rfl⟩ :=List.exists_cons_of_ne_nil hne
  have h0:=hg4 0 (.int .i64 z) rfl
  rw[hq]at h0
  exact hg z List.mem_cons_self (by cases h0;rfl)
end
section
open Go Go.RowKit Go.Maps Go.Shelf
open Go.Proofs.Tryz
theorem zb3{P:Prop}(h:P:=by exact Ok.of za λv a w hE hd hf=>⟨_,bdG rfl (by simp only[List.map_toArray,List.map_nil];exact bd_Sh0 w),rfl⟩):P:=h
theorem zz{P:Prop}(h:P:=by exact lv _ (λw' e=>ld_OutX huA1 (λq u hq=>e.cell (cUA q u hq))) (qB (x:=.pointer (some ⟨g13,0,none⟩)) 13) (λw' e=>IsOutX.stb _ _ _ _ _ _ _ e HUA.out)):P:=h
theorem yo{P:Prop}(h:P:=by exact lv (fP:=IsV (.slice ra m rc)) _ (λw' e=>ld_aStr w' _ _ (e.cell c11w)) (qA (fP:=IsP g13 11) 0 56) (λ_ _=>rfl)):P:=h
theorem yt{P:Prop}(h:P:=by exact lv (fP:=IsV (.slice sa nL sc)) _ (λw' e=>ld_aH w' _ _ (e.cell c110)) (qA (fP:=IsP g11 0) 5 61) (λ_ _=>rfl)):P:=h
theorem xi{P:Prop}(h:P:=by exact fa (jG (g11)) (qB (x:=.pointer (some ⟨g11,0,none⟩)) 11)):P:=h
theorem zat{P:Prop}(h:P:=by exact lv (fP:=IsV (.string yy)) _ (λw' e=>ld_str' w' _ _ (e.cell cy)) (qA 3 59) (λ_ _=>rfl)):P:=h
attribute [local go_sem] Oper.semAt_some
set_option maxRecDepth 100000
def pN(rdl:List (List UInt8))(vs:List Value):Bool:=rdl.any (λy=>decide (xH vs=⟨y.toArray⟩))
theorem pN_mem{rdl:List (List UInt8)}{vs:List Value}{y:List UInt8}(hy:y∈rdl)(h:xH vs=⟨y.toArray⟩):pN rdl vs=true:=by
 unfold pN;rw[List.any_eq_true];exact⟨y,hy,decide_eq_true h⟩
theorem any_take{rdl:List (List UInt8)}{vs:List Value}{y:List UInt8}{k:Nat}(h:rdl[k]? =some y):pN (rdl.take (k+1)) vs=(pN (rdl.take k) vs||decide (xH vs=⟨y.toArray⟩)):=by
 unfold pN;rw[List.take_add_one,List.any_append,h];simp
theorem pN_once{rdl:List (List UInt8)}{vs:List Value}{y:List UInt8}{k:Nat}(hn:rdl.Nodup)(h:rdl[k]? =some y)(e:xH vs=⟨y.toArray⟩):pN (rdl.take k) vs=false:=by
 unfold pN;rw[List.any_eq_false];intro z hz he;have he:=of_decide_eq_true he;rw[e]at he;have e2:=congrArg (λb:ByteArray=>b.data.toList) he;simp only at e2;obtain⟨j,hj,hjz⟩:=List.mem_iff_getElem.1 hz;rw[List.getElem_take]at hjz;obtain⟨hk,hky⟩:=List.getElem?_eq_some_iff.1 h;have hjk:j<k:=by have:=hj;rw[List.length_take]at this;omega
 have:=List.pairwise_iff_getElem.1 hn j k (by omega) hk hjk;exact this (by rw[hjz,hky];exact e2.symm)
theorem fil_take1{p:List Value->Bool}{L:List (List Value)}{i:Nat}{vs:List Value}(h:L[i]? =some vs):(L.take (i+1)).filter p=(L.take i).filter p++(if p vs then [vs]else []):=by
 rw[List.take_add_one,List.filter_append,h];by_cases e:p vs=true <;> simp[e]
set_option maxHeartbeats 16000000 in
theorem Entr_w{w:World}{l:Value}{ca ea:Option Addr}{cn cc en' ec g:Nat}{st:Nat}(hT:TabM w)(HEX:Hid (∀w',Ext w w'->Calls prog 10 #[] w' (Ret w' (IsV (.bool true)))))(b1:IsBy l w)(b2:IsBy (.slice ca cn cc) w)(b3:IsBy (.slice ea en' ec) w)(hg:g<=255)(hst:st<=65535):
  Calls prog 6 #[l,.agg #[.slice ca cn cc,.slice ea en' ec,.int .u8 (g:Int)],.int .u16 (st:Int)] w (Ret w (IsV (.bool true))):=by
 obtain⟨W,hW,E,B4⟩:∃W,W=w.alloc (.cells #[.slice ca cn cc,.slice ea en' ec,.int .u8 (g:Int)] 24)/\Ext w W/\Bk W w.heap.size [.slice ca cn cc,.slice ea en' ec,.int .u8 (g:Int)]:=
  ⟨_,rfl,(Ext.refl w).alloc _,Bk.new w _ _⟩
 obtain⟨b,hbb⟩:∃b,w.heap.size=b:=⟨_,rfl⟩;rw[hbb]at B4;have HT:=hid hT;have HB1:=hid b1;have HB2:=hid b2;have HB3:=hid b3;have HN:=hid (jO hg hst);clear hT b1 b2 b3 hg hst;go_enter func6,ntmps6;go_upto_region 4 with(go_at_call 10;go_must (refine jJ (HEX.out _ (by rw[<-hW];exact E)) ?_;rintro e w1 ⟨_,rfl,e1,rfl⟩));rw[<-hW]at e1;replace B4:=B4.ext e1;replace E:=E.trans e1;clear hW e1 HEX;refine rgs 2 [some 22,some 23] [IsV l,IsTr] [] ?_ ?_
 ·refine Rc zv ?_;refine Rc (cl1 (en func11) (qA (fP:=IsV l) 0 22) (λx0 w' hE d0=>by{obtain rfl:x0=l:=d0;exact Tree_f (HB1.out.ext (E.trans hE))})) ?_;exact rn0
 intro v X1 e1 hZ _;obtain⟨u,hu⟩:∃u,v 1=u:=⟨_,rfl⟩;obtain⟨e,hwf,hO⟩:IsTr u X1:=jl
 simp only[lxE,Nat.reduceAdd];rw[hu];clear hZ hu;obtain⟨us,hus,hl1,hone,hnw,_⟩:=id hO;subst hus;refine stL (λK hK=>?_);refine xF (vs:=zNd) al_Nd (λBn e3=>hK _ _ ?_);obtain⟨g8,hg8⟩:∃g,X1.heap.size=g:=⟨_,rfl⟩;rw[hg8]at Bn ⊢;generalize X1.alloc (.cells zNd.toArray 31)=Y2 at Bn e3 ⊢;clear hK K
 go_simp
 refine stL (λK hK=>?_);refine qZ (us:=us) Bn st_Nd rfl hl1 nwZN (λX2 B8 O=>hK _ _ ?_) (ho1:=hone);have e4:=O.ext e3 (Nat.le_of_eq hg8);have HNe:=hid (IsNe.stb _ _ _ _ e4 hO);have e2:=e1.trans e4;replace E:=E.trans e2;replace B4:=B4.ext e2;have HWF:=hid (jO hwf hl1);clear hK K O e1 e2 e3 e4 Bn hone hnw hO hg8 hwf hl1;refine jL ?_;go_upto_region 5 with fail;refine rgs 2 [some 25,some 26] [IsV (.agg #[.slice ca cn cc,.slice ea en' ec,.int .u8 (g:Int)]),IsCls] [] ?_ ?_
 ·refine Rc zaq ?_;refine Rc (cl2 (en func12) (qA (fP:=IsV (.agg #[.slice ca cn cc,.slice ea en' ec,.int .u8 (g:Int)])) 0 25) qE (λx0 x1 w' hE d0 d1=>by{obtain rfl:x0=_:=d0;obtain rfl:x1=.bool true:=d1;exact cells_f (HB2.out.ext (E.trans hE))})) ?_;exact rn0
 intro v X3 e1 hZ _;obtain⟨cs,cv,vv,hcv,hcs⟩:=hZ 1 dcx;simp only[lxE,Nat.reduceAdd];rw[hcv];have HCS:=hid hcs;replace B4:=B4.ext e1;replace B8:=B8.ext e1;replace E:=E.trans e1;replace HNe:=hid (IsNe.stb _ _ _ _ e1 HNe.out);clear hZ hcv hcs e1;go_upto_region 6 with fail;refine rgs 2 [some 29,some 30] [IsV (.agg #[.slice ca cn cc,.slice ea en' ec,.int .u8 (g:Int)]),IsShN] [] ?_ ?_
 ·refine Rc zaq ?_;refine Rc (cl1 (en func13) (qA (fP:=IsV (.agg #[.slice ca cn cc,.slice ea en' ec,.int .u8 (g:Int)])) 0 29) (λx0 w' hE d0=>by{obtain rfl:x0=_:=d0;exact shelf_n (HB3.out.ext (E.trans hE))})) ?_;exact rn0
 intro v X4 e1 hZ _;obtain⟨sv,L,hsv,hs1,hs2,hs3⟩:=hZ 1 dcx;simp only[lxE,Nat.reduceAdd];rw[hsv];clear hZ hsv
 obtain⟨sa,sn,sc,hsl⟩:∃a n c,sv=.slice a n c:=by
  rcases hs1 with⟨-,h⟩| ⟨g9,c9,h,-,-⟩
  ·exact⟨_,_,_,h⟩
  ·exact⟨_,_,_,h⟩
 subst hsl;refine stL (λK hK=>?_);refine xF (vs:= [.slice none 0 0]) al_ShN (λBn e3=>hK _ _ ?_);obtain⟨g11,hg11⟩:∃g,X4.heap.size=g:=⟨_,rfl⟩;rw[hg11]at Bn ⊢;generalize X4.alloc (.cells [Value.slice none 0 0].toArray 39)=Y5 at Bn e3 ⊢;clear hK K
 go_simp
 refine stL (λK hK=>?_);refine qZ (us:= [.slice sa sn sc]) Bn st_Sh rfl rfl nwNilS (λX5 B11 O=>hK _ _ ?_);have e4:=O.ext e3 (Nat.le_of_eq hg11);have e2:=e1.trans e4;have HSH:=hid (jO (hs1.ext e4) (jO hs2 (λvs h=>(hs3 vs h).ext e4)));replace B4:=B4.ext e2;replace B8:=B8.ext e2;replace E:=E.trans e2;replace HNe:=hid (IsNe.stb _ _ _ _ e2 HNe.out);replace HCS:=hid (IsCls.stb _ _ _ e2 ⟨cs,cv,vv,rfl,HCS.out⟩);clear hK K O e1 e2 e3 e4 Bn hs1 hs2 hs3 hg11;refine jL ?_;go_upto_region 7 with fail;refine rgs 2 [some 31,some 32] [IsV (.agg #[.slice ca cn cc,.slice ea en' ec,.int .u8 (g:Int)]),IsGr] [] ?_ ?_
 ·refine Rc zaq ?_;refine Rc (cl1 (en func14) (qA (fP:=IsV (.agg #[.slice ca cn cc,.slice ea en' ec,.int .u8 (g:Int)])) 0 31) (λx0 w' hE d0=>by{obtain rfl:x0=_:=d0;exact granted_f (by omega) (by have:=HN.out.1;omega)})) ?_;exact rn0
 intro v X6 e1 hZ _;obtain⟨u,hu⟩:∃u,v 1=u:=⟨_,rfl⟩;obtain⟨gs,hgl,hgb,hgr⟩:IsGr u X6:=jl
 obtain⟨ga,gc,rfl,-⟩:=id hgr;simp only[lxE,Nat.reduceAdd];rw[hu];have HGR:=hid (jO hgl hgr);have HGB:=hid hgb;replace B8:=B8.ext e1;replace B11:=B11.ext e1;replace E:=E.trans e1;replace HNe:=hid (IsNe.stb _ _ _ _ e1 HNe.out);replace HCS:=hid (IsCls.stb _ _ _ e1 HCS.out);replace HSH:=hid (jO (HSH.out.1.ext e1) (jO HSH.out.2.1 (λvs h=>(HSH.out.2.2 vs h).ext e1)));clear hZ hu e1 hgl hgb hgr B4;go_upto_region 8 with fail;obtain⟨cs',cv',vv',hcv',hcl,hck,hch,hcr,hvr⟩:=HCS.out;cases hcv';clear HCS;obtain⟨ca1,cc1,rfl,-⟩:=id hcr;obtain⟨va1,vc1,rfl,-⟩:=id hvr;have hSM:=shpM_of (HT.out.ext E) hcr hvr HSH.out.1.hds (λvs h=>⟨_,(HSH.out.2.2 vs h).1⟩) HGR.out.2;have hOK:∀gs':List Int,gs'.length<=1000->ShpMOk [1,2,3] cs' L (datW X6) gs':=λgs' h=>shpOk_of hcl hck hch (by have:=HSH.out.2.1;omega) (λvs h=>⟨_,(HSH.out.2.2 vs h).1⟩) (gs:=gs') h
 have hNd:=HNe.out;have hWF:=HWF.out.1;have hlu:=HWF.out.2;have hSE:ShE cs' L (datW X6) (.slice sa sn sc) X6:=⟨hSM.sr,hSM.ent,hSM.hy,hOK⟩;obtain⟨A,hA⟩:∃A:Res Kn×Mst Lg,A=evR cs' L (datW X6) gs e st:=⟨_,rfl⟩;obtain⟨N,hN⟩:∃A:Res Kn×Mst Lg,A=evR cs' [] (datW X6) gs e st:=⟨_,rfl⟩
 have hrun:∀(L':List (List Value)) (dat':List Value->EnD) (gs':List Int) (sv gv:Value) (w':World),Ext X6 w'->ShE cs' L' dat' sv w'->gs'.length<=1000->IrR gs' gv w'->Calls prog 16 #[.agg us.toArray,.slice ca1 cs'.length cc1,.slice va1 cs'.length vc1,.agg #[sv],gv,.int .i64 (st:Int)] w' (Ret w' (IsOutX (evR cs' L' dat' gs' e st).1 (evR cs' L' dat' gs' e st).2.1 (ksV (evR cs' L' dat' gs' e st).2.2.1) (zsV (evR cs' L' dat' gs' e st).2.2.2))):=by
  intro L' dat' gs' sv gv w' hE h1 h2 h3;have S:=hSM.ext hE;obtain⟨us',hu',_,_,_,hn'⟩:=IsNe.stb _ _ _ _ hE hNd;cases hu';obtain⟨ga',gc',rfl,-⟩:=id h3
  obtain⟨sa',sn',sc',rfl⟩:∃a n c,sv=.slice a n c:=by
   rcases h1.sr with⟨-,h⟩| ⟨g9,c9,h,-⟩
   ·exact⟨_,_,_,h⟩
   ·exact⟨_,_,_,h⟩
  exact run_T ⟨S.tm,S.cr,S.vr,h1.sr,h3,h1.ent,h1.hy⟩ (h1.ok gs' h2) dcx (by have:=HN.out.2;omega) hWF hn'
 have HRA:=hid (show ∀(L':List (List Value)) (dat':List Value->EnD) (gs':List Int) (sv gv:Value) (w':World),Ext X6 w'->ShE cs' L' dat' sv w'->gs'.length<=1000->IrR gs' gv w'->(∀x∈A.2.2.1,bsG L' dat' gs' x=bsG L (datW X6) gs x)->Calls prog 16 #[.agg us.toArray,.slice ca1 cs'.length cc1,.slice va1 cs'.length vc1,.agg #[sv],gv,.int .i64 (st:Int)] w' (Ret w' (IsOutX A.1 A.2.1 (ksV A.2.2.1) (zsV A.2.2.2)))from by
  intro L' dat' gs' sv gv w' hE h1 h2 h3 h4;have:=hrun L' dat' gs' sv gv w' hE h1 h2 h3;rw[hA]at h4 ⊢;rw[agree_R h4]at this
  exact this)
 have HRN:=hid (show ∀(gv:Value) (w':World),Ext X6 w'->IrR gs gv w'->Calls prog 16 #[.agg us.toArray,.slice ca1 cs'.length cc1,.slice va1 cs'.length vc1,.agg #[.slice none 0 0],gv,.int .i64 (st:Int)] w' (Ret w' (IsOutX N.1 N.2.1 (ksV N.2.2.1) (zsV N.2.2.2)))from by
  intro gv w' hE h3;rw[hN]
  exact hrun [] (datW X6) gs _ gv w' hE ((hSE.ext hE).sub (λ_ h=>absurd h List.not_mem_nil) (Nat.zero_le _) (.inl ⟨rfl,rfl⟩)) zbw h3)
 have HNN:=hid (show(A.2.2.1= []->N=A)/\(A.2.2.1≠ []->∃n,n≠0/\N.1=.error n)from by
  refine⟨λh=>?_,λh=>?_⟩
  ·rw[hA]at h;rw[hA,hN];exact agree_R (λx hx=>by rw[h]at hx;cases hx)
  ·cases hq:N.1 with
   |ok q=>rw[hN]at hq;rw[hA]at h;exact absurd (none_R hq) h
   |error n=>exact⟨n,by have:=ev_ne cs' (bsG [] (datW X6) gs) flG e [] (st,([], [])) n;exact this (by rw[hN]at hq;exact hq),rfl⟩)
 have HLN:=hid (show(ksL A.2.2.1).length<=2401/\(zsL A.2.2.2).length<=3/\(∀y∈A.2.2.1,(⟨y.toArray⟩:ByteArray)≠zz1)from by
  have h1:=lens_R (hOK gs zbw) hWF st
  rw[hA];exact⟨h1.1,h1.2,read_z hWF st⟩)
 have HWX:=hid (show IntKind.i64.wrap (st:Int)=(st:Int)from by have:=HN.out.2;simp only[IntKind.wrap_i64];omega);have HSE:=hid hSE;have HCK:=hid (jO hcl (jO hck hch));clear hrun hA hN hSE hSM hOK hNd hWF hcl hck hch hcr hvr HNe HWF;refine rgs 7 (dR 33 7) [IsV (.agg us.toArray),IsV (.slice ca1 cs'.length cc1),IsV (.slice va1 cs'.length vc1),IsV (.agg #[.slice sa sn sc]),IsV (.slice ga gs.length gc),IsV (.int .u16 (st:Int)),iV (st:Int)] [] ?_ ?_
 ·refine Rc zar ?_;refine Rc (mv (qB 9)) ?_;refine Rc (mv (qB 10)) ?_;refine Rc (lvV B11 ld_Sh1 (qB 11)) ?_;refine Rc (mv (qB 12)) ?_;refine Rc yj ?_;refine Rc (cvy (S:=62) (T:=3) (r:=.int .i64 (st:Int)) (qC 5 38) (hr:=λw=>by have h9:=HWX.out;go_simp)) ?_;exact rn0
 intro v X8 e1 hZ _;simp only[lxE,Nat.reduceAdd];rw[show v 0=_ from hZ 0 dcx,show v 1=_ from hZ 1 dcx,show v 2=_ from hZ 2 dcx,show v 3=_ from hZ 3 dcx,show v 4=_ from hZ 4 dcx,show v 6=_ from hZ 6 dcx];clear hZ;refine stL (λK hK=>?_);refine xB (us:= [.agg us.toArray,.slice ca1 cs'.length cc1,.slice va1 cs'.length vc1,.agg #[.slice sa sn sc],.slice ga gs.length gc,.int .i64 (st:Int)]) (en func16) za (HRA.out L (datW X6) gs _ _ _ e1 (HSE.out.ext e1) zbw (HGR.out.2.ext e1) (λ_ _=>rfl)) (λv2 X2 h=>hK _ _ ?_) (λch X2 h=>by{obtain⟨_,hx,_⟩:=h;cases hx}) (λX2 h=>by{obtain⟨_,hx,_⟩:=h;cases hx});obtain⟨_,hx,e2,hO⟩:=h;cases hx;clear hK K
 go_simp
 refine stL (λK hK=>?_);refine xF (vs:=zOut) al_Out (λBn e3=>hK _ _ ?_);obtain⟨gn,hgn⟩:∃g,X2.heap.size=g:=⟨_,rfl⟩;rw[hgn]at Bn ⊢;replace hO:=IsOutX.stb _ _ _ _ _ _ _ e3 hO;generalize X2.alloc (.cells zOut.toArray 53)=X3 at Bn e3 hO ⊢;clear hK K
 go_simp
 refine stL (λK hK=>?_);refine stOut Bn hO (noB_k _) (noB_z _) (λX9 OA O=>hK _ _ ?_);have e4:=(e1.trans e2).trans (O.ext e3 (Nat.le_of_eq hgn));obtain⟨g13,hg15⟩:∃g,gn=g:=⟨_,rfl⟩;rw[hg15]at OA ⊢;clear hK K O e1 e2 e3 hO Bn hgn hg15;refine jL ?_;replace B8:=B8.ext e4;replace B11:=B11.ext e4;replace E:=E.trans e4;have E6:=e4;clear e4;obtain⟨rdl,hrdl⟩:∃l,ksL A.2.2.1=l:=⟨_,rfl⟩;have hnd:rdl.Nodup:=by rw[<-hrdl];exact ks_nd _
 have hmm:∀y∈A.2.2.1,y∈rdl:=λy hy=>by rw[<-hrdl];exact(mem_ksL _ y).2 hy
 have hrl:rdl.length<=2401:=by rw[<-hrdl];exact HLN.out.1
 have hkv:ksV A.2.2.1=rdl.map encStr:=by rw[<-hrdl];rfl
 obtain⟨ra,rn,rc,c11,hR⟩:=OA.rd;rw[hkv]at hR;obtain⟨ao,cc9,hx9,kR⟩:=id hR;obtain⟨rfl,rfl,rfl⟩:ra=ao/\rn=(rdl.map encStr).length/\rc=cc9:=by cases hx9;exact⟨rfl,rfl,rfl⟩
 rw[List.length_map]at c11;have KR:=hid kR;have HRD:=hid (jO hnd (jO hmm hrl));clear hx9 hR kR hnd hmm hrdl;obtain⟨m,hm⟩:∃m,rdl.length=m:=⟨_,rfl⟩;rw[hm]at c11;have HM:=hid (jO hm (by omega:m<=2401));clear hm hrl;go_upto_region 9 with fail;refine rgs 1 [some 41] [IsV (.agg #[.slice none 0 0])] [] ?_ ?_
 ·refine Rc zb3 ?_;exact rn0
 intro v X10 e1 hZ _;simp only[lxE];rw[show v 0=_ from hZ 0 dcx];clear hZ;refine stL (λK hK=>?_);refine xF (vs:= [.slice none 0 0]) al_ShN (λBn e3=>hK _ _ ?_);obtain⟨g14,hg14⟩:∃g,X10.heap.size=g:=⟨_,rfl⟩;rw[hg14]at Bn ⊢;generalize X10.alloc (.cells [Value.slice none 0 0].toArray 39)=Y5 at Bn e3 ⊢;clear hK K
 go_simp
 refine stL (λK hK=>?_);refine qZ (us:= [.slice none 0 0]) Bn st_Sh rfl rfl nwNilS (λX11 B14 O=>hK _ _ ?_);have e4:=O.ext e3 (Nat.le_of_eq hg14);clear hK K O Bn;have HX10:=hid (show X10.heap.size=g14 from hg14);replace B8:=B8.ext e1;replace B11:=B11.ext e1;replace OA:=OA.ext e1;replace E:=E.trans e1;replace E6:=E6.trans e1;replace c11:=e1.cell c11;have KR1:=hid (show rdl.map encStr≠ []->∃g,ra=some ⟨g,0,none⟩/\∀j u,(rdl.map encStr)[j]? =some u->World.cell? X10 ⟨g,j,none⟩=some u from λh=>let ⟨g,h1,_,h3⟩:=KR.out h;⟨g,h1,λj u hj=>e1.cell (h3 j u hj)⟩)
 have hsn:sn=L.length:=by
  rcases HSH.out.1 with⟨h0,h1⟩| ⟨g9,c9,h1,-,-⟩
  ·cases h1;rw[h0];rfl
  ·cases h1;rfl
 have hsh:L≠ []->∃g,sa=some ⟨g,0,none⟩/\HdR L g X10:=λhne=>by
  rcases HSH.out.1 with⟨h0,-⟩| ⟨g9,c9,h1,-,h3⟩
  ·exact absurd h0 hne
  ·cases h1;exact⟨g9,rfl,h3.ext E6⟩
 have HSR:=hid hsh;have HHN:=hid (show ∀vs∈L,HeldN vs X10 from λvs h=>(HSH.out.2.2 vs h).ext E6);obtain⟨nL,hnL⟩:∃n,n=sn:=⟨_,rfl⟩;subst hnL;have HNL:=hid (jO hsn.symm (show nL<=12 by have:=HSH.out.2.1;omega));have HIH:=hid (show IsHw (g14+1) [] (.slice none 0 0) X11 from⟨Rwg.nil _ _ _ _,λg cs e fz hg=>by cases hg⟩);have HEX:=hid e4;have HB14:=hid B14;clear e1 e3 KR hg14 hsn hsh e4 B14;refine jL ?_;go_wp2_with fail
 go_loopg [15] nL (λgk v15 wr=>∃(i:Nat) (lv':Value),v15=.int .i64 (i:Int)/\i+gk=nL/\Hid (Bk wr g14 [lv']/\IsHw (g14+1) ((L.take i).filter (pN rdl)) lv' wr/\Ext X10 wr))
 case atStart=>exact⟨0,_,rfl,by omega,hid ⟨HB14.out,HIH.out,HEX.out⟩⟩
 case round=>
  obtain⟨i,lv',rfl,hg,S⟩:=hrel;have c11w:=S.out.2.2.cell c11;have c110:=(B11.ext S.out.2.2).c 0 _ rfl;by_cases hi:i<nL
  ·have hil:(i:Int)<(nL:Int):=by omega
   have hiw:IntKind.i64.wrap ((i:Int)+1)=((i+1:Nat):Int):=by have:=HNL.out.2;simp only[IntKind.wrap_i64];omega
   obtain⟨vs,hvs⟩:∃x,L[i]? =some x:=⟨_,List.getElem?_eq_getElem (by have:=HNL.out.1;omega)⟩;have HV:=hid (jO hi (jO hvs (HHN.out vs (List.mem_of_getElem? hvs))));obtain⟨G,rfl⟩:∃G,G=gk:=⟨_,rfl⟩;have HG:=hid hg;clear hg hi hvs;go_wp2_with fail;clear hil c110 c11w
   go_loopg [16] m (λgk v16 wr=>∃(k:Nat) (lv':Value),v16=.int .i64 (k:Int)/\k+gk=m/\Hid (Bk wr g14 [lv']/\IsHw (g14+1) ((L.take i).filter (pN rdl)++(if pN (rdl.take k) vs then [vs]else [])) lv' wr/\Ext X10 wr))
   case atStart=>exact⟨0,lv',rfl,by omega,hid ⟨S.out.1,by have h1:=S.out.2.1;simpa [pN]using h1,S.out.2.2⟩⟩
   case round=>
    clear S;obtain⟨k,lv2,rfl,hg2,S⟩:=hrel;have c11w:=S.out.2.2.cell c11;have c110:=(B11.ext S.out.2.2).c 0 _ rfl;by_cases hk:k<m
    ·have hkl:(k:Int)<(m:Int):=by omega
     have hkw:IntKind.i64.wrap ((k:Int)+1)=((k+1:Nat):Int):=by have:=HM.out.2;simp only[IntKind.wrap_i64];omega
     obtain⟨y,hy⟩:∃x,rdl[k]? =some x:=⟨_,List.getElem?_eq_getElem (by have:=HM.out.1;omega)⟩;obtain⟨yy,hyy⟩:∃z:ByteArray,(⟨y.toArray⟩:ByteArray)=z:=⟨_,rfl⟩;obtain⟨gr',er,kr⟩:=KR1.out (λh=>by have h2:=List.map_eq_nil_iff.1 h;rw[h2]at hy;cases hy);have cy:World.cell? wr ⟨gr',k,none⟩=some (.string yy):=S.out.2.2.cell (kr k _ (by rw[List.getElem?_map,hy,<-hyy];rfl));obtain⟨gs9,es9,hs9⟩:=HSR.out (λh=>by have:=HV.out.2.1;rw[h]at this;cases this);have hh9:=hs9 i vs HV.out.2.1;obtain⟨nm,hnm⟩:∃z,xH vs=z:=⟨_,rfl⟩;have cn:World.cell? wr ⟨gs9,32*i,none⟩=some (.string nm):=S.out.2.2.cell (by have:=hh9 0 _ HV.out.2.2.1.ok.2;rwa [Nat.add_zero,hnm]at this);have HH9:=hid (show ∀q u,vs[q]? =some u->World.cell? wr ⟨gs9,32*i+q,none⟩=some u from λq u hq=>S.out.2.2.cell (hh9 q u hq));have HK:=hid (jO hg2 (jO hk (jO hy (jO hyy hnm))));have ES:=hid es9;have ER:=hid er;clear hg2 hy hyy hnm kr hs9 hh9 es9 er;go_upto_region 16 with fail;clear hk hkl;by_cases hxy:yy=nm
     ·subst hxy;refine rg 13 (dR 56 13) [IsP g13 11,IsV (.slice ra m rc),iV (k:Int),IsP gr' k,IsV (.string yy),IsP g11 0,IsV (.slice sa nL sc),iV (i:Int),IsP gs9 (32*i),IsP gs9 (32*i),IsP gs9 (32*i),IsV (.string yy),IsV (.bool true)] [] 0 ?_ ?_
      ·refine Rc (fa (fa_Out1 (g13)) (qB (x:=.pointer (some ⟨g13,0,none⟩)) 13)) ?_;refine Rc yo ?_;refine Rc (mv (qB (x:=.int .i64 (k:Int)) 16)) ?_;refine Rc (ixq (ix_rS ra gr' rc m k ER.out HK.out.2.1) (qA 1 57) (qA 2 58)) ?_;refine Rc zat ?_;refine Rc xi ?_;refine Rc yt ?_;refine Rc jb ?_;refine Rc (ixq (ix_HdS sa gs9 sc nL i ES.out HV.out.1) (qA 6 62) (qA 7 63)) ?_;refine Rc (fa (fa_He0 gs9 (32*i)) (qA 8 64)) ?_;refine Rc (fa (fa_EnA gs9 (32*i)) (qA 9 65)) ?_;refine Rc (lv (fP:=IsV (.string yy)) _ (λw' e=>ld_str' w' _ _ (e.cell cn)) (qA 10 66) (λ_ _=>rfl)) ?_;refine Rc (bn (r:=.bool true) (qC 4 60) (qC 11 67) (hr:=λw=>by go_simp)) ?_;exact rn0
      intro v X12 e1 hZ _;simp only[lxE,Nat.reduceAdd];rw[show v 12=.bool true from hZ 12 dcx];have S2:=hid (jO (S.out.1.ext e1) (jO (S.out.2.1.ext e1) (S.out.2.2.trans e1)));have HH2:=hid (show ∀q u,vs[q]? =some u->World.cell? X12 ⟨gs9,32*i+q,none⟩=some u from λq u hq=>e1.cell (HH9.out q u hq));replace c110:=e1.cell c110;have hon:=pN_once HRD.out.1 HK.out.2.2.1 (HK.out.2.2.2.2.trans HK.out.2.2.2.1.symm);clear e1 hZ cy cn S HH9 c11w;refine jR za ?_ _;go_upto_region 17 with fail;refine rg 8 (dR 69 8) [IsP g14 0,IsV (lv2),IsP g11 0,IsV (.slice sa nL sc),iV (i:Int),IsP gs9 (32*i),IsV (.agg vs.toArray),IsSrc 1 vs] [] 3 ?_ ?_
      ·refine Rc (fa (jG (g14)) (qB (x:=.pointer (some ⟨g14,0,none⟩)) 14)) ?_;refine Rc (lv (fP:=IsV (lv2)) _ (λw' e=>ld_aH w' _ _ (e.cell (S2.out.1.c 0 _ rfl))) (qA (fP:=IsP g14 0) 0 69) (λ_ _=>rfl)) ?_;refine Rc xi ?_;refine Rc (lv (fP:=IsV (.slice sa nL sc)) _ (λw' e=>ld_aH w' _ _ (e.cell c110)) (qA (fP:=IsP g11 0) 2 71) (λ_ _=>rfl)) ?_;refine Rc jb ?_;refine Rc (ixq (ix_HdS sa gs9 sc nL i ES.out HV.out.1) (qA 3 72) (qA 4 73)) ?_;refine Rc (lv (fP:=IsV (.agg vs.toArray)) _ (λw' e=>ld_HdA HV.out.2.2.1.ok.1.1 (λq u hq=>e.cell (HH2.out q u hq))) (qA 5 74) (λ_ _=>rfl)) ?_;refine Rc (bsHv HV.out.2.2.1 (qA (fP:=IsV (.agg vs.toArray)) 6 75)) ?_;exact rn0
      intro v X13 e1 hZ _;simp only[lxE,Nat.reduceAdd];rw[show v 1=lv2 from hZ 1 dcx];have hsr:SrcR 1 vs (v 7) X13:=hZ 7 dcx;clear hZ;obtain⟨MM,hMM⟩:∃M,(L.take i).filter (pN rdl)++(if pN (rdl.take k) vs then [vs]else [])=M:=⟨_,rfl⟩
      have hML:MM.length<=1000:=by
       rw[<-hMM];have h1:=List.length_filter_le (pN rdl) (L.take i);have:=HNL.out;rw[List.length_take]at h1;rw[jT];split <;> simp <;> omega
      have S3:=S2.out;rw[hMM]at S3;have hsz:g14+1<=X13.heap.size:=jQ S3.1.lt e1.size;refine stA 8 rfl (λK hK=>wp_hw 77 (.tmp 70) (.tmp 76) rfl (g14+1) MM [vs] lv2 (v 7) rfl rfl (S3.2.1.ext e1) (λvs' h=>by rw[List.mem_singleton]at h;rw[h];exact HV.out.2.2.1.ok.1) (by simpa using hsr) zaf hsz (λv9 X14 hI9 p9=>hK _ _ ?_));have hb9:Below (g14+1) X13 X14:=(S3.2.1.ext e1).below p9 hsz;have E14:Ext X10 X14:=Below.trans (S3.2.2.trans e1) (hb9.mono (by have:=HX10.out;omega));have hne:lv2.ownBlock≠some g14:=λe=>by have:=(S3.2.1.1.own_lt e).2;omega
      have B4:Bk X14 g14 [lv2]:=(S3.1.ext e1).below hb9 (by omega);obtain⟨a2,n2,c2,hv2⟩:=S3.2.1.shape;obtain⟨a9,n9,c9,hv9⟩:=hI9.shape;subst hv2;subst hv9;clear hK K p9 hb9 hne hsr S2 S3 e1 hsz;refine faA 9 78 (.tmp 14) rfl (jG g14) ?_;obtain⟨O5,B5⟩:=B4.setO 0 (by simp) (.slice a9 n9 c9) (NoWord.slice _ _ _);have L5:=B4.c 0 _ rfl;have F5:=B4.f 0;refine stA 10 rfl (λK hK=>st_wp (p:=.pointer (some ⟨g14,0,none⟩)) (u:=.slice a9 n9 c9) (w':=X14.setCell ⟨g14,0,none⟩ (.slice a9 n9 c9)) rfl rfl rfl ja (hK _ _ ?_));generalize X14.setCell ⟨g14,0,none⟩ (.slice a9 n9 c9)=X15 at O5 B5 ⊢;have S5:=hid (jO (show Bk X15 g14 [.slice a9 n9 c9]from B5) (jO (hI9.only O5 (by omega)) (O5.ext E14 (Nat.le_of_eq HX10.out))));clear hK K L5 F5 hI9 E14 B4 O5 B5 HH2 c110;refine jR za ?_ _;go_wp2_with fail
      go_roundg (gk-1)
      case measure=>have:=HK.out;omega
      case rel=>exact⟨k+1,_,rfl,by have:=HK.out;omega,hid ⟨S5.out.1,by have h5:=S5.out.2.1;rw[<-hMM,hon]at h5;rw[any_take HK.out.2.2.1,hon,HK.out.2.2.2.2,HK.out.2.2.2.1];simpa using h5,S5.out.2.2⟩⟩
     ·have HXY:=hid hxy;refine rg 13 (dR 56 13) [IsP g13 11,IsV (.slice ra m rc),iV (k:Int),IsP gr' k,IsV (.string yy),IsP g11 0,IsV (.slice sa nL sc),iV (i:Int),IsP gs9 (32*i),IsP gs9 (32*i),IsP gs9 (32*i),IsV (.string nm),IsV (.bool false)] [] 0 ?_ ?_
      ·refine Rc (fa (fa_Out1 (g13)) (qB (x:=.pointer (some ⟨g13,0,none⟩)) 13)) ?_;refine Rc yo ?_;refine Rc (mv (qB (x:=.int .i64 (k:Int)) 16)) ?_;refine Rc (ixq (ix_rS ra gr' rc m k ER.out HK.out.2.1) (qA 1 57) (qA 2 58)) ?_;refine Rc zat ?_;refine Rc xi ?_;refine Rc yt ?_;refine Rc jb ?_;refine Rc (ixq (ix_HdS sa gs9 sc nL i ES.out HV.out.1) (qA 6 62) (qA 7 63)) ?_;refine Rc (fa (fa_He0 gs9 (32*i)) (qA 8 64)) ?_;refine Rc (fa (fa_EnA gs9 (32*i)) (qA 9 65)) ?_;refine Rc (lv (fP:=IsV (.string nm)) _ (λw' e=>ld_str' w' _ _ (e.cell cn)) (qA 10 66) (λ_ _=>rfl)) ?_;refine Rc (bn (r:=.bool false) (qC 4 60) (qC 11 67) (hr:=λw=>by go_simp;exact λh=>hxy (baU h))) ?_;exact rn0
      intro v X12 e1 hZ _;simp only[lxE,Nat.reduceAdd];rw[show v 12=.bool false from hZ 12 dcx];have S2:=hid (jO (S.out.1.ext e1) (jO (S.out.2.1.ext e1) (S.out.2.2.trans e1)));clear e1 hZ cy cn S HH9 c110 c11w hxy;refine jR za ?_ _;go_wp2_with fail
      go_roundg (gk-1)
      case measure=>have:=HK.out;omega
      case rel=>exact⟨k+1,lv2,rfl,by have:=HK.out;omega,hid ⟨S2.out.1,by have h5:=S2.out.2.1;rw[any_take HK.out.2.2.1,HK.out.2.2.2.2,HK.out.2.2.2.1];rw[show decide (nm=yy)=false from decide_eq_false (λh=>HXY.out h.symm),Bool.or_false];exact h5,S2.out.2.2⟩⟩
    ·have hkl:¬((k:Int)<(m:Int)):=by omega
     have hM:(L.take i).filter (pN rdl)++(if pN (rdl.take k) vs then [vs]else [])=(L.take (i+1)).filter (pN rdl):=by
      rw[fil_take1 HV.out.2.1,show rdl.take k=rdl from List.take_of_length_le (by have:=HM.out.1;omega)]
     have S1:=S.out;rw[hM]at S1;have S1:=hid S1;clear S hM hg2 c110;go_wp2_with fail
     go_roundg (G-1)
     case measure=>have:=HG.out;have:=HV.out.1;omega
     case rel=>exact⟨i+1,lv2,rfl,by have:=HG.out;have:=HV.out.1;omega,S1⟩
  ·have hil:¬((i:Int)<(nL:Int)):=by omega
   have hM:(L.take i).filter (pN rdl)=L.filter (pN rdl):=by rw[List.take_of_length_le (by have:=HNL.out.1;omega)]
   have S1:=S.out;rw[hM]at S1;have S1:=hid S1;clear S hM hg c11w;go_upto_region 18 with fail;clear hil hi c110;have E9:=S1.out.2.2;replace B8:=B8.ext E9;replace B11:=B11.ext E9;replace OA:=OA.ext E9;replace E:=E.trans E9;replace E6:=E6.trans E9;obtain⟨la,ln,lc,hlv⟩:=S1.out.2.1.shape;subst hlv;have HS9:=hid (jO (HSH.out.1.ext E6) (show ∀vs∈L,HeldN vs wr from λvs h=>(HHN.out vs h).ext E9));clear E9 KR1 HSR HHN c11 HX10 HIH HEX HB14;obtain⟨bb,hbb2⟩:∃b,wr.heap.size=b:=⟨_,rfl⟩;have HBB:=hid hbb2;clear hbb2;refine rg 7 [some 79,some 80,some 81,some 82,some 83,some 84,some 17] [IsV (.agg #[.slice sa nL sc]),IsZ,IsIE bb 1,IsE1 bb zz1,IsV (.agg #[.int .i64 0,.int .i64 0,.int .i64 0]),IsSh L zz1 (0,0,0),IsNo bb] [] 1 ?_ ?_
   ·refine Rc (lvV B11 ld_Sh1 (qB 11)) ?_;refine Rc (ofZ (z:=1) dcx qE) ?_;refine Rc (bsE1 (Nat.le_of_eq HBB.out.symm) (qA 1 80)) ?_;refine Rc (bdE1 (base:=bb) (nm:=zz1) qE (qA (fP:=IsIE bb 1) 2 81)) ?_;refine Rc (Ok.of za λv a w hE hd hf=>⟨_,bdG rfl (by simp only[List.map_toArray,List.map_nil];exact bd_So0 w),rfl⟩) ?_;refine Rc (cl3 (en func25) (qA (fP:=IsV (.agg #[.slice sa nL sc])) 0 79) (qA (fP:=IsE1 bb zz1) 3 82) (qA (fP:=IsV (.agg #[.int .i64 0,.int .i64 0,.int .i64 0])) 4 83) (λx0 x1 x2 w' hE d0 d1 d2=>by{obtain rfl:x0=_:=d0;obtain⟨es,rfl,hEn⟩:=d1;obtain rfl:x2=_:=d2;obtain⟨d,hW⟩:=hEn.ent;exact add_g (p:=(0,0,0)) (HS9.out.1.ext hE) (by have:=HNL.out;omega) (λvs h=>(HS9.out.2 vs h).1.ext hE) hW (.inr (λvs h=>(HS9.out.2 vs h).2))})) ?_;refine Rc (alNo (Nat.le_of_eq HBB.out.symm)) ?_;exact rn0
   intro v X18 e1 hZ _;simp only[lxE,Nat.reduceAdd];obtain⟨sv2,j2,m2,new,hx5,hs2,hj2,hnew,hnn,hm2⟩:=hZ 5 dcx;obtain⟨g17,hx6,hg17,Bn,O1⟩:=hZ 6 dcx;rw[hx5,hx6];clear hZ hx5 hx6
   obtain⟨a2,n2,c2,hv2⟩:∃a n c,sv2=.slice a n c:=by
    rcases hs2 with⟨-,h⟩| ⟨g9,c9,h,-,-⟩
    ·exact⟨_,_,_,h⟩
    ·exact⟨_,_,_,h⟩
   subst hv2;refine stA 7 rfl (λK hK=>qZ (us:= [.slice a2 n2 c2]) Bn st_Sh rfl rfl nwNilS (λX19 B17 O=>hK _ _ ?_));have e4:Ext wr X19:=O.ext e1 (by rw[HBB.out];exact hg17);clear hK K;replace B8:=B8.ext e4;replace B11:=B11.ext e4;replace OA:=OA.ext e4;replace E:=E.trans e4;replace E6:=E6.trans e4;have B14:=S1.out.1.ext e4;have hHN:∀vs∈L,HeldN vs X19:=λvs h=>(HS9.out.2 vs h).ext e4
   have HLS:=hid (show ShE cs' (L.filter (pN rdl)) (datW X6) (.slice la ln lc) X19 from((HSE.out.ext E6).sub (λvs h=>(List.mem_filter.1 h).1) (List.length_filter_le _ _) ((S1.out.2.1.hds (λvs h=>(HS9.out.2 vs (List.mem_filter.1 h).1).1.ok.1.1)).hds.ext e4)))
   have hL18:∀vs∈L.take j2++ [new]++L.drop m2,∃p,HeldW p vs X18:=λvs h=>by
    rcases List.mem_append.1 h with h|h
    ·rcases List.mem_append.1 h with h|h
     ·exact⟨_,((HS9.out.2 vs (List.mem_of_mem_take h)).ext e1).1⟩
     ·rw[List.mem_singleton]at h;rw[h];exact⟨_,hnew⟩
    ·exact⟨_,((HS9.out.2 vs (List.mem_of_mem_drop h)).ext e1).1⟩
   have hL2:∀vs∈L.take j2++ [new]++L.drop m2,∃p,HeldW p vs X19:=λvs h=>let ⟨p,hp⟩:=hL18 vs h;⟨p,hp.one O O1⟩
   have hs3:=hs2.one (λvs h=>let ⟨p,hp⟩:=hL18 vs h;⟨_,hp.ok.2⟩) O O1
   obtain⟨dat2,hd1,hd2⟩:=(HSE.out.ext E6).more hs3.hds hL2 HCK.out.1 HCK.out.2.1 HCK.out.2.2 (by
    have:=HNL.out;simp only[jT,List.length_take,List.length_drop,List.length_singleton]
    omega)
   have HMS:=hid hd2;have HBL:=hid (show ∀x∈A.2.2.1,bsG (L.filter (pN rdl)) (datW X6) gs x=bsG L (datW X6) gs x from λx hx=>bsG_congr (less_fil (λvs hv=>pN_mem (HRD.out.2.1 x hx) hv)))
   have HBM:=hid (show ∀x∈A.2.2.1,bsG (L.take j2++ [new]++L.drop m2) dat2 gs x=bsG L (datW X6) gs x from λx hx=>by
    rw[bsG_congr (L:=L) (more_fil (nm:=zz1) (HLN.out.2.2 x hx) hnn (hm2.imp id λh=>⟨h.1,h.2.2⟩))]
    exact bsG_dat hd1)
   have HB9:=hid (show ∀x∈A.2.2.1,bsG L (datW X6) (gs++ [9]) x=bsG L (datW X6) gs x from λx _=>bsG_gs (λvs hv h9=>by
    have:=((HSE.out.ok gs zbw).dk vs hv).2.2 9 h9
    exact absurd this.1 dcx) x)
   obtain⟨L2,hL2e⟩:∃L',L.take j2++ [new]++L.drop m2=L':=⟨_,rfl⟩;rw[hL2e]at HMS HBM;obtain⟨uA,huA1,huA2,huA3⟩:=OA.val;have HUA:=hid huA3;have cUA:=huA2;have hkz:ksV A.2.2.1=(ksL A.2.2.1).map encStr/\zsV A.2.2.2=(zsL A.2.2.2).map (Value.int .i64):=⟨rfl,rfl⟩;clear e1 e4 O Bn O1 hg17 hHN hL18 hL2 hd1 hd2 hs2 hs3 hj2 hnew hnn hm2 huA2 huA3 HS9 S1 HBB hL2e hkz;refine jR za ?_ _;go_upto_region 19 with fail;refine rg 25 (dR 85 25) [IsV (.agg us.toArray),IsV (.slice ca1 cs'.length cc1),IsV (.slice va1 cs'.length vc1),IsV (.agg #[.slice la ln lc]),IsV (.slice ga gs.length gc),IsV (.int .u16 (st:Int)),iV (st:Int),IsOutX A.1 A.2.1 (ksV A.2.2.1) (zsV A.2.2.2),IsOutX A.1 A.2.1 (ksV A.2.2.1) (zsV A.2.2.2),IsV (.bool true),IsV (.bool false),IsV (.bool false),IsV (.agg us.toArray),IsV (.slice ca1 cs'.length cc1),IsV (.slice va1 cs'.length vc1),IsV (.agg #[.slice a2 n2 c2]),IsV (.slice ga gs.length gc),IsV (.int .u16 (st:Int)),iV (st:Int),IsOutX A.1 A.2.1 (ksV A.2.2.1) (zsV A.2.2.2),IsOutX A.1 A.2.1 (ksV A.2.2.1) (zsV A.2.2.2),IsV (.bool true),IsV (.bool false),IsV (.bool false),IsV (.bool false)] [] 16 ?_ ?_
   ·refine Rc zar ?_;refine Rc (mv (qB (x:=.slice ca1 cs'.length cc1) 9)) ?_;refine Rc (mv (qB (x:=.slice va1 cs'.length vc1) 10)) ?_;refine Rc (lvV B14 ld_Sh1 (qB 14)) ?_;refine Rc jk ?_;refine Rc (mv (qB (x:=.int .u16 (st:Int)) 2)) ?_;refine Rc (cvy (S:=62) (T:=3) (r:=.int .i64 (st:Int)) (qC 5 90) (hr:=λw=>by have h9:=HWX.out;go_simp)) ?_;refine Rc (cl6 (en func16) (qA (fP:=IsV (.agg us.toArray)) 0 85) (qA (fP:=IsV (.slice ca1 cs'.length cc1)) 1 86) (qA (fP:=IsV (.slice va1 cs'.length vc1)) 2 87) (qA (fP:=IsV (.agg #[.slice la ln lc])) 3 88) (qA (fP:=IsV (.slice ga gs.length gc)) 4 89) (qA (fP:=iV (st:Int)) 6 91) (λu1 u2 u3 u4 u5 u6 w' hE d1 d2 d3 d4 d5 d6=>by{obtain rfl:u1=_:=d1;obtain rfl:u2=_:=d2;obtain rfl:u3=_:=d3;obtain rfl:u4=_:=d4;obtain rfl:u5=_:=d5;obtain rfl:u6=_:=d6;exact HRA.out (L.filter (pN rdl)) (datW X6) gs _ _ w' (E6.trans hE) (HLS.out.ext hE) zbw (HGR.out.2.ext (E6.trans hE)) HBL.out})) ?_;refine Rc zz ?_;refine Rc (cl2 (en func15) (qA (fP:=IsOutX A.1 A.2.1 (ksV A.2.2.1) (zsV A.2.2.2)) 7 92) (qA (fP:=IsOutX A.1 A.2.1 (ksV A.2.2.1) (zsV A.2.2.2)) 8 93) (λx0 x1 w' hE d0 d1=>by{exact sameO_t d0 d1 (jQ HLN.out.2.1 dcx) (jQ HLN.out.1 dcx)})) ?_;refine Rc (un (r:=.bool false) (qC 9 94) zb6 (hr:=λw=>by go_simp)) ?_;refine Rc (mv (qA (fP:=IsV (.bool false)) 10 95)) ?_;refine RcG 11 96 false zar ?_;refine RcG 11 96 false (mv (qB (x:=.slice ca1 cs'.length cc1) 9)) ?_;refine RcG 11 96 false (mv (qB (x:=.slice va1 cs'.length vc1) 10)) ?_;refine RcG 11 96 false (lvV B17 ld_Sh1 (qB 17)) ?_;refine RcG 11 96 false jk ?_;refine RcG 11 96 false (mv (qB (x:=.int .u16 (st:Int)) 2)) ?_;refine RcG 11 96 false (cvy (S:=62) (T:=3) (r:=.int .i64 (st:Int)) (qC 17 102) (hr:=λw=>by have h9:=HWX.out;go_simp)) ?_;refine RcG 11 96 false (cl6 (en func16) (qA (fP:=IsV (.agg us.toArray)) 12 97) (qA (fP:=IsV (.slice ca1 cs'.length cc1)) 13 98) (qA (fP:=IsV (.slice va1 cs'.length vc1)) 14 99) (qA (fP:=IsV (.agg #[.slice a2 n2 c2])) 15 100) (qA (fP:=IsV (.slice ga gs.length gc)) 16 101) (qA (fP:=iV (st:Int)) 18 103) (λu1 u2 u3 u4 u5 u6 w' hE d1 d2 d3 d4 d5 d6=>by{obtain rfl:u1=_:=d1;obtain rfl:u2=_:=d2;obtain rfl:u3=_:=d3;obtain rfl:u4=_:=d4;obtain rfl:u5=_:=d5;obtain rfl:u6=_:=d6;exact HRA.out L2 dat2 gs _ _ w' (E6.trans hE) (HMS.out.ext hE) zbw (HGR.out.2.ext (E6.trans hE)) HBM.out})) ?_
    refine RcG 11 96 false zz ?_;refine RcG 11 96 false (cl2 (en func15) (qA (fP:=IsOutX A.1 A.2.1 (ksV A.2.2.1) (zsV A.2.2.2)) 19 104) (qA (fP:=IsOutX A.1 A.2.1 (ksV A.2.2.1) (zsV A.2.2.2)) 20 105) (λx0 x1 w' hE d0 d1=>by{exact sameO_t d0 d1 (jQ HLN.out.2.1 dcx) (jQ HLN.out.1 dcx)})) ?_;refine RcG 11 96 false (un (r:=.bool false) (qC 21 106) zb6 (hr:=λw=>by go_simp)) ?_;refine Rc (pk (qC 11 96) (qA (fP:=IsV (.bool false)) 22 107)) ?_;refine Rc (mv (qA (fP:=IsV (.bool false)) 23 108)) ?_;exact rn0
   intro v X20 e1 hZ _;have hP24:v 24=.bool false:=hZ 24 dcx;replace B8:=B8.ext e1;replace B11:=B11.ext e1;replace OA:=OA.ext e1;replace E:=E.trans e1;replace E6:=E6.trans e1;replace HUA:=hid (IsOutX.stb _ _ _ _ _ _ _ e1 HUA.out);replace cUA:=λq u hq=>e1.cell (cUA q u hq)
   clear e1 hZ;refine rgk2 25 41 [31,33] [33,36] (Rn9 X20.heap.size) [some 85,some 86,some 87,some 88,some 89,some 90,some 91,some 92,some 93,some 94,some 95,some 96,some 97,some 98,some 99,some 100,some 101,some 102,some 103,some 104,some 105,some 106,some 107,some 108,some 109,some 110,some 111,some 112,some 113,some 114,some 115,some 116,some 117,some 118,some 119,some 120,some 121,some 122,some 123,some 124,some 125] (IsTT ::IsTT ::IsTT ::IsTT ::IsTT ::IsTT ::IsTT ::IsTT ::IsTT ::IsTT ::IsTT ::IsTT ::IsTT ::IsTT ::IsTT ::IsTT ::IsTT ::IsTT ::IsTT ::IsTT ::IsTT ::IsTT ::IsTT ::IsTT ::IsV (.bool false) ::IsV (.agg us.toArray) ::IsV (.slice ca1 cs'.length cc1) ::IsV (.slice va1 cs'.length vc1) ::IsV (.agg #[.slice sa nL sc]) ::IsE0 ::IsV (.slice ga gs.length gc) ::IsTT ::IsN9 ::IrR (gs++ [9]) ::IsV (.int .u16 (st:Int)) ::iV (st:Int) ::IsOutX A.1 A.2.1 (ksV A.2.2.1) (zsV A.2.2.2) ::IsV (.agg uA.toArray) ::IsV (.bool true) ::IsV (.bool false) ::IsV (.bool false) :: []) (λi=>if i=31 then λv w=>IsCp gs v w/\∀g,v.ownBlock=some g->gs≠ []->X20.heap.size<=g else λ_ _=>True) v [some 85,some 86,some 87,some 88,some 89,some 90,some 91,some 92,some 93,some 94,some 95,some 96,some 97,some 98,some 99,some 100,some 101,some 102,some 103,some 104,some 105,some 106,some 107,some 108,some 109] 0 16 (Rn9.rel _) ?_ ?_ ?_ ?_ ?_
   ·refine KxG 24 109 false (λw' hR=>lvV (B8.ext (hR.ext)) xN (qB 8) hlu) ?_;refine KxG 24 109 false (λw' hR=>mv (qB 9)) ?_;refine KxG 24 109 false (λw' hR=>mv (qB 10)) ?_;refine KxG 24 109 false (λw' hR=>lvV (B11.ext (hR.ext)) ld_Sh1 (qB 11)) ?_;refine KxG 24 109 false (λw' hR=>bsE0) ?_;refine KxG 24 109 false (λw' hR=>mv (qB 12)) ?_;refine KcG 24 109 false (λw' hR hX v' a hd hC hf K hK=>?_) ?_
    ·obtain⟨g0,hg0⟩:IsE0 (v' 29) w':=hd 29 za;have h30:v' 30=.slice ga gs.length gc:=hd 30 za;have E20:Ext X20 w':=hR.ext;refine wp_ap0 116 (.tmp 114) (.tmp 115) rfl g0 gs _ (evT (hf.val 29 114 _ hg0 za za za)) (evT (hf.val 30 115 _ h30 za za za)) (HGR.out.2.ext (E6.trans E20)) zbw (λv2 w2 e2 h2=>hK v2 w2 ((Rn9.rel _).ext e2) trivial ?_);rcases h2 with⟨hq,rfl⟩| ⟨hq,hr,hn⟩
     ·exact⟨.inl ⟨hq,_,rfl⟩,λg _ hne=>absurd hq hne⟩
     ·exact⟨.inr ⟨hq,_,hr,hn⟩,λg hg _=>jQ E20.size (hr.own_lt hg).2⟩
    refine KxG 24 109 false (λw' hR=>bsN9) ?_;refine KcG 24 109 false (λw' hR hX v' a hd hC hf K hK=>?_) ?_
    ·have h32:IsN9 (v' 32) w':=hd 32 za;have h31:=hC 31 dcx za (λk hk hlt=>by simp at hk;omega);simp only[if_true]at h31;refine wp_ap9 (B:=X20.heap.size) 118 (.tmp 116) (.tmp 117) rfl gs _ _ (evT (hf.val 31 116 _ rfl za za za)) (evT (hf.val 32 117 _ rfl za za za)) h31.1 h32 zbw (λz hz h9=>by have:=HGB.out z hz;omega) h31.2 (λv2 w2 e2 h2=>hK v2 w2 e2 h2 trivial)
    refine KxG 24 109 false (λw' hR=>mv (qB 2)) ?_;refine KxG 24 109 false (λw' hR=>cvy (S:=62) (T:=3) (r:=.int .i64 (st:Int)) (qC 34 119) (hr:=λw=>by have h9:=HWX.out;go_simp)) ?_;refine KxG 24 109 false (λw' hR=>cl6 (en func16) (qA (fP:=IsV (.agg us.toArray)) 25 110) (qA (fP:=IsV (.slice ca1 cs'.length cc1)) 26 111) (qA (fP:=IsV (.slice va1 cs'.length vc1)) 27 112) (qA (fP:=IsV (.agg #[.slice sa nL sc])) 28 113) (qA (fP:=IrR (gs++ [9])) 33 118) (qA (fP:=iV (st:Int)) 35 120) (λu1 u2 u3 u4 u5 u6 w2 hE d1 d2 d3 d4 d5 d6=>by{obtain rfl:u1=_:=d1;obtain rfl:u2=_:=d2;obtain rfl:u3=_:=d3;obtain rfl:u4=_:=d4;obtain rfl:u6=_:=d6;exact HRA.out L (datW X6) (gs++ [9]) _ _ w2 (E6.trans (hR.ext.trans hE)) (HSE.out.ext (E6.trans (hR.ext.trans hE))) (by have:=HGR.out.1;simp;omega) d5 HB9.out})) ?_;refine KxG 24 109 false (λw' hR=>lv (fP:=IsV (.agg uA.toArray)) _ (λw2 e=>ld_OutX huA1 (λq u hq=>(hR.ext.trans e).cell (cUA q u hq))) (qB (x:=.pointer (some ⟨g13,0,none⟩)) 13) (λ_ _=>rfl)) ?_;refine KxG 24 109 false (λw' hR=>cl2 (en func15) (qA (fP:=IsOutX A.1 A.2.1 (ksV A.2.2.1) (zsV A.2.2.2)) 36 121) (qA (fP:=IsV (.agg uA.toArray)) 37 122) (λx0 x1 w2 hE d0 d1=>by{obtain rfl:x1=_:=d1;exact sameO_t d0 (IsOutX.stb _ _ _ _ _ _ _ (hR.ext.trans hE) HUA.out) (jQ HLN.out.2.1 dcx) (jQ HLN.out.1 dcx)})) ?_;refine KxG 24 109 false (λw' hR=>un (r:=.bool false) (qC 38 123) zb6 (hr:=λw=>by go_simp)) ?_;refine KxN (λw' hR=>pk (qC 24 109) (qA (fP:=IsV (.bool false)) 39 124)) ?_;exact RgcAll.nil
   ·intro i;by_cases hi:i=31
    ·simp only[hi,if_true];exact λx w1 w2 e h=>⟨IsCp.stb gs x w1 w2 e h.1,h.2⟩
    ·simp only[hi,if_false];exact λ_ _ _ _ _=>trivial
   ·repeat' (first|exact trivial|exact .inr (RSt.v _)|exact .inr RSt.tt|exact .inr RSt.e0|exact .inr (RSt.n9 _)|exact .inl dcx|apply jO)
   ·intro i hi
    match i with
    |24=>exact hP24
    |0|1|2|3|4|5|6|7|8|9|10|11|12|13|14|15|16|17|18|19|20|21|22|23=>exact trivial
    |n+25=>omega
   intro v2 X21 hR hP2;have e21:Ext X20 X21:=hR.ext;have h40:v2 40=.bool false:=hP2 40 dcx;simp only[lxE,Nat.reduceAdd];rw[h40];replace B8:=B8.ext e21;replace OA:=OA.ext e21;replace E:=E.trans e21;replace E6:=E6.trans e21;clear hP2 hP24 hR h40 cUA HUA;refine jR za ?_ _;go_upto_region 21 with fail;refine rgs 7 (dR 126 7) [IsV (.agg us.toArray),IsV (.slice ca1 cs'.length cc1),IsV (.slice va1 cs'.length vc1),IsV (.agg #[.slice none 0 0]),IsV (.slice ga gs.length gc),IsV (.int .u16 (st:Int)),iV (st:Int)] [] ?_ ?_
   ·refine Rc zar ?_;refine Rc (mv (qB 9)) ?_;refine Rc (mv (qB 10)) ?_;refine Rc zb3 ?_;refine Rc (mv (qB 12)) ?_;refine Rc yj ?_;refine Rc (cvy (S:=62) (T:=3) (r:=.int .i64 (st:Int)) (qC 5 131) (hr:=λw=>by have h9:=HWX.out;go_simp)) ?_;exact rn0
   intro v X8 e1 hZ _;simp only[lxE,Nat.reduceAdd];rw[show v 0=_ from hZ 0 dcx,show v 1=_ from hZ 1 dcx,show v 2=_ from hZ 2 dcx,show v 3=_ from hZ 3 dcx,show v 4=_ from hZ 4 dcx,show v 6=_ from hZ 6 dcx];clear hZ;refine stL (λK hK=>?_);refine xB (us:= [.agg us.toArray,.slice ca1 cs'.length cc1,.slice va1 cs'.length vc1,.agg #[.slice none 0 0],.slice ga gs.length gc,.int .i64 (st:Int)]) (en func16) za (HRN.out _ _ (E6.trans e1) (HGR.out.2.ext (E6.trans e1))) (λv2 X2 h=>hK _ _ ?_) (λch X2 h=>by{obtain⟨_,hx,_⟩:=h;cases hx}) (λX2 h=>by{obtain⟨_,hx,_⟩:=h;cases hx});obtain⟨_,hx,e2,hO⟩:=h;cases hx;clear hK K
   go_simp
   refine stL (λK hK=>?_);refine xF (vs:=zOut) al_Out (λBn e3=>hK _ _ ?_);obtain⟨gn,hgn⟩:∃g,X2.heap.size=g:=⟨_,rfl⟩;rw[hgn]at Bn ⊢;replace hO:=IsOutX.stb _ _ _ _ _ _ _ e3 hO;generalize X2.alloc (.cells zOut.toArray 53)=X3 at Bn e3 hO ⊢;clear hK K
   go_simp
   refine stL (λK hK=>?_);refine stOut Bn hO (noB_k _) (noB_z _) (λX22 ON O=>hK _ _ ?_);have e4:=(e1.trans e2).trans (O.ext e3 (Nat.le_of_eq hgn));obtain⟨g18,hg15⟩:∃g,gn=g:=⟨_,rfl⟩;rw[hg15]at ON ⊢;clear hK K O e1 e2 e3 hO Bn hgn hg15;refine jL ?_;replace OA:=OA.ext e4;replace E:=E.trans e4;clear e4;obtain⟨ra2,rn2,rc2,c11,hR⟩:=OA.rd;obtain⟨mm,hmm⟩:∃n,(ksV A.2.2.1).length=n:=⟨_,rfl⟩
   obtain rfl:mm=rn2:=by
    obtain⟨ao,cc9,hx9,-⟩:=hR;cases hx9;exact hmm.symm
   have hm2:(ksL A.2.2.1).length=mm:=by rw[<-hmm];exact(List.length_map _).symm
   clear hR hmm;by_cases hA0:A.2.2.1= []
   ·obtain rfl:mm=0:=by
     have:=ksL_len (SS:= []) (l:=A.2.2.1) (λx hx=>by rw[hA0]at hx;exact hx);rw[hm2]at this;exact Nat.le_zero.1 this
    have hNA:=HNN.out.1 hA0;rw[hNA]at ON;obtain⟨uA,huA1,cUA,huA3⟩:=OA.val;obtain⟨uN,huN1,cUN,huN3⟩:=ON.val;have HUA:=hid huA3;have HUN:=hid huN3;clear hNA hA0 hm2 huA3 huN3;go_upto_region 23 with fail;clear c11;refine rgs 6 (dR 138 6) [IsV (.bool true),IsV (.bool true),IsOutX A.1 A.2.1 (ksV A.2.2.1) (zsV A.2.2.2),IsOutX A.1 A.2.1 (ksV A.2.2.1) (zsV A.2.2.2),IsV (.bool true),IsV (.bool true)] [] ?_ ?_
    ·refine Rc (mv (qB (x:=.bool true) 7)) ?_;refine Rc (mv (qA (fP:=IsV (.bool true)) 0 138)) ?_;refine RcG 1 139 true (lv _ (λw' e=>ld_OutX huN1 (λq u hq=>e.cell (cUN q u hq))) (qB (x:=.pointer (some ⟨g18,0,none⟩)) 18) (λw' e=>IsOutX.stb _ _ _ _ _ _ _ e HUN.out)) ?_;refine RcG 1 139 true zz ?_;refine RcG 1 139 true (cl2 (en func15) (qA (fP:=IsOutX A.1 A.2.1 (ksV A.2.2.1) (zsV A.2.2.2)) 2 140) (qA (fP:=IsOutX A.1 A.2.1 (ksV A.2.2.1) (zsV A.2.2.2)) 3 141) (λx0 x1 w' hE d0 d1=>by{exact sameO_t d0 d1 (jQ HLN.out.2.1 dcx) (jQ HLN.out.1 dcx)})) ?_;refine Rc (pk (qC 1 139) (qA (fP:=IsV (.bool true)) 4 142)) ?_;exact rn0
    intro v X23 e1 hZ _;simp only[lxE,Nat.reduceAdd];rw[show v 5=.bool true from hZ 5 dcx];replace E:=E.trans e1;clear e1 hZ;go_wp2_with fail
    go_ret
    exact⟨_,rfl,E,rfl⟩
   ·have hm0:mm≠0:=λh=>by
     obtain⟨x,t,hx⟩:=List.exists_cons_of_ne_nil hA0;have:=(mem_ksL A.2.2.1 x).2 (by rw[hx];exact List.mem_cons_self);rw[h]at hm2;rw[List.length_eq_zero_iff.1 hm2]at this;cases this
    have hm1:¬(mm:Int)=0:=by omega
    obtain⟨n9,hn0,hnE⟩:=HNN.out.2 hA0;have eN:=ON.err;rw[hnE]at eN;have eN:World.cell? X22 ⟨g18,10,none⟩=some (.int .i64 n9):=eN;have HN0:=hid hn0;clear hA0 hm2 hn0 hnE;go_upto_region 24 with fail;clear c11 hm0 hm1;refine rgs 7 (dR 144 7) [IsV (.bool true),IsV (.bool true),IsP g18 0,IsP g18 10,iV n9,IsV (.bool true),IsV (.bool true)] [] ?_ ?_
    ·refine Rc (mv (qB (x:=.bool true) 7)) ?_;refine Rc (mv (qA (fP:=IsV (.bool true)) 0 144)) ?_;refine RcG 1 145 true (fa (xO (g18)) (qB (x:=.pointer (some ⟨g18,0,none⟩)) 18)) ?_;refine RcG 1 145 true (fa (fa_Vl3 (g18)) (qA (fP:=IsP g18 0) 2 146)) ?_;refine RcG 1 145 true (lv (fP:=iV n9) _ (λw' e=>ld_e w' _ _ (e.cell eN)) (qA (fP:=IsP g18 10) 3 147) (λ_ _=>rfl)) ?_;refine RcG 1 145 true (bn (r:=.bool true) (qC 4 148) qE (hr:=λw=>by have h9:=HN0.out;go_simp)) ?_;refine Rc (pk (qC 1 145) (qA (fP:=IsV (.bool true)) 5 149)) ?_;exact rn0
    intro v X23 e1 hZ _;simp only[lxE,Nat.reduceAdd];rw[show v 6=.bool true from hZ 6 dcx];replace E:=E.trans e1;clear e1 hZ;go_wp2_with fail
    go_ret
    exact⟨_,rfl,E,rfl⟩
end
end Go.Proofs.YtkeikfekkdplgaaGreatDoor
