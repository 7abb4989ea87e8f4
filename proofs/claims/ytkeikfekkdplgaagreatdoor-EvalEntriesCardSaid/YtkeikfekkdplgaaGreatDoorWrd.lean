/- Lemmas. -/
import Derived.Test.YtkeikfekkdplgaaGreatDoorBst4
import Derived.Test.YtkeikfekkdplgaaGreatDoorReadB
import Derived.Test.YtkeikfekkdplgaaGreatDoorEv8
import Derived.Test.YtkeikfekkdplgaaGreatDoorTre
namespace Go.Proofs.YtkeikfekkdplgaaGreatDoor
section
open Go Go.RowKit Go.Maps Go.Shelf
theorem rwgZ(e k base:Nat)(w:World)(hb:base<=w.heap.size):Rwg e k base (w.alloc (.cells #[] e)) (.slice (some ⟨w.heap.size,0,none⟩) 0 0) 0 []:=by
 refine⟨by simp,.inr ⟨w.heap.size,0,#[],rfl,hb,jW _ _,?_,?_,?_,?_⟩⟩
 all_goals simp
theorem nwbZ(e:Nat)(w:World):NwB (w.alloc (.cells #[] e)) (.slice (some ⟨w.heap.size,0,none⟩) 0 0):=by
 intro g cs e' fz h1 h2;cases h1;rw[jW]at h2;cases h2;intro u hu;simp at hu
def IntsAt(xs:List Value)(n:Nat)(w:World):Prop:=xs.length=n*2/\∀j,j<n->∃s a m c z,xs[2*j]? =some (Value.bool s)/\xs[2*j+1]? =some (Value.slice a m c)/\IsI 128 z (.agg #[.bool s,.slice a m c]) w
theorem IntsAt.gr{xs:List Value}{n:Nat}{w w':World}(h:IntsAt xs n w)(g:Gr w w'):IntsAt xs n w':=⟨h.1,λj hj=>let ⟨s,a,m,c,z,h1,h2,h3⟩:=h.2 j hj;⟨s,a,m,c,z,h1,h2,IsI.gstb _ _ _ _ _ g h3⟩⟩
theorem IntsAt.nil(w:World):IntsAt [] 0 w:=⟨rfl,λj hj=>by omega⟩
theorem IntsAt.app{xs ys:List Value}{n m:Nat}{w:World}(h:IntsAt xs n w)(k:IntsAt ys m w):IntsAt (xs++ys) (n+m) w:=by
 refine⟨by rw[jT,h.1,k.1];omega,λj hj=>?_⟩;by_cases hn:j<n
 ·obtain⟨s,a,m',c,z,h1,h2,h3⟩:=h.2 j hn;exact⟨s,a,m',c,z,apL _ _ h1,apL _ _ h2,h3⟩
 ·obtain⟨s,a,m',c,z,h1,h2,h3⟩:=k.2 (j-n) (by omega);have e1:2*j=xs.length+2*(j-n):=by rw[h.1];omega
  have e2:2*j+1=xs.length+(2*(j-n)+1):=by rw[h.1];omega
  exact⟨s,a,m',c,z,by rw[e1];exact apR _ _ h1,by rw[e2];exact apR _ _ h2,h3⟩
theorem IntsAt.cons{xs:List Value}{n:Nat}{w:World}{s:Bool}{a:Option Addr}{m c:Nat}{z:Int}(h:IsI 128 z (.agg #[.bool s,.slice a m c]) w)(k:IntsAt xs n w):IntsAt (.bool s :: .slice a m c ::xs) (1+n) w:=
 IntsAt.app (xs:= [.bool s,.slice a m c]) (n:=1) ⟨rfl,λj hj=>by
  obtain rfl:j=0:=(by omega)
  exact⟨s,a,m,c,z,rfl,rfl,h⟩⟩ k
theorem IntsAt.nw{xs:List Value}{n:Nat}{w:World}(h:IntsAt xs n w):(∀u∈xs,u.oneCell'=true)/\∀u∈xs,NoWord u:=by
 have hu:∀u∈xs,(∃s,u=.bool s)\/∃a m c,u=.slice a m c:=by
  intro u hu;obtain⟨i,hi,rfl⟩:=List.mem_iff_getElem.1 hu;have hl:=h.1;obtain⟨s,a,m,c,z,h1,h2,-⟩:=h.2 (i/2) (by omega);rcases Nat.mod_two_eq_zero_or_one i with e|e
  ·rw[show 2*(i/2)=i by omega,List.getElem?_eq_getElem hi]at h1;exact .inl ⟨s,Option.some.inj h1⟩
  ·rw[show 2*(i/2)+1=i by omega,List.getElem?_eq_getElem hi]at h2;exact .inr ⟨a,m,c,Option.some.inj h2⟩
 refine⟨λu hx=>?_,λu hx=>?_⟩
 ·rcases hu u hx with⟨s,rfl⟩| ⟨a,m,c,rfl⟩ <;> rfl
 ·rcases hu u hx with⟨s,rfl⟩| ⟨a,m,c,rfl⟩
  ·exact NoWord.bool _
  ·exact NoWord.slice _ _ _
def IsIR(base N:Nat)(v:Value)(w:World):Prop:=∃n xs,n<=N/\Rwg 28 2 base w v n xs/\NwB w v/\IntsAt xs n w
structure Pg (v:Value) (w:World) (v':Value) (w':World):Prop where
 gb:w.grownBy w' v.ownBlock
 gr:Gr w w'
 own:v'.ownBlock=v.ownBlock\/∃g,v'.ownBlock=some g/\w.heap.size<=g
theorem Pg.ext0{v:Value}{w w':World}(e:Ext w w'):Pg v w v w':=⟨⟨e.os,e.tape,e.output,e.size,λk hk _=>e.block k hk⟩,e.gr,.inl rfl⟩
theorem Pg.trans{v v1 v2:Value}{w w1 w2:World}(h:Pg v w v1 w1)(k:Pg v1 w1 v2 w2):Pg v w v2 w2:=by
 refine⟨⟨k.gb.os.trans h.gb.os,k.gb.tape.trans h.gb.tape,k.gb.output.trans h.gb.output,jQ h.gb.size k.gb.size,λq hq hne=>?_⟩,h.gr.trans k.gr,?_⟩
 ·refine(k.gb.block q (Nat.lt_of_lt_of_le hq h.gb.size) (λe=>?_)).trans (h.gb.block q hq hne);rcases h.own with o| ⟨g,o,ho⟩
  ·exact hne (e.trans o)
  ·rw[o]at e;cases e;omega
 ·rcases k.own with o| ⟨g,o,ho⟩
  ·rw[o];exact h.own
  ·exact .inr ⟨g,o,jQ h.gb.size ho⟩
theorem Pg.ext{v v1:Value}{w w1 w2:World}(h:Pg v w v1 w1)(e:Ext w1 w2):Pg v w v1 w2:=h.trans (Pg.ext0 e)
theorem Pg.bk{v v':Value}{w w':World}{b:Nat}{vs:List Value}(h:Pg v w v' w')(B:Bk w b vs)(hne:v.ownBlock≠some b):Bk w' b vs:=by
 have hb:w'.heap[b]? =w.heap[b]? :=h.gb.block b B.lt (λe=>hne e.symm);exact⟨λj u hj=>(World.cell?_of_block (w:=w) (a:=⟨b,j,none⟩) hb).trans (B.c j u hj),λj=>(World.frozen?_of_block (w:=w) (a:=⟨b,j,none⟩) hb).trans (B.f j),Nat.lt_of_lt_of_le B.lt h.gb.size⟩
theorem Pg.below{base N:Nat}{v v':Value}{w w':World}(h:Pg v w v' w')(hI:IsIR base N v w)(hb:base<=w.heap.size):Below base w w':=by
 obtain⟨n,xs,-,h1,-⟩:=hI;exact(jS base w).grown h.gb hb λb hb=>(h1.own_lt hb).2
def RetI(base N:Nat)(v:Value)(w:World):Ending->World->Prop:=λe w'=>∃v',e=.returned v'/\Pg v w v' w'/\IsIR base N v' w'
def zInt:List Value:= [.bool false,.slice none 0 0]
theorem infoN:∃bytes,(Tryz.prog.info? 28).map (λi=>(i.zero,i.size,i.bytes))=some (some (.agg zInt.toArray),2,bytes)/\bytes<=100000:=by
 obtain⟨i,hi,hq⟩:=Option.map_eq_some_iff.1 (show(Tryz.prog.info? 28).map (λi=>(i.zero,i.size,decide (i.bytes<=100000)))=some (some (.agg zInt.toArray),2,true)by kernel_rfl);simp only[Prod.mk.injEq,jY]at hq;obtain⟨h0,h1,h2⟩:=hq;exact⟨i.bytes,by rw[hi];simp[h0,h1],h2⟩
theorem nwZInt:∀u∈zInt,NoWord u:=by
 intro u hu;simp only[zInt,List.mem_cons,List.not_mem_nil,or_false]at hu;rcases hu with rfl|rfl
 ·exact NoWord.bool _
 ·exact NoWord.slice _ _ _
theorem IsIR.own_lt{base N:Nat}{v:Value}{w:World}(h:IsIR base N v w){g:Nat}(hg:v.ownBlock=some g):g<w.heap.size/\base<=g:=let ⟨_,_,_,h1,_,_⟩:=h;h1.own_lt hg
theorem IsIR.ext{base N:Nat}{v:Value}{w w':World}(h:IsIR base N v w)(e:Ext w w'):IsIR base N v w':=by
 obtain⟨n,xs,h1,h2,h3,h4⟩:=h;exact⟨n,xs,h1,h2.ext e,h3.kept λg hg=>e.block g (h2.own_lt hg).1,h4.gr e.gr⟩
theorem IsIR.mono{base N M:Nat}{v:Value}{w:World}(h:IsIR base N v w)(hm:N<=M):IsIR base M v w:=let ⟨n,xs,h1,h2⟩:=h;⟨n,xs,jQ h1 hm,h2⟩
theorem wp_ir{w:World}{o:Oper}{a:Act}{Q:Exit->Act->World->Prop}{K:Act->World->Prop}(s x:Operand)
  (ho:o.op=.call {callee:=.builtin .append,args:= #[s,x],argTypes:= #[69,69]}) (base N m:Nat) (v xv:Value) (news:List Value) (hs:a.eval s=v) (hx:a.eval x=xv) (hI:IsIR base N v w) (hnews:SrcR m news xv w) (hk:IntsAt news m w) (hN:N+m<=1000000000) (hbase:base<=w.heap.size)
  (h:∀v' w',IsIR base (N+m) v' w'->Pg v w v' w'->K (a.put o.dst v') w'):Oper.wp Tryz.prog o a w K Q:=by
 obtain⟨n,xs,h1,h2,h3,h4⟩:=hI;obtain⟨bytes,hi,hb⟩:=infoN;refine wp_rwnS s x 69 ho base 28 (.agg zInt.toArray) 2 bytes za hi rfl dcx (λu hu=>nwZInt u jw) v n xs hs h2 h3 m news xv hx hk.1 hnews hk.nw.1 hk.nw.2 (by omega) (by have:=Nat.mul_le_mul (show n+m<=1000000000 by omega) hb;omega) hbase ?_;intro v' w' r1 r2 r3 r4 r5 r6;exact h v' w' ⟨n+m,xs++news,by omega,r1,r2,(h4.gr r4).app (hk.gr r4)⟩ ⟨r3,r4,r6.imp id λe=>⟨_,e,jP _⟩⟩
theorem wpl_ir{w:World}{ops:Array Oper}{rest:List Oper}{o:Oper}{a:Act}{Q:Exit->Act->World->Prop}(hgd:o.guard=none)(s x:Operand)
  (ho:o.op=.call {callee:=.builtin .append,args:= #[s,x],argTypes:= #[69,69]}) (base N m:Nat) (v xv:Value) (news:List Value) (hs:a.eval s=v) (hx:a.eval x=xv) (hI:IsIR base N v w) (hnews:SrcR m news xv w) (hk:IntsAt news m w) (hN:N+m<=1000000000) (hbase:base<=w.heap.size)
  (h:∀v' w',IsIR base (N+m) v' w'->Pg v w v' w'->wpList Tryz.prog ops Q rest (a.put o.dst v') w'):wpList Tryz.prog ops Q (o ::rest) a w:=
 wpList_plain hgd λ_K hK=>wp_ir s x ho base N m v xv news hs hx hI hnews hk hN hbase λv' w' q1 q2=>hK _ _ (h v' w' q1 q2)
end
section
open Go Go.RowKit
section
variable {P:Program} {md:Region.Mode} {ops:Array Oper} {Q:Exit->Act->World->Prop}
theorem rgk_main(n:Nat)(ch:List Nat)(R:World->World->Prop)(fP:Nat->Value->World->Prop){a0:Act}{w0:World}
  (hn:n<=ops.size) (hap:qO ops n=true) (htp:xD md ops n []=true)
  (hlk:∀i j,i∈ch->j∈ch->i<j->(ups md ops j).contains i=true) (hnc:∀i,i<n->i∉ch->∀c∈ch,(ups md ops i).contains c=false) (h3:∀i j k,i∈ch->j∈ch->k∈ch->¬(i<j/\j<k))
  (hRt:∀ {a b c},R a b->R b c->R a c) (hER:∀ {a b},Ext a b->R a b)
  (hst:∀i,i<n->Stb (fP i)) (hstR:∀i,i<n->i∉ch->∀x w w',R w w'->fP i x w->fP i x w')
  (hop:∀i,i<n->∀o,ops[i]? =some o->∀(v:Nat->Value) (w:World),R w0 w->(i∈ch->(∀k∈ch,i<=k)->Ext w0 w)->(∀j,(ups md ops i).contains j=true->fP j (v j) w)->∀K:Act->World->Prop,
   (∀x w',(if i∈ch then R w w' else Ext w w')->fP i x w'->K ((qT ops v a0 n).put o.dst x) w')->if Region.wanted o (yielded ops (qT ops v a0 n).tmps)=true then Oper.wp P o (qT ops v a0 n) w K Q else K ((qT ops v a0 n).put o.dst undef) w)
  (hend:∀v w,R w0 w->(∀i,i<n->(i∉ch\/∀k∈ch,k<=i)->fP i (v i) w)->wpAny P md ops Q (ops.size-n) (qG ops.size n) (qT ops v a0 n) w):
  ∀ (fuel:Nat) (listed:Array Bool) (v:Nat->Value) (w:World),listed.size=ops.size->(∀j,n<=j->listed.getD j false=false)->fuel+qU listed n=ops.size->
   (∀i,listed.getD i false=true->∀e∈qS md ops i,listed.getD e false=true)->R w0 w->((∀k∈ch,listed.getD k false=false)->Ext w0 w)->
   (∀i,i<n->listed.getD i false=true->(i∉ch\/∀k∈ch,i<k->listed.getD k false=false)->fP i (v i) w)->wpAny P md ops Q fuel listed (qT ops v a0 n) w:=by
 simp only[xD,Bool.and_eq_true,List.all_eq_true,List.mem_range,Bool.or_eq_true,jY]at htp;obtain⟨htp1,htp2⟩:=htp;intro fuel
 induction fuel with
 | zero=>
  intro listed v w hsz hbig hcnt hcl hR hX hZ
  have hle:qU listed n<=n:=by
   have:=List.countP_le_length (p:=λi=>listed.getD i false) (l:=List.range n)
   simpa [qU]using this
  have hall:∀i,i<n->listed.getD i false=true:=λi hi=>by
   cases h:listed.getD i false
   ·have:=doneN_lt hi h;omega
   ·rfl
  have hl:listed=qG ops.size n:=by
   apply Array.ext (by simp[qG,hsz]);intro i g1 g2;have h4:listed[i]=listed.getD i false:=by simp[g1]
   rw[h4];rcases jU i n with h|h
   ·rw[hall i h];simp[qG,h]
   ·rw[hbig i h];simp[qG];omega
  have h0:ops.size-n=0:=by omega
  have:=hend v w hR (λi hi h=>hZ i hi (hall i hi) (h.imp id λh k hk hik=>absurd (h k hk) (by omega)));rw[h0]at this;rw[hl];exact this
 | succ fuel ih=>
  intro listed v w hsz hbig hcnt hcl hR hX hZ;by_cases hall:∃i,i<n/\(!listed.getD i false)=true
  ·obtain⟨i1,hi1,h1⟩:=hall;have hu1:listed.getD i1 false=false:=by simpa using h1
   obtain⟨i0,hi0,h0,hmin⟩:=xX (λi=> !listed.getD i false) n ⟨i1,hi1,by rw[hu1];rfl⟩;have hi0s:i0<listed.size:=by omega
   have hr0:i0∈Region.ready md ops listed:=xG (by simpa [hi0s]using h0) (by omega) (λe he=>by
    have:=hmin e zah
    simpa using this)
   refine⟨λh=>(by rw[h]at hr0;cases hr0),λi hi=>?_⟩
   have hin:i<n:=by
    rcases jU i n with h|h
    ·exact h
    ·exfalso;obtain⟨_,o,ho,_⟩:=mem_ready.1 hi;have his:i<ops.size:=(Array.getElem?_eq_some_iff.1 ho).1;rcases(htp1 i his).resolve_left (by omega) i1 hi1 with h2|h2
     ·have h3:=qK hcl i (qS md ops i) (qL hi) i1 (List.contains_iff_mem.1 h2);rw[hu1]at h3;cases h3
     ·simp at h2
   obtain⟨hun,o,ho,_⟩:=mem_ready.1 hi;have hil:i<listed.size:=by omega
   have hunf:listed.getD i false=false:=by simp[hil]at hun ⊢;exact hun
   have hup:∀j,(ups md ops i).contains j=true->listed.getD j false=true:=λj hj=>qK hcl i (qS md ops i) (qL hi) j (List.contains_iff_mem.1 hj)
   have hupl:∀k j,listed.getD k false=true->(ups md ops k).contains j=true->listed.getD j false=true:=λk j hk hj=>qK hcl k (qS md ops k) (hcl k hk) j (List.contains_iff_mem.1 hj)
   have hlater:∀k,i∈ch->k∈ch->i<k->listed.getD k false=false:=λk hic hkc hik=>by
    cases hl:listed.getD k false
    ·rfl
    ·have:=hupl k i hl (hlk i k hic hkc hik);rw[hunf]at this;cases this
   refine wpOp_step ho λK hK=>?_
   refine hop i hin o ho v w hR (λhic hmin=>hX λk hk=>by
    rcases jU i k with h|h
    ·exact hlater k hic hk h
    ·have:=hmin k hk
     rw[show k=i by omega];exact hunf) (λj hj=>?_) K ?_
   ·have hjl:=hup j hj
    have hjn:j<n:=by
     rcases jU j n with h|h
     ·exact h
     ·rw[hbig j h]at hjl;cases hjl
    refine hZ j hjn hjl ?_;by_cases hjc:j∈ch
    ·right
     have hic:i∈ch:=by
      by_cases h:i∈ch
      ·exact h
      ·rw[hnc i hin h j hjc]at hj;cases hj
     intro k hk hjk;rcases Nat.lt_trichotomy k i with h|h|h
     ·exact absurd ⟨hjk,h⟩ (h3 j k i hjc hk hic)
     ·rw[h];exact hunf
     ·exact hlater k hic hk h
    ·exact .inl hjc
   ·intro x w' hRw hx;refine hK _ _ ?_;have hdst:o.dst=qP ops i:=by simp[qP,ho]
    have hRR:R w w':=by
     by_cases h:i∈ch
     ·rw[if_pos h]at hRw;exact hRw
     ·rw[if_neg h]at hRw;exact hER hRw
    rw[hdst,layN_put a0 v i x n hin (λj k hj hk hjk=>xM hap hj hk hjk)];refine ih _ _ _ (by simp[hsz]) (λj hj=>?_) ?_ (λj hj e he=>?_) (hRt hR hRR) (λhnone=>?_) (λj hj hlj hcj=>?_)
    ·rw[getD_set_ne false (by omega)];exact hbig j hj
    ·rw[doneN_set _ _ hun,if_pos hin];omega
    ·by_cases hij:i=j
     ·subst hij;exact getD_set_true (qL hi e he)
     ·rw[getD_set_ne false hij]at hj;exact getD_set_true (hcl j hj e he)
    ·have hic:i∉ch:=λhic=>by
      have:=hnone i hic;rw[show(listed.setIfInBounds i true).getD i false=true by simp[hil]]at this;cases this
     rw[if_neg hic]at hRw;refine Ext.trans (hX λk hk=>?_) hRw;have:=hnone k hk;rw[getD_set_ne false (λe=>hic (by rw[e];exact hk))]at this;exact this
    ·by_cases hij:j=i
     ·subst hij;simpa only[xW,if_true]using hx
     ·rw [getD_set_ne false (Ne.symm hij)]at hlj;simp only[xW];rw[if_neg hij];by_cases hjc:j∈ch
      ·have hcj:=hcj.resolve_left (λh=>h hjc)
       have hic:i∉ch:=λhic=>by
        rcases Nat.lt_trichotomy j i with h|h|h
        ·have:=hcj i hic h;rw[show(listed.setIfInBounds i true).getD i false=true by simp[hil]]at this;cases this
        ·exact hij h
        ·have:=hlater j hic hjc h;rw[hlj]at this;cases this
       rw[if_neg hic]at hRw;refine hst j hj _ _ _ hRw (hZ j hj hlj (.inr λk hk hjk=>?_));have:=hcj k hk hjk;rw[getD_set_ne false (λe=>hic (by rw[e];exact hk))]at this;exact this
      ·exact hstR j hj hjc _ _ _ hRR (hZ j hj hlj (.inl hjc))
  ·have hall':∀i,i<n->listed.getD i false=true:=λi hi=>by
    cases h:listed.getD i false
    ·exact absurd ⟨i,hi,by rw[h];rfl⟩ hall
    ·rfl
   have hl:listed=qG ops.size n:=by
    apply Array.ext (by simp[qG,hsz]);intro i g1 g2;have h4:listed[i]=listed.getD i false:=by simp[g1]
    rw[h4];rcases jU i n with h|h
    ·rw[hall' i h];simp[qG,h]
    ·rw[hbig i h];simp[qG];omega
   have hf:fuel+1=ops.size-n:=by
    have:=doneN_all (listed:=listed) n hall';omega
   have:=hend v w hR (λi hi h=>hZ i hi (hall' i hi) (h.imp id λh k hk hik=>absurd (h k hk) (by omega)));rw[<-hf]at this;rw[hl];exact this
structure Rel (R:World->World->Prop):Prop where
 tr:∀ {a b c},R a b->R b c->R a c
 ext:∀ {a b},Ext a b->R a b
def RgkAll(P:Program)(ops:Array Oper)(Q:Exit->Act->World->Prop)(ds:List (Option Tmp))(a0:Act)(w0:World)(R:World->World->Prop)(L:List (Value->World->Prop))(ch:List Nat):Nat->Nat->List Oper->Prop
 |_,0,_=>True
 |_,_+1, []=>True
 | i,k+1,o ::os=>(∀w,R w0 w->if i∈ch then(o.guard=none/\(((∀k∈ch,i<=k)->Ext w0 w)->∀(v:Nat->Value) (a:Act),(∀j,(ups .any ops i).contains j=true->L.getD j (λ_ _=>True) (v j) w)->Fr ds a0 v a->∀K:Act->World->Prop,(∀x w',R w w'->L.getD i (λ_ _=>True) x w'->K (a.put o.dst x) w')->Oper.wp P o a w K Q))
   else RgL P .any ops Q ds a0 w L [] i o)/\RgkAll P ops Q ds a0 w0 R L ch (i+1) k os
theorem RgkAll.get{ds:List (Option Tmp)}{a0:Act}{w0:World}{R:World->World->Prop}{L:List (Value->World->Prop)}{ch:List Nat}:
  ∀ (k i:Nat) (os:List Oper),RgkAll P ops Q ds a0 w0 R L ch i k os->∀j,j<k->∀o,os[j]? =some o->∀w,R w0 w->if i+j∈ch then(o.guard=none/\(((∀k∈ch,i+j<=k)->Ext w0 w)->∀(v:Nat->Value) (a:Act),(∀q,(ups .any ops (i+j)).contains q=true->L.getD q (λ_ _=>True) (v q) w)->Fr ds a0 v a->∀K:Act->World->Prop,(∀x w',R w w'->L.getD (i+j) (λ_ _=>True) x w'->K (a.put o.dst x) w')->Oper.wp P o a w K Q))
   else RgL P .any ops Q ds a0 w L [] (i+j) o
 |0,_,_,_,j,h,_,_=>by omega
 |_+1,_, [],_,_,_,_,ho=>by simp at ho
 |k+1,i,o ::os,h,0,_,o',ho=>by simp at ho;subst ho;exact h.1
 | k+1,i,o ::os,h,j+1,hj,o',ho=>by
  have:=RgkAll.get k (i+1) os h.2 j (by omega) o' jt
  rwa [show i+(j+1)=i+1+j by omega]
variable {ds:List (Option Tmp)} {a0:Act} {w0:World} {R:World->World->Prop} {L:List (Value->World->Prop)} {ch:List Nat} {i k:Nat} {o:Oper} {os:List Oper}
theorem RgkAll.nil:RgkAll P ops Q ds a0 w0 R L ch i 0 os:=by cases os <;> trivial
theorem Kk(h:∀w,R w0 w->Ok P ops Q ds a0 w L [] i o)(hs:RgkAll P ops Q ds a0 w0 R L ch (i+1) k os)(hg:o.guard=none:=by rfl)(hc:decide (i∈ch)=false:=by kernel_rfl):RgkAll P ops Q ds a0 w0 R L ch i (k+1) (o ::os):=
 ⟨λw hR=>by rw[if_neg (of_decide_eq_false hc)];exact RgL.mk hg (h w hR).out,hs⟩
theorem KC(h:∀w,R w0 w->((∀k∈ch,i<=k)->Ext w0 w)->∀(v:Nat->Value) (a:Act),(∀j,(ups .any ops i).contains j=true->L.getD j (λ_ _=>True) (v j) w)->Fr ds a0 v a->∀K:Act->World->Prop,(∀x w',R w w'->L.getD i (λ_ _=>True) x w'->K (a.put o.dst x) w')->Oper.wp P o a w K Q)
  (hs:RgkAll P ops Q ds a0 w0 R L ch (i+1) k os) (hg:o.guard=none:=by rfl) (hc:decide (i∈ch)=true:=by kernel_rfl):RgkAll P ops Q ds a0 w0 R L ch i (k+1) (o ::os):=
 ⟨λw hR=>by rw[if_pos (of_decide_eq_true hc)];exact⟨hg,h w hR⟩,hs⟩
def lkOk(md:Region.Mode)(ops:Array Oper)(n:Nat)(ch:List Nat):Bool:=
 (ch.all λi=>ch.all λj=> !decide (i<j)||(ups md ops j).contains i)&&((List.range n).all λi=>decide (i∈ch)||ch.all λc=> !(ups md ops i).contains c)&&(ch.all λi=>ch.all λj=>ch.all λk=> !(decide (i<j)&&decide (j<k)))
theorem rgk(n:Nat)(ch:List Nat)(R:World->World->Prop)(ds:List (Option Tmp))(L:List (Value->World->Prop))(fuel:Nat){id:Nat}(hR:Rel R)
  (hop:RgkAll P ops Q ds a0 w0 R L ch 0 n ops.toList) (hstR:∀i,i<n->i∉ch->∀x w w',R w w'->L.getD i (λ_ _=>True) x w->L.getD i (λ_ _=>True) x w')
  (hend:∀v w,R w0 w->(∀i,i<n->(i∉ch\/∀k∈ch,k<=i)->L.getD i (λ_ _=>True) (v i) w)->wpAny P .any ops Q fuel (qG ops.size n) (qW v a0 0 ds) w)
  (hm:P.follows .mixedOrders=true:=by kernel_rfl) (hn:n<=ops.size:=by decide) (hf:ops.size-n=fuel:=by kernel_rfl) (hds:(List.range n).map (qP ops)=ds:=by kernel_rfl) (hap:qO ops n=true:=by kernel_rfl) (htp:xD .any ops n []=true:=by kernel_rfl) (hlk:lkOk .any ops n ch=true:=by kernel_rfl)
  (hst:AllStb L:=by exact AStb.out):(Code.region id ops true).wp P Q a0 w0:=by
 refine wp_region_any hm ?_;have hE:Ext w0 w0.drew:=(Ext.refl w0).drew;simp only[lkOk,Bool.and_eq_true,List.all_eq_true,List.mem_range,Bool.or_eq_true,Bool.not_eq_true',decide_eq_false_iff_not,jY,Bool.and_eq_false_iff]at hlk;obtain⟨⟨k1,k2⟩,k3⟩:=hlk
 have hD:∀m,qU (Array.replicate ops.size false) m=0:=λm=>by
  unfold qU;rw[List.countP_eq_zero.2];intro i _;simp[qH]
 have:=rgk_main (P:=P) (md:=.any) (Q:=Q) (a0:=a0) (w0:=w0) n ch R (λi=>L.getD i (λ_ _=>True)) hn hap htp (λi j hi hj hij=>(k1 i hi j hj).resolve_left (by omega)) (λi hi hc c hcc=>by
   have:=(k2 i hi).resolve_left hc c hcc
   simpa using this) (λi j k hi hj hk h=>by
   rcases k3 i hi j hj k hk with h'|h'
   ·exact h' h.1
   ·exact h' h.2) hR.tr hR.ext (λi _=>hst.get i) hstR
  (fun i hi o ho v w hRw hXw hd K hK=>by
   have h:=RgkAll.get n 0 ops.toList hop i hi o jt w hRw;rw[Nat.zero_add]at h;rw[qY v a0 n ds hds]at hK ⊢;by_cases hc:i∈ch
   ·rw[if_pos hc]at h;rw[if_pos (by simp[Region.wanted,h.1])];refine h.2 (hXw hc) v _ hd (Fr.of ds a0 v) K (λx w' hx hL=>hK x w' (by rw[if_pos hc];exact hx) hL)
   ·rw[if_neg hc]at h
    exact h v w (Ext.refl _) hd K (λx w' hx hL _=>hK x w' (by rw[if_neg hc];exact hx) hL))
  (λv w hRw hZ=>by rw[qY v a0 n ds hds,hf];exact hend v w hRw hZ)
  ops.size (Array.replicate ops.size false) (xT ops a0) w0.drew (by simp) (λj _=>by simp[qH]) (by rw[hD];rfl) (λi hi=>by simp[qH]at hi) (hR.ext hE) (λ_=>hE) (λi _ hi=>by simp[qH]at hi)
 have hlay:qT ops (xT ops a0) a0 n=a0:=layN_self a0 n
 rwa [hlay]at this
end
end
section
open Go Go.RowKit Go.Maps Go.Shelf
open Go.Proofs.Tryz
theorem jn{P:Prop}(h:P:=by first|decide| (have:=HL.out;omega)):P:=h
theorem zav{P:Prop}(h:P:=by have:=HL.out;have:=E2.size;simp;omega):P:=h
set_option maxHeartbeats 4000000
attribute [local go_sem] Oper.semAt_some
theorem st_InV:StV prog 28 2:=stM za
set_option maxRecDepth 100000
theorem jB(w:World)(k:Int)(h0: -9223372036854775808<=k)(h1:k<=9223372036854775807):Calls prog 121 #[.int .i64 k] w (Ret w (IsI 2 k)):=by
 obtain⟨W,hW,E,B⟩:∃W,W=w.alloc (.cells #[.bool false,.slice none 0 0] 28)/\Ext w W/\Bk W w.heap.size [.bool false,.slice none 0 0]:=zi;go_enter func121,ntmps121;go_upto_region 1 with fail;rw[<-hW];clear hW;refine rgs 2 [some 3,some 4] [iV k,IsI 2 k] [] ?_ ?_
 ·refine Rc zv ?_;refine Rc (cl1 (en func26) (qA (fP:=iV k) 0 3) (λx0 w' hE d0=>by{obtain rfl:x0=.int .i64 k:=d0;exact ROf_f w' k h0 h1})) ?_;exact rn0
 intro v W1 e1 hZ _;obtain⟨s,a,n,c,hv,g⟩:=hZ 1 dcx;simp only[lxE,Nat.reduceAdd];rw[hv];replace E:=E.trans e1;replace B:=B.ext e1;clear hZ hv e1;refine stL (λK hK'=>?_);refine qZ (us:= [.bool s,.slice a n c]) B st_InV rfl rfl nwZInt (λX9 B9 O=>hK' _ _ ?_);replace g:IsI 2 k (.agg #[.bool s,.slice a n c]) X9:=IsI.gstb _ _ _ _ _ O.gr ⟨_,_,_,_,rfl,g⟩;replace E:=O.ext E (jP _);refine jL ?_;have d0:=B9.c 0 _ rfl;have d1:=B9.c 1 _ rfl;clear hK' K O B B9;go_wp2_with fail;exact jK (v:=.agg #[.bool s,.slice a n c]) (by simp[results,results121,go_sem,d0,d1]) rfl ⟨_,rfl,E,g⟩
theorem i128{w w':World}{s:Bool}{a:Option Addr}{n c:Nat}{z:Int}(h:IntAt w 2 s a n c z)(e:Ext w w'):IsI 128 z (.agg #[.bool s,.slice a n c]) w':=(IsI.mono (show IsI 2 z (.agg #[.bool s,.slice a n c]) w from⟨_,_,_,_,rfl,h⟩) dcx).ext e
def SrcB(base m:Nat)(news:List Value)(x:Value)(w:World):Prop:=(x=.slice none 0 0/\m=0/\news= [])\/∃g f c,x=.slice (some ⟨g,f,none⟩) m c/\g<base/\∀j u,news[j]? =some u->World.cell? w ⟨g,f+j,none⟩=some u
theorem SrcB.src{base m:Nat}{news:List Value}{x:Value}{w w':World}(h:SrcB base m news x w)(b:Below base w w')(_hb:base<=w.heap.size):SrcR m news x w':=h.imp id λ⟨g,f,c,h1,h2,h3⟩=>⟨g,f,c,h1,λj u hj=>(b.cell (p:=⟨g,f+j,none⟩) h2).trans (h3 j u hj)⟩
theorem ints_f{w:World}{base N m:Nat}{v:Value}{la:Option Addr}{lc:Nat}{news:List Value}(hI:IsIR base N v w)(hN:N<=1000000)(hm:m<=1000)(hb:base<=w.heap.size)(hl:SrcB base m news (.slice la m lc) w)(hk:IntsAt news m w):
  Calls prog 96 #[v,.slice la m lc] w (RetI base (N+1+m) v w):=by
 have HI:=hid hI;have HL:=hid (jO hN (jO hm hb));have HS:=hid (jO hl hk);clear hI hN hm hb hl hk;go_enter func96,ntmps96
 go_wp2_with (first
  | (go_at_call 121;go_must (refine(jB _ (m:Int) jn jn).mono ?_;rintro e w2 ⟨_,rfl,E2,s,a,n8,c,rfl,hx⟩))
  | (at_builtin;have hg9:=HX;go_must (refine wpl_ir rfl _ _ rfl base (N+1) m v3 _ news rfl rfl HX.out.1 (HS.out.1.src (HX.out.2.below HI.out HL.out.2.2) HL.out.2.2) (HS.out.2.gr HX.out.2.gr) zm (by have:=HL.out;have:=HZ.out;omega) ?_;intro v4 w4 hI4 p4))
  | (at_builtin;go_must (refine wpl_ir rfl _ _ rfl base N 1 v _ [.bool s,.slice a n8 c] rfl rfl (HI.out.ext (E2.trans ((Ext.refl _).alloc _))) (SrcR.new _ #[.bool s,.slice a n8 c] _ 1 1) (IntsAt.cons (i128 hx ((Ext.refl _).alloc _)) (IntsAt.nil _)) zm zav ?_;intro v3 w3 hI3 p3;have HX:=hid (jO hI3 ((Pg.ext0 (E2.trans ((Ext.refl _).alloc _))).trans p3));have HZ:=hid (show w.heap.size<=w3.heap.size from HX.out.2.gb.size);clear hI3 p3)))
 go_ret
 exact⟨_,rfl,HX.out.2.trans p4,hI4⟩
theorem numbers_f{w:World}{base N:Nat}{v:Value}{l:List Int}{la:Option Addr}{lc:Nat}(hI:IsIR base N v w)(hN:N<=1000000)(hm:l.length<=1000)(hb:base<=w.heap.size)(hr:∀x∈l,-9223372036854775808<=x/\x<=9223372036854775807)
  (hl:l≠ []->∃g o,la=some ⟨g,o,none⟩/\g<base/\∀j x,l[j]? =some x->World.cell? w ⟨g,o+j,none⟩=some (.int .i64 x)):
  Calls prog 95 #[v,.slice la l.length lc] w (RetI base (N+1+l.length) v w):=by
 obtain⟨n,hn⟩:∃n,l.length=n:=⟨_,rfl⟩;have HI:=hid hI;have HL:=hid (jO hN (jO (hn▸hm:n<=1000) hb));have HS:=hid (jO hl (jO hr hn));rw[hn];clear hI hN hm hb hl hr hn;go_enter func95,ntmps95
 go_wp2_with (first
  | (go_at_call 121;go_must (refine(jB _ (n:Int) jn jn).mono ?_;rintro e w2 ⟨_,rfl,E2,s,a,n8,c,rfl,hx⟩))
  | (at_builtin;go_must (refine wpl_ir rfl _ _ rfl base N 1 v _ [.bool s,.slice a n8 c] rfl rfl (HI.out.ext (E2.trans ((Ext.refl _).alloc _))) (SrcR.new _ #[.bool s,.slice a n8 c] _ 1 1) (IntsAt.cons (i128 hx ((Ext.refl _).alloc _)) (IntsAt.nil _)) zm zav ?_;intro v3 w3 hI3 p3;have HX:=hid (jO hI3 ((Pg.ext0 (E2.trans ((Ext.refl _).alloc _))).trans p3));clear hI3 p3 hx E2)))
 go_loopg [0,5] n (λgk v0 v5 wr=>∃i:Nat,v5=.int .i64 (i:Int)/\i+gk=n/\Hid (IsIR base (N+1+i) v0 wr/\Pg v w v0 wr))
 case atStart=>exact⟨0,rfl,by omega,hid ⟨HX.out.1,HX.out.2⟩⟩
 case round=>
  obtain⟨i,rfl,hg,S⟩:=hrel;by_cases hi:i<n
  ·have hil:(i:Int)<(n:Int):=by omega
   have hiw:IntKind.i64.wrap ((i:Int)+1)=((i+1:Nat):Int):=by have:=HL.out;simp only[IntKind.wrap_i64];omega
   have hne:l≠ []:=by rintro rfl;have:=HS.out.2.2;simp at this;omega
   obtain⟨g,o,rfl,hgb,hcs⟩:=HS.out.1 hne;obtain⟨x,hx⟩:∃x,l[i]? =some x:=⟨_,List.getElem?_eq_getElem (by have:=HS.out.2.2;omega)⟩;have hxr:=HS.out.2.1 x (List.mem_of_getElem? hx);have hcx:=((S.out.2.below HI.out HL.out.2.2).cell (p:=⟨g,o+i,none⟩) hgb).trans (hcs i x hx);have HK:=hid (jO hxr (jO hi hg));have HZ:=hid (show w.heap.size<=wr.heap.size from S.out.2.gb.size);clear hxr hx hi hg hcs hne HX
   go_wp2_with (first
    | (go_at_call 121;go_must (refine(jB _ x HK.out.1.1 HK.out.1.2).mono ?_;rintro e w2 ⟨_,rfl,E2,s,a,n9,c,rfl,hx⟩))
    | (at_builtin;go_must (refine wpl_ir rfl _ _ rfl base (N+1+i) 1 _ _ [.bool s,.slice a n9 c] rfl rfl (S.out.1.ext (E2.trans ((Ext.refl _).alloc _))) (SrcR.new _ #[.bool s,.slice a n9 c] _ 1 1) (IntsAt.cons (i128 hx ((Ext.refl _).alloc _)) (IntsAt.nil _)) (by have:=HL.out;have:=HK.out;omega) (by have:=HL.out;have:=E2.size;have:=HZ.out;simp;omega) ?_;intro v3 w3 hI3 p3;have HX:=hid (jO hI3 (S.out.2.trans ((Pg.ext0 (E2.trans ((Ext.refl _).alloc _))).trans p3)));clear hI3 p3 hx E2)))
   go_roundg (gk-1)
   case measure=>have:=HK.out;omega
   case rel=>exact⟨i+1,rfl,by have:=HK.out;omega,hid ⟨HX.out.1,HX.out.2⟩⟩
  ·have hil:¬((i:Int)<(n:Int)):=by omega
   obtain rfl:i=n:=by omega
   go_wp2
   go_ret
   exact⟨_,rfl,S.out.2,S.out.1⟩
theorem tWrd2_1{P:Prop}(h:P:=by
  go_wp2_with (first
   | (go_at_call 121;go_must (refine(jB _ 0 jn jn).mono ?_;rintro e w2 ⟨_,rfl,E2,s,a,n8,c,rfl,hx⟩))
   | (at_builtin;go_must (refine wpl_ir rfl _ _ rfl base N 1 v _ [.bool s,.slice a n8 c] rfl rfl (HI.out.ext (E2.trans ((Ext.refl _).alloc _))) (SrcR.new _ #[.bool s,.slice a n8 c] _ 1 1) (IntsAt.cons (i128 hx ((Ext.refl _).alloc _)) (IntsAt.nil _)) zm zav ?_;intro v3 w3 hI3 p3;have HX:=hid (jO hI3 ((Pg.ext0 (E2.trans ((Ext.refl _).alloc _))).trans p3));clear hI3 p3 hx E2)))
  go_loopg [0,5] 0 (λgk v0 v5 wr=>v0=v3/\v5=.int .i64 0/\wr=w3)
  case atStart=>exact⟨rfl,rfl,rfl⟩
  case round=>
   obtain⟨rfl,rfl,rfl⟩:=hrel
   go_wp2
   go_ret
   exact⟨_,rfl,HX.out.2,HX.out.1⟩
  ):P:=h
theorem steps_n{w:World}{base N:Nat}{v:Value}(hI:IsIR base N v w)(hN:N<=1000000)(hb:base<=w.heap.size):Calls prog 98 #[v,.slice none 0 0] w (RetI base (N+1) v w):=by
 have HI:=hid hI;have HL:=hid (jO hN hb);clear hI hN hb;go_enter func98,ntmps98;exact tWrd2_1
theorem pell_n{w:World}{base N:Nat}{v:Value}(hI:IsIR base N v w)(hN:N<=1000000)(hb:base<=w.heap.size):Calls prog 99 #[v,.slice none 0 0] w (RetI base (N+1) v w):=by
 have HI:=hid hI;have HL:=hid (jO hN hb);clear hI hN hb;go_enter func99,ntmps99;exact tWrd2_1
theorem fpoints_n{w:World}{base N:Nat}{v:Value}(hI:IsIR base N v w)(hN:N<=1000000)(hb:base<=w.heap.size):Calls prog 123 #[v,.slice none 0 0] w (RetI base (N+1) v w):=by
 have HI:=hid hI;have HL:=hid (jO hN hb);clear hI hN hb;go_enter func123,ntmps123;exact tWrd2_1
theorem points_n{w:World}{base N:Nat}{v:Value}(hI:IsIR base N v w)(hN:N<=1000000)(hb:base<=w.heap.size):Calls prog 103 #[v,.slice none 0 0] w (RetI base (N+1) v w):=by
 have HI:=hid hI;have HL:=hid (jO hN hb);clear hI hN hb;go_enter func103,ntmps103;exact tWrd2_1
end
section
open Go Go.RowKit Go.Maps Go.Shelf
open Go.Proofs.Tryz
theorem yh{P:Prop}(h:P:=by simp only[List.map_toArray,List.map_cons,List.map_nil];rw[h1];exact hr):P:=h
theorem ym{P:Prop}(h:P:=by exact lv (fP:=IsZ) _ (λw' e=>qF w' b 0 false none 0 0 ((B.ext e).c 0 _ rfl) ((B.ext e).c 1 _ rfl)) (qA 1 8) (λw' _=>⟨0,_,_,_,_,rfl,IsI.nil _ _⟩)):P:=h
theorem zag{P:Prop}(h:P:=by have:=HL.out;have:=HW.out;have:=e1.size;omega):P:=h
theorem zau{P:Prop}(h:P:=by simp only[List.map_toArray,List.map_cons,List.map_nil];rw[h1,h1'];exact hr):P:=h
theorem zaz{P:Prop}(h:P:=by have:=HL.out;have:=E2.size;have:=HX.out.2.gb.size;have:=HW.out;simp;omega):P:=h
set_option maxHeartbeats 4000000
attribute [local go_sem] Oper.semAt_some
def IsZ:Value->World->Prop:=λx w=>∃z s a n c,x=.agg #[.bool s,.slice a n c]/\IsI 128 z x w
theorem IsZ.stb:Stb IsZ:=λ_ _ _ e ⟨z,s,a,n,c,h1,h2⟩=>⟨z,s,a,n,c,h1,h2.ext e⟩
instance:StbC IsZ:=⟨IsZ.stb⟩
theorem IsZ.of{k:Nat}{z:Int}{x:Value}{w:World}(h:IsI k z x w)(hk:k<=128):IsZ x w:=by
 obtain⟨s,a,n,c,rfl,h1⟩:=id h;exact⟨z,s,a,n,c,rfl,h.mono hk⟩
def IsNews(m:Nat):Value->World->Prop:=λx w=>∃news,SrcR m news x w/\IntsAt news m w
theorem IsNews.stb(m:Nat):Stb (IsNews m):=λ_ _ _ e ⟨n,h1,h2⟩=>⟨n,h1.ext e,h2.gr e.gr⟩
instance (m:Nat):StbC (IsNews m):=⟨IsNews.stb m⟩
theorem IsIR.stb(base N:Nat):Stb (IsIR base N):=λ_ _ _ e h=>h.ext e
instance (base N:Nat):StbC (IsIR base N):=⟨IsIR.stb base N⟩
section
variable {ops:Array Oper} {Q:Exit->Act->World->Prop} {ds:List (Option Tmp)} {a0:Act} {w0:World} {L:List (Value->World->Prop)} {boxes:List Nat} {i k:Nat} {o:Oper} {os:List Oper}
theorem jH{P:Program}{T n:Nat}{ps:Array (Nat×Operand)}{a:Act}{v:Value}{w w':World}(ho:o.op=.buildSlice T n ps)(hr:(Instr.buildSlice T n (ps.map λp=>(p.1,a.eval p.2))).run P w=.ok v w'):(execOp a.eval o).run P w=.ok (.value v) w':=by
 unfold execOp;rw[ho];dsimp only;rw[Sem.run_bind,hr];rfl
theorem xZ{P:Program}(hb:boxes.contains i=false)(h:∀(v:Nat->Value) (a:Act) (w:World),Ext w0 w->(∀j,(ups .any ops i).contains j=true->L.getD j (λ_ _=>True) (v j) w)->Fr ds a0 v a->
  ∃x w',(execOp a.eval o).run P w=.ok (.value x) w'/\Ext w w'/\L.getD i (λ_ _=>True) x w'):Ok P ops Q ds a0 w0 L boxes i o:=
 ⟨fun v a w hE hd hf K hK=>by
  obtain⟨x,w',hr,he,hx⟩:=h v a w hE hd hf;unfold Oper.wp;rw[hr]
  exact hK.out x w' he hx (FreshIf.no hb)⟩
theorem bsZ1{x:Operand}(hx:Od ops ds a0 w0 L i x IsZ)(ho:o.op=.buildSlice 69 1 #[(0,x)]:=by rfl)(hi:L.getD i (λ_ _=>True)=IsNews 1:=by kernel_rfl)(hb:boxes.contains i=false:=by kernel_rfl):Ok prog ops Q ds a0 w0 L boxes i o:=
 xZ hb λv a w hE hd hf=>by
  obtain⟨z,s,b,n,c,h1,h2⟩:=hx.out v a w hE hd hf;rw[h1]at h2;have hr:(Instr.buildSlice 69 1 #[(0,.agg #[.bool s,.slice b n c])]).run prog w=.ok (.slice (some ⟨w.heap.size,0,none⟩) 1 1) (w.alloc (.cells #[.bool s,.slice b n c] 28)):=ja
  exact⟨_,_,jH ho yh,(Ext.refl w).alloc _,by rw[hi];exact⟨_,SrcR.new w #[.bool s,.slice b n c] _ 1 1,IntsAt.cons (h2.ext ((Ext.refl w).alloc _)) (IntsAt.nil _)⟩⟩
theorem bsZ2{x y:Operand}(hx:Od ops ds a0 w0 L i x IsZ)(hy:Od ops ds a0 w0 L i y IsZ)(ho:o.op=.buildSlice 69 2 #[(0,x),(1,y)]:=by rfl)(hi:L.getD i (λ_ _=>True)=IsNews 2:=by kernel_rfl)(hb:boxes.contains i=false:=by kernel_rfl):Ok prog ops Q ds a0 w0 L boxes i o:=
 xZ hb λv a w hE hd hf=>by
  obtain⟨z,s,b,n,c,h1,h2⟩:=hx.out v a w hE hd hf;obtain⟨z',s',b',n',c',h1',h2'⟩:=hy.out v a w hE hd hf;rw[h1]at h2;rw[h1']at h2';have hr:(Instr.buildSlice 69 2 #[(0,.agg #[.bool s,.slice b n c]),(1,.agg #[.bool s',.slice b' n' c'])]).run prog w=.ok (.slice (some ⟨w.heap.size,0,none⟩) 2 2) (w.alloc (.cells #[.bool s,.slice b n c,.bool s',.slice b' n' c'] 28)):=ja
  exact⟨_,_,jH ho zau,(Ext.refl w).alloc _,by rw[hi];exact⟨_,SrcR.new w #[.bool s,.slice b n c,.bool s',.slice b' n' c'] _ 2 2,IntsAt.cons (h2.ext ((Ext.refl w).alloc _)) (IntsAt.cons (h2'.ext ((Ext.refl w).alloc _)) (IntsAt.nil _))⟩⟩
theorem bsZ3{x y u:Operand}(hx:Od ops ds a0 w0 L i x IsZ)(hy:Od ops ds a0 w0 L i y IsZ)(hu:Od ops ds a0 w0 L i u IsZ)(ho:o.op=.buildSlice 69 3 #[(0,x),(1,y),(2,u)]:=by rfl)(hi:L.getD i (λ_ _=>True)=IsNews 3:=by kernel_rfl)(hb:boxes.contains i=false:=by kernel_rfl):Ok prog ops Q ds a0 w0 L boxes i o:=
 xZ hb λv a w hE hd hf=>by
  obtain⟨z,s,b,n,c,h1,h2⟩:=hx.out v a w hE hd hf;obtain⟨z',s',b',n',c',h1',h2'⟩:=hy.out v a w hE hd hf;obtain⟨z3,s3,b3,n3,c3,h13,h23⟩:=hu.out v a w hE hd hf;rw[h1]at h2;rw[h1']at h2';rw[h13]at h23;have hr:(Instr.buildSlice 69 3 #[(0,.agg #[.bool s,.slice b n c]),(1,.agg #[.bool s',.slice b' n' c']),(2,.agg #[.bool s3,.slice b3 n3 c3])]).run prog w=.ok (.slice (some ⟨w.heap.size,0,none⟩) 3 3) (w.alloc (.cells #[.bool s,.slice b n c,.bool s',.slice b' n' c',.bool s3,.slice b3 n3 c3] 28)):=ja
  exact⟨_,_,jH ho (by simp only[List.map_toArray,List.map_cons,List.map_nil];rw[h1,h1',h13];exact hr),(Ext.refl w).alloc _,by rw[hi];exact⟨_,SrcR.new w #[.bool s,.slice b n c,.bool s',.slice b' n' c',.bool s3,.slice b3 n3 c3] _ 3 3,IntsAt.cons (h2.ext ((Ext.refl w).alloc _)) (IntsAt.cons (h2'.ext ((Ext.refl w).alloc _)) (IntsAt.cons (h23.ext ((Ext.refl w).alloc _)) (IntsAt.nil _)))⟩⟩
theorem lnZ{x:Operand}{p:Option Addr}{n c:Nat}{T:TypeId}(hx:Od ops ds a0 w0 L i x (IsV (.slice p n c)))(ho:o.op=.call {callee:=.builtin .len,args:= #[x],argTypes:= #[T]} :=by rfl)(hT:prog.underlying T=some (.slice (prog.elem T)):=by kernel_rfl)(hi:L.getD i (λ_ _=>True)=iV n:=by kernel_rfl)(hb:boxes.contains i=false:=by kernel_rfl):Ok prog ops Q ds a0 w0 L boxes i o:=
 xZ hb λv a w hE hd hf=>by
  have e1:a.eval x=_:=hx.out v a w hE hd hf;have h9:=run_len_slice (P:=prog) w T o.type p n c hT;refine⟨_,w,?_,Ext.refl w,by rw[hi];exact rfl⟩;simp[execOp,ho,resolve,invoke,builtin,e1,h9,goInt]
theorem numZ{x:Operand}{z:Int}(hx:Od ops ds a0 w0 L i x (iV z))(hz: -9223372036854775808<=z/\z<=9223372036854775807:=by decide){c:Call}(ho:o.op=.call c:=by rfl)(hc:c.callee=.value (.func 121):=by rfl)(ha:c.args= #[x]:=by rfl)(hi:L.getD i (λ_ _=>True)=IsZ:=by kernel_rfl)(hb:boxes.contains i=false:=by kernel_rfl):Ok prog ops Q ds a0 w0 L boxes i o:=
 cl1 (en func121) hx (λu w' _ d0=>by
  obtain rfl:u=.int .i64 z:=d0
  exact(jB w' z hz.1 hz.2).mono λe w2 ⟨x,h1,h2,h3⟩=>⟨x,h1,h2,IsZ.of h3 dcx⟩) ho hc ha hi hb
theorem asA{P:Program}{fuel:Nat}{listed:Array Bool}{a:Act}{w:World}(j t:Nat)(x:Operand)(u:Value)(hu:a.eval x=u)(h:wpAny P .any ops Q fuel (listed.setIfInBounds j true) (a.put (some t) u) w)(ho:ops[j]? =some o:=by rfl)(hd:o.dst=some t:=by rfl)(hop:o.op=.assign x\/o.op=.move x:=by first|exact .inl rfl|exact .inr rfl)(hr:Region.ready .any ops listed= [j]:=by kernel_rfl)(hg:o.guard=none:=by rfl):wpAny P .any ops Q (fuel+1) listed a w:=
 stA j ho (λK hK=>by
  unfold Oper.wp execOp;subst hu;rw[<-hd]at h
  rcases hop with e|e <;> rw[e] <;> exact hK _ _ h) hr hg
end
def Rk(b:Nat)(vs:List Value)(w w':World):Prop:=w.heap.size<=w'.heap.size/\(Bk w b vs->Bk w' b vs)
theorem Rk.rel(b:Nat)(vs:List Value):Rel (Rk b vs):=⟨λh k=>⟨jQ h.1 k.1,λB=>k.2 (h.2 B)⟩,λe=>⟨e.size,λB=>B.ext e⟩⟩
theorem Pg.rk{v v':Value}{w w':World}{b:Nat}{vs:List Value}(h:Pg v w v' w')(hne:v.ownBlock≠some b):Rk b vs w w':=⟨h.gb.size,λB=>h.bk B hne⟩
def IsPg(base N:Nat)(v:Value)(w0:World):Value->World->Prop:=λx w=>IsIR base N x w/\Pg v w0 x w
theorem IsPg.stb(base N:Nat)(v:Value)(w0:World):Stb (IsPg base N v w0):=λ_ _ _ e h=>⟨h.1.ext e,h.2.ext e⟩
instance (base N:Nat) (v:Value) (w0:World):StbC (IsPg base N v w0):=⟨IsPg.stb base N v w0⟩
section
variable {ops:Array Oper} {Q:Exit->Act->World->Prop} {ds:List (Option Tmp)} {a0:Act} {w0:World} {L:List (Value->World->Prop)} {ch:List Nat} {i k:Nat} {o:Oper} {os:List Oper}
theorem KCf{R:World->World->Prop}{base N:Nat}{f:FuncId}{c:Call}{x y:Operand}{v:Value}{fS fQ:Value->World->Prop}(he:∀args w,(callFunc f args).run prog w=.ok (.enter f args) w)(hx:∀w,Od ops ds a0 w L i x (IsV v))(hy:∀w,Od ops ds a0 w L i y fS)
  (h:∀u' w,Ext w0 w->fS u' w->Calls prog f #[v,u'] w (RetI base N v w)) (hR:∀w x w',Ext w0 w->Pg v w x w'->IsIR base N x w'->R w w'/\fQ x w') (hs:RgkAll prog ops Q ds a0 w0 R L ch (i+1) k os)
  (ho:o.op=.call c:=by rfl) (hc:c.callee=.value (.func f):=by rfl) (ha:c.args= #[x,y]:=by rfl) (hi:L.getD i (λ_ _=>True)=fQ:=by kernel_rfl) (hg:o.guard=none:=by rfl) (hcn:decide (i∈ch)=true:=by kernel_rfl) (hf:decide (∀k∈ch,i<=k)=true:=by kernel_rfl):RgkAll prog ops Q ds a0 w0 R L ch i (k+1) (o ::os):=
 KC (λw hRw hX vv a hd hf' K hK=>by
  have hE:=hX (of_decide_eq_true hf);have e0:a.eval x=v:=(hx w).out vv a w (Ext.refl w) hd hf'
  exact xB (R:=RetI base N v w) (xs:= [x,y]) (us:= [v,a.eval y]) he (by simp[e0]) (h _ w hE ((hy w).out vv a w (Ext.refl w) hd hf'))
   (fun r w' hr=>by
    obtain⟨r',q1,q2,q3⟩:=hr;cases q1;obtain⟨z1,z2⟩:=hR w _ w' hE q2 q3
    exact hK _ _ z1 (by rw[hi];exact z2)) (λch w' hr=>by obtain⟨_,h,_⟩:=hr;cases h) (λw' hr=>by obtain⟨_,h,_⟩:=hr;cases h) ho hc ha) hs hg hcn
theorem stC2{base N:Nat}{f:FuncId}{c:Call}{x y:Operand}{fuel:Nat}{listed:Array Bool}{a:Act}{w:World}{u u':Value}(j t:Nat)(he:∀args w,(callFunc f args).run prog w=.ok (.enter f args) w)(hx:a.eval x=u)(hy:a.eval y=u')(h:Calls prog f #[u,u'] w (RetI base N u w))
  (hn:∀v w',Pg u w v w'->IsIR base N v w'->wpAny prog .any ops Q fuel (listed.setIfInBounds j true) (a.put (some t) v) w') (ho':ops[j]? =some o:=by rfl) (hd:o.dst=some t:=by rfl)
  (ho:o.op=.call c:=by rfl) (hc:c.callee=.value (.func f):=by rfl) (ha:c.args= #[x,y]:=by rfl) (hr:Region.ready .any ops listed= [j]:=by kernel_rfl) (hg:o.guard=none:=by rfl):wpAny prog .any ops Q (fuel+1) listed a w:=
 stA j ho' (λK hK=>xB (R:=RetI base N u w) (xs:= [x,y]) (us:= [u,u']) he (by simp[hx,hy]) h
  (λr w' hr=>by obtain⟨r',q1,q2,q3⟩:=hr;cases q1;rw[hd];exact hK _ _ (hn r w' q2 q3)) (λch w' hr=>by obtain⟨_,h,_⟩:=hr;cases h) (λw' hr=>by obtain⟨_,h,_⟩:=hr;cases h) ho hc ha) hr hg
end
set_option maxRecDepth 100000
theorem fa_Gr0(g:Nat)(w:World):(Instr.fieldAt 75 (.pointer (some ⟨g,0,none⟩)) 0).run prog w=.ok (.pointer (some ⟨g,0,none⟩)) w:=by go_simp
theorem fa_Gr1(g:Nat)(w:World):(Instr.fieldAt 75 (.pointer (some ⟨g,0,none⟩)) 1).run prog w=.ok (.pointer (some ⟨g,2,none⟩)) w:=by go_simp
theorem ld_Gens:LdC1 prog 71:=λw a v h=>by go_simp
theorem group_n{w:World}{base N:Nat}{v:Value}(hI:IsIR base N v w)(hN:N<=1000)(hb:base<=w.heap.size):Calls prog 97 #[v,.agg #[.bool false,.slice none 0 0,.slice none 0 0,.slice none 0 0,.int .i64 0]] w (RetI base (N+4) v w):=by
 obtain⟨W,hW,E,B⟩:∃W,W=w.alloc (.cells #[.bool false,.slice none 0 0,.slice none 0 0,.slice none 0 0,.int .i64 0] 75)/\Ext w W/\Bk W w.heap.size [.bool false,.slice none 0 0,.slice none 0 0,.slice none 0 0,.int .i64 0]:=zi;obtain⟨b,hbb⟩:∃b,w.heap.size=b:=⟨_,rfl⟩;have HO:=hid (show v.ownBlock≠some b from λe=>by have:=(hI.own_lt e).1;omega);have HI:=hid (hI.ext E);have HL:=hid (jO hN hb);have HE:=hid E;have HW:=hid E.size;rw[hbb]at B;have HB:=hid B;go_enter func97,ntmps97;go_upto_region 1 with fail;rw[<-hW];clear hW hI hN hb E;refine rg 8 (dR 7 8) [IsV v,IsP b 0,IsZ,IsP b 2,IsV (.slice none 0 0),iV ((0:Nat):Int),IsZ,IsNews 2] [] 2 ?_ ?_
 ·refine Rc zv ?_;refine Rc (fa (fa_Gr0 b) (qB 3)) ?_;refine Rc ym ?_;refine Rc (fa (fa_Gr1 b) (qB 3)) ?_;refine Rc (lvC 2 B ld_Gens (qA 3 10)) ?_;refine Rc (lnZ (p:=none) (n:=0) (c:=0) (qA 4 11)) ?_;refine Rc (numZ (z:=0) (qA 5 12)) ?_;refine Rc (bsZ2 (qA 2 9) (qA 6 13)) ?_;exact rn0
 intro x X e1 hZ _;obtain⟨news,hs,hk⟩:=hZ 7 dcx;simp only[lxE,Nat.reduceAdd];rw[show x 0=v from hZ 0 dcx];clear hZ;refine stA 8 rfl (λK hK=>wp_ir (.tmp 7) (.tmp 14) rfl base N 2 v (x 7) news rfl rfl (HI.out.ext e1) hs hk zm zag (λv3 w3 hI3 p3=>hK _ _ ?_));have HX:=hid (jO hI3 ((Pg.ext0 e1).trans p3));clear hI3 p3 hs hk hK K e1 B;have B3:=HX.out.2.bk HB.out HO.out;have c2:=B3.c 2 _ rfl;have c3:=B3.c 3 _ rfl;have c4:=B3.c 4 _ rfl;clear B3;refine asA 9 0 (.tmp 15) v3 rfl ?_;refine jR za ?_ _;go_wp2_with fail
 go_loopg [0,5] 0 (λgk v0 v5 wr=>v0=v3/\v5=.int .i64 0/\wr=w3)
 case atStart=>exact⟨rfl,rfl,rfl⟩
 case round=>
  obtain⟨rfl,rfl,rfl⟩:=hrel;go_wp2_with (first| (go_at_call 121;go_must (refine(jB _ 0 dcx dcx).mono ?_;rintro e w2 ⟨_,rfl,E2,s,a,n8,c,rfl,hx⟩))| (at_builtin;go_must (refine wpl_ir rfl _ _ rfl base (N+2) 1 _ _ [.bool s,.slice a n8 c] rfl rfl (HX.out.1.ext (E2.trans ((Ext.refl _).alloc _))) (SrcR.new _ #[.bool s,.slice a n8 c] _ 1 1) (IntsAt.cons (i128 hx ((Ext.refl _).alloc _)) (IntsAt.nil _)) zm zaz ?_;intro v6 w6 hI p;have H6:=hid (jO hI (HX.out.2.trans ((Pg.ext0 (E2.trans ((Ext.refl _).alloc _))).trans p)));clear hI p hx E2;have B6:=H6.out.2.bk HB.out HO.out;have d3:=B6.c 3 _ rfl;have d4:=B6.c 4 _ rfl;clear B6 c2 c3 c4)))
  go_loopg [0,6] 0 (λgk v0 v5 wr=>v0=v6/\v5=.int .i64 0/\wr=w6)
  case atStart=>exact⟨rfl,rfl,rfl⟩
  case round=>
   obtain⟨rfl,rfl,rfl⟩:=hrel;go_wp2_with (first| (go_at_call 121;go_must (refine(jB _ 0 dcx dcx).mono ?_;rintro e w2 ⟨_,rfl,E2,s,a,n8,c,rfl,hx⟩))| (at_builtin;go_must (refine wpl_ir rfl _ _ rfl base (N+2+1) 1 _ _ [.bool s,.slice a n8 c] rfl rfl (H6.out.1.ext (E2.trans ((Ext.refl _).alloc _))) (SrcR.new _ #[.bool s,.slice a n8 c] _ 1 1) (IntsAt.cons (i128 hx ((Ext.refl _).alloc _)) (IntsAt.nil _)) zm (by have:=HL.out;have:=E2.size;have:=H6.out.2.gb.size;have:=HW.out;simp;omega) ?_;intro v7 w7 hI p;have H7:=hid (jO hI (H6.out.2.trans ((Pg.ext0 (E2.trans ((Ext.refl _).alloc _))).trans p)));clear hI p hx E2;have B7:=H7.out.2.bk HB.out HO.out;clear B7)))
   go_ret
   exact⟨_,rfl,(Pg.ext0 HE.out).trans H7.out.2,H7.out.1⟩
theorem fa_Un0(g:Nat)(w:World):(Instr.fieldAt 78 (.pointer (some ⟨g,0,none⟩)) 0).run prog w=.ok (.pointer (some ⟨g,0,none⟩)) w:=by go_simp
theorem fa_Un1(g:Nat)(w:World):(Instr.fieldAt 78 (.pointer (some ⟨g,0,none⟩)) 1).run prog w=.ok (.pointer (some ⟨g,2,none⟩)) w:=by go_simp
theorem ld_Trm:LdC1 prog 76:=λw a v h=>by go_simp
theorem unit_n{w:World}{base N:Nat}{v:Value}(hI:IsIR base N v w)(hN:N<=1000)(hb:base<=w.heap.size):Calls prog 100 #[v,.agg #[.bool false,.slice none 0 0,.slice none 0 0]] w (RetI base (N+2) v w):=by
 obtain⟨W,hW,E,B⟩:∃W,W=w.alloc (.cells #[.bool false,.slice none 0 0,.slice none 0 0] 78)/\Ext w W/\Bk W w.heap.size [.bool false,.slice none 0 0,.slice none 0 0]:=zi;obtain⟨b,hbb⟩:∃b,w.heap.size=b:=⟨_,rfl⟩;have HO:=hid (show v.ownBlock≠some b from λe=>by have:=(hI.own_lt e).1;omega);have HI:=hid (hI.ext E);have HL:=hid (jO hN hb);have HE:=hid E;have HW:=hid E.size;rw[hbb]at B;have HB:=hid B;go_enter func100,ntmps100;go_upto_region 1 with fail;rw[<-hW];clear hW hI hN hb E;refine rg 8 (dR 7 8) [IsV v,IsP b 0,IsZ,IsP b 2,IsV (.slice none 0 0),iV ((0:Nat):Int),IsZ,IsNews 2] [] 2 ?_ ?_
 ·refine Rc zv ?_;refine Rc (fa (fa_Un0 b) (qB 3)) ?_;refine Rc ym ?_;refine Rc (fa (fa_Un1 b) (qB 3)) ?_;refine Rc (lvC 2 B ld_Trm (qA 3 10)) ?_;refine Rc (lnZ (p:=none) (n:=0) (c:=0) (qA 4 11)) ?_;refine Rc (numZ (z:=0) (qA 5 12)) ?_;refine Rc (bsZ2 (qA 2 9) (qA 6 13)) ?_;exact rn0
 intro x X e1 hZ _;obtain⟨news,hs,hk⟩:=hZ 7 dcx;simp only[lxE,Nat.reduceAdd];rw[show x 0=v from hZ 0 dcx];clear hZ;refine stA 8 rfl (λK hK=>wp_ir (.tmp 7) (.tmp 14) rfl base N 2 v (x 7) news rfl rfl (HI.out.ext e1) hs hk zm zag (λv3 w3 hI3 p3=>hK _ _ ?_));have HX:=hid (jO hI3 ((Pg.ext0 e1).trans p3));clear hI3 p3 hs hk hK K e1 B;have B3:=HX.out.2.bk HB.out HO.out;have c2:=B3.c 2 _ rfl;clear B3;refine asA 9 0 (.tmp 15) v3 rfl ?_;refine jR za ?_ _;go_wp2_with fail
 go_loopg [0,5] 0 (λgk v0 v5 wr=>v0=v3/\v5=.int .i64 0/\wr=w3)
 case atStart=>exact⟨rfl,rfl,rfl⟩
 case round=>
  obtain⟨rfl,rfl,rfl⟩:=hrel
  go_wp2
  go_ret
  exact⟨_,rfl,(Pg.ext0 HE.out).trans HX.out.2,HX.out.1⟩
end
section
open Go Go.RowKit Go.Maps Go.Shelf
open Go.Proofs.Tryz
theorem zw{P:Prop}(h:P:=by simp only[List.map_toArray,List.map_cons,List.map_nil];exact hr):P:=h
theorem za8{P:Prop}(h:P:=by simp only[World.size_alloc];omega):P:=h
set_option maxRecDepth 100000
set_option maxHeartbeats 8000000
attribute [local go_sem] Oper.semAt_some
def nameC(i:Nat):ByteArray:=match i with
 |0=>⟨#[97]⟩
 |1=>⟨#[98]⟩
 |2=>⟨#[99,50]⟩
 |_=>⟨#[108,111,110,103,95,110,97,109,101]⟩
def cellV(i:Nat):List Value:= [.string (nameC i),.int .i64 1,.string ⟨#[]⟩,.int .i64 0,.bool false,.slice none 0 0,.int .i64 0,.int .i64 0,.slice none 0 0]
theorem cellV_nw(i:Nat):(∀u∈cellV i,u.oneCell'=true)/\∀u∈cellV i,NoWord u:=by
 refine⟨λu hu=>?_,λu hu=>?_⟩
 all_goals
  simp only[cellV,List.mem_cons,List.not_mem_nil,or_false]at hu;rcases hu with rfl|rfl|rfl|rfl|rfl|rfl|rfl|rfl|rfl
 all_goals first|rfl|exact NoWord.bool _|exact NoWord.slice _ _ _|exact NoWord.int64 _|exact NoWord.string _
def IsNm:Value->World->Prop:=λx w=>∃g,x=.slice (some ⟨g,0,none⟩) 4 4/\∀j,j<4->World.cell? w ⟨g,j,none⟩=some (.string (nameC j))
theorem IsNm.stb:Stb IsNm:=λ_ _ _ e ⟨g,h1,h2⟩=>⟨g,h1,λj hj=>e.cell (h2 j hj)⟩
instance:StbC IsNm:=⟨IsNm.stb⟩
def IsNp(i:Nat):Value->World->Prop:=λx w=>∃g,x=.pointer (some ⟨g,i,none⟩)/\World.cell? w ⟨g,i,none⟩=some (.string (nameC i))
theorem IsNp.stb(i:Nat):Stb (IsNp i):=λ_ _ _ e ⟨g,h1,h2⟩=>⟨g,h1,e.cell h2⟩
instance (i:Nat):StbC (IsNp i):=⟨IsNp.stb i⟩
def IsRc(us:List Value):Value->World->Prop:=λx w=>SrcR 1 us x w
theorem IsRc.stb(us:List Value):Stb (IsRc us):=λ_ _ _ e h=>h.ext e
instance (us:List Value):StbC (IsRc us):=⟨IsRc.stb us⟩
section
variable {ops:Array Oper} {Q:Exit->Act->World->Prop} {ds:List (Option Tmp)} {a0:Act} {w0:World} {L:List (Value->World->Prop)} {boxes:List Nat} {i k:Nat} {o:Oper} {os:List Oper}
theorem bsNm(ho:o.op=.buildSlice 51 4 #[(0,.const (.string ⟨#[97]⟩)),(1,.const (.string ⟨#[98]⟩)),(2,.const (.string ⟨#[99,50]⟩)),(3,.const (.string ⟨#[108,111,110,103,95,110,97,109,101]⟩))]:=by rfl)(hi:L.getD i (λ_ _=>True)=IsNm:=by kernel_rfl)(hb:boxes.contains i=false:=by kernel_rfl):Ok prog ops Q ds a0 w0 L boxes i o:=
 xZ hb λv a w hE hd hf=>by
  have hr:(Instr.buildSlice 51 4 #[(0,.string ⟨#[97]⟩),(1,.string ⟨#[98]⟩),(2,.string ⟨#[99,50]⟩),(3,.string ⟨#[108,111,110,103,95,110,97,109,101]⟩)]).run prog w=.ok (.slice (some ⟨w.heap.size,0,none⟩) 4 4) (w.alloc (.cells #[.string ⟨#[97]⟩,.string ⟨#[98]⟩,.string ⟨#[99,50]⟩,.string ⟨#[108,111,110,103,95,110,97,109,101]⟩] 9)):=ja
  have B:=Bk.new w #[.string ⟨#[97]⟩,.string ⟨#[98]⟩,.string ⟨#[99,50]⟩,.string ⟨#[108,111,110,103,95,110,97,109,101]⟩] 9
  have hc:∀j,j<4->World.cell? (w.alloc (.cells #[.string ⟨#[97]⟩,.string ⟨#[98]⟩,.string ⟨#[99,50]⟩,.string ⟨#[108,111,110,103,95,110,97,109,101]⟩] 9)) ⟨w.heap.size,j,none⟩=some (.string (nameC j)):=λj hj=>by
   match j,hj with
   |0,_=>exact B.c 0 _ rfl
   |1,_=>exact B.c 1 _ rfl
   |2,_=>exact B.c 2 _ rfl
   |3,_=>exact B.c 3 _ rfl
  exact⟨_,_,jH ho zw,(Ext.refl w).alloc _,by rw[hi];exact⟨_,rfl,hc⟩⟩
theorem ixNm{j:Nat}{x y:Operand}(hj:j<4)(hx:Od ops ds a0 w0 L i x IsNm)(hy:Od ops ds a0 w0 L i y (iV (j:Int)))(ho:o.op=.indexAddr 51 x y:=by rfl)(hi:L.getD i (λ_ _=>True)=IsNp j:=by kernel_rfl)(hb:boxes.contains i=false:=by kernel_rfl):Ok prog ops Q ds a0 w0 L boxes i o:=
 xZ hb λv a w hE hd hf=>by
  obtain⟨g,h1,h2⟩:=hx.out v a w hE hd hf;have h3:a.eval y=_:=hy.out v a w hE hd hf;refine⟨_,w,?_,Ext.refl w,by rw[hi];exact⟨g,rfl,h2 j hj⟩⟩;have hr:=ix_rS (some ⟨g,0,none⟩) g 4 4 j rfl hj w;unfold execOp;rw[ho];dsimp only;rw[h1,h3];simp[hr]
theorem ldNm{j:Nat}{x:Operand}(hx:Od ops ds a0 w0 L i x (IsNp j))(ho:o.op=.load 9 x:=by rfl)(hi:L.getD i (λ_ _=>True)=IsV (.string (nameC j)):=by kernel_rfl)(hb:boxes.contains i=false:=by kernel_rfl):Ok prog ops Q ds a0 w0 L boxes i o:=
 xZ hb λv a w hE hd hf=>by
  obtain⟨g,h1,h2⟩:=hx.out v a w hE hd hf;refine⟨_,w,?_,Ext.refl w,by rw[hi];exact rfl⟩;have hr:=ld_str' w ⟨g,j,none⟩ (.string (nameC j)) h2;unfold execOp;rw[ho];dsimp only;rw[h1];simp[hr]
theorem bdNn(ho:o.op=.build 31 #[(0,.const (.int .i64 1))]:=by rfl)(hi:L.getD i (λ_ _=>True)=IsV (.agg #[.int .i64 1,.string ⟨#[]⟩,.int .i64 0,.bool false,.slice none 0 0,.int .i64 0,.int .i64 0,.slice none 0 0]):=by kernel_rfl)(hb:boxes.contains i=false:=by kernel_rfl):Ok prog ops Q ds a0 w0 L boxes i o:=
 xZ hb λv a w hE hd hf=>by
  have hr:(Instr.build 31 #[(0,.int .i64 1)]).run prog w=.ok (.agg #[.int .i64 1,.string ⟨#[]⟩,.int .i64 0,.bool false,.slice none 0 0,.int .i64 0,.int .i64 0,.slice none 0 0]) w:=ja
  exact⟨_,w,bdG ho zw,Ext.refl w,by rw[hi];exact rfl⟩
theorem bdCl{j:Nat}{x y:Operand}(hx:Od ops ds a0 w0 L i x (IsV (.string (nameC j))))(hy:Od ops ds a0 w0 L i y (IsV (.agg #[.int .i64 1,.string ⟨#[]⟩,.int .i64 0,.bool false,.slice none 0 0,.int .i64 0,.int .i64 0,.slice none 0 0])))(ho:o.op=.build 127 #[(0,x),(1,y)]:=by rfl)(hi:L.getD i (λ_ _=>True)=IsV (.agg (cellV j).toArray):=by kernel_rfl)(hb:boxes.contains i=false:=by kernel_rfl):Ok prog ops Q ds a0 w0 L boxes i o:=
 xZ hb λv a w hE hd hf=>by
  have h1:a.eval x=_:=hx.out v a w hE hd hf;have h2:a.eval y=_:=hy.out v a w hE hd hf;obtain⟨nm,hnm⟩:∃nm,nameC j=nm:=⟨_,rfl⟩;have hr:(Instr.build 127 #[(0,.string nm),(1,.agg #[.int .i64 1,.string ⟨#[]⟩,.int .i64 0,.bool false,.slice none 0 0,.int .i64 0,.int .i64 0,.slice none 0 0])]).run prog w=.ok (.agg #[.string nm,.int .i64 1,.string ⟨#[]⟩,.int .i64 0,.bool false,.slice none 0 0,.int .i64 0,.int .i64 0,.slice none 0 0]) w:=ja
  rw[<-hnm]at hr;exact⟨_,w,bdG ho (by simp only[List.map_toArray,List.map_cons,List.map_nil];rw[h1,h2];exact hr),Ext.refl w,by rw[hi];exact rfl⟩
theorem bs_Ce(j:Nat)(w:World):(Instr.buildSlice 33 1 #[(0,.agg (cellV j).toArray)]).run prog w=.ok (.slice (some ⟨w.heap.size,0,none⟩) 1 1) (w.alloc (.cells (cellV j).toArray 127)):=by
 obtain⟨nm,hnm⟩:∃nm,nameC j=nm:=⟨_,rfl⟩;unfold cellV;rw[hnm]
 go_simp
theorem bs_VlL{us:List Value}(hl:us.length=11)(w:World):(Instr.buildSlice 34 1 #[(0,.agg us.toArray)]).run prog w=.ok (.slice (some ⟨w.heap.size,0,none⟩) 1 1) (w.alloc (.cells us.toArray 50)):=by
 obtain⟨l0,l1,l2,l3,l4,l5,l6,l7,l8,l9,l10,rfl⟩:=len11 hl
 go_simp
theorem bsRc{T T1:Nat}{us:List Value}{x:Operand}(hr:∀w,(Instr.buildSlice T 1 #[(0,.agg us.toArray)]).run prog w=.ok (.slice (some ⟨w.heap.size,0,none⟩) 1 1) (w.alloc (.cells us.toArray T1)))(hx:Od ops ds a0 w0 L i x (IsV (.agg us.toArray)))(ho:o.op=.buildSlice T 1 #[(0,x)]:=by rfl)(hi:L.getD i (λ_ _=>True)=IsRc us:=by kernel_rfl)(hb:boxes.contains i=false:=by kernel_rfl):Ok prog ops Q ds a0 w0 L boxes i o:=
 xZ hb λv a w hE hd hf=>by
  have h1:a.eval x=_:=hx.out v a w hE hd hf;exact⟨_,_,jH ho (by simp only[List.map_toArray,List.map_cons,List.map_nil];rw[h1];exact hr w),(Ext.refl w).alloc _,by rw[hi];exact SrcR.new w us.toArray T1 1 1⟩
end
def IsCls:Value->World->Prop:=λx w=>∃(cs:List qJ) (c v:Value),x=.tuple #[c,v]/\cs.length<=4/\cellOk [3] cs/\(∀d∈cs,d.hyps.length<=1)/\CsR w.heap.size cs c w/\VsR w.heap.size cs v w
structure CsI (B:Nat) (W:World) (i:Nat) (cs:List qJ) (nl vl:List (List Value)) (v6 v7:Value) (wr:World):Prop where
 len:cs.length=i
 ok:cellOk [3] cs
 hl:∀d∈cs,d.hyps.length<=1
 r6:Rwg 127 9 B wr v6 i nl.flatten
 n6:NwB wr v6
 l6:nl.length=i
 c6:∀(j:Nat) (d:qJ),cs[j]? =some d->∃vs:List Value,nl[j]? =some vs/\vs.length=9/\vs[0]? =some (.string d.name)
 a6:∀vs∈nl,vs.length=9
 r7:Rwg 50 11 B wr v7 i vl.flatten
 n7:NwB wr v7
 l7:vl.length=i
 c7:∀(j:Nat) (d:qJ),cs[j]? =some d->∃vs:List Value,vl[j]? =some vs/\VcX v6 v7 d vs wr
 a7:∀vs∈vl,vs.length=11
 ne:∀g,v6.ownBlock=some g->v7.ownBlock≠some g
 bl:Below B W wr
theorem flatN{k:Nat}:∀ {L:List (List Value)},(∀vs∈L,vs.length=k)->∀ {j:Nat} {vs:List Value},L[j]? =some vs->∀ {q:Nat} {u:Value},vs[q]? =some u->L.flatten[k*j+q]? =some u
 | [],_,j,vs,h,_,_,_=>by simp at h
 | x ::L,hl,0,vs,h,q,u,hq=>by
  have h:x=vs:=yw
  subst h;rw[List.flatten_cons,Nat.mul_zero,Nat.zero_add];exact apL _ _ hq
 | x ::L,hl,j+1,vs,h,q,u,hq=>by
  have h:L[j]? =some vs:=yw
  have:=flatN (λv hv=>hl v (List.mem_cons_of_mem _ hv)) h hq;rw[List.flatten_cons,show k*(j+1)+q=x.length+(k*j+q)by rw[hl x List.mem_cons_self,Nat.mul_add,Nat.mul_one];omega];exact apR _ _ this
theorem CsI.out{B i:Nat}{W wr:World}{cs:List qJ}{nl vl:List (List Value)}{v6 v7:Value}(S:CsI B W i cs nl vl v6 v7 wr)(hi:i<=4):IsCls (.tuple #[v6,v7]) wr:=by
 refine⟨cs,v6,v7,rfl,by rw[S.len];exact hi,S.ok,S.hl,?_,?_⟩
 ·obtain⟨ao,cap,h1,-,-,-,h2⟩:=S.r6.shape;refine⟨ao,cap,by rw[h1,S.len],λhn=>?_⟩;obtain⟨g,k1,k2,k3,k4⟩:=h2 (λe=>hn (List.length_eq_zero_iff.1 (S.len.trans e)));refine⟨g,k1,k3,λj d hj=>?_⟩;obtain⟨vs,q1,q2,q3⟩:=S.c6 j d hj;exact⟨vs,q2,q3,λq u hq=>k4 _ _ (flatN S.a6 q1 hq)⟩
 ·obtain⟨ao,cap,h1,-,-,-,h2⟩:=S.r7.shape;refine⟨ao,cap,by rw[h1,S.len],λhn=>?_⟩;obtain⟨g,k1,k2,k3,k4⟩:=h2 (λe=>hn (List.length_eq_zero_iff.1 (S.len.trans e)));refine⟨g,k1,k3,λj d hj=>?_⟩;obtain⟨vs,q1,q2⟩:=S.c7 j d hj;exact⟨vs,q2.out,λq u hq=>k4 _ _ (flatN S.a7 q1 hq)⟩
theorem cells_f{w:World}{ca ea:Option Addr}{cn cc en' ec:Nat}{gr:Int}{op:Bool}(hb:IsBy (.slice ca cn cc) w):Calls prog 12 #[.agg #[.slice ca cn cc,.slice ea en' ec,.int .u8 gr],.bool op] w (Ret w IsCls):=by
 obtain⟨ca',cn',cc',hq,hn,hc⟩:=hb;cases hq;obtain⟨W,hW,E,B⟩:∃W,W=w.alloc (.cells #[.slice ca cn cc,.slice ea en' ec,.int .u8 gr] 24)/\Ext w W/\Bk W w.heap.size [.slice ca cn cc,.slice ea en' ec,.int .u8 gr]:=zi;go_enter func12,ntmps12;go_upto_region 1 with fail;rw[<-hW];clear hW;have hE:=E.size;have hlt:=B.lt;have HB:=hid B;have HE:=hid E;have HCN:=hid (jO hn hc);obtain⟨b,hb⟩:∃b,w.heap.size=b:=⟨_,rfl⟩;have HW:=hid hb;rw[hb]at HB hlt;rw[hb];have HL:=hid hlt;clear B E hb hn hc hlt hE
 go_wp2
 go_loopg [6,7,8] 4 (λgk v6 v7 v8 wr=>∃(i:Nat) (cs:List qJ) (nl vl:List (List Value)),v8=.int .i64 (i:Int)/\i+gk=4/\Hid (CsI (b+1) W i cs nl vl v6 v7 wr))
 case atStart=>
  have hl:=HL.out;exact⟨0, [], [], [],rfl,by omega,hid ⟨rfl,(λc hc=>absurd hc List.not_mem_nil),(λd hd=>absurd hd List.not_mem_nil),(rwgZ _ _ _ W (by omega)).ext ((Ext.refl _).alloc _),(nwbZ _ W).kept (λg hg=>by cases hg;exact((Ext.refl (W.alloc (.cells #[] 127))).alloc _).block _ za8),rfl,(λj d h=>by simp at h),(λvs h=>absurd h List.not_mem_nil),by{have h:=rwgZ 50 11 (b+1) (W.alloc (.cells #[] 127)) za8;rw[World.size_alloc]at h;exact h},by{have h:=nwbZ 50 (W.alloc (.cells #[] 127));rw[World.size_alloc]at h;exact h},rfl,(λj d h=>by simp at h),(λvs h=>absurd h List.not_mem_nil),(λg h1 h2=>by cases h1;have h3:=Option.some.inj h2;simp only at h3;omega),((jS _ _).alloc (by omega) _).alloc za8 _⟩⟩
 case round=>
  obtain⟨i,cs,nl,vl,rfl,hg,S⟩:=hrel;have B:=HB.out;have c0:=(S.out.bl.cell (p:=⟨b,0,none⟩) ju).trans (B.c 0 _ rfl);by_cases hi:i<cn/\i<4
  ·obtain ⟨hi1,hi2⟩:=hi;obtain⟨g,o,rfl,hcs⟩:=HCN.out.2 (by omega);obtain⟨y,hy,hcy⟩:=hcs i hi1;have hcy:=(S.out.bl.cell (p:=⟨g,o+i,none⟩) (by have:=World.block_lt_of_cell? _ _ hcy;have:=HW.out;simp only at *;omega)).trans (HE.out.cell hcy);have hil:(i:Int)<(cn:Int):=by omega
   have hil4:(i:Int)<4:=by omega
   have HG:=hid hg;clear hcs hg B;go_upto_region 7 with fail;obtain⟨z,hz⟩:∃z:Int,(y:Int)%16-5=z:=⟨_,rfl⟩;have hzb: -5<=z/\z<=10:=by omega
   rw[hz];refine rgs 3 [some 32,some 33,some 10] [iV z,IsSg z,IsNb wr.heap.size [.bool false,.slice none 0 0,.bool false,.slice none 0 0,.bool false,.slice none 0 0,.bool false,.slice none 0 0,.bool false,.slice none 0 0,.int .i64 0]] [] ?_ ?_
   ·refine Rc (mv (qB 9)) ?_;refine Rc (cl1 (en func46) (qA (fP:=iV z) 0 32) (λx0 w' hE d0=>by{obtain rfl:x0=_:=d0;exact single_f w' (by omega)})) ?_;refine Rc (alB al_Vl (jP _)) ?_;exact rn0
   intro v X1 e1 hZ _;obtain⟨s1,a1,n1,c1,s2,a2,n2,c2,s3,a3,n3,c3,s4,a4,n4,c4,hv1,g1,g2⟩:=hZ 1 dcx;obtain⟨g10,hv2,hg10,B10⟩:=hZ 2 dcx;simp only[lxE,Nat.reduceAdd];rw[hv1,hv2];clear hZ hv1 hv2;refine stL (λK hK'=>?_);refine qZ (us:= [.bool s1,.slice a1 n1 c1,.bool s2,.slice a2 n2 c2,.bool s3,.slice a3 n3 c3,.bool s4,.slice a4 n4 c4,.bool true,.slice none 0 0,.int .i64 0]) B10 st_Vl rfl rfl nwVl (λX2 B11 O=>hK' _ _ ?_);replace g1:=IsRat.gstb _ _ _ _ _ O.gr g1;replace g2:=IsRat.gstb _ _ _ _ _ O.gr g2;have e2:=O.ext e1 hg10;refine jL ?_;clear hK' K O B10 e1;have hcy2:=e2.cell hcy;have c02:=e2.cell c0
   have hcase:(op=true/\100<y)\/(op=true/\y=99)\/(op=true/\¬100<y/\¬y=99)\/op=false:=by
    cases op <;> simp <;> omega
   rcases hcase with⟨rfl,hy1⟩| ⟨rfl,hy1⟩| ⟨rfl,hy1,hy2⟩|rfl
   case' inl=>
    have hyi:(100:Int)<(y:Int):=by omega
    have hof:=λw'=>rqOf_f w' (z+(y:Int)/64) 1 (by omega) dcx dcx
    go_upto_region 11 with(go_at_call 47;go_must (refine(hof _).mono ?_;rintro e w9 ⟨_,rfl,E9,s5,a5,n5,c5,s6,a6,n6,c6,rfl,g3,g4⟩;have L4:=(B11.ext E9).c 4 _ rfl;have F4:=(B11.ext E9).f 4;have L5:=(B11.ext E9).c 5 _ rfl;have F5:=(B11.ext E9).f 5;have L6:=(B11.ext E9).c 6 _ rfl;have F6:=(B11.ext E9).f 6;have L7:=(B11.ext E9).c 7 _ rfl;have F7:=(B11.ext E9).f 7;have L8:=(B11.ext E9).c 8 _ rfl;have F8:=(B11.ext E9).f 8));obtain⟨O,B12⟩:=(B11.ext E9).mid5 (u4:=.bool s5) (u5:=.slice a5 n5 c5) (u6:=.bool s6) (u7:=.slice a6 n6 c6) (u8:=.bool false) (NoWord.bool _) (NoWord.slice _ _ _) (NoWord.bool _) (NoWord.slice _ _ _) (NoWord.bool _);have e3:=O.ext (e2.trans E9) hg10;have hV:=VcB.of B12 (IsI.gstb _ _ _ _ _ O.gr (IsRat.lo (IsRat.stbE _ _ _ _ _ E9 g1))) (IsI.gstb _ _ _ _ _ O.gr (IsRat.lo ⟨_,_,_,_,_,_,_,_,rfl,g3,g4⟩)) (by omega);clear L4 L5 L6 L7 L8 F4 F5 F6 F7 F8 O g1 g2 g3 g4 hof E9 e2 B11 hcy2 c02 B12;have hcy2:=e3.cell hcy;have c02:=e3.cell c0;generalize((((w9.setCell ⟨g10,4,none⟩ (.bool s5)).setCell ⟨g10,5,none⟩ (.slice a5 n5 c5)).setCell ⟨g10,6,none⟩ (.bool s6)).setCell ⟨g10,7,none⟩ (.slice a6 n6 c6)).setCell ⟨g10,8,none⟩ (.bool false)=X at*;have hyn:¬((y:Int)=99):=by omega
    go_upto_region 13 with fail;clear hyi hyn hy1
   case' inr.inl=>
    have hyn:(y:Int)=99:=by omega
    have hyi:¬((100:Int)<(y:Int)):=by omega
    have L0:=B11.c 0 _ rfl;have L1:=B11.c 1 _ rfl;have L2:=B11.c 2 _ rfl;have L3:=B11.c 3 _ rfl;have L4:=B11.c 4 _ rfl;have L5:=B11.c 5 _ rfl;have L6:=B11.c 6 _ rfl;have L7:=B11.c 7 _ rfl;have L8:=B11.c 8 _ rfl;have L9:=B11.c 9 _ rfl;have L10:=B11.c 10 _ rfl;have F0:=B11.f 0;have F1:=B11.f 1;have F2:=B11.f 2;have F3:=B11.f 3;have F4:=B11.f 4;have F5:=B11.f 5;have F6:=B11.f 6;have F7:=B11.f 7;have F8:=B11.f 8;have F9:=B11.f 9;have F10:=B11.f 10;go_upto_region 13 with fail;clear L0 L1 L2 L3 L4 L5 L6 L7 L8 L9 L10 F0 F1 F2 F3 F4 F5 F6 F7 F8 F9 F10;obtain⟨O,B12⟩:=B11.putO (us:= [.bool false,.slice none 0 0,.bool false,.slice none 0 0,.bool false,.slice none 0 0,.bool false,.slice none 0 0,.bool true,.slice none 0 0,.int .i64 6]) rfl nwVl;change Code.wp _ _ _ _ (xJ X2 g10 0 [.bool false,.slice none 0 0,.bool false,.slice none 0 0,.bool false,.slice none 0 0,.bool false,.slice none 0 0,.bool true,.slice none 0 0,.int .i64 6]);have e3:=O.ext e2 hg10;have hV:=VcB.of B12 (IsI.nil _ _) (IsI.nil _ _) dcx;clear hcy2 c02;have hcy2:=e3.cell hcy;have c02:=e3.cell c0;clear O B12 B11 g1 g2 e2 hyn hyi hy1;generalize xJ X2 g10 0 [.bool false,.slice none 0 0,.bool false,.slice none 0 0,.bool false,.slice none 0 0,.bool false,.slice none 0 0,.bool true,.slice none 0 0,.int .i64 6]=X at*
   case' inr.inr.inl=>
    have hyi:¬((100:Int)<(y:Int)):=by omega
    have hyn:¬((y:Int)=99):=by omega
    go_upto_region 13 with fail;have hV:=VcB.of B11 (IsRat.lo g1) (IsRat.lo g2) (by omega);clear hyi hyn hy1 hy2 g1 g2 B11;have e3:=e2;clear e2;generalize X2=X at*
   case' inr.inr.inr=>
    go_upto_region 13 with fail;have hV:=VcB.of B11 (IsRat.lo g1) (IsRat.lo g2) (by omega);clear g1 g2 B11;have e3:=e2;clear e2;generalize X2=X at*
   all_goals
    obtain⟨us,d,B12,h9,hd1,hd2,hd3,hd4,hd5⟩:=hV;clear hcy c0;have hul:=(hd5 u6 u7).1;by_cases h3:(y:Int)%3=0
    case' pos=>
     have L9:=λo=>(B12.ext ((Ext.refl X).alloc o)).c 9 _ h9
     have F9:=λo=>(B12.ext ((Ext.refl X).alloc o)).f 9
     go_upto_region 15 with fail;obtain⟨X1,hX1⟩:∃X1,(X.alloc (.cells #[.int .i64 3] 3)).setCell ⟨g10,9,none⟩ (.slice (some ⟨X.heap.size,0,none⟩) 1 1)=X1:=⟨_,rfl⟩;rw[hX1];obtain⟨V1,B13,O⟩:=(hd5 u6 u7).set9 B12 (λh=>by have h1:=(S.out.r6.own_lt h).1;have h2:=e3.size;omega) (λh=>by have h1:=(S.out.r7.own_lt h).1;have h2:=e3.size;omega) hX1;have hT:∃(us1:List Value) (d1:qJ),VcX u6 u7 d1 us1 X1/\Bk X1 g10 us1/\d1.lo<=d1.hi/\ -5<=d1.lo/\d1.hi<=13/\(d1.hyps= []\/d1.hyps= [3]):=⟨_,_,V1,B13,hd1,hd2,hd3,.inr rfl⟩;have e4:=O.ext (e3.trans ((Ext.refl X).alloc _)) hg10;clear hX1 V1 B13 O L9 F9 B12 e3 hd5 hcy2 c02
    case' neg=>
     go_upto_region 15 with fail;have hT:∃(us1:List Value) (d1:qJ),VcX u6 u7 d1 us1 X/\Bk X g10 us1/\d1.lo<=d1.hi/\ -5<=d1.lo/\d1.hi<=13/\(d1.hyps= []\/d1.hyps= [3]):=⟨_,_,hd5 u6 u7,B12,hd1,hd2,hd3,.inl hd4⟩;have e4:=e3;clear B12 e3 hd5 hcy2 c02;generalize X=X1 at*
    all_goals
     obtain⟨us1,d1,hV1,B14,k1,k2,k3,k4⟩:=hT;obtain⟨bC,hC1,hC2⟩:=infoC;obtain⟨bV,hD1,hD2⟩:=infoV;have HI:=hid hC1;have HBy:=hid hC2;have HIV:=hid hD1;have HBV:=hid hD2;have HE4:=hid e4;have hiw:IntKind.i64.wrap ((i:Int)+1)=((i+1:Nat):Int):=jz
     have hi4:i<4:=by omega
     clear hC1 hC2 hD1 hD2;refine rgs 8 (dR 75 8) [IsV u6,IsNm,iV (i:Int),IsNp i,IsV (.string (nameC i)),IsV (.agg #[.int .i64 1,.string ⟨#[]⟩,.int .i64 0,.bool false,.slice none 0 0,.int .i64 0,.int .i64 0,.slice none 0 0]),IsV (.agg (cellV i).toArray),IsRc (cellV i)] [] ?_ ?_
     ·refine Rc (mv (qB 6)) ?_;refine Rc bsNm ?_;refine Rc (mv (qB (x:=.int .i64 (i:Int)) 8)) ?_;refine Rc (ixNm (j:=i) hi4 (qA 1 76) (qA 2 77)) ?_;refine Rc (ldNm (j:=i) (qA 3 78)) ?_;refine Rc bdNn ?_;refine Rc (bdCl (j:=i) (qA 4 79) (qA 5 80)) ?_;refine Rc (bsRc (us:=cellV i) (T1:=127) (bs_Ce i) (qA 6 81)) ?_;exact rn0
     intro x X2 e5 hZ _;have hsr:SrcR 1 (cellV i) (x 7) X2:=hZ 7 dcx;simp only[lxE,Nat.reduceAdd];rw[show x 0=u6 from hZ 0 dcx];clear hZ;have eX:=e4.trans e5;have hsz2:=eX.size;have hBsz:b+1<=wr.heap.size:=by have:=S.out.bl.size;have:=HL.out;omega
     have hne76:∀g,u7.ownBlock=some g->u6.ownBlock≠some g:=λg h1 h2=>S.out.ne g h2 h1
     refine wpl_rwnS rfl (.tmp 75) (.tmp 82) 33 rfl (b+1) 127 (.agg zCe.toArray) 9 bC za HI.out zb6 dcx (λu hu=>nwZCe u jw) u6 i nl.flatten rfl (S.out.r6.ext eX) (S.out.n6.kept (λg hg=>eX.block g (S.out.r6.own_lt hg).1)) 1 (cellV i) (x 7) rfl rfl hsr (cellV_nw i).1 (cellV_nw i).2 (by omega) (by have:=Nat.mul_le_mul (show i+1<=5 by omega) HBy.out;omega) (by omega) ?_;intro v6' X3 q1 q2 q3 q4 q5 q6;have q3b:∀q,q<X2.heap.size->u6.ownBlock≠some q->X3.heap[q]? =X2.heap[q]? :=λq hq hne=>q3.block q hq (λe=>hne e.symm)
     have hg6:u6.ownBlock≠some g10:=λe=>by have:=(S.out.r6.own_lt e).1;omega
     have B15:Bk X3 g10 us1:=⟨λj u hj=>(World.cell?_of_block (w:=X2) (a:=⟨g10,j,none⟩) (q3b g10 (B14.ext e5).lt hg6)).trans ((B14.ext e5).c j u hj),λj=>(World.frozen?_of_block (w:=X2) (a:=⟨g10,j,none⟩) (q3b g10 (B14.ext e5).lt hg6)).trans ((B14.ext e5).f j),Nat.lt_of_lt_of_le (B14.ext e5).lt q3.size⟩;obtain⟨vl1,va1,vnw1,-⟩:=id hV1;have hV3:VcX v6' u7 d1 us1 X3:=(hV1.ext e5).grow q3 q4 (.inl rfl) q6 (.inl rfl);have hold3:∀(j:Nat) (d:qJ),cs[j]? =some d->∃vs:List Value,vl[j]? =some vs/\VcX v6' u7 d vs X3:=λj d hj=>let ⟨vs,z1,z2⟩:=S.out.c7 j d hj;⟨vs,z1,(z2.ext eX).grow q3 q4 (.inl rfl) q6 (.inl rfl)⟩
     have r73:Rwg 50 11 (b+1) X3 u7 i vl.flatten:=(S.out.r7.ext eX).grown q3 (λg h1 h2=>hne76 g h1 h2);have n73:NwB X3 u7:=(S.out.n7.kept (λg hg=>eX.block g (S.out.r7.own_lt hg).1)).kept (λg hg=>q3b g (by have:=(S.out.r7.own_lt hg).1;omega) (hne76 g hg))
     have hne3:∀g,v6'.ownBlock=some g->u7.ownBlock≠some g:=λg h1 h2=>by
      rcases q6 with h|h
      ·exact hne76 g h2 (h▸h1)
      ·rw[h]at h1;cases h1;have:=(S.out.r7.own_lt h2).1;omega
     have bl3:Below (b+1) W X3:=Below.trans S.out.bl (Below.trans (eX.mono hBsz) q5);have H3:=hid (jO q1 (jO q2 (jO hold3 (jO r73 (jO n73 (jO hne3 (jO bl3 hV3)))))));have hsz3:b+1<=X3.heap.size:=by have:=q3.size;omega
     clear hold3 r73 n73 hne3 bl3 hV3 q1 q2 q3 q4 q5 q6 q3b hg6 hsr e5 eX hsz2 hBsz hne76 hV1 B14 HE4;have HV1:=hid (jO vl1 (jO va1 vnw1));clear vl1 va1 vnw1;go_upto_region 16 with fail;refine rgs 3 (dR 84 3) [IsV u7,IsV (.agg us1.toArray),IsRc us1] [] ?_ ?_
     ·refine Rc (mv (qB 7)) ?_;refine Rc (lvV B15 ld_Vl (qB 10) HV1.out.1) ?_;refine Rc (bsRc (us:=us1) (T1:=50) (bs_VlL HV1.out.1) (qA 1 85)) ?_;exact rn0
     intro x X4 e6 hZ _;have hsr:SrcR 1 us1 (x 2) X4:=hZ 2 dcx;simp only[lxE,Nat.reduceAdd];rw[show x 0=u7 from hZ 0 dcx];clear hZ B15;obtain⟨q1,q2,hold3,r73,n73,hne3,bl3,hV3⟩:=H3.out;have hsz4:=e6.size;refine wpl_rwnS rfl (.tmp 84) (.tmp 86) 34 rfl (b+1) 50 (.agg zVl2.toArray) 11 bV za HIV.out zb6 dcx (λu hu=>nwZVl2 u jw) u7 i vl.flatten rfl (r73.ext e6) (n73.kept (λg hg=>e6.block g (r73.own_lt hg).1)) 1 us1 (x 2) rfl (by have:=HV1.out.1;omega) hsr (λu hu=>List.all_eq_true.1 HV1.out.2.1 u hu) HV1.out.2.2 (by omega) (by have:=Nat.mul_le_mul (show i+1<=5 by omega) HBV.out;omega) (by omega) ?_;intro v7' X5 p1 p2 p3 p4 p5 p6;have p3b:∀q,q<X4.heap.size->u7.ownBlock≠some q->X5.heap[q]? =X4.heap[q]? :=λq hq hne=>p3.block q hq (λe=>hne e.symm)
     have h6lt:∀g,v6'.ownBlock=some g->g<X4.heap.size:=λg hg=>by have:=(q1.own_lt hg).1;omega
     have hRel:=hid (show CsI (b+1) W (i+1) (cs++ [{d1 with name:=nameC i}]) (nl++ [cellV i]) (vl++ [us1]) v6' v7' X5 from
      {
       len:=by rw[jT,S.out.len];rfl
       ok:=λc hc=>by
        rcases List.mem_append.1 hc with h|h
        ·exact S.out.ok c h
        ·rw[List.mem_singleton]at h;subst h;refine⟨k1,?_,λy hy=>?_⟩
         ·show(Kn.mk d1.lo d1.hi true).Le 4294967296;unfold Kn.Le;simp only;omega
         ·have hy:y∈d1.hyps:=hy;rcases k4 with h|h
          ·rw[h]at hy;simp at hy
          ·rw[h]at hy;exact hy
       hl:=λd hd=>by
        rcases List.mem_append.1 hd with h|h
        ·exact S.out.hl d h
        ·rw[List.mem_singleton]at h;subst h;show d1.hyps.length<=1;rcases k4 with h|h <;> rw[h] <;> simp
       r6:=by rw[List.flatten_append,List.flatten_singleton];exact(q1.ext e6).grown p3 (λg h1 h2=>hne3 g h1 h2)
       n6:=(q2.kept (λg hg=>e6.block g (q1.own_lt hg).1)).kept (λg hg=>p3b g (h6lt g hg) (λh=>hne3 g hg h))
       l6:=by rw[jT,S.out.l6];rfl
       c6:=λj d hj=>by
        rcases jU j cs.length with h|h
        ·rw[List.getElem?_append_left h]at hj;obtain⟨vs,z1,z2,z3⟩:=S.out.c6 j d hj;exact⟨vs,by rw[List.getElem?_append_left (List.getElem?_eq_some_iff.1 z1).1];exact z1,z2,z3⟩
        ·rw[List.getElem?_append_right h]at hj
         have hj0:j-cs.length=0:=by
          have:=(List.getElem?_eq_some_iff.1 hj).1;simp at this;omega
         rw[hj0]at hj;cases hj;have hjl:j=nl.length:=by have:=S.out.len;have:=S.out.l6;omega
         exact⟨cellV i,by rw[hjl];simp,rfl,rfl⟩
       a6:=λvs h=>by
        rcases List.mem_append.1 h with h|h
        ·exact S.out.a6 vs h
        ·rw[List.mem_singleton]at h;rw[h];rfl
       r7:=by rw[List.flatten_append,List.flatten_singleton];exact p1
       n7:=p2
       l7:=by rw[jT,S.out.l7];rfl
       c7:=λj d hj=>by
        rcases jU j cs.length with h|h
        ·rw[List.getElem?_append_left h]at hj;obtain⟨vs,z1,z2⟩:=hold3 j d hj;exact⟨vs,by rw[List.getElem?_append_left (List.getElem?_eq_some_iff.1 z1).1];exact z1,(z2.ext e6).grow p3 p4 (.inr (.inl rfl)) (.inl rfl) p6⟩
        ·rw[List.getElem?_append_right h]at hj
         have hj0:j-cs.length=0:=by
          have:=(List.getElem?_eq_some_iff.1 hj).1;simp at this;omega
         rw[hj0]at hj;cases hj;have hjl:j=vl.length:=by have:=S.out.len;have:=S.out.l7;omega
         exact⟨us1,by rw[hjl];simp,(hV3.ext e6).grow p3 p4 (.inr (.inl rfl)) (.inl rfl) p6⟩
       a7:=λvs h=>by
        rcases List.mem_append.1 h with h|h
        ·exact S.out.a7 vs h
        ·rw[List.mem_singleton]at h;rw[h];exact HV1.out.1
       ne:=λg h1 h2=>by
        rcases p6 with h|h
        ·exact hne3 g h1 (h▸h2)
        ·rw[h]at h2;cases h2;have:=h6lt _ h1;omega
       bl:=Below.trans bl3 (Below.trans (e6.mono hsz3) p5)})
     clear q1 q2 hold3 r73 n73 hne3 bl3 hV3 p1 p2 p3 p4 p5 p6 p3b h6lt hsr e6 H3 k1 k2 k3 k4 S;go_wp2_with fail
     go_roundg (gk-1)
     case measure=>have:=HG.out;omega
     case rel=>exact⟨i+1,_,_,_,rfl,by have:=HG.out;omega,hRel⟩
  ·have B0:=HB.out;have e4:Ext w wr:=Below.trans HE.out (S.out.bl.mono (by have:=HW.out;omega));have hou:=S.out.out (by omega);clear B0 S;by_cases hi1:i<cn
   ·have hil:(i:Int)<(cn:Int):=by omega
    have hil4:¬((i:Int)<4):=by omega
    clear hi
    go_wp2
    exact jK (v:=.tuple #[u6,u7]) (by simp[results,results12,go_sem]) rfl ⟨_,rfl,e4,hou⟩
   ·have hil:¬((i:Int)<(cn:Int)):=by omega
    clear hi
    go_wp2
    exact jK (v:=.tuple #[u6,u7]) (by simp[results,results12,go_sem]) rfl ⟨_,rfl,e4,hou⟩
end
section
open Go Go.RowKit Go.Maps
open Go.Proofs.Tryz
set_option maxRecDepth 100000
set_option maxHeartbeats 4000000
theorem fld_Bt{w:World}{us:List Value}{k:Value}(hl:us.length=8):(Instr.field 122 (.agg (us++ [k]).toArray) 0).run prog w=.ok (.agg us.toArray) w:=by
 have h:((us++ [k]).toArray.extract 0 8)=us.toArray:=by
  apply Array.ext';simp[<-hl]
 unfold Instr.field
 go_simp
 simp[asAgg]
 simpa using h
def IsTr:Value->World->Prop:=λx w=>∃e,wfT 4 [] e/\IsNe e x w
theorem IsTr.stb:Stb IsTr:=λ_ _ _ E ⟨e,h1,h2⟩=>⟨e,h1,IsNe.stb _ _ _ _ E h2⟩
instance:StbC IsTr:=⟨IsTr.stb⟩
def IsTrB(B:Nat):Value->World->Prop:=λx w=>∃e,wfT 4 [] e/\NeL B e x w
theorem IsTrB.stb(B:Nat):Stb (IsTrB B):=λ_ _ _ E ⟨e,h1,h2⟩=>⟨e,h1,NeL.stb _ _ _ _ _ E h2⟩
instance (B:Nat):StbC (IsTrB B):=⟨IsTrB.stb B⟩
theorem IsRs.stb(bs:List ByteArray):Stb (IsRs bs):=λ_ _ _ E h=>h.ext E
instance (bs:List ByteArray):StbC (IsRs bs):=⟨IsRs.stb bs⟩
section
variable {ops:Array Oper} {Q:Exit->Act->World->Prop} {ds:List (Option Tmp)} {a0:Act} {w0:World} {L:List (Value->World->Prop)} {boxes:List Nat} {i k:Nat} {o:Oper} {os:List Oper}
theorem bs0S(ho:o.op=.buildSlice 51 0 #[]:=by rfl)(hi:L.getD i (λ_ _=>True)=IsRs []:=by kernel_rfl)(hb:boxes.contains i=false:=by kernel_rfl):Ok prog ops Q ds a0 w0 L boxes i o:=
 ⟨fun v a w hE hd hf K hK=>by
  have hr:(Instr.buildSlice 51 0 #[]).run prog w=.ok (.slice (some ⟨w.heap.size,0,none⟩) 0 0) (w.alloc (.cells #[] 9)):=ja
  have hrun:(execOp a.eval o).run prog w=.ok (.value (.slice (some ⟨w.heap.size,0,none⟩) 0 0)) (w.alloc (.cells #[] 9)):=by
   unfold execOp;rw[ho];dsimp only;simp[hr]
  unfold Oper.wp;rw[hrun];refine hK.out _ _ ((Ext.refl w).alloc _) ?_ (FreshIf.no hb);rw[hi]
  exact⟨_,0,rfl,by simp,λj x hj=>by simp at hj⟩⟩
theorem fldB{B d j:Nat}{bs:List ByteArray}{x:Operand}(hx:Od ops ds a0 w0 L i x (IsBt B d bs j))(hd4:d=4/\bs= [])(ho:o.op=.field 122 x 0:=by rfl)(hi:L.getD i (λ_ _=>True)=IsTrB B:=by kernel_rfl)(hb:boxes.contains i=false:=by kernel_rfl):Ok prog ops Q ds a0 w0 L boxes i o:=
 Ok.of hb λv a w hE hd hf=>by
  obtain⟨rfl,rfl⟩:=hd4;obtain⟨e,us,k,h1,_,_,h4,h5⟩:=hx.out v a w hE hd hf;obtain⟨us',q1,q2,q3,q4,q5⟩:=id h5;obtain rfl:us=us':=by simpa using q1
  refine⟨.agg us.toArray,?_,by rw[hi];exact⟨e,h4,h5⟩⟩;unfold execOp;rw[ho];dsimp only;rw[h1];simp[fld_Bt q2]
end
theorem Tree_f{w:World}{lb:Value}(hL:IsBy lb w):Calls prog 11 #[lb] w (Ret w IsTr):=by
 obtain⟨W,hW,E,B2⟩:∃W,W=w.alloc (.cells #[.int .i64 0,.string ⟨#[]⟩,.int .i64 0,.bool false,.slice none 0 0,.int .i64 0,.int .i64 0,.slice none 0 0] 31)/\Ext w W/\Bk W w.heap.size zNd:=zi;go_enter func11,ntmps11;go_upto_region 1 with fail;rw[<-hW];clear hW;refine rgs 4 (dR 3 4) [IsV lb,IsRs [],IsBt (w.heap.size+1) 4 [] 0,IsTrB (w.heap.size+1)] [] ?_ ?_
 ·refine Rc zv ?_;refine Rc bs0S ?_
  refine Rc (cl (fQ:=IsBt (w.heap.size+1) 4 [] 0) (en func45) rfl rfl za za λv a w2 hE hd hf=>by
   have e0:a.eval (.tmp 3)=lb:=(qA 0 3:Od _ _ _ _ _ _ _ (IsV lb)).out v a w2 hE hd hf;have e1:IsRs [] (a.eval (.tmp 4)) w2:=(qA 1 4:Od _ _ _ _ _ _ _ (IsRs [])).out v a w2 hE hd hf;simp only[List.map_toArray,List.map_cons,List.map_nil];rw[e0]
   exact jJ (build_f 4 dcx [] w2 lb _ 0 (λx hx=>by simp at hx) dcx dcx ((hL.ext E).ext hE) e1) (λe w3 hq=>by{obtain⟨u,q1,q2,q3⟩:=hq;exact⟨u,q1,q2,q3.dn (jQ B2.lt hE.size)⟩})) ?_
  refine Rc (fldB (qA (fP:=IsBt (w.heap.size+1) 4 [] 0) 2 5) ⟨rfl,rfl⟩) ?_;exact rn0
 intro v X1 e1 hZ _;obtain⟨e,hwt,us,hv,hl,hone,hnw,hnd⟩:=hZ 3 dcx;simp only[lxE,Nat.reduceAdd];rw[hv];clear hZ hv;replace E:=E.trans e1;replace B2:=B2.ext e1;refine stL (λK hK=>?_);refine qZ (us:=us) B2 st_Nd rfl hl nwZN (λW1 B9 O=>hK _ _ ?_) (ho1:=hone);have E9:=O.ext E (jP _);have hne9:IsNe e (.agg us.toArray) W1:=⟨us,rfl,hl,hone,hnw,((hnd.only O (Nat.lt_succ_self _)).up (jP _) (by rw[O.size];exact jP _)).nd⟩;clear hK K O B2;refine jL ?_;go_wp2_with fail;exact jK (resC results11 rfl (lvM za za hl B9)) rfl ⟨_,rfl,E9,e,hwt,hne9⟩
end
section
open Go Go.RowKit Go.Maps Go.Shelf
theorem CsR.up{H H':Nat}{cs:List qJ}{v:Value}{w:World}(h:CsR H cs v w)(hh:H<=H'):CsR H' cs v w:=let ⟨ao,c,h1,h2⟩:=h;⟨ao,c,h1,λhn=>let ⟨g,k1,k2,k3⟩:=h2 hn;⟨g,k1,Nat.lt_of_lt_of_le k2 hh,k3⟩⟩
theorem VcR.up{H H':Nat}{d:qJ}{vs:List Value}{w:World}(h:VcR H d vs w)(hh:H<=H'):VcR H' d vs w:=by
 obtain⟨h1,h2,h3,h4,h5,h6,hv,h7,h8⟩:=h;exact⟨h1,h2,h3,h4,h5,h6,hv,h7,λq hq=>h8 q (jQ hh hq)⟩
theorem VsR.up{H H':Nat}{cs:List qJ}{v:Value}{w:World}(h:VsR H cs v w)(hh:H<=H'):VsR H' cs v w:=let ⟨ao,c,h1,h2⟩:=h;⟨ao,c,h1,λhn=>let ⟨g,k1,k2,k3⟩:=h2 hn;⟨g,k1,Nat.lt_of_lt_of_le k2 hh,λj d hj=>let ⟨vs,q1,q2⟩:=k3 j d hj;⟨vs,q1.up hh,q2⟩⟩⟩
theorem EntAt.up{H H':Nat}{d:EnD}{es:List Value}{w:World}(h:EntAt H d es w)(hh:H<=H'):EntAt H' d es w:=by
 obtain⟨⟨ao,c,h1,h2⟩,hv,h3,h4⟩:=h;exact⟨⟨ao,c,h1,λhn=>let ⟨g,k1,k2,k3⟩:=h2 hn;⟨g,k1,Nat.lt_of_lt_of_le k2 hh,k3⟩⟩,hv,h3,λq hq=>h4 q (jQ hh hq)⟩
theorem ShpM.ext{cs:List qJ}{L:List (List Value)}{dat:List Value->EnD}{gs:List Int}{c v s g:Value}{w w':World}(h:ShpM cs L dat gs c v s g w)(e:Ext w w'):ShpM cs L dat gs c v s g w':=
 ⟨h.tm.ext e,(h.cr.rm (Rm.ext (h:=w.heap.size) e) (jP _)).up e.size,(h.vr.rm (Rm.ext (h:=w.heap.size) e) (jP _)).up e.size,h.sr.ext e,h.gr.ext e,λvs hv=>((h.ent vs hv).rm (Rm.ext (h:=w.heap.size) e) (jP _)).up e.size,λvs hv=>let ⟨u,k1,k2⟩:=h.hy vs hv;⟨u,k1,k2.ext e⟩⟩
theorem IsCls.stb:Stb IsCls:=λ_ w _w' e ⟨cs,c,v,h1,h2,h3,h4,h5,h6⟩=>⟨cs,c,v,h1,h2,h3,h4,(h5.rm (Rm.ext (h:=w.heap.size) e) (jP _)).up e.size,(h6.rm (Rm.ext (h:=w.heap.size) e) (jP _)).up e.size⟩
instance:StbC IsCls:=⟨IsCls.stb⟩
def NoErr0(r:Res Kn):Prop:=∀n,r=.error n->n≠0
theorem srch_ne{f:Int->Mst Lg->Res Kn×Mst Lg}(hf:∀n st,NoErr0 (f n st).1)(fst:Bool)(hi:Int):∀(k:Nat) (t:Tr) (st:Mst Lg) (n:Int),(xQ f fst hi k t st).1=.error n->n≠0
 |0,t,st,n,h=>by simp[xQ]at h
 | k+1,t,st,n,h=>by
  unfold xQ at h
  split at h
  ·have hh:=hf t.next (st.1-1,st.2)
   generalize f t.next (st.1-1,st.2)=r at h hh
   obtain⟨r1,r2⟩:=r;cases r1 with
   | error m=>
    simp only[Except.error.injEq]at h;subst h;exact hh _ rfl
   | ok q=>
    simp only at h;generalize t.step fst q=u at h;obtain⟨t',b⟩:=u;cases b with
    |true=>simp at h
    |false=>exact srch_ne hf fst hi k _ _ n h
  ·simp at h
theorem shortV_ne(q:Kn):NoErr0 (xU q):=λn h=>by
 unfold xU at h
 split at h
 ·cases h;decide
 ·cases h
theorem opV_ne(op:Int)(a b:Kn):NoErr0 (opV op a b):=λn h=>by
 unfold opV at h
 repeat' split at h
 all_goals first|exact shortV_ne _ n h|cases h
theorem ev_ne(cs:List qJ)(bst:List UInt8->Option EnD)(fl:ByteArray->Env->ByteArray):∀(e:Ex) (env:Env) (st:Mst Lg),NoErr0 (ev (qX cs bst fl) e env st).1
 | .num z,env,st=>λn h=>by simp[ev]at h
 | .var x,env,st=>λn h=>by simp[ev]at h
 | .cell x,env,st=>λn h=>by
  simp only[ev,qX,clG]at h
  split at h
  ·cases h;decide
  ·simp only at h
   split at h
   ·cases h
   ·rename_i hne
    cases h;exact hne
 | .val x k,env,st=>λn h=>by
  simp only[ev,qX,vlG]at h
  split at h
  ·cases h;decide
  ·simp only at h
   split at h
   ·cases h
   ·cases h;decide
 | .loop fst x lo hi b,env,st=>λn h=>by
  have hs:=srch_ne (f:=λn st=>ev (qX cs bst fl) b (env++ [(x,n)]) st) (λm s=>ev_ne cs bst fl b _ s) fst hi (hi+1-lo).toNat ⟨0,0,hi+1,hi+1,lo,true⟩ st;unfold ev at h;generalize xQ (λn st=>ev (qX cs bst fl) b (env++ [(x,n)]) st) fst hi (hi+1-lo).toNat ⟨0,0,hi+1,hi+1,lo,true⟩ st=r at h hs;obtain⟨r1,r2⟩:=r;cases r1 with
  | error m=>
   simp only[Except.error.injEq]at h;subst h;exact hs _ rfl
  |ok q=>simp at h
 | .bin op a b,env,st=>λn h=>by
  have ha:=ev_ne cs bst fl a env st;unfold ev at h;generalize ev (qX cs bst fl) a env st=r at h ha;obtain⟨r1,r2⟩:=r;cases r1 with
  | error m=>
   simp only[Except.error.injEq]at h;subst h;exact ha _ rfl
  | ok p=>
   simp only at h;have hb:=ev_ne cs bst fl b env r2;generalize ev (qX cs bst fl) b env r2=r' at h hb;obtain⟨r3,r4⟩:=r';cases r3 with
   | error m=>
    simp only[Except.error.injEq]at h;subst h;exact hb _ rfl
   | ok q=>
    simp only at h;have ho:=opV_ne op p q;generalize opV op p q=r5 at h ho;cases r5 with
    | error m=>
     simp only[Except.error.injEq]at h;subst h;exact ho _ rfl
    |ok r=>simp at h
end
section
open Go Go.RowKit Go.Maps Go.Shelf
attribute [local go_sem] Oper.semAt_some
theorem OutX.err{res:Res Kn}{left:Nat}{rs hs:List Value}{g:Nat}{W:World}(h:OutX res left rs hs g W):World.cell? W ⟨g,10,none⟩=some (.int .i64 (errR res)):=by
 obtain⟨⟨vl,ha,hn,hc,h1,h2,h3,h4⟩,_,_⟩:=h;refine h2 10 _ ?_;cases res with
 | error m=>
  have e:=Value.agg.inj h3;have e:vl=_:=congrArg Array.toList e;rw[e];rfl
 | ok q=>
  obtain⟨s1,a1,n1,c1,s2,a2,n2,c2,s3,a3,n3,c3,s4,a4,n4,c4,e,k1,k2⟩:=h3;have e:=Value.agg.inj e;have e:vl=_:=congrArg Array.toList e;rw[e];rfl
theorem OutX.ok{p:Kn}{left:Nat}{rs hs:List Value}{g:Nat}{W:World}(h:OutX (.ok p) left rs hs g W):∃s1 a1 n1 c1 s2 a2 n2 c2 s3 a3 n3 c3 s4 a4 n4 c4 a n c ra rn rc,
  (∀j v, [Value.bool s1,.slice a1 n1 c1,.bool s2,.slice a2 n2 c2,.bool s3,.slice a3 n3 c3,.bool s4,.slice a4 n4 c4,.bool p.fin,.slice a n c,.int .i64 0,.slice ra rn rc,.int .i64 (left:Int)][j]? =some v->World.cell? W ⟨g,j,none⟩=some v)/\
  IsRat 130 (Rat.divInt p.lo 1) (.agg #[.bool s1,.slice a1 n1 c1,.bool s2,.slice a2 n2 c2]) W/\IsRat 130 (Rat.divInt p.hi 1) (.agg #[.bool s3,.slice a3 n3 c3,.bool s4,.slice a4 n4 c4]) W/\IsRw 0 hs (.slice a n c) W/\IsRw 0 rs (.slice ra rn rc) W:=by
 obtain⟨⟨vl,ha,hn,hc,h1,h2,h3,h4⟩,⟨ra,rn,rc,h5,h6⟩,h7⟩:=h;obtain⟨s1,a1,n1,c1,s2,a2,n2,c2,s3,a3,n3,c3,s4,a4,n4,c4,e,k1,k2⟩:=h3;have e:=Value.agg.inj e;obtain rfl:vl=_:=congrArg Array.toList e;refine⟨s1,a1,n1,c1,s2,a2,n2,c2,s3,a3,n3,c3,s4,a4,n4,c4,ha,hn,hc,ra,rn,rc,λj v hj=>?_,k1,k2,h4,h6⟩
 match j with
 |0|1|2|3|4|5|6|7|8|9|10=>exact h2 _ v hj
 |11=>cases hj;exact h5
 |12=>cases hj;exact h7
 |j+13=>simp at hj
theorem OutX.hy{p:Kn}{left:Nat}{rs hs:List Value}{g:Nat}{W:World}(h:OutX (.ok p) left rs hs g W):∃a n c,World.cell? W ⟨g,9,none⟩=some (.slice a n c)/\IsRw 0 hs (.slice a n c) W:=by
 obtain⟨s1,a1,n1,c1,s2,a2,n2,c2,s3,a3,n3,c3,s4,a4,n4,c4,a,n,c,ra,rn,rc,hc,-,-,h4,-⟩:=h.ok;exact⟨a,n,c,hc 9 _ rfl,h4⟩
theorem al_ShN(w:World):(Instr.alloc 39 true (.tuple #[])).run Tryz.prog w=.ok (.pointer (some ⟨w.heap.size,0,none⟩)) (w.alloc (.cells [Value.slice none 0 0].toArray 39)):=by go_simp
theorem ld_Rw3:LdV Tryz.prog 24 3:=λw g vs hl B=>ldM za za hl (λj v hj=>by rw[Nat.zero_add];exact B.c j v hj)
theorem ld_aStr:LdC1 Tryz.prog 51:=λw a v h=>by go_simp
end
section
open Go Go.RowKit Go.Maps Go.Shelf
open Go.Proofs.Tryz
attribute [local go_sem] Oper.semAt_some
set_option maxRecDepth 100000
theorem fa_Ct0(g:Nat)(w:World):(Instr.fieldAt 84 (.pointer (some ⟨g,0,none⟩)) 0).run prog w=.ok (.pointer (some ⟨g,0,none⟩)) w:=by go_simp
theorem fa_Ct2(g:Nat)(w:World):(Instr.fieldAt 84 (.pointer (some ⟨g,0,none⟩)) 2).run prog w=.ok (.pointer (some ⟨g,4,none⟩)) w:=by go_simp
theorem fa_Ct3(g:Nat)(w:World):(Instr.fieldAt 84 (.pointer (some ⟨g,0,none⟩)) 3).run prog w=.ok (.pointer (some ⟨g,5,none⟩)) w:=by go_simp
theorem fa_Ct4(g:Nat)(w:World):(Instr.fieldAt 84 (.pointer (some ⟨g,0,none⟩)) 4).run prog w=.ok (.pointer (some ⟨g,6,none⟩)) w:=by go_simp
theorem fa_Ct5(g:Nat)(w:World):(Instr.fieldAt 84 (.pointer (some ⟨g,0,none⟩)) 5).run prog w=.ok (.pointer (some ⟨g,7,none⟩)) w:=by go_simp
theorem fa_Fc0(g:Nat)(w:World):(Instr.fieldAt 81 (.pointer (some ⟨g,0,none⟩)) 0).run prog w=.ok (.pointer (some ⟨g,0,none⟩)) w:=by go_simp
theorem fa_Fc1(g:Nat)(w:World):(Instr.fieldAt 81 (.pointer (some ⟨g,0,none⟩)) 1).run prog w=.ok (.pointer (some ⟨g,1,none⟩)) w:=by go_simp
theorem fa_Fc2(g:Nat)(w:World):(Instr.fieldAt 81 (.pointer (some ⟨g,0,none⟩)) 2).run prog w=.ok (.pointer (some ⟨g,2,none⟩)) w:=by go_simp
theorem ld_Fp:LdC1 prog 82:=λw a v h=>by go_simp
theorem ld_aI3:LdC1 prog 41:=λw a v h=>by go_simp
theorem ld_i3:LdC1 prog 3:=λw a v h=>by go_simp
set_option maxHeartbeats 8000000 in
theorem count_n{w:World}{base N:Nat}{v:Value}(hI:IsIR base N v w)(hN:N<=1000)(hb:base<=w.heap.size):Calls prog 102 #[v,.agg #[.int .i64 0,.int .i64 0,.int .i64 0,.int .i64 0,.slice none 0 0,.slice none 0 0,.slice none 0 0,.slice none 0 0]] w (RetI base (N+8) v w):=by
 obtain⟨W,hW,E,B⟩:∃W,W=w.alloc (.cells #[.int .i64 0,.int .i64 0,.int .i64 0,.int .i64 0,.slice none 0 0,.slice none 0 0,.slice none 0 0,.slice none 0 0] 84)/\Ext w W/\Bk W w.heap.size [.int .i64 0,.int .i64 0,.int .i64 0,.int .i64 0,.slice none 0 0,.slice none 0 0,.slice none 0 0,.slice none 0 0]:=zi;obtain⟨b,hbb⟩:∃b,w.heap.size=b:=⟨_,rfl⟩;have HO:=hid (show v.ownBlock≠some b from λe=>by have:=(hI.own_lt e).1;omega);have HI:=hid (hI.ext E);have HL:=hid (jO hN hb);have HE:=hid E;have HW:=hid E.size;rw[hbb]at B;have HB:=hid B;have HBW:=hid (show b<W.heap.size from B.lt);go_enter func102,ntmps102;go_upto_region 1 with fail;rw[<-hW];clear hW hI hN hb E;refine rg 14 (dR 5 14) [IsV v,IsP b 0,IsP b 0,iV 0,IsZ,IsP b 0,IsP b 1,iV 0,IsZ,IsP b 0,IsP b 2,iV 0,IsZ,IsNews 3] [] 2 ?_ ?_
 ·refine Rc zv ?_;refine Rc (fa (fa_Ct0 b) (qB 3)) ?_;refine Rc (fa (fa_Fc0 b) (qA 1 6)) ?_;refine Rc (lvC 0 B ld_i3 (qA 2 7)) ?_;refine Rc (numZ (z:=0) (qA 3 8)) ?_;refine Rc (fa (fa_Ct0 b) (qB 3)) ?_;refine Rc (fa (fa_Fc1 b) (qA 5 10)) ?_;refine Rc (lvC 1 B ld_i3 (qA 6 11)) ?_;refine Rc (numZ (z:=0) (qA 7 12)) ?_;refine Rc (fa (fa_Ct0 b) (qB 3)) ?_;refine Rc (fa (fa_Fc2 b) (qA 9 14)) ?_;refine Rc (lvC 2 B ld_i3 (qA 10 15)) ?_;refine Rc (numZ (z:=0) (qA 11 16)) ?_;refine Rc (bsZ3 (qA 4 9) (qA 8 13) (qA 12 17)) ?_;exact rn0
 intro x X e1 hZ _;obtain⟨news,hs,hk⟩:=hZ 13 dcx;simp only[lxE,Nat.reduceAdd];rw[show x 0=v from hZ 0 dcx];clear hZ;refine stA 14 rfl (λK hK=>wp_ir (.tmp 5) (.tmp 18) rfl base N 3 v (x 13) news rfl rfl (HI.out.ext e1) hs hk zm zag (λv3 w3 hI3 p3=>hK _ _ ?_));have HX:=hid (jO hI3 ((Pg.ext0 e1).trans p3));clear hI3 p3 hs hk hK K e1 B;have B3:=HX.out.2.bk HB.out HO.out;have c3:=B3.c 3 _ rfl;clear B3;refine asA 15 0 (.tmp 19) v3 rfl ?_;refine jR za ?_ _;go_upto_region 3 with(first| (go_at_call 121;go_must (refine(jB _ 0 dcx dcx).mono ?_;rintro e w2 ⟨_,rfl,E2,s,a,n8,c,rfl,hx⟩))| (at_builtin;go_must (refine wpl_ir rfl _ _ rfl base (N+3) 1 _ _ [.bool s,.slice a n8 c] rfl rfl (HX.out.1.ext (E2.trans ((Ext.refl _).alloc _))) (SrcR.new _ #[.bool s,.slice a n8 c] _ 1 1) (IntsAt.cons (i128 hx ((Ext.refl _).alloc _)) (IntsAt.nil _)) zm zaz ?_;intro v6 w6 hI p;have H6:=hid (jO hI (HX.out.2.trans ((Pg.ext0 (E2.trans ((Ext.refl _).alloc _))).trans p)));clear hI p hx E2;have B6:=H6.out.2.bk HB.out HO.out;clear B6 c3)));have hw6:W.heap.size<=w6.heap.size:=H6.out.2.gb.size;have B6:=H6.out.2.bk HB.out HO.out
 have ho6:v6.ownBlock≠some b:=λe=>by
  rcases H6.out.2.own with o| ⟨g,o,hg⟩
  ·exact HO.out (o.symm.trans e)
  ·rw[o]at e;cases e;have:=HBW.out;omega
 refine rgk 6 [3] (Rk b [.int .i64 0,.int .i64 0,.int .i64 0,.int .i64 0,.slice none 0 0,.slice none 0 0,.slice none 0 0,.slice none 0 0]) (dR 26 6) [IsV v6,IsP b 4,IsV (.slice none 0 0),IsPg base (N+3+1+1) v6 w6,IsP b 5,IsV (.slice none 0 0)] 2 (Rk.rel b [.int .i64 0,.int .i64 0,.int .i64 0,.int .i64 0,.slice none 0 0,.slice none 0 0,.slice none 0 0,.slice none 0 0]) ?_ ?_ ?_
 ·refine Kk (λw' _=>mv (qB 0)) ?_;refine Kk (λw' _=>fa (fa_Ct2 b) (qB 3)) ?_;refine Kk (λw' hR=>lvC 4 (hR.2 B6) ld_Fp (qA 1 27)) ?_;refine KCf (R:=Rk b [.int .i64 0,.int .i64 0,.int .i64 0,.int .i64 0,.slice none 0 0,.slice none 0 0,.slice none 0 0,.slice none 0 0]) (fQ:=IsPg base (N+3+1+1) v6 w6) (N:=N+3+1+1) (en func123) (λw'=>qA 0 26) (λw'=>qA (fP:=IsV (.slice none 0 0)) 2 28) (λu' w' hE d=>by obtain rfl:u'=.slice none 0 0:=d;exact fpoints_n (H6.out.1.ext hE) zm (by have:=HL.out;have:=HW.out;have:=hE.size;omega)) (λw' x' w'' hE p hI=>⟨p.rk ho6,hI,(Pg.ext0 hE).trans p⟩) ?_;refine Kk (λw' _=>fa (fa_Ct3 b) (qB 3)) ?_;refine Kk (λw' hR=>lvC 5 (hR.2 B6) ld_aI3 (qA 4 30)) ?_;exact RgkAll.nil
 ·intro i hi hc x' w' w'' _ h;rcases i with _|_|_|_|_|_|i
  all_goals first|exact absurd dcx hc| (exfalso;omega)|exact h
 intro x X hR hZ;have hx3:=hZ 3 dcx (.inr dcx);simp only[lxE,Nat.reduceAdd];rw[show x 5=.slice none 0 0 from hZ 5 dcx (.inl dcx)];generalize x 3=v7 at hx3 ⊢;refine stC2 (base:=base) (N:=N+3+1+1+1) (u:=v7) (u':=.slice none 0 0) 6 32 (en func95) rfl rfl (numbers_f (N:=N+3+1+1) (l:= []) hx3.1 zm (by simp) (by have:=HL.out;have:=HW.out;have:=hR.1;omega) (λ_ h=>absurd h List.not_mem_nil) (λh=>absurd rfl h)) (λv8 w8 p8 hI8=>?_);have H8:=hid (jO hI8 (H6.out.2.trans (hx3.2.trans p8)));clear hx3 p8 hI8 hZ hR B6 hw6 ho6 H6 HX;refine asA 7 0 (.tmp 32) v8 rfl ?_;refine jR za ?_ _;simp only[Act.put,uAx,u0x,u1x];go_upto_region 4 with fail;have hw8:W.heap.size<=w8.heap.size:=H8.out.2.gb.size;have B8:=H8.out.2.bk HB.out HO.out
 have ho8:v8.ownBlock≠some b:=λe=>by
  rcases H8.out.2.own with o| ⟨g,o,hg⟩
  ·exact HO.out (o.symm.trans e)
  ·rw[o]at e;cases e;have:=HBW.out;omega
 refine rgk 6 [3] (Rk b [.int .i64 0,.int .i64 0,.int .i64 0,.int .i64 0,.slice none 0 0,.slice none 0 0,.slice none 0 0,.slice none 0 0]) (dR 33 6) [IsV v8,IsP b 6,IsV (.slice none 0 0),IsPg base (N+3+1+1+1+1) v8 w8,IsP b 7,IsV (.slice none 0 0)] 2 (Rk.rel b [.int .i64 0,.int .i64 0,.int .i64 0,.int .i64 0,.slice none 0 0,.slice none 0 0,.slice none 0 0,.slice none 0 0]) ?_ ?_ ?_
 ·refine Kk (λw' _=>mv (qB 0)) ?_;refine Kk (λw' _=>fa (fa_Ct4 b) (qB 3)) ?_;refine Kk (λw' hR=>lvC 6 (hR.2 B8) ld_Fp (qA 1 34)) ?_;refine KCf (R:=Rk b [.int .i64 0,.int .i64 0,.int .i64 0,.int .i64 0,.slice none 0 0,.slice none 0 0,.slice none 0 0,.slice none 0 0]) (fQ:=IsPg base (N+3+1+1+1+1) v8 w8) (N:=N+3+1+1+1+1) (en func123) (λw'=>qA 0 33) (λw'=>qA (fP:=IsV (.slice none 0 0)) 2 35) (λu' w' hE d=>by obtain rfl:u'=.slice none 0 0:=d;exact fpoints_n (H8.out.1.ext hE) zm (by have:=HL.out;have:=HW.out;have:=hE.size;omega)) (λw' x' w'' hE p hI=>⟨p.rk ho8,hI,(Pg.ext0 hE).trans p⟩) ?_;refine Kk (λw' _=>fa (fa_Ct5 b) (qB 3)) ?_;refine Kk (λw' hR=>lvC 7 (hR.2 B8) ld_aI3 (qA 4 37)) ?_;exact RgkAll.nil
 ·intro i hi hc x' w' w'' _ h;rcases i with _|_|_|_|_|_|i
  all_goals first|exact absurd dcx hc| (exfalso;omega)|exact h
 intro x X hR hZ;have hx3:=hZ 3 dcx (.inr dcx);simp only[lxE,Nat.reduceAdd];rw[show x 5=.slice none 0 0 from hZ 5 dcx (.inl dcx)];generalize x 3=v7 at hx3 ⊢;refine stC2 (base:=base) (N:=N+3+1+1+1+1+1) (u:=v7) (u':=.slice none 0 0) 6 39 (en func95) rfl rfl (numbers_f (N:=N+3+1+1+1+1) (l:= []) hx3.1 zm (by simp) (by have:=HL.out;have:=HW.out;have:=hR.1;omega) (λ_ h=>absurd h List.not_mem_nil) (λh=>absurd rfl h)) (λv9 w9 p9 hI9=>?_);have H9:=hid (jO hI9 (H8.out.2.trans (hx3.2.trans p9)));refine asA 7 4 (.tmp 39) v9 rfl ?_;refine jR za ?_ _;simp only[Act.put,uAx,u0x,u1x];clear hx3 p9 hI9 hZ hR B8 hw8 ho8;go_wp2_with fail
 go_ret
 exact⟨_,rfl,(Pg.ext0 HE.out).trans H9.out.2,H9.out.1⟩
end
section
open Go Go.RowKit Go.Maps Go.Shelf
theorem jj{P:Prop}(h:P:=by have:=HL.out;have:=E2.size;have:=S.out.2.gb.size;have:=HW.out;simp;omega):P:=h
attribute [local go_sem] Oper.semAt_some
set_option maxRecDepth 100000
set_option maxHeartbeats 8000000 in
theorem descent_n{w:World}{base N:Nat}{v:Value}(hI:IsIR base N v w)(hN:N<=1000)(hb:base<=w.heap.size):Calls Tryz.prog 101 #[v,.agg #[.bool false,.slice none 0 0,.bool false,.slice none 0 0,.slice none 0 0,.slice none 0 0,.slice none 0 0,.slice none 0 0]] w (RetI base (N+6) v w):=by
 obtain⟨W,hW,E,B⟩:∃W,W=w.alloc (.cells #[.bool false,.slice none 0 0,.bool false,.slice none 0 0,.slice none 0 0,.slice none 0 0,.slice none 0 0,.slice none 0 0] 90)/\Ext w W/\Bk W w.heap.size [.bool false,.slice none 0 0,.bool false,.slice none 0 0,.slice none 0 0,.slice none 0 0,.slice none 0 0,.slice none 0 0]:=zi;obtain⟨b,hbb⟩:∃b,w.heap.size=b:=⟨_,rfl⟩;have HO:=hid (show v.ownBlock≠some b from λe=>by have:=(hI.own_lt e).1;omega);have HI:=hid (hI.ext E);have HL:=hid (jO hN hb);have HE:=hid E;have HW:=hid E.size;rw[hbb]at B;have HB:=hid B;go_enter Tryz.func101,Tryz.ntmps101;go_upto_region 1 with fail;rw[<-hW];clear hW hI hN hb E;have c0:=B.c 0 _ rfl;have c1:=B.c 1 _ rfl;have c2:=B.c 2 _ rfl;have c3:=B.c 3 _ rfl;go_wp2_with (at_builtin;go_must (refine wpl_ir rfl _ _ rfl base N 2 v _ [.bool false,.slice none 0 0,.bool false,.slice none 0 0] rfl rfl (HI.out.ext ((Ext.refl _).alloc _)) (SrcR.new _ #[.bool false,.slice none 0 0,.bool false,.slice none 0 0] _ 2 2) (IntsAt.cons (IsI.nil _ _) (IntsAt.cons (IsI.nil _ _) (IntsAt.nil _))) zm (by have:=HL.out;have:=HW.out;simp;omega) ?_;intro v3 w3 hI3 p3;have HX:=hid (jO hI3 ((Pg.ext0 ((Ext.refl _).alloc _)).trans p3));clear hI3 p3 c0 c1 c2 c3 B))
 go_loopg [0,5] 2 (λgk v0 v5 wr=>∃k:Nat,v5=.int .i64 (k:Int)/\k+gk=2/\Hid (IsIR base (N+2+k) v0 wr/\Pg v W v0 wr))
 case atStart=>exact⟨0,rfl,rfl,HX⟩
 case round=>
  obtain⟨k,rfl,hk,S⟩:=hrel;have B3:=S.out.2.bk HB.out HO.out;obtain⟨rfl,rfl⟩| ⟨rfl,rfl⟩| ⟨rfl,rfl⟩:(k=0/\gk=2)\/(k=1/\gk=1)\/(k=2/\gk=0):=by omega
  ·have c4:=B3.c 4 _ rfl;clear B3 HX;go_wp2_with (first| (go_at_call 121;go_must (refine(jB _ 0 dcx dcx).mono ?_;rintro e w2 ⟨_,rfl,E2,s,a,n8,c,rfl,hx⟩))| (at_builtin;go_must (refine wpl_ir rfl _ _ rfl base (N+2+0) 1 _ _ [.bool s,.slice a n8 c] rfl rfl (S.out.1.ext (E2.trans ((Ext.refl _).alloc _))) (SrcR.new _ #[.bool s,.slice a n8 c] _ 1 1) (IntsAt.cons (i128 hx ((Ext.refl _).alloc _)) (IntsAt.nil _)) zm jj ?_;intro v6 w6 hI p;have H6:=hid (jO hI (S.out.2.trans ((Pg.ext0 (E2.trans ((Ext.refl _).alloc _))).trans p)));clear hI p hx E2;have B6:=H6.out.2.bk HB.out HO.out;have d4:=B6.c 4 _ rfl;clear B6 c4)))
   go_loopg [0,6] 0 (λgk v0 v5 wr=>v0=v6/\v5=.int .i64 0/\wr=w6)
   case atStart=>exact⟨rfl,rfl,rfl⟩
   case round=>
    obtain⟨rfl,rfl,rfl⟩:=hrel
    go_wp2
    go_roundg 1
    case measure=>omega
    case rel=>exact⟨1,rfl,rfl,H6⟩
  ·have c4:=B3.c 5 _ rfl;clear B3 HX;go_wp2_with (first| (go_at_call 121;go_must (refine(jB _ 0 dcx dcx).mono ?_;rintro e w2 ⟨_,rfl,E2,s,a,n8,c,rfl,hx⟩))| (at_builtin;go_must (refine wpl_ir rfl _ _ rfl base (N+2+1) 1 _ _ [.bool s,.slice a n8 c] rfl rfl (S.out.1.ext (E2.trans ((Ext.refl _).alloc _))) (SrcR.new _ #[.bool s,.slice a n8 c] _ 1 1) (IntsAt.cons (i128 hx ((Ext.refl _).alloc _)) (IntsAt.nil _)) zm jj ?_;intro v6 w6 hI p;have H6:=hid (jO hI (S.out.2.trans ((Pg.ext0 (E2.trans ((Ext.refl _).alloc _))).trans p)));clear hI p hx E2;have B6:=H6.out.2.bk HB.out HO.out;have d4:=B6.c 5 _ rfl;clear B6 c4)))
   go_loopg [0,6] 0 (λgk v0 v5 wr=>v0=v6/\v5=.int .i64 0/\wr=w6)
   case atStart=>exact⟨rfl,rfl,rfl⟩
   case round=>
    obtain⟨rfl,rfl,rfl⟩:=hrel
    go_wp2
    go_roundg 0
    case measure=>omega
    case rel=>exact⟨2,rfl,rfl,H6⟩
  ·clear B3 HX
   go_wp2
   go_loopg [0,8] 2 (λgk v0 v5 wr=>∃k:Nat,v5=.int .i64 (k:Int)/\k+gk=2/\Hid (IsIR base (N+2+2+k) v0 wr/\Pg v W v0 wr))
   case atStart=>exact⟨0,rfl,rfl,S⟩
   case round=>
    obtain⟨k,rfl,hk,S⟩:=hrel;have B3:=S.out.2.bk HB.out HO.out;obtain⟨rfl,rfl⟩| ⟨rfl,rfl⟩| ⟨rfl,rfl⟩:(k=0/\gk=2)\/(k=1/\gk=1)\/(k=2/\gk=0):=by omega
    ·have c4:=B3.c 6 _ rfl;clear B3;go_wp2_with (first| (go_at_call 121;go_must (refine(jB _ 0 dcx dcx).mono ?_;rintro e w2 ⟨_,rfl,E2,s,a,n8,c,rfl,hx⟩))| (at_builtin;go_must (refine wpl_ir rfl _ _ rfl base (N+2+2+0) 1 _ _ [.bool s,.slice a n8 c] rfl rfl (S.out.1.ext (E2.trans ((Ext.refl _).alloc _))) (SrcR.new _ #[.bool s,.slice a n8 c] _ 1 1) (IntsAt.cons (i128 hx ((Ext.refl _).alloc _)) (IntsAt.nil _)) zm jj ?_;intro v6 w6 hI p;have H6:=hid (jO hI (S.out.2.trans ((Pg.ext0 (E2.trans ((Ext.refl _).alloc _))).trans p)));clear hI p hx E2;have B6:=H6.out.2.bk HB.out HO.out;have d4:=B6.c 6 _ rfl;clear B6 c4)))
     go_loopg [0,9] 0 (λgk v0 v5 wr=>v0=v6/\v5=.int .i64 0/\wr=w6)
     case atStart=>exact⟨rfl,rfl,rfl⟩
     case round=>
      obtain⟨rfl,rfl,rfl⟩:=hrel
      go_wp2
      go_roundg 1
      case measure=>omega
      case rel=>exact⟨1,rfl,rfl,H6⟩
    ·have c4:=B3.c 7 _ rfl;clear B3;go_wp2_with (first| (go_at_call 121;go_must (refine(jB _ 0 dcx dcx).mono ?_;rintro e w2 ⟨_,rfl,E2,s,a,n8,c,rfl,hx⟩))| (at_builtin;go_must (refine wpl_ir rfl _ _ rfl base (N+2+2+1) 1 _ _ [.bool s,.slice a n8 c] rfl rfl (S.out.1.ext (E2.trans ((Ext.refl _).alloc _))) (SrcR.new _ #[.bool s,.slice a n8 c] _ 1 1) (IntsAt.cons (i128 hx ((Ext.refl _).alloc _)) (IntsAt.nil _)) zm jj ?_;intro v6 w6 hI p;have H6:=hid (jO hI (S.out.2.trans ((Pg.ext0 (E2.trans ((Ext.refl _).alloc _))).trans p)));clear hI p hx E2;have B6:=H6.out.2.bk HB.out HO.out;have d4:=B6.c 7 _ rfl;clear B6 c4)))
     go_loopg [0,9] 0 (λgk v0 v5 wr=>v0=v6/\v5=.int .i64 0/\wr=w6)
     case atStart=>exact⟨rfl,rfl,rfl⟩
     case round=>
      obtain⟨rfl,rfl,rfl⟩:=hrel
      go_wp2
      go_roundg 0
      case measure=>omega
      case rel=>exact⟨2,rfl,rfl,H6⟩
    ·clear B3
     go_wp2
     go_ret
     exact⟨_,rfl,(Pg.ext0 HE.out).trans S.out.2,S.out.1⟩
end
section
open Go Go.RowKit Go.Maps Go.Shelf
def jI(nm:ByteArray)(va:Option Addr)(vn vc:Nat)(ha:Option Addr)(hn hc:Nat):List Value:= [.string nm,.slice va vn vc,.slice none 0 0,.bool false,.slice none 0 0,.slice none 0 0,.slice none 0 0,.int .i64 0,.bool false,.slice none 0 0,.slice none 0 0,.slice none 0 0,.int .i64 0,.int .i64 0,.int .i64 0,.int .i64 0,.slice none 0 0,.slice none 0 0,.slice none 0 0,.slice none 0 0,.bool false,.slice none 0 0,.bool false,.slice none 0 0,.slice none 0 0,.slice none 0 0,.slice none 0 0,.slice none 0 0,.slice none 0 0,.slice none 0 0,.slice ha hn hc]
theorem entV_nw(nm:ByteArray)(va:Option Addr)(vn vc:Nat)(ha:Option Addr)(hn hc:Nat):(jI nm va vn vc ha hn hc).all (λu=>u.oneCell')=true/\∀u∈jI nm va vn vc ha hn hc,NoWord u:=by
 refine⟨rfl,λu hu=>?_⟩;simp only[jI,List.mem_cons,List.not_mem_nil,or_false]at hu;rcases hu with rfl|rfl|rfl|rfl|rfl|rfl|rfl|rfl|rfl|rfl|rfl|rfl|rfl|rfl|rfl|rfl|rfl|rfl|rfl|rfl|rfl|rfl|rfl|rfl|rfl|rfl|rfl|rfl|rfl|rfl|rfl
 all_goals first|exact NoWord.bool _|exact NoWord.slice _ _ _|exact NoWord.int64 _|exact NoWord.string _
structure EntW (nm:ByteArray) (d:EnD) (es:List Value) (w:World):Prop where
 vl:d.vals.length<=3/\d.vals≠ []
 hl:d.hyps.length<=1
 hb:∀z∈d.hyps,1<=z/\z<=3
 at_:∃va vc ha hc,es=jI nm va d.vals.length vc ha d.hyps.length hc/\
  (d.vals≠ []->∃g,va=some ⟨g,0,none⟩/\∀(j:Nat) (z:Int),d.vals[j]? =some z->∃s a n c',World.cell? w ⟨g,2*j,none⟩=some (.bool s)/\World.cell? w ⟨g,2*j+1,none⟩=some (.slice a n c')/\IsI 128 z (.agg #[.bool s,.slice a n c']) w)/\
  (d.hyps≠ []->∃g o,ha=some ⟨g,o,none⟩/\∀j x,d.hyps[j]? =some x->World.cell? w ⟨g,o+j,none⟩=some (.int .i64 x))
theorem EntW.ext{nm:ByteArray}{d:EnD}{es:List Value}{w w':World}(h:EntW nm d es w)(e:Ext w w'):EntW nm d es w':=by
 obtain⟨h1,h2,h3,va,vc,ha,hc,k1,k2,k3⟩:=h;refine⟨h1,h2,h3,va,vc,ha,hc,k1,λhn=>?_,λhn=>?_⟩
 ·obtain⟨g,q1,q2⟩:=k2 hn;exact⟨g,q1,λj z hj=>let ⟨s,a,n,c',r1,r2,r3⟩:=q2 j z hj;⟨s,a,n,c',e.cell r1,e.cell r2,r3.ext e⟩⟩
 ·obtain⟨g,o,q1,q2⟩:=k3 hn;exact⟨g,o,q1,λj x hj=>e.cell (q2 j x hj)⟩
theorem EntW.len{nm:ByteArray}{d:EnD}{es:List Value}{w:World}(h:EntW nm d es w):es.length=31:=by obtain⟨-,-,-,va,vc,ha,hc,rfl,-⟩:=h;rfl
theorem nel{α:Type}{l:List α}(h:l≠ []):∃x,l[0]? =some x:=by cases l with|nil=>exact absurd rfl h|cons x t=>exact⟨x,rfl⟩
theorem EntW.hyr{nm:ByteArray}{d:EnD}{es:List Value}{w:World}(h:EntW nm d es w):∃u,es[30]? =some u/\IrR d.hyps u w/\∀h,w.heap.size<=h->HyR h d.hyps u w:=by
 obtain⟨-,-,-,va,vc,ha,hc,rfl,-,k3⟩:=h;refine⟨_,rfl,⟨ha,hc,rfl,k3⟩,λh hh=>⟨ha,hc,rfl,λhn=>?_⟩⟩;obtain⟨g,o,q1,q2⟩:=k3 hn;obtain⟨x,hx⟩:=nel hn;exact⟨g,o,q1,.inl (Nat.lt_of_lt_of_le (World.block_lt_of_cell? _ _ (q2 0 x hx)) hh),q2⟩
theorem EntW.at{nm:ByteArray}{d:EnD}{es:List Value}{w:World}(h:EntW nm d es w):EntAt w.heap.size d es w:=by
 obtain⟨u,hu1,-,hu3⟩:=h.hyr;obtain⟨-,-,-,va,vc,ha,hc,rfl,k2,-⟩:=h;refine⟨⟨va,vc,rfl,λhn=>?_⟩,u,hu1,hu3⟩;obtain⟨g,q1,q2⟩:=k2 hn;obtain⟨x,hx⟩:=nel hn;obtain⟨s,a,n,c',r1,-,-⟩:=q2 0 x hx;exact⟨g,q1,World.block_lt_of_cell? _ _ r1,q2⟩
def cellsOf(w:World)(g n:Nat):List Value:=(List.range n).map λq=>(World.cell? w ⟨g,q,none⟩).getD undef
theorem cellsOf_at{w:World}{g n q:Nat}{u:Value}(h:World.cell? w ⟨g,q,none⟩=some u)(hq:q<n):(cellsOf w g n)[q]? =some u:=by
 rw[cellsOf,List.getElem?_map,List.getElem?_range hq];simp[h]
theorem EntW.src{nm:ByteArray}{d:EnD}{es:List Value}{w:World}{H:Nat}(h:EntW nm d es w)(hH:w.heap.size<=H):∃va vc ha hc news,es=jI nm va d.vals.length vc ha d.hyps.length hc/\
  (∃g,va=some ⟨g,0,none⟩/\g<H/\∀j u,news[j]? =some u->World.cell? w ⟨g,0+j,none⟩=some u)/\IntsAt news d.vals.length w/\(d.hyps≠ []->∃g o,ha=some ⟨g,o,none⟩/\g<H/\∀j x,d.hyps[j]? =some x->World.cell? w ⟨g,o+j,none⟩=some (.int .i64 x)):=by
 obtain⟨⟨h0,h1⟩,-,-,va,vc,ha,hc,k1,k2,k3⟩:=h;obtain⟨g,rfl,k4⟩:=k2 h1;have hz:∀j,j<d.vals.length->∃z,d.vals[j]? =some z:=λj hj=>⟨_,List.getElem?_eq_getElem hj⟩
 refine⟨_,vc,ha,hc,cellsOf w g (d.vals.length*2),k1,⟨g,rfl,?_,λq u hu=>?_⟩,⟨by simp[cellsOf],λj hj=>?_⟩,λhn=>?_⟩
 ·obtain⟨z,hz0⟩:=nel h1;obtain⟨s,a,n,c',r1,-,-⟩:=k4 0 z hz0;exact Nat.lt_of_lt_of_le (World.block_lt_of_cell? _ _ r1) hH
 ·have hq:q<d.vals.length*2:=by have:=(List.getElem?_eq_some_iff.1 hu).1;simpa [cellsOf]using this
  obtain⟨z,hz0⟩:=hz (q/2) (by omega);obtain⟨s,a,n,c',r1,r2,-⟩:=k4 _ z hz0;rw[Nat.zero_add];rcases Nat.mod_two_eq_zero_or_one q with e|e
  ·rw[show 2*(q/2)=q by omega]at r1;rw[cellsOf_at r1 hq]at hu;rw[r1];exact hu
  ·rw[show 2*(q/2)+1=q by omega]at r2;rw[cellsOf_at r2 hq]at hu;rw[r2];exact hu
 ·obtain⟨z,hz0⟩:=hz j hj;obtain⟨s,a,n,c',r1,r2,r3⟩:=k4 j z hz0;exact⟨s,a,n,c',z,cellsOf_at r1 (by omega),cellsOf_at r2 (by omega),r3⟩
 ·obtain⟨g',o,q1,q2⟩:=k3 hn;obtain⟨x,hx⟩:=nel hn;exact⟨g',o,q1,Nat.lt_of_lt_of_le (World.block_lt_of_cell? _ _ (q2 0 x hx)) hH,q2⟩
def HeldW(p:Int×Int×Int)(vs:List Value)(w:World):Prop:=∃nm d es g o c,vs=es++ [.slice (some ⟨g,o,none⟩) 1 c]/\EntW nm d es w/\World.cell? w ⟨g,o,none⟩=some (.int .i64 p.1)/\World.cell? w ⟨g,o+1,none⟩=some (.int .i64 p.2.1)/\World.cell? w ⟨g,o+2,none⟩=some (.int .i64 p.2.2)
theorem HeldW.ext{p:Int×Int×Int}{vs:List Value}{w w':World}(h:HeldW p vs w)(e:Ext w w'):HeldW p vs w':=let ⟨nm,d,es,g,o,c,h1,h2,h3,h4,h5⟩:=h;⟨nm,d,es,g,o,c,h1,h2.ext e,e.cell h3,e.cell h4,e.cell h5⟩
theorem HeldW.ok{p:Int×Int×Int}{vs:List Value}{w:World}(h:HeldW p vs w):HdOk vs/\vs[0]? =some (.string (xH vs)):=by
 obtain⟨nm,d,es,g,o,c,rfl,⟨-,-,-,va,vc,ha,hc,rfl,-⟩,-⟩:=h;have:=entV_nw nm va d.vals.length vc ha d.hyps.length hc;refine⟨⟨rfl,?_,λu hu=>?_⟩,rfl⟩
 ·rw[List.all_append,this.1];rfl
 ·rcases List.mem_append.1 hu with h|h
  ·exact this.2 u h
  ·rw[List.mem_singleton]at h;rw[h];exact NoWord.slice _ _ _
open Classical in
noncomputable def datW (w:World) (vs:List Value):EnD:=if h:∃d,∃nm,EntW nm d (vs.take 31) w then h.choose else⟨[], []⟩
theorem datW_at{p:Int×Int×Int}{vs:List Value}{w:World}(h:HeldW p vs w):∃nm,EntW nm (datW w vs) (vs.take 31) w:=by
 have hx:∃d,∃nm,EntW nm d (vs.take 31) w:=by
  obtain⟨nm,d,es,g,o,c,rfl,h1,-⟩:=h;exact⟨d,nm,by rw[show(es++ [Value.slice (some ⟨g,o,none⟩) 1 c]).take 31=es by rw[<-h1.len];simp];exact h1⟩
 unfold datW;rw[dif_pos hx];exact hx.choose_spec
theorem shpM_of{cs:List qJ}{L:List (List Value)}{gs:List Int}{c v s g:Value}{w:World}(hT:TabM w)(hc:CsR w.heap.size cs c w)(hv:VsR w.heap.size cs v w)(hs:HdS L s w)(hL:∀vs∈L,∃p,HeldW p vs w)(hg:IrR gs g w):ShpM cs L (datW w) gs c v s g w:=by
 refine⟨hT,hc,hv,hs,hg,λvs h=>?_,λvs h=>?_⟩
 ·obtain⟨p,hp⟩:=hL vs h;obtain⟨nm,hn⟩:=datW_at hp;exact hn.at
 ·obtain⟨p,hp⟩:=hL vs h;obtain⟨nm,hn⟩:=datW_at hp;obtain⟨u,h1,h2,-⟩:=hn.hyr;refine⟨u,?_,h2⟩;rw[List.getElem?_take]at h1
  simpa using h1
theorem shpOk_of{cs:List qJ}{L:List (List Value)}{gs:List Int}{w:World}(h1:cs.length<=4)(h2:cellOk [3] cs)(h3:∀d∈cs,d.hyps.length<=1)(hl:L.length<=1000)(hL:∀vs∈L,∃p,HeldW p vs w)(hg:gs.length<=1000):ShpMOk [1,2,3] cs L (datW w) gs:=by
 refine⟨by omega,λc hc=>⟨by have:=h3 c hc;omega,?_⟩,by omega,λvs h=>?_,λvs h=>?_,by omega,λvs h=>?_⟩
 ·intro y hy;have:=(h2 c hc).2.2 y hy;obtain rfl:y=3:=by simpa using this
  exact⟨by decide,by decide⟩
 ·obtain⟨p,hp⟩:=hL vs h;exact hp.ok.1
 ·obtain⟨p,hp⟩:=hL vs h;exact hp.ok.2
 ·obtain⟨p,hp⟩:=hL vs h;obtain⟨nm,hn⟩:=datW_at hp;refine⟨by have:=hn.vl.1;omega,by have:=hn.hl;omega,λz hz=>?_⟩;have:=hn.hb z hz;obtain rfl|rfl|rfl:z=1\/z=2\/z=3:=by omega
  all_goals exact⟨by decide,by decide⟩
end
section
open Go Go.RowKit Go.Maps Go.Shelf
open Go.Proofs.Tryz
theorem jo{P:Prop}(h:P:=by have:=HV.out;omega):P:=h
theorem za3{P:Prop}(h:P:=by rw[HBS.out];exact jP _):P:=h
theorem za9{P:Prop}(h:P:=by have:=hx3.2.gb.size;omega):P:=h
attribute [local go_sem] Oper.semAt_some
set_option maxRecDepth 100000
def zCert:List Value:= [.slice none 0 0,.bool false,.slice none 0 0,.slice none 0 0,.slice none 0 0,.int .i64 0,.bool false,.slice none 0 0,.slice none 0 0,.slice none 0 0,.int .i64 0,.int .i64 0,.int .i64 0,.int .i64 0,.slice none 0 0,.slice none 0 0,.slice none 0 0,.slice none 0 0,.bool false,.slice none 0 0,.bool false,.slice none 0 0,.slice none 0 0,.slice none 0 0,.slice none 0 0,.slice none 0 0,.slice none 0 0,.slice none 0 0]
theorem nwCert:∀u∈zCert,NoWord u:=λu hu=>by
 have:u∈jI ⟨#[]⟩ none 0 0 none 0 0:=by
  unfold jI;exact List.mem_cons_of_mem _ (List.mem_cons_of_mem _ (List.mem_append_left [Value.slice none 0 0] hu))
 exact(entV_nw _ _ _ _ _ _ _).2 u this
theorem Bk.sub{w:World}{g f n:Nat}{vs us:List Value}(B:Bk w g vs)(h:(vs.drop f).take n=us):∀q u,us[q]? =some u->World.cell? w ⟨g,f+q,none⟩=some u:=λq u hq=>by
 rw[<-h,List.getElem?_take]at hq
 split at hq
 ·rw[List.getElem?_drop]at hq;exact B.c _ _ hq
 ·cases hq
theorem Bk.below{w w':World}{g base:Nat}{vs:List Value}(B:Bk w g vs)(h:Below base w w')(hg:g<base):Bk w' g vs:=⟨λj u hj=>(h.cell (p:=⟨g,j,none⟩) hg).trans (B.c j u hj),λj=>(h.frozen (p:=⟨g,j,none⟩) hg).trans (B.f j),Nat.lt_of_lt_of_le B.lt h.size⟩
theorem al_Cert(w:World):(Instr.alloc 93 true (.tuple #[])).run prog w=.ok (.pointer (some ⟨w.heap.size,0,none⟩)) (w.alloc (.cells zCert.toArray 93)):=by unfold zCert;go_simp
theorem st_Cert:StV prog 93 28:=stM za
theorem fa_Eq1(g:Nat)(w:World):(Instr.fieldAt 95 (.pointer (some ⟨g,0,none⟩)) 1).run prog w=.ok (.pointer (some ⟨g,1,none⟩)) w:=by go_simp
theorem fa_Eq2(g:Nat)(w:World):(Instr.fieldAt 95 (.pointer (some ⟨g,0,none⟩)) 2).run prog w=.ok (.pointer (some ⟨g,2,none⟩)) w:=by go_simp
theorem fa_Eq3(g:Nat)(w:World):(Instr.fieldAt 95 (.pointer (some ⟨g,0,none⟩)) 3).run prog w=.ok (.pointer (some ⟨g,30,none⟩)) w:=by go_simp
theorem fa_Cq0(g:Nat)(w:World):(Instr.fieldAt 93 (.pointer (some ⟨g,0,none⟩)) 0).run prog w=.ok (.pointer (some ⟨g,0,none⟩)) w:=by go_simp
theorem fa_Cq1(g:Nat)(w:World):(Instr.fieldAt 93 (.pointer (some ⟨g,0,none⟩)) 1).run prog w=.ok (.pointer (some ⟨g,1,none⟩)) w:=by go_simp
theorem fa_Cq2(g:Nat)(w:World):(Instr.fieldAt 93 (.pointer (some ⟨g,0,none⟩)) 2).run prog w=.ok (.pointer (some ⟨g,6,none⟩)) w:=by go_simp
theorem fa_Cq3(g:Nat)(w:World):(Instr.fieldAt 93 (.pointer (some ⟨g,0,none⟩)) 3).run prog w=.ok (.pointer (some ⟨g,9,none⟩)) w:=by go_simp
theorem fa_Cq4(g:Nat)(w:World):(Instr.fieldAt 93 (.pointer (some ⟨g,0,none⟩)) 4).run prog w=.ok (.pointer (some ⟨g,10,none⟩)) w:=by go_simp
theorem fa_Cq5(g:Nat)(w:World):(Instr.fieldAt 93 (.pointer (some ⟨g,0,none⟩)) 5).run prog w=.ok (.pointer (some ⟨g,18,none⟩)) w:=by go_simp
theorem fa_Cq6(g:Nat)(w:World):(Instr.fieldAt 93 (.pointer (some ⟨g,0,none⟩)) 6).run prog w=.ok (.pointer (some ⟨g,26,none⟩)) w:=by go_simp
theorem fa_Cq7(g:Nat)(w:World):(Instr.fieldAt 93 (.pointer (some ⟨g,0,none⟩)) 7).run prog w=.ok (.pointer (some ⟨g,27,none⟩)) w:=by go_simp
theorem ld_aN:LdC1 prog 69:=λw a v h=>by go_simp
theorem ld_aSt:LdC1 prog 70:=λw a v h=>by go_simp
theorem ld_aQu:LdC1 prog 79:=λw a v h=>by go_simp
theorem ld_aQp:LdC1 prog 91:=λw a v h=>by go_simp
theorem ld_cG{w:World}{g:Nat}(B:Bk w g zCert):(Instr.loadAt 75 (.pointer (some ⟨g,1,none⟩))).run prog w=.ok (.agg #[.bool false,.slice none 0 0,.slice none 0 0,.slice none 0 0,.int .i64 0]) w:=ldM (vs:= [.bool false,.slice none 0 0,.slice none 0 0,.slice none 0 0,.int .i64 0]) za za rfl (Bk.sub B (n:=5) rfl)
theorem ld_cU{w:World}{g:Nat}(B:Bk w g zCert):(Instr.loadAt 78 (.pointer (some ⟨g,6,none⟩))).run prog w=.ok (.agg #[.bool false,.slice none 0 0,.slice none 0 0]) w:=ldM (vs:= [.bool false,.slice none 0 0,.slice none 0 0]) za za rfl (Bk.sub B (n:=3) rfl)
theorem ld_cC{w:World}{g:Nat}(B:Bk w g zCert):(Instr.loadAt 84 (.pointer (some ⟨g,10,none⟩))).run prog w=.ok (.agg #[.int .i64 0,.int .i64 0,.int .i64 0,.int .i64 0,.slice none 0 0,.slice none 0 0,.slice none 0 0,.slice none 0 0]) w:=ldM (vs:= [.int .i64 0,.int .i64 0,.int .i64 0,.int .i64 0,.slice none 0 0,.slice none 0 0,.slice none 0 0,.slice none 0 0]) za za rfl (Bk.sub B (n:=8) rfl)
theorem ld_cD{w:World}{g:Nat}(B:Bk w g zCert):(Instr.loadAt 90 (.pointer (some ⟨g,18,none⟩))).run prog w=.ok (.agg #[.bool false,.slice none 0 0,.bool false,.slice none 0 0,.slice none 0 0,.slice none 0 0,.slice none 0 0,.slice none 0 0]) w:=ldM (vs:= [.bool false,.slice none 0 0,.bool false,.slice none 0 0,.slice none 0 0,.slice none 0 0,.slice none 0 0,.slice none 0 0]) za za rfl (Bk.sub B (n:=8) rfl)
def Rb(base:Nat)(w w':World):Prop:=base<=w.heap.size->Below base w w'/\Gr w w'
theorem Rb.rel(base:Nat):Rel (Rb base):=⟨λh k hb=>let ⟨h1,h2⟩:=h hb;let ⟨k1,k2⟩:=k (jQ hb h1.size);⟨Below.trans h1 k1,h2.trans k2⟩,λe hb=>⟨e.mono hb,e.gr⟩⟩
theorem Pg.rb{base N:Nat}{v v':Value}{w w':World}(h:Pg v w v' w')(hI:IsIR base N v w):Rb base w w':=λhb=>⟨h.below hI hb,h.gr⟩
section
variable {ops:Array Oper} {Q:Exit->Act->World->Prop} {ds:List (Option Tmp)} {a0:Act} {w0:World} {L:List (Value->World->Prop)} {ch:List Nat} {i k:Nat} {o:Oper} {os:List Oper}
theorem KCn{R:World->World->Prop}{base N:Nat}{f:FuncId}{c:Call}{x y:Operand}{fP fS fQ:Value->World->Prop}(he:∀args w,(callFunc f args).run prog w=.ok (.enter f args) w)(hx:∀w,Od ops ds a0 w L i x fP)(hy:∀w,Od ops ds a0 w L i y fS)
  (h:∀u u' w,R w0 w->fP u w->fS u' w->Calls prog f #[u,u'] w (RetI base N u w)) (hR:∀u w x w',R w0 w->fP u w->Pg u w x w'->IsIR base N x w'->R w w'/\fQ x w') (hs:RgkAll prog ops Q ds a0 w0 R L ch (i+1) k os)
  (ho:o.op=.call c:=by rfl) (hc:c.callee=.value (.func f):=by rfl) (ha:c.args= #[x,y]:=by rfl) (hi:L.getD i (λ_ _=>True)=fQ:=by kernel_rfl) (hg:o.guard=none:=by rfl) (hcn:decide (i∈ch)=true:=by kernel_rfl):RgkAll prog ops Q ds a0 w0 R L ch i (k+1) (o ::os):=
 KC (λw hRw hX vv a hd hf' K hK=>by
  have e0:=(hx w).out vv a w (Ext.refl w) hd hf'
  exact xB (R:=RetI base N (a.eval x) w) (xs:= [x,y]) (us:= [a.eval x,a.eval y]) he rfl (h _ _ w hRw e0 ((hy w).out vv a w (Ext.refl w) hd hf'))
   (fun r w' hr=>by
    obtain⟨r',q1,q2,q3⟩:=hr;cases q1;obtain⟨z1,z2⟩:=hR _ w _ w' hRw e0 q2 q3
    exact hK _ _ z1 (by rw[hi];exact z2)) (λch w' hr=>by obtain⟨_,h,_⟩:=hr;cases h) (λw' hr=>by obtain⟨_,h,_⟩:=hr;cases h) ho hc ha) hs hg hcn
theorem KCb{base:Nat}(hb:w0.heap.size=base)(hs:RgkAll prog ops Q ds a0 w0 (Rb base) L ch (i+1) k os)(ho:o.op=.buildSlice 69 0 #[]:=by rfl)(hi:L.getD i (λ_ _=>True)=IsIR base 0:=by kernel_rfl)(hg:o.guard=none:=by rfl)(hcn:decide (i∈ch)=true:=by kernel_rfl)(hf:decide (∀k∈ch,i<=k)=true:=by kernel_rfl):RgkAll prog ops Q ds a0 w0 (Rb base) L ch i (k+1) (o ::os):=
 KC (λw hRw hX vv a hd hf' K hK=>by
  have hE:=hX (of_decide_eq_true hf);have hr:(Instr.buildSlice 69 0 #[]).run prog w=.ok (.slice (some ⟨w.heap.size,0,none⟩) 0 0) (w.alloc (.cells #[] 28)):=ja
  have hrun:=jH (P:=prog) (a:=a) ho (by simpa using hr);unfold Oper.wp;rw[hrun];refine hK _ _ ((Rb.rel base).ext ((Ext.refl w).alloc _)) ?_;rw[hi]
  exact⟨0, [],jP _,rwgZ _ _ _ w (by rw[<-hb];exact hE.size),nwbZ _ w,IntsAt.nil _⟩) hs hg hcn
end
def IsZs:Value->World->Prop:=λv w=>∃n ao c,v=.slice ao n c/\n<=100/\(n≠0->∃g,ao=some ⟨g,0,none⟩/\∀j,j<n->∃s a m c' z,World.cell? w ⟨g,2*j,none⟩=some (.bool s)/\World.cell? w ⟨g,2*j+1,none⟩=some (.slice a m c')/\IsI 128 z (.agg #[.bool s,.slice a m c']) w)
theorem IsZs.stb:Stb IsZs:=λ_ _ _ e ⟨n,ao,c,h1,h2,h3⟩=>⟨n,ao,c,h1,h2,λhn=>let ⟨g,k1,k2⟩:=h3 hn;⟨g,k1,λj hj=>let ⟨s,a,m,c',z,q1,q2,q3⟩:=k2 j hj;⟨s,a,m,c',z,e.cell q1,e.cell q2,q3.ext e⟩⟩⟩
instance:StbC IsZs:=⟨IsZs.stb⟩
theorem IsIR.zs{base:Nat}{v:Value}{w:World}(h:IsIR base 100 v w):IsZs v w:=by
 obtain⟨n,xs,h1,h2,-,h4⟩:=h;obtain⟨ao,cap,rfl,-,-,-,h5⟩:=h2.shape;refine⟨n,ao,cap,rfl,h1,λhn=>?_⟩;obtain⟨g,k1,-,-,k2⟩:=h5 hn;exact⟨g,k1,λj hj=>let ⟨s,a,m,c',z,q1,q2,q3⟩:=h4.2 j hj;⟨s,a,m,c',z,k2 _ _ q1,k2 _ _ q2,q3⟩⟩
set_option maxHeartbeats 16000000 in
theorem words_f{w:World}{nm:ByteArray}{d:EnD}{es:List Value}(h:EntW nm d es w):Calls prog 77 #[.agg es.toArray] w (Ret w IsZs):=by
 obtain⟨va,vc,ha,hc,news,hes,⟨gv,hva,hgv,hcv⟩,hk,hh⟩:=h.src (jP _);have hb:=h.hb;have hvl:=h.vl.1;have hhl:=h.hl;subst hva;obtain⟨n,hn⟩:∃n,d.vals.length=n:=⟨_,rfl⟩;obtain⟨m,hm⟩:∃m,d.hyps.length=m:=⟨_,rfl⟩;rw[hn]at hk hvl;have HH:=hid (jO hh (jO hb (jO hm hhl)));have HV:=hid (jO hvl (show m<=1 by omega));have HKS:=hid (jO hgv (jO hcv hk));rw[hn,hm]at hes;subst hes;unfold jI;obtain⟨W,hW,E,B⟩:∃W,W=w.alloc (.cells #[.string nm,.slice (some ⟨gv,0,none⟩) n vc,.slice none 0 0,.bool false,.slice none 0 0,.slice none 0 0,.slice none 0 0,.int .i64 0,.bool false,.slice none 0 0,.slice none 0 0,.slice none 0 0,.int .i64 0,.int .i64 0,.int .i64 0,.int .i64 0,.slice none 0 0,.slice none 0 0,.slice none 0 0,.slice none 0 0,.bool false,.slice none 0 0,.bool false,.slice none 0 0,.slice none 0 0,.slice none 0 0,.slice none 0 0,.slice none 0 0,.slice none 0 0,.slice none 0 0,.slice ha m hc] 95)/\Ext w W/\Bk W w.heap.size [.string nm,.slice (some ⟨gv,0,none⟩) n vc,.slice none 0 0,.bool false,.slice none 0 0,.slice none 0 0,.slice none 0 0,.int .i64 0,.bool false,.slice none 0 0,.slice none 0 0,.slice none 0 0,.int .i64 0,.int .i64 0,.int .i64 0,.int .i64 0,.slice none 0 0,.slice none 0 0,.slice none 0 0,.slice none 0 0,.bool false,.slice none 0 0,.bool false,.slice none 0 0,.slice none 0 0,.slice none 0 0,.slice none 0 0,.slice none 0 0,.slice none 0 0,.slice none 0 0,.slice ha m hc]:=zi;obtain⟨b,hbb⟩:∃b,w.heap.size=b:=⟨_,rfl⟩;rw[hbb]at B;have HE:=hid E;have HBB:=hid hbb;clear hk hvl hh hb hm hhl hgv hcv h hn;go_enter func77,ntmps77;go_upto_region 1 with fail;rw[<-hW];clear hW E;refine rgs 3 [some 5,some 6,some 3] [IsP b 2,IsV (.agg zCert.toArray),IsNb W.heap.size zCert] [] ?_ ?_
 ·refine Rc (fa (fa_Eq2 b) (qB 1)) ?_;refine Rc (lv (fP:=IsV (.agg zCert.toArray)) _ (λw2 e=>ldM (vs:=zCert) za za rfl (Bk.sub (B.ext e) (f:=2) (n:=28) rfl)) (qA 0 5) (λ_ _=>rfl)) ?_;refine Rc (alB al_Cert (jP _)) ?_;exact rn0
 intro x X1 e1 hZ _;obtain⟨c,hv2,hgc,Bc⟩:=hZ 2 dcx;simp only[lxE,Nat.reduceAdd];rw[hv2,show x 1=.agg zCert.toArray from hZ 1 dcx];clear hZ hv2;refine stL (λK hK'=>?_);refine qZ (us:=zCert) Bc st_Cert rfl rfl nwCert (λX2 Bc2 O=>hK' _ _ ?_);have e2:=O.ext e1 hgc;refine jL ?_;replace B:=B.ext e2;obtain⟨base,hbase⟩:∃base,X2.heap.size=base:=⟨_,rfl⟩;have HC:=hid Bc2;have HB:=hid B;have HCL:=hid (show c<base by rw[<-hbase];exact Bc2.lt);have HBL:=hid (show b<base by rw[<-hbase];exact B.lt);have HX2:=hid (HE.out.trans e2);have HBS:=hid hbase;clear hK' K O Bc2 Bc B e1 e2 hgc;go_upto_region 2 with fail;refine rgk 6 [0,3] (Rb base) (dR 7 6) [IsIR base 0,IsP b 1,IsV (.slice (some ⟨gv,0,none⟩) n vc),IsIR base (0+1+n),IsP b 30,IsV (.slice ha m hc)] 2 (Rb.rel base) ?_ ?_ ?_
 ·refine KCb HBS.out ?_;refine Kk (λw' _=>fa (fa_Eq1 b) (qB 1)) ?_;refine Kk (λw' hR=>lvC 1 (Bk.below HB.out (hR za3).1 HBL.out) ld_aN (qA 1 8)) ?_
  refine KCn (R:=Rb base) (fQ:=IsIR base (0+1+n)) (N:=0+1+n) (en func96) (λw'=>qA (fP:=IsIR base 0) 0 7) (λw'=>qA (fP:=IsV (.slice (some ⟨gv,0,none⟩) n vc)) 2 9) (λu u' w' hR hI d=>by
    obtain rfl:u'=_:=d;have h1:=hR za3;have hEx:=HX2.out;have hE2:Ext w w':=Below.trans hEx (h1.1.mono (by have:=hEx.size;have:=HBS.out;omega));refine ints_f (N:=0) hI (by omega) jo (by have:=h1.1.size;have:=HBS.out;omega) (.inr ⟨gv,0,vc,rfl,?_,λj u hj=>hE2.cell (HKS.out.2.1 j u hj)⟩) (HKS.out.2.2.gr hE2.gr)
    have:=HKS.out.1;have:=hEx.size;have:=HBS.out;omega) (λu w' x' w'' hR hI p hI2=>⟨p.rb hI,hI2⟩) ?_
  refine Kk (λw' _=>fa (fa_Eq3 b) (qB 1)) ?_;refine Kk (λw' hR=>lvC 30 (Bk.below HB.out (hR za3).1 HBL.out) ld_aI3 (qA 4 11)) ?_;exact RgkAll.nil
 ·intro i hi hc x' w' w'' _ h;rcases i with _|_|_|_|_|_|i
  all_goals first|exact absurd dcx hc| (exfalso;omega)|exact h
 intro x X hR hZ;have hx3:IsIR base (0+1+n) (x 3) X:=hZ 3 dcx (.inr dcx);simp only[lxE,Nat.reduceAdd];rw[show x 5=.slice ha m hc from hZ 5 dcx (.inl dcx)];generalize x 3=u2 at hx3 ⊢;have h1:=hR za3;have hzX:base<=X.heap.size:=by have:=h1.1.size;have:=HBS.out;omega
 have hEx:=HX2.out;have hE2:Ext w X:=Below.trans hEx (h1.1.mono (by have:=hEx.size;have:=HBS.out;omega))
 have hnum:Calls prog 95 #[u2,.slice ha m hc] X (RetI base (0+1+n+1+m) u2 X):=by
  have hq:=numbers_f (w:=X) (base:=base) (N:=0+1+n) (v:=u2) (l:=d.hyps) (la:=ha) (lc:=hc) hx3 jo (by have:=HH.out.2.2.2;omega) hzX (λz hz=>by have:=HH.out.2.1 z hz;omega) (λhne=>by
   obtain⟨g,o,q1,q2,q3⟩:=HH.out.1 hne
   exact⟨g,o,q1,by have:=hEx.size;have:=HBS.out;omega,λj x hj=>hE2.cell (q3 j x hj)⟩)
  rw[HH.out.2.2.1]at hq;exact hq
 refine stC2 (base:=base) (N:=0+1+n+1+m) (u:=u2) (u':=.slice ha m hc) 6 13 (en func95) rfl rfl hnum (λv3 w3 p9 hI9=>?_);have H3:=hid (jO hI9 (show Below base X2 w3 from Below.trans h1.1 (p9.below hx3 hzX)));have HBE:=hid (show ∀(w0:World),Below base X2 w0->∀w',Rb base w0 w'->Below base X2 w' from λw0 hb w' hR=>Below.trans hb (hR (by have:=hb.size;have:=HBS.out;omega)).1);clear hx3 p9 hI9 hZ hR hzX h1 hE2 hnum hEx;refine asA 7 4 (.tmp 13) v3 rfl ?_;refine jR za ?_ _;simp only[Act.put,uAx,u0x,u1x];go_upto_region 3 with fail;have hz3:base<=w3.heap.size:=(by have:=H3.out.2.size;have:=HBS.out;omega);have B3:=Bk.below HC.out H3.out.2 HCL.out;refine rgk 6 [3] (Rb base) (dR 14 6) [IsV v3,IsP c 0,IsV (.slice none 0 0),IsPg base (0+1+n+1+m+1) v3 w3,IsP c 1,IsV (.agg #[.bool false,.slice none 0 0,.slice none 0 0,.slice none 0 0,.int .i64 0])] 2 (Rb.rel base) ?_ ?_ ?_
 ·refine Kk (λw' _=>mv (qB 4)) ?_;refine Kk (λw' _=>fa (fa_Cq0 c) (qB 3)) ?_;refine Kk (λw' hR=>lv (fP:=IsV (.slice none 0 0)) _ (λw2 e=>ld_aSt w2 _ _ (((Bk.below HC.out (HBE.out _ H3.out.2 w' hR) HCL.out).ext e).c 0 _ rfl)) (qA 1 15) (λ_ _=>rfl)) ?_;refine KCf (R:=Rb base) (fQ:=IsPg base (0+1+n+1+m+1) v3 w3) (N:=0+1+n+1+m+1) (en func98) (λw'=>qA 0 14) (λw'=>qA (fP:=IsV (.slice none 0 0)) 2 16) (λu' w' hE d=>by obtain rfl:u'=_:=d;exact steps_n (N:=0+1+n+1+m) (H3.out.1.ext hE) jo (by have:=hE.size;omega)) (λw' x' w'' hE p hI=>⟨p.rb (H3.out.1.ext hE),hI,(Pg.ext0 hE).trans p⟩) ?_;refine Kk (λw' _=>fa (fa_Cq1 c) (qB 3)) ?_;refine Kk (λw' hR=>lv (fP:=IsV (.agg #[.bool false,.slice none 0 0,.slice none 0 0,.slice none 0 0,.int .i64 0])) _ (λw2 e=>ld_cG ((Bk.below HC.out (HBE.out _ H3.out.2 w' hR) HCL.out).ext e)) (qA 4 18) (λ_ _=>rfl)) ?_;exact RgkAll.nil
 ·intro i hi hc x' w' w'' _ h;rcases i with _|_|_|_|_|_|i
  all_goals first|exact absurd dcx hc| (exfalso;omega)|exact h
 intro x X hR hZ;have hx3:=hZ 3 dcx (.inr dcx);simp only[lxE,Nat.reduceAdd];rw[show x 5=.agg #[.bool false,.slice none 0 0,.slice none 0 0,.slice none 0 0,.int .i64 0]from hZ 5 dcx (.inl dcx)];generalize x 3=u3 at hx3 ⊢;have hzX:base<=X.heap.size:=za9
 refine stC2 (base:=base) (N:=0+1+n+1+m+1+4) (u:=u3) (u':=.agg #[.bool false,.slice none 0 0,.slice none 0 0,.slice none 0 0,.int .i64 0]) 6 20 (en func97) rfl rfl (group_n (N:=0+1+n+1+m+1) hx3.1 jo hzX) (λv4 w4 p9 hI9=>?_);have H4:=hid (jO hI9 (Below.trans H3.out.2 (Below.trans (hx3.2.below H3.out.1 hz3) (p9.below hx3.1 hzX))));clear hx3 p9 hI9 hZ hR B3 hz3 H3 hzX;refine asA 7 4 (.tmp 20) v4 rfl ?_;refine jR za ?_ _;simp only[Act.put,uAx,u0x,u1x];go_upto_region 4 with fail;have hz4:base<=w4.heap.size:=(by have:=H4.out.2.size;have:=HBS.out;omega);have B4:=Bk.below HC.out H4.out.2 HCL.out;refine rgk 6 [3] (Rb base) (dR 21 6) [IsV v4,IsP c 6,IsV (.agg #[.bool false,.slice none 0 0,.slice none 0 0]),IsPg base (0+1+n+1+m+1+4+2) v4 w4,IsP c 9,IsV (.slice none 0 0)] 2 (Rb.rel base) ?_ ?_ ?_
 ·refine Kk (λw' _=>mv (qB 4)) ?_;refine Kk (λw' _=>fa (fa_Cq2 c) (qB 3)) ?_;refine Kk (λw' hR=>lv (fP:=IsV (.agg #[.bool false,.slice none 0 0,.slice none 0 0])) _ (λw2 e=>ld_cU ((Bk.below HC.out (HBE.out _ H4.out.2 w' hR) HCL.out).ext e)) (qA 1 22) (λ_ _=>rfl)) ?_;refine KCf (R:=Rb base) (fQ:=IsPg base (0+1+n+1+m+1+4+2) v4 w4) (N:=0+1+n+1+m+1+4+2) (en func100) (λw'=>qA 0 21) (λw'=>qA (fP:=IsV (.agg #[.bool false,.slice none 0 0,.slice none 0 0])) 2 23) (λu' w' hE d=>by obtain rfl:u'=_:=d;exact unit_n (N:=0+1+n+1+m+1+4) (H4.out.1.ext hE) jo (by have:=hE.size;omega)) (λw' x' w'' hE p hI=>⟨p.rb (H4.out.1.ext hE),hI,(Pg.ext0 hE).trans p⟩) ?_;refine Kk (λw' _=>fa (fa_Cq3 c) (qB 3)) ?_;refine Kk (λw' hR=>lv (fP:=IsV (.slice none 0 0)) _ (λw2 e=>ld_aQu w2 _ _ (((Bk.below HC.out (HBE.out _ H4.out.2 w' hR) HCL.out).ext e).c 9 _ rfl)) (qA 4 25) (λ_ _=>rfl)) ?_;exact RgkAll.nil
 ·intro i hi hc x' w' w'' _ h;rcases i with _|_|_|_|_|_|i
  all_goals first|exact absurd dcx hc| (exfalso;omega)|exact h
 intro x X hR hZ;have hx3:=hZ 3 dcx (.inr dcx);simp only[lxE,Nat.reduceAdd];rw[show x 5=.slice none 0 0 from hZ 5 dcx (.inl dcx)];generalize x 3=u4 at hx3 ⊢;have hzX:base<=X.heap.size:=za9
 refine stC2 (base:=base) (N:=0+1+n+1+m+1+4+2+1) (u:=u4) (u':=.slice none 0 0) 6 27 (en func99) rfl rfl (pell_n (N:=0+1+n+1+m+1+4+2) hx3.1 jo hzX) (λv5 w5 p9 hI9=>?_);have H5:=hid (jO hI9 (Below.trans H4.out.2 (Below.trans (hx3.2.below H4.out.1 hz4) (p9.below hx3.1 hzX))));clear hx3 p9 hI9 hZ hR B4 hz4 H4 hzX;refine asA 7 4 (.tmp 27) v5 rfl ?_;refine jR za ?_ _;simp only[Act.put,uAx,u0x,u1x];go_upto_region 5 with fail;have hz5:base<=w5.heap.size:=(by have:=H5.out.2.size;have:=HBS.out;omega);have B5:=Bk.below HC.out H5.out.2 HCL.out;refine rgk 6 [3] (Rb base) (dR 28 6) [IsV v5,IsP c 10,IsV (.agg #[.int .i64 0,.int .i64 0,.int .i64 0,.int .i64 0,.slice none 0 0,.slice none 0 0,.slice none 0 0,.slice none 0 0]),IsPg base (0+1+n+1+m+1+4+2+1+8) v5 w5,IsP c 18,IsV (.agg #[.bool false,.slice none 0 0,.bool false,.slice none 0 0,.slice none 0 0,.slice none 0 0,.slice none 0 0,.slice none 0 0])] 2 (Rb.rel base) ?_ ?_ ?_
 ·refine Kk (λw' _=>mv (qB 4)) ?_;refine Kk (λw' _=>fa (fa_Cq4 c) (qB 3)) ?_;refine Kk (λw' hR=>lv (fP:=IsV (.agg #[.int .i64 0,.int .i64 0,.int .i64 0,.int .i64 0,.slice none 0 0,.slice none 0 0,.slice none 0 0,.slice none 0 0])) _ (λw2 e=>ld_cC ((Bk.below HC.out (HBE.out _ H5.out.2 w' hR) HCL.out).ext e)) (qA 1 29) (λ_ _=>rfl)) ?_;refine KCf (R:=Rb base) (fQ:=IsPg base (0+1+n+1+m+1+4+2+1+8) v5 w5) (N:=0+1+n+1+m+1+4+2+1+8) (en func102) (λw'=>qA 0 28) (λw'=>qA (fP:=IsV (.agg #[.int .i64 0,.int .i64 0,.int .i64 0,.int .i64 0,.slice none 0 0,.slice none 0 0,.slice none 0 0,.slice none 0 0])) 2 30) (λu' w' hE d=>by obtain rfl:u'=_:=d;exact count_n (N:=0+1+n+1+m+1+4+2+1) (H5.out.1.ext hE) jo (by have:=hE.size;omega)) (λw' x' w'' hE p hI=>⟨p.rb (H5.out.1.ext hE),hI,(Pg.ext0 hE).trans p⟩) ?_;refine Kk (λw' _=>fa (fa_Cq5 c) (qB 3)) ?_;refine Kk (λw' hR=>lv (fP:=IsV (.agg #[.bool false,.slice none 0 0,.bool false,.slice none 0 0,.slice none 0 0,.slice none 0 0,.slice none 0 0,.slice none 0 0])) _ (λw2 e=>ld_cD ((Bk.below HC.out (HBE.out _ H5.out.2 w' hR) HCL.out).ext e)) (qA 4 32) (λ_ _=>rfl)) ?_;exact RgkAll.nil
 ·intro i hi hc x' w' w'' _ h;rcases i with _|_|_|_|_|_|i
  all_goals first|exact absurd dcx hc| (exfalso;omega)|exact h
 intro x X hR hZ;have hx3:=hZ 3 dcx (.inr dcx);simp only[lxE,Nat.reduceAdd];rw[show x 5=.agg #[.bool false,.slice none 0 0,.bool false,.slice none 0 0,.slice none 0 0,.slice none 0 0,.slice none 0 0,.slice none 0 0]from hZ 5 dcx (.inl dcx)];generalize x 3=u5 at hx3 ⊢;have hzX:base<=X.heap.size:=za9
 refine stC2 (base:=base) (N:=0+1+n+1+m+1+4+2+1+8+6) (u:=u5) (u':=.agg #[.bool false,.slice none 0 0,.bool false,.slice none 0 0,.slice none 0 0,.slice none 0 0,.slice none 0 0,.slice none 0 0]) 6 34 (en func101) rfl rfl (descent_n (N:=0+1+n+1+m+1+4+2+1+8) hx3.1 jo hzX) (λv6 w6 p9 hI9=>?_);have H6:=hid (jO hI9 (Below.trans H5.out.2 (Below.trans (hx3.2.below H5.out.1 hz5) (p9.below hx3.1 hzX))));clear hx3 p9 hI9 hZ hR B5 hz5 H5 hzX;refine asA 7 4 (.tmp 34) v6 rfl ?_;refine jR za ?_ _;simp only[Act.put,uAx,u0x,u1x];go_upto_region 6 with fail;have hz6:base<=w6.heap.size:=(by have:=H6.out.2.size;have:=HBS.out;omega);have B6:=Bk.below HC.out H6.out.2 HCL.out;refine rgk 6 [3] (Rb base) (dR 35 6) [IsV v6,IsP c 26,IsV (.slice none 0 0),IsPg base (0+1+n+1+m+1+4+2+1+8+6+1) v6 w6,IsP c 27,IsV (.slice none 0 0)] 2 (Rb.rel base) ?_ ?_ ?_
 ·refine Kk (λw' _=>mv (qB 4)) ?_;refine Kk (λw' _=>fa (fa_Cq6 c) (qB 3)) ?_;refine Kk (λw' hR=>lv (fP:=IsV (.slice none 0 0)) _ (λw2 e=>ld_aQp w2 _ _ (((Bk.below HC.out (HBE.out _ H6.out.2 w' hR) HCL.out).ext e).c 26 _ rfl)) (qA 1 36) (λ_ _=>rfl)) ?_;refine KCf (R:=Rb base) (fQ:=IsPg base (0+1+n+1+m+1+4+2+1+8+6+1) v6 w6) (N:=0+1+n+1+m+1+4+2+1+8+6+1) (en func103) (λw'=>qA 0 35) (λw'=>qA (fP:=IsV (.slice none 0 0)) 2 37) (λu' w' hE d=>by obtain rfl:u'=_:=d;exact points_n (N:=0+1+n+1+m+1+4+2+1+8+6) (H6.out.1.ext hE) jo (by have:=hE.size;omega)) (λw' x' w'' hE p hI=>⟨p.rb (H6.out.1.ext hE),hI,(Pg.ext0 hE).trans p⟩) ?_;refine Kk (λw' _=>fa (fa_Cq7 c) (qB 3)) ?_;refine Kk (λw' hR=>lv (fP:=IsV (.slice none 0 0)) _ (λw2 e=>ld_aI3 w2 _ _ (((Bk.below HC.out (HBE.out _ H6.out.2 w' hR) HCL.out).ext e).c 27 _ rfl)) (qA 4 39) (λ_ _=>rfl)) ?_;exact RgkAll.nil
 ·intro i hi hc x' w' w'' _ h;rcases i with _|_|_|_|_|_|i
  all_goals first|exact absurd dcx hc| (exfalso;omega)|exact h
 intro x X hR hZ;have hx3:=hZ 3 dcx (.inr dcx);simp only[lxE,Nat.reduceAdd];rw[show x 5=.slice none 0 0 from hZ 5 dcx (.inl dcx)];generalize x 3=u6 at hx3 ⊢;have hzX:base<=X.heap.size:=za9
 refine stC2 (base:=base) (N:=0+1+n+1+m+1+4+2+1+8+6+1+1) (u:=u6) (u':=.slice none 0 0) 6 41 (en func95) rfl rfl (numbers_f (N:=0+1+n+1+m+1+4+2+1+8+6+1) (l:= []) hx3.1 jo (by simp) hzX (λ_ h=>absurd h List.not_mem_nil) (λh=>absurd rfl h)) (λv7 w7 p9 hI9=>?_);have H7:=hid (jO hI9 (Below.trans H6.out.2 (Below.trans (hx3.2.below H6.out.1 hz6) (p9.below hx3.1 hzX))));clear hx3 p9 hI9 hZ hR B6 hz6 H6 hzX;refine asA 7 2 (.tmp 41) v7 rfl ?_;refine jR za ?_ _;simp only[Act.put,uAx,u0x,u1x];go_wp2_with fail
 go_ret
 have hE9:Ext w w7:=Below.trans HX2.out (H7.out.2.mono (by have:=HX2.out.size;have:=HBS.out;omega));exact⟨_,rfl,hE9,(H7.out.1.mono jo).zs⟩
end
section
open Go Go.RowKit Go.Maps Go.Shelf
attribute [local go_sem] Oper.semAt_some
set_option maxRecDepth 100000
def IsCm(nm nm':ByteArray):Value->World->Prop:=λx _=>∃c:Int,x=.int .i64 c/\ -1<=c/\c<=1/\(c=0->nm=nm')
theorem IsCm.stb(nm nm':ByteArray):Stb (IsCm nm nm'):=λ_ _ _ _ h=>h
instance (nm nm':ByteArray):StbC (IsCm nm nm'):=⟨IsCm.stb nm nm'⟩
theorem ld_En31{w:World}{g:Nat}{vs:List Value}(hl:vs.length=31)(B:Bk w g vs):(Instr.loadAt 95 (.pointer (some ⟨g,0,none⟩))).run Tryz.prog w=.ok (.agg vs.toArray) w:=ldM za za hl (λj v hj=>by rw[Nat.zero_add];exact B.c j v hj)
theorem ix_Zn(ao:Option Addr)(g n c j:Nat)(ha:ao=some ⟨g,0,none⟩)(h:j<n)(w:World):(Instr.indexAt 69 (.slice ao n c) (.int .i64 (j:Int))).run Tryz.prog w=.ok (.pointer (some ⟨g,2*j,none⟩)) w:=by subst ha;exact ix_In g c n j h w
theorem cmpI_b(a b:Int): -1<=qM a b/\qM a b<=1:=by unfold qM;split <;>(try split) <;> omega
set_option maxHeartbeats 8000000 in
theorem compare_f{w:World}{nm nm':ByteArray}{d d':EnD}{es es':List Value}(h:EntW nm d es w)(h':EntW nm' d' es' w):Calls Tryz.prog 57 #[.agg es.toArray,.agg es'.toArray] w (Ret w (IsCm nm nm')):=by
 have hl:=h.len;have hl':=h'.len;have h0:es[0]? =some (.string nm):=by obtain⟨-,-,-,va,vc,ha,hc,rfl,-⟩:=h;rfl
 have h0':es'[0]? =some (.string nm'):=by obtain⟨-,-,-,va,vc,ha,hc,rfl,-⟩:=h';rfl
 obtain⟨W,hW,E,B2,B3⟩:∃W,W=(w.alloc (.cells es.toArray 95)).alloc (.cells es'.toArray 95)/\Ext w W/\Bk W w.heap.size es/\Bk W (w.heap.size+1) es':=zy;have H12:=hid (jO h h');obtain⟨b,hbb⟩:∃b,w.heap.size=b:=⟨_,rfl⟩;rw[hbb]at B2 B3;have c2:=B2.c 0 _ h0;have c3:=B3.c 0 _ h0';have HE:=hid E;have HB:=hid (jO B2 B3);have HL:=hid (jO hl hl');clear h h' h0 h0' E B2 B3 hl hl';obtain⟨lt,hlt⟩:∃t,Op.bytesLess nm.toList nm'.toList=t:=⟨_,rfl⟩;obtain⟨eq,heq⟩:∃t,(nm.toList==nm'.toList)=t:=⟨_,rfl⟩;have HEQ:=hid heq;go_enter Tryz.func57,Tryz.ntmps57;go_upto_region 1 with fail;rw[<-hW];clear hW;cases lt with
 | true=>
  go_wp2_with fail
  go_ret
  exact⟨_,rfl,HE.out,-1,rfl,by decide,by decide,λh=>by cases h⟩
 |false=>
 cases eq with
 | false=>
  go_wp2_with fail
  go_ret
  exact⟨_,rfl,HE.out,1,rfl,by decide,by decide,λh=>by cases h⟩
 | true=>
  have hnm:nm=nm':=by have:=HEQ.out;rw[ba_listE]at this;exact of_decide_eq_true this
  have HNM:=hid hnm;clear hnm HEQ;go_upto_region 5 with fail;clear c2 c3 hlt heq;refine rg 4 (dR 19 4) [IsV (.agg es.toArray),IsZs,IsV (.agg es'.toArray),IsZs] [] 2 ?_ ?_
  ·refine Rc (lv (fP:=IsV (.agg es.toArray)) _ (λw2 e=>ld_En31 HL.out.1 (HB.out.1.ext e)) (qB 2) (λ_ _=>rfl)) ?_;refine Rc (cl1 (en Tryz.func77) (qA (fP:=IsV (.agg es.toArray)) 0 19) (λx0 w' hE d0=>by{obtain rfl:x0=_:=d0;exact words_f (H12.out.1.ext (HE.out.trans hE))})) ?_;refine Rc (lv (fP:=IsV (.agg es'.toArray)) _ (λw2 e=>ld_En31 HL.out.2 (HB.out.2.ext e)) (qB 3) (λ_ _=>rfl)) ?_;refine Rc (cl1 (en Tryz.func77) (qA (fP:=IsV (.agg es'.toArray)) 2 21) (λx0 w' hE d0=>by{obtain rfl:x0=_:=d0;exact words_f (H12.out.2.ext (HE.out.trans hE))})) ?_;exact rn0
  intro x X1 e1 hZ _;obtain⟨n1,a1,k1,hv1,hn1,hr1⟩:=hZ 1 dcx;obtain⟨n2,a2,k2,hv2,hn2,hr2⟩:=hZ 3 dcx;simp only[lxE,Nat.reduceAdd];rw[hv1,hv2];have HEX:=hid (HE.out.trans e1);have HR1:=hid hr1;have HR2:=hid hr2;have HN:=hid (jO hn1 hn2);clear hZ hv1 hv2 hr1 hr2 e1 H12 hn1 hn2;refine asA 4 5 (.tmp 20) (.slice a1 n1 k1) rfl ?_;refine asA 5 6 (.tmp 22) (.slice a2 n2 k2) rfl ?_;refine jR za ?_ _;simp only[Act.put,uAx,u0x,u1x];go_wp2_with fail
  go_loopg [7,8] n1 (λgk v7 v8 wr=>∃i:Nat,v7=.int .i64 (i:Int)/\i+gk=n1/\Hid (Ext X1 wr))
  case atStart=>exact⟨0,rfl,by omega,hid (Ext.refl X1)⟩
  case round=>
   obtain⟨i,rfl,hg,S⟩:=hrel;by_cases hi:i<n1/\i<n2
   ·obtain⟨hi1,hi2⟩:=hi;have hil:(i:Int)<(n1:Int):=by omega
    have hil2:(i:Int)<(n2:Int):=by omega
    have hiw:IntKind.i64.wrap ((i:Int)+1)=((i+1:Nat):Int):=by have:=HN.out;simp only[IntKind.wrap_i64];omega
    have HI:=hid (jO hi1 (jO hi2 hg));obtain⟨g1,ea1,q1⟩:=HR1.out (by omega);obtain⟨s,a,m,c',z,r1,r2,r3⟩:=q1 i hi1;obtain⟨g2,ea2,q2⟩:=HR2.out (by omega);obtain⟨s',a',m',c'',z',r1',r2',r3'⟩:=q2 i hi2;clear q1 q2 hg hi1 hi2;have e0:=S.out;replace r1:=e0.cell r1;replace r2:=e0.cell r2;replace r3:=r3.ext e0;replace r1':=e0.cell r1';replace r2':=e0.cell r2';replace r3':=r3'.ext e0;clear e0;go_upto_region 9 with fail;refine rg 9 (dR 35 9) [IsV (.slice a1 n1 k1),iV (i:Int),IsP g1 (2*i),IsI 128 z,IsV (.slice a2 n2 k2),iV (i:Int),IsP g2 (2*i),IsI 128 z',iV (qM z z')] [] 1 ?_ ?_
    ·refine Rc (mv (qB 5)) ?_;refine Rc xd ?_;refine Rc (ixq (ix_Zn a1 g1 n1 k1 i ea1 HI.out.1) (qA 0 35) (qA 1 36)) ?_;refine Rc (lv (fP:=IsI 128 z) _ (λw2 e=>qF w2 g1 (2*i) s a m c' (e.cell r1) (e.cell r2)) (qA 2 37) (λw2 e=>r3.ext e)) ?_;refine Rc (mv (qB 6)) ?_;refine Rc xd ?_;refine Rc (ixq (ix_Zn a2 g2 n2 k2 i ea2 HI.out.2.1) (qA 4 39) (qA 5 40)) ?_;refine Rc (lv (fP:=IsI 128 z') _ (λw2 e=>qF w2 g2 (2*i) s' a' m' c'' (e.cell r1') (e.cell r2')) (qA 6 41) (λw2 e=>r3'.ext e)) ?_;refine Rc (cl2 (en Tryz.func37) (qA (fP:=IsI 128 z) 3 38) (qA (fP:=IsI 128 z') 7 42) (λx0 x1 w' hE d0 d1=>RCmp_f d0 d1 dcx dcx)) ?_;exact rn0
    intro x X3 e1 hZ _;simp only[lxE,Nat.reduceAdd];rw[show x 8=.int .i64 (qM z z')from hZ 8 dcx];have S2:=hid (S.out.trans e1);clear hZ r1 r2 r3 r1' r2' r3' e1 S ea1 ea2;obtain⟨cm,hcm⟩:∃cm,qM z z'=cm:=⟨_,rfl⟩;have HCM:=hid (show -1<=cm/\cm<=1 by rw[<-hcm];exact cmpI_b z z');rw[hcm];clear hcm;refine asA 9 8 (.tmp 43) (.int .i64 cm) rfl ?_;refine jR za ?_ _;simp only[Act.put,uAx,u0x,u1x];by_cases hc0:cm=0
    ·subst hc0;go_wp2_with fail
     go_roundg (gk-1)
     case measure=>have:=HI.out;omega
     case rel=>exact⟨i+1,rfl,by have:=HI.out;omega,S2⟩
    ·go_wp2_with fail
     go_ret
     exact⟨_,rfl,HEX.out.trans S2.out,cm,rfl,HCM.out.1,HCM.out.2,λh=>absurd h hc0⟩
   ·have hE9:Ext w wr:=HEX.out.trans S.out;have hil:¬((i:Int)<(n1:Int))\/((i:Int)<(n1:Int)/\¬((i:Int)<(n2:Int))):=by omega
    clear hi;by_cases hnn:n1=n2
    ·subst hnn;rcases hil with hil| ⟨hil,hil2⟩
     ·go_wp2_with fail
      go_ret
      exact⟨_,rfl,hE9,0,rfl,by decide,by decide,λ_=>HNM.out⟩
     ·exact absurd hil hil2
    ·have hnn':¬((n1:Int)=(n2:Int)):=by omega
     rcases hil with hil| ⟨hil,hil2⟩
     ·go_wp2_with fail
      go_ret
      exact⟨_,rfl,hE9,-1,rfl,by decide,by decide,λh=>by cases h⟩
     ·go_wp2_with fail
      go_ret
      exact⟨_,rfl,hE9,-1,rfl,by decide,by decide,λh=>by cases h⟩
end
section
open Go Go.RowKit Go.Maps Go.Shelf
open Go.Proofs.Tryz
set_option maxHeartbeats 8000000
attribute [local go_sem] Oper.semAt_some
set_option maxRecDepth 100000
theorem ld_So3{w:World}{g f:Nat}{vs:List Value}(hl:vs.length=3)(hc:∀q u,vs[q]? =some u->World.cell? w ⟨g,f+q,none⟩=some u):(Instr.loadAt 102 (.pointer (some ⟨g,f,none⟩))).run prog w=.ok (.agg vs.toArray) w:=ldM za za hl hc
theorem ix_So1(g o c:Nat)(w:World):(Instr.indexAt 96 (.slice (some ⟨g,o,none⟩) 1 c) (.int .i64 0)).run prog w=.ok (.pointer (some ⟨g,o,none⟩)) w:=by go_simp
def s010:List Value:= [.int .i64 0,.int .i64 1,.int .i64 0]
theorem less_f(w:World):Calls prog 78 #[.agg #[.int .i64 0,.int .i64 1,.int .i64 0],.agg #[.int .i64 0,.int .i64 1,.int .i64 0]] w (Ret w (IsV (.bool false))):=by
 obtain⟨W,hW,E,B2,B3⟩:∃W,W=(w.alloc (.cells #[.int .i64 0,.int .i64 1,.int .i64 0] 102)).alloc (.cells #[.int .i64 0,.int .i64 1,.int .i64 0] 102)/\Ext w W/\Bk W w.heap.size s010/\Bk W (w.heap.size+1) s010:=⟨_,rfl,((Ext.refl w).alloc _).alloc _,(Bk.new w #[.int .i64 0,.int .i64 1,.int .i64 0] _).ext ((Ext.refl _).alloc _),Bk.newE _ _ (by simp) _ _⟩;have c0:=B2.c 0 _ rfl;have c1:=B2.c 1 _ rfl;have c2:=B2.c 2 _ rfl;have d0:=B3.c 0 _ rfl;have d1:=B3.c 1 _ rfl;have d2:=B3.c 2 _ rfl;clear B2 B3;go_enter func78,ntmps78;go_upto_region 1 with fail;rw[<-hW];clear hW;go_wp2_with fail
 go_ret
 exact⟨_,rfl,E,rfl⟩
theorem sourced_f{w:World}{g o c:Nat}(hc:∀q u,s010[q]? =some u->World.cell? w ⟨g,o+q,none⟩=some u):Calls prog 58 #[.slice (some ⟨g,o,none⟩) 1 c,.agg #[.int .i64 0,.int .i64 1,.int .i64 0]] w (Ret w (IsV (.slice (some ⟨g,o,none⟩) 1 c))):=by
 obtain⟨W,hW,E,B⟩:∃W,W=w.alloc (.cells #[.int .i64 0,.int .i64 1,.int .i64 0] 102)/\Ext w W/\Bk W w.heap.size s010:=⟨_,rfl,(Ext.refl w).alloc _,Bk.new w #[.int .i64 0,.int .i64 1,.int .i64 0] _⟩;have hcW:∀q u,s010[q]? =some u->World.cell? W ⟨g,o+q,none⟩=some u:=λq u hq=>E.cell (hc q u hq)
 clear hc;obtain⟨b,hbb⟩:∃b,w.heap.size=b:=⟨_,rfl⟩;rw[hbb]at B;go_enter func58,ntmps58;go_upto_region 1 with fail;rw[<-hW];clear hW;go_wp2_with fail;refine wp_loop_rounds 1 ?_;rw[rounds_succ];go_upto_region 2 with fail;refine rg 12 (dR 6 12) [iV 0,IsV (.slice (some ⟨g,o,none⟩) 1 c),iV ((1:Nat):Int),IsV (.bool true),IsV (.bool true),IsV (.slice (some ⟨g,o,none⟩) 1 c),iV 0,IsP g o,IsV (.agg s010.toArray),IsV (.agg s010.toArray),IsV (.bool false),IsV (.bool false)] [] 0 ?_ ?_
 ·refine Rc (mv (qB (x:=.int .i64 0) 5)) ?_;refine Rc zv ?_;refine Rc (lnZ (p:=some ⟨g,o,none⟩) (n:=1) (c:=c) (qA 1 7)) ?_;refine Rc (bn (r:=.bool true) (qC 0 6) (qC 2 8) (hr:=λw=>by go_simp)) ?_;refine Rc (mv (qA (fP:=IsV (.bool true)) 3 9)) ?_;refine RcG 4 10 true zv ?_;refine RcG 4 10 true (mv (qB (x:=.int .i64 0) 5)) ?_;refine RcG 4 10 true (ixq (ix_So1 g o c) (qA 5 11) (qA 6 12)) ?_;refine RcG 4 10 true (lv (fP:=IsV (.agg s010.toArray)) _ (λw2 e=>ld_So3 rfl (λq u hq=>e.cell (hcW q u hq))) (qA 7 13) (λ_ _=>rfl)) ?_;refine RcG 4 10 true (lv (fP:=IsV (.agg s010.toArray)) _ (λw2 e=>ld_So3 (f:=0) rfl (λq u hq=>by rw[Nat.zero_add];exact(B.ext e).c q u hq)) (qB 3) (λ_ _=>rfl)) ?_;refine RcG 4 10 true (cl2 (en func78) (qA (fP:=IsV (.agg s010.toArray)) 8 14) (qA (fP:=IsV (.agg s010.toArray)) 9 15) (λx0 x1 w' hE d0 d1=>by{obtain rfl:x0=_:=d0;obtain rfl:x1=_:=d1;exact less_f w'})) ?_;refine Rc (pk (b:=true) (qA 4 10) (qA 10 16)) ?_;exact rn0
 intro v X1 e1 hZ _;simp only[lxE,Nat.reduceAdd];rw[show v 11=.bool false from hZ 11 dcx];clear hZ;have E1:=E.trans e1;have B1:=B.ext e1;have hc1:∀q u,s010[q]? =some u->World.cell? X1 ⟨g,o+q,none⟩=some u:=λq u hq=>e1.cell (hcW q u hq)
 clear hcW B E e1;refine jR za ?_ _;go_upto_region 4 with fail;refine rg 12 (dR 20 12) [iV 0,IsV (.slice (some ⟨g,o,none⟩) 1 c),iV ((1:Nat):Int),IsV (.bool true),IsV (.bool true),IsV (.slice (some ⟨g,o,none⟩) 1 c),iV 0,IsP g o,IsV (.agg s010.toArray),IsV (.agg s010.toArray),IsV (.bool true),IsV (.bool true)] [] 0 ?_ ?_
 ·refine Rc (mv (qB (x:=.int .i64 0) 5)) ?_;refine Rc zv ?_;refine Rc (lnZ (p:=some ⟨g,o,none⟩) (n:=1) (c:=c) (qA 1 21)) ?_;refine Rc (bn (r:=.bool true) (qC 0 20) (qC 2 22) (hr:=λw=>by go_simp)) ?_;refine Rc (mv (qA (fP:=IsV (.bool true)) 3 23)) ?_;refine RcG 4 24 true zv ?_;refine RcG 4 24 true (mv (qB (x:=.int .i64 0) 5)) ?_;refine RcG 4 24 true (ixq (ix_So1 g o c) (qA 5 25) (qA 6 26)) ?_;refine RcG 4 24 true (lv (fP:=IsV (.agg s010.toArray)) _ (λw2 e=>ld_So3 rfl (λq u hq=>e.cell (hc1 q u hq))) (qA 7 27) (λ_ _=>rfl)) ?_;refine RcG 4 24 true (lv (fP:=IsV (.agg s010.toArray)) _ (λw2 e=>ld_So3 (f:=0) rfl (λq u hq=>by rw[Nat.zero_add];exact(B1.ext e).c q u hq)) (qB 3) (λ_ _=>rfl)) ?_;refine RcG 4 24 true (bn (r:=.bool true) (qC 8 28) (qC 9 29) (hr:=λw=>by unfold s010;go_simp)) ?_;refine Rc (pk (b:=true) (qA 4 24) (qA 10 30)) ?_;exact rn0
 intro v X2 e1 hZ _;simp only[lxE,Nat.reduceAdd];rw[show v 11=.bool true from hZ 11 dcx];clear hZ;refine jR za ?_ _;go_wp2_with fail
 go_ret
 exact⟨_,rfl,E1.trans e1,rfl⟩
end
end Go.Proofs.YtkeikfekkdplgaaGreatDoor
