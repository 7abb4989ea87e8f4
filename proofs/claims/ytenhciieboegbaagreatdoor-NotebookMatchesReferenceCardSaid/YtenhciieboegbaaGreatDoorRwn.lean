/-
  Integers of package integer: Parse at the string -0. No condition. The rule of XRg with a letter for the frame: an operation is shown by what its operands hold. No condition on the program.
  Rows whose blocks hold no word (rows of structs): an append leaves all words in memory as they were.
-/
import Derived.Test.YtenhciieboegbaaGreatDoorText
import Derived.Test.YtenhciieboegbaaGreatDoorFact
namespace Go.Proofs.YtenhciieboegbaaGreatDoor
open Go Go.RowKit
end Go.Proofs.YtenhciieboegbaaGreatDoor
namespace Go.Proofs.YtenhciieboegbaaGreatDoor
open Go Go.RowKit
section
variable {P:Program} {md:Region.Mode} {ops:Array Oper} {Q:Exit→Act→World→Prop}
theorem size_put(a:Act)(d:Option Tmp)(x:Value):(a.put d x).tmps.size=a.tmps.size:=by
  cases d <;> simp[Act.put]
theorem layL_old(v:Nat→Value)(t:Nat):∀(ds:List (Option Tmp)) (a:Act) (k:Nat),ds.contains (some t)=false→(layL v a k ds).tmps[t]? =a.tmps[t]?
  | [],_,_,_=>rfl
  | d ::ds,a,k,h=>by
    simp only[List.contains_cons,Bool.or_eq_false_iff,beq_eq_false_iff_ne]at h;rw[layL,layL_old v t ds _ (k+1) h.2];cases d with
    |none=>rfl
    | some u=>
      simp only[Act.put];rw[Array.getElem?_setIfInBounds_ne];intro he;exact h.1 (by rw[he])
theorem layL_at(v:Nat→Value)(t:Nat):∀(ds:List (Option Tmp)) (a:Act) (k j:Nat),ds[j]? =some (some t)→(ds.drop (j+1)).contains (some t)=false→t<a.tmps.size→(layL v a k ds).tmps[t]? =some (v (k+j))
  | [],_,_,_,h,_,_=>by simp at h
  | d ::ds,a,k,0,h,hn,ht=>by
    simp only[List.getElem?_cons_zero,Option.some.injEq]at h;subst h;rw[layL,layL_old v t ds _ (k+1) (by simpa using hn)];simp only[Act.put];rw[Array.getElem?_setIfInBounds_self_of_lt ht];rfl
  | d ::ds,a,k,j+1,h,hn,ht=>by
    rw[layL,layL_at v t ds _ (k+1) j (by simpa using h) (by simpa using hn) (by rw[size_put];exact ht)]
    congr 2;omega
structure Fr (ds:List (Option Tmp)) (a0:Act) (v:Nat→Value) (a:Act):Prop where
  at_:∀j t,ds[j]? =some (some t)→(ds.drop (j+1)).contains (some t)=false→decide (t<a0.tmps.size)=true→a.tmps[t]? =some (v j)
  old:∀t,ds.contains (some t)=false→a.tmps[t]? =a0.tmps[t]?
theorem Fr.of(ds:List (Option Tmp))(a0:Act)(v:Nat→Value):Fr ds a0 v (layL v a0 0 ds):=
  ⟨λj t h hn ht=>by have:=layL_at v t ds a0 0 j h hn (of_decide_eq_true ht);rwa [Nat.zero_add]at this,λt h=>layL_old v t ds a0 0 h⟩
theorem Fr.val{ds:List (Option Tmp)}{a0:Act}{v:Nat→Value}{a:Act}(h:Fr ds a0 v a)(j t:Nat)(x:Value)(hd:v j=x)(h1:ds[j]? =some (some t))(h2:(ds.drop (j+1)).contains (some t)=false)(h3:decide (t<a0.tmps.size)=true):a.tmps[t]?.getD undef=x:=by
  have:=h.at_ j t h1 h2 h3;simp[this,hd]
theorem Fr.lit{ds:List (Option Tmp)}{a0:Act}{v:Nat→Value}{a:Act}(h:Fr ds a0 v a)(t:Nat)(x:Value)(h1:ds.contains (some t)=false)(h2:a0.tmps[t]? =some x):a.tmps[t]?.getD undef=x:=by
  have:=(h.old t h1).trans h2;simp[this]
variable {ds:List (Option Tmp)} {a0:Act} {w0:World} {L:List (Value→World→Prop)} {boxes:List Nat} {i:Nat} {o:Oper}
def OpOk(P:Program)(md:Region.Mode)(ops:Array Oper)(Q:Exit→Act→World→Prop)(ds:List (Option Tmp))(a0:Act)(w0:World)(L:List (Value→World→Prop))(boxes:List Nat)(i:Nat)(o:Oper):Prop:=
  ∀ (v:Nat→Value) (a:Act) (w:World),Ext w0 w→(∀j,(ups md ops i).contains j=true→L.getD j (λ_ _=>True) (v j) w)→Fr ds a0 v a→
    ∀K:Act→World→Prop,Shut (∀x w',Ext w w'→L.getD i (λ_ _=>True) x w'→FreshIf (boxes.contains i) x w→K (a.put o.dst x) w')→Oper.wp P o a w K Q
theorem RgL.mk(hg:o.guard=none)(h:OpOk P md ops Q ds a0 w0 L boxes i o):RgL P md ops Q ds a0 w0 L boxes i o:=by
  intro v w hE hd K hK;rw[if_pos (by simp[Region.wanted,hg])];exact h v _ w hE hd (Fr.of ds a0 v) K hK
theorem Fr.yielded{v:Nat→Value}{a:Act}(h:Fr ds a0 v a)(g t:Nat)(b:Bool)(hv:v g=.bool b)(hdst:dstOf ops g=some t)(h1:ds[g]? =some (some t))(h2:(ds.drop (g+1)).contains (some t)=false)(h3:decide (t<a0.tmps.size)=true):yielded ops a.tmps g=some b:=by
  have:=h.at_ g t h1 h2 h3;unfold Go.yielded;unfold dstOf at hdst;rw[hdst,Option.bind_some,this,hv]
theorem RgL.mkG(g t:Nat)(b:Bool)(hg:o.guard=some (g,b))(hdst:dstOf ops g=some t)(h1:ds[g]? =some (some t))(h2:(ds.drop (g+1)).contains (some t)=false)(h3:decide (t<a0.tmps.size)=true)(hu:(ups md ops i).contains g=true)(hL:∀x w,L.getD g (λ_ _=>True) x w→x=.bool b)
    (h:OpOk P md ops Q ds a0 w0 L boxes i o):RgL P md ops Q ds a0 w0 L boxes i o:=by
  intro v w hE hd K hK;have hy:=(Fr.of ds a0 v).yielded (ops:=ops) g t b (hL _ _ (hd g hu)) hdst h1 h2 h3;rw[if_pos (by simp[Region.wanted,hg,hy])];exact h v _ w hE hd (Fr.of ds a0 v) K hK
theorem RgL.mkN(g t:Nat)(b:Bool)(hg:o.guard=some (g,!b))(hdst:dstOf ops g=some t)(h1:ds[g]? =some (some t))(h2:(ds.drop (g+1)).contains (some t)=false)(h3:decide (t<a0.tmps.size)=true)(hu:(ups md ops i).contains g=true)(hL:∀x w,L.getD g (λ_ _=>True) x w→x=.bool b)
    (hb:boxes.contains i=false) (hi:∀w,L.getD i (λ_ _=>True) undef w):RgL P md ops Q ds a0 w0 L boxes i o:=by
  intro v w hE hd K hK;have hy:=(Fr.of ds a0 v).yielded (ops:=ops) g t b (hL _ _ (hd g hu)) hdst h1 h2 h3;rw[if_neg (by cases b <;> simp[Region.wanted,hg,hy])];exact hK.out _ _ (Ext.refl _) (hi w) (FreshIf.no hb)
end
end Go.Proofs.YtenhciieboegbaaGreatDoor
namespace Go.Proofs.YtenhciieboegbaaGreatDoor
open Go Go.RowKit
def NwB(w:World)(v:Value):Prop:=∀g cs e fz,v.ownBlock=some g→w.heap[g]? =some (.cells cs e fz)→ ∀u∈cs.toList,NoWord u
theorem NwB.nil(w:World):NwB w (.slice none 0 0):=λ_ _ _ _ h=>by cases h
theorem NwB.kept{w w':World}{v:Value}(h:NwB w v)(hg:∀g,v.ownBlock=some g→w'.heap[g]? =w.heap[g]?):NwB w' v:=λg cs e fz h1 h2=>h g cs e fz h1 ((hg g h1)▸h2)
theorem gr_of_grown{w w':World}{v:Value}(hg:w.grownBy w' v.ownBlock)(h:NwB w v):Gr w w':=by
  refine⟨hg.size,λp x hp=>?_⟩;by_cases hb:some p.block=v.ownBlock
  · exfalso
    have hp2:=hp;unfold World.cell? at hp
    split at hp
    · rename_i c e fz ho
      split at hp
      ·cases hp
      · have hm:(.int .u32 x:Value)∈c.toList:=by
          obtain⟨hlt,he⟩:=Array.getElem?_eq_some_iff.1 hp;rw[← he];exact Array.getElem_mem_toList hlt
        exact h _ _ _ _ hb.symm ho _ hm x rfl
    ·cases hp
  ·exact hg.cell hp hb
theorem zero_nw {z:Array Value}(hz:∀u∈z.toList,NoWord u)(n:Nat):∀u∈(Builtin.zeroCells z n).toList,NoWord u:=by
  intro u hu;simp[Builtin.zeroCells]at hu;obtain⟨j,hj,rfl⟩:=hu
  have h0 : 0 < z.size := by rcases Nat.eq_zero_or_pos z.size with h|h;·rw[h]at hj;omega
                             ·exact h
  rw[getElem!_pos z _ (Nat.mod_lt _ h0)];exact hz _ (Array.getElem_mem_toList _)
section
variable {P:Program} (w:World)
theorem run_append_nw(base:Nat)(t ty e:TypeId)(i:TypeInfo)(z:Value)(size bytes:Nat)(ht:P.underlying t=some (.slice e))(hi:P.info? e=some i)(hz:i.zero=some z)
    (hsize:i.size=size) (hby:i.bytes=bytes) (hzs:z.cells.size=size) (hsz:0<size) (hzn:∀u∈z.cells.toList,NoWord u)
    (v:Value) (n:Nat) (xs:List Value) (hown:w.ownsRow base e size v n xs) (hnw:NwB w v)
    (a:Addr) (m c:Nat) (news:List Value) (hl:news.length=m*size) (hnews:∀j u,news[j]? =some u→w.cell? (a.add j)=some u) (h1:∀u∈news,u.oneCell'=true) (hnn:∀u∈news,NoWord u)
    (h63:n+m≤maxLen) (hbytes:(n+m)*bytes≤140737488355328) (hbase:base≤w.heap.size):
    ∃v' w',(Builtin.append_ #[t,t] ty #[v,.slice (some a) m c]).run P w=.ok v' w'∧w'.ownsRow base e size v' (n+m) (xs++news)∧w.grownBy w' v.ownBlock∧(v'.ownBlock=v.ownBlock∨v'.ownBlock=some w.heap.size)∧NwB w' v':=by
  obtain⟨v',w',hr,h2,h3,h4,h5⟩:=run_append_own_at (P:=P) w base t ty e i z size bytes ht hi hz hsize hby hzs hsz v n xs hown a m c news hl hnews h1 h63 hbytes hbase;refine⟨v',w',hr,h2,h3,h5,?_⟩;subst hsize;subst hby;have hsmall:n+m≤9223372036854775807:=by simp only[maxLen]at h63;omega
  rcases hown.2 with⟨rfl,rfl⟩| ⟨g,cap,cur,rfl,hbg,hg,hnc,hcm,hcs,htake⟩
  · by_cases hm:m=0
    ·have:=(h4.2 ⟨rfl,hm⟩);subst this;exact NwB.nil _
    · have hr2:=run_append_nil (P:=P) w t ty e i z ht hi hz a m c news hl hnews (by omega) (by omega) (by have hb:=hbytes;simp only[Nat.zero_add]at hb;omega)
      rw[hr2]at hr;injection hr with e1 e2;subst e1;subst e2;intro g cs e' fz hb ho u hu;injection hb with hb;subst hb;rw[show(w.drew.alloc (.cells (news.toArray++Builtin.zeroCells z.cells (grownCap w m 0 e-m)) e)).heap[w.heap.size]? =some (.cells (news.toArray++Builtin.zeroCells z.cells (grownCap w m 0 e-m)) e)from heap_alloc_new w.drew _]at ho;injection ho with ho;injection ho with ho _ _;subst ho;rw[Array.toList_append,List.mem_append]at hu;rcases hu with hu|hu
      ·exact hnn u (by simpa using hu)
      ·exact zero_nw hzn _ u hu
  · have hcn:∀u∈cur.toList,NoWord u:=hnw g cur e (0,0) rfl hg
    by_cases hroom:n+m≤cap
    · have hfit:n*i.size+news.length≤cur.size:=by rw[hl,hcs,← Nat.add_mul];exact Nat.mul_le_mul_right _ hroom
      have hr2:=run_append_room (P:=P) w t ty e i ht hi g n cap cur hg a m c news hl hnews h1 hroom hfit;rw[hr2]at hr;injection hr with e1 e2;subst e1;subst e2;intro g' cs e' fz hb ho u hu;injection hb with hb;subst hb;rw[setRow_heap w g cur _ e _ hg]at ho;injection ho with ho;injection ho with ho _ _;subst ho;simp only[List.mem_append]at hu;rcases hu with(hu|hu)|hu
      ·exact hcn u (List.mem_of_mem_take hu)
      ·exact hnn u hu
      ·exact hcn u (List.mem_of_mem_drop hu)
    · have holds:∀j u,xs[j]? =some u→w.cell? ((⟨g,0,none⟩:Addr).add j)=some u:=hown.cells (g:=g) rfl
      have hr2:=run_append_grow (P:=P) w t ty e i z ht hi hz ⟨g,0,none⟩ n cap xs hown.1 holds a m c news hl hnews (by omega) (by omega) (growslice_fits (by omega) hbytes);rw[hr2]at hr;injection hr with e1 e2;subst e1;subst e2;intro g' cs e' fz hb ho u hu;injection hb with hb;subst hb;rw[show(w.drew.alloc (.cells (xs.toArray++news.toArray++Builtin.zeroCells z.cells (grownCap w (n+m) cap e-(n+m))) e)).heap[w.heap.size]? =some (.cells (xs.toArray++news.toArray++Builtin.zeroCells z.cells (grownCap w (n+m) cap e-(n+m))) e)from heap_alloc_new w.drew _]at ho;injection ho with ho;injection ho with ho _ _;subst ho;rw[Array.toList_append,Array.toList_append,List.mem_append,List.mem_append]at hu;rcases hu with(hu|hu)|hu
      · have hu:u∈xs:=by simpa using hu
        rw[← htake]at hu;exact hcn u (List.mem_of_mem_take hu)
      ·exact hnn u (by simpa using hu)
      ·exact zero_nw hzn _ u hu
end
end Go.Proofs.YtenhciieboegbaaGreatDoor
