/-
 The rule for a region that makes boxes and fills them, where the stores may come early: facts of the values, and of each new box what was stored there. No condition on the program.
 Package modular: of, mod, div, one, twos. (Printed by wip/gen/mod2.py.)
-/
import Derived.Test.YtknffgdbdadpcaaGreatDoorSto
import Derived.Test.YtknffgdbdadpcaaGreatDoorMod1
namespace Go.Proofs.YtknffgdbdadpcaaGreatDoor
open Go Go.RowKit
open Go.Proofs.Tryz
theorem ze4{P:Prop}(h:P:=by exact cl2 (en func111) (qA (fP:=IsI k1 z1) 0 9) (qA (fP:=IsI k2 z2) 1 10) (λx0 x1 w' hE d0 d1 =>DivMod_f d0 d1 zb zb HZ.out)):P:=h
theorem zj{P:Prop}(h:P:=by exact ldI S 0 (w.heap.size) 0 (qD 1) qG):P:=h
theorem jm{P:Prop}(h:P:=by exact mv (qD 0)):P:=h
theorem zaf{P:Prop}(h:P:=by exact mv qE):P:=h
theorem zay{P:Prop}(h:P:=by exact ldI S 2 (w.heap.size) 0 (qD 2) qG):P:=h
theorem zaz{P:Prop}(h:P:=by exact ldI S 1 (w.heap.size) 0 (qD 1) qG):P:=h
theorem za0{P:Prop}(h:P:=by exact ldI S 0 (g6) 0 (qD 6) qG):P:=h
theorem zbs{P:Prop}(h:P:=by exact cl1 (en func113) (qA (fP:=IsI k1 ((a:Int))) 0 5) (λx0 w' hE d0 =>zC (odd_f d0) λ_ _ h =>RetB h HODD.out)):P:=h
theorem zdf{P:Prop}(h:P:=by exact mv (qD 4)):P:=h
theorem zdi{P:Prop}(h:P:=by exact al qR):P:=h
abbrev zV:=@Int.natCast_add
abbrev zF:=@wpList_nil
set_option maxRecDepth 100000
set_option maxHeartbeats 4000000
def Shp(w w':World):Prop:=∀g i,(∃s a n c,Bo w g i s a n c) ->∃s a n c,Bo w' g i s a n c
theorem Shp.of{w w':World}(e:Ext w w'):Shp w w':=λ_ _ ⟨s,a,n,c,h⟩ =>⟨s,a,n,c,h.ext e⟩
def Gst(fP:Value ->World ->Prop):Prop:=∀x w w',Gr w w' ->Shp w w' ->fP x w ->fP x w'
theorem Gst.of{fP:Value ->World ->Prop}(h:GStb fP):Gst fP:=λ_ _ _ g _ k =>h _ _ _ g k
theorem Gst.v(u:Value):Gst (IsV u) :=λ_ _ _ _ _ k =>k
theorem Gst.t2{fP fR:Value ->World ->Prop}(h:Gst fP)(k:Gst fR):Gst (IsT2 fP fR) :=λ_ _ _ g s ⟨a,b,h1,h2,h3⟩ =>⟨a,b,h1,h _ _ _ g s h2,k _ _ _ g s h3⟩
theorem Gst.t3{fP fR fQ:Value ->World ->Prop}(h:Gst fP)(k:Gst fR)(l:Gst fQ):Gst (IsT3 fP fR fQ) :=λ_ _ _ g s ⟨a,b,c,h1,h2,h3,h4⟩ =>⟨a,b,c,h1,h _ _ _ g s h2,k _ _ _ g s h3,l _ _ _ g s h4⟩
theorem Gst.q{fP fR:Value ->World ->Prop}(h:Gst fP)(k:Gst fR):Gst (IsQ fP fR) :=λ_ _ _ g sh ⟨s,a,n,c,s',a',n',c',h1,h2,h3⟩ =>⟨s,a,n,c,s',a',n',c',h1,h _ _ _ g sh h2,k _ _ _ g sh h3⟩
theorem Gst.j{fP fR fQ fS:Value ->World ->Prop}(h:Gst fP)(k:Gst fR)(l:Gst fQ)(m:Gst fS):Gst (IsJ fP fR fQ fS) :=λ_ _ _ g sh ⟨s,a,n,c,s',a',n',c',s2,a2,n2,c2,s3,a3,n3,c3,h1,h2,h3,h4,h5⟩ =>⟨s,a,n,c,s',a',n',c',s2,a2,n2,c2,s3,a3,n3,c3,h1,h _ _ _ g sh h2,k _ _ _ g sh h3,l _ _ _ g sh h4,m _ _ _ g sh h5⟩
theorem Gst.tt:Gst (λ_ _ =>True) :=λ_ _ _ _ _ _ =>trivial
theorem gs0:∀fP∈ ([]:List (Value ->World ->Prop)),GStb fP:=λ_ h =>by cases h
theorem gs1{fP:Value ->World ->Prop}{l:List (Value ->World ->Prop)}(h:GStb fP)(k:∀fR∈l,GStb fR):∀fR∈fP ::l,GStb fR:=λfR hm =>by
 rcases List.mem_cons.1 hm with rfl|hm
 ·exact h
 ·exact k fR hm
inductive AllGst:List (Value ->World ->Prop) ->Prop
 |nil:AllGst []
 |cons {p:Value ->World ->Prop} {ps:List (Value ->World ->Prop)}:Gst p ->AllGst ps ->AllGst (p ::ps)
theorem AllGst.get{L:List (Value ->World ->Prop)}(h:AllGst L):∀i,Gst (L.getD i (λ_ _ =>True)) :=by
 induction h with
 |nil =>intro i _ _ _ _ _ _;simp
 | cons h _ ih =>
  intro i
  cases i with
  |zero =>simpa using h
  |succ i =>simpa using ih i
def IsNw(w0:World)(m:Nat):Value ->World ->Prop:=λx w =>∃g,x =.pointer (some ⟨g,0,none⟩)/\w0.heap.size <=g/\g < w.heap.size/\∀i,i < m ->∃s a n c,Bo w g i s a n c
theorem IsNw.gs(w0:World)(m:Nat):Gst (IsNw w0 m) :=λ_ _ _ g s ⟨b,h1,h2,h3,h4⟩ =>⟨b,h1,h2,Nat.lt_of_lt_of_le h3 g.1,λi hi =>s b i (h4 i hi)⟩
theorem IsBo.nw{w0:World}{m:Nat}{x:Value}{w:World}(h:IsBo w0 m x w):IsNw w0 m x w:=let ⟨g,h1,h2,h3,h4⟩ :=h;⟨g,h1,h2,h4,λi hi =>⟨_,_,_,_,h3 i hi⟩⟩
def Stored(x:Value)(Fs:List (Value ->World ->Prop))(w:World):Prop:=∃g,x =.pointer (some ⟨g,0,none⟩)/\∀k fP,Fs[k]? =some fP ->∃s a n c,Bo w g k s a n c/\fP (.agg #[.bool s,.slice a n c]) w
structure Into (x:Value) (w w':World):Prop where
 gr:Gr w w'
 oth:∀g i s a n c,x≠ .pointer (some ⟨g,0,none⟩) ->Bo w g i s a n c ->Bo w' g i s a n c
 ext:∀w1:World,Ext w1 w ->(∀g,x =.pointer (some ⟨g,0,none⟩) ->w1.heap.size <=g) ->Ext w1 w'
 shp:Shp w w'
theorem Stored.ext{x:Value}{Fs:List (Value ->World ->Prop)}(hs:∀fP∈Fs,GStb fP){w w':World}(h:Stored x Fs w)(e:Ext w w'):Stored x Fs w':=
 let ⟨g,h1,h2⟩ :=h;⟨g,h1,λk fP hk =>let ⟨s,a,n,c,h3,h4⟩ :=h2 k fP hk;⟨s,a,n,c,h3.ext e,hs fP (List.mem_of_getElem? hk) _ _ _ e.gr h4⟩⟩
theorem Stored.into{x y:Value}{Fs:List (Value ->World ->Prop)}(hs:∀fP∈Fs,GStb fP){w w':World}(h:Stored x Fs w)(e:Into y w w')(hne:y≠x):Stored x Fs w':=
 let ⟨g,h1,h2⟩ :=h;⟨g,h1,λk fP hk =>let ⟨s,a,n,c,h3,h4⟩ :=h2 k fP hk;⟨s,a,n,c,e.oth _ _ _ _ _ _ (by rw[<-h1];exact hne) h3,hs fP (List.mem_of_getElem? hk) _ _ _ e.gr h4⟩⟩
section
variable {P:Program} {ops:Array Oper} {Q:Exit ->Act ->World ->Prop}
abbrev Tg:=Option (Nat×List (Value ->World ->Prop))
structure RgS (P:Program) (ops:Array Oper) (Q:Exit ->Act ->World ->Prop) (ds:List (Option Tmp)) (a0:Act) (w0:World) (L:List (Value ->World ->Prop)) (i:Nat) (o:Oper) (j:Nat) (Fs:List (Value ->World ->Prop)):Prop where
 out:∀(v:Nat ->Value) (w:World),Ext w0 w ->(∀j,(ups .any ops i).contains j =true ->L.getD j (λ_ _ =>True) (v j) w) ->
  ∀K:Act ->World ->Prop,Shut (∀w',Into (v j) w w' ->Stored (v j) Fs w' ->K (jM v a0 0 ds) w') ->Oper.wp P o (jM v a0 0 ds) w K Q
inductive RgAllN (P:Program) (ops:Array Oper) (Q:Exit ->Act ->World ->Prop) (ds:List (Option Tmp)) (a0:Act) (w0:World) (L:List (Value ->World ->Prop)) (boxes:List Nat) (tg:List Tg):Nat ->Nat ->List Oper ->Prop
 |nil {i:Nat} {os:List Oper}:RgAllN P ops Q ds a0 w0 L boxes tg i 0 os
 |op {i k:Nat} {o:Oper} {os:List Oper}:tg.getD i none =none ->RgL P .any ops Q ds a0 w0 L boxes i o ->RgAllN P ops Q ds a0 w0 L boxes tg (i + 1) k os ->RgAllN P ops Q ds a0 w0 L boxes tg i (k + 1) (o ::os)
 |st {i k j:Nat} {Fs:List (Value ->World ->Prop)} {o:Oper} {os:List Oper}:tg.getD i none =some (j,Fs) ->o.dst =none ->o.guard =none ->RgS P ops Q ds a0 w0 L i o j Fs ->RgAllN P ops Q ds a0 w0 L boxes tg (i + 1) k os ->RgAllN P ops Q ds a0 w0 L boxes tg i (k + 1) (o ::os)
variable {ds:List (Option Tmp)} {a0:Act} {w0:World} {L:List (Value ->World ->Prop)} {boxes:List Nat} {tg:List Tg} {i:Nat} {o:Oper}
theorem RgAllN.get{k i:Nat}{os:List Oper}(h:RgAllN P ops Q ds a0 w0 L boxes tg i k os):∀j,j < k ->∀o,os[j]? =some o ->
  (match tg.getD (i + j) none with|none =>RgL P .any ops Q ds a0 w0 L boxes (i + j) o|some (t,Fs) =>o.dst =none/\o.guard =none/\RgS P ops Q ds a0 w0 L (i + j) o t Fs) :=by
 induction h with
 |nil =>intro j hj;omega
 | op ht h _ ih =>
  intro j hj o ho
  cases j with
  | zero =>
   obtain rfl:=zcp
   simp only[Nat.add_zero]
   rw[ht];exact h
  | succ j =>
   have:=ih j zb o zcp
   rwa [Nat.add_assoc,Nat.add_comm 1 j]at this
 | st ht hd hg h _ ih =>
  intro j hj o ho
  cases j with
  | zero =>
   obtain rfl:=zcp
   simp only[Nat.add_zero]
   rw[ht];exact⟨hd,hg,h⟩
  | succ j =>
   have:=ih j zb o zcp
   rwa [Nat.add_assoc,Nat.add_comm 1 j]at this
theorem rgn_main(n:Nat)(hn:n <=ops.size)(hds:(List.range n).map (xC ops)=ds)(hap:xG ops n =true)(htp:jS .any ops n []=true)
  (hst:AllGst L) (hbx:∀i∈boxes,∃m,L.getD i (λ_ _ =>True)=IsNw w0 m)
  (htg:∀i,i < n ->∀j Fs,tg.getD i none =some (j,Fs) ->(ups .any ops i).contains j =true/\boxes.contains j =true/\j < n/\ (∀fP∈Fs,GStb fP)/\∀i2,i2 < n ->i≠i2 ->∀j2 F2,tg.getD i2 none =some (j2,F2) ->j≠j2)
  (hop:RgAllN P ops Q ds a0 w0 L boxes tg 0 n ops.toList)
  (hend:∀v w,Ext w0 w ->(∀i,i < n ->tg.getD i none =none ->L.getD i (λ_ _ =>True) (v i) w) ->(∀i,i < n ->∀j Fs,tg.getD i none =some (j,Fs) ->Stored (v j) Fs w) ->
   (∀i j,i∈boxes ->j∈boxes ->i < n ->j < n ->i≠j ->tg.getD i none =none ->tg.getD j none =none ->v i≠v j) ->wpAny P .any ops Q (ops.size - n) (xE ops.size n) (jM v a0 0 ds) w) :
  ∀ (fuel:Nat) (listed:Array Bool) (v:Nat ->Value) (w:World),listed.size =ops.size ->(∀j,n <=j ->listed.getD j false =false) ->
   fuel + jH listed n =ops.size ->(∀i,listed.getD i false =true ->∀e∈xZ .any ops i,listed.getD e false =true) ->Ext w0 w ->
   (∀i,i < n ->listed.getD i false =true ->tg.getD i none =none ->L.getD i (λ_ _ =>True) (v i) w) ->
   (∀i,i < n ->listed.getD i false =true ->∀j Fs,tg.getD i none =some (j,Fs) ->Stored (v j) Fs w) ->
   (∀i j,i < n ->j < n ->i≠j ->boxes.contains i =true ->boxes.contains j =true ->tg.getD i none =none ->tg.getD j none =none ->listed.getD i false =true ->listed.getD j false =true ->v i≠v j) ->
   (∀i,i < n ->∀j Fs,tg.getD i none =some (j,Fs) ->tg.getD j none =none) ->(∀i,i < n ->tg.getD i none≠none ->∀x w,L.getD i (λ_ _ =>True) x w) ->
   wpAny P .any ops Q fuel listed (zB ops v a0 n) w:=by
 simp only[jS,Bool.and_eq_true,List.all_eq_true,List.mem_range,Bool.or_eq_true,zU]at htp
 obtain⟨htp1,htp2⟩ :=htp
 intro fuel
 induction fuel with
 | zero =>
  intro listed v w hsz hbig hcnt hcl hE hH hS hdis hj0 htr
  have hle:jH listed n <=n:=by
   have:=List.countP_le_length (p:=λi =>listed.getD i false) (l:=List.range n)
   simpa [jH]using this
  have hnn:n =ops.size:=zb
  have hall:∀i,i < n ->listed.getD i false =true:=λi hi =>by
   cases h:listed.getD i false
   ·have:=doneN_lt hi h;omega
   ·rfl
  have hl:listed =xE ops.size n:=by
   apply Array.ext (by simp[xE,hsz])
   intro i h1 h2
   have h3:listed[i]=listed.getD i false:=by simp[h1]
   rw[h3,hall i (by omega)];simp[xE];omega
  have:=hend v w hE (λi hi ht =>hH i hi (hall i hi) ht) (λi hi =>hS i hi (hall i hi)) (λi j hbi hbj hi hj hij ti tj =>hdis i j hi hj hij (List.contains_iff_mem.2 hbi) (List.contains_iff_mem.2 hbj) ti tj (hall i hi) (hall j hj))
  rw[jO v a0 n ds hds,hl]
  rwa [show ops.size - n =0 by omega]at this
 | succ fuel ih =>
  intro listed v w hsz hbig hcnt hcl hE hH hS hdis hj0 htr
  by_cases hall:∃i,i < n/\ (!listed.getD i false)=true
  ·obtain⟨i1,hi1,h1⟩ :=hall
   have hu1:listed.getD i1 false =false:=by simpa using h1
   obtain⟨i0,hi0,h0,hmin⟩ :=exists_least (λi => !listed.getD i false) n ⟨i1,hi1,by rw[hu1];rfl⟩
   have hi0s:i0 < listed.size:=zb
   have hr0:i0∈Region.ready .any ops listed:=ready_of_needs (by simpa [hi0s]using h0) zb (λe he =>by
    have:=hmin e (by simpa using htp2 i0 hi0 e he)
    simpa using this)
   refine⟨λh =>(by rw[h]at hr0;cases hr0),λi hi =>?_⟩
   have hin:i < n:=by
    rcases zQ i n with h|h
    ·exact h
    ·exfalso
     obtain⟨_,o,ho,_⟩ :=mem_ready.1 hi
     have his:i < ops.size:=(Array.getElem?_eq_some_iff.1 ho).1
     rcases(htp1 i his).resolve_left zb i1 hi1 with h2|h2
     ·have h3:=xH hcl i (xZ .any ops i) (xJ hi) i1 (List.contains_iff_mem.1 h2)
      rw[hu1]at h3;cases h3
     ·simp at h2
   obtain⟨hun,o,ho,_⟩ :=mem_ready.1 hi
   have hil:i < listed.size:=zb
   have hunf:listed.getD i false =false:=by simp[hil]at hun ⊢;exact hun
   have hdeps:∀j,(ups .any ops i).contains j =true ->L.getD j (λ_ _ =>True) (v j) w:=λj hj =>by
    have hjl:=xH hcl i (xZ .any ops i) (xJ hi) j (List.contains_iff_mem.1 hj)
    have hjn:j < n:=by
     rcases zQ j n with h|h
     ·exact h
     ·rw[hbig j h]at hjl;cases hjl
    by_cases ht:tg.getD j none =none
    ·exact hH j hjn hjl ht
    ·exact htr j hjn ht _ _
   have hthis:=RgAllN.get hop i hin o zcp
   rw[Nat.zero_add]at hthis
   refine wpOp_step ho λK hK =>?_
   have hdst:o.dst =xC ops i:=by simp[xC,ho]
   cases htgi:tg.getD i none with
   | none =>
    rw[htgi]at hthis
    have hrun:=hthis v w hE hdeps K
    rw[<-jO v a0 n ds hds]at hrun
    refine hrun ?_
    intro x w' e1 hx hbx'
    refine hK _ _ ?_
    rw[hdst,layN_put a0 v i x n hin (λj k hj hk hjk =>dstsApart_spec hap hj hk hjk)]
    refine ih _ _ _ (by simp[hsz]) (λj hj =>?_) ?_ (λj hj e he =>?_) (hE.trans e1) (λj hj hlj ht =>?_) (λk hk hlk j Fs ht =>?_) (λj k hj hk hjk hbj hbk htj htk hlj hlk =>?_) hj0 htr
    ·rw[getD_set_ne false (by omega)];exact hbig j hj
    ·rw[doneN_set _ _ hun,if_pos hin];omega
    ·by_cases hij:i =j
     ·subst hij
      exact getD_set_true (xJ hi e he)
     ·rw[getD_set_ne false hij]at hj
      exact getD_set_true (hcl j hj e he)
    ·by_cases hij:j =i
     ·subst hij;simpa only[updV,if_true]using hx
     ·rw[getD_set_ne false (Ne.symm hij)]at hlj
      simp only[updV];rw[if_neg hij]
      exact hst.get j _ _ _ e1.gr (Shp.of e1) (hH j hj hlj ht)
    ·have hki:k≠i:=λh =>by rw[h,htgi]at ht;cases ht
     rw[getD_set_ne false (Ne.symm hki)]at hlk
     have hji:j≠i:=λh =>by
      have h1:=(htg k hk j Fs ht).1
      have h2:=xH hcl k (xZ .any ops k) (λe he =>hcl k hlk e he) j (List.contains_iff_mem.1 h1)
      rw[h,hunf]at h2;cases h2
     simp only[updV];rw[if_neg hji]
     exact(hS k hk hlk j Fs ht).ext (htg k hk j Fs ht).2.2.2.1 e1
    ·simp only[updV]
     by_cases hji:j =i
     ·subst hji
      rw[if_pos rfl,if_neg (Ne.symm hjk)]
      rw[getD_set_ne false hjk]at hlk
      obtain⟨m,hm⟩ :=hbx k (List.contains_iff_mem.1 hbk)
      have hk2:=hH k hk hlk htk
      rw[hm]at hk2
      obtain⟨g,hg,_,hlt,_⟩ :=hk2
      obtain⟨g',hg',hge⟩ :=hbx' hbj
      rw[hg,hg']
      intro h;injection h with h;injection h with h;injection h with h;omega
     ·rw[if_neg hji]
      rw[getD_set_ne false (Ne.symm hji)]at hlj
      by_cases hki:k =i
      ·subst hki
       rw[if_pos rfl]
       obtain⟨m,hm⟩ :=hbx j (List.contains_iff_mem.1 hbj)
       have hj2:=hH j hj hlj htj
       rw[hm]at hj2
       obtain⟨g,hg,_,hlt,_⟩ :=hj2
       obtain⟨g',hg',hge⟩ :=hbx' hbk
       rw[hg,hg']
       intro h;injection h with h;injection h with h;injection h with h;omega
      ·rw[if_neg hki]
       rw[getD_set_ne false (Ne.symm hki)]at hlk
       exact hdis j k hj hk hjk hbj hbk htj htk hlj hlk
   | some jF =>
    obtain⟨t,Fs⟩ :=jF
    rw[htgi]at hthis
    obtain⟨hd0,hg0,hthis⟩ :=hthis
    obtain⟨hut,hbt,htn,hgF,hsep⟩ :=htg i hin t Fs htgi
    have hrun:=hthis.out v w hE hdeps K
    rw[<-jO v a0 n ds hds]at hrun
    rw[if_pos (by simp[Region.wanted,hg0])]
    refine hrun ?_
    intro w' hin' hst'
    refine hK _ _ ?_
    have hnt:=hdeps t hut
    obtain⟨m,hm⟩ :=hbx t (List.contains_iff_mem.1 hbt)
    rw[hm]at hnt
    obtain⟨gt,hgt,hgt0,_,_⟩ :=hnt
    have htl:=xH hcl i (xZ .any ops i) (xJ hi) t (List.contains_iff_mem.1 hut)
    refine ih _ _ _ (by simp[hsz]) (λj hj =>?_) ?_ (λj hj e he =>?_) (hin'.ext w0 hE (λg hg =>by rw[hgt]at hg;injection hg with hg;injection hg with hg;injection hg with hg;omega)) (λj hj hlj ht =>?_) (λk hk hlk j F2 ht =>?_) (λj k hj hk hjk hbj hbk htj htk hlj hlk =>?_) hj0 htr
    ·rw[getD_set_ne false (by omega)];exact hbig j hj
    ·rw[doneN_set _ _ hun,if_pos hin];omega
    ·by_cases hij:i =j
     ·subst hij
      exact getD_set_true (xJ hi e he)
     ·rw[getD_set_ne false hij]at hj
      exact getD_set_true (hcl j hj e he)
    ·have hij:j≠i:=λh =>by rw[h,htgi]at ht;cases ht
     rw[getD_set_ne false (Ne.symm hij)]at hlj
     exact hst.get j _ _ _ hin'.gr hin'.shp (hH j hj hlj ht)
    ·by_cases hki:k =i
     ·subst hki
      rw[htgi]at ht
      injection ht with ht
      injection ht with h1 h2
      subst h1;subst h2
      exact hst'
     ·rw[getD_set_ne false (Ne.symm hki)]at hlk
      have hjt:t≠j:=hsep k hk (λh =>hki h.symm) j F2 ht
      obtain⟨huj,hbj,hjn,hgF2,_⟩ :=htg k hk j F2 ht
      have hjl:=xH hcl k (xZ .any ops k) (λe he =>hcl k hlk e he) j (List.contains_iff_mem.1 huj)
      exact(hS k hk hlk j F2 ht).into hgF2 hin' (hdis t j htn hjn hjt hbt hbj (hj0 i hin t Fs htgi) (hj0 k hk j F2 ht) htl hjl)
    ·by_cases hji:j =i
     ·rw[hji,htgi]at htj;cases htj
     by_cases hki:k =i
     ·rw[hki,htgi]at htk;cases htk
     rw[getD_set_ne false (Ne.symm hji)]at hlj
     rw[getD_set_ne false (Ne.symm hki)]at hlk
     exact hdis j k hj hk hjk hbj hbk htj htk hlj hlk
  ·have hall':∀i,i < n ->listed.getD i false =true:=λi hi =>by
    cases h:listed.getD i false
    ·exact absurd ⟨i,hi,by rw[h];rfl⟩ hall
    ·rfl
   have hl:listed =xE ops.size n:=by
    apply Array.ext (by simp[xE,hsz])
    intro i h1 h2
    have h3:listed[i]=listed.getD i false:=by simp[h1]
    rw[h3]
    rcases zQ i n with h|h
    ·rw[hall' i h];simp[xE,h]
    ·rw[hbig i h];simp[xE];omega
   have:=hend v w hE (λi hi ht =>hH i hi (hall' i hi) ht) (λi hi =>hS i hi (hall' i hi)) (λi j hbi hbj hi hj hij ti tj =>hdis i j hi hj hij (List.contains_iff_mem.2 hbi) (List.contains_iff_mem.2 hbj) ti tj (hall' i hi) (hall' j hj))
   rw[jO v a0 n ds hds,hl]
   have hdn:=doneN_all n hall'
   rwa [show ops.size - n =fuel + 1 by omega]at this
/-! The rule,its side conditions found by themselves. -/
def AllNw(w0:World)(L:List (Value ->World ->Prop)):List Nat ->Prop
 | [] =>True
 |b ::bs =>(∃m,L.getD b (λ_ _ =>True)=IsNw w0 m)/\AllNw w0 L bs
theorem AllNw.get{L:List (Value ->World ->Prop)}:∀ {bs:List Nat},AllNw w0 L bs ->∀i∈bs,∃m,L.getD i (λ_ _ =>True)=IsNw w0 m
 | [],_,_,h =>by cases h
 | b ::bs,h,i,hi =>by
  rcases List.mem_cons.1 hi with rfl|hi
  ·exact h.1
  ·exact AllNw.get h.2 i hi
abbrev TT:Value ->World ->Prop:=λ_ _ =>True
inductive AllTr:List Tg ->List (Value ->World ->Prop) ->Prop
 |nil {ls:List (Value ->World ->Prop)}:AllTr [] ls
 |none {ts:List Tg} {l:Value ->World ->Prop} {ls:List (Value ->World ->Prop)}:AllTr ts ls ->AllTr (Option.none ::ts) (l ::ls)
 |some {ts:List Tg} {ls:List (Value ->World ->Prop)} {j:Nat} {Fs:List (Value ->World ->Prop)}:(∀fP∈Fs,GStb fP) ->AllTr ts ls ->AllTr (Option.some (j,Fs) ::ts) (TT ::ls)
theorem AllTr.get{tg:List Tg}{L:List (Value ->World ->Prop)}(h:AllTr tg L):∀i j Fs,tg.getD i Option.none =Option.some (j,Fs) ->i < L.length ->L.getD i (λ_ _ =>True)=TT/\∀fP∈Fs,GStb fP:=by
 induction h with
 |nil =>intro i j Fs h _;simp at h
 | none _ ih =>
  intro i j Fs h hi
  cases i with
  |zero =>simp at h
  |succ i =>simpa using ih i j Fs (by simpa using h) (by simpa using hi)
 | some hF _ ih =>
  intro i j Fs h hi
  cases i with
  | zero =>
   simp only[List.getD_cons_zero,Option.some.injEq,Prod.mk.injEq]at h
   obtain⟨rfl,rfl⟩ :=h
   exact⟨rfl,hF⟩
  |succ i =>simpa using ih i j Fs (by simpa using h) (by simpa using hi)
def tgFine(ops:Array Oper)(n:Nat)(boxes:List Nat)(tg:List (Option Nat)):Bool:=
 (List.range n).all λi =>match tg.getD i none with
  |none =>true
  |some j =>(ups .any ops i).contains j && boxes.contains j && decide (j < n) && (tg.getD j none ==none) && (List.range n).all λi2 =>i ==i2 || tg.getD i2 none !=some j
theorem rgn(n:Nat)(ds:List (Option Tmp))(L:List (Value ->World ->Prop))(boxes:List Nat)(tg:List Tg)(tn:List (Option Nat))(fuel:Nat){id:Nat}
  (hop:RgAllN P ops Q ds a0 w0 L boxes tg 0 n ops.toList)
  (hend:∀v w,Ext w0 w ->(∀i,i < n ->tg.getD i none =none ->L.getD i (λ_ _ =>True) (v i) w) ->(∀i,i < n ->∀j Fs,tg.getD i none =some (j,Fs) ->Stored (v j) Fs w) ->
   (∀i j,i∈boxes ->j∈boxes ->i < n ->j < n ->i≠j ->tg.getD i none =none ->tg.getD j none =none ->v i≠v j) ->wpAny P .any ops Q fuel (xE ops.size n) (jM v a0 0 ds) w)
  (hm:P.follows .mixedOrders =true:=by kernel_rfl) (hn:n <=ops.size:=by decide) (hf:ops.size - n =fuel:=by kernel_rfl) (hds:(List.range n).map (xC ops)=ds:=by kernel_rfl) (hap:xG ops n =true:=by kernel_rfl) (htp:jS .any ops n []=true:=by kernel_rfl)
  (htn:tg.map (λt =>t.map (λp =>p.1))=tn:=by kernel_rfl) (hfine:tgFine ops n boxes tn =true:=by kernel_rfl) (hlen:decide (n <=L.length)=true:=by kernel_rfl)
  (hst:AllGst L:=by repeat' (with_reducible first|exact AllGst.nil|apply AllGst.cons|exact Gst.v _|exact Gst.tt|exact Gst.of (IsI.gstb _ _)|exact IsNw.gs _ _|exact Gst.of (IsR.gstb _ _)|apply Gst.q|apply Gst.j|apply Gst.t2|apply Gst.t3))
  (hbx:AllNw w0 L boxes:=by repeat' (first|exact trivial|exact⟨_,rfl⟩|apply zJ))
  (htr:AllTr tg L:=by repeat' (with_reducible first|exact AllTr.nil|apply AllTr.none| (refine AllTr.some ?_ ?_)|exact gs0| (refine gs1 ?_ ?_)|exact IsI.gstb _ _|exact IsR.gstb _ _)) :
  (Code.region id ops true).wp P Q a0 w0:=by
 have hg:∀i,tn.getD i none =(tg.getD i none).map (λp =>p.1) :=λi =>by
  rw[<-htn]
  simp only[List.getD_eq_getElem?_getD,List.getElem?_map]
  cases tg[i]? <;> rfl
 simp only[tgFine,List.all_eq_true,List.mem_range]at hfine
 have hfin:∀i,i < n ->∀j Fs,tg.getD i none =some (j,Fs) ->(ups .any ops i).contains j =true/\boxes.contains j =true/\j < n/\tg.getD j none =none/\∀i2,i2 < n ->i≠i2 ->∀j2 F2,tg.getD i2 none =some (j2,F2) ->j≠j2:=λi hi j Fs ht =>by
  have:=hfine i hi
  rw[hg i,ht]at this
  simp only[Option.map_some,Bool.and_eq_true,zU,List.all_eq_true,List.mem_range,Bool.or_eq_true,beq_iff_eq,bne_iff_ne,ne_eq]at this
  obtain⟨⟨⟨⟨h1,h2⟩,h3⟩,h4⟩,h5⟩ :=this
  refine⟨h1,h2,h3,?_,λi2 hi2 hne j2 F2 ht2 he =>?_⟩
  ·rw[hg j]at h4
   cases h:tg.getD j none with
   |none =>rfl
   |some p =>rw[h]at h4;simp at h4
  ·rcases h5 i2 hi2 with h|h
   ·exact hne h
   ·rw[hg i2,ht2]at h;exact h (by rw[he];rfl)
 have htr':∀i,i < n ->∀j Fs,tg.getD i none =some (j,Fs) ->L.getD i (λ_ _ =>True)=TT/\∀fP∈Fs,GStb fP:=λi hi j Fs ht =>htr.get i j Fs ht (by have:=of_decide_eq_true hlen;omega)
 refine wp_region_any hm ?_
 have hE:Ext w0 w0.drew:=(Ext.refl w0).drew
 have hD:∀m,jH (Array.replicate ops.size false) m =0:=λm =>by
  unfold jH
  rw[List.countP_eq_zero.2]
  intro i _
  simp[xI]
 have:=rgn_main (P:=P) (Q:=Q) (a0:=a0) (w0:=w0) (tg:=tg) (L:=L) (boxes:=boxes) n hn hds hap htp hst hbx.get
  (λi hi j Fs ht =>⟨(hfin i hi j Fs ht).1,(hfin i hi j Fs ht).2.1,(hfin i hi j Fs ht).2.2.1,(htr' i hi j Fs ht).2,(hfin i hi j Fs ht).2.2.2.2⟩)
  hop (λv w e h1 h2 h3 =>by rw[hf];exact hend v w e h1 h2 h3)
  ops.size (Array.replicate ops.size false) (slotVal ops a0) w0.drew zh (λj _ =>by simp[xI]) (by rw[hD];rfl)
  (λi hi =>by simp[xI]at hi) hE (λi hi h =>by simp[xI]at h) (λi hi h =>by simp[xI]at h) (λi j _ _ _ _ _ _ _ h =>by simp[xI]at h)
  (fun i hi j Fs ht =>(hfin i hi j Fs ht).2.2.2.1) (λi hi ht x w =>by
   cases h:tg.getD i none with
   |none =>exact absurd h ht
   |some p =>rw[(htr' i hi p.1 p.2 h).1];trivial)
 have hlay:zB ops (slotVal ops a0) a0 n =a0:=layN_self a0 n
 rwa [hlay]at this
/-! Its rows. -/
variable {os:List Oper} {k:Nat}
theorem RcS(j:Nat){Fs:List (Value ->World ->Prop)}(h:RgS P ops Q ds a0 w0 L i o j Fs)(hs:RgAllN P ops Q ds a0 w0 L boxes tg (i + 1) k os)(ht:tg.getD i none =some (j,Fs) :=by kernel_rfl)(hd:o.dst =none:=by rfl)(hg:o.guard =none:=by rfl):RgAllN P ops Q ds a0 w0 L boxes tg i (k + 1) (o ::os) :=.st ht hd hg h hs
theorem RcK(h:Ok P ops Q ds a0 w0 L boxes i o)(hs:RgAllN P ops Q ds a0 w0 L boxes tg (i + 1) k os)(hg:o.guard =none:=by rfl)(ht:tg.getD i none =none:=by kernel_rfl):RgAllN P ops Q ds a0 w0 L boxes tg i (k + 1) (o ::os) :=.op ht (RgL.mk hg h.out) hs
theorem alN{T m:Nat}(hr:AlO P T m)(ho:o.op =.alloc T:=by rfl)(hi:L.getD i (λ_ _ =>True)=IsNw w0 m:=by kernel_rfl):Ok P ops Q ds a0 w0 L boxes i o:=
 ⟨fun v a w hE hd hf K hK =>by
  obtain⟨w',h1,h2,h3⟩ :=hr w0 w hE.size
  have hrun:(execOp a.eval o).run P w =.ok (.value (.pointer (some ⟨w.heap.size,0,none⟩))) w':=by
   unfold execOp
   rw[ho]
   dsimp only
   simp[h1]
  unfold Oper.wp
  rw[hrun]
  exact hK.out _ w' h2 (by rw[hi];exact h3.nw) FreshIf.yes⟩
theorem Into.put{w:World}{g i n c:Nat}{s:Bool}{a:Option Addr}(b:Bo w g i s a n c)(s':Bool)(a':Option Addr)(n' c':Nat):
  ∃W,W =(w.setCell ⟨g,2 * i,none⟩ (.bool s')).setCell ⟨g,2 * i + 1,none⟩ (.slice a' n' c')/\Bo W g i s' a' n' c'/\Into (.pointer (some ⟨g,0,none⟩)) w W/\ (∀i2 s2 a2 n2 c2,i2≠i ->Bo w g i2 s2 a2 n2 c2 ->Bo W g i2 s2 a2 n2 c2) :=by
 obtain⟨W,hW,b1,p⟩ :=b.put s' a' n' c'
 refine⟨W,hW,b1,⟨p.2.1,λg2 i2 s2 a2 n2 c2 hne h =>p.1 _ _ _ _ _ _ (λhe =>hne (by injection he with he;rw[he])) h,λw1 e hg =>p.2.2 w1 e (hg g rfl),λg2 i2 ⟨s2,a2,n2,c2,h⟩ =>?_⟩,λi2 s2 a2 n2 c2 hne h =>p.1 _ _ _ _ _ _ (λhe =>hne (by injection he with _ he)) h⟩
 by_cases he:(g2,i2)=(g,i)
 ·injection he with h1 h2
  subst h1;subst h2
  exact⟨_,_,_,_,b1⟩
 ·exact⟨_,_,_,_,p.1 _ _ _ _ _ _ he h⟩
theorem sI{T tp j k':Nat}{z:Int}{y:Operand}(hT:StI P T)(hy:Od ops ds a0 w0 L i y (IsI k' z))(ho:o.op =.store T (.tmp tp) y:=by rfl)(hdd:o.dst =none:=by rfl)
  (hj:L.getD j (λ_ _ =>True)=IsNw w0 1:=by kernel_rfl) (hu:(ups .any ops i).contains j =true:=by kernel_rfl) (h1:ds[j]? =some (some tp) :=by kernel_rfl) (h2:(ds.drop (j + 1)).contains (some tp)=false:=by kernel_rfl) (h3:decide (tp < a0.tmps.size)=true:=by kernel_rfl):RgS P ops Q ds a0 w0 L i o j [IsI k' z] :=by
 refine⟨λv w hE hd K hK =>?_⟩
 have hf:=Fr.of ds a0 v
 obtain⟨s,a1,n1,c1,hv,hH⟩ :=hy.out v _ w hE hd hf
 have hp:(jM v a0 0 ds).eval (.tmp tp)=v j:=by rw[eval_tmp,hf.val j tp _ rfl h1 h2 h3]
 have hn:=hd j hu
 rw[hj]at hn
 obtain⟨g,hg,_,_,hb⟩ :=hn
 obtain⟨t0,t1,t2,t3,b0⟩ :=hb 0 dcx
 obtain⟨W,hW,k0,i1,_⟩ :=Into.put b0 s a1 n1 c1
 refine st_wp ho (hp.trans hg) hv (hT w g 0 _ _ _ _ _ _ _ _ b0.c0 b0.c1 b0.f0 b0.f1) ?_
 have hW3:W =((w.setCell ⟨g,0,none⟩ (.bool s)).setCell ⟨g,0 + 1,none⟩ (.slice a1 n1 c1)) :=by rw[hW]
 rw[<-hW3,hdd]
 refine hK.out W (by rw[hg];exact i1) ⟨g,hg,λk fQ hk =>?_⟩
 rcases k with _|k
 ·obtain rfl:IsI k' z =fQ:=by simpa using hk
  exact⟨_,_,_,_,k0,⟨_,_,_,_,rfl,hH.gr i1.gr⟩⟩
 ·simp at hk
theorem Sto.addI{w0 w W:World}{B:List Fld}(S:Sto w0 w B){x:Value}{fP:Value ->World ->Prop}(h:IsNw W 1 x w)(k:Stored x [fP] w)(hW:w0.heap.size <=W.heap.size)(hH:GStb fP):
  ∃g,x =.pointer (some ⟨g,0,none⟩)/\W.heap.size <=g/\ (ApartO g B ->Sto w0 w (((g,0),fP) ::B)) :=by
 obtain⟨g,hg,h1,h2,_⟩ :=h
 obtain⟨g',hg',h3⟩ :=k
 rw[hg]at hg'
 obtain rfl:g =g':=by injection hg' with e;injection e with e;injection e
 obtain⟨s,a,n,c,b,hb⟩ :=h3 0 fP rfl
 exact⟨g,hg,h1,λhap =>S.add b zb (λp hp he =>hap p hp (by rw[he])) hH hb⟩
end
def twsF:Nat ->Nat ->Nat ->Nat×Nat
 |0,a,c =>(a,c)
 |f + 1,a,c =>if a % 2 =1 then(a,c)else twsF f (a / 2) (c + 1)
def tws(a:Nat):Nat×Nat:=twsF a a 0
def sg8(r:Nat):Int:=if r =1\/r =7 then 1 else if r =3\/r =5 then -1 else 0
def krF:Nat ->Nat ->Nat ->Int ->Int
 |0,_,n,k =>if n =1 then k else 0
 | f + 1,a,n,k =>if a =0 then(if n =1 then k else 0)else
  let b:=(tws a).1
  let k:=if (tws a).2 % 2 =1 then k * sg8 (n % 8)else k
  krF f (n % b) b (if b % 4 =3/\n % 4 =3 then -k else k)
def kr(a:Int)(n:Nat):Int:=
 if a % 2 =0/\n % 2 =0 then 0 else
  let m:=(tws n).1
  let k:=if (tws n).2 % 2 =1 then sg8 (a % 8).toNat else 1
  krF m (a % m).toNat m k
theorem twsF_spec:∀(f a c:Nat),0 < a ->a <=f ->(twsF f a c).1 % 2 =1/\0 < (twsF f a c).1/\ (twsF f a c).1 <=a/\c <=(twsF f a c).2/\ (twsF f a c).2 <=c + a:=by
 intro f
 induction f with
 |zero =>intros;omega
 | succ f ih =>
  intro a c ha hf
  unfold twsF
  by_cases h:a % 2 =1
  ·rw[if_pos h];exact⟨h,ha,zL _,zL _,by omega⟩
  ·rw[if_neg h]
   obtain⟨h1,h2,h3,h4,h5⟩ :=ih (a / 2) (c + 1) zb zb
   exact⟨h1,h2,by omega,by omega,by omega⟩
theorem twsF_odd{f a c:Nat}(h:a % 2 =1):twsF (f + 1) a c =(a,c) :=by unfold twsF;rw[if_pos h]
theorem twsF_even{f a c:Nat}(h:a % 2 =0):twsF (f + 1) a c =twsF f (a / 2) (c + 1) :=by conv =>lhs;unfold twsF;rw[if_neg (by omega)]
theorem tws_spec{m:Nat}(h:0 < m):(tws m).1 % 2 =1/\0 < (tws m).1/\ (tws m).1 <=m/\ (tws m).2 <=m:=by
 obtain⟨h1,h2,h3,_,h5⟩ :=twsF_spec m m 0 h (zL _)
 exact⟨h1,h2,h3,by have:=h5;unfold tws;omega⟩
theorem sg8_le(r:Nat): -1 <=sg8 r/\sg8 r <=1:=by unfold sg8;split <;> first|decide| (split <;> decide)
theorem krF_zero{f n:Nat}{k:Int}:krF f 0 n k =if n =1 then k else 0:=by cases f <;> simp[krF]
theorem krF_le:∀(f a n:Nat) (k:Int),-1 <=k/\k <=1 -> -1 <=krF f a n k/\krF f a n k <=1:=by
 have mul:∀k s:Int,-1 <=k/\k <=1 -> -1 <=s/\s <=1 -> -1 <=k * s/\k * s <=1:=by
  intro k s hk hs
  obtain rfl|rfl|rfl:k = -1\/k =0\/k =1:=zb
  ·omega
  ·omega
  ·omega
 intro f
 induction f with
 |zero =>intro a n k hk;unfold krF;split <;> omega
 | succ f ih =>
  intro a n k hk
  unfold krF
  by_cases h:a =0
  ·rw[if_pos h];split <;> omega
  ·rw[if_neg h]
   refine ih _ _ _ ?_
   have h1: -1 <=(if (tws a).2 % 2 =1 then k * sg8 (n % 8)else k)/\ (if (tws a).2 % 2 =1 then k * sg8 (n % 8)else k) <=1:=by
    split
    ·exact mul _ _ hk (sg8_le _)
    ·exact hk
   split <;> omega
theorem kr_le(a:Int)(n:Nat): -1 <=kr a n/\kr a n <=1:=by
 unfold kr
 split
 ·decide
 ·refine krF_le _ _ _ _ ?_
  split
  ·exact sg8_le _
  ·decide
def isD(q:Nat):Bool:=q % 4 ==0 || q % 4 ==3
def cdB(n:Nat):Nat ->Nat
 |0 =>1
 |K + 1 =>if 1 <=K/\n % ((K + 1) * (K + 1))=0/\isD (n / ((K + 1) * (K + 1)))=true then K + 1 else cdB n K
theorem cdB_pos(n:Nat):∀K,1 <=cdB n K/\cdB n K <=K + 1
 |0 =>by simp[cdB]
 | K + 1 =>by
  have:=cdB_pos n K
  unfold cdB
  split <;> omega
theorem sqrt_uniq{n K L:Nat}(h1:K * K <=n)(h2:n < (K + 1) * (K + 1))(h3:L * L <=n)(h4:n < (L + 1) * (L + 1)):K =L:=by
 rcases Nat.lt_trichotomy K L with h|h|h
 ·have:=Nat.mul_le_mul (show K + 1 <=L from h) (show K + 1 <=L from h);omega
 ·exact h
 ·have:=Nat.mul_le_mul (show L + 1 <=K from h) (show L + 1 <=K from h);omega
def unsE(f:Nat)(n:Int):Int:=if n <=0 then 1 else if 1048576 < n then 2 else if Int.gcd f n =1 then 0 else 1
theorem mof_f(w:World)(z:Int)(h1: -9223372036854775808 <=z)(h2:z <=9223372036854775807):Calls prog 152 #[.int .i64 z] w (Ret w (IsI 2 z)) :=by
 have HZ:=hid (zJ h1 h2)
 clear h1 h2
 obtain⟨W,hW,S⟩:∃W,W =w.alloc (.cells #[.bool false,.slice none 0 0] 33)/\Sto w W [((w.heap.size,0),IsI 0 0)] :=⟨_,rfl,((Sto.start w).new1 (w.heap.size) zh false none 0 0 33 (IsI 0 0) (IsI.gstb _ _) (IsI.nil _ _))⟩
 go_enter func152,ntmps152
 go_upto_region 1 with fail
 rw[<-hW]
 clear hW
 refine rgs 2 [some 3,some 4] [iV z,IsI 2 z] [] ?_ ?_
 ·refine Rc jm ?_
  refine Rc (cl1 (en func41) (qA (fP:=iV z) 0 3) (λx0 w' hE d0 =>by{obtain rfl:x0 =.int .i64 z:=d0;exact xT _ z HZ.out.1 HZ.out.2})) ?_
  exact rn0
 intro v W1 e1 hH _
 replace S:=S.mono e1
 have h4:=hH 1 dcx
 simp only[lxE,Nat.reduceAdd]
 clear hH e1
 try simp only[List.drop_succ_cons,List.drop_zero]
 (with_reducible refine stL ?_ zfe);intro KK hKK;refine stI S 0 (w.heap.size) 0 h4 qJ (λW1a S2 G2 =>hKK _ _ ?_) rfl
 replace S:=S2;clear S2 G2 hKK KK h4
 simp only[u0x]at S
 refine zF ?_
 go_wp2_with fail
 obtain⟨s90x,a90x,n90x,c90x,b90x,h90x⟩ :=S.at 0 (w.heap.size) 0 (IsI 2 z) rfl;have L90xa:World.cell? W1a ⟨w.heap.size,0,none⟩=some (.bool s90x) :=b90x.c0;have L90xb:World.cell? W1a ⟨w.heap.size,1,none⟩=some (.slice a90x n90x c90x) :=b90x.c1
 exact zD (v:=.agg #[.bool s90x,.slice a90x n90x c90x]) (by simp[results,results152,go_sem,L90xa,L90xb]) rfl (⟨_,rfl,S.ext,h90x⟩)
theorem mmod_f{k1 k2:Nat}{z1 z2:Int}{x y:Value}{w:World}(hx:IsI k1 z1 x w)(hy:IsI k2 z2 y w)(l1:k1 <=33554432)(l2:k2 <=33554432)(hz:z2≠0):
  Calls prog 117 #[x,y] w (Ret w (IsI k2 (z1 % z2))) :=by
 have HZ:=hid hz
 clear hz
 obtain⟨s1,a1,n1,c1,rfl,h1⟩ :=hx
 have h1:IsI _ _ _ w:=⟨_,_,_,_,rfl,h1⟩
 obtain⟨s2,a2,n2,c2,rfl,h2⟩ :=hy
 have h2:IsI _ _ _ w:=⟨_,_,_,_,rfl,h2⟩
 obtain⟨W,hW,S⟩:∃W,W =((w.alloc (.cells #[.bool s1,.slice a1 n1 c1] 33)).alloc (.cells #[.bool s2,.slice a2 n2 c2] 33)).alloc (.cells #[.bool false,.slice none 0 0] 33)/\Sto w W [((w.heap.size + 1 + 1,0),IsI 0 0),((w.heap.size + 1,0),IsI k2 z2),((w.heap.size,0),IsI k1 z1)] :=⟨_,rfl,((((Sto.start w).new1 (w.heap.size) zh s1 a1 n1 c1 33 (IsI k1 z1) (IsI.gstb _ _) (h1)).new1 (w.heap.size + 1) zh s2 a2 n2 c2 33 (IsI k2 z2) (IsI.gstb _ _) (h2.ext ((Ext.refl _).alloc _))).new1 (w.heap.size + 1 + 1) zh false none 0 0 33 (IsI 0 0) (IsI.gstb _ _) (IsI.nil _ _))⟩
 clear h1 h2
 go_enter func117,ntmps117
 go_upto_region 1 with fail
 rw[<-hW]
 clear hW
 have hl:=hid S.lt;have hw:=S.ext.size
 refine rgs 9 [some 9,some 10,some 11,some 8,some 12,some 13,some 14,some 5,some 6] [IsI k1 z1,IsI k2 z2,IsT3 (IsI k1 (z1 / z2)) (IsI k2 (z1 % z2)) (iV 0),IsT3 (IsI k1 (z1 / z2)) (IsI k2 (z1 % z2)) (iV 0),IsI k1 (z1 / z2),IsI k2 (z1 % z2),iV 0,IsBo W 1,IsBo W 1] [7,8] ?_ ?_
 ·refine Rc zay ?_
  refine Rc (ldI S 1 (w.heap.size + 1) 0 (qD 3) qG) ?_
  refine Rc ze4 ?_
  refine Rc (mv (qA 2 11)) ?_
  refine Rc (ex (qC 3 8) t30) ?_
  refine Rc (ex (qC 3 8) t31) ?_
  refine Rc (ex (qC 3 8) t32) ?_
  refine Rc zdi ?_
  refine Rc zdi ?_
  exact rn0
 intro v W1 e1 hH hne
 replace S:=S.mono e1
 have h12:=hH 4 dcx
 have h13:=hH 5 dcx
 have v6:v 6 =.int .i64 0:=hH 6 dcx
 obtain⟨g5,v7,q2,b1,_⟩ :=(hH 7 dcx:IsBo W 1 (v 7) W1)
 replace S:=S.addN 1 (ApartO.old hl.out q2) (zN hw q2) b1
 obtain⟨g6,v8,q4,b3,_⟩ :=(hH 8 dcx:IsBo W 1 (v 8) W1)
 replace S:=S.addN 1 (ApartO.cons (λh =>hne 7 8 dcx dcx dcx dcx dcx (by rw[v7,v8,h])) (ApartO.old hl.out q4)) (zN hw q4) b3
 simp only[newF,List.cons_append,List.nil_append]at S
 simp only[lxE,Nat.reduceAdd]
 rw[v6,v7,v8]
 clear b1 b3 hl hw hne v6 v7 v8 hH e1
 try simp only[List.drop_succ_cons,List.drop_zero]
 (with_reducible refine stL ?_ zfe);intro KK hKK;refine stI S 1 (g5) 0 h12 qJ (λW1a S2 G2 =>hKK _ _ ?_) rfl
 replace h13:=(IsI.gstb _ _) _ _ _ G2 h13
 replace S:=S2;clear S2 G2 hKK KK h12
 simp only[u0x,u1x]at S
 try simp only[List.drop_succ_cons,List.drop_zero]
 (with_reducible refine stL ?_ zfe);intro KK hKK;refine stI S 0 (g6) 0 h13 qJ (λW1b S2 G2 =>hKK _ _ ?_) rfl
 replace S:=S2;clear S2 G2 hKK KK h13
 simp only[u0x]at S
 refine zT λK hK =>?_;go_simp;refine hK _ _ ?_;clear hK K
 refine zF ?_
 go_upto_region 2 with fail
 refine rgs 1 [some 15] [IsI k2 (z1 % z2)] [] ?_ ?_
 ·refine Rc za0 ?_
  exact rn0
 intro v W2 e1 hH _
 replace S:=S.mono e1
 have h15:=hH 0 dcx
 simp only[lxE]
 clear hH e1
 try simp only[List.drop_succ_cons,List.drop_zero]
 (with_reducible refine stL ?_ zfe);intro KK hKK;refine stI S 2 (w.heap.size + 1 + 1) 0 h15 qJ (λW2a S2 G2 =>hKK _ _ ?_) rfl
 replace S:=S2;clear S2 G2 hKK KK h15
 simp only[u0x,u1x]at S
 refine zF ?_
 go_wp2_with fail
 obtain⟨s90x,a90x,n90x,c90x,b90x,h90x⟩ :=S.at 2 (w.heap.size + 1 + 1) 0 (IsI k2 (z1 % z2)) rfl;have L90xa:World.cell? W2a ⟨w.heap.size + 1 + 1,0,none⟩=some (.bool s90x) :=b90x.c0;have L90xb:World.cell? W2a ⟨w.heap.size + 1 + 1,1,none⟩=some (.slice a90x n90x c90x) :=b90x.c1
 exact zD (v:=.agg #[.bool s90x,.slice a90x n90x c90x]) (by simp[results,results117,go_sem,L90xa,L90xb]) rfl (⟨_,rfl,S.ext,h90x⟩)
theorem mdiv_f{k1 k2:Nat}{z1 z2:Int}{x y:Value}{w:World}(hx:IsI k1 z1 x w)(hy:IsI k2 z2 y w)(l1:k1 <=33554432)(l2:k2 <=33554432)(hz:z2≠0):
  Calls prog 153 #[x,y] w (Ret w (IsI k1 (z1 / z2))) :=by
 have HZ:=hid hz
 clear hz
 obtain⟨s1,a1,n1,c1,rfl,h1⟩ :=hx
 have h1:IsI _ _ _ w:=⟨_,_,_,_,rfl,h1⟩
 obtain⟨s2,a2,n2,c2,rfl,h2⟩ :=hy
 have h2:IsI _ _ _ w:=⟨_,_,_,_,rfl,h2⟩
 obtain⟨W,hW,S⟩:∃W,W =((w.alloc (.cells #[.bool s1,.slice a1 n1 c1] 33)).alloc (.cells #[.bool s2,.slice a2 n2 c2] 33)).alloc (.cells #[.bool false,.slice none 0 0] 33)/\Sto w W [((w.heap.size + 1 + 1,0),IsI 0 0),((w.heap.size + 1,0),IsI k2 z2),((w.heap.size,0),IsI k1 z1)] :=⟨_,rfl,((((Sto.start w).new1 (w.heap.size) zh s1 a1 n1 c1 33 (IsI k1 z1) (IsI.gstb _ _) (h1)).new1 (w.heap.size + 1) zh s2 a2 n2 c2 33 (IsI k2 z2) (IsI.gstb _ _) (h2.ext ((Ext.refl _).alloc _))).new1 (w.heap.size + 1 + 1) zh false none 0 0 33 (IsI 0 0) (IsI.gstb _ _) (IsI.nil _ _))⟩
 clear h1 h2
 go_enter func153,ntmps153
 go_upto_region 1 with fail
 rw[<-hW]
 clear hW
 have hl:=hid S.lt;have hw:=S.ext.size
 refine rgs 9 [some 9,some 10,some 11,some 8,some 12,some 13,some 14,some 5,some 6] [IsI k1 z1,IsI k2 z2,IsT3 (IsI k1 (z1 / z2)) (IsI k2 (z1 % z2)) (iV 0),IsT3 (IsI k1 (z1 / z2)) (IsI k2 (z1 % z2)) (iV 0),IsI k1 (z1 / z2),IsI k2 (z1 % z2),iV 0,IsBo W 1,IsBo W 1] [7,8] ?_ ?_
 ·refine Rc zay ?_
  refine Rc (ldI S 1 (w.heap.size + 1) 0 (qD 3) qG) ?_
  refine Rc ze4 ?_
  refine Rc (mv (qA 2 11)) ?_
  refine Rc (ex (qC 3 8) t30) ?_
  refine Rc (ex (qC 3 8) t31) ?_
  refine Rc (ex (qC 3 8) t32) ?_
  refine Rc zdi ?_
  refine Rc zdi ?_
  exact rn0
 intro v W1 e1 hH hne
 replace S:=S.mono e1
 have h12:=hH 4 dcx
 have h13:=hH 5 dcx
 have v6:v 6 =.int .i64 0:=hH 6 dcx
 obtain⟨g5,v7,q2,b1,_⟩ :=(hH 7 dcx:IsBo W 1 (v 7) W1)
 replace S:=S.addN 1 (ApartO.old hl.out q2) (zN hw q2) b1
 obtain⟨g6,v8,q4,b3,_⟩ :=(hH 8 dcx:IsBo W 1 (v 8) W1)
 replace S:=S.addN 1 (ApartO.cons (λh =>hne 7 8 dcx dcx dcx dcx dcx (by rw[v7,v8,h])) (ApartO.old hl.out q4)) (zN hw q4) b3
 simp only[newF,List.cons_append,List.nil_append]at S
 simp only[lxE,Nat.reduceAdd]
 rw[v6,v7,v8]
 clear b1 b3 hl hw hne v6 v7 v8 hH e1
 try simp only[List.drop_succ_cons,List.drop_zero]
 (with_reducible refine stL ?_ zfe);intro KK hKK;refine stI S 1 (g5) 0 h12 qJ (λW1a S2 G2 =>hKK _ _ ?_) rfl
 replace h13:=(IsI.gstb _ _) _ _ _ G2 h13
 replace S:=S2;clear S2 G2 hKK KK h12
 simp only[u0x,u1x]at S
 try simp only[List.drop_succ_cons,List.drop_zero]
 (with_reducible refine stL ?_ zfe);intro KK hKK;refine stI S 0 (g6) 0 h13 qJ (λW1b S2 G2 =>hKK _ _ ?_) rfl
 replace S:=S2;clear S2 G2 hKK KK h13
 simp only[u0x]at S
 refine zT λK hK =>?_;go_simp;refine hK _ _ ?_;clear hK K
 refine zF ?_
 go_upto_region 2 with fail
 refine rgs 1 [some 15] [IsI k1 (z1 / z2)] [] ?_ ?_
 ·refine Rc (ldI S 1 (g5) 0 (qD 5) qG) ?_
  exact rn0
 intro v W2 e1 hH _
 replace S:=S.mono e1
 have h15:=hH 0 dcx
 simp only[lxE]
 clear hH e1
 try simp only[List.drop_succ_cons,List.drop_zero]
 (with_reducible refine stL ?_ zfe);intro KK hKK;refine stI S 2 (w.heap.size + 1 + 1) 0 h15 qJ (λW2a S2 G2 =>hKK _ _ ?_) rfl
 replace S:=S2;clear S2 G2 hKK KK h15
 simp only[u0x,u1x]at S
 refine zF ?_
 go_wp2_with fail
 obtain⟨s90x,a90x,n90x,c90x,b90x,h90x⟩ :=S.at 2 (w.heap.size + 1 + 1) 0 (IsI k1 (z1 / z2)) rfl;have L90xa:World.cell? W2a ⟨w.heap.size + 1 + 1,0,none⟩=some (.bool s90x) :=b90x.c0;have L90xb:World.cell? W2a ⟨w.heap.size + 1 + 1,1,none⟩=some (.slice a90x n90x c90x) :=b90x.c1
 exact zD (v:=.agg #[.bool s90x,.slice a90x n90x c90x]) (by simp[results,results153,go_sem,L90xa,L90xb]) rfl (⟨_,rfl,S.ext,h90x⟩)
theorem mone_f{k1:Nat}{z1:Int}{x:Value}{w:World}{q:Bool}(hx:IsI k1 z1 x w)(l1:k1 <=33554432)(hq:decide (z1 =1)=q):Calls prog 112 #[x] w (Ret w (IsV (.bool q))) :=by
 obtain⟨cc,hc⟩:∃c,qK z1 1 =c:=⟨_,rfl⟩
 have HC:=hid hc
 have HQ:=hid (show(cc ==0)=q by
  rw[<-hq,<-hc,Bool.eq_iff_iff,beq_iff_eq,decide_eq_true_iff];unfold qK
  split
  ·omega
  ·split <;> omega)
 clear hq hc
 obtain⟨s1,a1,n1,c1,rfl,h1⟩ :=hx
 have h1:IsI _ _ _ w:=⟨_,_,_,_,rfl,h1⟩
 obtain⟨W,hW,S⟩:∃W,W =w.alloc (.cells #[.bool s1,.slice a1 n1 c1] 33)/\Sto w W [((w.heap.size,0),IsI k1 z1)] :=⟨_,rfl,((Sto.start w).new1 (w.heap.size) zh s1 a1 n1 c1 33 (IsI k1 z1) (IsI.gstb _ _) (h1))⟩
 clear h1
 go_enter func112,ntmps112
 go_upto_region 1 with fail
 rw[<-hW]
 clear hW
 refine rg 5 [some 3,some 4,some 5,some 6,some 2] [IsI k1 z1,IsI 2 1,iV cc,IsV (.bool q),IsV (.bool q)] [] 0 ?_ ?_
 ·refine Rc zj ?_
  refine Rc (cl1 (en func152) qE (λx0 w' hE d0 =>by{obtain rfl:x0 =.int .i64 1:=d0;exact mof_f _ 1 dcx dcx})) ?_
  refine Rc (cl2 (en func52) (qA (fP:=IsI k1 z1) 0 3) (qA (fP:=IsI 2 1) 1 4) (λx0 x1 w' hE d0 d1 =>zC (jB d0 d1 zb dcx) λ_ _ h =>h.int HC.out)) ?_
  refine Rc (bn (r:=.bool q) (qC 2 5) qE (hr:=λw =>by have hx9:=HQ.out;go_simp)) ?_
  refine Rc (mv (qA 3 6)) ?_
  exact rn0
 intro v W1 e1 hH _
 replace S:=S.mono e1
 have v4:v 4 =.bool q:=hH 4 dcx
 simp only[lxE,Nat.reduceAdd]
 rw[v4]
 clear v4 hH e1
 refine zO za ?_ _
 go_wp2_with fail
 exact zD (v:=.bool q) (by simp[results,results112,go_sem]) rfl (⟨_,rfl,S.ext,rfl⟩)
theorem RetB{w w':World}{vs:Ending}{b b':Bool}(h:Ret w (IsV (.bool b)) vs w')(e:b =b'):Ret w (IsV (.bool b')) vs w':=e ▸ h
theorem twos_f{k1 z:Nat}{x:Value}{w:World}(hx:IsI k1 (z:Int) x w)(l1:k1 <=33554432)(hz:0 < z/\z <=4611686018427387904):Calls prog 115 #[x] w (Ret w (IsT2 (IsI k1 (((tws z).1:Nat):Int)) (iV (((tws z).2:Nat):Int)))) :=by
 have HZ:=hid hz
 have HK:=hid l1
 clear hz l1
 obtain⟨s1,a1,n1,c1,rfl,h1⟩ :=hx
 have h1:IsI _ _ _ w:=⟨_,_,_,_,rfl,h1⟩
 obtain⟨W,hW,S⟩:∃W,W =(w.alloc (.cells #[.bool s1,.slice a1 n1 c1] 33)).alloc (.cells #[.bool false,.slice none 0 0] 33)/\Sto w W [((w.heap.size + 1,0),IsI 0 0),((w.heap.size,0),IsI k1 ((z:Int)))] :=⟨_,rfl,(((Sto.start w).new1 (w.heap.size) zh s1 a1 n1 c1 33 (IsI k1 ((z:Int))) (IsI.gstb _ _) (h1)).new1 (w.heap.size + 1) zh false none 0 0 33 (IsI 0 0) (IsI.gstb _ _) (IsI.nil _ _))⟩
 clear h1
 go_enter func115,ntmps115
 go_upto_region 1 with fail
 rw[<-hW]
 clear hW
 refine rgs 1 [some 4] [iV 0] [] ?_ ?_
 ·refine Rc zaf ?_
  exact rn0
 intro v W1 e1 hH _
 replace S:=S.mono e1
 have v0:v 0 =.int .i64 0:=hH 0 dcx
 simp only[lxE]
 rw[v0]
 clear v0 hH e1
 refine zF ?_
 go_wp2_with fail
 have S0:=hid S;clear S
 go_loopg [4] z (λgk v4 wr =>∃a c f:Nat,v4 =.int .i64 (c:Int)/\a =gk/\0 < a/\a <=f/\c + a <=z/\twsF f a c =tws z/\Hid (Sto w wr [((w.heap.size + 1,0),IsI 0 0),((w.heap.size,0),IsI k1 ((a:Int)))]))
 case atStart =>exact⟨z,0,z,rfl,rfl,HZ.out.1,zL _,by omega,rfl,S0⟩
 case round =>
  clear S0
  obtain⟨a,c,f,rfl,hg,ha,hf,hca,ht,S⟩ :=hrel
  have S:=S.out
  have HZ1:=HZ.out
  obtain⟨f,rfl⟩:∃j,f =j + 1:=⟨f - 1,by omega⟩
  rcases Nat.mod_two_eq_zero_or_one a with h2|h2
  ·skip
   have HODD:=hid (show decide ((a:Int) % 2 =1)=false from decide_eq_false zb)
   have HHV:=hid (show(a:Int) / 2 =(((a / 2:Nat):Nat):Int)by omega)
   have HADD:=hid (show IntKind.i64.wrap ((c:Int) + 1)=(c:Int) + 1 by simp only[IntKind.wrap_i64];omega)
   rw[twsF_even h2]at ht
   have HHT:=hid ht;have HHN:=hid (zJ hg (zJ ha (zJ hf (zJ hca h2))));clear ht hg ha hf hca h2 HZ1
   go_upto_region 2 with fail
   refine rgs 3 [some 5,some 6,some 7] [IsI k1 ((a:Int)),IsV (.bool false),IsV (.bool true)] [] ?_ ?_
   ·refine Rc zaz ?_
    refine Rc zbs ?_
    refine Rc (nt (qC 1 6)) ?_
    exact rn0
   intro v W2 e1 hH _
   replace S:=S.mono e1
   have v2:v 2 =.bool true:=hH 2 dcx
   simp only[lxE,Nat.reduceAdd]
   rw[v2]
   clear v2 hH e1
   refine zF ?_
   go_upto_region 3 with fail
   refine rg 3 [some 8,some 9,some 10] [IsI k1 ((a:Int)),IsI 2 2,IsI k1 ((((a / 2:Nat):Nat):Int))] [] 1 ?_ ?_
   ·refine Rc zaz ?_
    refine Rc (cl1 (en func152) qE (λx0 w' hE d0 =>by{obtain rfl:x0 =.int .i64 2:=d0;exact mof_f _ 2 dcx dcx})) ?_
    refine Rc (cl2 (en func153) (qA (fP:=IsI k1 ((a:Int))) 0 8) (qA (fP:=IsI 2 2) 1 9) (λx0 x1 w' hE d0 d1 =>zC (mdiv_f d0 d1 HK.out dcx dcx) λ_ _ h =>h.eqz HHV.out)) ?_
    exact rn0
   intro v W3 e1 hH _
   replace S:=S.mono e1
   have h10:=hH 2 dcx
   simp only[lxE,Nat.reduceAdd]
   clear hH e1
   refine stA 3 (h:=λKK hKK =>stI S 1 (w.heap.size) 0 h10 qJ (λW3a S2 G2 =>hKK _ _ ?_) rfl)
   replace S:=S2;clear S2 G2 hKK KK h10
   simp only[u0x,u1x]at S
   refine zO za ?_ _
   have hx9:=HADD.out
   have S':=hid S;clear S
   go_wp2_with fail
   go_roundg (a / 2)
   case measure =>have:=HHN.out;omega
   case rel =>exact⟨a / 2,c + 1,f,by rw[zV];rfl,rfl,by have:=HHN.out;omega,by have:=HHN.out;omega,by have:=HHN.out;omega,HHT.out,S'⟩
  ·skip
   have HODD:=hid (show decide ((a:Int) % 2 =1)=true from decide_eq_true zb)
   rw[twsF_odd h2]at ht
   have HE:=hid ht;clear ht hg ha hf hca h2 HZ1
   go_upto_region 2 with fail
   refine rgs 3 [some 5,some 6,some 7] [IsI k1 ((a:Int)),IsV (.bool true),IsV (.bool false)] [] ?_ ?_
   ·refine Rc zaz ?_
    refine Rc zbs ?_
    refine Rc (nt (qC 1 6)) ?_
    exact rn0
   intro v W2 e1 hH _
   replace S:=S.mono e1
   have v2:v 2 =.bool false:=hH 2 dcx
   simp only[lxE,Nat.reduceAdd]
   rw[v2]
   clear v2 hH e1
   refine zF ?_
   go_upto_region 5 with fail
   refine rgs 2 [some 13,some 14] [IsI k1 ((a:Int)),iV (c:Int)] [] ?_ ?_
   ·refine Rc zaz ?_
    refine Rc zdf ?_
    exact rn0
   intro v W5 e1 hH _
   replace S:=S.mono e1
   have h13:=hH 0 dcx
   have v1:v 1 =.int .i64 (c:Int) :=hH 1 dcx
   simp only[lxE,Nat.reduceAdd]
   rw[v1]
   clear v1 hH e1
   try simp only[List.drop_succ_cons,List.drop_zero]
   (with_reducible refine stL ?_ zfe);intro KK hKK;refine stI S 0 (w.heap.size + 1) 0 h13 qJ (λW5a S2 G2 =>hKK _ _ ?_) rfl
   replace S:=S2;clear S2 G2 hKK KK h13
   simp only[u0x]at S
   refine zT λK hK =>?_;go_simp;refine hK _ _ ?_;clear hK K
   refine zF ?_
   go_wp2_with fail
   obtain⟨s90x,a90x,n90x,c90x,b90x,h90x⟩ :=S.at 0 (w.heap.size + 1) 0 (IsI k1 ((a:Int))) rfl;have L90xa:World.cell? W5a ⟨w.heap.size + 1,0,none⟩=some (.bool s90x) :=b90x.c0;have L90xb:World.cell? W5a ⟨w.heap.size + 1,1,none⟩=some (.slice a90x n90x c90x) :=b90x.c1
   exact zD (v:=.tuple #[.agg #[.bool s90x,.slice a90x n90x c90x],.int .i64 (c:Int)]) (by simp[results,results115,go_sem,L90xa,L90xb]) rfl (⟨_,rfl,S.ext,by rw[<-HE.out];exact⟨_,_,rfl,h90x,rfl⟩⟩)
end Go.Proofs.YtknffgdbdadpcaaGreatDoor
