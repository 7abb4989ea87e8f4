/- Lemmas. -/
import Derived.Test.YtkeikfekkdplgaaGreatDoorDivW
import Derived.Test.YtkeikfekkdplgaaGreatDoorProg
import Derived.Test.YtkeikfekkdplgaaGreatDoorBase
import Derived.WalkLawsBesides
import Derived.WalkSpells
import Derived.Deep.AppendSrc
import Derived.Lib.ItoaMem
import Derived.Lib.Repeat
import Derived.Lib.Join
namespace Go.Proofs.YtkeikfekkdplgaaGreatDoor
section
open Go Go.RowKit
open Go.Proofs.Tryz
abbrev jX:=@wpList_step
def Ret(w:World)(fP:Value ->World ->Prop)(e:Ending)(w':World):Prop:=∃x,e =.returned x/\Ext w w'/\fP x w'
def IsT2(fP fS:Value ->World ->Prop):Value ->World ->Prop:=λx w =>∃a b,x =.tuple #[a,b]/\fP a w/\fS b w
def IsT3(fP fS fQ:Value ->World ->Prop):Value ->World ->Prop:=λx w =>∃a b c,x =.tuple #[a,b,c]/\fP a w/\fS b w/\fQ c w
theorem IsT2.stb{fP fS:Value ->World ->Prop}(h:Stb fP)(k:Stb fS):Stb (IsT2 fP fS) :=λ_ _ _ e ⟨a,b,h1,h2,h3⟩ =>⟨a,b,h1,h _ _ _ e h2,k _ _ _ e h3⟩
instance {fP fS:Value ->World ->Prop} [StbC fP] [StbC fS]:StbC (IsT2 fP fS) :=⟨IsT2.stb StbC.out StbC.out⟩
theorem IsT3.stb{fP fS fQ:Value ->World ->Prop}(h:Stb fP)(k:Stb fS)(l:Stb fQ):Stb (IsT3 fP fS fQ) :=λ_ _ _ e ⟨a,b,c,h1,h2,h3,h4⟩ =>⟨a,b,c,h1,h _ _ _ e h2,k _ _ _ e h3,l _ _ _ e h4⟩
instance {fP fS fQ:Value ->World ->Prop} [StbC fP] [StbC fS] [StbC fQ]:StbC (IsT3 fP fS fQ) :=⟨IsT3.stb StbC.out StbC.out StbC.out⟩
def GStb(fP:Value ->World ->Prop):Prop:=∀x w w',Gr w w' ->fP x w ->fP x w'
theorem GStb.stb{fP:Value ->World ->Prop}(h:GStb fP):Stb fP:=λx _ _ e hx =>h x _ _ e.gr hx
theorem IsI.gstb(k:Nat)(z:Int):GStb (IsI k z) :=λ_ _ _ e ⟨s,a,n,c,h1,h2⟩ =>⟨s,a,n,c,h1,h2.gr e⟩
theorem IsI.ext{k:Nat}{z:Int}{x:Value}{w w':World}(h:IsI k z x w)(e:Ext w w'):IsI k z x w':=(IsI.stb k z) _ _ _ e h
theorem IsI.nil(w:World)(k:Nat):IsI k 0 (.agg #[.bool false,.slice none 0 0]) w:=⟨_,_,_,_,rfl,IntAt.nil w k⟩
theorem IsI.tight{k k':Nat}{z:Int}{x:Value}{w:World}(h:IsI k z x w)(hz:z.natAbs < 4294967296 ^ k'):IsI k' z x w:=
 let ⟨s,a,n,c,h1,h2⟩ :=h;⟨s,a,n,c,h1,h2.tight hz⟩
theorem IsI.mono{k k':Nat}{z:Int}{x:Value}{w:World}(h:IsI k z x w)(hk:k <=k'):IsI k' z x w:=
 let ⟨s,a,n,c,h1,h2⟩ :=h;⟨s,a,n,c,h1,h2.mono hk⟩
def IsR(s:Bool)(xs:List Nat):Value ->World ->Prop:=λx w =>∃a n c,x =.agg #[.bool s,.slice a n c]/\Wd w a n c xs
theorem IsR.gstb(s:Bool)(xs:List Nat):GStb (IsR s xs) :=λ_ _ _ e ⟨a,n,c,h1,h2⟩ =>⟨a,n,c,h1,h2.gr e⟩
theorem IsR.stb(s:Bool)(xs:List Nat):Stb (IsR s xs) :=(IsR.gstb s xs).stb
instance (s:Bool) (xs:List Nat):StbC (IsR s xs) :=⟨IsR.stb s xs⟩
structure St (w0 w:World) (B:List (Nat× (Value ->World ->Prop))):Prop where
 ext:Ext w0 w
 box:∀p∈B,w0.heap.size <=p.1/\∃s a n c,Bx w p.1 s a n c/\p.2 (.agg #[.bool s,.slice a n c]) w
 stb:∀p∈B,GStb p.2
 apart:B.Pairwise (λp q =>p.1≠q.1)
theorem St.start(w:World):St w w [] :=⟨Ext.refl w,(λ_ h =>by cases h),(λ_ h =>by cases h),List.Pairwise.nil⟩
theorem St.mono{w0 w w':World}{B:List (Nat× (Value ->World ->Prop))}(h:St w0 w B)(e:Ext w w'):St w0 w' B:=
 ⟨h.ext.trans e,λp hp =>let ⟨h1,s,a,n,c,h2,h3⟩ :=h.box p hp;⟨h1,s,a,n,c,h2.ext e,h.stb p hp _ _ _ e.gr h3⟩,h.stb,h.apart⟩
theorem St.get{w0 w:World}{B:List (Nat× (Value ->World ->Prop))}(h:St w0 w B)(i:Nat)(p:Nat× (Value ->World ->Prop))(hp:B[i]? =some p):
  ∃s a n c,Bx w p.1 s a n c/\p.2 (.agg #[.bool s,.slice a n c]) w:=(h.box p (List.mem_of_getElem? hp)).2
theorem St.lt{w0 w:World}{B:List (Nat× (Value ->World ->Prop))}(h:St w0 w B):∀p∈B,p.1 < w.heap.size:=λp hp =>
 let ⟨_,_,_,_,_,h2,_⟩ :=h.box p hp;h2.lt
theorem St.add{w0 w:World}{B:List (Nat× (Value ->World ->Prop))}(h:St w0 w B){g:Nat}{s:Bool}{a:Option Addr}{n c:Nat}{fP:Value ->World ->Prop}(hb:Bx w g s a n c)(hg:w0.heap.size <=g)(hn:∀p∈B,p.1≠g)
  (hs:GStb fP) (hZ:fP (.agg #[.bool s,.slice a n c]) w):St w0 w ((g,fP) ::B) :=by
 refine⟨h.ext,λp hp =>?_,λp hp =>?_,List.Pairwise.cons (λq hq he =>hn q hq he.symm) h.apart⟩
 ·rcases List.mem_cons.1 hp with rfl|hp
  ·exact⟨hg,s,a,n,c,hb,hZ⟩
  ·exact h.box p hp
 ·rcases List.mem_cons.1 hp with rfl|hp
  ·exact hs
  ·exact h.stb p hp
theorem St.new{w0 w:World}{B:List (Nat× (Value ->World ->Prop))}(h:St w0 w B)(s:Bool)(a:Option Addr)(n c:Nat)(t:TypeId)(fP:Value ->World ->Prop)(hs:GStb fP)(hZ:fP (.agg #[.bool s,.slice a n c]) w):
  St w0 (w.alloc (.cells #[.bool s,.slice a n c] t)) ((w.heap.size,fP) ::B) :=by
 have e:Ext w (w.alloc (.cells #[.bool s,.slice a n c] t)) :=(Ext.refl w).alloc _
 exact(h.mono e).add (s:=s) (a:=a) (n:=n) (c:=c) ⟨by simp,by simp,by simp,by simp⟩ h.ext.size (λp hp he =>by have:=h.lt p hp;omega) hs (hs _ _ _ e.gr hZ)
theorem St.put{w0 w:World}{B:List (Nat× (Value ->World ->Prop))}(h:St w0 w B)(i:Nat)(g:Nat)(fP fS:Value ->World ->Prop)(hp:B[i]? =some (g,fP))(s:Bool)(a:Option Addr)(n c:Nat)(hs:GStb fS)(hG:fS (.agg #[.bool s,.slice a n c]) w):
  ∃W,W =(w.setCell ⟨g,0,none⟩ (.bool s)).setCell ⟨g,1,none⟩ (.slice a n c)/\St w0 W (B.set i (g,fS))/\Gr w W/\ (∀g2 s2 a2 n2 c2,g2≠g ->Bx w g2 s2 a2 n2 c2 ->Bx W g2 s2 a2 n2 c2) :=by
 obtain⟨s',a',n',c',hb,_⟩ :=(h.box _ (List.mem_of_getElem? hp)).2
 have hg:=(h.box _ (List.mem_of_getElem? hp)).1
 obtain⟨W,h1,h2,h3⟩ :=hb.put' s a n c
 have hi:i < B.length:=(List.getElem?_eq_some_iff.1 hp).1
 have hBi:B[i]=(g,fP) :=(List.getElem?_eq_some_iff.1 hp).2
 refine⟨W,h1,⟨h.ext.pt h3 hg,λp hpm =>?_,λp hpm =>?_,?_⟩,h3.2.1,λ_ _ _ _ _ hg2 hb2 =>hb2.pt h3 hg2⟩
 ·rcases List.mem_or_eq_of_mem_set hpm with hpm'|rfl
  ·by_cases hgp:p.1 =g
   ·obtain⟨j,hj,hpj⟩ :=List.mem_iff_getElem.1 hpm
    by_cases hij:i =j
    ·subst hij
     rw[List.getElem_set_self]at hpj
     subst hpj
     exact⟨hg,s,a,n,c,h2,hs _ _ _ h3.2.1 hG⟩
    ·rw[List.getElem_set_ne hij]at hpj
     exfalso
     have hj':j < B.length:=yx
     rcases Nat.lt_or_gt_of_ne hij with hlt|hlt
     ·have:=List.pairwise_iff_getElem.1 h.apart i j hi hj' hlt
      rw[hBi,hpj]at this;exact this hgp.symm
     ·have:=List.pairwise_iff_getElem.1 h.apart j i hj' hi hlt
      rw[hBi,hpj]at this;exact this hgp
   ·obtain⟨h4,s4,a4,n4,c4,h5,h6⟩ :=h.box p hpm'
    exact⟨h4,s4,a4,n4,c4,h5.pt h3 hgp,h.stb p hpm' _ _ _ h3.2.1 h6⟩
  ·exact⟨hg,s,a,n,c,h2,hs _ _ _ h3.2.1 hG⟩
 ·rcases List.mem_or_eq_of_mem_set hpm with hpm'|rfl
  ·exact h.stb p hpm'
  ·exact hs
 ·rw[List.pairwise_iff_getElem]
  intro j k hj hk hjk
  have hj':j < B.length:=yx
  have hk':k < B.length:=by simpa using hk
  have key:=List.pairwise_iff_getElem.1 h.apart j k hj' hk' hjk
  rw[List.getElem_set,List.getElem_set]
  split
  ·rename_i h5;subst h5
   rw[hBi]at key
   split
   ·omega
   ·exact key
  ·split
   ·rename_i h5;subst h5;rw[hBi]at key;exact key
   ·exact key
/-! ### The contracts in this form -/
theorem RInt.ret{w:World}{k:Nat}{z:Int}{e:Ending}{w':World}(h:RInt w k z e w'):Ret w (IsI k z) e w':=
 let ⟨s,a,n,c,h1,h2,h3⟩ :=h;⟨_,h1,h2,s,a,n,c,rfl,h3⟩
theorem RVal.ret{w:World}{v:Value}{e:Ending}{w':World}(h:RVal w v e w'):Ret w (IsV v) e w':=⟨_,h.1,h.2,rfl⟩
theorem Ret.mono{w:World}{fP fS:Value ->World ->Prop}{e:Ending}{w':World}(h:Ret w fP e w')(hi:∀x w,fP x w ->fS x w):Ret w fS e w':=
 let ⟨x,h1,h2,h3⟩ :=h;⟨x,h1,h2,hi _ _ h3⟩
theorem Add_f{k1 k2:Nat}{z1 z2:Int}{x y:Value}{w:World}(hx:IsI k1 z1 x w)(hy:IsI k2 z2 y w)(l1:k1 <=268435456)(l2:k2 <=268435456):Calls prog 140 #[x,y] w (Ret w (IsI (max k1 k2 + 1) (z1 + z2))) :=by
 obtain⟨s,a,n,c,rfl,h1⟩ :=hx;obtain⟨s',a',n',c',rfl,h2⟩ :=hy
 exact jJ (Add_c w s s' a a' n n' c c' k1 k2 z1 z2 h1 h2 l1 l2) λ_ _ h =>h.ret
theorem Sub_f{k1 k2:Nat}{z1 z2:Int}{x y:Value}{w:World}(hx:IsI k1 z1 x w)(hy:IsI k2 z2 y w)(l1:k1 <=268435456)(l2:k2 <=268435456):Calls prog 142 #[x,y] w (Ret w (IsI (max k1 k2 + 1) (z1 - z2))) :=by
 obtain⟨s,a,n,c,rfl,h1⟩ :=hx;obtain⟨s',a',n',c',rfl,h2⟩ :=hy
 exact jJ (Sub_c w s s' a a' n n' c c' k1 k2 z1 z2 h1 h2 l1 l2) λ_ _ h =>h.ret
theorem Mul_f{k1 k2:Nat}{z1 z2:Int}{x y:Value}{w:World}(hx:IsI k1 z1 x w)(hy:IsI k2 z2 y w)(l1:k1 <=268435456)(l2:k2 <=268435456):Calls prog 129 #[x,y] w (Ret w (IsI (k1 + k2) (z1 * z2))) :=by
 obtain⟨s,a,n,c,rfl,h1⟩ :=hx;obtain⟨s',a',n',c',rfl,h2⟩ :=hy
 exact jJ (Mul_c w s s' a a' n n' c c' k1 k2 z1 z2 h1 h2 l1 l2) λ_ _ h =>h.ret
theorem Cmp_f{k1 k2:Nat}{z1 z2:Int}{x y:Value}{w:World}(hx:IsI k1 z1 x w)(hy:IsI k2 z2 y w)(l1:k1 <=268435456)(l2:k2 <=268435456):Calls prog 150 #[x,y] w (Ret w (iV (qM z1 z2))) :=by
 obtain⟨s,a,n,c,rfl,h1⟩ :=hx;obtain⟨s',a',n',c',rfl,h2⟩ :=hy
 exact jJ (Cmp_c w s s' a a' n n' c c' k1 k2 z1 z2 h1 h2 l1 l2) λ_ _ h =>h.ret
theorem Gcd_f{k1 k2:Nat}{z1 z2:Int}{x y:Value}{w:World}(hx:IsI k1 z1 x w)(hy:IsI k2 z2 y w)(l1:k1 <=134217728)(l2:k2 <=134217728)(hu:z2 =1):Calls prog 175 #[x,y] w (Ret w (IsI (max k1 k2) (Int.gcd z1 z2:Nat))) :=by
 obtain⟨s,a,n,c,rfl,h1⟩ :=hx;obtain⟨s',a',n',c',rfl,h2⟩ :=hy
 exact jJ (Gcd_c w s s' a a' n n' c c' k1 k2 z1 z2 h1 h2 l1 l2 hu) λ_ _ h =>h.ret
theorem DivMod_f{k1 k2:Nat}{z1 z2:Int}{x y:Value}{w:World}(hx:IsI k1 z1 x w)(hy:IsI k2 z2 y w)(l1:k1 <=134217728)(l2:k2 <=134217728)(hz:z2 =1):Calls prog 213 #[x,y] w (Ret w (IsT3 (IsI k1 (z1 / z2)) (IsI k2 (z1 % z2)) (iV 0))) :=by
 obtain⟨s,a,n,c,rfl,h1⟩ :=hx;obtain⟨s',a',n',c',rfl,h2⟩ :=hy
 refine jJ (DivMod_c w s s' a a' n n' c c' k1 k2 z1 z2 h1 h2 l1 l2 hz) λe w' ⟨s1,a1,n1,c1,s2,a2,n2,c2,h3,h4,h5,h6⟩ =>?_
 exact⟨_,h3,h4,_,_,_,rfl,⟨_,_,_,_,rfl,h5⟩,⟨_,_,_,_,rfl,h6⟩,rfl⟩
theorem Abs_f{k1:Nat}{z1:Int}{x:Value}{w:World}(hx:IsI k1 z1 x w):Calls prog 130 #[x] w (Ret w (IsI k1 z1.natAbs)) :=by
 obtain⟨s,a,n,c,rfl,h1⟩ :=hx
 exact jJ (Abs_c w s a n c k1 z1 h1) λ_ _ h =>h.ret
theorem Sign_f{k1:Nat}{z1:Int}{x:Value}{w:World}(hx:IsI k1 z1 x w):Calls prog 127 #[x] w (Ret w (iV z1.sign)) :=by
 obtain⟨s,a,n,c,rfl,h1⟩ :=hx
 exact jJ (Sign_c w s a n c k1 z1 h1) λ_ _ h =>h.ret
theorem Bits_f{k1:Nat}{z1:Int}{x:Value}{w:World}(hx:IsI k1 z1 x w)(l1:k1 <=268435456):Calls prog 190 #[x] w (Ret w (iV (bitLen z1.natAbs:Nat))) :=by
 obtain⟨s,a,n,c,rfl,h1⟩ :=hx
 exact jJ (Bits_c w s a n c k1 z1 h1 l1) λ_ _ h =>h.ret
theorem Of_f(w:World)(n:Int)(h0: -9223372036854775808 <=n)(h1:n <=9223372036854775807):Calls prog 108 #[.int .i64 n] w (Ret w (IsI 2 n)) :=
 jJ (Of_c w n h0 h1) λ_ _ h =>h.ret

section
variable {P:Program} {ops:Array Oper} {Q:Exit ->Act ->World ->Prop}
theorem wp_list_rg(n:Nat)(L:List (Value ->World ->Prop))(boxes:List Nat){a0:Act}{w0:World}(ds:List (Option Tmp))
  (hn:n <=ops.size) (hds:(List.range n).map (qP ops)=ds) (hap:qO ops n =true) (htp2:∀i,i < n ->∀e∈qS .any ops i,e < i)
  (hst:AllStb L) (hbx:∀i∈boxes,IsBox (L.getD i (λ_ _ =>True)))
  (hop:RgAll P .any ops Q ds a0 w0 L boxes 0 n ops.toList)
  (hend:∀v w,Ext w0 w ->(∀i,i < n ->L.getD i (λ_ _ =>True) (v i) w) ->(∀i j,i∈boxes ->j∈boxes ->i < n ->j < n ->i≠j ->v i≠v j) ->
   wpList P ops Q (ops.toList.drop n) (qW v a0 0 ds) w) :
  ∀ (m k:Nat) (v:Nat ->Value) (w:World),k + m =n ->Ext w0 w ->(∀i,i < k ->L.getD i (λ_ _ =>True) (v i) w) ->
   (∀i j,i < k ->j < k ->i≠j ->i∈boxes ->j∈boxes ->v i≠v j) ->wpList P ops Q (ops.toList.drop k) (qT ops v a0 n) w:=by
 intro m
 induction m with
 | zero =>
  intro k v w hk hR hZ hd
  obtain rfl:k =n:=by omega
  rw[qY v a0 k ds hds]
  exact hend v w hR hZ (λi j hi hj hin hjn hij =>hd i j hin hjn hij hi hj)
 | succ m ih =>
  intro k v w hk hR hZ hd
  have hks:k < ops.size:=by omega
  have ho:ops[k]? =some ops[k] :=by simp[hks]
  have hdrop:ops.toList.drop k =ops[k] ::ops.toList.drop (k + 1) :=by
   rw[List.drop_eq_getElem_cons (show k < ops.toList.length by rw[Array.length_toList];exact hks)];simp
  rw[hdrop]
  refine jX λK hK =>?_
  have h1:=RgAll.get n 0 ops.toList hop k (by omega) ops[k] (by simp)
  rw[Nat.zero_add]at h1
  have h2:=h1 v w hR (λj hj =>?_) K
  ·rw [<-qY v a0 n ds hds]at h2
   refine h2 ?_
   intro x w' hE hx hf
   refine hK _ _ ?_
   have hdst:(ops[k]).dst =qP ops k:=by simp[qP,ho]
   rw[hdst,layN_put a0 v k x n (by omega) (λi j hi hj hij =>xM hap hi hj hij)]
   refine ih (k + 1) _ w' (by omega) (hR.trans hE) (λi hi =>?_) (λi j hi hj hij hbi hbj =>?_)
   ·by_cases hik:i =k
    ·subst hik;simpa only[xW,if_true]using hx
    ·simp only[xW];rw[if_neg hik];exact hst.get i _ _ _ hE (hZ i (by omega))
   ·simp only[xW]
    by_cases hik:i =k
    ·subst hik
     rw[if_pos rfl,if_neg (Ne.symm hij)]
     obtain⟨g,hg,hlt⟩ :=hbx j hbj _ _ (hZ j (by omega))
     obtain⟨g',hg',hge⟩ :=hf (List.contains_iff_mem.2 hbi)
     rw[hg,hg']
     intro h;injection h with h;injection h with h;injection h with h;omega
    ·rw[if_neg hik]
     by_cases hjk:j =k
     ·subst hjk
      rw[if_pos rfl]
      obtain⟨g,hg,hlt⟩ :=hbx i hbi _ _ (hZ i (by omega))
      obtain⟨g',hg',hge⟩ :=hf (List.contains_iff_mem.2 hbj)
      rw[hg,hg']
      intro h;injection h with h;injection h with h;injection h with h;omega
     ·rw[if_neg hjk];exact hd i j (by omega) (by omega) hij hbi hbj
  ·have key:(qG ops.size k).getD j false =true:=
    qK (md:=.any) (ops:=ops) (listed:=qG ops.size k)
     (fun i hi e he =>by
      have hik:i < k/\i < ops.size:=by
       rcases jU i ops.size with h|h
       ·simp[qG,h]at hi;exact⟨hi,h⟩
       ·simp[qG,h]at hi
      have:=htp2 i (by omega) e he
      have hes:e < ops.size:=by omega
      simp[qG,hes];omega)
     k (qS .any ops k)
     (fun e he =>by
      have:=htp2 k (by omega) e he
      have hes:e < ops.size:=by omega
      simp[qG,hes];omega) j (List.contains_iff_mem.1 hj)
   rcases jU j ops.size with h|h
   ·simp[qG,h]at key;exact hZ j key
   ·simp[qG,h]at key
def backOk(ops:Array Oper)(n:Nat):Bool:=(List.range n).all λi =>(qS .any ops i).all λe =>decide (e < i)
theorem qI(n:Nat)(ds:List (Option Tmp))(L:List (Value ->World ->Prop))(boxes:List Nat){a0:Act}{w0:World}{id:Nat}
  (hn:n <=ops.size) (hds:(List.range n).map (qP ops)=ds) (hap:qO ops n =true) (htp:backOk ops n =true)
  (hst:AllStb L) (hbx:∀i∈boxes,IsBox (L.getD i (λ_ _ =>True)))
  (hop:RgAll P .any ops Q ds a0 w0 L boxes 0 n ops.toList)
  (hend:∀v w,Ext w0 w ->(∀i,i < n ->L.getD i (λ_ _ =>True) (v i) w) ->(∀i j,i∈boxes ->j∈boxes ->i < n ->j < n ->i≠j ->v i≠v j) ->
   wpList P ops Q (ops.toList.drop n) (qW v a0 0 ds) w) :
  (Code.region id ops false).wp P Q a0 w0:=by
 refine wp_region_list ?_
 simp only[backOk,List.all_eq_true,List.mem_range,jY]at htp
 have:=wp_list_rg n L boxes ds hn hds hap htp hst hbx hop hend n 0 (xT ops a0) w0 (by omega) (Ext.refl _) (λi hi =>by omega) (λi j hi =>by omega)
 have hlay:qT ops (xT ops a0) a0 n =a0:=layN_self a0 n
 rwa [hlay,List.drop_zero]at this
theorem wp_region_rgO(n:Nat)(opt:List Nat)(ds:List (Option Tmp))(L:List (Value ->World ->Prop))(boxes:List Nat)(fuel:Nat){a0:Act}{w0:World}{id:Nat}
  (hm:P.follows .mixedOrders =true) (hn:n <=ops.size) (hf:ops.size - n =fuel) (hds:(List.range n).map (qP ops)=ds) (hap:qO ops n =true) (htp:xD .any ops n opt =true) (hoo:optOk .any ops n opt =true) (hob:opt.all (λi => !boxes.contains i)=true)
  (hst:AllStb L) (hbx:∀i∈boxes,IsBox (L.getD i (λ_ _ =>True)))
  (hY:∀i∈opt,∀(v:Nat ->Value) (w:World),Ext w0 w ->(∀j,(ups .any ops i).contains j =true ->L.getD j (λ_ _ =>True) (v j) w) ->∃x o,ops[i]? =some o/\Yields P ops o x (qW v a0 0 ds)/\L.getD i (λ_ _ =>True) x w)
  (hop:RgAll P .any ops (NoPanic Q) ds a0 w0 L boxes 0 n ops.toList)
  (hend:∀v w,Ext w0 w ->(∀i,i < n ->L.getD i (λ_ _ =>True) (v i) w) ->(∀i j,i∈boxes ->j∈boxes ->i < n ->j < n ->i≠j ->v i≠v j) ->
   wpAny P .any ops (NoPanic Q) fuel (qG ops.size n) (qW v a0 0 ds) w) :
  (Code.region id ops true).wp P Q a0 w0:=by
 refine wp_region_noPanic ?_
 refine wp_region_any hm ?_
 have hE:Ext w0 w0.drew:=(Ext.refl w0).drew
 have hD:∀m,qU (Array.replicate ops.size false) m =0:=λm =>by
  unfold qU
  rw[List.countP_eq_zero.2]
  intro i _
  simp[qH]
 refine wpAny_rgO n [] opt ds L boxes fuel ?_ hn hf hds hap htp hoo hst hbx (by simp) (by simp) (λi hi =>⟨?_,(λ_ _ _ _ _ h =>h),λv w hR =>hY i hi v w (hE.trans hR)⟩) ?_ (λv w hR =>hend v w (hE.trans hR))
 ·simp[startOk,hD,qH]
 ·simp only[List.all_eq_true,Bool.not_eq_true']at hob;exact hob i hi
 ·have key:∀(k i:Nat) (os:List Oper),RgAll P .any ops (NoPanic Q) ds a0 w0 L boxes i k os ->RgAll P .any ops (NoPanic Q) ds a0 w0.drew L boxes i k os:=by
   intro k
   induction k with
   |zero =>intro i os _;cases os <;> trivial
   | succ k ih =>
    intro i os h
    cases os with
    |nil =>trivial
    |cons o os =>exact⟨λv w hR =>h.1 v w (hE.trans hR),ih _ _ h.2⟩
  exact key n 0 ops.toList hop
end
/-! ### Words for walks that a program has printed -/
theorem St.at{w0 w:World}{B:List (Nat× (Value ->World ->Prop))}(h:St w0 w B)(i:Nat)(g:Nat)(fP:Value ->World ->Prop)(hp:B[i]? =some (g,fP)):
  ∃s a n c,Bx w g s a n c/\fP (.agg #[.bool s,.slice a n c]) w:=h.get i _ hp
theorem St.new'{w0 w:World}{B:List (Nat× (Value ->World ->Prop))}(h:St w0 w B)(g:Nat)(hg:w.heap.size =g)(s:Bool)(a:Option Addr)(n c:Nat)(t:TypeId)(fP:Value ->World ->Prop)(hs:GStb fP)(hZ:fP (.agg #[.bool s,.slice a n c]) w):
  St w0 (w.alloc (.cells #[.bool s,.slice a n c] t)) ((g,fP) ::B) :=hg ▸ h.new s a n c t fP hs hZ
theorem St.tail{w0 w:World}{p:Nat× (Value ->World ->Prop)}{B:List (Nat× (Value ->World ->Prop))}(h:St w0 w (p ::B)):St w0 w B:=
 ⟨h.ext,λq hq =>h.box q (List.mem_cons_of_mem _ hq),λq hq =>h.stb q (List.mem_cons_of_mem _ hq),(List.pairwise_cons.1 h.apart).2⟩
def Apart(g:Nat)(B:List (Nat× (Value ->World ->Prop))):Prop:=∀p∈B,p.1≠g
theorem Apart.old{W:World}{B:List (Nat× (Value ->World ->Prop))}{g:Nat}(h:∀p∈B,p.1 < W.heap.size)(hg:W.heap.size <=g):Apart g B:=λp hp he =>by have:=h p hp;omega
theorem Apart.cons{g g':Nat}{fP:Value ->World ->Prop}{B:List (Nat× (Value ->World ->Prop))}(h:g'≠g)(k:Apart g B):Apart g ((g',fP) ::B) :=λp hp =>by
 rcases List.mem_cons.1 hp with rfl|hp
 ·exact h
 ·exact k p hp
theorem St.addN{w0 w:World}{B:List (Nat× (Value ->World ->Prop))}(h:St w0 w B){g:Nat}(hn:Apart g B)(hg:w0.heap.size <=g)(hb:Bx w g false none 0 0):St w0 w ((g,IsI 0 0) ::B) :=
 h.add hb hg hn (IsI.gstb 0 0) (IsI.nil w 0)
theorem St.weaken{w0 w:World}{B:List (Nat× (Value ->World ->Prop))}(h:St w0 w B)(i:Nat)(g:Nat)(fP fS:Value ->World ->Prop)(hp:B[i]? =some (g,fP))(hs:GStb fS)(hi:∀x,fP x w ->fS x w):St w0 w (B.set i (g,fS)) :=by
 obtain⟨s,a,n,c,hb,hZ⟩ :=h.at i g fP hp
 have hil:i < B.length:=(List.getElem?_eq_some_iff.1 hp).1
 have hBi:B[i]=(g,fP) :=(List.getElem?_eq_some_iff.1 hp).2
 refine⟨h.ext,λp hpm =>?_,λp hpm =>?_,?_⟩
 ·rcases List.mem_or_eq_of_mem_set hpm with hpm'|rfl
  ·exact h.box p hpm'
  ·exact⟨(h.box _ (List.mem_of_getElem? hp)).1,s,a,n,c,hb,hi _ hZ⟩
 ·rcases List.mem_or_eq_of_mem_set hpm with hpm'|rfl
  ·exact h.stb p hpm'
  ·exact hs
 ·rw[List.pairwise_iff_getElem]
  intro j k hj hk hjk
  have hj':j < B.length:=yx
  have hk':k < B.length:=by simpa using hk
  have key:=List.pairwise_iff_getElem.1 h.apart j k hj' hk' hjk
  rw[List.getElem_set,List.getElem_set]
  split
  ·rename_i h5;subst h5
   rw[hBi]at key
   split
   ·omega
   ·exact key
  ·split
   ·rename_i h5;subst h5;rw[hBi]at key;exact key
   ·exact key
theorem Ret.val{w:World}{u v:Value}{e:Ending}{w':World}(h:Ret w (IsV v) e w')(hv:v =u):Ret w (IsV u) e w':=hv ▸ h
theorem Ret.int{w:World}{i j:Int}{k:IntKind}{e:Ending}{w':World}(h:Ret w (IsV (.int k i)) e w')(hv:i =j):Ret w (IsV (.int k j)) e w':=hv ▸ h
theorem Ret.eqz{w:World}{k:Nat}{z z':Int}{e:Ending}{w':World}(h:Ret w (IsI k z) e w')(hz:z =z'):Ret w (IsI k z') e w':=hz ▸ h
def IsMag(k:Nat)(z:Int):Value ->World ->Prop:=λx w =>∃s a n c,x =.slice a n c/\IntAt w k s a n c z
theorem IsMag.stb(k:Nat)(z:Int):Stb (IsMag k z) :=λ_ _ _ e ⟨s,a,n,c,h1,h2⟩ =>⟨s,a,n,c,h1,h2.ext e⟩
instance (k:Nat) (z:Int):StbC (IsMag k z) :=⟨IsMag.stb k z⟩
def IsPos:Value ->World ->Prop:=λx _ =>∃n:Nat,x =.int .i64 (n:Int)/\0 < n/\n <=9223372036854775807
theorem IsPos.stb:Stb IsPos:=λ_ _ _ _ h =>h
instance:StbC IsPos:=⟨IsPos.stb⟩
theorem IntAt.len{w:World}{k n cap:Nat}{s:Bool}{ao:Option Addr}{z:Int}(h:IntAt w k s ao n cap z):n <=9223372036854775807:=by
 obtain⟨m,⟨xs,h1,_⟩,_⟩ :=h
 have:=h1.capo;have:=h1.big;omega
end
section
open Go Go.RowKit
open Go.Proofs.Tryz
theorem yw{P:Prop}(h:P:=by simpa using h):P:=h
set_option maxRecDepth 100000
set_option maxHeartbeats 1000000
theorem rtrim_wd(w:World)(ao:Option Addr)(n cap:Nat)(xs:List Nat)(h:Wd w ao n cap xs):
    Calls prog 79 #[.slice ao n cap] w λe w'=>∃n',e=.returned (.slice ao n' cap)/\w=w'/\NatAt w n ao n' cap (qD xs):=by
  have hl:=h.len;have hcapo:=h.capo;have hbig:=h.big;have hfull:qD (xs.take n)=qD xs:=by rw[List.take_of_length_le (by omega)]
  have fin:∀k,k<=n->qD (xs.take k)=qD (xs.take n)->(0<k->xs.getD (k-1) 0≠0)->NatAt w n ao k cap (qD xs):=λk hk he hz=>
    ⟨xs.take k,h.take k hk,hk,λh0=>by rw[getD_take _ _ _ (by omega)];exact hz h0,by rw[he,hfull]⟩
  have step:∀k,0<k->xs.getD (k-1) 0=0->qD (xs.take (k-1))=qD (xs.take k):=λk h0 hz=>by
    have:=natVal_take_zero xs (k-1) hz;rw[show k-1+1=k from by omega]at this;exact this.symm
  have Hfin:=hid fin;have Hstep:=hid step;have Hfull:=hid hfull;clear fin step hfull;rcases h.at_ with rfl| ⟨b,off,rfl,hb,hc⟩
  · clear h
    go_enter func79,ntmps79
    go_wp2
    refine wp_loop_rounds 1 ?_;rw[rounds_succ]
    go_wp2
    go_ret
    exact⟨0,rfl,rfl,Hfin.out 0 (by omega) rfl (by omega)⟩
  · clear h
    have HC:=hid hc;clear hc;go_enter func79,ntmps79
    go_wp2
    go_loop [0] (λv=>∃k:Nat,k<=n/\v=.slice (some ⟨b,off,none⟩) k cap/\Hid (qD (xs.take k)=qD (xs.take n))) (λv=>match v with| .slice _ k _=>k|_=>0)
    case atStart=>exact⟨n,by omega,rfl,rfl⟩
    case round=>
      obtain⟨k,hk,rfl,hkeep⟩:=hrel;by_cases h0:0<k
      · have hcell:=HC.out (k-1) (by omega)
        by_cases hz:xs.getD (k-1) 0=0
        · have hz2:((xs.getD (k-1) 0:Nat):Int)=0:=by omega
          rw[hz2]at hcell;have Hz:=hid hz;clear hz hz2
          go_wp2
          go_round
          case rel=>exact⟨k-1,by omega,rfl,(Hstep.out k h0 Hz.out).trans hkeep⟩
          case measure=>simp;omega
        · obtain⟨x,hx⟩:∃x,x=xs.getD (k-1) 0:=⟨_,rfl⟩
          rw[<-hx]at hcell;have hz2:((x:Int)==0)=false:=by simpa [hx]using hz
          have Hz:=hid hz;clear hz hx
          go_wp2
          go_ret
          exact⟨k,rfl,rfl,Hfin.out k hk hkeep (λ_=>Hz.out)⟩
      · go_wp2
        go_ret
        exact⟨k,rfl,rfl,Hfin.out k hk hkeep (λh=>absurd h h0)⟩
theorem rmade_c(w:World)(s:Bool)(ao:Option Addr)(n cap:Nat)(xs:List Nat)(z:Int)(h:Wd w ao n cap xs)(hz:z=if s then -(qD xs:Int)else qD xs):
    Calls prog 59 #[.bool s,.slice ao n cap] w (RInt w n z):=by
  have h1:=hid (rtrim_wd _ ao n cap xs (h.ext ((Ext.refl w).alloc (.cells #[.bool false,.slice none 0 0] 28))));have Hz:=hid hz;have Hh:=hid h;clear hz h;go_enter func59,ntmps59;go_wp2_with fail;refine(h1.out).mono ?_;rintro e w' ⟨n',rfl,rfl,hn⟩;clear h1;have hle:=hn.le;have hn:=hn.back Hh.out ((Ext.refl w).alloc _) hle;by_cases h0:n'=0
  · have hm:=(hn.zero).2 h0
    have hz0:z=0:=by rw[Hz.out,hm];cases s <;> rfl
    subst h0;go_wp2_with fail;refine jK (v:=.agg #[.bool false,.slice none 0 0]) (by simp[results,results59,go_sem]) rfl ?_;rw[hz0];exact⟨_,_,_,_,rfl,(Ext.refl w).alloc _,IntAt.zero.mono (by omega)⟩
  · have h0':((n':Int)==0)=false:=by rw[jM];omega
    have h00:=hid h0;clear h0;go_wp2_with fail;refine jK (v:=.agg #[.bool s,.slice ao n' cap]) (by simp[results,results59,go_sem]) rfl ?_;refine⟨_,_,_,_,rfl,(Ext.refl w).alloc _,?_⟩;rw[Hz.out];exact IntAt.mk (hn.ext ((Ext.refl w).alloc _)) s h00.out
theorem rsize_same(w:World)(a1 a2:Option Addr)(n c1 c2:Nat)(A B:List Nat)(h1:Wd w a1 n c1 A)(h2:Wd w a2 n c2 B)(s1:n<=1073741824):
    Calls prog 63 #[.slice a1 n c1,.slice a2 n c2] w (RVal w (.int .i64 (qM (qD A) (qD B)))):=by
  have HA:=hid h1.lt;have HB:=hid h2.lt;have HlA:=hid h1.len;have HlB:=hid h2.len;have HW1:=hid h1;have HW2:=hid h2;have sh1:=h1.shape;have sh2:=h2.shape;clear h1 h2;rcases sh1 with sh1| ⟨b1,off1,rfl,hb1⟩ <;> rcases sh2 with sh2| ⟨b2,off2,rfl,hb2⟩
  all_goals
    go_enter func63,ntmps63;go_wp2_with fail
    go_loopw [5] (λi wr=>∃z:Int,-1<=z/\z<n/\i=.int .i64 z/\Hid (SameFrom A B (z+1).toNat)/\Ext w wr) (λi _=>(intOf i+1).toNat)
    case atStart=>exact⟨(n:Int)-1,by omega,by omega,rfl,λi hi=>by rw[xV _ _ (by rw[HlA.out];omega),xV _ _ (by rw[HlB.out];omega)],Ext.refl _⟩
    case round=>
      obtain⟨z,hz1,hz2,rfl,hsame,hext⟩:=hrel;by_cases hz0:0<=z
      · obtain ⟨j,rfl⟩:=Int.eq_ofNat_of_zero_le hz0
        first
          | (exfalso;omega)
          | (have c1:=(HW1.out.ext hext).cell j (by omega)
             have c2:=(HW2.out.ext hext).cell j (by omega);have hsame':SameFrom A B (j+1):=hsame.out
             have HC:∀x y:Nat,A.getD j 0=x->B.getD j 0=y->(x<y->qD A<qD B)/\(y<x->qD B<qD A)/\(x=y->SameFrom A B j):=λx y hx hy=>
               ⟨λh=>hsame'.lt HA.out (by omega) HlA.out HlB.out zac,λh=>hsame'.symm.lt HB.out (by omega) HlB.out HlA.out zac,λh=>hsame'.step zac⟩
             have HC:=hid (HC _ _ rfl rfl);clear hsame hsame';generalize A.getD j 0=x at c1 HC;generalize B.getD j 0=y at c2 HC;go_wp2_with fail;rcases Nat.lt_trichotomy x y with h|h|h
             · have hv:decide (x<y)=true:=by simpa using h
               have hg:=hid (HC.out.1 h);clear HC
               go_quiet (fail)
               go_wp2_with fail
               go_ret
               exact⟨ret_int (by rw[jC (by exact_mod_cast hg.out)]),hext.drewN _⟩
             · have hv:decide (x<y)=false:=by simp;omega
               have hv2:decide (y<x)=false:=zaf
               have hg:=hid (HC.out.2.2 h);clear HC h
               go_quiet (fail)
               go_wp2_with fail
               go_quiet (fail)
               go_wp2_with fail
               go_roundw
               case rel=>exact⟨(j:Int)-1,by omega,by omega,rfl,by rw[show((j:Int)-1+1).toNat=j from by omega];exact hg,hext.drewN _⟩
               case measure=>simp[intOf]
             · have hv:decide (x<y)=false:=by simp;omega
               have hv2:decide (y<x)=true:=yw
               have hg:=hid (HC.out.2.1 h);clear HC
               go_quiet (fail)
               go_wp2_with fail
               go_quiet (fail)
               go_wp2_with fail
               go_ret
               exact⟨ret_int (by rw[jD (by exact_mod_cast hg.out)]),(hext.drewN _).drewN _⟩)
      · obtain rfl:z= -1:=by omega
        have hv:SameFrom A B 0:=hsame.out;have hg:=hid (hv.eq HlA.out HlB.out);clear hv hsame;go_wp2_with fail
        go_ret
        exact⟨ret_int (cmpI_eq (congrArg (λn:Nat=>(n:Int)) hg.out)).symm,hext⟩
theorem rsize_c(w:World)(a1 a2:Option Addr)(n1 n2 c1 c2 k1 k2 x y:Nat)(h1:NatAt w k1 a1 n1 c1 x)(h2:NatAt w k2 a2 n2 c2 y)(s1:k1<=1073741824):
    Calls prog 63 #[.slice a1 n1 c1,.slice a2 n2 c2] w (RVal w (.int .i64 (qM x y))):=by
  obtain⟨xs,h1,l1,z1,rfl⟩:=h1;obtain⟨ys,h2,l2,z2,rfl⟩:=h2;have e1:=h1.len;have e2:=h2.len;have b1:n1<=9223372036854775807:=jQ h1.capo h1.big;have b2:n2<=9223372036854775807:=jQ h2.capo h2.big;rcases Nat.lt_trichotomy n1 n2 with h|h|h
  · have hv:qD xs<qD ys:=by
      have a:=xR xs h1.lt;have b:=natVal_ge ys (by omega) (by rw[e2];exact z2 (by omega));have c:4294967296^xs.length<=4294967296^(ys.length-1):=Nat.pow_le_pow_right (by omega) (by omega);omega
    rw[jC (by exact_mod_cast hv)];have hc:(n1==n2)=false:=by rw[jM];omega
    have hc2:decide (n1<n2)=true:=yw
    clear hv h1 h2 e1 e2 z1 z2;go_enter func63,ntmps63;go_wp2_with fail
    go_ret
    exact⟨rfl,Ext.refl _⟩
  · subst h
    exact rsize_same w a1 a2 n1 c1 c2 xs ys h1 h2 (by omega)
  · have hv:qD ys<qD xs:=by
      have a:=xR ys h2.lt;have b:=natVal_ge xs (by omega) (by rw[e1];exact z1 (by omega));have c:4294967296^ys.length<=4294967296^(xs.length-1):=Nat.pow_le_pow_right (by omega) (by omega);omega
    rw[jD (by exact_mod_cast hv)];have hc:(n1==n2)=false:=by rw[jM];omega
    have hc2:decide (n1<n2)=false:=zaf
    clear hv h1 h2 e1 e2 z1 z2;go_enter func63,ntmps63;go_wp2_with fail
    go_ret
    exact⟨rfl,Ext.refl _⟩
theorem same_sign(s1 s2:Bool)(m1 m2:Nat)(z1 z2:Int)(h1:z1=if s1 then -(m1:Int)else m1)(h2:z2=if s2 then -(m2:Int)else m2)
    (t1:m1=0->s1=false) (t2:m2=0->s2=false):z1=z2↔(s1=s2/\m1=m2):=by
  cases s1 <;> cases s2 <;> simp at h1 h2 t1 t2 <;> simp <;> omega
theorem st20(w:World)(s1 s2:Bool)(a1 a2:Option Addr)(n1 n2 c1 c2:Nat):
    ∃ W,W=(w.alloc (.cells #[.bool s1,.slice a1 n1 c1] 28)).alloc (.cells #[.bool s2,.slice a2 n2 c2] 28)/\
      Bx W w.heap.size s1 a1 n1 c1/\Bx W (w.heap.size+1) s2 a2 n2 c2/\Ext w W:=by
  obtain⟨W,h1,h2⟩:=kq20 w s1 s2 a1 a2 n1 n2 c1 c2;exact⟨W,h1,h2.bx w.heap.size s1 a1 n1 c1 (by simp),h2.bx (w.heap.size+1) s2 a2 n2 c2 (by simp),h2.ext⟩
theorem tRef_2{P:Prop}(h:P:=by
  go_enter func39,ntmps39;go_wp2_with fail;rw[<-hW];clear hW;go_wp2_with fail;refine jJ HC.out ?_;rintro e w1 ⟨rfl,e1⟩;go_wp2_with fail
  go_ret
  exact⟨by rw[hr1.out];rfl,E.out.trans e1⟩
  ):P:=h
theorem Same_c(w:World)(s1 s2:Bool)(a1 a2:Option Addr)(n1 n2 c1 c2 k1 k2:Nat)(z1 z2:Int)(h1:IntAt w k1 s1 a1 n1 c1 z1)(h2:IntAt w k2 s2 a2 n2 c2 z2)(l1:k1<=268435456):Calls prog 39 #[.agg #[.bool s1,.slice a1 n1 c1],.agg #[.bool s2,.slice a2 n2 c2]] w (RVal w (.bool (decide (z1=z2)))):=by
  obtain⟨W,hW,b2,b3,E'⟩:=st20 w s1 s2 a1 a2 n1 n2 c1 c2;have E:=hid E';obtain⟨m1,g1,t1,e1⟩:=h1;obtain⟨m2,g2,t2,e2⟩:=h2;have HS:=hid (same_sign s1 s2 m1 m2 z1 z2 e1 e2 (λh=>t1 (g1.zero.1 h)) (λh=>t2 (g2.zero.1 h)));have HC:=hid (rsize_c W a1 a2 n1 n2 c1 c2 k1 k2 m1 m2 (g1.ext E') (g2.ext E') (by omega));clear g1 g2 t1 t2 e1 e2 E';obtain⟨r,hr⟩:∃r,r=decide (z1=z2):=⟨_,rfl⟩;rw[<-hr];have Hr:=hid hr;clear hr;have F1:=b2.c0;have F2:=b2.c1;have F3:=b2.f0;have F4:=b2.f1;have G1:=b3.c0;have G2:=b3.c1;have G3:=b3.f0;have G4:=b3.f1;by_cases hs:s1=s2
  · subst hs
    by_cases hm:m1=m2
    · have hr1:=hid (show r=true by rw[Hr.out];simpa using HS.out.2 ⟨rfl,hm⟩)
      have hc:qM (m1:Int) (m2:Int)=0:=cmpI_eq (by rw[hm]);rw[hc]at HC;clear hc hm;exact tRef_2
    · have hr1:=hid (show r=false by rw[Hr.out];simp only[decide_eq_false_iff_not];exact λh=>hm (HS.out.1 h).2)
      have hc:((qM (m1:Int) (m2:Int))==0)=false:=by
        rw[jM];rcases Nat.lt_or_gt_of_ne hm with h|h
        ·rw[jC (by omega)];decide
        ·rw[jD (by omega)];decide
      obtain⟨c,hcc⟩:∃c,c=qM (m1:Int) (m2:Int):=⟨_,rfl⟩;rw[<-hcc]at HC hc;clear hm hcc;exact tRef_2
  · have hr1:=hid (show r=false by rw[Hr.out];simp only[decide_eq_false_iff_not];exact λh=>hs (HS.out.1 h).1)
    have hb:(s1==s2)=false:=by simpa using hs
    clear hs;go_enter func39,ntmps39;go_wp2_with fail;rw[<-hW];clear hW;go_wp2_with fail
    go_ret
    exact⟨by rw[hr1.out];rfl,E.out⟩
theorem Same_f{k1 k2:Nat}{z1 z2:Int}{x y:Value}{w:World}(hx:IsI k1 z1 x w)(hy:IsI k2 z2 y w)(l1:k1<=268435456):Calls prog 39 #[x,y] w (Ret w (IsV (.bool (decide (z1=z2))))):=by
  obtain⟨s,a,n,c,rfl,h1⟩:=hx;obtain⟨s',a',n',c',rfl,h2⟩:=hy;exact jJ (Same_c w s s' a a' n n' c c' k1 k2 z1 z2 h1 h2 l1) λ_ _ h=>h.ret
theorem Same_t{k1 k2:Nat}{z1 z2:Int}{x y:Value}{w:World}(hx:IsI k1 z1 x w)(hy:IsI k2 z2 y w)(h:z1=z2)(l1:k1<=268435456):Calls prog 39 #[x,y] w (Ret w (IsV (.bool true))):=
  jJ (Same_f hx hy l1) λ_ _ r=>r.val (by simp[h])
theorem tRef_1{P:Prop}(h:P:=by
  rintro e w2 ⟨s3,a3,n3,c3,rfl,e2,h3'⟩;have KF:=(K0.after ((Ext.refl W).alloc _)).after e2;obtain⟨⟨_,r0,_⟩,f0⟩:=Kp.res KF 0 2 (by simp) 0 (by omega);obtain⟨⟨_,r1,_⟩,f1⟩:=Kp.res KF 0 2 (by simp) 1 (by omega);simp only[Nat.add_zero]at r0 r1 f0 f1;have h3:=h3';clear hR K0 h2;go_wp2_with fail;refine jK (v:=.agg #[.bool s3,.slice a3 n3 c3]) (by simp[results,results26,go_sem,r0,r1]) rfl (Kp.fin KF 0 (by simp) (by simp) h3)
  ):P:=h
theorem ROf_c(w:World)(n:Int)(h0: -9223372036854775808<=n)(h1:n<=9223372036854775807):Calls prog 26 #[.int .i64 n] w (RInt w 2 n):=by
  obtain⟨v,hv⟩:∃v:Nat,v=n.natAbs:=⟨_,rfl⟩;obtain⟨a,ha⟩:∃a:Nat,a=v%4294967296:=⟨_,rfl⟩;obtain⟨b,hb⟩:∃b:Nat,b=v/4294967296:=⟨_,rfl⟩;have Hz:=hid (of_val n v a b hv ha hb);have h2:(v:Int)%4294967296=(a:Int):=by omega
  have h3:(v:Int)/4294967296=(b:Int):=by omega
  have hal:a<4294967296:=by omega
  have hbl:b<4294967296:=by omega
  obtain⟨W,hW⟩:∃W,W=w.alloc (.cells #[.bool false,.slice none 0 0] 28):=⟨_,rfl⟩;have hwd:=wd_new2 W a b hal hbl;have hWs:W.heap.size=w.heap.size+1:=by rw[hW];simp
  rw[hWs]at hwd;have hR:=hid (λ(s:Bool) (hs:decide (n<0)=s)=>rmade_c (W.alloc (.cells #[.int .u32 (a:Nat),.int .u32 (b:Nat)] 145)) s _ 2 2 [a,b] n hwd (by rw[<-hs];exact Hz.out));clear hwd
  have K0:Kp w W [] [(0,2)]:=hW▸(Kp.start w).out 0 rfl [.bool false,.slice none 0 0] 28 (by
    intro v hv;simp at hv;rcases hv with rfl|rfl
    ·exact NoWord.bool _
    ·exact NoWord.slice _ _ _)
  have w1:IntKind.u64.wrap (-(IntKind.u64.wrap n))=if n<0 then(v:Int)else IntKind.u64.wrap (-(IntKind.u64.wrap n)):=by
    split
    ·simp only[IntKind.wrap_u64];omega
    ·rfl
  have w2:0<=n->IntKind.u64.wrap n=(v:Int):=λh=>by simp only[IntKind.wrap_u64];omega
  clear hv ha hb Hz hWs;by_cases hn:n<0
  · rw[if_pos hn]at w1
    clear w2;go_enter func26,ntmps26;go_wp2_with fail;rw[<-hW];clear hW w1;refine jJ (hR.out true (by simp[hn])) ?_;exact tRef_1
  · have w2:=w2 (by omega)
    clear w1;go_enter func26,ntmps26;go_wp2_with fail;rw[<-hW];clear hW w2;refine jJ (hR.out false (by simp[hn])) ?_;exact tRef_1
theorem ROf_f(w:World)(n:Int)(h0: -9223372036854775808<=n)(h1:n<=9223372036854775807):Calls prog 26 #[.int .i64 n] w (Ret w (IsI 2 n)):=
  jJ (ROf_c w n h0 h1) λ_ _ h=>h.ret
def IsW(xs:List Nat):Value->World->Prop:=λx w=>∃a n c,x=.slice a n c/\Wd w a n c xs
theorem IsW.stb(xs:List Nat):Stb (IsW xs):=λ_ _ _ e ⟨a,n,c,h1,h2⟩=>⟨a,n,c,h1,h2.ext e⟩
instance (xs:List Nat):StbC (IsW xs):=⟨IsW.stb xs⟩
end
section
open Go Go.RowKit
abbrev jT:=@List.length_append
def RowOf(e:TypeId)(ok:Value->Prop)(w:World)(base:Nat)(v:Value)(xs:List Value):Prop:=
 (v=.slice none 0 0/\xs= [])\/
 ∃ (g cap:Nat) (cur:Array Value),v=.slice (some ⟨g,0,none⟩) xs.length cap/\base<=g/\w.heap[g]? =some (.cells cur e (0,0))/\xs.length<=cap/\cap<=9223372036854775807/\cur.size=cap/\cur.toList.take xs.length=xs/\
  (∀(j:Nat) (u:Value),cur[j]? =some u->ok u)
theorem RowOf.ext{e:TypeId}{ok:Value->Prop}{w w':World}{base:Nat}{v:Value}{xs:List Value}(h:RowOf e ok w base v xs)(k:Ext w w'):RowOf e ok w' base v xs:=by
 rcases h with h| ⟨g,cap,cur,h1,h2,h3,h4⟩
 ·exact .inl h
 ·exact .inr ⟨g,cap,cur,h1,h2,k.heap h3,h4⟩
theorem RowOf.shape{e:TypeId}{ok:Value->Prop}{w:World}{base:Nat}{v:Value}{xs:List Value}(h:RowOf e ok w base v xs):∃ao cap,v=.slice ao xs.length cap/\(xs≠ []->∃g,ao=some ⟨g,0,none⟩/\base<=g/\g<w.heap.size)/\xs.length<=cap/\cap<=9223372036854775807:=by
 rcases h with⟨rfl,rfl⟩| ⟨g,cap,cur,h1,h2,h3,h4,h5,_⟩
 ·exact⟨none,0,rfl,λh=>absurd rfl h,by simp,by omega⟩
 ·exact⟨_,cap,h1,λ_=>⟨g,rfl,h2,heap_lt h3⟩,h4,h5⟩
theorem RowOf.cell{e:TypeId}{ok:Value->Prop}{w:World}{base:Nat}{xs:List Value}{g n cap:Nat}(h:RowOf e ok w base (.slice (some ⟨g,0,none⟩) n cap) xs)(j:Nat)(u:Value)(hj:xs[j]? =some u):w.cell? ⟨g,j,none⟩=some u:=by
 rcases h with⟨h,rfl⟩| ⟨g',cap',cur,h1,h2,h3,h4,h5,h6,h7,h8⟩
 ·simp at hj
 ·simp only[Value.slice.injEq,Option.some.injEq,Addr.mk.injEq,and_true]at h1;obtain⟨rfl,rfl,rfl⟩:=h1;have hjl:j<xs.length:=(List.getElem?_eq_some_iff.1 hj).1;simp only[World.cell?];rw[h3];show cur[j]? =some u;rw[<-h7,List.getElem?_take]at hj;rw[if_pos hjl]at hj
  simpa using hj
theorem Below.ext{base:Nat}{w0 w w':World}(e:Ext w0 w)(h:Below base w w')(hb:w0.heap.size<=base):Ext w0 w':=Below.trans e (Below.mono h hb)
theorem toList_zeroCells_one(z:Value)(n:Nat):(Builtin.zeroCells #[z] n).toList=List.replicate n z:=by
 simp only[Builtin.zeroCells,Array.toList_map,Array.toList_range];apply List.ext_getElem
 ·simp
 ·intro i h1 h2;simp[Nat.mod_one]
theorem row_append{P:Program}(w:World)(t ty e:TypeId)(ok:Value->Prop)(z:Value)(bytes:Nat)(hu:P.underlying t=some (.slice e))(hinfo:(P.info? e).map (λi=>(i.zero,i.size,i.bytes))=some (some z,1,bytes))(hz:z.cells= #[z])(hzo:ok z)
  (base:Nat) (v:Value) (xs:List Value) (hr:RowOf e ok w base v xs) (b c1:Nat) (u:Value) (hc:w.cell? ⟨b,0,none⟩=some u) (h1:u.oneCell'=true) (huo:ok u) (hlen:(xs.length+1)*bytes<=140737488355328) (hl2:xs.length+1<=140737488355328) (hbase:base<=w.heap.size):
  ∃v' w',(Builtin.append_ #[t,t] ty #[v,.slice (some ⟨b,0,none⟩) 1 c1]).run P w=.ok v' w'/\RowOf e ok w' base v' (xs++ [u])/\Below base w w'/\((∀x,ok x->NoWord x)->Gr w w'):=by
 obtain⟨i,hi,hz0,hz1,hz2⟩:=info_parts hinfo
 have hsrc:Src P i.size t (.slice (some ⟨b,0,none⟩) 1 c1) 1 [u] w:=
  Src.ofSlice w hu _ 1 c1 [u] (by rw[hz1];rfl) (λj y hj=>by
   cases j with
   |zero=>simp at hj;subst hj;simpa [Addr.add]using hc
   |succ j=>simp at hj) (λy hy=>by simp at hy;subst hy;exact h1)
 have grow:∀(ao:Option Addr) (n cap:Nat) (olds:List Value),n=xs.length->olds=xs->cap<n+1->(Builtin.firstCells i.size n (.slice ao n cap)).run P w.drew=.ok olds.toArray w.drew->
   ∃v' w',(Builtin.append_ #[t,t] ty #[.slice ao n cap,.slice (some ⟨b,0,none⟩) 1 c1]).run P w=.ok v' w'/\RowOf e ok w' base v' (xs++ [u])/\Below base w w'/\((∀x,ok x->NoWord x)->Gr w w')\/¬(∀x∈xs,ok x):=by
  intro ao n cap olds hn ho hcap hold;subst hn ho;by_cases hok:∀x∈olds,ok x
  ·have hge:=grownCap_ge w (olds.length+1) cap e;have hle:=grownCap_le_maxLen w (olds.length+1) cap e yl;have hrun:=run_append_grow_src w t t ty e i z hu hi hz0 ao olds.length cap olds hold (.slice (some ⟨b,0,none⟩) 1 c1) 1 [u] hsrc hcap (by omega) (growslice_fits hcap (by rw[hz2];exact hlen));refine⟨_,_,.inl ⟨hrun,.inr ⟨w.heap.size,_,_,by rw[jT];rfl,hbase,heap_alloc_new w.drew _,?_,?_,?_,?_,?_⟩,?_,?_⟩⟩
   ·rw[jT];simpa using hge
   ·unfold maxLen at hle;omega
   ·rw[Array.size_append];simp only[List.size_toArray,jT,List.length_cons,List.length_nil,size_zeroCells,hz];simp;omega
   ·rw[Array.toList_append];exact List.take_left
   ·intro j y hj;rw[hz]at hj;have hmem:=List.mem_of_getElem? (by rw[Array.getElem?_toList];exact hj);rw[Array.toList_append,toList_zeroCells_one]at hmem;rcases List.mem_append.1 hmem with h|h
    ·have h9:y∈olds\/y=u:=by simpa using h
     rcases h9 with h9|h9
     ·exact hok y h9
     ·rw[h9];exact huo
    ·rw[(List.mem_replicate.1 h).2];exact hzo
   ·exact Below.mono ((Ext.refl w).drew.alloc _) hbase
   ·exact λ_=>((Ext.refl w).drew.alloc _).gr
  ·exact⟨.slice none 0 0,w,.inr hok⟩
 rcases hr with⟨rfl,rfl⟩| ⟨g,cap,cur,rfl,h2,h3,h4,h5,h6,h7,h8⟩
 ·obtain⟨v',w',h|h⟩:=grow none 0 0 [] rfl rfl (by omega) (run_firstCells_none w.drew i.size 0 0 0)
  ·exact⟨v',w',h⟩
  ·exact absurd (λ_ h=>by cases h) h
 ·have hcells:∀j y,xs[j]? =some y->w.cell? ⟨g,j,none⟩=some y:=λj y hj=>(RowOf.cell (e:=e) (ok:=ok) (base:=base) (.inr ⟨g,cap,cur,rfl,h2,h3,h4,h5,h6,h7,h8⟩) j y hj)
  have hxok:∀x∈xs,ok x:=λx hx=>by
   rw[<-h7]at hx;obtain⟨j,hj⟩:=List.mem_iff_getElem?.1 (List.mem_of_mem_take hx);exact h8 j x yx
  by_cases hroom:xs.length+1<=cap
  ·have hfz:∀j,w.frozen? ⟨g,j,none⟩=false:=λj=>by simp only[World.frozen?];rw[h3];simp
   obtain⟨y0,hy0⟩:∃y,cur[xs.length]? =some y:=⟨cur[xs.length]'(by omega),by simp⟩;have hyc:w.cell? ⟨g,xs.length,none⟩=some y0:=by simp only[World.cell?];rw[h3];simpa using hy0
   have hrun:=run_append_room_src w t t ty e i hu hi g 0 xs.length cap (.slice (some ⟨b,0,none⟩) 1 c1) 1 [u] hsrc hroom
    (fun j hj=>by
     have:j=0:=yx
     subst this;rw[hz1];simp[hyc]) (λj _=>hfz _)
   rw[hz1]at hrun;simp only[Nat.mul_one,Nat.zero_add,World.setCells]at hrun;refine⟨_,_,hrun,.inr ⟨g,cap,cur.setIfInBounds xs.length u,by rw[jT];rfl,h2,?_,by rw[jT];simpa using hroom,h5,by simpa using h6,?_,?_⟩,?_,?_⟩
   ·simp only[World.setCell,Array.getElem?_modify,if_true];rw[h3];simp
   ·rw[jT,List.length_cons,List.length_nil,Nat.zero_add,Array.toList_setIfInBounds,List.take_add_one,List.take_set_of_le (jP _),h7];rw[List.getElem?_set_self (by simp;omega)];rfl
   ·intro j y hj;rw[Array.getElem?_setIfInBounds]at hj
    split at hj
    ·split at hj
     ·cases hj;exact huo
     ·cases hj
    ·exact h8 j y hj
   ·exact Below.setCell (jS base w) h2 u
   ·exact λhnw=>(Gr.refl w).set (p:=⟨g,xs.length,none⟩) hyc (hnw _ (h8 _ _ hy0)) u
  ·obtain⟨v',w',h|h⟩:=grow (some ⟨g,0,none⟩) xs.length cap xs rfl rfl (by omega) (run_firstCells_some w.drew i.size xs.length ⟨g,0,none⟩ xs.length cap xs (by rw[hz1,Nat.mul_one]) (λj y hj=>by
    have:=hcells j y hj;by_cases hj0:j=0
    ·subst hj0;simpa [Addr.add]using this
    ·simpa [Addr.add,hj0]using this))
   ·exact⟨v',w',h⟩
   ·exact absurd hxok h
theorem wpl_row{P:Program}{w:World}{ops:Array Oper}{rest:List Oper}{o:Oper}{a:Act}{Q:Exit->Act->World->Prop}(hgd:o.guard=none)(s x:Operand)(t e:TypeId)
  (ho:o.op=.call {callee:=.builtin .append,args:= #[s,x],argTypes:= #[t,t]}) (ok:Value->Prop) (z:Value) (bytes:Nat) (hu:P.underlying t=some (.slice e)) (hinfo:(P.info? e).map (λi=>(i.zero,i.size,i.bytes))=some (some z,1,bytes)) (hz:z.cells= #[z]) (hzo:ok z)
  (base:Nat) (v:Value) (xs:List Value) (hs:a.eval s=v) (hr:RowOf e ok w base v xs) (b c1:Nat) (u:Value) (hx:a.eval x=.slice (some ⟨b,0,none⟩) 1 c1) (hc:w.cell? ⟨b,0,none⟩=some u) (h1:u.oneCell'=true) (huo:ok u) (hlen:(xs.length+1)*bytes<=140737488355328) (hl2:xs.length+1<=140737488355328) (hbase:base<=w.heap.size)
  (hK:∀v' w',RowOf e ok w' base v' (xs++ [u])->Below base w w'->((∀x,ok x->NoWord x)->Gr w w')->wpList P ops Q rest (a.put o.dst v') w'):wpList P ops Q (o ::rest) a w:=by
 obtain⟨v',w',hrun,h2,h3,h4⟩:=row_append w t o.type e ok z bytes hu hinfo hz hzo base v xs hr b c1 u hc h1 huo hlen hl2 hbase;refine wpList_plain hgd λK hK'=>?_
 unfold Oper.wp;simp[execOp,ho,resolve,invoke,builtin,hs,hx,hrun,Result.andThen];exact hK' _ _ (hK v' w' h2 h3 h4)
end
section
open Go Go.RowKit
def Tab(w:World):Prop:=Lib.TabIs Tryz.prog w "internal/strconv.uint64pow10" .u64 Lib.pow10Tab
theorem Tab.ext{w w':World}(h:Tab w)(e:Ext w w'):Tab w':=by
 unfold Tab Lib.TabIs World.var? at*;cases hg:Tryz.prog.globalNamed "internal/strconv.uint64pow10" with
 |none=>rw[hg]at h;cases h
 | some g=>
  rw[hg]at h;simp only[Option.bind_some]at h ⊢;cases hh:w.heap[g]? with
  |none=>rw[hh]at h;cases h
  |some o=>rw[e.heap hh];rw[hh]at h;exact h
theorem ext_grow(w:World)(k:Nat)(os:Array Obj):Ext w (Go.Sort.grow (w.drewN k) os):=by
 have h1:Ext w (w.drewN k):=(Ext.refl w).drewN k;refine h1.trans ⟨rfl,rfl,rfl,by simp[Go.Sort.grow],λi hi=>?_⟩;show((w.drewN k).heap++os)[i]? =_;rw[Array.getElem?_append_left hi]
end
section
open Go Go.RowKit
theorem zb6{P:Prop}(h:P:=by rfl):P:=h
section
variable {P:Program} {md:Region.Mode} {ops:Array Oper} {Q:Exit->Act->World->Prop}
theorem size_put(a:Act)(d:Option Tmp)(x:Value):(a.put d x).tmps.size=a.tmps.size:=by
 cases d <;> simp[Act.put]
theorem layL_old(v:Nat->Value)(t:Nat):∀(ds:List (Option Tmp)) (a:Act) (k:Nat),ds.contains (some t)=false->(qW v a k ds).tmps[t]? =a.tmps[t]?
 | [],_,_,_=>rfl
 | d ::ds,a,k,h=>by
  simp only[List.contains_cons,Bool.or_eq_false_iff,jM]at h;rw[qW,layL_old v t ds _ (k+1) h.2];cases d with
  |none=>rfl
  | some u=>
   simp only[Act.put];rw[Array.getElem?_setIfInBounds_ne];intro he;exact h.1 (by rw[he])
theorem layL_at(v:Nat->Value)(t:Nat):∀(ds:List (Option Tmp)) (a:Act) (k j:Nat),ds[j]? =some (some t)->(ds.drop (j+1)).contains (some t)=false->t<a.tmps.size->(qW v a k ds).tmps[t]? =some (v (k+j))
 | [],_,_,_,h,_,_=>by simp at h
 | d ::ds,a,k,0,h,hn,ht=>by
  simp only[List.getElem?_cons_zero,Option.some.injEq]at h;subst h;rw[qW,layL_old v t ds _ (k+1) (by simpa using hn)];simp only[Act.put];rw[Array.getElem?_setIfInBounds_self_of_lt ht];rfl
 | d ::ds,a,k,j+1,h,hn,ht=>by
  rw[qW,layL_at v t ds _ (k+1) j (by simpa using h) (by simpa using hn) (by rw[size_put];exact ht)]
  congr 2;omega
structure Fr (ds:List (Option Tmp)) (a0:Act) (v:Nat->Value) (a:Act):Prop where
 at_:∀j t,ds[j]? =some (some t)->(ds.drop (j+1)).contains (some t)=false->decide (t<a0.tmps.size)=true->a.tmps[t]? =some (v j)
 old:∀t,ds.contains (some t)=false->a.tmps[t]? =a0.tmps[t]?
theorem Fr.of(ds:List (Option Tmp))(a0:Act)(v:Nat->Value):Fr ds a0 v (qW v a0 0 ds):=
 ⟨λj t h hn ht=>by have:=layL_at v t ds a0 0 j h hn (of_decide_eq_true ht);rwa [Nat.zero_add]at this,λt h=>layL_old v t ds a0 0 h⟩
theorem Fr.val{ds:List (Option Tmp)}{a0:Act}{v:Nat->Value}{a:Act}(h:Fr ds a0 v a)(j t:Nat)(x:Value)(hd:v j=x)(h1:ds[j]? =some (some t))(h2:(ds.drop (j+1)).contains (some t)=false)(h3:decide (t<a0.tmps.size)=true):a.tmps[t]?.getD undef=x:=by
 have:=h.at_ j t h1 h2 h3;simp[this,hd]
theorem Fr.lit{ds:List (Option Tmp)}{a0:Act}{v:Nat->Value}{a:Act}(h:Fr ds a0 v a)(t:Nat)(x:Value)(h1:ds.contains (some t)=false)(h2:a0.tmps[t]? =some x):a.tmps[t]?.getD undef=x:=by
 have:=(h.old t h1).trans h2;simp[this]
variable {ds:List (Option Tmp)} {a0:Act} {w0:World} {L:List (Value->World->Prop)} {boxes:List Nat} {i:Nat} {o:Oper}
def OpOk(P:Program)(md:Region.Mode)(ops:Array Oper)(Q:Exit->Act->World->Prop)(ds:List (Option Tmp))(a0:Act)(w0:World)(L:List (Value->World->Prop))(boxes:List Nat)(i:Nat)(o:Oper):Prop:=
 ∀ (v:Nat->Value) (a:Act) (w:World),Ext w0 w->(∀j,(ups md ops i).contains j=true->L.getD j (λ_ _=>True) (v j) w)->Fr ds a0 v a->
  ∀K:Act->World->Prop,Shut (∀x w',Ext w w'->L.getD i (λ_ _=>True) x w'->FreshIf (boxes.contains i) x w->K (a.put o.dst x) w')->Oper.wp P o a w K Q
theorem RgL.mk(hg:o.guard=none)(h:OpOk P md ops Q ds a0 w0 L boxes i o):RgL P md ops Q ds a0 w0 L boxes i o:=by
 intro v w hE hd K hK;rw[if_pos (by simp[Region.wanted,hg])];exact h v _ w hE hd (Fr.of ds a0 v) K hK
theorem Fr.yielded{v:Nat->Value}{a:Act}(h:Fr ds a0 v a)(g t:Nat)(b:Bool)(hv:v g=.bool b)(hdst:qP ops g=some t)(h1:ds[g]? =some (some t))(h2:(ds.drop (g+1)).contains (some t)=false)(h3:decide (t<a0.tmps.size)=true):yielded ops a.tmps g=some b:=by
 have:=h.at_ g t h1 h2 h3;unfold Go.yielded;unfold qP at hdst;rw[hdst,Option.bind_some,this,hv]
theorem RgL.mkG(g t:Nat)(b:Bool)(hg:o.guard=some (g,b))(hdst:qP ops g=some t)(h1:ds[g]? =some (some t))(h2:(ds.drop (g+1)).contains (some t)=false)(h3:decide (t<a0.tmps.size)=true)(hu:(ups md ops i).contains g=true)(hL:∀x w,L.getD g (λ_ _=>True) x w->x=.bool b)
  (h:OpOk P md ops Q ds a0 w0 L boxes i o):RgL P md ops Q ds a0 w0 L boxes i o:=by
 intro v w hE hd K hK;have hy:=(Fr.of ds a0 v).yielded (ops:=ops) g t b (hL _ _ (hd g hu)) hdst h1 h2 h3;rw[if_pos (by simp[Region.wanted,hg,hy])];exact h v _ w hE hd (Fr.of ds a0 v) K hK
theorem RgL.mkN(g t:Nat)(b:Bool)(hg:o.guard=some (g,!b))(hdst:qP ops g=some t)(h1:ds[g]? =some (some t))(h2:(ds.drop (g+1)).contains (some t)=false)(h3:decide (t<a0.tmps.size)=true)(hu:(ups md ops i).contains g=true)(hL:∀x w,L.getD g (λ_ _=>True) x w->x=.bool b)
  (hb:boxes.contains i=false) (hi:∀w,L.getD i (λ_ _=>True) undef w):RgL P md ops Q ds a0 w0 L boxes i o:=by
 intro v w hE hd K hK;have hy:=(Fr.of ds a0 v).yielded (ops:=ops) g t b (hL _ _ (hd g hu)) hdst h1 h2 h3;rw[if_neg (by cases b <;> simp[Region.wanted,hg,hy])];exact hK.out _ _ (Ext.refl _) (hi w) (FreshIf.no hb)
end
end
end Go.Proofs.YtkeikfekkdplgaaGreatDoor
