/-
  Expressions, scopes and cells in memory.
  Package notebook: plain.
  strings.Cut at two separators of one byte, CutPrefix, HasPrefix, in lists of bytes. (Printed by wip/gen/ncu.py.)
  maps.Values of package notebook's words, collected by slices.Collect: the nine words in some order.
-/
import Derived.Test.YtenhciieboegbaaGreatDoorNbA
import Derived.Test.YtenhciieboegbaaGreatDoorNb
import Derived.Test.YtenhciieboegbaaGreatDoorRwn
import Derived.Test.YtenhciieboegbaaGreatDoorNix
import Derived.Test.YtenhciieboegbaaGreatDoorShelf
import Derived.Test.YtenhciieboegbaaGreatDoorNnm
import Derived.Test.YtenhciieboegbaaGreatDoorFact
import Derived.Shelf.SlIter.Collect
import Derived.Sort.MapsRangeIn
import Derived.WalkKit
import Derived.OwnWalkIn
import Derived.TacticsInMore
import Derived.RegionIn
import Derived.LoopNIn
import Derived.LoopIn
import Derived.Lib.SlKeysI
namespace Go.Proofs.YtenhciieboegbaaGreatDoor
open Go Go.RowKit
open Go.Proofs.Tryz
set_option maxRecDepth 100000
set_option maxHeartbeats 4000000
/-! ### Expressions -/
def NdBd(nm:List UInt8)(op:Int):Prop:=nm.length <=4611686018427387904/\ -9223372036854775808 <=op/\op <=9223372036854775807
mutual
def NdC(B:Nat)(w:World):Nd ->List Value ->Prop
  | .mk op nm n v lo hi ps,us =>NdBd nm op/\∃(s:Bool) (a:Option Addr) (m c:Nat) (ao:Option Addr) (cp:Nat),us = [.int .i64 op,qB nm,.int .i64 n,.bool s,.slice a m c,.int .i64 lo,.int .i64 hi,.slice ao ps.length cp]/\
      IsI 136 v (.agg #[.bool s,.slice a m c]) w/\ps.length <=cp/\cp <=9223372036854775807/\ (ps≠ [] ->∃g o,ao =some ⟨g,o,none⟩/\B <=g/\NdR B w ps g o)
def NdR(B:Nat)(w:World):List Nd ->Nat ->Nat ->Prop
  | [],_,_ =>True
  |x ::t,g,o =>(∃us:List Value,us.length =8/\ (∀j u,us[j]? =some u ->World.cell? w ⟨g,o + j,none⟩=some u)/\NdC B w x us)/\NdR B w t g (o + 8)
end
mutual
theorem NdC.kept{B:Nat}{w w':World}(hc:∀(p:Addr) (v:Value),B <=p.block ->World.cell? w p =some v ->World.cell? w' p =some v)(hg:Gr w w'):∀(x:Nd) (us:List Value),NdC B w x us ->NdC B w' x us
  | .mk op nm n v lo hi ps,us,h =>by
    rw[NdC]at h ⊢
    obtain⟨h0,s,a,m,c,ao,cp,h1,h2,h3,h4,h5⟩ :=h
    refine⟨h0,s,a,m,c,ao,cp,h1,IsI.gstb _ _ _ _ _ hg h2,h3,h4,λhne =>?_⟩
    obtain⟨g,o,q1,q2,q3⟩ :=h5 hne
    exact⟨g,o,q1,q2,NdR.kept hc hg ps g o q2 q3⟩
theorem NdR.kept{B:Nat}{w w':World}(hc:∀(p:Addr) (v:Value),B <=p.block ->World.cell? w p =some v ->World.cell? w' p =some v)(hg:Gr w w'):∀(l:List Nd) (g o:Nat),B <=g ->NdR B w l g o ->NdR B w' l g o
  | [],_,_,_,_ =>by rw[NdR];trivial
  | x ::t,g,o,hb,h =>by
    rw[NdR]at h ⊢
    obtain⟨⟨us,h1,h2,h3⟩,h4⟩ :=h
    exact⟨⟨us,h1,λj u hj =>hc _ _ hb (h2 j u hj),NdC.kept hc hg x us h3⟩,NdR.kept hc hg t g (o + 8) hb h4⟩
end
mutual
theorem NdC.low{B B':Nat}{w:World}(hb:B' <=B):∀(x:Nd) (us:List Value),NdC B w x us ->NdC B' w x us
  | .mk op nm n v lo hi ps,us,h =>by
    rw[NdC]at h ⊢
    obtain⟨h0,s,a,m,c,ao,cp,h1,h2,h3,h4,h5⟩ :=h
    refine⟨h0,s,a,m,c,ao,cp,h1,h2,h3,h4,λhne =>?_⟩
    obtain⟨g,o,q1,q2,q3⟩ :=h5 hne
    exact⟨g,o,q1,zO hb q2,NdR.low hb ps g o q3⟩
theorem NdR.low{B B':Nat}{w:World}(hb:B' <=B):∀(l:List Nd) (g o:Nat),NdR B w l g o ->NdR B' w l g o
  | [],_,_,_ =>by rw[NdR];trivial
  | x ::t,g,o,h =>by
    rw[NdR]at h ⊢
    obtain⟨⟨us,h1,h2,h3⟩,h4⟩ :=h
    exact⟨⟨us,h1,h2,NdC.low hb x us h3⟩,NdR.low hb t g (o + 8) h4⟩
end
theorem NdC.ext{B:Nat}{w w':World}(e:Ext w w'){x:Nd}{us:List Value}(h:NdC B w x us):NdC B w' x us:=NdC.kept (λ_ _ _ hv =>e.cell hv) e.gr x us h
theorem NdR.ext{B:Nat}{w w':World}(e:Ext w w'):∀ {l:List Nd} {g o:Nat},NdR B w l g o ->NdR B w' l g o
  | [],_,_,_ =>by rw[NdR];trivial
  | x ::t,g,o,h =>by
    rw[NdR]at h ⊢
    obtain⟨⟨us,h1,h2,h3⟩,h4⟩ :=h
    exact⟨⟨us,h1,λj u hj =>e.cell (h2 j u hj),h3.ext e⟩,NdR.ext e h4⟩
theorem Ob.cell{g:Nat}{w w':World}(h:Ob g w w'){p:Addr}{v:Value}(hc:World.cell? w p =some v)(hg:p.block≠g):World.cell? w' p =some v:=
  (World.cell?_of_block (w:=w) (h.block p.block (World.block_lt_of_cell? w p hc) hg)).trans hc
theorem NdC.ob{B g:Nat}{w w':World}(O:Ob g w w')(hg:g < B){x:Nd}{us:List Value}(h:NdC B w x us):NdC B w' x us:=NdC.kept (λp _ hp hv =>O.cell hv ze) O.gr x us h
theorem NdR.get{B:Nat}{w:World}:∀ {l:List Nd} {g o i:Nat} {x:Nd},NdR B w l g o ->l[i]? =some x ->∃us:List Value,us.length =8/\ (∀j u,us[j]? =some u ->World.cell? w ⟨g,o + 8 * i + j,none⟩=some u)/\NdC B w x us
  | [],_,_,_,_,_,h =>by simp at h
  | x ::t,g,o,0,y,h,hi =>by
    rw[NdR]at h
    obtain rfl:x =y:=by simpa using hi
    obtain⟨us,h1,h2,h3⟩ :=h.1
    exact⟨us,h1,λj u hj =>by simpa using h2 j u hj,h3⟩
  | x ::t,g,o,i + 1,y,h,hi =>by
    rw[NdR]at h
    obtain⟨us,h1,h2,h3⟩ :=NdR.get (l:=t) (i:=i) h.2 (by simpa using hi)
    exact⟨us,h1,λj u hj =>by have:=h2 j u hj;rwa [show o + 8 + 8 * i + j =o + 8 * (i + 1) + j by omega]at this,h3⟩
theorem NdR.of{B:Nat}{w:World}:∀ {l:List Nd} {g o:Nat},(∀i x,l[i]? =some x ->∃us:List Value,us.length =8/\ (∀j u,us[j]? =some u ->World.cell? w ⟨g,o + 8 * i + j,none⟩=some u)/\NdC B w x us) ->NdR B w l g o
  | [],_,_,_ =>by rw[NdR];trivial
  | x ::t,g,o,h =>by
    rw[NdR]
    refine⟨?_,NdR.of λi y hi =>?_⟩
    · obtain⟨us,h1,h2,h3⟩ :=h 0 x rfl
      exact⟨us,h1,λj u hj =>by simpa using h2 j u hj,h3⟩
    · obtain⟨us,h1,h2,h3⟩ :=h (i + 1) y (by simpa using hi)
      exact⟨us,h1,λj u hj =>by have:=h2 j u hj;rwa [show o + 8 * (i + 1) + j =o + 8 + 8 * i + j by omega]at this,h3⟩
theorem NdC.out{B:Nat}{w:World}{x:Nd}{us:List Value}(h:NdC B w x us):∃(s:Bool) (a:Option Addr) (m c:Nat) (ao:Option Addr) (cp:Nat),us = [.int .i64 x.op,qB x.nm,.int .i64 x.n,.bool s,.slice a m c,.int .i64 x.lo,.int .i64 x.hi,.slice ao x.ps.length cp]/\
    IsI 136 x.v (.agg #[.bool s,.slice a m c]) w/\x.ps.length <=cp/\cp <=9223372036854775807/\ (x.ps≠ [] ->∃g o,ao =some ⟨g,o,none⟩/\B <=g/\NdR B w x.ps g o) :=by
  obtain⟨op,nm,n,v,lo,hi,ps⟩ :=x
  rw[NdC]at h
  exact h.2
theorem NdC.bd{B:Nat}{w:World}{x:Nd}{us:List Value}(h:NdC B w x us):x.nm.length <=4611686018427387904/\ -9223372036854775808 <=x.op/\x.op <=9223372036854775807:=by
  obtain⟨op,nm,n,v,lo,hi,ps⟩ :=x
  rw[NdC]at h
  exact h.1
theorem NdC.mk'{B:Nat}{w:World}{x:Nd}{us:List Value}{s:Bool}{a:Option Addr}{m c:Nat}{ao:Option Addr}{cp:Nat}(h0:NdBd x.nm x.op)(h1:us = [.int .i64 x.op,qB x.nm,.int .i64 x.n,.bool s,.slice a m c,.int .i64 x.lo,.int .i64 x.hi,.slice ao x.ps.length cp])
    (h2:IsI 136 x.v (.agg #[.bool s,.slice a m c]) w) (h3:x.ps.length <=cp) (h4:cp <=9223372036854775807) (h5:x.ps≠ [] ->∃g o,ao =some ⟨g,o,none⟩/\B <=g/\NdR B w x.ps g o):NdC B w x us:=by
  obtain⟨op,nm,n,v,lo,hi,ps⟩ :=x
  rw[NdC]
  exact⟨h0,s,a,m,c,ao,cp,h1,h2,h3,h4,h5⟩
theorem NdC.len{B:Nat}{w:World}{x:Nd}{us:List Value}(h:NdC B w x us):us.length =8:=by
  obtain⟨_,_,_,_,_,_,rfl,_⟩ :=h.out;rfl
theorem NdC.nw{B:Nat}{w:World}{x:Nd}{us:List Value}(h:NdC B w x us):(∀v∈us,NoWord v)/\us.all (λu =>u.oneCell')=true:=by
  obtain⟨_,_,_,_,_,_,rfl,_⟩ :=h.out
  exact⟨nwNd,rfl⟩
def IsNd(B:Nat)(x:Nd):Value ->World ->Prop:=λv w =>∃us:List Value,v =.agg us.toArray/\NdC B w x us
theorem IsNd.stb(B:Nat)(x:Nd):Stb (IsNd B x) :=λ_ _ _ e ⟨us,h1,h2⟩ =>⟨us,h1,h2.ext e⟩
instance (B:Nat) (x:Nd):StbC (IsNd B x) :=⟨IsNd.stb B x⟩
theorem IsNd.ext{B:Nat}{x:Nd}{v:Value}{w w':World}(h:IsNd B x v w)(e:Ext w w'):IsNd B x v w':=IsNd.stb B x _ _ _ e h
theorem IsNd.ob{B g:Nat}{x:Nd}{v:Value}{w w':World}(h:IsNd B x v w)(O:Ob g w w')(hg:g < B):IsNd B x v w':=let ⟨us,h1,h2⟩ :=h;⟨us,h1,h2.ob O hg⟩
theorem IsNd.low{B B':Nat}{x:Nd}{v:Value}{w:World}(h:IsNd B x v w)(hb:B' <=B):IsNd B' x v w:=let ⟨us,h1,h2⟩ :=h;⟨us,h1,NdC.low hb x us h2⟩
/-! ### Scopes -/
theorem IsSc.stb(B:Nat)(b:Sc):Stb (IsSc B b) :=λ_ _ _ e h =>h.ext e
instance (B:Nat) (b:Sc):StbC (IsSc B b) :=⟨IsSc.stb B b⟩
theorem IsSr.stb(b:Sc):Stb (IsSr b) :=λ_ _ _ e h =>h.ext e
instance (b:Sc):StbC (IsSr b) :=⟨IsSr.stb b⟩
theorem IsSc.ob{B g:Nat}{b:Sc}{v:Value}{w w':World}(h:IsSc B b v w)(O:Ob g w w')(hg:g < B):IsSc B b v w':=by
  obtain⟨ao,c,h1,h2,h3,h4,h5⟩ :=h
  refine⟨ao,c,h1,h2,h3,h4,λhne =>?_⟩
  obtain⟨g',q1,q2,q3,q4⟩ :=h5 hne
  exact⟨g',q1,q2,Nat.lt_of_lt_of_le q3 O.size,λj s hj =>O.cell (q4 j s hj) jv⟩
/-! ### Cells -/
def IsCs(B:Nat)(l:List Cl):Value ->World ->Prop:=λv w =>∃ao c,v =.slice ao l.length c/\l.length <=c/\c <=9223372036854775807/\
  (l≠ [] ->∃g o,ao =some ⟨g,o,none⟩/\B <=g/\∀i x,l[i]? =some x ->∃us:List Value,(∀j u,us[j]? =some u ->World.cell? w ⟨g,o + 9 * i + 1 + j,none⟩=some u)/\NdC B w x.e us/\World.cell? w ⟨g,o + 9 * i,none⟩=some (qB x.nm))
theorem IsCs.stb(B:Nat)(l:List Cl):Stb (IsCs B l) :=λ_ _ _ e ⟨ao,c,h1,h2,h3,h4⟩ =>⟨ao,c,h1,h2,h3,λhne =>let ⟨g,o,q1,q2,q3⟩ :=h4 hne;⟨g,o,q1,q2,λi x hi =>let ⟨us,r1,r2,r3⟩ :=q3 i x hi;⟨us,λj u hj =>e.cell (r1 j u hj),r2.ext e,e.cell r3⟩⟩⟩
instance (B:Nat) (l:List Cl):StbC (IsCs B l) :=⟨IsCs.stb B l⟩
theorem IsCs.ext{B:Nat}{l:List Cl}{v:Value}{w w':World}(h:IsCs B l v w)(e:Ext w w'):IsCs B l v w':=IsCs.stb B l _ _ _ e h
theorem IsCs.ob{B g:Nat}{l:List Cl}{v:Value}{w w':World}(h:IsCs B l v w)(O:Ob g w w')(hg:g < B):IsCs B l v w':=by
  obtain⟨ao,c,h1,h2,h3,h4⟩ :=h
  refine⟨ao,c,h1,h2,h3,λhne =>?_⟩
  obtain⟨g',o,q1,q2,q3⟩ :=h4 hne
  refine⟨g',o,q1,q2,λi x hi =>?_⟩
  obtain⟨us,r1,r2,r3⟩ :=q3 i x hi
  exact⟨us,λj u hj =>O.cell (r1 j u hj) jv,r2.ob O hg,O.cell r3 jv⟩
theorem IsCs.low{B B':Nat}{l:List Cl}{v:Value}{w:World}(h:IsCs B l v w)(hb:B' <=B):IsCs B' l v w:=
  let ⟨ao,c,h1,h2,h3,h4⟩ :=h;⟨ao,c,h1,h2,h3,λhne =>let ⟨g,o,q1,q2,q3⟩ :=h4 hne;⟨g,o,q1,zO hb q2,λi x hi =>let ⟨us,r1,r2,r3⟩ :=q3 i x hi;⟨us,r1,NdC.low hb x.e us r2,r3⟩⟩⟩
theorem IsCs.nil(B:Nat)(w:World):IsCs B [] (.slice none 0 0) w:=⟨none,0,rfl,zN _,by decide,λh =>absurd rfl h⟩
theorem rB{v:Value}{r b:Bool}(hv:v =.bool b)(h:b =r):Ending.returned v =.returned (.bool r) :=by rw[hv,h]
theorem plain_f{w:World}{op n lo hi op' n' lo' hi':Int}{nm nm':List UInt8}{s:Bool}{a:Option Addr}{m c:Nat}{ao ao':Option Addr}{la cp la' cp':Nat}:
    Calls prog 100 #[.agg #[.int .i64 op,qB nm,.int .i64 n,.bool s,.slice a m c,.int .i64 lo,.int .i64 hi,.slice ao la cp],.agg #[.int .i64 op',qB nm',.int .i64 n',.bool false,.slice none 0 0,.int .i64 lo',.int .i64 hi',.slice ao' la' cp']] w
      (RVal w (.bool (decide (nm =nm'/\n =n'/\lo =lo'/\hi =hi'/\m =0/\s =false/\la =la')))) :=by
  obtain⟨W,hW,E,B1,B2⟩:∃W,W =(w.alloc (.cells #[.int .i64 op,qB nm,.int .i64 n,.bool s,.slice a m c,.int .i64 lo,.int .i64 hi,.slice ao la cp] 32)).alloc (.cells #[.int .i64 op',qB nm',.int .i64 n',.bool false,.slice none 0 0,.int .i64 lo',.int .i64 hi',.slice ao' la' cp'] 32)/\Ext w W/\
      Bk W w.heap.size [.int .i64 op,qB nm,.int .i64 n,.bool s,.slice a m c,.int .i64 lo,.int .i64 hi,.slice ao la cp]/\Bk W (w.heap.size + 1) [.int .i64 op',qB nm',.int .i64 n',.bool false,.slice none 0 0,.int .i64 lo',.int .i64 hi',.slice ao' la' cp'] :=
    ⟨_,rfl,((Ext.refl w).alloc _).alloc _,(Bk.new w _ _).ext ((Ext.refl _).alloc _),Bk.newE _ _ zo _ _⟩
  obtain⟨r,hr⟩:∃r,decide (nm =nm'/\n =n'/\lo =lo'/\hi =hi'/\m =0/\s =false/\la =la')=r:=⟨_,rfl⟩
  rw[hr]
  have HR:=hid hr
  clear hr
  go_enter func100,ntmps100
  go_upto_region 1 with fail
  rw[qB,qB]at *
  rw[<-hW]
  clear hW
  obtain⟨g,hg⟩:∃g,w.heap.size =g:=⟨_,rfl⟩
  rw[hg]at B1 B2 ⊢
  have a1:=B1.c 1 _ rfl
  have a2:=B1.c 2 _ rfl
  have a3:=B1.c 3 _ rfl
  have a4:=B1.c 4 _ rfl
  have a5:=B1.c 5 _ rfl
  have a6:=B1.c 6 _ rfl
  have a7:=B1.c 7 _ rfl
  have b1:=B2.c 1 _ rfl
  have b2:=B2.c 2 _ rfl
  have b3:=B2.c 3 _ rfl
  have b4:=B2.c 4 _ rfl
  have b5:=B2.c 5 _ rfl
  have b6:=B2.c 6 _ rfl
  have b7:=B2.c 7 _ rfl
  have HE:=hid E
  clear B1 B2 E hg
  go_wp2
  all_goals (go_ret;refine⟨rB rfl ?_,HE.out⟩;rw[<-HR.out,Bool.eq_iff_iff];clear a1 a2 a3 a4 a5 a6 a7 b1 b2 b3 b4 b5 b6 b7;simp_all <;> omega)
theorem index_cut(c:UInt8):∀l:List UInt8,(c ∉ l ->Lib.indexByte l c = -1)/\ (c∈l ->Lib.indexByte l c =(((l.takeWhile (· !=c)).length:Nat):Int))
  | [] =>⟨λ_ =>rfl,λh =>by cases h⟩
  | b :: l =>by
    obtain⟨h1,h2⟩ :=index_cut c l
    rw[Lib.indexByte]
    by_cases e:b =c
    ·subst e;exact⟨λh =>absurd List.mem_cons_self h,λ_ =>by simp⟩
    · have e2:(b ==c)=false:=by simpa using e
      rw[e2]
      refine⟨λh =>?_,λh =>?_⟩
      ·have:=h1 (λhm =>h (List.mem_cons_of_mem _ hm));rw[this];rfl
      · have hm:c∈l:=(List.mem_cons.1 h).resolve_left (λq =>e q.symm)
        have:=h2 hm
        rw[this]
        have hne:(((l.takeWhile (· !=c)).length:Nat):Int)≠-1:=ze
        simp[e,hne]
theorem ba_ex(l:List UInt8)(a b:Nat):(⟨l.toArray⟩:ByteArray).extract a b =⟨((l.drop a).take (b - a)).toArray⟩ :=by
  apply ByteArray.ext
  rw[ByteArray.data_extract]
  simp[List.extract_toArray]
theorem tw_take(c:UInt8)(l:List UInt8):l.take (l.takeWhile (· !=c)).length =l.takeWhile (· !=c)/\l.drop ((l.takeWhile (· !=c)).length + 1)=(l.dropWhile (· !=c)).drop 1:=by
  have h:∀k,l.take k =(l.takeWhile (· !=c) ++l.dropWhile (· !=c)).take k/\l.drop k =(l.takeWhile (· !=c) ++l.dropWhile (· !=c)).drop k:=λk =>by rw[List.takeWhile_append_dropWhile];exact⟨rfl,rfl⟩
  rw[(h _).1,(h _).2]
  exact⟨List.take_left' rfl,by rw[List.drop_append];simp⟩
theorem tw_lt{c:UInt8}{l:List UInt8}(h:c∈l):(l.takeWhile (· !=c)).length + 1 <=l.length:=by
  have h1:=List.takeWhile_append_dropWhile (p:=(· !=c)) (l:=l)
  have h2:=congrArg List.length h1
  rw[zQ]at h2
  cases hd:l.dropWhile (· !=c)with
  | nil =>
    rw[hd,List.append_nil]at h1
    rw[<-h1]at h
    have:=List.all_eq_true.1 (List.all_takeWhile (p:=(· !=c)) (l:=l)) c h
    simp at this
  |cons a t =>rw[hd,List.length_cons]at h2;omega
theorem tw_none{c:UInt8}{l:List UInt8}(h:c ∉ l):l.takeWhile (· !=c)=l/\ (l.dropWhile (· !=c)).drop 1 = [] :=by
  have h1:l.all (· !=c)=true:=List.all_eq_true.2 λx hx =>by simp;rintro rfl;exact h hx
  obtain⟨t1,t2⟩ :=tw_app (p:=(· !=c)) l [] h1 (λc t e =>by cases e)
  rw[List.append_nil]at t1 t2
  exact⟨t1,by rw[t2];rfl⟩
theorem tNvl_3{P:Prop}(h:P:=by
  clear hs
  go_enter func153,ntmps153
  go_wp2_with (go_at_call 176;refine zG (H _).out ?_;rintro e w1 ⟨rfl,rfl⟩)
  go_ret
  exact⟨rfl,rfl⟩
  ):P:=h
theorem idx125_f(w:World)(l:List UInt8):Calls prog 153 #[qB l,.string ⟨#[125]⟩] w λe w' =>e =.returned (.int .i64 (Lib.indexByte l 125))/\w' =w:=by
  have h:=Tryz.stringslite_IndexByte ⟨l.toArray⟩ 125
  have H:=λw =>hid (h w)
  clear h
  rw[qB]
  by_cases hs:l = [125]
  · subst hs
    have h0:Lib.indexByte [125] 125 =0:=by decide
    rw[h0]
    go_enter func153,ntmps153
    go_wp2_with fail
    go_ret
    exact⟨rfl,rfl⟩
  · have hs2:([125] ==l)=false:=by rw[zJ];exact λh =>hs h.symm
    have hs3:(l == [125])=false:=by rw[zJ];exact hs
    exact tNvl_3
theorem tNvl_1{P:Prop}(h:P:=by
  rw[qB]at HI ⊢
  go_enter func159,ntmps159
  go_wp2_with (go_at_call 153;refine zG (HI _).out ?_;rintro e w1 ⟨rfl,rfl⟩;rw[H.out])
  go_region
  all_goals go_wp2
  all_goals go_ret3
  all_goals exact⟨by rw[HX.out.1,HX.out.2];rfl,(Ext.refl _).drew⟩
  ):P:=h
theorem tNvl_2{P:Prop}(h:P:=by
  rw[qB]at HI ⊢
  go_enter func159,ntmps159
  go_wp2_with (go_at_call 153;refine zG (HI _).out ?_;rintro e w1 ⟨rfl,rfl⟩;rw[H.out])
  go_ret3
  exact⟨rfl,Ext.refl _⟩
  ):P:=h
theorem cut125a_f(w:World)(l:List UInt8)(hs:l.length < 4611686018427387904):Calls prog 159 #[qB l,.string ⟨#[125]⟩] w λe w' =>e =.returned (.tuple #[qB (l.takeWhile (· !=125)),qB ((l.dropWhile (· !=125)).drop 1),.bool (decide (125∈l))])/\Ext w w':=by
  by_cases hm:(125:UInt8)∈l
  · obtain⟨i,hi⟩:∃i,(l.takeWhile (· !=125)).length =i:=⟨_,rfl⟩
    have h1:=(index_cut 125 l).2 hm
    obtain⟨t1,t2⟩ :=tw_take 125 l
    have h2:=tw_lt hm
    rw[hi]at h1 t1 t2 h2
    rw[<-t1,<-t2,decide_eq_true hm]
    obtain⟨n,hn⟩:∃n,l.length =n:=⟨_,rfl⟩
    have x1:(⟨l.toArray⟩:ByteArray).extract 0 i =⟨(l.take i).toArray⟩ :=by rw[ba_ex];simp
    have x2:(⟨l.toArray⟩:ByteArray).extract (i + 1) l.length =⟨(l.drop (i + 1)).toArray⟩ :=by rw[ba_ex,List.take_of_length_le (by simp)]
    rw[hn]at x2
    have HX:=hid (zL x1 x2)
    have c1:(0:Int) <=(i:Int) :=ze
    have c2:(i:Int) <=(n:Int) :=ze
    have c3:(0:Int) <=(i:Int) + 1:=ze
    have c4:(i:Int) + 1 <=(n:Int) :=ze
    have hsz:(⟨l.toArray⟩:ByteArray).size =n:=by rw[<-hn];rfl
    rw[hn]at hs
    have H:=hid h1
    have HN:=hid hn
    clear x1 x2 t1 t2 h1 hm hi hn
    have HI:=λw =>hid (idx125_f w l)
    exact tNvl_1
  · have h1:=(index_cut 125 l).1 hm
    obtain⟨t1,t2⟩ :=tw_none hm
    rw[t1,t2,decide_eq_false hm]
    have H:=hid h1
    clear h1 hm t1 t2
    have HI:=λw =>hid (idx125_f w l)
    exact tNvl_2
theorem cut125_of(x:ByteArray)(a b:Value)(t:Bool)(h:∀w,Calls prog 159 #[.string x,.string ⟨#[125]⟩] w λe w' =>e =.returned (.tuple #[a,b,.bool t])/\Ext w w')(w:World):
    Calls prog 127 #[.string x,.string ⟨#[125]⟩] w λe w' =>e =.returned (.tuple #[a,b,.bool t])/\Ext w w':=by
  have H:=hid h
  clear h
  go_enter func127,ntmps127
  go_wp2_with (go_at_call 159;refine zG (H.out _) ?_;rintro e w1 ⟨rfl,e1⟩)
  go_ret3
  exact⟨rfl,e1⟩
theorem cut125_f(w:World)(l:List UInt8)(hs:l.length < 4611686018427387904):Calls prog 127 #[qB l,.string ⟨#[125]⟩] w λe w' =>e =.returned (.tuple #[qB (l.takeWhile (· !=125)),qB ((l.dropWhile (· !=125)).drop 1),.bool (decide (125∈l))])/\Ext w w':=
  cut125_of _ _ _ _ (λw =>cut125a_f w l hs) w
theorem idx34_f(w:World)(l:List UInt8):Calls prog 153 #[qB l,.string ⟨#[34]⟩] w λe w' =>e =.returned (.int .i64 (Lib.indexByte l 34))/\w' =w:=by
  have h:=Tryz.stringslite_IndexByte ⟨l.toArray⟩ 34
  have H:=λw =>hid (h w)
  clear h
  rw[qB]
  by_cases hs:l = [34]
  · subst hs
    have h0:Lib.indexByte [34] 34 =0:=by decide
    rw[h0]
    go_enter func153,ntmps153
    go_wp2_with fail
    go_ret
    exact⟨rfl,rfl⟩
  · have hs2:([34] ==l)=false:=by rw[zJ];exact λh =>hs h.symm
    have hs3:(l == [34])=false:=by rw[zJ];exact hs
    exact tNvl_3
theorem cut34a_f(w:World)(l:List UInt8)(hs:l.length < 4611686018427387904):Calls prog 159 #[qB l,.string ⟨#[34]⟩] w λe w' =>e =.returned (.tuple #[qB (l.takeWhile (· !=34)),qB ((l.dropWhile (· !=34)).drop 1),.bool (decide (34∈l))])/\Ext w w':=by
  by_cases hm:(34:UInt8)∈l
  · obtain⟨i,hi⟩:∃i,(l.takeWhile (· !=34)).length =i:=⟨_,rfl⟩
    have h1:=(index_cut 34 l).2 hm
    obtain⟨t1,t2⟩ :=tw_take 34 l
    have h2:=tw_lt hm
    rw[hi]at h1 t1 t2 h2
    rw[<-t1,<-t2,decide_eq_true hm]
    obtain⟨n,hn⟩:∃n,l.length =n:=⟨_,rfl⟩
    have x1:(⟨l.toArray⟩:ByteArray).extract 0 i =⟨(l.take i).toArray⟩ :=by rw[ba_ex];simp
    have x2:(⟨l.toArray⟩:ByteArray).extract (i + 1) l.length =⟨(l.drop (i + 1)).toArray⟩ :=by rw[ba_ex,List.take_of_length_le (by simp)]
    rw[hn]at x2
    have HX:=hid (zL x1 x2)
    have c1:(0:Int) <=(i:Int) :=ze
    have c2:(i:Int) <=(n:Int) :=ze
    have c3:(0:Int) <=(i:Int) + 1:=ze
    have c4:(i:Int) + 1 <=(n:Int) :=ze
    have hsz:(⟨l.toArray⟩:ByteArray).size =n:=by rw[<-hn];rfl
    rw[hn]at hs
    have H:=hid h1
    have HN:=hid hn
    clear x1 x2 t1 t2 h1 hm hi hn
    have HI:=λw =>hid (idx34_f w l)
    exact tNvl_1
  · have h1:=(index_cut 34 l).1 hm
    obtain⟨t1,t2⟩ :=tw_none hm
    rw[t1,t2,decide_eq_false hm]
    have H:=hid h1
    clear h1 hm t1 t2
    have HI:=λw =>hid (idx34_f w l)
    exact tNvl_2
theorem cut34_of(x:ByteArray)(a b:Value)(t:Bool)(h:∀w,Calls prog 159 #[.string x,.string ⟨#[34]⟩] w λe w' =>e =.returned (.tuple #[a,b,.bool t])/\Ext w w')(w:World):
    Calls prog 127 #[.string x,.string ⟨#[34]⟩] w λe w' =>e =.returned (.tuple #[a,b,.bool t])/\Ext w w':=by
  have H:=hid h
  clear h
  go_enter func127,ntmps127
  go_wp2_with (go_at_call 159;refine zG (H.out _) ?_;rintro e w1 ⟨rfl,e1⟩)
  go_ret3
  exact⟨rfl,e1⟩
theorem cut34_f(w:World)(l:List UInt8)(hs:l.length < 4611686018427387904):Calls prog 127 #[qB l,.string ⟨#[34]⟩] w λe w' =>e =.returned (.tuple #[qB (l.takeWhile (· !=34)),qB ((l.dropWhile (· !=34)).drop 1),.bool (decide (34∈l))])/\Ext w w':=
  cut34_of _ _ _ _ (λw =>cut34a_f w l hs) w
theorem hasPre_f(w:World)(s x:List UInt8):Calls prog 112 #[qB s,qB x] w (RSame w (.bool (x.isPrefixOf s))) :=by
  refine zG (Tryz.strings_HasPrefix ⟨s.toArray⟩ ⟨x.toArray⟩ w) ?_
  rintro e w' ⟨rfl,rfl⟩
  exact⟨rfl,rfl⟩
theorem cutPre_f(w:World)(s x:List UInt8):Calls prog 111 #[qB s,qB x] w (λe w' =>w' =w/\e =.returned (.tuple #[qB (if x.isPrefixOf s then s.drop x.length else s),.bool (x.isPrefixOf s)])) :=by
  refine zG (Tryz.strings_CutPrefix ⟨s.toArray⟩ ⟨x.toArray⟩ w) ?_
  rintro e w' ⟨rfl,rfl⟩
  exact⟨rfl,rfl⟩
open Go Go.RowKit Go.Maps Go.Sort Go.Shelf
def clRen:Ren:=⟨fun|8 =>54|11 =>94|n =>n,fun|0 =>0|24 =>53|26 =>9|28 =>90|33 =>70|n =>n,fun|n =>n⟩
theorem clLays:SlLaysZ.n8 prog clRen:= {
  mixed:=zc
  f8:=⟨Tryz.f54.name,by kernel_rfl,func54.trans (congrArg some zc)⟩
  f11:=⟨Tryz.f94.name,by kernel_rfl,func94.trans (congrArg some zc)⟩
  t0:=zc
  a0:=λw =>by kernel_rfl
  z0:=λw =>by kernel_rfl
  v0:=λw =>by kernel_rfl
  t24:=zc
  a24:=λw =>by kernel_rfl
  z24:=λw =>by kernel_rfl
  v24:=λw =>by kernel_rfl
  t26:=zc
  a26:=λw =>by kernel_rfl
  z26:=λw =>by kernel_rfl
  v26:=λw =>by kernel_rfl
  t28:=zc
  a28:=λw =>by kernel_rfl
  z28:=λw =>by kernel_rfl
  v28:=λw =>by kernel_rfl
  i26:=by kernel_rfl}
theorem strV{v:Value}{z:DU×List MemPlace}(h:plainElem prog 9 v =some z):∃c:List UInt8,v =encStr c:=by
  obtain⟨s,rfl,_,_⟩ :=plainElem_string_inv jK h
  exact⟨s.data.toList,by simp[encStr]⟩
theorem wD_key{k:Int}(h:Maps.has wD (.int .i64 k)=true):k∈wKeys:=by
  rw[wD,putL_has]at h;simpa using h
theorem vals1_in(F:Fence)(n:Nat)(h7:F.fn 95)(hro:F.round =none)(hn:1 <=n)(l Bm b nn:Nat)(J:List (List UInt8) ->World ->Prop)
    (hY:∀pre x W,J pre W ->pre.length < Maps.size wD ->YieldAt F (n - 1) prog l #[encStr x] W λe W' =>e =.returned (.bool true)/\J (pre ++ [x]) W'/\KeepsWalks W W')
    (W:World) (hJ:AbidesFrom W.heap.size J) (hm:W.cell? ⟨Bm,0,none⟩=some (.map (some b))) (hown:W.ownsMap prog 3 (plainElem prog 9) b nn wD) (h0:J [] W) :
    CallsIn F n prog 95 #[.func (.yield l) #[] #[],.pointer (some ⟨Bm,0,none⟩)] W λe W' =>(∃v,e =.returned v)/\∃ks:List Int,ks.Perm (intKeys wD)/\J (ks.map opW) W':=by
  refine callsIn_of_wp func95 rfl h7 ?_ hro
  simp only[ntmps95,List.size_toArray,List.length_cons,List.length_nil,Nat.reduceAdd,Nat.reduceSub,Array.replicate_succ,Array.replicate_zero,List.push_toArray,List.append_toArray,List.nil_append,List.cons_append]
  gi_wp2_with (first
    | (gi_at_range;refine wpListIn_range_own _ rfl _ 100 rfl 3 9 lawI ty_mis _ b nn _ rfl hown ?_;intro w0 hrg0 hg0 hs0)
    |gi_in)
  go_frame
  gi_loopw [4] (λ_ wr =>∃(left:Lit ->Bool) (cnt:Nat) (ks:List Int),wr.ranges prog 3 (plainElem prog 9) b W.heap.size nn wD left cnt/\ks.length + cnt <=Maps.size wD/\CollectedI wD left ks/\ (∀k∈ks,k∈wKeys)/\J (ks.map opW) wr)
    (λ_ wr =>wr.rangeLeft b W.heap.size)
  case atStart =>
    exact⟨_,_, [],hrg0,by simp,CollectedI.start wD,by simp,hJ [] W w0 none h0 hg0 (λr e =>by cases e)⟩
  case round =>
    obtain⟨left,cnt,ks,hrg,hcs,hC,hK,hJs⟩ :=hrel
    gi_wp2_with (first
      | (gi_at_next;refine wpListIn_next_ranges _ rfl _ rfl 3 lawI (plainElem prog 9) encZ encStr (λkey kl hk =>by obtain⟨x,hx,_⟩ :=Maps.keyOf_i64 xD hk;exact⟨x,hx⟩) (λv y hv =>strV hv) b W.heap.size nn _ _ _ rfl hrg ?_ ?_)
      |gi_in)
    · intro hc0 hl0
      gi_wp2
      go_end0
      exact⟨⟨_,rfl⟩,ks,hC.perm hown lawI xD hl0,hJs⟩
    · intro x c kl yd yp w2 cnt2 hkey hlk hv hat hrg2 hlt hg2 hs2 hen
      obtain⟨x',ex,rfl,_⟩ :=Maps.keyOf_i64 xD hkey
      obtain rfl:x =x':=encZ_inj ex
      have hx:x∈wKeys:=wD_key (Maps.has_true_of_atKey hat)
      obtain rfl:opW x =c:=by
        obtain⟨s,hs,hz,_⟩ :=plainElem_string_inv jK hv
        have h1:=hat (.map [])
        rw[wD,putL_at,if_pos hx]at h1
        simp only[Prod.mk.injEq]at hz
        rw[hz.1]at h1
        have h2:s.data.toList =c:=by
          have:=congrArg (λv =>match v with|Value.string t =>t.data.toList|_ => []) hs
          simpa [encStr]using this.symm
        rw[h2]at h1
        simpa using h1
      have hJ2:J (ks.map opW) w2:=hJ (ks.map opW) wr w2 (some W.heap.size) hJs hg2 (λr e =>by cases e;exact⟨zN _,hrg.iter_walk⟩)
      obtain⟨fn,tmps,assign,body,hy,hR⟩ :=hY (ks.map opW) (opW x) w2 hJ2 (by rw[List.length_map];omega)
      clear hs2
      gi_wp2
      refine hR.mono ?_
      rintro e W0 ⟨rfl,hJ3,hk3⟩
      gi_wp2
      have hrg3:=hrg2.of_walks hk3
      go_roundw
      case rel =>exact⟨_,cnt2,ks ++ [x],hrg3,by simp;omega,hC.step hlk hat,λk hk =>(List.mem_append.1 hk).elim (hK k) (λe =>by rw[List.mem_singleton.1 e];exact hx),by simpa using hJ3⟩
      case measure =>rw[hrg3.left_eq,hrg.left_eq];exact hlt
theorem values_f(w:World)(b:Nat):CallsIn Fence.wide 5 prog 55 #[.map (some b)] w λe w' =>e =.returned (.func (.func 95) #[] #[.pointer (some ⟨w.heap.size,0,none⟩)])/\w' =w.alloc (.cells #[.map (some b)] 100) :=by
  refine callsIn_of_wp func55 rfl trivial ?_ rfl
  simp only[ntmps55,List.size_toArray,List.length_cons,List.length_nil,Nat.reduceAdd,Nat.reduceSub,Array.replicate_succ,Array.replicate_zero,List.push_toArray,List.append_toArray,List.nil_append,List.cons_append]
  gi_wp2
  go_ret
  exact⟨rfl,rfl⟩
theorem vlsC:VlsC:=by
  intro w b hown
  refine zG (callsIn_wide.1 (values_f w b)) ?_
  rintro e w1 ⟨rfl,rfl⟩
  have e1:Ext w (w.alloc (.cells #[.map (some b)] 100)) :=(Ext.refl w).alloc _
  have hown1:(w.alloc (.cells #[.map (some b)] 100)).ownsMap prog 3 (plainElem prog 9) b 9 wD:=hown.alloc _
  refine⟨e1,_,rfl,?_⟩
  have hseq:SeqGives Fence.wide 3 prog 95 #[.pointer (some ⟨w.heap.size,0,none⟩)] encStr (λvs =>∃ks:List Int,ks.Perm (intKeys wD)/\vs =ks.map opW) (Maps.size wD) (w.alloc (.cells #[.map (some b)] 100)) :=λl J W hW hJ hY h0 =>by
    have hownW:W.ownsMap prog 3 (plainElem prog 9) b 9 wD:=by
      have hbl:=hown1.lt
      obtain⟨es,clock,hb,Ft,hs,hD⟩ :=hown1
      exact⟨es,clock,(hW.block b hbl).trans hb,Ft,hs,hD⟩
    refine(vals1_in Fence.wide 3 trivial rfl ze l w.heap.size b 9 J hY W hJ ((hW.cell (p:=⟨w.heap.size,0,none⟩) zo).trans zo) hownW h0).mono ?_
    rintro e W' ⟨hv,ks,hp,hj⟩
    exact⟨hv,ks.map opW,⟨ks,hp,rfl⟩,hj⟩
  refine zG (callsIn_wide.1 (AnyZ.collect_in clLays Fence.wide 5 trivial trivial rfl ze 95 _ trivial (enters_of func95 zc rfl) _ (Maps.size wD) dcx dcx _ hseq)) ?_
  rintro e2 w2 ⟨v,vs,rfl,⟨ks,hp,rfl⟩,hrow,hnil,hb⟩
  have hk:intKeys wD = [4,5,6,7,8,9,10,12,13] :=by decide
  rw[hk]at hp
  refine⟨hb,v,rfl,ks.map opW,?_,by rw[List.length_map,hp.length_eq];decide,λs =>?_⟩
  · have hr:Rwg 9 1 _ w2 v _ _:=hrow
    obtain⟨ao,cap,rfl,h1,h2,-,h4⟩ :=hr.shape
    refine⟨ao,cap,rfl,zO h1 h2,λhne =>?_⟩
    obtain⟨g,rfl,-,-,k⟩ :=h4 (λe =>hne (List.length_eq_zero_iff.1 e))
    exact⟨g,0,rfl,λj s hj =>by rw[Nat.zero_add];exact k j _ (by rw[List.getElem?_map,hj];rfl)⟩
  · rw [List.mem_map,List.mem_map]
    constructor
    · rintro⟨k,hk1,rfl⟩
      refine⟨k,?_,rfl⟩
      have:=hp.mem_iff.1 hk1
      revert this
      simp only[wKeys,List.mem_cons,List.not_mem_nil,or_false]
      omega
    · rintro⟨k,hk1,rfl⟩
      refine⟨k,hp.mem_iff.2 ?_,rfl⟩
      revert hk1
      simp only[wKeys,List.mem_cons,List.not_mem_nil,or_false]
      omega
end Go.Proofs.YtenhciieboegbaaGreatDoor
