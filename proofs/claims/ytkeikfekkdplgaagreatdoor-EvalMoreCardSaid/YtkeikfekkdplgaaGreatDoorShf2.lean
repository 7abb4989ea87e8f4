/- Lemmas. -/
import Derived.Test.YtkeikfekkdplgaaGreatDoorAddG
import Derived.Test.YtkeikfekkdplgaaGreatDoorTre
import Derived.Test.YtkeikfekkdplgaaGreatDoorVal
import Derived.Test.YtkeikfekkdplgaaGreatDoorHld
namespace Go.Proofs.YtkeikfekkdplgaaGreatDoor
section
open Go Go.RowKit Go.Maps Go.Shelf
open Go.Proofs.Tryz
theorem xz{P:Prop}(h:P:=by exact mv (qB (x:=.int .i64 (y:Int)) 6)):P:=h
attribute [local go_sem] Oper.semAt_some
set_option maxRecDepth 100000
def IsIE(base n:Nat)(v:Value)(w:World):Prop:=∃xs,Rwg 28 2 base w v n xs/\NwB w v/\IntsAt xs n w
theorem IsIE.ext{base n:Nat}{v:Value}{w w':World}(h:IsIE base n v w)(e:Ext w w'):IsIE base n v w':=let ⟨xs,h1,h2,h3⟩:=h;⟨xs,h1.ext e,h2.kept λg hg=>e.block g (h1.own_lt hg).1,h3.gr e.gr⟩
theorem IsIE.stb(base n:Nat):Stb (IsIE base n):=λ_ _ _ e h=>h.ext e
instance (base n:Nat):StbC (IsIE base n):=⟨IsIE.stb base n⟩
theorem IsIE.own_lt{base n:Nat}{v:Value}{w:World}(h:IsIE base n v w){g:Nat}(hg:v.ownBlock=some g):g<w.heap.size/\base<=g:=let ⟨_,h1,_⟩:=h;h1.own_lt hg
theorem wp_ie{w:World}{o:Oper}{a:Act}{Q:Exit->Act->World->Prop}{K:Act->World->Prop}(t:Tmp)(s x:Operand)
  (ho:o.op=.call {callee:=.builtin .append,args:= #[s,x],argTypes:= #[69,69]}) (base n m:Nat) (v xv:Value) (news:List Value) (hs:a.eval s=v) (hx:a.eval x=xv) (hI:IsIE base n v w) (hnews:SrcR m news xv w) (hk:IntsAt news m w) (hN:n+m<=1000000000) (hbase:base<=w.heap.size)
  (h:∀v' w',IsIE base (n+m) v' w'->Pg v w v' w'->K (a.put (some t) v') w') (hdt:o.dst=some t:=by rfl):Oper.wp prog o a w K Q:=by
 obtain⟨xs,h2,h3,h4⟩:=hI;obtain⟨bytes,hi,hb⟩:=infoN;refine wp_rwnS s x 69 ho base 28 (.agg zInt.toArray) 2 bytes za hi rfl dcx (λu hu=>nwZInt u jo) v n xs hs h2 h3 m news xv hx hk.1 hnews hk.nw.1 hk.nw.2 zb (by have:=Nat.mul_le_mul (show n+m<=1000000000 by omega) hb;omega) hbase ?_;intro v' w' r1 r2 r3 r4 r5 r6;rw[hdt];exact h v' w' ⟨xs++news,r1,r2,(h4.gr r4).app (hk.gr r4)⟩ ⟨r3,r4,r6.imp id λe=>⟨_,e,jJ _⟩⟩
def EnS(base:Nat)(nm:ByteArray)(n:Nat)(es:List Value)(X:World):Prop:=∃(va:Option Addr) (vc:Nat) (ha:Option Addr) (hc:Nat) (hy:List Int),es=entV nm va n vc ha hy.length hc/\1<=n/\n<=3/\IsIE base n (.slice va n vc) X/\hy.length<=1/\(∀z∈hy,1<=z/\z<=3)/\(hy≠ []->∃g,ha=some ⟨g,0,none⟩/\(Value.slice va n vc).ownBlock≠some g/\∀j x,hy[j]? =some x->World.cell? X ⟨g,0+j,none⟩=some (.int .i64 x))
theorem EnS.ext{base n:Nat}{nm:ByteArray}{es:List Value}{X X':World}(h:EnS base nm n es X)(e:Ext X X'):EnS base nm n es X':=by
 obtain⟨va,vc,ha,hc,hy,h1,h2,h3,h4,h5,h6,h7⟩:=h;exact⟨va,vc,ha,hc,hy,h1,h2,h3,h4.ext e,h5,h6,λhn=>let ⟨g,k1,k2,k3⟩:=h7 hn;⟨g,k1,k2,λj x hj=>e.cell (k3 j x hj)⟩⟩
theorem OnlyB.gb{k:Nat}{w w':World}(O:OnlyB k w w'):w.grownBy w' (some k):=⟨O.os,O.tape,O.output,by rw[O.size];exact jJ _,λq _ hne=>O.block q (λe=>hne (by rw[e]))⟩
theorem IsIE.only{base n k:Nat}{v:Value}{w w':World}(h:IsIE base n v w)(O:OnlyB k w w')(hk:v.ownBlock≠some k):IsIE base n v w':=by
 obtain⟨xs,h1,h2,h3⟩:=h;exact⟨xs,h1.grown O.gb (λg hg e=>hk (hg.trans e.symm)),h2.kept (λg hg=>O.block g (λe=>hk (e▸hg))),h3.gr O.gr⟩
theorem IsIE.c0{base n:Nat}{va:Option Addr}{vc:Nat}{w:World}(h:IsIE base n (.slice va n vc) w)(hn:1<=n):∃g s,va=some ⟨g,0,none⟩/\World.cell? w ⟨g,0,none⟩=some (.bool s):=by
 obtain⟨xs,h1,-,h3⟩:=h;obtain⟨ao,cap,hv,-,-,-,h5⟩:=h1.shape;cases hv;obtain⟨g,k1,-,-,k2⟩:=h5 zb;obtain⟨s,a,m,c,z,q1,-,-⟩:=h3.2 0 zb;exact⟨g,s,k1,k2 _ _ q1⟩
theorem EnS.only{base n k:Nat}{nm:ByteArray}{es:List Value}{X X':World}{x:ByteArray}(h:EnS base nm n es X)(O:OnlyB k X X')(hk:World.cell? X ⟨k,0,none⟩=some (.string x)):EnS base nm n es X':=by
 obtain⟨va,vc,ha,hc,hy,h1,h2,h3,h4,h5,h6,h7⟩:=h;refine⟨va,vc,ha,hc,hy,h1,h2,h3,h4.only O ?_,h5,h6,λhn=>?_⟩
 ·obtain⟨g,s,rfl,hg⟩:=h4.c0 h2;intro e;cases e;rw[hg]at hk;cases hk
 ·obtain⟨g,k1,k2,k3⟩:=h7 hn;obtain⟨x0,hx0⟩:=nel hn
  have hne:g≠k:=λe=>by
   have:=k3 0 x0 hx0;rw[e,hk]at this;cases this
  exact⟨g,k1,k2,λj x hj=>qW (k3 j x hj) O hne⟩
theorem EnS.ent{base n:Nat}{nm:ByteArray}{es:List Value}{X:World}(h:EnS base nm n es X):∃d,EntW nm d es X:=by
 obtain⟨va,vc,ha,hc,hy,h1,h2,h3,⟨xs,r1,r2,r3⟩,h5,h6,h7⟩:=h;obtain⟨ao,cap,hv,-,-,-,h8⟩:=r1.shape;cases hv;obtain⟨g,k1,-,-,k2⟩:=h8 zb
 have hz:∀j:Nat,∃z:Int,j<n->∃s a m c,xs[2*j]? =some (Value.bool s)/\xs[2*j+1]? =some (Value.slice a m c)/\IsI 128 z (.agg #[.bool s,.slice a m c]) X:=λj=>by
  by_cases hj:j<n
  ·obtain⟨s,a,m,c,z,q⟩:=r3.2 j hj;exact⟨z,λ_=>⟨s,a,m,c,q⟩⟩
  ·exact⟨0,λh=>absurd h hj⟩
 obtain⟨f,hf⟩:=Classical.axiomOfChoice hz;have hl:((List.range n).map f).length=n:=zd
 refine⟨⟨(List.range n).map f,hy⟩,⟨by rw[hl];omega,λe=>by have:=congrArg List.length e;simp at this;omega⟩,h5,h6,va,vc,ha,hc,by rw[hl];exact h1,λ_=>⟨g,k1,λj z hj=>?_⟩,λhn=>?_⟩
 ·have hjn:j<n:=by have:=(List.getElem?_eq_some_iff.1 hj).1;simpa using this
  rw[List.getElem?_map,List.getElem?_range hjn]at hj;cases hj;obtain⟨s,a,m,c,q1,q2,q3⟩:=hf j hjn;exact⟨s,a,m,c,k2 _ _ q1,k2 _ _ q2,q3⟩
 ·obtain⟨g',q1,-,q3⟩:=h7 hn;exact⟨g',0,q1,q3⟩
def OneS(b:Nat)(w:World):Prop:=(∀o,World.cell? w ⟨b,o+1,none⟩=none)/\b<w.heap.size/\∃a n c,World.cell? w ⟨b,0,none⟩=some (.slice a n c)
theorem OneS.ext{b:Nat}{w w':World}(h:OneS b w)(e:Ext w w'):OneS b w':=⟨λo=>(World.cell?_of_block (w:=w) (a:=⟨b,o+1,none⟩) (e.block b h.2.1)).trans (h.1 o),Nat.lt_of_lt_of_le h.2.1 e.size,let ⟨a,n,c,k⟩:=h.2.2;⟨a,n,c,e.cell k⟩⟩
theorem OneS.ne{b g o:Nat}{w:World}{u:Value}(h:OneS b w)(hc:World.cell? w ⟨g,o,none⟩=some u)(hu:∀a n c,u≠ .slice a n c):g≠b:=λe=>by
 subst e;cases o with
 |zero=>obtain⟨a,n,c,k⟩:=h.2.2;rw[k]at hc;exact hu _ _ _ (Option.some.inj hc).symm
 |succ o=>rw[h.1 o]at hc;cases hc
theorem EntW.one{nm:ByteArray}{d:EnD}{es:List Value}{w w':World}{b:Nat}(h:EntW nm d es w)(O:OnlyB b w w')(h1:OneS b w):EntW nm d es w':=by
 obtain⟨q1,q2,q3,va,vc,ha,hc,k1,k2,k3⟩:=h;refine⟨q1,q2,q3,va,vc,ha,hc,k1,λhn=>?_,λhn=>?_⟩
 ·obtain⟨g,r1,r2⟩:=k2 hn;refine⟨g,r1,λj z hj=>?_⟩;obtain⟨s,a,n,c',t1,t2,t3⟩:=r2 j z hj;have hne:=h1.ne t1 (λ_ _ _ e=>by cases e);exact⟨s,a,n,c',qW t1 O hne,qW t2 O hne,IsI.gstb _ _ _ _ _ O.gr t3⟩
 ·obtain⟨g,o,r1,r2⟩:=k3 hn;exact⟨g,o,r1,λj x hj=>qW (r2 j x hj) O (h1.ne (r2 j x hj) (λ_ _ _ e=>by cases e))⟩
theorem HeldW.one{p:Int×Int×Int}{vs:List Value}{w w':World}{b:Nat}(h:HeldW p vs w)(O:OnlyB b w w')(h1:OneS b w):HeldW p vs w':=by
 obtain⟨nm,d,es,g,o,c,k1,k2,k3,k4,k5⟩:=h;have hne:=h1.ne k3 (λ_ _ _ e=>by cases e);exact⟨nm,d,es,g,o,c,k1,k2.one O h1,qW k3 O hne,qW k4 O hne,qW k5 O hne⟩
theorem HdS2.one{L:List (List Value)}{v:Value}{w w':World}{b:Nat}(h:HdS2 L v w)(hL:∀vs∈L,∃x,vs[0]? =some (.string x))(O:OnlyB b w w')(h1:OneS b w):HdS2 L v w':=h.imp id λ⟨g,c,k1,k2,k3⟩=>⟨g,c,k1,k2,λj vs hj q u hq=>by
 have hne:g≠b:=by
  obtain⟨x,hx⟩:=hL vs (List.mem_of_getElem? hj);exact h1.ne (k3 j vs hj 0 _ hx) (λ_ _ _ e=>by cases e)
 exact qW (k3 j vs hj q u hq) O hne⟩
attribute [local go_sem] Oper.semAt_some
set_option maxRecDepth 100000
def nam12:List Value:= [.string ⟨#[99,58,45,50,51]⟩,.string ⟨#[99,58,45,52]⟩,.string ⟨#[104,58,55]⟩,.string ⟨#[104,58,56]⟩,.string ⟨#[101,58,55,58,49,58,50]⟩,.string ⟨#[120]⟩,.string ⟨#[104,58,48]⟩,.string ⟨#[104,58,49]⟩,.string ⟨#[104,58,45,57,48]⟩,.string ⟨#[104,58,45,56,57]⟩,.string ⟨#[104,58,57]⟩,.string ⟨#[104,58,45,49]⟩]
def zz1:ByteArray:=⟨#[122,122,58,49]⟩
theorem nam12_at(k:Nat)(h:k<12):∃x:ByteArray,nam12[k]? =some (.string x)/\x≠zz1:=by
 match k,h with
 |0,_|1,_|2,_|3,_|4,_|5,_|6,_|7,_|8,_|9,_|10,_|11,_=>exact⟨_,rfl,by decide⟩
theorem bd_EnV(nm:ByteArray)(a:Option Addr)(n c:Nat)(w:World):(Instr.build 95 #[(0,.string nm),(1,.slice a n c)]).run prog w=.ok (.agg (entV nm a n c none 0 0).toArray) w:=by unfold entV;go_simp
def IsE2(base:Nat)(nm:ByteArray):Value->World->Prop:=λx w=>∃es,x=.agg es.toArray/\EnS base nm 2 es w
theorem IsE2.stb(base:Nat)(nm:ByteArray):Stb (IsE2 base nm):=λ_ _ _ e ⟨es,h1,h2⟩=>⟨es,h1,h2.ext e⟩
instance (base:Nat) (nm:ByteArray):StbC (IsE2 base nm):=⟨IsE2.stb base nm⟩
section
variable {ops:Array Oper} {Q:Exit->Act->World->Prop} {ds:List (Option Tmp)} {a0:Act} {w0:World} {L:List (Value->World->Prop)} {boxes:List Nat} {i k:Nat} {o:Oper} {os:List Oper}
theorem bsE2{base:Nat}(hb0:base<=w0.heap.size){x y:Operand}(hx:Od ops ds a0 w0 L i x IsZ)(hy:Od ops ds a0 w0 L i y IsZ)(ho:o.op=.buildSlice 69 2 #[(0,x),(1,y)]:=by rfl)(hi:L.getD i (λ_ _=>True)=IsIE base 2:=by kernel_rfl)(hb:boxes.contains i=false:=by kernel_rfl):Ok prog ops Q ds a0 w0 L boxes i o:=
 okE' hb λv a w hE hd hf=>by
  obtain⟨z,s,b,n,c,h1,h2⟩:=hx.out v a w hE hd hf;obtain⟨z',s',b',n',c',h1',h2'⟩:=hy.out v a w hE hd hf;rw[h1]at h2;rw[h1']at h2';have hr:(Instr.buildSlice 69 2 #[(0,.agg #[.bool s,.slice b n c]),(1,.agg #[.bool s',.slice b' n' c'])]).run prog w=.ok (.slice (some ⟨w.heap.size,0,none⟩) 2 2) (w.alloc (.cells #[.bool s,.slice b n c,.bool s',.slice b' n' c'] 28)):=zy
  have hk:IntsAt [.bool s,.slice b n c,.bool s',.slice b' n' c'] 2 (w.alloc (.cells #[.bool s,.slice b n c,.bool s',.slice b' n' c'] 28)):=IntsAt.cons (h2.ext ((Ext.refl w).alloc _)) (IntsAt.cons (h2'.ext ((Ext.refl w).alloc _)) (IntsAt.nil _))
  have hnw:NwB (w.alloc (.cells #[.bool s,.slice b n c,.bool s',.slice b' n' c'] 28)) (.slice (some ⟨w.heap.size,0,none⟩) 2 2):=by
   intro g cs e fz hg ho' u hu;cases hg;rw[World.alloc_heap_new]at ho';cases ho';exact hk.nw.2 u (by simpa using hu)
  exact⟨_,_,bsRunZ ho zae,(Ext.refl w).alloc _,by rw[hi];exact⟨_,World.ownsRow_lit (base:=base) w #[.bool s,.slice b n c,.bool s',.slice b' n' c'] 2 (jK hb0 hE.size) dcx rfl,hnw,hk⟩⟩
theorem bdE2{base:Nat}{nm:ByteArray}{x y:Operand}(hx:Od ops ds a0 w0 L i x (IsV (.string nm)))(hy:Od ops ds a0 w0 L i y (IsIE base 2))(ho:o.op=.build 95 #[(0,x),(1,y)]:=by rfl)(hi:L.getD i (λ_ _=>True)=IsE2 base nm:=by kernel_rfl)(hb:boxes.contains i=false:=by kernel_rfl):Ok prog ops Q ds a0 w0 L boxes i o:=
 okE' hb λv a w hE hd hf=>by
  have h1:a.eval x=_:=hx.out v a w hE hd hf;have h2:=hy.out v a w hE hd hf;obtain⟨b,c,hv⟩:∃b c,a.eval y=.slice b 2 c:=by obtain⟨xs,k1,-⟩:=h2;obtain⟨ao,cap,k,-⟩:=k1.shape;exact⟨_,_,k⟩
  rw[hv]at h2;exact⟨_,w,bdG ho (by simp only[List.map_toArray,List.map_cons,List.map_nil];rw[h1,hv];exact bd_EnV _ _ _ _ _),Ext.refl w,by rw[hi];exact⟨_,rfl,b,c,none,0, [],rfl,by decide,by decide,h2,by decide,λ_ h=>absurd h List.not_mem_nil,λh=>absurd rfl h⟩⟩
theorem ofZ{x:Operand}{z:Int}(hz: -9223372036854775808<=z/\z<=9223372036854775807)(hx:Od ops ds a0 w0 L i x (iV z)){c:Call}(ho:o.op=.call c:=by rfl)(hc:c.callee=.value (.func 26):=by rfl)(ha:c.args= #[x]:=by rfl)(hi:L.getD i (λ_ _=>True)=IsZ:=by kernel_rfl)(hb:boxes.contains i=false:=by kernel_rfl):Ok prog ops Q ds a0 w0 L boxes i o:=
 cl1 (en func26) hx (λu w' _ d0=>by
  obtain rfl:u=.int .i64 z:=d0
  exact(ROf_f w' z hz.1 hz.2).mono λe w2 ⟨x,h1,h2,h3⟩=>⟨x,h1,h2,IsZ.of h3 dcx⟩) ho hc ha hi hb
end
theorem EnS.at{base n:Nat}{nm:ByteArray}{es:List Value}{X:World}(h:EnS base nm n es X):es.length=31/\es.all (λu=>u.oneCell')=true/\(∀u∈es,NoWord u)/\es[0]? =some (.string nm)/\(∃va vc,es[1]? =some (.slice va n vc)/\IsIE base n (.slice va n vc) X)/\∃a m c,es[30]? =some (.slice a m c):=by
 obtain⟨va,vc,ha,hc,hy,rfl,h2,h3,h4,-⟩:=h;exact⟨rfl,(entV_nw _ _ _ _ _ _ _).1,(entV_nw _ _ _ _ _ _ _).2,rfl,⟨va,vc,rfl,h4⟩,ha,hy.length,hc,rfl⟩
theorem EnS.hyp{base n g:Nat}{nm:ByteArray}{es:List Value}{X X1:World}{h0:Int}(h:EnS base nm n es X)(B:Bk X g es)(hh:1<=h0/\h0<=3)(hX:(X.alloc (.cells #[.int .i64 h0] 3)).setCell ⟨g,30,none⟩ (.slice (some ⟨X.heap.size,0,none⟩) 1 1)=X1):
  ∃es',EnS base nm n es' X1/\Bk X1 g es'/\OnlyB g (X.alloc (.cells #[.int .i64 h0] 3)) X1:=by
 have e0:Ext X (X.alloc (.cells #[.int .i64 h0] 3)):=(Ext.refl X).alloc _;obtain⟨va,vc,ha,hc,hy,rfl,h2,h3,h4,-⟩:=h;obtain⟨O,B1⟩:=(B.ext e0).setO 30 (by simp[entV]) (.slice (some ⟨X.heap.size,0,none⟩) 1 1) ((entV_nw _ _ _ _ _ _ _).2 _ (List.getElem_mem _));rw[hX]at O B1;have hg:=B.lt;refine⟨_,⟨va,vc,some ⟨X.heap.size,0,none⟩,1, [h0],rfl,h2,h3,?_,jJ _,λz hz=>by rw[List.mem_singleton]at hz;rw[hz];exact hh,λ_=>⟨X.heap.size,rfl,λe=>?_,λj x hj=>?_⟩⟩,B1,O⟩
 ·refine(h4.ext e0).only O ?_;obtain⟨g',s,rfl,hg'⟩:=h4.c0 h2;intro e;cases e;rw[B.c 0 _ rfl]at hg';cases hg'
 ·have:=(h4.own_lt e).1;omega
 ·match j,hj with
  | 0,hj=>
   have hx:x=h0:=by simpa using hj.symm
   subst hx;exact qW ((Bk.new X #[.int .i64 x] 3).c 0 _ rfl) O zb
  |j+1,hj=>simp at hj
theorem EnS.val{base n m g:Nat}{nm:ByteArray}{es:List Value}{X0 X X1:World}{va:Option Addr}{vc:Nat}{a:Option Addr}{c:Nat}(h:EnS base nm n es X0)(hv:es[1]? =some (.slice va n vc))(B0:Bk X0 g es)(B:Bk X g es)(p:Pg (.slice va n vc) X0 (.slice a m c) X)(hI:IsIE base m (.slice a m c) X)(hm:1<=m/\m<=3)(hX:X.setCell ⟨g,1,none⟩ (.slice a m c)=X1):
  ∃es',EnS base nm m es' X1/\Bk X1 g es'/\OnlyB g X X1:=by
 obtain⟨va',vc',ha,hc,hy,rfl,h2,h3,h4,h5,h6,h7⟩:=h;cases hv;obtain⟨O,B1⟩:=B.setO 1 (by simp[entV]) (.slice a m c) ((entV_nw _ _ _ _ _ _ _).2 _ (List.getElem_mem _));rw[hX]at O B1
 have hne:(Value.slice a m c).ownBlock≠some g:=λe=>by
  obtain⟨g',s,rfl,hg'⟩:=hI.c0 hm.1;cases e;rw[B.c 0 _ rfl]at hg';cases hg'
 refine⟨_,⟨a,c,ha,hc,hy,rfl,hm.1,hm.2,hI.only O hne,h5,h6,λhn=>?_⟩,B1,O⟩;obtain⟨g',k1,k2,k3⟩:=h7 hn;obtain⟨x0,hx0⟩:=nel hn;have hlt:=World.block_lt_of_cell? _ _ (k3 0 x0 hx0);refine⟨g',k1,λe=>?_,λj x hj=>qW (p.cell (k3 j x hj) k2) O (λe=>?_)⟩
 ·rcases p.own with q| ⟨g2,q,hq⟩
  ·exact k2 (q.symm.trans e)
  ·rw[q]at e;cases e;simp only at hlt;omega
 ·have:=k3 0 x0 hx0;rw[e,B0.c 0 _ rfl]at this
  ·cases this
section
variable {ops:Array Oper} {Q:Exit->Act->World->Prop} {ds:List (Option Tmp)} {a0:Act} {w0:World} {L:List (Value->World->Prop)} {ch:List Nat} {boxes:List Nat} {i k:Nat} {o:Oper} {os:List Oper}
theorem ngZ{x:Operand}{z:Int}(hz:IntKind.i64.wrap (-z)= -z)(hx:Od ops ds a0 w0 L i x (iV z))(ho:o.op=.unOp .neg 2 x:=by rfl)(hi:L.getD i (λ_ _=>True)=iV (-z):=by kernel_rfl)(hb:boxes.contains i=false:=by kernel_rfl):Ok prog ops Q ds a0 w0 L boxes i o:=
 okE' hb λv a w hE hd hf=>by
  have h1:a.eval x=_:=hx.out v a w hE hd hf;refine⟨.int .i64 (-z),w,?_,Ext.refl w,by rw[hi];exact rfl⟩;unfold execOp;rw[ho];dsimp only;rw[h1]
  go_simp
theorem faA{P:Program}{fuel:Nat}{listed:Array Bool}{a:Act}{w:World}{T f:Nat}{p r:Value}(j t:Nat)(x:Operand)(hx:a.eval x=p)(hr:∀w,(Instr.fieldAt T p f).run P w=.ok r w)(h:wpAny P .any ops Q fuel (listed.setIfInBounds j true) (a.put (some t) r) w)(ho:ops[j]? =some o:=by rfl)(hd:o.dst=some t:=by rfl)(hop:o.op=.fieldAddr T x f:=by rfl)(hrd:Region.ready .any ops listed= [j]:=by kernel_rfl)(hg:o.guard=none:=by rfl):wpAny P .any ops Q (fuel+1) listed a w:=
 stA j ho (λK hK=>by
  have:=hr w;unfold Oper.wp execOp;rw[hop];dsimp only;rw[hx];simp only[Sem.run_bind,this,Result.andThen_ok,Sem.run_pure];show K (a.put o.dst r) w;rw[hd]
  exact hK _ _ h) hrd hg
end
theorem bd_So01(w:World):(Instr.build 102 #[(1,.int .i64 1)]).run prog w=.ok (.agg #[.int .i64 0,.int .i64 1,.int .i64 0]) w:=by go_simp
theorem ld_Sh1:LdV prog 39 1:=λw g vs hl B=>ldM za za hl (λj v hj=>by rw[Nat.zero_add];exact B.c j v hj)
theorem OneS.below{b base:Nat}{w w':World}(h:OneS b w)(e:Below base w w')(hb:b<base):OneS b w':=⟨λo=>(e.cell (p:=⟨b,o+1,none⟩) hb).trans (h.1 o),Nat.lt_of_lt_of_le h.2.1 e.size,let ⟨a,n,c,k⟩:=h.2.2;⟨a,n,c,(e.cell (p:=⟨b,0,none⟩) hb).trans k⟩⟩
theorem OneS.set{b:Nat}{w:World}{a:Option Addr}{n c:Nat}(h:OneS b w):OneS b (w.setCell ⟨b,0,none⟩ (.slice a n c)):=by
 obtain⟨h1,h2,a',n',c',h3⟩:=h;refine⟨λo=>(World.cell?_setCell_other _ _ _ _ (λe=>by cases e)).trans (h1 o),by simpa [World.setCell]using h2,a,n,c,World.cell?_setCell_same _ _ _ h3⟩
theorem OneS.nw{b:Nat}{w:World}{u:Value}(h:OneS b w)(B:Bk w b [u]):NoWord ([u][0]'zd):=by
 obtain⟨-,-,a,n,c,k⟩:=h;rw[B.c 0 _ rfl]at k;cases k;exact NoWord.slice _ _ _
theorem OnlyB.below{k base:Nat}{w w':World}(O:OnlyB k w w')(h:base<=k):Below base w w':=⟨O.os,O.tape,O.output,by rw[O.size];exact jJ _,λq hq=>O.block q zb⟩
theorem stS1{P:Program}{Q:Exit->Act->World->Prop}{o:Oper}{W:World}{g:Nat}{u0:Value}{b1:Option Addr}{n c:Nat}{a:Act}{K:Act->World->Prop}{T:Nat}{x y:Operand}(B:Bk W g [u0])(O1:OneS g W)(hT:StV P T 1)
  (h:∀W',Bk W' g [.slice b1 n c]->OnlyB g W W'->OneS g W'->K a W')
  (ho:o.op=.store T x y:=by rfl) (hd:o.dst=none:=by rfl) (hx:a.eval x=.pointer (some ⟨g,0,none⟩):=by kernel_rfl) (hy:a.eval y=.agg #[.slice b1 n c]:=by kernel_rfl):Oper.wp P o a W K Q:=by
 have hn:∀v∈ [u0],NoWord v:=λv hv=>by rw[List.mem_singleton]at hv;rw[hv];exact O1.nw B
 obtain⟨h1,h2⟩:=B.putO (us:= [.slice b1 n c]) zd hn;refine st_wp ho hx hy (hT W g [u0] [.slice b1 n c] rfl rfl rfl B) ?_;rw[hd];exact h _ h2 h1 O1.set
def HeldN(vs:List Value)(w:World):Prop:=HeldW (0,1,0) vs w/\xZ vs≠zz1
theorem HeldN.ext{vs:List Value}{w w':World}(h:HeldN vs w)(e:Ext w w'):HeldN vs w':=⟨h.1.ext e,h.2⟩
theorem HeldN.one{vs:List Value}{w w':World}{b:Nat}(h:HeldN vs w)(O:OnlyB b w w')(h1:OneS b w):HeldN vs w':=⟨h.1.one O h1,h.2⟩
def IsShN:Value->World->Prop:=λx w=>∃sv L,x=.agg #[sv]/\HdS2 L sv w/\L.length<=12/\∀vs∈L,HeldN vs w
def IsShl:Value->World->Prop:=λx w=>∃sv L,x=.agg #[sv]/\HdS2 L sv w/\L.length<=12/\∀vs∈L,HeldW (0,1,0) vs w
theorem IsShl.stb:Stb IsShl:=λ_ _ _ e ⟨sv,L,h1,h2,h3,h4⟩=>⟨sv,L,h1,h2.ext e,h3,λvs h=>(h4 vs h).ext e⟩
instance:StbC IsShl:=⟨IsShl.stb⟩
set_option maxHeartbeats 16000000 in
theorem shelf_n{w:World}{ca ea:Option Addr}{cn cc en' ec:Nat}{gr:Int}(hb:IsBy (.slice ea en' ec) w):Calls prog 13 #[.agg #[.slice ca cn cc,.slice ea en' ec,.int .u8 gr]] w (Ret w IsShN):=by
 obtain⟨ea',en2,ec',hq,hn,hc⟩:=hb;cases hq
 obtain⟨W,hW,E,B1,B2,B3,B4,O4,O2⟩:∃W,W=(((w.alloc (.cells #[.slice ca cn cc,.slice ea en' ec,.int .u8 gr] 24)).alloc (.cells #[.slice none 0 0] 39)).alloc (.cells nam12.toArray 9)).alloc (.cells #[.slice none 0 0] 39)/\Ext w W/\Bk W w.heap.size [.slice ca cn cc,.slice ea en' ec,.int .u8 gr]/\Bk W (w.heap.size+1) [.slice none 0 0]/\Bk W (w.heap.size+2) nam12/\Bk W (w.heap.size+3) [.slice none 0 0]/\OneS (w.heap.size+3) W/\OneS (w.heap.size+1) W:=by
  have one:∀(X:World),OneS X.heap.size (X.alloc (.cells #[.slice none 0 0] 39)):=λX=>by
   refine⟨λo=>?_,by simp,none,0,0,(Bk.new X #[.slice none 0 0] 39).c 0 _ rfl⟩;simp only[World.cell?];rw[World.alloc_heap_new];simp
  have o3:=one (((w.alloc (.cells #[.slice ca cn cc,.slice ea en' ec,.int .u8 gr] 24)).alloc (.cells #[.slice none 0 0] 39)).alloc (.cells nam12.toArray 9));have o1:=one (w.alloc (.cells #[.slice ca cn cc,.slice ea en' ec,.int .u8 gr] 24));simp only[World.size_alloc]at o3 o1;exact⟨_,rfl,((((Ext.refl w).alloc _).alloc _).alloc _).alloc _,(Bk.new w _ _).ext ((((Ext.refl _).alloc _).alloc _).alloc _),(Bk.newE _ _ zd _ _).ext (((Ext.refl _).alloc _).alloc _),(Bk.newE _ _ zd _ _).ext ((Ext.refl _).alloc _),Bk.newE _ _ zd _ _,o3,o1.ext (((Ext.refl _).alloc _).alloc _)⟩
 obtain⟨b,hbb⟩:∃b,w.heap.size=b:=⟨_,rfl⟩;have HBB:=hid hbb;rw[hbb]at B1 B2 B3 B4 O4 O2;have HO2:=hid O2;have HE:=hid E;have HB1:=hid B1;have HB2:=hid B2;have HB3:=hid B3;have HBY:=hid (jI hn hc);have HSZ:=hid (show b+3<W.heap.size from B4.lt);go_enter func13,ntmps13;go_wp2_with fail;unfold nam12 at hW;rw[<-hW];clear hW hbb E B1 B2 B3 hn hc O2
 go_loopg [5] 12 (λgk v5 wr=>∃(i:Nat) (sv:Value) (L:List (List Value)),v5=.int .i64 (i:Int)/\i+gk=12/\L.length<=i/\Hid (Bk wr (b+3) [sv]/\OneS (b+3) wr/\HdS2 L sv wr/\(∀vs∈L,HeldN vs wr)/\Ext w wr/\Below (b+3) W wr))
 case atStart=>exact⟨0,_, [],rfl,rfl,by simp,hid ⟨B4,O4,.inl ⟨rfl,rfl⟩,λ_ h=>absurd h List.not_mem_nil,HE.out,Below.refl _ _⟩⟩
 case round=>
  obtain⟨i,sv,L,rfl,hg,hlL,S⟩:=hrel;have HG:=hid (jI hg hlL);have hBl:=S.out.2.2.2.2.2;have HWR:=hid (show W.heap.size<=wr.heap.size from hBl.size);have c1:=(HB1.out.below hBl zb).c 1 _ rfl;clear hBl;by_cases hi:i<en'/\i<12
  ·obtain⟨hi1,hi2⟩:=hi;obtain⟨g,o,rfl,hcs⟩:=HBY.out.2 zb;obtain⟨y,hy,hcy0⟩:=hcs i hi1;have hcy:=S.out.2.2.2.2.1.cell hcy0;have hil:(i:Int)<(en':Int):=by omega
   have hil12:(i:Int)<12:=zb
   have HI:=hid (jI hi1 hi2);have HY:=hid hy;have hwy:wrap64 (y:Int)=(y:Int):=by unfold wrap64;omega
   clear hcs hcy0 hg hlL hi1 hi2 hy;go_upto_region 7 with fail;rw[hwy];clear c1 hcy hil hil12;obtain⟨z7,hz7⟩:∃z:Int,(y:Int).tmod 7=z:=⟨_,rfl⟩;have HZ7:=hid (show 0<=z7/\z7<=6 by rw[<-hz7,Int.tmod_eq_emod_of_nonneg (by omega)];omega);obtain⟨nm,hnm,hnz⟩:=nam12_at ((i+y)%12) (jO _ dcx);have HNZ:=hid hnz;clear hnz;have HNM:=hid ((HB3.out.below S.out.2.2.2.2.2 zb).c _ _ hnm);have HB3':=hid (show(i+y)%12<12 from jO _ dcx);refine rg 18 [some 27,some 28,some 29,some 30,some 31,some 32,some 33,some 34,some 35,some 36,some 37,some 38,some 39,some 40,some 41,some 42,some 43,some 7] [IsV (.slice (some ⟨b+2,0,none⟩) 12 12),iV (i:Int),iV (y:Int),iV ((i+y:Nat):Int),IsV (.slice (some ⟨b+2,0,none⟩) 12 12),iV ((12:Nat):Int),iV (((i+y)%12:Nat):Int),IsP (b+2) ((i+y)%12),IsV (.string nm),iV (y:Int),iV z7,iV (z7-2),IsZ,iV (y:Int),IsZ,IsIE wr.heap.size 2,IsE2 wr.heap.size nm,IsNb wr.heap.size z31] [] 1 ?_ ?_
   ·refine Rc (mv (qB 3)) ?_;refine Rc zv ?_;refine Rc xz ?_;refine Rc (bn (r:=.int .i64 ((i+y:Nat):Int)) (qC 1 28) (qC 2 29) (hr:=λw=>by have hw:IntKind.i64.wrap ((i:Int)+(y:Int))=((i+y:Nat):Int):=(by have:=HI.out;have:=HY.out;simp only[IntKind.wrap_i64];omega);go_simp)) ?_;refine Rc (mv (qB 3)) ?_;refine Rc (lnZ (p:=some ⟨b+2,0,none⟩) (n:=12) (c:=12) (qA 4 31)) ?_;refine Rc (bn (r:=.int .i64 (((i+y)%12:Nat):Int)) (qC 3 30) (qC 5 32) (hr:=λw=>by go_simp;exact Int.tmod_eq_emod_of_nonneg zb)) ?_;refine Rc (ixq (ix_rS (some ⟨b+2,0,none⟩) (b+2) 12 12 ((i+y)%12) rfl HB3'.out) (qA 0 27) (qA 6 33)) ?_;refine Rc (lv (fP:=IsV (.string nm)) _ (λw' e=>ld_str' w' _ _ (e.cell HNM.out)) (qA 7 34) (λ_ _=>rfl)) ?_;refine Rc xz ?_;refine Rc (bn (r:=.int .i64 z7) (qC 9 36) qF (hr:=λw=>by go_simp)) ?_;refine Rc (bn (r:=.int .i64 (z7-2)) (qC 10 37) qF (hr:=λw=>by have hw:IntKind.i64.wrap (z7-2)=z7-2:=(by have:=HZ7.out;simp only[IntKind.wrap_i64];omega);go_simp)) ?_;refine Rc (ofZ (z:=z7-2) (by have:=HZ7.out;omega) (qA 11 38)) ?_;refine Rc xz ?_;refine Rc (ofZ (z:=(y:Int)) (by have:=HY.out;omega) (qA 13 40)) ?_;refine Rc (bsE2 (jJ _) (qA 12 39) (qA 14 41)) ?_;refine Rc (bdE2 (base:=wr.heap.size) (nm:=nm) (qA 8 35) (qA 15 42)) ?_;refine Rc (alB al_En (jJ _)) ?_;exact rn0
   intro x X1 e1 hZ _;obtain⟨es,hes,hEn⟩:=hZ 16 dcx;obtain⟨g7,hv7,hg7,B7⟩:=hZ 17 dcx;simp only[lxE,Nat.reduceAdd];rw[hes,hv7];clear hZ hes hv7;obtain⟨hl31,h1c,hnw,-⟩:=hEn.at;refine stA 18 rfl (λK hK=>qX (us:=es) B7 st_En rfl hl31 nwE (λX2 B72 O=>hK _ _ ?_) (ho1:=h1c));have e2:=O.ext e1 hg7;have hEn2:=hEn.only O (B7.c 0 _ rfl);clear hEn B7 O hK K hl31 h1c hnw e1;refine jL za ?_ _;have hT:∃es X,X=X2/\EnS wr.heap.size nm 2 es X/\Bk X g7 es/\Ext wr X:=⟨es,X2,rfl,hEn2,B72,e2⟩;have ht2:(y:Int).tmod 2=(y:Int)%2:=Int.tmod_eq_emod_of_nonneg zb;have ht3:(y:Int).tmod 3=(y:Int)%3:=Int.tmod_eq_emod_of_nonneg zb;have ht5:(y:Int).tmod 5=(y:Int)%5:=Int.tmod_eq_emod_of_nonneg zb;clear hz7;by_cases h3:(y:Int)%3=1
   case' pos=>
    obtain⟨hl31,h1c,hnw,h0,⟨va,vc,h1v,hIE⟩,ha,hm,hcc,h30⟩:=hEn2.at;have L9:=λo=>(B72.ext ((Ext.refl X2).alloc o)).c 30 _ h30
    have F9:=λo=>(B72.ext ((Ext.refl X2).alloc o)).f 30
    have hiw2:wrap64 (1+(y:Int)%2)=1+(y:Int)%2:=by unfold wrap64;omega
    go_upto_region 10 with fail;obtain⟨X3,hX3⟩:∃X3,(X2.alloc (.cells #[.int .i64 (1+(y:Int)%2)] 3)).setCell ⟨g7,30,none⟩ (.slice (some ⟨X2.heap.size,0,none⟩) 1 1)=X3:=⟨_,rfl⟩;rw[hX3];obtain⟨es2,k1,k2,k3⟩:=hEn2.hyp B72 zb hX3;have e3:Ext wr X3:=k3.ext (e2.trans ((Ext.refl X2).alloc _)) hg7;clear hT;have hT:∃es,EnS wr.heap.size nm 2 es X3/\Bk X3 g7 es/\Ext wr X3:=⟨es2,k1,k2,e3⟩;clear L9 F9 hX3 k1 k2 k3 e3 hl31 h1c hnw h0 h1v hIE h30 hEn2 B72 e2 hiw2
   case' neg=>
    clear hT;have hT:∃es,EnS wr.heap.size nm 2 es X2/\Bk X2 g7 es/\Ext wr X2:=⟨es,hEn2,B72,e2⟩;clear hEn2 B72 e2;go_upto_region 10 with fail;generalize X2=X3 at*
   all_goals
    clear h3;obtain⟨es3,hEn3,B73,e3⟩:=hT;by_cases h5:(y:Int)%5=0
    case' pos=>
     obtain⟨hl31,-,hnw,h0,⟨va,vc,h1v,hIE⟩,-⟩:=hEn3.at
     have hne:(Value.slice va 2 vc).ownBlock≠some g7:=λe=>by
      obtain⟨g',s,rfl,hg'⟩:=hIE.c0 dcx;cases e;rw[B73.c 0 _ h0]at hg';cases hg'
     go_upto_region 11 with fail;refine rg 6 (dR 55 6) [IsP g7 1,IsV (.slice va 2 vc),iV (y:Int),iV (-(y:Int)),IsZ,IsNews 1] [] 3 ?_ ?_
     ·refine Rc (fa (fa_Eq1 g7) (qB 7)) ?_;refine Rc (lvC 1 B73 ld_aN (qA 0 55) h1v) ?_;refine Rc xz ?_;refine Rc (ngZ (z:=(y:Int)) (by have:=HY.out;simp only[IntKind.wrap_i64];omega) (qA 2 57)) ?_;refine Rc (ofZ (z:= -(y:Int)) (by have:=HY.out;omega) (qA 3 58)) ?_;refine Rc (bsZ1 (qA 4 59)) ?_;exact rn0
     intro x XA eA hZ _;obtain⟨news,hsr,hkk⟩:=hZ 5 dcx;simp only[lxE,Nat.reduceAdd];rw[show x 1=.slice va 2 vc from hZ 1 dcx];clear hZ;refine stA 6 rfl (λK hK=>wp_ie 61 (.tmp 56) (.tmp 60) rfl wr.heap.size 2 1 (.slice va 2 vc) (x 5) news rfl rfl (hIE.ext eA) hsr hkk dcx (jK e3.size eA.size) (λv6 X4 hI3 p6=>hK _ _ ?_));have hP3:=(Pg.ext0 eA).trans p6;obtain⟨a6,c6,h6⟩:∃a c,v6=.slice a 3 c:=by obtain⟨xs,k1,-⟩:=hI3;obtain⟨ao,cap,k,-⟩:=k1.shape;exact⟨_,_,k⟩
     subst h6;clear p6 hK K hsr hkk eA;refine faA 7 62 (.tmp 7) rfl (fa_Eq1 g7) ?_;have B74:=hP3.bk B73 hne;have L1:=B74.c 1 _ h1v;have F1:=B74.f 1;have e4:Ext wr X4:=Below.trans e3 ((Below.refl wr.heap.size X3).grown hP3.gb e3.size λk hk=>(hIE.own_lt hk).2);refine stA 8 rfl (λK hK=>st_wp (p:=.pointer (some ⟨g7,1,none⟩)) (u:=.slice a6 3 c6) (w':=X4.setCell ⟨g7,1,none⟩ (.slice a6 3 c6)) rfl rfl rfl zy (hK _ _ ?_));obtain⟨X5,hX5⟩:∃X5,X4.setCell ⟨g7,1,none⟩ (.slice a6 3 c6)=X5:=⟨_,rfl⟩;rw[hX5];obtain⟨es5,k1,k2,k3⟩:=hEn3.val h1v B73 B74 hP3 hI3 dcx hX5;have hU:∃nn es,EnS wr.heap.size nm nn es X5/\Bk X5 g7 es/\Ext wr X5:=⟨3,es5,k1,k2,k3.ext e4 hg7⟩;clear hX5 k1 k2 k3 e4 L1 F1 B74 hI3 hP3 hK K hne hIE h1v h0 hnw hl31 hEn3 B73 e3;refine jL za ?_ _;go_upto_region 12 with fail
    case' neg=>
     have hU:∃nn es,EnS wr.heap.size nm nn es X3/\Bk X3 g7 es/\Ext wr X3:=⟨2,es3,hEn3,B73,e3⟩;clear hEn3 B73 e3;go_upto_region 12 with fail;generalize X3=X5 at*
    all_goals
     clear h5;obtain⟨nn,es5,hEn5,B75,e5⟩:=hU;obtain⟨d5,hW5⟩:=hEn5.ent;obtain⟨hl31,-,-,-,-,-⟩:=hEn5.at;refine rgs 4 (dR 63 4) [IsV (.agg #[sv]),IsV (.agg es5.toArray),IsV (.agg #[.int .i64 0,.int .i64 1,.int .i64 0]),IsSh L nm (0,1,0)] [] ?_ ?_
     ·refine Rc (lvV (vs:= [sv]) (S.out.1.ext e5) ld_Sh1 (qB 4)) ?_;refine Rc (lvV B75 ld_En (qB 7) hl31) ?_;refine Rc (Ok.of za λv a w hE hd hf=>⟨_,bdG rfl (by simp only[List.map_toArray,List.map_cons,List.map_nil];exact bd_So01 w),rfl⟩) ?_
      refine Rc (cl3 (en func25) (qA (fP:=IsV (.agg #[sv])) 0 63) (qA (fP:=IsV (.agg es5.toArray)) 1 64) (qA (fP:=IsV (.agg #[.int .i64 0,.int .i64 1,.int .i64 0])) 2 65) (λx0 x1 x2 w' hE d0 d1 d2=>by
       obtain rfl:x0=_:=d0;obtain rfl:x1=_:=d1;obtain rfl:x2=_:=d2
       exact add_g (p:=(0,1,0)) (S.out.2.2.1.ext (e5.trans hE)) (by have:=HG.out;omega) (λvs h=>(S.out.2.2.2.1 vs h).1.ext (e5.trans hE)) (hW5.ext hE) (.inl rfl))) ?_
      exact rn0
     intro x X6 e6 hZ _;obtain⟨sv2,j,m,new,hx3,hs2,hj2,hnew,hnn,hm2⟩:=hZ 3 dcx;simp only[lxE,Nat.reduceAdd];rw[hx3];clear hZ hx3;have eW:=e5.trans e6;have O6:=S.out.2.1.ext eW;have B46:=S.out.1.ext eW
     obtain⟨a9,n9,c9,hv9⟩:∃a n c,sv2=.slice a n c:=by
      rcases hs2 with⟨-,h⟩| ⟨g9,c9,h,-,-⟩
      ·exact⟨_,_,_,h⟩
      ·exact⟨_,_,_,h⟩
     subst hv9;refine stL (λK hK=>stS1 (b1:=a9) (n:=n9) (c:=c9) B46 O6 st_Sh (λX7 B47 OB O7=>hK _ _ ?_))
     have hSl:∀vs∈L.take j++ [new]++L.drop m,HeldN vs X6:=λvs h=>by
      rcases List.mem_append.1 h with h|h
      ·rcases List.mem_append.1 h with h|h
       ·exact(S.out.2.2.2.1 vs (List.mem_of_mem_take h)).ext eW
       ·rw[List.mem_singleton]at h;rw[h];exact⟨hnew,by rw[hnn];exact HNZ.out⟩
      ·exact(S.out.2.2.2.1 vs (List.mem_of_mem_drop h)).ext eW
     have hS7:=hs2.one (λvs h=>⟨_,(hSl vs h).1.ok.2⟩) OB O6;have S2:=hid (show Bk X7 (b+3) [.slice a9 n9 c9]/\OneS (b+3) X7/\HdS2 (L.take j++ [new]++L.drop m) (.slice a9 n9 c9) X7/\(∀vs∈L.take j++ [new]++L.drop m,HeldN vs X7)/\Ext w X7/\Below (b+3) W X7 from⟨B47,O7,hS7,λvs h=>(hSl vs h).one OB O6,OB.ext (S.out.2.2.2.2.1.trans eW) (by have:=HBB.out;omega),Below.trans S.out.2.2.2.2.2 (Below.trans (eW.mono (by have:=HSZ.out;have:=HWR.out;omega)) (OB.below (jJ _)))⟩)
     have HLL:=hid (show(L.take j++ [new]++L.drop m).length<=i+1 by
      have:=HG.out;simp only[jM,List.length_take,List.length_drop,List.length_singleton]
      rcases hm2 with h| ⟨h,-,-⟩ <;> omega)
     have hiw:IntKind.i64.wrap ((i:Int)+1)=((i+1:Nat):Int):=by have:=HI.out;simp only[IntKind.wrap_i64];omega
     clear hK K hSl hS7 O7 B47 OB B46 O6 eW e6 hs2 hnew hnn hm2 hj2 hl31 hW5 B75 hEn5 e5 S;refine jE ?_;go_wp2_with fail
     go_roundg (gk-1)
     case measure=>have:=HG.out;have:=HI.out;omega
     case rel=>exact⟨i+1,_,_,rfl,by have:=HG.out;have:=HI.out;omega,HLL.out,S2⟩
  ·have e9:Ext w wr:=S.out.2.2.2.2.1;have hil:¬((i:Int)<(en':Int))\/((i:Int)<(en':Int)/\¬((i:Int)<12)):=by omega
   have hO2:=HO2.out.below S.out.2.2.2.2.2 zb;have hB2:=HB2.out.below S.out.2.2.2.2.2 zb;have hi12:=hid (show L.length<=12 by omega)
   obtain⟨a9,n9,c9,hv9⟩:∃a n c,sv=.slice a n c:=by
    rcases S.out.2.2.1 with⟨-,h⟩| ⟨g9,c9,h,-,-⟩
    ·exact⟨_,_,_,h⟩
    ·exact⟨_,_,_,h⟩
   subst hv9;clear hi hg hlL;have hfin:∃X,X=wr:=⟨_,rfl⟩;clear hfin;rcases hil with hil| ⟨hil,hil2⟩
   all_goals
    go_upto_region 13 with fail;refine rgs 1 [some 67] [IsV (.agg #[.slice a9 n9 c9])] [] ?_ ?_
    ·refine Rc (lvV (vs:= [.slice a9 n9 c9]) S.out.1 ld_Sh1 (qB 4)) ?_;exact rn0
    intro x X6 e6 hZ _;simp only[lxE];rw[show x 0=.agg #[.slice a9 n9 c9]from hZ 0 dcx];clear hZ;refine stL (λK hK=>qX (us:= [.slice a9 n9 c9]) (hB2.ext e6) st_Sh rfl rfl nwNilS (λX7 B7' O7=>hK _ _ ?_));clear hK K;refine jE ?_;have hO26:=hO2.ext e6;have hE7:Ext w X7:=O7.ext (e9.trans e6) (by have:=HBB.out;omega);have hres:IsShN (.agg #[.slice a9 n9 c9]) X7:=⟨_,L,rfl,(S.out.2.2.1.ext e6).one (λvs h=>⟨_,(S.out.2.2.2.1 vs h).1.ok.2⟩) O7 hO26,hi12.out,λvs h=>((S.out.2.2.2.1 vs h).ext e6).one O7 hO26⟩;go_wp2_with fail;exact jD (resC results13 rfl (lv_Sh rfl B7')) rfl ⟨_,rfl,hE7,hres⟩
theorem shelf_f{w:World}{ca ea:Option Addr}{cn cc en' ec:Nat}{gr:Int}(hb:IsBy (.slice ea en' ec) w):Calls prog 13 #[.agg #[.slice ca cn cc,.slice ea en' ec,.int .u8 gr]] w (Ret w IsShl):=
 (shelf_n hb).mono λ_ _ ⟨x,h1,e,sv,L,h2,h3,h4,h5⟩=>⟨x,h1,e,sv,L,h2,h3,h4,λvs h=>(h5 vs h).1⟩
end
section
open Go Go.RowKit Go.Maps Go.Shelf
open Go.Proofs.Tryz
theorem zi{P:Prop}(h:P:=by exact fa (qV (g15)) (qB (x:=.pointer (some ⟨g15,0,none⟩)) 15)):P:=h
theorem jc{P:Prop}(h:P:=by exact fa (qV (g16)) (qB (x:=.pointer (some ⟨g16,0,none⟩)) 16)):P:=h
theorem ye{P:Prop}(h:P:=by exact lv (fP:=IsV (.slice qra nB qrc)) _ (λw' e=>ld_aStr w' _ _ (e.cell d11w)) (qA (fP:=IsP g16 11) 2 124) (λ_ _=>rfl)):P:=h
theorem yf{P:Prop}(h:P:=by exact lv (fP:=IsV (.slice pra nA prc)) _ (λw' e=>ld_aStr w' _ _ (e.cell c11w)) (qA (fP:=IsP g15 11) 7 129) (λ_ _=>rfl)):P:=h
theorem yh{P:Prop}(h:P:=by exact fa (fa_Vl3 (g15)) (qA (fP:=IsP g15 0) 0 77)):P:=h
theorem yq{P:Prop}(h:P:=by exact fa (fa_Out1 (g16)) (qB (x:=.pointer (some ⟨g16,0,none⟩)) 16)):P:=h
theorem yr{P:Prop}(h:P:=by exact fa (fa_Out1 (g15)) (qB (x:=.pointer (some ⟨g15,0,none⟩)) 15)):P:=h
theorem yt{P:Prop}(h:P:=by exact fa (fa_Out2 (g15)) (qB (x:=.pointer (some ⟨g15,0,none⟩)) 15)):P:=h
theorem zab{P:Prop}(h:P:=by exact lv (fP:=IsV (.string xx)) _ (λw' e=>ld_str' w' _ _ (e.cell cx)) (qA 10 132) (λ_ _=>rfl)):P:=h
attribute [local go_sem] Oper.semAt_some
set_option maxRecDepth 100000
def IsTp1:Value->World->Prop:=λ_ _=>True
theorem IsTp1.stb:Stb IsTp1:=λ_ _ _ _ _=>trivial
instance:StbC IsTp1:=⟨IsTp1.stb⟩
theorem baT{x y:ByteArray}(h:x.toList=y.toList):x=y:=by rw[ByteArray.toList_eq,ByteArray.toList_eq]at h;exact ByteArray.ext (Array.toList_inj.1 h)
theorem fewMany{x y:Nat}(hx:x<=65535)(hy:y<=65535):∃few many:Nat,Int.tmod (x:Int) 200=(few:Int)/\wrap64 (x:Int)=(x:Int)/\wrap64 (y:Int)=(y:Int)/\wrap64 ((few:Int)+(y:Int))=(many:Int)/\(few<=199/\few<=many/\many<=66000):=by
 refine⟨x%200,x%200+y,?_,?_,?_,?_,?_⟩
 ·rw[Int.tmod_eq_emod_of_nonneg (by omega)];omega
 ·unfold wrap64;omega
 ·unfold wrap64;omega
 ·unfold wrap64;omega
 ·omega
set_option maxHeartbeats 16000000 in
theorem More_w{w:World}{l:Value}{ca ea:Option Addr}{cn cc en' ec g x y:Nat}(hT:TabM w)(HEX:Hid (∀w',Ext w w'->Calls prog 10 #[] w' (Ret w' (IsV (.bool true)))))(b1:IsBy l w)(b2:IsBy (.slice ca cn cc) w)(b3:IsBy (.slice ea en' ec) w)(hg:g<=255)(hx:x<=65535)(hy:y<=65535):
  Calls prog 5 #[l,.agg #[.slice ca cn cc,.slice ea en' ec,.int .u8 (g:Int)],.agg #[.int .u16 (x:Int),.int .u16 (y:Int)]] w (Ret w (IsV (.bool true))):=by
 obtain⟨W,hW,E,B4,B5⟩:∃W,W=(w.alloc (.cells #[.slice ca cn cc,.slice ea en' ec,.int .u8 (g:Int)] 24)).alloc (.cells #[.int .u16 (x:Int),.int .u16 (y:Int)] 63)/\Ext w W/\Bk W w.heap.size [.slice ca cn cc,.slice ea en' ec,.int .u8 (g:Int)]/\Bk W (w.heap.size+1) [.int .u16 (x:Int),.int .u16 (y:Int)]:=
  ⟨_,rfl,((Ext.refl w).alloc _).alloc _,(Bk.new w _ _).ext ((Ext.refl _).alloc _),Bk.newE _ _ zd _ _⟩
 obtain⟨b,hbb⟩:∃b,w.heap.size=b:=⟨_,rfl⟩;rw[hbb]at B4 B5;have HT:=hid hT;have HB1:=hid b1;have HB2:=hid b2;have HB3:=hid b3;have HN:=hid (jI hg (jI hx hy));clear hT b1 b2 b3 hg hx hy;go_enter func5,ntmps5;go_upto_region 4 with(go_at_call 10;go_must (refine jC (HEX.out _ (by rw[<-hW];exact E)) ?_;rintro e w1 ⟨_,rfl,e1,rfl⟩));rw[<-hW]at e1;replace B4:=B4.ext e1;replace B5:=B5.ext e1;replace E:=E.trans e1;clear hW e1 HEX;refine rgs 2 [some 23,some 24] [IsV l,IsTr] [] ?_ ?_
 ·refine Rc zt ?_;refine Rc (cl1 (en func11) (qA (fP:=IsV l) 0 23) (λx0 w' hE d0=>by{obtain rfl:x0=l:=d0;exact Tree_f (HB1.out.ext (E.trans hE))})) ?_;exact rn0
 intro v X1 e1 hZ _;obtain⟨u,hu⟩:∃u,v 1=u:=⟨_,rfl⟩;obtain⟨e,hwf,hO⟩:IsTr u X1:=jz
 simp only[lxE,Nat.reduceAdd];rw[hu];clear hZ hu;obtain⟨us,hus,hl1,hone,hnw,_⟩:=id hO;subst hus;refine stL (λK hK=>?_);refine xK (vs:=zNd) al_Nd (λBn e3=>hK _ _ ?_);obtain⟨g8,hg8⟩:∃g,X1.heap.size=g:=⟨_,rfl⟩;rw[hg8]at Bn ⊢;generalize X1.alloc (.cells zNd.toArray 31)=Y2 at Bn e3 ⊢;clear hK K
 go_simp
 refine stL (λK hK=>?_);refine qX (us:=us) Bn st_Nd rfl hl1 nwZN (λX2 B8 O=>hK _ _ ?_) (ho1:=hone);have e4:=O.ext e3 (Nat.le_of_eq hg8);have HNe:=hid (IsNe.stb _ _ _ _ e4 hO);have e2:=e1.trans e4;replace E:=E.trans e2;replace B4:=B4.ext e2;replace B5:=B5.ext e2;have HWF:=hid (jI hwf hl1);clear hK K O e1 e2 e3 e4 Bn hone hnw hO hg8 hwf hl1;refine jE ?_;go_upto_region 5 with fail;refine rgs 2 [some 26,some 27] [IsV (.agg #[.slice ca cn cc,.slice ea en' ec,.int .u8 (g:Int)]),IsCls] [] ?_ ?_
 ·refine Rc (lvV B4 ld_Rw3 (qB 4)) ?_;refine Rc (cl2 (en func12) (qA (fP:=IsV (.agg #[.slice ca cn cc,.slice ea en' ec,.int .u8 (g:Int)])) 0 26) qF (λx0 x1 w' hE d0 d1=>by{obtain rfl:x0=_:=d0;obtain rfl:x1=.bool true:=d1;exact cells_f (HB2.out.ext (E.trans hE))})) ?_;exact rn0
 intro v X3 e1 hZ _;obtain⟨cs,cv,vv,hcv,hcs⟩:=hZ 1 dcx;simp only[lxE,Nat.reduceAdd];rw[hcv];have HCS:=hid hcs;replace B4:=B4.ext e1;replace B5:=B5.ext e1;replace B8:=B8.ext e1;replace E:=E.trans e1;replace HNe:=hid (IsNe.stb _ _ _ _ e1 HNe.out);clear hZ hcv hcs e1;go_upto_region 6 with fail;refine rgs 2 [some 30,some 31] [IsV (.agg #[.slice ca cn cc,.slice ea en' ec,.int .u8 (g:Int)]),IsShl] [] ?_ ?_
 ·refine Rc (lvV B4 ld_Rw3 (qB 4)) ?_;refine Rc (cl1 (en func13) (qA (fP:=IsV (.agg #[.slice ca cn cc,.slice ea en' ec,.int .u8 (g:Int)])) 0 30) (λx0 w' hE d0=>by{obtain rfl:x0=_:=d0;exact shelf_f (HB3.out.ext (E.trans hE))})) ?_;exact rn0
 intro v X4 e1 hZ _;obtain⟨sv,L,hsv,hs1,hs2,hs3⟩:=hZ 1 dcx;simp only[lxE,Nat.reduceAdd];rw[hsv];clear hZ hsv
 obtain⟨sa,sn,sc,hsl⟩:∃a n c,sv=.slice a n c:=by
  rcases hs1 with⟨-,h⟩| ⟨g9,c9,h,-,-⟩
  ·exact⟨_,_,_,h⟩
  ·exact⟨_,_,_,h⟩
 subst hsl;refine stL (λK hK=>?_);refine xK (vs:= [.slice none 0 0]) al_ShN (λBn e3=>hK _ _ ?_);obtain⟨g11,hg11⟩:∃g,X4.heap.size=g:=⟨_,rfl⟩;rw[hg11]at Bn ⊢;generalize X4.alloc (.cells [Value.slice none 0 0].toArray 39)=Y5 at Bn e3 ⊢;clear hK K
 go_simp
 refine stL (λK hK=>?_);refine qX (us:= [.slice sa sn sc]) Bn st_Sh rfl rfl nwNilS (λX5 B11 O=>hK _ _ ?_);have e4:=O.ext e3 (Nat.le_of_eq hg11);have e2:=e1.trans e4;have HSH:=hid (jI (hs1.ext e4) (jI hs2 (λvs h=>(hs3 vs h).ext e4)));replace B4:=B4.ext e2;replace B5:=B5.ext e2;replace B8:=B8.ext e2;replace E:=E.trans e2;replace HNe:=hid (IsNe.stb _ _ _ _ e2 HNe.out);replace HCS:=hid (IsCls.stb _ _ _ e2 ⟨cs,cv,vv,rfl,HCS.out⟩);clear hK K O e1 e2 e3 e4 Bn hs1 hs2 hs3 hg11;refine jE ?_;go_upto_region 7 with fail;refine rgs 2 [some 32,some 33] [IsV (.agg #[.slice ca cn cc,.slice ea en' ec,.int .u8 (g:Int)]),IsGr] [] ?_ ?_
 ·refine Rc (lvV B4 ld_Rw3 (qB 4)) ?_;refine Rc (cl1 (en func14) (qA (fP:=IsV (.agg #[.slice ca cn cc,.slice ea en' ec,.int .u8 (g:Int)])) 0 32) (λx0 w' hE d0=>by{obtain rfl:x0=_:=d0;exact granted_f zb (by have:=HN.out.1;omega)})) ?_;exact rn0
 intro v X6 e1 hZ _;obtain⟨u,hu⟩:∃u,v 1=u:=⟨_,rfl⟩;obtain⟨gs,hgl,hgb,hgr⟩:IsGr u X6:=jz
 obtain⟨ga,gc,rfl,-⟩:=id hgr;simp only[lxE,Nat.reduceAdd];rw[hu];have HGR:=hid (jI hgl hgr);have c50:=(B5.ext e1).c 0 _ rfl;have c51:=(B5.ext e1).c 1 _ rfl;replace B8:=B8.ext e1;replace B11:=B11.ext e1;replace E:=E.trans e1;replace HNe:=hid (IsNe.stb _ _ _ _ e1 HNe.out);replace HCS:=hid (IsCls.stb _ _ _ e1 HCS.out);replace HSH:=hid (jI (HSH.out.1.ext e1) (jI HSH.out.2.1 (λvs h=>(HSH.out.2.2 vs h).ext e1)));clear hZ hu e1 hgl hgb hgr B4 B5;go_upto_region 10 with fail;obtain⟨few,many,htm,hwx,hwy,hwm,hF⟩:=fewMany HN.out.2.1 HN.out.2.2;have HF:=hid hF;simp only[hwx,hwy,htm,hwm];clear hwx hwy htm hwm c50 c51 hF;obtain⟨cs',cv',vv',hcv',hcl,hck,hch,hcr,hvr⟩:=HCS.out;cases hcv';clear HCS;obtain⟨ca1,cc1,rfl,-⟩:=id hcr;obtain⟨va1,vc1,rfl,-⟩:=id hvr;have hSM:=shpM_of (HT.out.ext E) hcr hvr HSH.out.1.hds (λvs h=>⟨_,HSH.out.2.2 vs h⟩) HGR.out.2;have hOK:=shpOk_of hcl hck hch (by have:=HSH.out.2.1;omega) (λvs h=>⟨_,HSH.out.2.2 vs h⟩) (gs:=gs) (by have:=HGR.out.1;omega);have hNd:=HNe.out;have hWF:=HWF.out.1;have hlu:=HWF.out.2
 have hrun:∀(s0:Nat) (w':World),s0<=100000->Ext X6 w'->Calls prog 16 #[.agg us.toArray,.slice ca1 cs'.length cc1,.slice va1 cs'.length vc1,.agg #[.slice sa sn sc],.slice ga gs.length gc,.int .i64 ((s0:Nat):Int)] w' (Ret w' (IsOutX (evR cs' L (datW X6) gs e s0).1 (evR cs' L (datW X6) gs e s0).2.1 (ksV (evR cs' L (datW X6) gs e s0).2.2.1) (zsV (evR cs' L (datW X6) gs e s0).2.2.2))):=λs0 w' h1 hE=>by
  obtain⟨us',hu',_,_,_,hn'⟩:=IsNe.stb _ _ _ _ hE hNd;cases hu';exact run_T (hSM.ext hE) hOK dcx h1 hWF hn'
 have hmore:=more_R (dat:=datW X6) (L:=L) (gs:=gs) hck hWF HF.out.2.1;have hne:∀s0,NoErr0 (evR cs' L (datW X6) gs e s0).1:=λs0=>ev_ne _ _ _ _ _ _
 have hlA:=lens_R hOK hWF few;have hlB:=lens_R hOK hWF many;have hrA:=hrun few;have hrB:=hrun many;have hneA:=hne few;have hneB:=hne many;clear hrun hne hSM hOK hNd hWF hcl hck hch hcr hvr HSH HGR HNe HWF;generalize evR cs' L (datW X6) gs e few=pa at hrA hneA hmore hlA;generalize evR cs' L (datW X6) gs e many=pb at hrB hneB hmore hlB;obtain⟨ra,la,na,ha⟩:=pa;obtain⟨rb,lb,nb,hb⟩:=pb;have HRA:=hid hrA;have HRB:=hid hrB;have HM:=hid (jI hneA (jI hneB (jI hmore (jI hlA hlB))));clear hrA hrB hneA hneB hmore hlA hlB;go_upto_region 10 with fail;refine rgs 6 (dR 43 6) [IsV (.agg us.toArray),IsV (.slice ca1 cs'.length cc1),IsV (.slice va1 cs'.length vc1),IsV (.agg #[.slice sa sn sc]),IsV (.slice ga gs.length gc),iV (few:Int)] [] ?_ ?_
 ·refine Rc (lvV B8 xY (qB 8) hlu) ?_;refine Rc (mv (qB 9)) ?_;refine Rc (mv (qB 10)) ?_;refine Rc (lvV B11 ld_Sh1 (qB 11)) ?_;refine Rc (mv (qB 12)) ?_;refine Rc (mv (qB 13)) ?_;exact rn0
 intro v X e1 hZ _;simp only[lxE,Nat.reduceAdd];rw[show v 0=_ from hZ 0 dcx,show v 1=_ from hZ 1 dcx,show v 2=_ from hZ 2 dcx,show v 3=_ from hZ 3 dcx,show v 4=_ from hZ 4 dcx,show v 5=_ from hZ 5 dcx];clear hZ;refine stL (λK hK=>?_);refine xC (us:= [.agg us.toArray,.slice ca1 cs'.length cc1,.slice va1 cs'.length vc1,.agg #[.slice sa sn sc],.slice ga gs.length gc,.int .i64 (few:Int)]) (en func16) za (HRA.out _ (by have:=HF.out;omega) e1) (λv2 X2 h=>hK _ _ ?_) (λch X2 h=>by{obtain⟨_,hx,_⟩:=h;cases hx}) (λX2 h=>by{obtain⟨_,hx,_⟩:=h;cases hx});obtain⟨_,hx,e2,hO⟩:=h;cases hx;clear hK K
 go_simp
 refine stL (λK hK=>?_);refine xK (vs:=zOut) al_Out (λBn e3=>hK _ _ ?_);obtain⟨gn,hgn⟩:∃g,X2.heap.size=g:=⟨_,rfl⟩;rw[hgn]at Bn ⊢;replace hO:=IsOutX.stb _ _ _ _ _ _ _ e3 hO;generalize X2.alloc (.cells zOut.toArray 53)=X3 at Bn e3 hO ⊢;clear hK K
 go_simp
 refine stL (λK hK=>?_);refine stOut Bn hO (noB_k _) (noB_z _) (λX7 OA O=>hK _ _ ?_);have e4:=(e1.trans e2).trans (O.ext e3 (Nat.le_of_eq hgn));replace B8:=B8.ext e4;replace B11:=B11.ext e4;replace E:=E.trans e4;have E6:=e4;obtain⟨g15,hg15⟩:∃g,gn=g:=⟨_,rfl⟩;rw[hg15]at OA ⊢;clear hK K O e1 e2 e3 hO Bn hgn e4 hg15;refine jE ?_;go_upto_region 11 with fail;refine rgs 6 (dR 50 6) [IsV (.agg us.toArray),IsV (.slice ca1 cs'.length cc1),IsV (.slice va1 cs'.length vc1),IsV (.agg #[.slice sa sn sc]),IsV (.slice ga gs.length gc),iV (many:Int)] [] ?_ ?_
 ·refine Rc (lvV B8 xY (qB 8) hlu) ?_;refine Rc (mv (qB 9)) ?_;refine Rc (mv (qB 10)) ?_;refine Rc (lvV B11 ld_Sh1 (qB 11)) ?_;refine Rc (mv (qB 12)) ?_;refine Rc (mv (qB 14)) ?_;exact rn0
 intro v X e1 hZ _;simp only[lxE,Nat.reduceAdd];rw[show v 0=_ from hZ 0 dcx,show v 1=_ from hZ 1 dcx,show v 2=_ from hZ 2 dcx,show v 3=_ from hZ 3 dcx,show v 4=_ from hZ 4 dcx,show v 5=_ from hZ 5 dcx];clear hZ;refine stL (λK hK=>?_);refine xC (us:= [.agg us.toArray,.slice ca1 cs'.length cc1,.slice va1 cs'.length vc1,.agg #[.slice sa sn sc],.slice ga gs.length gc,.int .i64 (many:Int)]) (en func16) za (HRB.out _ (by have:=HF.out;omega) (E6.trans e1)) (λv2 X2 h=>hK _ _ ?_) (λch X2 h=>by{obtain⟨_,hx,_⟩:=h;cases hx}) (λX2 h=>by{obtain⟨_,hx,_⟩:=h;cases hx});obtain⟨_,hx,e2,hO⟩:=h;cases hx;clear hK K
 go_simp
 refine stL (λK hK=>?_);refine xK (vs:=zOut) al_Out (λBn e3=>hK _ _ ?_);obtain⟨gn,hgn⟩:∃g,X2.heap.size=g:=⟨_,rfl⟩;rw[hgn]at Bn ⊢;replace hO:=IsOutX.stb _ _ _ _ _ _ _ e3 hO;generalize X2.alloc (.cells zOut.toArray 53)=X3 at Bn e3 hO ⊢;clear hK K
 go_simp
 refine stL (λK hK=>?_);refine stOut Bn hO (noB_k _) (noB_z _) (λX7 OB O=>hK _ _ ?_);have e4:=(e1.trans e2).trans (O.ext e3 (Nat.le_of_eq hgn));replace OA:=OA.ext e4;replace E:=E.trans e4;obtain⟨g16,hg16⟩:∃g,gn=g:=⟨_,rfl⟩;rw[hg16]at OB ⊢;clear hK K O e1 e2 e3 hO Bn hgn e4 hg16 B8 B11 E6 HRA HRB hlu;refine jE ?_;have cA2:=OA.left;have cB2:=OB.left;have hla:la<=few:=HM.out.2.2.1.1;have hlb:lb<=many:=HM.out.2.2.1.2.1;have eA:=OA.err;have eB:=OB.err;go_upto_region 14 with fail;clear cA2 cB2;by_cases h1:errR ra=0
 ·by_cases h2:errR rb=0
  ·obtain ⟨p,rfl⟩:=noErr_ok HM.out.1 h1;obtain⟨q,rfl⟩:=noErr_ok HM.out.2.1 h2;clear h1 h2 eA eB;obtain⟨ps1,pa1,pn1,pc1,ps2,pa2,pn2,pc2,ps3,pa3,pn3,pc3,ps4,pa4,pn4,pc4,pa,pn,pc,pra,prn,prc,cA,pl,ph,-,pr⟩:=OA.ok;obtain⟨qs1,qa1,qn1,qc1,qs2,qa2,qn2,qc2,qs3,qa3,qn3,qc3,qs4,qa4,qn4,qc4,qa,qn,qc,qra,qrn,qrc,cB,ql,qh,-,qr⟩:=OB.ok;obtain⟨hpp,hin,hle,hno,hye⟩:=HM.out.2.2.1.2.2 p q rfl rfl;have HP:=hid (jI hpp hin);have HLE:=hid hle;have HNO:=hid hno;have HYE:=hid hye;clear hpp hin hle hno hye;refine rgs 10 (dR 77 10) [IsP g15 0,IsP g15 10,iV 0,IsV (.bool false),IsV (.bool false),IsP g16 0,IsP g16 10,iV 0,IsV (.bool false),IsV (.bool false)] [] ?_ ?_
   ·refine Rc zi ?_;refine Rc yh ?_;refine Rc (lv (fP:=iV 0) _ (λw' e=>ld_e w' _ _ (e.cell (cA 10 _ rfl))) (qA (fP:=IsP g15 10) 1 78) (λ_ _=>rfl)) ?_;refine Rc (bn (r:=.bool false) (qC 2 79) qF (hr:=λw=>by go_simp)) ?_;refine Rc (mv (qA (fP:=IsV (.bool false)) 3 80)) ?_;refine RcG 4 81 false jc ?_;refine RcG 4 81 false (fa (fa_Vl3 (g16)) (qA (fP:=IsP g16 0) 5 82)) ?_;refine RcG 4 81 false (lv (fP:=iV 0) _ (λw' e=>ld_e w' _ _ (e.cell (cB 10 _ rfl))) (qA (fP:=IsP g16 10) 6 83) (λ_ _=>rfl)) ?_;refine RcG 4 81 false (bn (r:=.bool false) (qC 7 84) qF (hr:=λw=>by go_simp)) ?_;refine Rc (pk (qC 4 81) (qA (fP:=IsV (.bool false)) 8 85)) ?_;exact rn0
   intro v X e1 hZ _;simp only[lxE,Nat.reduceAdd];rw[show v 9=.bool false from hZ 9 dcx];replace E:=E.trans e1;replace OA:=OA.ext e1;replace OB:=OB.ext e1;replace cA:=λj v hj=>e1.cell (cA j v hj);replace cB:=λj v hj=>e1.cell (cB j v hj)
   replace pl:=IsRat.stbE _ _ _ _ _ e1 pl;replace ph:=IsRat.stbE _ _ _ _ _ e1 ph;replace ql:=IsRat.stbE _ _ _ _ _ e1 ql;replace qh:=IsRat.stbE _ _ _ _ _ e1 qh;replace pr:=pr.ext e1;replace qr:=qr.ext e1;clear e1 hZ;refine jE ?_;go_upto_region 16 with fail;obtain⟨z1,hz1⟩:∃z,cmpQ (Rat.divInt p.lo 1) (Rat.divInt p.hi 1)=z:=⟨_,rfl⟩;have hz0:¬0<z1:=by rw[<-hz1];exact cmpQ_int1 HP.out.1
   have Z1:=hid hz1;clear hz1;refine rgs 20 (dR 88 20) [IsP g15 0,IsP g15 0,IsP g15 0,IsRat 130 (Rat.divInt p.lo 1),IsP g15 0,IsP g15 0,IsP g15 4,IsRat 130 (Rat.divInt p.hi 1),iV z1,IsV (.bool false),IsV (.bool false),IsP g16 0,IsP g16 0,IsIvl q,IsP g15 0,IsP g15 0,IsIvl p,IsV (.bool true),IsV (.bool false),IsV (.bool false)] [] ?_ ?_
   ·refine Rc zi ?_;refine Rc (fa (fa_Vl0 (g15)) (qA (fP:=IsP g15 0) 0 88)) ?_;refine Rc (fa (fa_Iv0 (g15) 0) (qA (fP:=IsP g15 0) 1 89)) ?_;refine Rc (lv (fP:=IsRat 130 (Rat.divInt p.lo 1)) _ (λw' e=>ld_Rat w' (g15) 0 ps1 pa1 pn1 pc1 ps2 pa2 pn2 pc2 (e.cell (cA 0 _ rfl)) (e.cell (cA 1 _ rfl)) (e.cell (cA 2 _ rfl)) (e.cell (cA 3 _ rfl))) (qA (fP:=IsP g15 0) 2 90) (λw' e=>IsRat.stbE _ _ _ _ _ e pl)) ?_;refine Rc zi ?_;refine Rc (fa (fa_Vl0 (g15)) (qA (fP:=IsP g15 0) 4 92)) ?_;refine Rc (fa (fa_Iv1 (g15) 0) (qA (fP:=IsP g15 0) 5 93)) ?_;refine Rc (lv (fP:=IsRat 130 (Rat.divInt p.hi 1)) _ (λw' e=>ld_Rat w' (g15) 4 ps3 pa3 pn3 pc3 ps4 pa4 pn4 pc4 (e.cell (cA 4 _ rfl)) (e.cell (cA 5 _ rfl)) (e.cell (cA 6 _ rfl)) (e.cell (cA 7 _ rfl))) (qA (fP:=IsP g15 4) 6 94) (λw' e=>IsRat.stbE _ _ _ _ _ e ph)) ?_;refine Rc (cl2 (en func21) (qA (fP:=IsRat 130 (Rat.divInt p.lo 1)) 3 91) (qA (fP:=IsRat 130 (Rat.divInt p.hi 1)) 7 95) (λx0 x1 w' hE d0 d1=>by{exact(by have h:=rqCmp_f d0 d1 dcx dcx;rw[Z1.out]at h;exact h)})) ?_;refine Rc (bn (r:=.bool false) (qC 8 96) qF (hr:=λw=>by go_simp)) ?_;refine Rc (mv (qA (fP:=IsV (.bool false)) 9 97)) ?_;refine RcG 10 98 false jc ?_;refine RcG 10 98 false (fa (fa_Vl0 (g16)) (qA (fP:=IsP g16 0) 11 99)) ?_;refine RcG 10 98 false (lv (fP:=IsIvl q) (.agg #[.bool qs1,.slice qa1 qn1 qc1,.bool qs2,.slice qa2 qn2 qc2,.bool qs3,.slice qa3 qn3 qc3,.bool qs4,.slice qa4 qn4 qc4]) (λw' e=>ld_IvC (vs:= [.bool qs1,.slice qa1 qn1 qc1,.bool qs2,.slice qa2 qn2 qc2,.bool qs3,.slice qa3 qn3 qc3,.bool qs4,.slice qa4 qn4 qc4]) rfl (λj v hj=>by rw[Nat.zero_add];exact e.cell (cB j v (getE_app _ [Value.bool q.fin,.slice qa qn qc,.int .i64 0,.slice qra qrn qrc,.int .i64 (lb:Int)] hj)))) (qA (fP:=IsP g16 0) 12 100) (λw' e=>⟨qs1,qa1,qn1,qc1,qs2,qa2,qn2,qc2,qs3,qa3,qn3,qc3,qs4,qa4,qn4,qc4,rfl,IsRat.stbE _ _ _ _ _ e ql,IsRat.stbE _ _ _ _ _ e qh⟩)) ?_;refine RcG 10 98 false zi ?_;refine RcG 10 98 false (fa (fa_Vl0 (g15)) (qA (fP:=IsP g15 0) 14 102)) ?_
    refine RcG 10 98 false (lv (fP:=IsIvl p) (.agg #[.bool ps1,.slice pa1 pn1 pc1,.bool ps2,.slice pa2 pn2 pc2,.bool ps3,.slice pa3 pn3 pc3,.bool ps4,.slice pa4 pn4 pc4]) (λw' e=>ld_IvC (vs:= [.bool ps1,.slice pa1 pn1 pc1,.bool ps2,.slice pa2 pn2 pc2,.bool ps3,.slice pa3 pn3 pc3,.bool ps4,.slice pa4 pn4 pc4]) rfl (λj v hj=>by rw[Nat.zero_add];exact e.cell (cA j v (getE_app _ [Value.bool p.fin,.slice pa pn pc,.int .i64 0,.slice pra prn prc,.int .i64 (la:Int)] hj)))) (qA (fP:=IsP g15 0) 15 103) (λw' e=>⟨ps1,pa1,pn1,pc1,ps2,pa2,pn2,pc2,ps3,pa3,pn3,pc3,ps4,pa4,pn4,pc4,rfl,IsRat.stbE _ _ _ _ _ e pl,IsRat.stbE _ _ _ _ _ e ph⟩)) ?_;refine RcG 10 98 false (cl2 (en func22) (qA (fP:=IsIvl q) 13 101) (qA (fP:=IsIvl p) 16 104) (λx0 x1 w' hE d0 d1=>by{exact inside_t d0 d1 HP.out.2})) ?_;refine RcG 10 98 false (un (r:=.bool false) (qC 17 105) zbq (hr:=λw=>by go_simp)) ?_;refine Rc (pk (qC 10 98) (qA (fP:=IsV (.bool false)) 18 106)) ?_;exact rn0
   intro v X e1 hZ _;simp only[lxE,Nat.reduceAdd];rw[show v 19=.bool false from hZ 19 dcx];replace E:=E.trans e1;replace OA:=OA.ext e1;replace OB:=OB.ext e1;replace cA:=λj v hj=>e1.cell (cA j v hj);replace cB:=λj v hj=>e1.cell (cB j v hj)
   replace pl:=IsRat.stbE _ _ _ _ _ e1 pl;replace ph:=IsRat.stbE _ _ _ _ _ e1 ph;replace ql:=IsRat.stbE _ _ _ _ _ e1 ql;replace qh:=IsRat.stbE _ _ _ _ _ e1 qh;replace pr:=pr.ext e1;replace qr:=qr.ext e1;clear e1 hZ;refine jE ?_;clear hz0 Z1;obtain⟨aoA,cA0,hxA,kA⟩:=id pr;obtain⟨aoB,cB0,hxB,kB⟩:=id qr;obtain⟨nA,hnA⟩:∃n,(ksV na).length=n:=⟨_,rfl⟩;obtain⟨nB,hnB⟩:∃n,(ksV nb).length=n:=⟨_,rfl⟩;rw[hnA]at hxA;rw[hnB]at hxB;obtain⟨rfl,rfl⟩:nA=prn/\pra=aoA:=by cases hxA;exact⟨rfl,rfl⟩
   obtain⟨rfl,rfl⟩:nB=qrn/\qra=aoB:=by cases hxB;exact⟨rfl,rfl⟩
   clear hxA hxB;have hnA2:(ksL na).length=nA:=by rw[<-hnA];exact(List.length_map _).symm
   have hnB2:(ksL nb).length=nB:=by rw[<-hnB];exact(List.length_map _).symm
   have hl2:nA<=2401/\nB<=2401:=by rw[<-hnA2,<-hnB2];exact⟨HM.out.2.2.2.1.1,HM.out.2.2.2.2.1⟩
   have PR:=hid pr;have QR:=hid qr;have F:=hid (show(ksL na).length=nA/\(ksL nb).length=nB/\nA<=2401/\nB<=2401 from⟨hnA2,hnB2,hl2⟩);have KA:=hid kA;have KB:=hid kB;have HPQ:=hid (jI pl (jI ph (jI ql qh)));have HC:=hid (jI cA cB);have c11:=cA 11 _ rfl;have d11:=cB 11 _ rfl;have hA2:nA<=2401:=hl2.1;clear kA kB hnA hnB hnA2 hnB2 hl2 pr qr cA cB pl ph ql qh;go_wp2_with fail
   go_loopg [17] nA (λgk v17 wr=>∃i:Nat,v17=.int .i64 (i:Int)/\i+gk=nA/\Hid (Ext X wr))
   case atStart=>exact⟨0,rfl,by omega,hid (Ext.refl _)⟩
   case round=>
    obtain⟨i,rfl,hg,hE⟩:=hrel;have c11w:=hE.out.cell c11;by_cases hi:i<nA
    ·have hil:(i:Int)<(nA:Int):=by omega
     have hiw:IntKind.i64.wrap ((i:Int)+1)=((i+1:Nat):Int):=js
     obtain⟨x0,hx0⟩:∃x,(ksL na)[i]? =some x:=⟨_,List.getElem?_eq_getElem (by have:=F.out.1;omega)⟩;have hxb:x0∈ksL nb:=leG_ks HLE.out x0 (List.mem_of_getElem? hx0);have HX:=hid (jI hx0 hxb);obtain⟨G,rfl⟩:∃G,G=gk:=⟨_,rfl⟩;have HG:=hid (jI hg (jI hi hA2));clear hx0 hxb hg hi hA2;go_wp2_with fail;clear c11w hil
     go_loopg [18,19] nB (λgk v18 v19 wr=>∃(j:Nat) (f:Bool),v18=.bool f/\v19=.int .i64 (j:Int)/\j+gk=nB/\Hid ((f=true\/x0∈(ksL nb).drop j)/\Ext X wr))
     case atStart=>exact⟨0,false,rfl,rfl,by omega,hid ⟨.inr HX.out.2,hE.out⟩⟩
     case round=>
      obtain⟨j,f,rfl,rfl,hg2,S⟩:=hrel;have d11w:=S.out.2.cell d11;by_cases hj:j<nB
      ·have hjl:(j:Int)<(nB:Int):=by omega
       have hjw:IntKind.i64.wrap ((j:Int)+1)=((j+1:Nat):Int):=by have:=F.out.2.2.2;simp only[IntKind.wrap_i64];omega
       have HJ:=hid (jI hg2 hj);clear hg2;cases f with
       | true=>
        go_upto_region 25 with fail;refine rg 14 (dR 122 14) [IsV (.bool true),IsV (.bool true),IsV (undef),IsV (undef),IsV (undef),IsV (undef),IsV (undef),IsV (undef),IsV (undef),IsV (undef),IsV (undef),IsV (undef),IsV (undef),IsV (.bool true)] [] 1 ?_ ?_
        ·refine Rc (mv (qB (x:=.bool true) 18)) ?_;refine Rc (mv (qA (fP:=IsV (.bool true)) 0 122)) ?_;refine RcN 1 123 true ?_;refine RcN 1 123 true ?_;refine RcN 1 123 true ?_;refine RcN 1 123 true ?_;refine RcN 1 123 true ?_;refine RcN 1 123 true ?_;refine RcN 1 123 true ?_;refine RcN 1 123 true ?_;refine RcN 1 123 true ?_;refine RcN 1 123 true ?_;refine RcN 1 123 true ?_;refine Rc (pk (qC 1 123) qF) ?_;exact rn0
        intro v X e1 hZ _;simp only[lxE,Nat.reduceAdd];rw[show v 13=.bool true from hZ 13 dcx];have S1:=hid (S.out.2.trans e1);clear hZ e1;refine asA 14 18 (.tmp 135) (.bool true) rfl ?_;simp only[Act.put,uAx,u0x,u1x];refine jL za ?_ _;go_wp2_with fail
        go_roundg (gk-1)
        case measure=>have:=HJ.out;omega
        case rel=>exact⟨j+1,true,rfl,rfl,by have:=HJ.out;omega,hid ⟨.inl rfl,S1.out⟩⟩
       | false=>
        obtain⟨y0,hy0⟩:∃x,(ksL nb)[j]? =some x:=⟨_,List.getElem?_eq_getElem (by have:=F.out.2.1;omega)⟩;obtain⟨xx,hxs⟩:∃x:ByteArray,encStr x0=.string x:=⟨_,rfl⟩;obtain⟨yy,hys⟩:∃x:ByteArray,encStr y0=.string x:=⟨_,rfl⟩;obtain⟨gb,eb,-,kb⟩:=KB.out (λh=>by have h2:=F.out.2.1;rw[<-List.length_map (f:=encStr)]at h2;rw[show(ksL nb).map encStr= []from h]at h2;simp at h2;omega);obtain⟨ga',ea,-,ka⟩:=KA.out (λh=>by have h2:=F.out.1;have h3:=HG.out.2.1;rw[<-List.length_map (f:=encStr)]at h2;rw[show(ksL na).map encStr= []from h]at h2;simp at h2;omega);have cy:World.cell? wr ⟨gb,j,none⟩=some (.string yy):=S.out.2.cell (kb j _ (by rw[<-hys];exact(by rw[ksV,List.getElem?_map,hy0];rfl)));have cx:World.cell? wr ⟨ga',i,none⟩=some (.string xx):=S.out.2.cell (ka i _ (by rw[<-hxs];exact(by rw[ksV,List.getElem?_map,HX.out.1];rfl)));have c11w:=S.out.2.cell c11;have hd:x0∈(ksL nb).drop j:=S.out.1.resolve_left dcx;have hd2:(ksL nb).drop j=y0 ::(ksL nb).drop (j+1):=by obtain⟨h,rfl⟩:=List.getElem?_eq_some_iff.1 hy0;exact List.drop_eq_getElem_cons h
        rw[hd2]at hd;clear ka kb hy0 hd2;go_upto_region 25 with fail;by_cases hxy:y0=x0
        ·obtain rfl:xx=yy:=by rw[hxy,hxs]at hys;cases hys;rfl
         clear hxs hys hd hxy;refine rg 14 (dR 122 14) [IsV (.bool false),IsV (.bool false),IsP g16 11,IsV (.slice qra nB qrc),iV (j:Int),IsP gb j,IsV (.string xx),IsP g15 11,IsV (.slice pra nA prc),iV (i:Int),IsP ga' i,IsV (.string xx),IsV (.bool true),IsV (.bool true)] [] 1 ?_ ?_
         ·refine Rc (mv (qB (x:=.bool false) 18)) ?_;refine Rc (mv (qA (fP:=IsV (.bool false)) 0 122)) ?_;refine RcG 1 123 false yq ?_;refine RcG 1 123 false ye ?_;refine RcG 1 123 false (mv (qB (x:=.int .i64 (j:Int)) 19)) ?_;refine RcG 1 123 false (ixq (ix_rS qra gb qrc nB j eb HJ.out.2) (qA 3 125) (qA 4 126)) ?_;refine RcG 1 123 false (lv (fP:=IsV (.string xx)) _ (λw' e=>ld_str' w' _ _ (e.cell cy)) (qA 5 127) (λ_ _=>rfl)) ?_;refine RcG 1 123 false yr ?_;refine RcG 1 123 false yf ?_;refine RcG 1 123 false (mv (qB (x:=.int .i64 (i:Int)) 17)) ?_;refine RcG 1 123 false (ixq (ix_rS pra ga' prc nA i ea HG.out.2.1) (qA 8 130) (qA 9 131)) ?_;refine RcG 1 123 false zab ?_;refine RcG 1 123 false (bn (r:=.bool true) (qC 6 128) (qC 11 133) (hr:=λw=>by go_simp)) ?_;refine Rc (pk (qC 1 123) (qA (fP:=IsV (.bool true)) 12 134)) ?_;exact rn0
         intro v X e1 hZ _;simp only[lxE,Nat.reduceAdd];rw[show v 13=.bool true from hZ 13 dcx];clear cx cy ea eb c11w;have S1:=hid (S.out.2.trans e1);clear hZ e1;refine asA 14 18 (.tmp 135) (.bool true) rfl ?_;simp only[Act.put,uAx,u0x,u1x];refine jL za ?_ _;go_wp2_with fail
         go_roundg (gk-1)
         case measure=>have:=HJ.out;omega
         case rel=>exact⟨j+1,true,rfl,rfl,by have:=HJ.out;omega,hid ⟨.inl rfl,S1.out⟩⟩
        ·have hyx:¬(yy=xx):=λh=>hxy (encStr_inj (by rw[hys,hxs,h]))
         have HD:=hid ((List.mem_cons.1 hd).resolve_left (λh=>hxy h.symm));clear hxs hys hd hxy;refine rg 14 (dR 122 14) [IsV (.bool false),IsV (.bool false),IsP g16 11,IsV (.slice qra nB qrc),iV (j:Int),IsP gb j,IsV (.string yy),IsP g15 11,IsV (.slice pra nA prc),iV (i:Int),IsP ga' i,IsV (.string xx),IsV (.bool false),IsV (.bool false)] [] 1 ?_ ?_
         ·refine Rc (mv (qB (x:=.bool false) 18)) ?_;refine Rc (mv (qA (fP:=IsV (.bool false)) 0 122)) ?_;refine RcG 1 123 false yq ?_;refine RcG 1 123 false ye ?_;refine RcG 1 123 false (mv (qB (x:=.int .i64 (j:Int)) 19)) ?_;refine RcG 1 123 false (ixq (ix_rS qra gb qrc nB j eb HJ.out.2) (qA 3 125) (qA 4 126)) ?_;refine RcG 1 123 false (lv (fP:=IsV (.string yy)) _ (λw' e=>ld_str' w' _ _ (e.cell cy)) (qA 5 127) (λ_ _=>rfl)) ?_;refine RcG 1 123 false yr ?_;refine RcG 1 123 false yf ?_;refine RcG 1 123 false (mv (qB (x:=.int .i64 (i:Int)) 17)) ?_;refine RcG 1 123 false (ixq (ix_rS pra ga' prc nA i ea HG.out.2.1) (qA 8 130) (qA 9 131)) ?_;refine RcG 1 123 false zab ?_;refine RcG 1 123 false (bn (r:=.bool false) (qC 6 128) (qC 11 133) (hr:=λw=>by go_simp;exact λh=>hyx (baT h))) ?_;refine Rc (pk (qC 1 123) (qA (fP:=IsV (.bool false)) 12 134)) ?_;exact rn0
         intro v X e1 hZ _;simp only[lxE,Nat.reduceAdd];rw[show v 13=.bool false from hZ 13 dcx];clear cx cy ea eb c11w hyx;have S1:=hid (S.out.2.trans e1);clear hZ e1;refine asA 14 18 (.tmp 135) (.bool false) rfl ?_;simp only[Act.put,uAx,u0x,u1x];refine jL za ?_ _;go_wp2_with fail
         go_roundg (gk-1)
         case measure=>have:=HJ.out;omega
         case rel=>exact⟨j+1,false,rfl,rfl,by have:=HJ.out;omega,hid ⟨.inr HD.out,S1.out⟩⟩
      ·have hjl:¬((j:Int)<(nB:Int)):=by omega
       have hf:f=true:=by
        rcases S.out.1 with h|h
        ·exact h
        ·rw[List.drop_eq_nil_of_le (by have:=F.out.2.1;omega)]at h;cases h
       subst hf;have S1:=hid S.out.2;clear S;go_wp2_with fail
       go_roundg (G-1)
       case measure=>have:=HG.out;omega
       case rel=>exact⟨i+1,rfl,by have:=HG.out;omega,S1⟩
    ·have hil:¬((i:Int)<(nA:Int)):=by omega
     go_upto_region 28 with fail;clear hil hi hg c11w c11 d11 hA2;have E9:=hE.out;have cA:=λj v hj=>E9.cell (HC.out.1 j v hj)
     have cB:=λj v hj=>E9.cell (HC.out.2 j v hj)
     replace E:=E.trans E9;replace OA:=OA.ext E9;replace OB:=OB.ext E9;clear hE HC HPQ KA KB;cases hpf:p.fin with
     | false=>
      have cf:World.cell? wr ⟨g15,8,none⟩=some (.bool false):=by rw[<-hpf];exact cA 8 _ rfl
      have hno:=HNO.out hpf;clear HNO HYE;refine rgs 4 (dR 138 4) [IsP g15 0,IsP g15 8,IsV (.bool false),IsV (.bool true)] [] ?_ ?_
      ·refine Rc zi ?_;refine Rc (fa (fa_Vl1 (g15)) (qA (fP:=IsP g15 0) 0 138)) ?_;refine Rc (lv (fP:=IsV (.bool false)) _ (λw' e=>ld_b w' _ _ (e.cell cf)) (qA (fP:=IsP g15 8) 1 139) (λ_ _=>rfl)) ?_;refine Rc (un (r:=.bool true) (qC 2 140) zbq (hr:=λw=>by go_simp)) ?_;exact rn0
      intro v X e1 hZ _;simp only[lxE,Nat.reduceAdd];rw[show v 3=.bool true from hZ 3 dcx];replace E:=E.trans e1;replace OA:=OA.ext e1;replace OB:=OB.ext e1;replace cA:=λj v hj=>e1.cell (cA j v hj);replace cB:=λj v hj=>e1.cell (cB j v hj)
      have E0:=e1;clear e1 hZ;clear cf;refine jE ?_;go_upto_region 29 with fail;by_cases hz:la=0
      ·have cz:World.cell? X ⟨g15,12,none⟩=some (.int .i64 0):=by have:=cA 12 _ rfl;rw[hz]at this;exact this
       refine rgs 14 [some 142,some 143,some 144,some 145,some 146,some 147,some 148,some 149,some 150,some 151,some 152,some 153,some 154,some 6] [IsV (.bool true),IsV (.bool true),IsP g15 12,iV 0,IsV (.bool true),IsV (.bool true),IsV (undef),IsV (undef),IsV (undef),IsV (undef),IsV (undef),IsV (.bool true),IsV (.bool true),IsV (.bool true)] [] ?_ ?_
       ·refine Rc (mv (qB (x:=.bool true) 7)) ?_;refine Rc (mv (qA (fP:=IsV (.bool true)) 0 142)) ?_;refine RcG 1 143 true yt ?_;refine RcG 1 143 true (lv (fP:=iV 0) _ (λw' e=>xF w' _ _ (e.cell cz)) (qA (fP:=IsP g15 12) 2 144) (λ_ _=>rfl)) ?_;refine RcG 1 143 true (bn (r:=.bool true) (qC 3 145) qF (hr:=λw=>by go_simp)) ?_;refine RcG 1 143 true (mv (qA (fP:=IsV (.bool true)) 4 146)) ?_;refine RcN 5 147 true ?_;refine RcN 5 147 true ?_;refine RcN 5 147 true ?_;refine RcN 5 147 true ?_;refine RcN 5 147 true ?_;refine RcG 1 143 true (pk (qC 5 147) qF) ?_;refine Rc (pk (qC 1 143) (qA (fP:=IsV (.bool true)) 11 153)) ?_;refine Rc (mv (qA (fP:=IsV (.bool true)) 12 154)) ?_;exact rn0
       intro v X e1 hZ _;simp only[lxE,Nat.reduceAdd];rw[show v 13=.bool true from hZ 13 dcx];replace E:=E.trans e1;clear e1 hZ;refine jE ?_;go_wp2_with fail
       go_ret
       exact⟨_,rfl,E,rfl⟩
      ·obtain⟨hpq,hs⟩:=hno.resolve_left hz;subst hpq;obtain⟨rfl,rfl⟩:na=nb/\ha=hb:=by cases hs;exact⟨rfl,rfl⟩
       clear hs;refine rgs 14 [some 142,some 143,some 144,some 145,some 146,some 147,some 148,some 149,some 150,some 151,some 152,some 153,some 154,some 6] [IsV (.bool true),IsV (.bool true),IsP g15 12,iV (la:Int),IsV (.bool false),IsV (.bool false),IsP g15 0,IsVh (.ok p) (zsV ha),IsP g16 0,IsVh (.ok p) (zsV ha),IsV (.bool true),IsV (.bool true),IsV (.bool true),IsV (.bool true)] [] ?_ ?_
       ·refine Rc (mv (qB (x:=.bool true) 7)) ?_;refine Rc (mv (qA (fP:=IsV (.bool true)) 0 142)) ?_;refine RcG 1 143 true yt ?_;refine RcG 1 143 true (lv (fP:=iV (la:Int)) _ (λw' e=>xF w' _ _ (e.cell (cA 12 _ rfl))) (qA (fP:=IsP g15 12) 2 144) (λ_ _=>rfl)) ?_;refine RcG 1 143 true (bn (r:=.bool false) (qC 3 145) qF (hr:=λw=>by go_simp)) ?_;refine RcG 1 143 true (mv (qA (fP:=IsV (.bool false)) 4 146)) ?_;refine RcG 5 147 false zi ?_;refine RcG 5 147 false (ldVh OA (qA (fP:=IsP g15 0) 6 148)) ?_;refine RcG 5 147 false jc ?_;refine RcG 5 147 false (ldVh OB (qA (fP:=IsP g16 0) 8 150)) ?_;refine RcG 5 147 false (cl2 (en func23) (qA (fP:=IsVh (.ok p) (zsV ha)) 7 149) (qA (fP:=IsVh (.ok p) (zsV ha)) 9 151) (λx0 x1 w' hE d0 d1=>by{exact sameV_t d0 d1 (jK HM.out.2.2.2.1.2 dcx)})) ?_;refine RcG 1 143 true (pk (qC 5 147) (qA (fP:=IsV (.bool true)) 10 152)) ?_;refine Rc (pk (qC 1 143) (qA (fP:=IsV (.bool true)) 11 153)) ?_;refine Rc (mv (qA (fP:=IsV (.bool true)) 12 154)) ?_;exact rn0
       intro v X e1 hZ _;simp only[lxE,Nat.reduceAdd];rw[show v 13=.bool true from hZ 13 dcx];replace E:=E.trans e1;clear e1 hZ;refine jE ?_;go_wp2_with fail
       go_ret
       exact⟨_,rfl,E,rfl⟩
     | true=>
      have cf:World.cell? wr ⟨g15,8,none⟩=some (.bool true):=by rw[<-hpf];exact cA 8 _ rfl
      obtain⟨hpq,hs,hd⟩:=HYE.out hpf;subst hpq;obtain⟨rfl,rfl⟩:na=nb/\ha=hb:=by cases hs;exact⟨rfl,rfl⟩
      clear hs HNO HYE;refine rgs 4 (dR 138 4) [IsP g15 0,IsP g15 8,IsV (.bool true),IsV (.bool false)] [] ?_ ?_
      ·refine Rc zi ?_;refine Rc (fa (fa_Vl1 (g15)) (qA (fP:=IsP g15 0) 0 138)) ?_;refine Rc (lv (fP:=IsV (.bool true)) _ (λw' e=>ld_b w' _ _ (e.cell cf)) (qA (fP:=IsP g15 8) 1 139) (λ_ _=>rfl)) ?_;refine Rc (un (r:=.bool false) (qC 2 140) zbq (hr:=λw=>by go_simp)) ?_;exact rn0
      intro v X e1 hZ _;simp only[lxE,Nat.reduceAdd];rw[show v 3=.bool false from hZ 3 dcx];replace E:=E.trans e1;replace OA:=OA.ext e1;replace OB:=OB.ext e1;replace cA:=λj v hj=>e1.cell (cA j v hj);replace cB:=λj v hj=>e1.cell (cB j v hj)
      have E0:=e1;clear e1 hZ;clear cf;refine jE ?_;have D1:=hid (show IntKind.i64.wrap ((few:Int)-(la:Int))=((few-la:Nat):Int)from by have:=HF.out;simp only[IntKind.wrap_i64];omega);have D2:=hid (show IntKind.i64.wrap ((many:Int)-(lb:Int))=((few-la:Nat):Int)from by have:=HF.out;simp only[IntKind.wrap_i64];omega);clear hd;go_upto_region 30 with fail;refine rgs 27 [some 155,some 156,some 157,some 158,some 159,some 160,some 161,some 162,some 163,some 164,some 165,some 166,some 167,some 168,some 169,some 170,some 171,some 172,some 173,some 174,some 175,some 176,some 177,some 178,some 179,some 180,some 6] [IsV (.bool true),IsV (.bool true),IsP g15 0,IsVh (.ok p) (zsV ha),IsP g16 0,IsVh (.ok p) (zsV ha),IsV (.bool true),IsV (.bool true),IsV (.bool true),iV (few:Int),IsP g15 12,iV (la:Int),iV ((few-la:Nat):Int),iV (many:Int),IsP g16 12,iV (lb:Int),iV ((few-la:Nat):Int),IsV (.bool true),IsV (.bool true),IsV (.bool true),IsP g15 11,IsV (.slice pra nA prc),IsP g16 11,IsV (.slice qra nB qrc),IsV (.bool true),IsV (.bool true),IsV (.bool true)] [] ?_ ?_
      ·refine Rc (mv (qB (x:=.bool true) 7)) ?_;refine Rc (mv (qA (fP:=IsV (.bool true)) 0 155)) ?_;refine RcG 1 156 true zi ?_;refine RcG 1 156 true (ldVh OA (qA (fP:=IsP g15 0) 2 157)) ?_;refine RcG 1 156 true jc ?_;refine RcG 1 156 true (ldVh OB (qA (fP:=IsP g16 0) 4 159)) ?_;refine RcG 1 156 true (cl2 (en func23) (qA (fP:=IsVh (.ok p) (zsV ha)) 3 158) (qA (fP:=IsVh (.ok p) (zsV ha)) 5 160) (λx0 x1 w' hE d0 d1=>by{exact sameV_t d0 d1 (jK HM.out.2.2.2.1.2 dcx)})) ?_;refine Rc (pk (qC 1 156) (qA (fP:=IsV (.bool true)) 6 161)) ?_;refine Rc (mv (qA (fP:=IsV (.bool true)) 7 162)) ?_;refine RcG 8 163 true (mv (qB (x:=.int .i64 (few:Int)) 13)) ?_;refine RcG 8 163 true yt ?_;refine RcG 8 163 true (lv (fP:=iV (la:Int)) _ (λw' e=>xF w' _ _ (e.cell (cA 12 _ rfl))) (qA (fP:=IsP g15 12) 10 165) (λ_ _=>rfl)) ?_;refine RcG 8 163 true (bn (r:=.int .i64 ((few-la:Nat):Int)) (qC 9 164) (qC 11 166) (hr:=λw=>by have h:=D1.out;go_simp)) ?_;refine RcG 8 163 true (mv (qB (x:=.int .i64 (many:Int)) 14)) ?_;refine RcG 8 163 true (fa (fa_Out2 (g16)) (qB (x:=.pointer (some ⟨g16,0,none⟩)) 16)) ?_;refine RcG 8 163 true (lv (fP:=iV (lb:Int)) _ (λw' e=>xF w' _ _ (e.cell (cB 12 _ rfl))) (qA (fP:=IsP g16 12) 14 169) (λ_ _=>rfl)) ?_;refine RcG 8 163 true (bn (r:=.int .i64 ((few-la:Nat):Int)) (qC 13 168) (qC 15 170) (hr:=λw=>by have h:=D2.out;go_simp)) ?_;refine RcG 8 163 true (bn (r:=.bool true) (qC 12 167) (qC 16 171) (hr:=λw=>by go_simp)) ?_;refine Rc (pk (qC 8 163) (qA (fP:=IsV (.bool true)) 17 172)) ?_;refine Rc (mv (qA (fP:=IsV (.bool true)) 18 173)) ?_;refine RcG 19 174 true yr ?_;refine RcG 19 174 true (lv (fP:=IsV (.slice pra nA prc)) _ (λw' e=>ld_aStr w' _ _ (e.cell (cA 11 _ rfl))) (qA (fP:=IsP g15 11) 20 175) (λ_ _=>rfl)) ?_;refine RcG 19 174 true yq ?_;refine RcG 19 174 true (lv (fP:=IsV (.slice qra nB qrc)) _ (λw' e=>ld_aStr w' _ _ (e.cell (cB 11 _ rfl))) (qA (fP:=IsP g16 11) 22 177) (λ_ _=>rfl)) ?_;refine RcG 19 174 true (cl2 (en func24) (qA (fP:=IsV (.slice pra nA prc)) 21 176) (qA (fP:=IsV (.slice qra nB qrc)) 23 178) (λx0 x1 w' hE d0 d1=>by{obtain rfl:x0=.slice pra nA prc:=d0;obtain rfl:x1=.slice qra nB qrc:=d1;exact sameS_t (l:=ksL na) (PR.out.ext (E9.trans (E0.trans hE))) (QR.out.ext (E9.trans (E0.trans hE))) (jK HM.out.2.2.2.1.1 dcx)})) ?_
       refine Rc (pk (qC 19 174) (qA (fP:=IsV (.bool true)) 24 179)) ?_;refine Rc (mv (qA (fP:=IsV (.bool true)) 25 180)) ?_;exact rn0
      intro v X e1 hZ _;simp only[lxE,Nat.reduceAdd];rw[show v 26=.bool true from hZ 26 dcx];replace E:=E.trans e1;clear e1 hZ;refine jE ?_;go_wp2_with fail
      go_ret
      exact⟨_,rfl,E,rfl⟩
  ·obtain⟨n2,hn2⟩:∃n,errR rb=n:=⟨_,rfl⟩;rw[hn2]at eB h2;rw[h1]at eA;clear hn2 h1;refine rgs 10 (dR 77 10) [IsP g15 0,IsP g15 10,iV 0,IsV (.bool false),IsV (.bool false),IsP g16 0,IsP g16 10,iV n2,IsV (.bool true),IsV (.bool true)] [] ?_ ?_
   ·refine Rc zi ?_;refine Rc yh ?_;refine Rc (lv (fP:=iV 0) _ (λw' e=>ld_e w' _ _ (e.cell eA)) (qA (fP:=IsP g15 10) 1 78) (λ_ _=>rfl)) ?_;refine Rc (bn (r:=.bool false) (qC 2 79) qF (hr:=λw=>by go_simp)) ?_;refine Rc (mv (qA (fP:=IsV (.bool false)) 3 80)) ?_;refine RcG 4 81 false jc ?_;refine RcG 4 81 false (fa (fa_Vl3 (g16)) (qA (fP:=IsP g16 0) 5 82)) ?_;refine RcG 4 81 false (lv (fP:=iV n2) _ (λw' e=>ld_e w' _ _ (e.cell eB)) (qA (fP:=IsP g16 10) 6 83) (λ_ _=>rfl)) ?_;refine RcG 4 81 false (bn (r:=.bool true) (qC 7 84) qF (hr:=λw=>by go_simp)) ?_;refine Rc (pk (qC 4 81) (qA (fP:=IsV (.bool true)) 8 85)) ?_;exact rn0
   intro v X e1 hZ _;simp only[lxE,Nat.reduceAdd];rw[show v 9=.bool true from hZ 9 dcx];replace E:=E.trans e1;clear e1 hZ;refine jE ?_;go_wp2_with fail
   go_ret
   exact⟨_,rfl,E,rfl⟩
 ·obtain⟨n1,hn1⟩:∃n,errR ra=n:=⟨_,rfl⟩;rw[hn1]at eA h1;clear hn1;refine rgs 10 (dR 77 10) [IsP g15 0,IsP g15 10,iV n1,IsV (.bool true),IsV (.bool true),IsV (undef),IsV (undef),IsV (undef),IsV (undef),IsV (.bool true)] [] ?_ ?_
  ·refine Rc zi ?_;refine Rc yh ?_;refine Rc (lv (fP:=iV n1) _ (λw' e=>ld_e w' _ _ (e.cell eA)) (qA (fP:=IsP g15 10) 1 78) (λ_ _=>rfl)) ?_;refine Rc (bn (r:=.bool true) (qC 2 79) qF (hr:=λw=>by go_simp)) ?_;refine Rc (mv (qA (fP:=IsV (.bool true)) 3 80)) ?_;refine RcN 4 81 true ?_;refine RcN 4 81 true ?_;refine RcN 4 81 true ?_;refine RcN 4 81 true ?_;refine Rc (pk (qC 4 81) qF) ?_;exact rn0
  intro v X e1 hZ _;simp only[lxE,Nat.reduceAdd];rw[show v 9=.bool true from hZ 9 dcx];replace E:=E.trans e1;clear e1 hZ;refine jE ?_;go_wp2_with fail
  go_ret
  exact⟨_,rfl,E,rfl⟩
end
end Go.Proofs.YtkeikfekkdplgaaGreatDoor
