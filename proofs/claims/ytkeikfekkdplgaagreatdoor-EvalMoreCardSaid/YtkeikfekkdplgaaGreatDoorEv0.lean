/- Lemmas. -/
import Derived.Test.YtkeikfekkdplgaaGreatDoorRDivMod
import Derived.Maps.AppendAt
import Derived.RangeFuncBox
import Derived.Test.YtkeikfekkdplgaaGreatDoorBase
import Derived.Test.YtkeikfekkdplgaaGreatDoorRg
namespace Go.Proofs.YtkeikfekkdplgaaGreatDoor
section
open Go Go.RowKit
open Go.Proofs.Tryz
theorem zt{P:Prop}(h:P:=by exact mv (qB 0)):P:=h
theorem yo{P:Prop}(h:P:=by exact mv (qB 1)):P:=h
set_option maxRecDepth 100000
set_option maxHeartbeats 4000000
theorem rqSame_t{k1 k2:Nat}{u1 v1 u2 v2:Int}{x y:Value}{w:World}(hx:IsQ (IsI k1 u1) (IsI k1 v1) x w)(hy:IsQ (IsI k2 u2) (IsI k2 v2) y w)(l1:k1<=1048576)(hu:u1=u2)(hv:v1=v2):Calls prog 19 #[x,y] w (Ret w (IsV (.bool true))):=by
 have HU:=hid hu;have HV:=hid hv;clear hu hv;obtain⟨s1x,a1x,n1x,c1x,s1y,a1y,n1y,c1y,rfl,h1x,h1y⟩:=hx;obtain⟨s2x,a2x,n2x,c2x,s2y,a2y,n2y,c2y,rfl,h2x,h2y⟩:=hy;obtain⟨W,hW,S⟩:∃W,W=(w.alloc (.cells #[.bool s1x,.slice a1x n1x c1x,.bool s1y,.slice a1y n1y c1y] 45)).alloc (.cells #[.bool s2x,.slice a2x n2x c2x,.bool s2y,.slice a2y n2y c2y] 45)/\Sto w W [((w.heap.size+1,1),IsI k2 v2),((w.heap.size+1,0),IsI k2 u2),((w.heap.size,1),IsI k1 v1),((w.heap.size,0),IsI k1 u1)]:=⟨_,rfl,(((Sto.start w).new2 (w.heap.size) zd s1x s1y a1x a1y n1x c1x n1y c1y 45 (IsI k1 u1) (IsI k1 v1) (IsI.gstb _ _) (h1x) (IsI.gstb _ _) (h1y)).new2 (w.heap.size+1) zd s2x s2y a2x a2y n2x c2x n2y c2y 45 (IsI k2 u2) (IsI k2 v2) (IsI.gstb _ _) (h2x.ext ((Ext.refl _).alloc _)) (IsI.gstb _ _) (h2y.ext ((Ext.refl _).alloc _)))⟩;clear h1x h1y h2x h2y;go_enter func19,ntmps19;go_upto_region 1 with fail;rw[<-hW];clear hW;refine rgt S 13 [some 5,some 6,some 7,some 8,some 9,some 10,some 11,some 12,some 13,some 14,some 15,some 16,some 4] [IsP (w.heap.size) 0,IsI k1 u1,IsP (w.heap.size+1) 0,IsI k2 u2,IsV (.bool true),IsV (.bool true),IsP (w.heap.size) 2,IsI k1 v1,IsP (w.heap.size+1) 2,IsI k2 v2,IsV (.bool true),IsV (.bool true),IsV (.bool true)] ?_ ?_
 ·refine Rc (fa (fa_Rat0 (w.heap.size) 0) (qB 2)) ?_;refine Rc (ldI S 3 (w.heap.size) 0 (qA 0 5) qE) ?_;refine Rc (fa (fa_Rat0 (w.heap.size+1) 0) (qB 3)) ?_;refine Rc (ldI S 1 (w.heap.size+1) 0 (qA 2 7) qE) ?_;refine Rc (cl2 (en func39) (qA (fP:=IsI k1 u1) 1 6) (qA (fP:=IsI k2 u2) 3 8) (λx0 x1 w' hE d0 d1=>Same_t d0 d1 HU.out zb)) ?_;refine Rc (mv (qA 4 9)) ?_;refine RcG 5 10 true (fa (fa_Rat1 (w.heap.size) 0) (qB 2)) ?_;refine RcG 5 10 true (ldI S 2 (w.heap.size) 1 (qA 6 11) qE) ?_;refine RcG 5 10 true (fa (fa_Rat1 (w.heap.size+1) 0) (qB 3)) ?_;refine RcG 5 10 true (ldI S 0 (w.heap.size+1) 1 (qA 8 13) qE) ?_;refine RcG 5 10 true (cl2 (en func39) (qA (fP:=IsI k1 v1) 7 12) (qA (fP:=IsI k2 v2) 9 14) (λx0 x1 w' hE d0 d1=>Same_t d0 d1 HV.out zb)) ?_;refine Rc (pk (qC 5 10) (qA 10 15)) ?_;refine Rc (mv (qA 11 16)) ?_;exact rn0
 intro v W1 S hZ;simp only[lxE,Nat.reduceAdd];rw[show v 12=.bool true from hZ 12 dcx];clear hZ;go_wp2_with fail;exact jD (v:=.bool true) (by simp[results,results19,go_sem]) rfl (⟨_,rfl,S.ext,rfl⟩)
theorem rqSame_eq{k1 k2:Nat}{p q:Rat}{x y:Value}{w:World}(hx:IsRat k1 p x w)(hy:IsRat k2 q y w)(l1:k1<=1048576)(h:p=q):Calls prog 19 #[x,y] w (Ret w (IsV (.bool true))):=
 rqSame_t hx hy l1 (by rw[h]) (by rw[h])
theorem rqOf_f(w:World)(n d:Int)(hn: -9223372036854775808<=n/\n<=9223372036854775807)(hd: -9223372036854775808<=d/\d<=9223372036854775807)(hz:0<d):Calls prog 47 #[.int .i64 n,.int .i64 d] w (Ret w (IsRat 2 (Rat.divInt n d))):=by
 have HN:=hid hn;have HD:=hid hd;have HZ:=hid hz;clear hn hd hz;obtain⟨W,hW,S⟩:∃W,W=w.alloc (.cells #[.bool false,.slice none 0 0,.bool false,.slice none 0 0] 45)/\Sto w W [((w.heap.size,1),IsI 0 0),((w.heap.size,0),IsI 0 0)]:=⟨_,rfl,((Sto.start w).new2 (w.heap.size) zd false false none none 0 0 0 0 45 (IsI 0 0) (IsI 0 0) (IsI.gstb _ _) (IsI.nil _ _) (IsI.gstb _ _) (IsI.nil _ _))⟩;go_enter func47,ntmps47;go_upto_region 1 with fail;rw[<-hW];clear hW;refine rgs 5 (dR 5 5) [iV n,IsI 2 n,iV d,IsI 2 d,IsQ (IsI (max 2 2) ((Rat.divInt n d).num)) (IsI (max 2 2) (((Rat.divInt n d).den:Int)))] [] ?_ ?_
 ·refine Rc zt ?_;refine Rc (cl1 (en func26) (qA (fP:=iV n) 0 5) (λx0 w' hE d0=>by{obtain rfl:x0=.int .i64 n:=d0;exact ROf_f _ n HN.out.1 HN.out.2})) ?_;refine Rc yo ?_;refine Rc (cl1 (en func26) (qA (fP:=iV d) 2 7) (λx0 w' hE d0=>by{obtain rfl:x0=.int .i64 d:=d0;exact ROf_f _ d HD.out.1 HD.out.2})) ?_;refine Rc (cl2 (en func65) (qA (fP:=IsI 2 n) 1 6) (qA (fP:=IsI 2 d) 3 8) (λx0 x1 w' hE d0 d1=>rqover_f d0 d1 dcx dcx HZ.out)) ?_;exact rn0
 intro v W1 e1 hZ _;replace S:=S.mono e1;have h9:=hZ 4 dcx;simp only[lxE,Nat.reduceAdd];clear hZ e1
 try simp only[dxE]
 (with_reducible refine stL ?_ zbq);intro KK hKK;refine stQ S 1 0 (w.heap.size) 0 h9 (IsI.gstb _ _) (IsI.gstb _ _) st_Rat (λW1a S2 G2=>hKK _ _ ?_) rfl rfl
 replace S:=S2;clear S2 G2 hKK KK h9;simp only[u0x,u1x]at S;refine jE ?_;go_wp2_with fail;obtain⟨s90x,a90x,n90x,c90x,b90x,h90x⟩:=S.at 1 (w.heap.size) 0 (IsI (max 2 2) ((Rat.divInt n d).num)) rfl;have L90xa:World.cell? W1a ⟨w.heap.size,0,none⟩=some (.bool s90x):=b90x.c0;have L90xb:World.cell? W1a ⟨w.heap.size,1,none⟩=some (.slice a90x n90x c90x):=b90x.c1;obtain⟨s90y,a90y,n90y,c90y,b90y,h90y⟩:=S.at 0 (w.heap.size) 1 (IsI (max 2 2) (((Rat.divInt n d).den:Int))) rfl;have L90ya:World.cell? W1a ⟨w.heap.size,2,none⟩=some (.bool s90y):=b90y.c0;have L90yb:World.cell? W1a ⟨w.heap.size,3,none⟩=some (.slice a90y n90y c90y):=b90y.c1;exact jD (v:=.agg #[.bool s90x,.slice a90x n90x c90x,.bool s90y,.slice a90y n90y c90y]) (by simp[results,results47,go_sem,L90xa,L90xb,L90ya,L90yb]) rfl (⟨_,rfl,S.ext,⟨_,_,_,_,_,_,_,_,rfl,h90x,h90y⟩⟩)
theorem Ext.heap'{w w':World}(e:Ext w w'){g:Nat}{o:Obj}(h:w.heap[g]? =some o):w'.heap[g]? =some o:=(e.block g (Array.getElem?_eq_some_iff.1 h).1).trans h
def Rwg(e k base:Nat)(w:World)(v:Value)(n:Nat)(xs:List Value):Prop:=w.ownsRow base e k v n xs
theorem Rwg.ext{e k base n:Nat}{w w':World}{v:Value}{xs:List Value}(h:Rwg e k base w v n xs)(E:Ext w w'):Rwg e k base w' v n xs:=by
 obtain⟨h1,h2| ⟨g,cap,cur,hv,hb,hg,hr⟩⟩:=h
 ·exact⟨h1,.inl h2⟩
 ·exact⟨h1,.inr ⟨g,cap,cur,hv,hb,E.heap' hg,hr⟩⟩
theorem Rwg.shape{e k base n:Nat}{w:World}{v:Value}{xs:List Value}(h:Rwg e k base w v n xs):∃ao cap,v=.slice ao n cap/\n<=cap/\cap<=9223372036854775807/\xs.length=n*k/\
  (n≠0->∃g,ao=some ⟨g,0,none⟩/\base<=g/\g<w.heap.size/\∀j u,xs[j]? =some u->w.cell? ⟨g,j,none⟩=some u):=by
 obtain⟨h1,⟨h2,h3⟩| ⟨g,cap,cur,hv,hb,hg,hn,hc,hsz,ht⟩⟩:=h
 ·subst h3;exact⟨none,0,h2,jJ _,by decide,h1,λh=>absurd rfl h⟩
 ·refine⟨_,cap,hv,hn,hc,h1,λ_=>⟨g,rfl,hb,(Array.getElem?_eq_some_iff.1 hg).1,λj u hj=>?_⟩⟩;have hjl:j<xs.length:=(List.getElem?_eq_some_iff.1 hj).1;simp only[World.cell?];rw[hg];show cur[j]? =some u;rw[<-ht,List.getElem?_take,if_pos (by omega)]at hj
  simpa using hj
theorem wpl_rwg{P:Program}{w:World}{ops:Array Oper}{rest:List Oper}{o:Oper}{a:Act}{Q:Exit->Act->World->Prop}(hgd:o.guard=none)(s x:Operand)(t:TypeId)
  (ho:o.op=.call {callee:=.builtin .append,args:= #[s,x],argTypes:= #[t,t]}) (base e:Nat) (z:Value) (k bytes:Nat) (ht:P.underlying t=some (.slice e)) (hinfo:(P.info? e).map (λi=>(i.zero,i.size,i.bytes))=some (some z,k,bytes))
  (hzs:z.cells.size=k) (hk:0<k) (v:Value) (n:Nat) (xs:List Value) (hs:a.eval s=v) (hown:Rwg e k base w v n xs) (g m c:Nat) (news:List Value) (hx:a.eval x=.slice (some ⟨g,0,none⟩) m c) (hl:news.length=m*k)
  (hnews:∀j u,news[j]? =some u->w.cell? ⟨g,j,none⟩=some u) (h1:∀u∈news,u.oneCell'=true) (h63:n+m<=140737488355328) (hbytes:(n+m)*bytes<=140737488355328) (hbase:base<=w.heap.size)
  (h:∀v' w',Rwg e k base w' v' (n+m) (xs++news)->w.grownBy w' v.ownBlock->Below base w w'->wpList P ops Q rest (a.put o.dst v') w'):
  wpList P ops Q (o ::rest) a w:=by
 obtain⟨i,hi,hz0,hz1,hz2⟩:=info_parts hinfo;refine wpList_append_own_at w hgd s x t ho base e i z k bytes ht hi hz0 hz1 hz2 hzs hk v n xs hs hown ⟨g,0,none⟩ m c news hx hl (λj u hj=>by cases j <;> simpa [Addr.add]using hnews _ u hj) h1 ym hbytes hbase ?_;intro v' w' h2 h3 _ _;refine h v' w' h2 h3 ((Below.refl base w).grown h3 hbase λb hb=>?_);obtain⟨_,⟨hv,_⟩| ⟨g,cap,cur,hv,hb2,_⟩⟩:=hown
 ·rw[hv]at hb;cases hb
 ·rw[hv]at hb;cases hb;exact hb2
theorem cells_new(w:World)(cs:Array Value)(t:Nat):∀j u,cs.toList[j]? =some u->(w.alloc (.cells cs t)).cell? ⟨w.heap.size,j,none⟩=some u:=by
 intro j u hj;simp only[World.cell?];have:(w.alloc (.cells cs t)).heap[w.heap.size]? =some (.cells cs t):=by show(w.heap.push _)[w.heap.size]? =_;simp
 rw[this];show cs[j]? =some u
 simpa using hj
theorem cells_newE(w:World)(cs:Array Value)(t g:Nat)(hg:w.heap.size=g):∀j u,cs.toList[j]? =some u->(w.alloc (.cells cs t)).cell? ⟨g,j,none⟩=some u:=by subst hg;exact cells_new w cs t
def xD:World->Nat->Nat->List Value->World
 |W,_,_, []=>W
 |W,b,j,v ::vs=>xD (W.setCell ⟨b,j,none⟩ v) b (j+1) vs
theorem setL_other:∀(vs:List Value) (W:World) (b j:Nat) (p:Addr),(p.block≠b\/(p=⟨b,p.off,none⟩/\p.off<j))->World.cell? (xD W b j vs) p=World.cell? W p
 | [],_,_,_,_,_=>rfl
 | v ::vs,W,b,j,p,h=>by
  unfold xD;rw[setL_other vs _ b (j+1) p (h.imp id λ⟨h1,h2⟩=>⟨h1,by omega⟩)];refine World.cell?_setCell_other _ _ _ _ ?_;rintro rfl;rcases h with h| ⟨_,h⟩
  ·exact h rfl
  ·exact Nat.lt_irrefl _ h
theorem setL_frozen:∀(vs:List Value) (W:World) (b j:Nat) (p:Addr),World.frozen? (xD W b j vs) p=World.frozen? W p
 | [],_,_,_,_=>rfl
 | v ::vs,W,b,j,p=>by
  unfold xD;rw[setL_frozen vs,World.frozen?_setCell]
theorem setL_cell:∀(vs:List Value) (W:World) (b j:Nat),(∀i,i<vs.length->(World.cell? W ⟨b,j+i,none⟩).isSome)->∀(i:Nat) (v:Value),vs[i]? =some v->World.cell? (xD W b j vs) ⟨b,j+i,none⟩=some v
 | [],_,_,_,_,i,v,h=>by simp at h
 | u ::vs,W,b,j,hs,i,v,h=>by
  unfold xD;cases i with
  | zero=>
   simp at h;subst h;rw[setL_other vs _ b (j+1) ⟨b,j+0,none⟩ (.inr ⟨rfl,by simp⟩)];exact World.cell?_setCell_same' _ _ _ (hs 0 zd)
  | succ i=>
   simp at h;have:=setL_cell vs (W.setCell ⟨b,j,none⟩ u) b (j+1) (λk hk=>?_) i v h
   ·rw[show j+(i+1)=j+1+i by omega];exact this
   ·rw[World.cell?_setCell_other _ _ _ _ (by intro e;injection e with e1 e2;omega)];have:=hs (k+1) zak
    rwa [show j+(k+1)=j+1+k by omega]at this
theorem setL_below:∀(vs:List Value) (W w:World) (b j base:Nat),Below base w W->base<=b->Below base w (xD W b j vs)
 | [],_,_,_,_,_,h,_=>h
 | v ::vs,W,w,b,j,base,h,hb=>by
  unfold xD;exact setL_below vs _ w b (j+1) base (h.setCell (p:=⟨b,j,none⟩) hb v) hb
theorem setL_gr:∀(vs:List Value) (W:World) (b j:Nat),(∀i,i<vs.length->∃u,World.cell? W ⟨b,j+i,none⟩=some u/\NoWord u)->Gr W (xD W b j vs)
 | [],W,_,_,_=>Gr.refl W
 | v ::vs,W,b,j,h=>by
  unfold xD;obtain⟨u,hu,hn⟩:=h 0 zd;refine((Gr.refl W).set (p:=⟨b,j,none⟩) hu hn v).trans (setL_gr vs _ b (j+1) λi hi=>?_);obtain⟨u,hu,hn⟩:=h (i+1) zak;refine⟨u,?_,hn⟩;rw[World.cell?_setCell_other _ _ _ _ (by intro e;injection e with e1 e2;omega),show j+1+i=j+(i+1)by omega];exact hu
structure Bk (W:World) (g:Nat) (vs:List Value):Prop where
 c:∀j v,vs[j]? =some v->World.cell? W ⟨g,j,none⟩=some v
 f:∀j,World.frozen? W ⟨g,j,none⟩=false
 lt:g<W.heap.size
theorem Bk.ext{W W':World}{g:Nat}{vs:List Value}(h:Bk W g vs)(E:Ext W W'):Bk W' g vs:=⟨λj v hj=>E.cell (h.c j v hj),λj=>(E.frozen (p:=⟨g,j,none⟩) h.lt).trans (h.f j),Nat.lt_of_lt_of_le h.lt E.size⟩
theorem Bk.new(w:World)(cs:Array Value)(T:TypeId):Bk (w.alloc (.cells cs T)) w.heap.size cs.toList:=
 ⟨λj v hj=>cells_new w cs T j v hj,λj=>by simp,by simp⟩
theorem Bk.newE(w:World)(g:Nat)(hg:w.heap.size=g)(cs:Array Value)(T:TypeId):Bk (w.alloc (.cells cs T)) g cs.toList:=by subst hg;exact Bk.new w cs T
theorem Bk.put{W w:World}{g:Nat}{vs us:List Value}(B:Bk W g vs)(hl:us.length=vs.length)(hn:∀v∈vs,NoWord v)(E:Ext w W)(hg:w.heap.size<=g):
  ∃W',xD W g 0 us=W'/\Bk W' g us/\Ext w W'/\Gr W W'/\(∀g' vs',g'≠g->Bk W g' vs'->Bk W' g' vs')/\W'.heap.size=W.heap.size:=by
 have hc:∀i,i<us.length->∃u,World.cell? W ⟨g,0+i,none⟩=some u/\NoWord u:=λi hi=>by
  have:i<vs.length:=zb
  rw[Nat.zero_add];exact⟨vs[i],B.c i _ (List.getElem?_eq_getElem this),hn _ (List.getElem_mem this)⟩
 have hsz:(xD W g 0 us).heap.size=W.heap.size:=by
  have:∀(us:List Value) (W:World) (j:Nat),(xD W g j us).heap.size=W.heap.size:=by
   intro us
   induction us with
   |nil=>intro W j;rfl
   |cons u us ih=>intro W j;unfold xD;rw[ih];simp[World.setCell]
  exact this us W 0
 refine⟨_,rfl,⟨λj v hj=>?_,λj=>?_,by rw[hsz];exact B.lt⟩,setL_below us W w g 0 _ E hg,setL_gr us W g 0 hc,λg' vs' hne B'=>⟨λj v hj=>?_,λj=>?_,by rw[hsz];exact B'.lt⟩,hsz⟩
 ·have:=setL_cell us W g 0 (λi hi=>by obtain⟨u,hu,_⟩:=hc i hi;rw[hu];rfl) j v hj
  rwa [Nat.zero_add]at this
 ·rw[setL_frozen];exact B.f j
 ·rw[setL_other us W g 0 ⟨g',j,none⟩ (.inl hne)];exact B'.c j v hj
 ·rw[setL_frozen];exact B'.f j
theorem Bk.set1{W w:World}{g:Nat}{vs:List Value}(B:Bk W g vs)(j:Nat)(hj:j<vs.length)(u:Value)(hn:NoWord (vs[j]))(E:Ext w W)(hg:w.heap.size<=g):
  ∃W',W.setCell ⟨g,j,none⟩ u=W'/\Bk W' g (vs.set j u)/\Ext w W'/\Gr W W'/\(∀g' vs',g'≠g->Bk W g' vs'->Bk W' g' vs')/\W'.heap.size=W.heap.size:=by
 have hc:=B.c j _ (List.getElem?_eq_getElem hj);refine⟨_,rfl,⟨λi v hi=>?_,λi=>?_,by simp[World.setCell];exact B.lt⟩,E.set (p:=⟨g,j,none⟩) hg u,(Gr.refl W).set hc hn u,λg' vs' hne B'=>⟨λi v hi=>?_,λi=>?_,by simp[World.setCell];exact B'.lt⟩,by simp[World.setCell]⟩
 ·by_cases hij:j=i
  ·subst hij;rw[List.getElem?_set_self hj]at hi;rw[World.cell?_setCell_same _ _ _ hc,hi]
  ·rw[List.getElem?_set_ne hij]at hi;rw[World.cell?_setCell_other _ _ _ _ (by intro e;injection e with e1 e2;exact hij e2)];exact B.c i v hi
 ·rw[World.frozen?_setCell];exact B.f i
 ·rw[World.cell?_setCell_other _ _ _ _ (by intro e;injection e with e1 e2;exact hne e1.symm)];exact B'.c i v hi
 ·rw[World.frozen?_setCell];exact B'.f i
def IsKn(k:Nat)(lo hi:Int)(f:Bool):Value->World->Prop:=λx w=>∃s a n c s' a' n' c',x=.agg #[.bool s,.slice a n c,.bool s',.slice a' n' c',.bool f]/\IsI k lo (.agg #[.bool s,.slice a n c]) w/\IsI k hi (.agg #[.bool s',.slice a' n' c']) w
theorem IsKn.gstb(k:Nat)(lo hi:Int)(f:Bool):GStb (IsKn k lo hi f):=λ_ _ _ e ⟨s,a,n,c,s',a',n',c',h1,h2,h3⟩=>⟨s,a,n,c,s',a',n',c',h1,IsI.gstb _ _ _ _ _ e h2,IsI.gstb _ _ _ _ _ e h3⟩
theorem IsKn.stb(k:Nat)(lo hi:Int)(f:Bool):Stb (IsKn k lo hi f):=λ_ _ _ e h=>IsKn.gstb k lo hi f _ _ _ e.gr h
instance (k:Nat) (lo hi:Int) (f:Bool):StbC (IsKn k lo hi f):=⟨IsKn.stb k lo hi f⟩
theorem IsKn.mono{k k':Nat}{lo hi:Int}{f:Bool}{x:Value}{w:World}(h:IsKn k lo hi f x w)(hk:k<=k'):IsKn k' lo hi f x w:=
 let ⟨s,a,n,c,s',a',n',c',h1,h2,h3⟩:=h;⟨s,a,n,c,s',a',n',c',h1,h2.mono hk,h3.mono hk⟩
theorem IsKn.tight{k k':Nat}{lo hi:Int}{f:Bool}{x:Value}{w:World}(h:IsKn k lo hi f x w)(h1:lo.natAbs<4294967296^k')(h2:hi.natAbs<4294967296^k'):IsKn k' lo hi f x w:=
 let ⟨s,a,n,c,s',a',n',c',e,g1,g2⟩:=h;⟨s,a,n,c,s',a',n',c',e,g1.tight h1,g2.tight h2⟩
section
variable {P:Program} {ops:Array Oper} {Q:Exit->Act->World->Prop} {ds:List (Option Tmp)} {a0:Act} {w0:World} {L:List (Value->World->Prop)} {boxes:List Nat} {i k:Nat} {o:Oper} {os:List Oper}
theorem lv{T:Nat}{x:Operand}{p:Value}(u:Value){fP:Value->World->Prop}(hr:∀w,Ext w0 w->(Instr.loadAt T p).run P w=.ok u w)(hx:Od ops ds a0 w0 L i x (IsV p))(hZ:∀w,Ext w0 w->fP u w)(ho:o.op=.load T x:=by rfl)
  (hi:L.getD i (λ_ _=>True)=fP:=by kernel_rfl) (hb:boxes.contains i=false:=by kernel_rfl):Ok P ops Q ds a0 w0 L boxes i o:=
 Ok.of hb λv a w hE hd hf=>⟨u,ld_run ho (hx.out v a w hE hd hf) (hr w hE),by rw[hi];exact hZ w hE⟩
theorem lvI(f:Nat){T g:Nat}{x:Operand}{vs:List Value}{s:Bool}{a:Option Addr}{n c:Nat}{kz:Nat}{z:Int}(B:Bk w0 g vs)(hz:IsI kz z (.agg #[.bool s,.slice a n c]) w0)(hT:LdI P T)(hx:Od ops ds a0 w0 L i x (IsP g f))(h0:vs[f]? =some (.bool s):=by rfl)(h1:vs[f+1]? =some (.slice a n c):=by rfl)(ho:o.op=.load T x:=by rfl)
  (hi:L.getD i (λ_ _=>True)=IsI kz z:=by kernel_rfl) (hb:boxes.contains i=false:=by kernel_rfl):Ok P ops Q ds a0 w0 L boxes i o:=
 lv _ (λw e=>hT w g f s a n c ((B.ext e).c f _ h0) ((B.ext e).c (f+1) _ h1)) hx (λ_w e=>hz.ext e) ho hi hb
def LdV(P:Program)(T:TypeId)(m:Nat):Prop:=∀(w:World) (g:Nat) (vs:List Value),vs.length=m->Bk w g vs->(Instr.loadAt T (.pointer (some ⟨g,0,none⟩))).run P w=.ok (.agg vs.toArray) w
theorem lvV{T g m:Nat}{x:Operand}{vs:List Value}(B:Bk w0 g vs)(hT:LdV P T m)(hx:Od ops ds a0 w0 L i x (IsP g 0))(hl:vs.length=m:=by rfl)(ho:o.op=.load T x:=by rfl)
  (hi:L.getD i (λ_ _=>True)=IsV (.agg vs.toArray):=by kernel_rfl) (hb:boxes.contains i=false:=by kernel_rfl):Ok P ops Q ds a0 w0 L boxes i o:=
 lv _ (λw e=>hT w g vs hl (B.ext e)) hx (λ_ _=>rfl) ho hi hb
def LdC1(P:Program)(T:TypeId):Prop:=∀(w:World) (a:Addr) (v:Value),w.cell? a=some v->(Instr.loadAt T (.pointer (some a))).run P w=.ok v w
theorem lvC(f:Nat){T g:Nat}{x:Operand}{vs:List Value}{u:Value}(B:Bk w0 g vs)(hT:LdC1 P T)(hx:Od ops ds a0 w0 L i x (IsP g f))(h0:vs[f]? =some u:=by rfl)(ho:o.op=.load T x:=by rfl)
  (hi:L.getD i (λ_ _=>True)=IsV u:=by kernel_rfl) (hb:boxes.contains i=false:=by kernel_rfl):Ok P ops Q ds a0 w0 L boxes i o:=
 lv _ (λw e=>hT w _ u ((B.ext e).c f _ h0)) hx (λ_ _=>rfl) ho hi hb
theorem layL_defers(v:Nat->Value):∀(ds:List (Option Tmp)) (a:Act) (k:Nat),(qZ v a k ds).defers=a.defers
 | [],_,_=>rfl
 | d ::ds,a,k=>by
  unfold qZ;rw[layL_defers v ds];cases d <;> rfl
theorem RcP{f:FuncId}{c:Call}{x:Operand}{fP:Value->World->Prop}(he:∀args w,(callFunc f args).run P w=.ok (.enter f args) w)(hx:Od ops ds a0 w0 L i x fP)
  (h:∀u w,Ext w0 w->fP u w->Calls P f #[u] w λe w'=>∃ch,e=.panicked ch/\∀a:Act,a.defers=a0.defers->Q (.panic ch) a w')
  (hs:RgAll P .any ops Q ds a0 w0 L boxes (i+1) k os)
  (ho:o.op=.call c:=by rfl) (hc:c.callee=.value (.func f):=by rfl) (ha:c.args= #[x]:=by rfl) (hg:o.guard=none:=by rfl):RgAll P .any ops Q ds a0 w0 L boxes i (k+1) (o ::os):=by
 refine⟨?_,hs⟩;intro v w hE hd K hK;rw[if_pos (by simp[Region.wanted,hg])];have hf:=Fr.of ds a0 v
 have hr:(execOp (qZ v a0 0 ds).eval o).run P w=.ok (.enter f (c.args.map (qZ v a0 0 ds).eval)) w:=by
  unfold execOp;rw[ho];dsimp only;unfold resolve;rw[hc];simp[invoke,he,Deferred.ofValue,show(qZ v a0 0 ds).eval (.func f)=.func (.func f) #[] #[]from rfl]
 unfold Oper.wp;rw[hr,Oper.upon_enter,ha,show(#[x]:Array Operand).map (qZ v a0 0 ds).eval= #[(qZ v a0 0 ds).eval x]by simp];refine jC (h _ w hE (hx.out v _ w hE hd hf)) ?_;rintro e w2 ⟨ch,rfl,hq⟩;exact hq _ (layL_defers v ds a0 0)
theorem bkn{x y:Operand}{T k1:Nat}{z1 z2:Int}(hx:Od ops ds a0 w0 L i x (IsI k1 z1))(hy:Od ops ds a0 w0 L i y (IsI k1 z2))
  (hT:∀(w:World) (s:Bool) (b:Option Addr) (n c:Nat) (s':Bool) (b':Option Addr) (n' c':Nat),(Instr.build T #[(0,.agg #[.bool s,.slice b n c]),(1,.agg #[.bool s',.slice b' n' c'])]).run P w=.ok (.agg #[.bool s,.slice b n c,.bool s',.slice b' n' c',.bool false]) w)
  (ho:o.op=.build T #[(0,x),(1,y)]:=by rfl) (hi:L.getD i (λ_ _=>True)=IsKn k1 z1 z2 false:=by kernel_rfl) (hb:boxes.contains i=false:=by kernel_rfl):Ok P ops Q ds a0 w0 L boxes i o:=
 Ok.of hb λv a w hE hd hf=>by
  obtain⟨s,b,n,c,e1,h1⟩:=hx.out v a w hE hd hf;obtain⟨s',b',n',c',e2,h2⟩:=hy.out v a w hE hd hf;exact⟨_,bd_run ho e1 e2 (hT w _ _ _ _ _ _ _ _),by rw[hi];exact⟨_,_,_,_,_,_,_,_,rfl,⟨_,_,_,_,rfl,h1⟩,⟨_,_,_,_,rfl,h2⟩⟩⟩
theorem bd3_run{x y z:Operand}{T:Nat}{a:Act}{p q r u:Value}{w:World}(ho:o.op=.build T #[(0,x),(1,y),(2,z)])(h:a.eval x=p)(h':a.eval y=q)(h2:a.eval z=r)(hr:(Instr.build T #[(0,p),(1,q),(2,r)]).run P w=.ok u w):(execOp a.eval o).run P w=.ok (.value u) w:=by
 unfold execOp;rw[ho];dsimp only;simp only[List.map_toArray,List.map_cons,List.map_nil];rw[h,h',h2];simp[hr]
theorem bkf{x y z:Operand}{T k1:Nat}{z1 z2:Int}{f:Bool}(hx:Od ops ds a0 w0 L i x (IsI k1 z1))(hy:Od ops ds a0 w0 L i y (IsI k1 z2))(hz:Od ops ds a0 w0 L i z (IsV (.bool f)))
  (hT:∀(w:World) (s:Bool) (b:Option Addr) (n c:Nat) (s':Bool) (b':Option Addr) (n' c':Nat) (f:Bool),(Instr.build T #[(0,.agg #[.bool s,.slice b n c]),(1,.agg #[.bool s',.slice b' n' c']),(2,.bool f)]).run P w=.ok (.agg #[.bool s,.slice b n c,.bool s',.slice b' n' c',.bool f]) w)
  (ho:o.op=.build T #[(0,x),(1,y),(2,z)]:=by rfl) (hi:L.getD i (λ_ _=>True)=IsKn k1 z1 z2 f:=by kernel_rfl) (hb:boxes.contains i=false:=by kernel_rfl):Ok P ops Q ds a0 w0 L boxes i o:=
 Ok.of hb λv a w hE hd hf=>by
  obtain⟨s,b,n,c,e1,h1⟩:=hx.out v a w hE hd hf;obtain⟨s',b',n',c',e2,h2⟩:=hy.out v a w hE hd hf;exact⟨_,bd3_run ho e1 e2 (hz.out v a w hE hd hf) (hT w _ _ _ _ _ _ _ _ _),by rw[hi];exact⟨_,_,_,_,_,_,_,_,rfl,⟨_,_,_,_,rfl,h1⟩,⟨_,_,_,_,rfl,h2⟩⟩⟩
def StV(P:Program)(T:TypeId)(m:Nat):Prop:=∀(w:World) (g:Nat) (vs us:List Value),vs.length=m->us.length=m->us.all (λu=>u.oneCell')=true->Bk w g vs->(Instr.storeAt T (.pointer (some ⟨g,0,none⟩)) (.agg us.toArray)).run P w=.ok () (xD w g 0 us)
theorem stV{w W:World}{g m:Nat}{vs us:List Value}{a:Act}{K:Act->World->Prop}{T:Nat}{x y:Operand}(B:Bk W g vs)(hT:StV P T m)(hl:vs.length=m)(hl':us.length=m)(hn:∀v∈vs,NoWord v)(E:Ext w W)(hg:w.heap.size<=g)
  (h:∀W',Bk W' g us->Ext w W'->Gr W W'->(∀g' vs',g'≠g->Bk W g' vs'->Bk W' g' vs')->W'.heap.size=W.heap.size->K a W')
  (ho:o.op=.store T x y:=by rfl) (hd:o.dst=none:=by rfl) (hx:a.eval x=.pointer (some ⟨g,0,none⟩):=by kernel_rfl) (hy:a.eval y=.agg us.toArray:=by kernel_rfl) (ho1:us.all (λu=>u.oneCell')=true:=by rfl):Oper.wp P o a W K Q:=by
 obtain⟨W',h1,h2,h3,h4,h5,h6⟩:=B.put (us:=us) zb hn E hg;refine st_wp ho hx hy (hT W g vs us hl hl' ho1 B) ?_;rw[h1,hd];exact h W' h2 h3 h4 h5 h6
end
theorem nw5{s:Bool}{a:Option Addr}{n c:Nat}{s':Bool}{a':Option Addr}{n' c':Nat}{f:Bool}:∀v∈ [Value.bool s,.slice a n c,.bool s',.slice a' n' c',.bool f],NoWord v:=by
 intro v hv;simp only[List.mem_cons,List.not_mem_nil,or_false]at hv;rcases hv with rfl|rfl|rfl|rfl|rfl
 ·exact NoWord.bool _
 ·exact NoWord.slice _ _ _
 ·exact NoWord.bool _
 ·exact NoWord.slice _ _ _
 ·exact NoWord.bool _
theorem nw2{s:Bool}{a:Option Addr}{n c:Nat}:∀v∈ [Value.bool s,.slice a n c],NoWord v:=by
 intro v hv;simp only[List.mem_cons,List.not_mem_nil,or_false]at hv;rcases hv with rfl|rfl
 ·exact NoWord.bool _
 ·exact NoWord.slice _ _ _
set_option maxRecDepth 100000
theorem xL:StV prog 176 5:=by
 intro w g vs us h1 h2 hs B
 match vs,h1 with
 | [v0,v1,v2,v3,v4],_=>
  match us,h2 with
  | [u0,u1,u2,u3,u4],_=>
   simp only[List.all_cons,List.all_nil,Bool.and_true,Bool.and_eq_true]at hs;obtain⟨s0,s1,s2,s3,s4⟩:=hs;have r0:=λw a m=>run_store prog w a u0 m s0;have r1:=λw a m=>run_store prog w a u1 m s1;have r2:=λw a m=>run_store prog w a u2 m s2;have r3:=λw a m=>run_store prog w a u3 m s3;have r4:=λw a m=>run_store prog w a u4 m s4
   have c0:=B.c 0 _ rfl;have c1:=B.c 1 _ rfl;have c2:=B.c 2 _ rfl;have c3:=B.c 3 _ rfl;have c4:=B.c 4 _ rfl;have f0:=B.f 0;have f1:=B.f 1;have f2:=B.f 2;have f3:=B.f 3;have f4:=B.f 4;clear B s0 s1 s2 s3 s4;simp only[xD]
   go_simp
theorem st_In:StV prog 28 2:=by
 intro w g vs us h1 h2 hs B
 match vs,h1 with
 | [v0,v1],_=>
  match us,h2 with
  | [u0,u1],_=>
   simp only[List.all_cons,List.all_nil,Bool.and_true,Bool.and_eq_true]at hs;obtain⟨s0,s1⟩:=hs;have r0:=λw a m=>run_store prog w a u0 m s0;have r1:=λw a m=>run_store prog w a u1 m s1
   have c0:=B.c 0 _ rfl;have c1:=B.c 1 _ rfl;have f0:=B.f 0;have f1:=B.f 1;clear B s0 s1;simp only[xD]
   go_simp
theorem ld_Kn:LdV prog 176 5:=by
 intro w g vs h1 B
 match vs,h1 with
 | [v0,v1,v2,v3,v4],_=>
  have c0:=B.c 0 _ rfl;have c1:=B.c 1 _ rfl;have c2:=B.c 2 _ rfl;have c3:=B.c 3 _ rfl;have c4:=B.c 4 _ rfl;clear B
  go_simp
theorem bd_Kn(w:World)(s:Bool)(b:Option Addr)(n c:Nat)(s':Bool)(b':Option Addr)(n' c':Nat):(Instr.build 176 #[(0,.agg #[.bool s,.slice b n c]),(1,.agg #[.bool s',.slice b' n' c'])]).run prog w=.ok (.agg #[.bool s,.slice b n c,.bool s',.slice b' n' c',.bool false]) w:=by go_simp
theorem bd_Kn3(w:World)(s:Bool)(b:Option Addr)(n c:Nat)(s':Bool)(b':Option Addr)(n' c':Nat)(f:Bool):(Instr.build 176 #[(0,.agg #[.bool s,.slice b n c]),(1,.agg #[.bool s',.slice b' n' c']),(2,.bool f)]).run prog w=.ok (.agg #[.bool s,.slice b n c,.bool s',.slice b' n' c',.bool f]) w:=by go_simp
theorem qQ(g f:Nat)(w:World):(Instr.fieldAt 176 (.pointer (some ⟨g,f,none⟩)) 0).run prog w=.ok (.pointer (some ⟨g,f,none⟩)) w:=by go_simp
theorem qP(g f:Nat)(w:World):(Instr.fieldAt 176 (.pointer (some ⟨g,f,none⟩)) 1).run prog w=.ok (.pointer (some ⟨g,f+2,none⟩)) w:=by go_simp
theorem fa_Kn2(g f:Nat)(w:World):(Instr.fieldAt 176 (.pointer (some ⟨g,f,none⟩)) 2).run prog w=.ok (.pointer (some ⟨g,f+4,none⟩)) w:=by go_simp
end
section
open Go Go.RowKit
open Go.Proofs.Tryz
theorem zaw{P:Prop}(h:P:=by exact⟨_,rfl,((((Sto.start w).new1 (w.heap.size) zd s1 a1 n1 c1 28 (IsI k z1) (IsI.gstb _ _) (h1)).new1 (w.heap.size+1) zd s2 a2 n2 c2 28 (IsI k z2) (IsI.gstb _ _) (h2.ext ((Ext.refl _).alloc _))).new1 (w.heap.size+1+1) zd false none 0 0 28 (IsI 0 0) (IsI.gstb _ _) (IsI.nil _ _))⟩):P:=h
theorem za6{P:Prop}(h:P:=by exact cl2 (en func150) (qA (fP:=IsI k z2) 0 5) (qA (fP:=IsI k z1) 1 6) (λx0 x1 w' hE d0 d1=>jC (Cmp_f d0 d1 ze ze) λ_ _ h=>h.int HC.out)):P:=h
theorem ze{P:Prop}(h:P:=by have:=HK.out;omega):P:=h
theorem jv{P:Prop}(h:P:=by exact ldI S 1 (w.heap.size+1) 0 (qB 3) qE):P:=h
theorem yx{P:Prop}(h:P:=by unfold qJ;(repeat' split) <;> omega):P:=h
theorem xn{P:Prop}(h:P:=by exact cl1 (en func190) (qA (fP:=IsI k lo) 1 4) (λx0 w' hE d0=>jC (Bits_f d0 HK.out) λ_ _ h=>h.int H1.out)):P:=h
theorem xo{P:Prop}(h:P:=by exact cl1 (en func190) (qA (fP:=IsI k hi) 4 7) (λx0 w' hE d0=>jC (Bits_f d0 HK.out) λ_ _ h=>h.int H2.out)):P:=h
theorem xw{P:Prop}(h:P:=by exact cl1 (en func110) qF (λx0 w' hE d0=>by{obtain rfl:x0=.int .i64 1:=d0;exact of_f w' 1 dcx})):P:=h
theorem xy{P:Prop}(h:P:=by exact cl1 (en func110) qF (λx0 w' hE d0=>by{obtain rfl:x0=.int .i64 0:=d0;exact of_f w' 0 dcx})):P:=h
set_option maxRecDepth 100000
set_option maxHeartbeats 4000000
theorem of_f(w:World)(z:Int)(hz: -9223372036854775808<=z/\z<=9223372036854775807):Calls prog 110 #[.int .i64 z] w (Ret w (IsI 2 z)):=by
 have HZ:=hid hz;clear hz;obtain⟨W,hW,S⟩:∃W,W=w.alloc (.cells #[.bool false,.slice none 0 0] 28)/\Sto w W [((w.heap.size,0),IsI 0 0)]:=⟨_,rfl,((Sto.start w).new1 (w.heap.size) zd false none 0 0 28 (IsI 0 0) (IsI.gstb _ _) (IsI.nil _ _))⟩;go_enter func110,ntmps110;go_upto_region 1 with fail;rw[<-hW];clear hW;refine rgs 2 [some 3,some 4] [iV z,IsI 2 z] [] ?_ ?_
 ·refine Rc zt ?_;refine Rc (cl1 (en func108) (qA (fP:=iV z) 0 3) (λx0 w' hE d0=>by{obtain rfl:x0=.int .i64 z:=d0;exact Of_f _ z HZ.out.1 HZ.out.2})) ?_;exact rn0
 intro v W1 e1 hZ _;replace S:=S.mono e1;have h4:=hZ 1 dcx;simp only[lxE,Nat.reduceAdd];clear hZ e1
 try simp only[dxE]
 (with_reducible refine stL ?_ zbq);intro KK hKK;refine stI S 0 (w.heap.size) 0 h4 st_Int (λW1a S2 G2=>hKK _ _ ?_) rfl
 replace S:=S2;clear S2 G2 hKK KK h4;simp only[u0x]at S;refine jE ?_;go_wp2_with fail;obtain⟨s90x,a90x,n90x,c90x,b90x,h90x⟩:=S.at 0 (w.heap.size) 0 (IsI 2 z) rfl;have L90xa:World.cell? W1a ⟨w.heap.size,0,none⟩=some (.bool s90x):=b90x.c0;have L90xb:World.cell? W1a ⟨w.heap.size,1,none⟩=some (.slice a90x n90x c90x):=b90x.c1;exact jD (v:=.agg #[.bool s90x,.slice a90x n90x c90x]) (by simp[results,results110,go_sem,L90xa,L90xb]) rfl (⟨_,rfl,S.ext,h90x⟩)
theorem tEv2_2{P:Prop}(h:P:=by
  exact jD (v:=.agg #[.bool s90x,.slice a90x n90x c90x]) (by simp[results,results144,go_sem,L90xa,L90xb]) rfl (⟨_,rfl,S.ext,h90x⟩)
  ):P:=h
theorem lessv_y{k:Nat}{z1 z2 c:Int}{x y:Value}{w:World}(hx:IsI k z1 x w)(hy:IsI k z2 y w)(HK:Hid (k<=268435456))(HC:Hid (qJ z2 z1=c))(HB:Hid (c<0)):Calls prog 144 #[x,y] w (Ret w (IsI k z2)):=by
 obtain⟨s1,a1,n1,c1,rfl,h1⟩:=hx;have h1:IsI _ _ _ w:=⟨_,_,_,_,rfl,h1⟩;obtain⟨s2,a2,n2,c2,rfl,h2⟩:=hy;have h2:IsI _ _ _ w:=⟨_,_,_,_,rfl,h2⟩;obtain⟨W,hW,S⟩:∃W,W=((w.alloc (.cells #[.bool s1,.slice a1 n1 c1] 28)).alloc (.cells #[.bool s2,.slice a2 n2 c2] 28)).alloc (.cells #[.bool false,.slice none 0 0] 28)/\Sto w W [((w.heap.size+1+1,0),IsI 0 0),((w.heap.size+1,0),IsI k z2),((w.heap.size,0),IsI k z1)]:=zaw;clear h1 h2;go_enter func144,ntmps144;go_upto_region 1 with fail;rw[<-hW];clear hW;refine rgt S 4 (dR 5 4) [IsI k z2,IsI k z1,iV c,IsV (.bool true)] ?_ ?_
 ·refine Rc jv ?_;refine Rc jl ?_;refine Rc za6 ?_;refine Rc (bn (r:=.bool true) (qC 2 7) qF (hr:=λw=>by have hx9:=HB.out;go_simp)) ?_;exact rn0
 intro v W1 S hZ;simp only[lxE,Nat.reduceAdd];rw[show v 3=.bool true from hZ 3 dcx];clear hZ;go_upto_region 2 with fail;refine rgs 1 [some 9] [IsI k z2] [] ?_ ?_
 ·refine Rc jv ?_;exact rn0
 intro v W2 e1 hZ _;replace S:=S.mono e1;have h9:=hZ 0 dcx;simp only[lxE];clear hZ e1
 try simp only[dxE]
 (with_reducible refine stL ?_ zbq);intro KK hKK;refine stI S 0 (w.heap.size+1+1) 0 h9 st_Int (λW2a S2 G2=>hKK _ _ ?_) rfl
 replace S:=S2;clear S2 G2 hKK KK h9;simp only[u0x]at S;refine jE ?_;go_wp2_with fail;obtain⟨s90x,a90x,n90x,c90x,b90x,h90x⟩:=S.at 0 (w.heap.size+1+1) 0 (IsI k z2) rfl;have L90xa:World.cell? W2a ⟨w.heap.size+1+1,0,none⟩=some (.bool s90x):=b90x.c0;have L90xb:World.cell? W2a ⟨w.heap.size+1+1,1,none⟩=some (.slice a90x n90x c90x):=b90x.c1;exact tEv2_2
theorem lessv_n{k:Nat}{z1 z2 c:Int}{x y:Value}{w:World}(hx:IsI k z1 x w)(hy:IsI k z2 y w)(HK:Hid (k<=268435456))(HC:Hid (qJ z2 z1=c))(HB:Hid (¬c<0)):Calls prog 144 #[x,y] w (Ret w (IsI k z1)):=by
 obtain⟨s1,a1,n1,c1,rfl,h1⟩:=hx;have h1:IsI _ _ _ w:=⟨_,_,_,_,rfl,h1⟩;obtain⟨s2,a2,n2,c2,rfl,h2⟩:=hy;have h2:IsI _ _ _ w:=⟨_,_,_,_,rfl,h2⟩;obtain⟨W,hW,S⟩:∃W,W=((w.alloc (.cells #[.bool s1,.slice a1 n1 c1] 28)).alloc (.cells #[.bool s2,.slice a2 n2 c2] 28)).alloc (.cells #[.bool false,.slice none 0 0] 28)/\Sto w W [((w.heap.size+1+1,0),IsI 0 0),((w.heap.size+1,0),IsI k z2),((w.heap.size,0),IsI k z1)]:=zaw;clear h1 h2;go_enter func144,ntmps144;go_upto_region 1 with fail;rw[<-hW];clear hW;refine rgt S 4 (dR 5 4) [IsI k z2,IsI k z1,iV c,IsV (.bool false)] ?_ ?_
 ·refine Rc jv ?_;refine Rc jl ?_;refine Rc za6 ?_;refine Rc (bn (r:=.bool false) (qC 2 7) qF (hr:=λw=>by have hx9:=HB.out;go_simp)) ?_;exact rn0
 intro v W1 S hZ;simp only[lxE,Nat.reduceAdd];rw[show v 3=.bool false from hZ 3 dcx];clear hZ;go_upto_region 3 with fail;refine rgs 1 [some 10] [IsI k z1] [] ?_ ?_
 ·refine Rc jl ?_;exact rn0
 intro v W3 e1 hZ _;replace S:=S.mono e1;have h10:=hZ 0 dcx;simp only[lxE];clear hZ e1
 try simp only[dxE]
 (with_reducible refine stL ?_ zbq);intro KK hKK;refine stI S 0 (w.heap.size+1+1) 0 h10 st_Int (λW3a S2 G2=>hKK _ _ ?_) rfl
 replace S:=S2;clear S2 G2 hKK KK h10;simp only[u0x]at S;refine jE ?_;go_wp2_with fail;obtain⟨s90x,a90x,n90x,c90x,b90x,h90x⟩:=S.at 0 (w.heap.size+1+1) 0 (IsI k z1) rfl;have L90xa:World.cell? W3a ⟨w.heap.size+1+1,0,none⟩=some (.bool s90x):=b90x.c0;have L90xb:World.cell? W3a ⟨w.heap.size+1+1,1,none⟩=some (.slice a90x n90x c90x):=b90x.c1;exact tEv2_2
theorem lessv_f{k:Nat}{z1 z2:Int}{x y:Value}{w:World}(hx:IsI k z1 x w)(hy:IsI k z2 y w)(hk:k<=268435456):Calls prog 144 #[x,y] w (Ret w (IsI k (min z1 z2))):=by
 by_cases h:z2<z1
 ·rw[show min z1 z2=z2 by omega];exact lessv_y hx hy (hid hk) (hid rfl) (hid yx)
 ·rw[show min z1 z2=z1 by omega];exact lessv_n hx hy (hid hk) (hid rfl) (hid yx)
theorem tEv2_3{P:Prop}(h:P:=by
  exact jD (v:=.agg #[.bool s90x,.slice a90x n90x c90x]) (by simp[results,results145,go_sem,L90xa,L90xb]) rfl (⟨_,rfl,S.ext,h90x⟩)
  ):P:=h
theorem greaterv_y{k:Nat}{z1 z2 c:Int}{x y:Value}{w:World}(hx:IsI k z1 x w)(hy:IsI k z2 y w)(HK:Hid (k<=268435456))(HC:Hid (qJ z2 z1=c))(HB:Hid (0<c)):Calls prog 145 #[x,y] w (Ret w (IsI k z2)):=by
 obtain⟨s1,a1,n1,c1,rfl,h1⟩:=hx;have h1:IsI _ _ _ w:=⟨_,_,_,_,rfl,h1⟩;obtain⟨s2,a2,n2,c2,rfl,h2⟩:=hy;have h2:IsI _ _ _ w:=⟨_,_,_,_,rfl,h2⟩;obtain⟨W,hW,S⟩:∃W,W=((w.alloc (.cells #[.bool s1,.slice a1 n1 c1] 28)).alloc (.cells #[.bool s2,.slice a2 n2 c2] 28)).alloc (.cells #[.bool false,.slice none 0 0] 28)/\Sto w W [((w.heap.size+1+1,0),IsI 0 0),((w.heap.size+1,0),IsI k z2),((w.heap.size,0),IsI k z1)]:=zaw;clear h1 h2;go_enter func145,ntmps145;go_upto_region 1 with fail;rw[<-hW];clear hW;refine rgt S 4 (dR 5 4) [IsI k z2,IsI k z1,iV c,IsV (.bool true)] ?_ ?_
 ·refine Rc jv ?_;refine Rc jl ?_;refine Rc za6 ?_;refine Rc (bn (r:=.bool true) (qC 2 7) qF (hr:=λw=>by have hx9:=HB.out;go_simp)) ?_;exact rn0
 intro v W1 S hZ;simp only[lxE,Nat.reduceAdd];rw[show v 3=.bool true from hZ 3 dcx];clear hZ;go_upto_region 2 with fail;refine rgs 1 [some 9] [IsI k z2] [] ?_ ?_
 ·refine Rc jv ?_;exact rn0
 intro v W2 e1 hZ _;replace S:=S.mono e1;have h9:=hZ 0 dcx;simp only[lxE];clear hZ e1
 try simp only[dxE]
 (with_reducible refine stL ?_ zbq);intro KK hKK;refine stI S 0 (w.heap.size+1+1) 0 h9 st_Int (λW2a S2 G2=>hKK _ _ ?_) rfl
 replace S:=S2;clear S2 G2 hKK KK h9;simp only[u0x]at S;refine jE ?_;go_wp2_with fail;obtain⟨s90x,a90x,n90x,c90x,b90x,h90x⟩:=S.at 0 (w.heap.size+1+1) 0 (IsI k z2) rfl;have L90xa:World.cell? W2a ⟨w.heap.size+1+1,0,none⟩=some (.bool s90x):=b90x.c0;have L90xb:World.cell? W2a ⟨w.heap.size+1+1,1,none⟩=some (.slice a90x n90x c90x):=b90x.c1;exact tEv2_3
theorem greaterv_n{k:Nat}{z1 z2 c:Int}{x y:Value}{w:World}(hx:IsI k z1 x w)(hy:IsI k z2 y w)(HK:Hid (k<=268435456))(HC:Hid (qJ z2 z1=c))(HB:Hid (¬0<c)):Calls prog 145 #[x,y] w (Ret w (IsI k z1)):=by
 obtain⟨s1,a1,n1,c1,rfl,h1⟩:=hx;have h1:IsI _ _ _ w:=⟨_,_,_,_,rfl,h1⟩;obtain⟨s2,a2,n2,c2,rfl,h2⟩:=hy;have h2:IsI _ _ _ w:=⟨_,_,_,_,rfl,h2⟩;obtain⟨W,hW,S⟩:∃W,W=((w.alloc (.cells #[.bool s1,.slice a1 n1 c1] 28)).alloc (.cells #[.bool s2,.slice a2 n2 c2] 28)).alloc (.cells #[.bool false,.slice none 0 0] 28)/\Sto w W [((w.heap.size+1+1,0),IsI 0 0),((w.heap.size+1,0),IsI k z2),((w.heap.size,0),IsI k z1)]:=zaw;clear h1 h2;go_enter func145,ntmps145;go_upto_region 1 with fail;rw[<-hW];clear hW;refine rgt S 4 (dR 5 4) [IsI k z2,IsI k z1,iV c,IsV (.bool false)] ?_ ?_
 ·refine Rc jv ?_;refine Rc jl ?_;refine Rc za6 ?_;refine Rc (bn (r:=.bool false) (qC 2 7) qF (hr:=λw=>by have hx9:=HB.out;go_simp)) ?_;exact rn0
 intro v W1 S hZ;simp only[lxE,Nat.reduceAdd];rw[show v 3=.bool false from hZ 3 dcx];clear hZ;go_upto_region 3 with fail;refine rgs 1 [some 10] [IsI k z1] [] ?_ ?_
 ·refine Rc jl ?_;exact rn0
 intro v W3 e1 hZ _;replace S:=S.mono e1;have h10:=hZ 0 dcx;simp only[lxE];clear hZ e1
 try simp only[dxE]
 (with_reducible refine stL ?_ zbq);intro KK hKK;refine stI S 0 (w.heap.size+1+1) 0 h10 st_Int (λW3a S2 G2=>hKK _ _ ?_) rfl
 replace S:=S2;clear S2 G2 hKK KK h10;simp only[u0x]at S;refine jE ?_;go_wp2_with fail;obtain⟨s90x,a90x,n90x,c90x,b90x,h90x⟩:=S.at 0 (w.heap.size+1+1) 0 (IsI k z1) rfl;have L90xa:World.cell? W3a ⟨w.heap.size+1+1,0,none⟩=some (.bool s90x):=b90x.c0;have L90xb:World.cell? W3a ⟨w.heap.size+1+1,1,none⟩=some (.slice a90x n90x c90x):=b90x.c1;exact tEv2_3
theorem greaterv_f{k:Nat}{z1 z2:Int}{x y:Value}{w:World}(hx:IsI k z1 x w)(hy:IsI k z2 y w)(hk:k<=268435456):Calls prog 145 #[x,y] w (Ret w (IsI k (max z1 z2))):=by
 by_cases h:z1<z2
 ·rw[show max z1 z2=z2 by omega];exact greaterv_y hx hy (hid hk) (hid rfl) (hid yx)
 ·rw[show max z1 z2=z1 by omega];exact greaterv_n hx hy (hid hk) (hid rfl) (hid yx)
theorem exact_f{k:Nat}{z:Int}{x:Value}{w:World}(hx:IsI k z x w):Calls prog 109 #[x] w (Ret w (IsKn k z z true)):=by
 obtain⟨s,a,n,c,rfl,h⟩:=hx
 obtain⟨W,hW,E,B1,B2⟩:∃W,W=(w.alloc (.cells #[.bool s,.slice a n c] 28)).alloc (.cells #[.bool false,.slice none 0 0,.bool false,.slice none 0 0,.bool false] 176)/\Ext w W/\Bk W w.heap.size [.bool s,.slice a n c]/\Bk W (w.heap.size+1) [.bool false,.slice none 0 0,.bool false,.slice none 0 0,.bool false]:=
  ⟨_,rfl,((Ext.refl w).alloc _).alloc _,(Bk.new w _ _).ext ((Ext.refl _).alloc _),Bk.newE _ _ zd _ _⟩
 have h1:IsI k z (.agg #[.bool s,.slice a n c]) W:=⟨_,_,_,_,rfl,h.ext E⟩;clear h;go_enter func109,ntmps109;go_upto_region 1 with fail;rw[<-hW];clear hW;refine rgs 3 (dR 3 3) [IsI k z,IsI k z,IsKn k z z true] [] ?_ ?_
 ·refine Rc (lvI 0 B1 h1 qE (qB 1)) ?_;refine Rc (lvI 0 B1 h1 qE (qB 1)) ?_;refine Rc (bkf (qC 0 3) (qC 1 4) qF bd_Kn3) ?_;exact rn0
 intro v W1 e1 hZ _;replace E:=E.trans e1;replace B2:=B2.ext e1;obtain⟨s1,a1,n1,c1,s2,a2,n2,c2,hv,g1,g2⟩:=hZ 2 dcx;simp only[lxE,Nat.reduceAdd];rw[hv];clear hv hZ e1 B1 h1;refine stL λK hK=>?_
 refine stV (us:= [.bool s1,.slice a1 n1 c1,.bool s2,.slice a2 n2 c2,.bool true]) B2 xL rfl rfl nw5 E zb (λW1a B3 E2 G2 _ _=>hK _ _ ?_);refine jE ?_;have d0:=B3.c 0 _ rfl;have d1:=B3.c 1 _ rfl;have d2:=B3.c 2 _ rfl;have d3:=B3.c 3 _ rfl;have d4:=B3.c 4 _ rfl;go_wp2_with fail;exact jD (v:=.agg #[.bool s1,.slice a1 n1 c1,.bool s2,.slice a2 n2 c2,.bool true]) (by simp[results,results109,go_sem,d0,d1,d2,d3,d4]) rfl ⟨_,rfl,E2,_,_,_,_,_,_,_,_,rfl,IsI.gstb _ _ _ _ _ G2 g1,IsI.gstb _ _ _ _ _ G2 g2⟩
structure Kn where
 lo:Int
 hi:Int
 fin:Bool
abbrev IsK(k:Nat)(q:Kn):Value->World->Prop:=IsKn k q.lo q.hi q.fin
def qU(a b:Bool):Kn:=if a then⟨1,1,true⟩else if b then⟨0,0,true⟩else⟨0,1,false⟩
theorem box_kn(w:World):Bk (w.alloc (.cells #[.bool false,.slice none 0 0,.bool false,.slice none 0 0,.bool false] 176)) w.heap.size [.bool false,.slice none 0 0,.bool false,.slice none 0 0,.bool false]:=Bk.new w _ _
theorem tEv2_1{P:Prop}(h:P:=by
  refine jE ?_;have d0:=B3.c 0 _ rfl;have d1:=B3.c 1 _ rfl;have d2:=B3.c 2 _ rfl;have d3:=B3.c 3 _ rfl;have d4:=B3.c 4 _ rfl;go_wp2_with fail;exact jD (v:=.agg #[.bool s1,.slice a1 n1 c1,.bool s2,.slice a2 n2 c2,.bool true]) (by simp[results,results149,go_sem,d0,d1,d2,d3,d4]) rfl ⟨_,rfl,E2,_,_,_,_,_,_,_,_,rfl,IsI.gstb _ _ _ _ _ G2 g1,IsI.gstb _ _ _ _ _ G2 g2⟩
  ):P:=h
theorem truth_1(w:World)(b:Bool):Calls prog 149 #[.bool true,.bool b] w (Ret w (IsKn 2 1 1 true)):=by
 obtain⟨W,hW,E,B2⟩:∃W,W=w.alloc (.cells #[.bool false,.slice none 0 0,.bool false,.slice none 0 0,.bool false] 176)/\Ext w W/\Bk W w.heap.size [.bool false,.slice none 0 0,.bool false,.slice none 0 0,.bool false]:=
  ⟨_,rfl,(Ext.refl w).alloc _,box_kn w⟩
 go_enter func149,ntmps149;go_upto_region 2 with fail;rw[<-hW];clear hW;refine rgs 2 [some 7,some 8] [IsI 2 1,IsKn 2 1 1 true] [] ?_ ?_
 ·refine Rc xw ?_;refine Rc (cl1 (en func109) (qA (fP:=IsI 2 1) 0 7) (λx0 w' hE d0=>exact_f d0)) ?_;exact rn0
 intro v W2 e1 hZ _;replace E:=E.trans e1;replace B2:=B2.ext e1;obtain⟨s1,a1,n1,c1,s2,a2,n2,c2,hv,g1,g2⟩:=hZ 1 dcx;simp only[lxE,Nat.reduceAdd];rw[hv];clear hv hZ e1;refine stL λK hK=>?_
 refine stV (us:= [.bool s1,.slice a1 n1 c1,.bool s2,.slice a2 n2 c2,.bool true]) B2 xL rfl rfl nw5 E zb (λW2a B3 E2 G2 _ _=>hK _ _ ?_);exact tEv2_1
theorem truth_0(w:World):Calls prog 149 #[.bool false,.bool true] w (Ret w (IsKn 2 0 0 true)):=by
 obtain⟨W,hW,E,B2⟩:∃W,W=w.alloc (.cells #[.bool false,.slice none 0 0,.bool false,.slice none 0 0,.bool false] 176)/\Ext w W/\Bk W w.heap.size [.bool false,.slice none 0 0,.bool false,.slice none 0 0,.bool false]:=
  ⟨_,rfl,(Ext.refl w).alloc _,box_kn w⟩
 go_enter func149,ntmps149;go_upto_region 4 with fail;rw[<-hW];clear hW;refine rgs 2 [some 11,some 12] [IsI 2 0,IsKn 2 0 0 true] [] ?_ ?_
 ·refine Rc xy ?_;refine Rc (cl1 (en func109) (qA (fP:=IsI 2 0) 0 11) (λx0 w' hE d0=>exact_f d0)) ?_;exact rn0
 intro v W4 e1 hZ _;replace E:=E.trans e1;replace B2:=B2.ext e1;obtain⟨s1,a1,n1,c1,s2,a2,n2,c2,hv,g1,g2⟩:=hZ 1 dcx;simp only[lxE,Nat.reduceAdd];rw[hv];clear hv hZ e1;refine stL λK hK=>?_
 refine stV (us:= [.bool s1,.slice a1 n1 c1,.bool s2,.slice a2 n2 c2,.bool true]) B2 xL rfl rfl nw5 E zb (λW4a B3 E2 G2 _ _=>hK _ _ ?_);exact tEv2_1
theorem truth_n(w:World):Calls prog 149 #[.bool false,.bool false] w (Ret w (IsKn 2 0 1 false)):=by
 obtain⟨W,hW,E,B2⟩:∃W,W=w.alloc (.cells #[.bool false,.slice none 0 0,.bool false,.slice none 0 0,.bool false] 176)/\Ext w W/\Bk W w.heap.size [.bool false,.slice none 0 0,.bool false,.slice none 0 0,.bool false]:=
  ⟨_,rfl,(Ext.refl w).alloc _,box_kn w⟩
 go_enter func149,ntmps149;go_upto_region 5 with fail;rw[<-hW];clear hW;refine rgs 3 (dR 13 3) [IsI 2 0,IsI 2 1,IsKn 2 0 1 false] [] ?_ ?_
 ·refine Rc xy ?_;refine Rc xw ?_;refine Rc (bkn (qC 0 13) (qC 1 14) bd_Kn) ?_;exact rn0
 intro v W5 e1 hZ _;replace E:=E.trans e1;replace B2:=B2.ext e1;obtain⟨s1,a1,n1,c1,s2,a2,n2,c2,hv,g1,g2⟩:=hZ 2 dcx;simp only[lxE,Nat.reduceAdd];rw[hv];clear hv hZ e1;refine stL λK hK=>?_
 refine stV (us:= [.bool s1,.slice a1 n1 c1,.bool s2,.slice a2 n2 c2,.bool false]) B2 xL rfl rfl nw5 E zb (λW5a B3 E2 G2 _ _=>hK _ _ ?_);refine jE ?_;have d0:=B3.c 0 _ rfl;have d1:=B3.c 1 _ rfl;have d2:=B3.c 2 _ rfl;have d3:=B3.c 3 _ rfl;have d4:=B3.c 4 _ rfl;go_wp2_with fail;exact jD (v:=.agg #[.bool s1,.slice a1 n1 c1,.bool s2,.slice a2 n2 c2,.bool false]) (by simp[results,results149,go_sem,d0,d1,d2,d3,d4]) rfl ⟨_,rfl,E2,_,_,_,_,_,_,_,_,rfl,IsI.gstb _ _ _ _ _ G2 g1,IsI.gstb _ _ _ _ _ G2 g2⟩
theorem truth_f(w:World)(a b:Bool):Calls prog 149 #[.bool a,.bool b] w (Ret w (IsK 2 (qU a b))):=by
 cases a
 ·cases b
  ·exact truth_n w
  ·exact truth_0 w
 ·exact truth_1 w b
section
variable {P:Program} {ops:Array Oper} {Q:Exit->Act->World->Prop} {ds:List (Option Tmp)} {a0:Act} {w0:World} {L:List (Value->World->Prop)} {boxes:List Nat} {i k:Nat} {o:Oper} {os:List Oper}
theorem ok2{x y:Operand}{p q r:Value}(hx:Od ops ds a0 w0 L i x (IsV p))(hy:Od ops ds a0 w0 L i y (IsV q))(hr:∀(a:Act) (w:World),a.eval x=p->a.eval y=q->(execOp a.eval o).run P w=.ok (.value r) w)
  (hi:L.getD i (λ_ _=>True)=IsV r:=by kernel_rfl) (hb:boxes.contains i=false:=by kernel_rfl):Ok P ops Q ds a0 w0 L boxes i o:=
 Ok.of hb λv a w hE hd hf=>⟨r,hr a w (hx.out v a w hE hd hf) (hy.out v a w hE hd hf),by rw[hi];exact rfl⟩
end
theorem max_run{P:Program}{o:Oper}{a:Act}{w:World}{x y:Operand}{ts:Array TypeId}{p q:Int}(h1:a.eval x=.int .i64 p)(h2:a.eval y=.int .i64 q)(ho:o.op=.call {callee:=.builtin .max,args:= #[x,y],argTypes:=ts}):(execOp a.eval o).run P w=.ok (.value (.int .i64 (if q >p then q else p))) w:=by
 unfold execOp;rw[ho];dsimp only;unfold resolve;simp only[List.map_toArray,List.map_cons,List.map_nil,h1,h2];simp[invoke,Builtin.max_,Builtin.max2,go_sem]
theorem min_run{P:Program}{o:Oper}{a:Act}{w:World}{x y:Operand}{ts:Array TypeId}{p q:Int}(h1:a.eval x=.int .i64 p)(h2:a.eval y=.int .i64 q)(ho:o.op=.call {callee:=.builtin .min,args:= #[x,y],argTypes:=ts}):(execOp a.eval o).run P w=.ok (.value (.int .i64 (if q<p then q else p))) w:=by
 unfold execOp;rw[ho];dsimp only;unfold resolve;simp only[List.map_toArray,List.map_cons,List.map_nil,h1,h2];simp[invoke,Builtin.min_,Builtin.min2,go_sem]
def failV(n:Int):Value:=.iface 172 (.agg #[.int .i64 n])
def pan(n:Int):List PanicEntry:= [{v:=failV n,recovered:=false}]
theorem short_y{k:Nat}{lo hi m1 m2 r:Int}{f:Bool}{x:Value}{w:World}(hx:IsKn k lo hi f x w)(HK:Hid (k<=268435456))(H1:Hid (((bitLen lo.natAbs:Nat):Int)=m1))(H2:Hid (((bitLen hi.natAbs:Nat):Int)=m2))(HR:Hid ((if m2 >m1 then m2 else m1)=r))(HB:Hid (¬r >4096)):Calls prog 139 #[x] w (Ret w (IsKn k lo hi f)):=by
 obtain⟨s,a,n,c,s',a',n',c',rfl,h1,h2⟩:=hx
 obtain⟨W,hW,E,B1,B2⟩:∃W,W=(w.alloc (.cells #[.bool s,.slice a n c,.bool s',.slice a' n' c',.bool f] 176)).alloc (.cells #[.bool false,.slice none 0 0,.bool false,.slice none 0 0,.bool false] 176)/\Ext w W/\Bk W w.heap.size [.bool s,.slice a n c,.bool s',.slice a' n' c',.bool f]/\Bk W (w.heap.size+1) [.bool false,.slice none 0 0,.bool false,.slice none 0 0,.bool false]:=
  ⟨_,rfl,((Ext.refl w).alloc _).alloc _,(Bk.new w _ _).ext ((Ext.refl _).alloc _),Bk.newE _ _ zd _ _⟩
 replace h1:=h1.ext E;replace h2:=h2.ext E;go_enter func139,ntmps139;go_upto_region 1 with fail;rw[<-hW];clear hW;refine rg 8 (dR 3 8) [IsP (w.heap.size) 0,IsI k lo,iV m1,IsP (w.heap.size) 2,IsI k hi,iV m2,iV r,IsV (.bool false)] [] 0 ?_ ?_
 ·refine Rc (fa (qQ w.heap.size 0) (qB 1)) ?_;refine Rc (lvI 0 B1 h1 qE (qA 0 3)) ?_;refine Rc xn ?_;refine Rc (fa (qP w.heap.size 0) (qB 1)) ?_;refine Rc (lvI 2 B1 h2 qE (qA 3 6)) ?_;refine Rc xo ?_;refine Rc (ok2 (qC 2 5) (qC 5 8) (λa w h1 h2=>by rw[max_run h1 h2 rfl,HR.out])) ?_;refine Rc (bn (r:=.bool false) (qC 6 9) qF (hr:=λw=>by have hx9:=HB.out;go_simp)) ?_;exact rn0
 intro v W1 e1 hZ _;replace E:=E.trans e1;replace B1:=B1.ext e1;replace B2:=B2.ext e1;replace h1:=h1.ext e1;replace h2:=h2.ext e1;simp only[lxE,Nat.reduceAdd];rw[show v 7=.bool false from hZ 7 dcx];clear hZ e1;refine jL za ?_ _;go_upto_region 3 with fail;refine rgs 1 [some 13] [IsV (.agg #[.bool s,.slice a n c,.bool s',.slice a' n' c',.bool f])] [] ?_ ?_
 ·refine Rc (lvV B1 ld_Kn (qB 1)) ?_;exact rn0
 intro v W3 e1 hZ _;replace E:=E.trans e1;replace B2:=B2.ext e1;replace h1:=h1.ext e1;replace h2:=h2.ext e1;simp only[lxE];rw[show v 0=_ from hZ 0 dcx];clear hZ e1 B1;refine stL λK hK=>?_
 refine stV (us:= [.bool s,.slice a n c,.bool s',.slice a' n' c',.bool f]) B2 xL rfl rfl nw5 E zb (λW3a B3 E2 G2 _ _=>hK _ _ ?_);refine jE ?_;have d0:=B3.c 0 _ rfl;have d1:=B3.c 1 _ rfl;have d2:=B3.c 2 _ rfl;have d3:=B3.c 3 _ rfl;have d4:=B3.c 4 _ rfl;go_wp2_with fail;exact jD (v:=.agg #[.bool s,.slice a n c,.bool s',.slice a' n' c',.bool f]) (by simp[results,results139,go_sem,d0,d1,d2,d3,d4]) rfl ⟨_,rfl,E2,_,_,_,_,_,_,_,_,rfl,IsI.gstb _ _ _ _ _ G2 h1,IsI.gstb _ _ _ _ _ G2 h2⟩
theorem short_n{k:Nat}{lo hi m1 m2 r:Int}{f:Bool}{x:Value}{w:World}(hx:IsKn k lo hi f x w)(HK:Hid (k<=268435456))(H1:Hid (((bitLen lo.natAbs:Nat):Int)=m1))(H2:Hid (((bitLen hi.natAbs:Nat):Int)=m2))(HR:Hid ((if m2 >m1 then m2 else m1)=r))(HB:Hid (r >4096)):Calls prog 139 #[x] w (λe w'=>e=.panicked (pan 2)/\Ext w w'):=by
 obtain⟨s,a,n,c,s',a',n',c',rfl,h1,h2⟩:=hx
 obtain⟨W,hW,E,B1⟩:∃W,W=(w.alloc (.cells #[.bool s,.slice a n c,.bool s',.slice a' n' c',.bool f] 176)).alloc (.cells #[.bool false,.slice none 0 0,.bool false,.slice none 0 0,.bool false] 176)/\Ext w W/\Bk W w.heap.size [.bool s,.slice a n c,.bool s',.slice a' n' c',.bool f]:=
  ⟨_,rfl,((Ext.refl w).alloc _).alloc _,(Bk.new w _ _).ext ((Ext.refl _).alloc _)⟩
 replace h1:=h1.ext E;replace h2:=h2.ext E;go_enter func139,ntmps139;go_upto_region 1 with fail;rw[<-hW];clear hW;refine rg 8 (dR 3 8) [IsP (w.heap.size) 0,IsI k lo,iV m1,IsP (w.heap.size) 2,IsI k hi,iV m2,iV r,IsV (.bool true)] [] 0 ?_ ?_
 ·refine Rc (fa (qQ w.heap.size 0) (qB 1)) ?_;refine Rc (lvI 0 B1 h1 qE (qA 0 3)) ?_;refine Rc xn ?_;refine Rc (fa (qP w.heap.size 0) (qB 1)) ?_;refine Rc (lvI 2 B1 h2 qE (qA 3 6)) ?_;refine Rc xo ?_;refine Rc (ok2 (qC 2 5) (qC 5 8) (λa w h1 h2=>by rw[max_run h1 h2 rfl,HR.out])) ?_;refine Rc (bn (r:=.bool true) (qC 6 9) qF (hr:=λw=>by have hx9:=HB.out;go_simp)) ?_;exact rn0
 intro v W1 e1 hZ _;replace E:=E.trans e1;simp only[lxE,Nat.reduceAdd];rw[show v 7=.bool true from hZ 7 dcx];clear hZ e1;refine jL za ?_ _;go_wp2_with fail;exact⟨rfl,rfl,E⟩
end
end Go.Proofs.YtkeikfekkdplgaaGreatDoor
