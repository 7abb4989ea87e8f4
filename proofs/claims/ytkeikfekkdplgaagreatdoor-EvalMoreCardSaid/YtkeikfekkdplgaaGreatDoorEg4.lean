/- Lemmas. -/
import Derived.Test.YtkeikfekkdplgaaGreatDoorEv16
import Derived.Test.YtkeikfekkdplgaaGreatDoorEv6
import Derived.Test.YtkeikfekkdplgaaGreatDoorEv0
import Derived.Test.YtkeikfekkdplgaaGreatDoorEv8
import Derived.Deep.MidRow
namespace Go.Proofs.YtkeikfekkdplgaaGreatDoor
section
open Go Go.RowKit Go.Maps
open Go.Proofs.Tryz
set_option maxRecDepth 100000
set_option maxHeartbeats 8000000
def IsRw(B:Nat)(xs:List Value)(v:Value)(w:World):Prop:=∃ao c,v=.slice ao xs.length c/\(xs≠ []->∃g,ao=some ⟨g,0,none⟩/\B<=g/\∀j u,xs[j]? =some u->World.cell? w ⟨g,j,none⟩=some u)
theorem IsRw.ext{B:Nat}{l:List Value}{v:Value}{w w':World}(h:IsRw B l v w)(e:Ext w w'):IsRw B l v w':=by
 obtain⟨ao,c,h1,h2⟩:=h;exact⟨ao,c,h1,λhn=>let ⟨g,k1,k2,k3⟩:=h2 hn;⟨g,k1,k2,λj u hj=>e.cell (k3 j u hj)⟩⟩
theorem IsRw.stb(B:Nat)(l:List Value):Stb (IsRw B l):=λ_ _ _ e h=>h.ext e
instance (B:Nat) (l:List Value):StbC (IsRw B l):=⟨IsRw.stb B l⟩
theorem IsRw.ob{B g:Nat}{l:List Value}{v:Value}{w w':World}(h:IsRw B l v w)(e:Ob g w w')(hg:g<B):IsRw B l v w':=by
 obtain⟨ao,c,h1,h2⟩:=h;exact⟨ao,c,h1,λhn=>let ⟨g',k1,k2,k3⟩:=h2 hn;⟨g',k1,k2,λj u hj=>(World.cell?_of_block (w:=w) (a:=⟨g',j,none⟩) (e.block g' (World.block_lt_of_cell? w ⟨g',j,none⟩ (k3 j u hj)) zb)).trans (k3 j u hj)⟩⟩
theorem IsRw.mono{B B':Nat}{l:List Value}{v:Value}{w:World}(h:IsRw B l v w)(hb:B'<=B):IsRw B' l v w:=by
 obtain⟨ao,c,h1,h2⟩:=h;exact⟨ao,c,h1,λhn=>let ⟨g',k1,k2,k3⟩:=h2 hn;⟨g',k1,jK hb k2,k3⟩⟩
theorem IsRw.shape{B:Nat}{l:List Value}{v:Value}{w:World}(h:IsRw B l v w):∃a n c,v=.slice a n c:=let ⟨ao,c,h1,_⟩:=h;⟨ao,_,c,h1⟩
theorem IsRw.of{B:Nat}{T:TypeId}{xs:List Value}{v:Value}{w:World}(h:Own1 T B xs v w):IsRw B xs v w:=by
 obtain⟨ao,cp,h1,hn,hc,hl,hcells⟩:=Rwg.shape (e:=T) (k:=1) h;exact⟨ao,cp,h1,λhne=>let ⟨g,k1,k2,_,k3⟩:=hcells (λh0=>hne (List.eq_nil_of_length_eq_zero h0));⟨g,k1,k2,k3⟩⟩
abbrev leI':Int->Int->Bool:=λx y=>decide (x<=y)
def dS(l:List (List UInt8)):DU:=l.foldl (λD x=>D.put (.string x) (.lit (.bool true))) (.map [])
def dI(l:List Int):DU:=l.foldl (λD x=>D.put (.int .i64 x) (.lit (.bool true))) (.map [])
def ksL(l:List (List UInt8)):List (List UInt8):=(strKeys (dS l)).mergeSort leB
def zsL(l:List Int):List Int:=(intKeys (dI l)).mergeSort leI'
def ksV(l:List (List UInt8)):List Value:=(ksL l).map encStr
def zsV(l:List Int):List Value:=(zsL l).map (Value.int .i64)
abbrev Lg:=List (List UInt8)×List Int
def JG(SS:List (List UInt8))(SI:List Int)(h:Nat)(s:Lg)(w:World):Prop:=(∀x∈s.1,x∈SS)/\(∀x∈s.2,x∈SI)/\w.ownsMap prog 9 (plainElem prog 4) h SS.length (dS s.1)/\w.ownsMap prog 3 (plainElem prog 4) (h+1) SI.length (dI s.2)
theorem JG.blk{SS:List (List UInt8)}{SI:List Int}{h:Nat}:∀ {s:Lg} {w w':World},JG SS SI h s w->w'.heap[h]? =w.heap[h]? ->w'.heap[h+1]? =w.heap[h+1]? ->JG SS SI h s w':=by
 rintro⟨rd,hy⟩ w w' ⟨h1,h2,⟨es,clock,hb,F,hs,hD⟩,⟨es',clock',hb',F',hs',hD'⟩⟩ k1 k2;exact⟨h1,h2,⟨es,clock,k1.trans hb,F,hs,hD⟩,⟨es',clock',k2.trans hb',F',hs',hD'⟩⟩
theorem JG.inv(SS:List (List UInt8))(SI:List Int)(h:Nat):MapInv h (JG SS SI h):=λ_ _ _ j _ k1 k2=>j.blk k1 k2
theorem JG.ob{SS:List (List UInt8)}{SI:List Int}{h g:Nat}{s:Lg}{w w':World}(j:JG SS SI h s w)(e:Ob g w w')(h1:g≠h)(h2:g≠h+1):JG SS SI h s w':=
 j.blk (e.block h j.2.2.1.lt h1.symm) (e.block (h+1) j.2.2.2.lt h2.symm)
theorem JG.made(SS:List (List UInt8))(SI:List Int)(W:World)(cs:Array Value)(T:TypeId):JG SS SI W.heap.size ([], []) (((W.alloc (.map #[] 0)).alloc (.map #[] 0)).alloc (.cells cs T)):=by
 refine⟨λx hx=>(by simp at hx),λx hx=>(by simp at hx),(((World.ownsMap_made W _ _ _).alloc _).alloc _).mono (Nat.zero_le _),?_⟩;have:=((World.ownsMap_made (H:=Unit) (W.alloc (.map #[] 0)) prog 3 (plainElem prog 4)).alloc (.cells cs T)).mono (Nat.zero_le SI.length)
 simpa [dI]using this
theorem sortedS_c{b n:Nat}{D:List (List UInt8)}{w:World}(hn:n<=1000000)(hown:w.ownsMap prog 9 (plainElem prog 4) b n (dS D)):Calls prog 68 #[.map (some b)] w (λe w'=>Ext w w'/\∃v,e=.returned v/\IsRw w.heap.size (ksV D) v w'):=
 jC (sortedS_g hown hn) λ_e _w' h=>⟨h.1,let ⟨v,h2,h3⟩:=h.2;⟨v,h2,IsRw.of h3⟩⟩
theorem sortedI_c{b n:Nat}{D:List Int}{w:World}(hn:n<=1000000)(hown:w.ownsMap prog 3 (plainElem prog 4) b n (dI D)):Calls prog 67 #[.map (some b)] w (λe w'=>Ext w w'/\∃v,e=.returned v/\IsRw w.heap.size (zsV D) v w'/\∃a n c,v=.slice a n c):=
 jC (sortedI_g hown hn) λ_e _w' h=>⟨h.1,let ⟨v,h2,h3⟩:=h.2;⟨v,h2,IsRw.of h3,(IsRw.of h3).shape⟩⟩
theorem Eval_g{w:World}{us:List Value}{sa ca va ga:Option Addr}{sn sc cn cc vn vc gn gc:Nat}{s0:Nat}{res:Res Kn}{left:Nat}{SS:List (List UInt8)}{SI:List Int}{rd:List (List UInt8)}{hy:List Int}(hl:us.length=8)(hs:s0<=100000)(hSS:SS.length<=1000000)(hSI:SI.length<=1000000)
  (HC:Hid (∀(h:Nat) (w':World),w.heap.size<=h->Ext w w'->MAt ⟨h,.slice ca cn cc,.slice va vn vc,.slice sa sn sc,.slice ga gn gc⟩ s0 w'->JG SS SI h ([], []) w'->h+3<=w'.heap.size->
   Calls prog 84 #[.pointer (some ⟨h+2,0,none⟩),.agg us.toArray,.slice none 0 0] w' (EvP ⟨h,.slice ca cn cc,.slice va vn vc,.slice sa sn sc,.slice ga gn gc⟩ (JG SS SI h) w' (res,(left,(rd,hy)))))):
  Calls prog 48 #[.agg us.toArray,.slice ca cn cc,.slice va vn vc,.agg #[.slice sa sn sc],.slice ga gn gc,.int .i64 (s0:Int)] w (λe w'=>Ext w w'/\∃v rv hv,e=.returned (.tuple #[v,rv,.int .i64 (left:Int)])/\IsVl res hv v w'/\IsRw w.heap.size (zsV hy) hv w'/\IsRw w.heap.size (ksV rd) rv w'):=by
 obtain⟨u0,u1,u2,u3,u4,u5,u6,u7,rfl⟩:=len8 hl;clear hl;have hmm:= @run_makeMap prog
 obtain⟨W,hW,E,B6,B9,B12⟩:∃W,W=((w.alloc (.cells #[u0,u1,u2,u3,u4,u5,u6,u7] 31)).alloc (.cells #[.slice sa sn sc] 39)).alloc (.cells #[.bool false,.slice none 0 0,.bool false,.slice none 0 0,.bool false,.slice none 0 0,.bool false,.slice none 0 0,.bool false,.slice none 0 0,.int .i64 0] 50)/\Ext w W/\Bk W w.heap.size [u0,u1,u2,u3,u4,u5,u6,u7]/\Bk W (w.heap.size+1) [.slice sa sn sc]/\Bk W (w.heap.size+2) zVl:=
  ⟨_,rfl,(((Ext.refl w).alloc _).alloc _).alloc _,(Bk.new w _ _).ext (((Ext.refl _).alloc _).alloc _),(Bk.newE _ _ zd _ _).ext ((Ext.refl _).alloc _),Bk.newE _ _ zd _ _⟩
 have c9:=B9.c 0 _ rfl;have hmx:max (s0:Int) 0=(s0:Int):=zb
 have hmn:min (s0:Int) 100000=(s0:Int):=zb
 go_enter func48,ntmps48;go_upto_region 1 with fail;rw[<-hW];clear hW
 obtain⟨X,hX,EX,MX,JX,hsz⟩:∃X,X=((W.alloc (.map #[] 0)).alloc (.map #[] 0)).alloc (.cells #[.slice ca cn cc,.slice va vn vc,.slice sa sn sc,.slice ga gn gc,.int .i64 (s0:Int),.map (some W.heap.size),.map (some (W.heap.size+1))] 154)/\Ext W X/\MAt ⟨W.heap.size,.slice ca cn cc,.slice va vn vc,.slice sa sn sc,.slice ga gn gc⟩ s0 X/\JG SS SI W.heap.size ([], []) X/\W.heap.size+3<=X.heap.size:=
  ⟨_,rfl,(((Ext.refl W).alloc _).alloc _).alloc _,⟨Bk.newE _ _ zd _ _,hs⟩,JG.made SS SI W _ _,by simp⟩
 have hwh:=B12.lt;go_upto_region 2 with fail;rw[<-hX,show W.heap.size+1+1=W.heap.size+2 from rfl];clear hX hmm c9 hmx hmn;obtain⟨h,hh⟩:∃h,W.heap.size=h:=⟨_,rfl⟩;rw[hh]at MX JX hsz hwh ⊢;clear hh;replace E:=E.trans EX;replace B6:=B6.ext EX;replace B12:=B12.ext EX;clear EX B9;refine rgs 2 [some 28,some 29] [IsP (h+2) 0,IsV (.agg #[u0,u1,u2,u3,u4,u5,u6,u7])] [] ?_ ?_
 ·refine Rc (mv (qB 15)) ?_;refine Rc (lvV B6 xY (qB 6)) ?_;exact rn0
 intro v X1 e1 hZ _;replace E:=E.trans e1;replace B12:=B12.ext e1;replace MX:=MX.ext e1;replace JX:=(JG.inv SS SI h).ext JX e1 hsz;replace hsz:=jK hsz e1.size;simp only[lxE,Nat.reduceAdd];rw[show v 0=.pointer (some ⟨h+2,0,none⟩)from hZ 0 dcx,show v 1=.agg #[u0,u1,u2,u3,u4,u5,u6,u7]from hZ 1 dcx];clear hZ e1 B6;have hres:=result_f (m:=⟨h,.slice ca cn cc,.slice va vn vc,.slice sa sn sc,.slice ga gn gc⟩) (us:= [u0,u1,u2,u3,u4,u5,u6,u7]) (st:=(s0,([], []))) (r:=(res,(left,(rd,hy)))) rfl (JG.inv SS SI h) hsz MX JX (hid λw' R M J hs'=>HC.out h w' zb (Rm.extAll R E (show w.heap.size<=h by omega)) M J (jK hsz hs'));refine stL (λK hK=>?_);refine xC (us:= [.pointer (some ⟨h+2,0,none⟩),.agg #[u0,u1,u2,u3,u4,u5,u6,u7]]) (en func66) za hres (λv2 X2 h=>hK _ _ ?_) (λch X2 h=>by{obtain⟨_,_,_,_,hx,_⟩:=h;cases hx}) (λX2 h=>by{obtain⟨_,_,_,_,hx,_⟩:=h;cases hx});obtain⟨R,M2,J2,v3,hv3,hvl⟩:=h;cases hv3;replace E:=R.extAll E (show w.heap.size<=h by omega);replace B12:=R.bk B12 (.inl (show w.heap.size+2<h by omega));have hsz2:=jK hsz R.size;clear hres MX JX hsz R;obtain⟨ul,rfl,hul,nul,oul,⟨y9,hy9,ny9⟩,hset⟩:=hvl.cells;clear hvl hK K;have GR:=Gr.refl X2
 go_simp
 refine stL (λK hK=>?_);refine xK (vs:=zVl) al_Vl (λB16 e1=>hK _ _ ?_);replace E:=E.trans e1;replace GR:=GR.trans e1.gr;replace B12:=B12.ext e1;replace M2:=M2.ext e1;replace J2:=(JG.inv SS SI h).ext J2 e1 hsz2;obtain⟨g16,hg16⟩:∃g,X2.heap.size=g:=⟨_,rfl⟩;rw[hg16]at B16 hsz2 ⊢;generalize X2.alloc (.cells zVl.toArray 50)=X3 at E B12 M2 J2 B16 GR ⊢;clear hK K e1 hg16
 go_simp
 refine stL (λK hK=>?_);refine qX (us:=ul) B16 st_Vl rfl hul nwZ (λX4 B16' O=>hK _ _ ?_) (ho1:=oul);replace E:=O.ext E zb;replace GR:=GR.trans O.gr;replace B12:=O.bk B12 zb;replace M2:MAt _ left X4:=⟨O.bk M2.bk jm,M2.fit⟩;replace J2:=(JG.inv SS SI h).only J2 O zb;have hsz4:h+3<=X4.heap.size:=by have:=B16'.lt;omega
 clear B16 hK K O;have B16:=B16';clear B16';refine jE ?_;go_upto_region 3 with fail;refine rgs 4 (dR 31 4) [IsP (h+2) 0,IsP (h+2) 0,IsP (h+2) 6,IsV (.map (some (h+1)))] [] ?_ ?_
 ·refine Rc (mv (qB 15)) ?_;refine Rc (nc (p:=⟨h+2,0,none⟩) (qA 0 31)) ?_;refine Rc (fa (fa_Mc6 (h+2)) (qA 1 32)) ?_;refine Rc (lvC 6 M2.bk ld_mi (qA 2 33)) ?_;exact rn0
 intro v X5 e1 hZ _;replace E:=E.trans e1;replace GR:=GR.trans e1.gr;replace B12:=B12.ext e1;replace B16:=B16.ext e1;replace M2:=M2.ext e1;replace J2:=(JG.inv SS SI h).ext J2 e1 hsz4;replace hsz4:=jK hsz4 e1.size;simp only[lxE,Nat.reduceAdd];rw[show v 3=.map (some (h+1))from hZ 3 dcx];clear hZ e1;refine stL (λK hK=>?_);refine xC (us:= [.map (some (h+1))]) (en func67) za (sortedI_c hSI J2.2.2.2) (λv2 X6 h=>hK _ _ ?_) (λch X6 h=>by{obtain⟨_,_,hx,_⟩:=h;cases hx}) (λX6 h=>by{obtain⟨_,_,hx,_⟩:=h;cases hx});obtain⟨e1,v3,hv3,hri,ha,hn,hc,hsl⟩:=h;have hg16x:=B16.lt;have hwB:w.heap.size+2<X5.heap.size:=zb
 cases hv3;replace E:=E.trans e1;replace GR:=GR.trans e1.gr;replace B12:=B12.ext e1;replace M2:=M2.ext e1;replace J2:=(JG.inv SS SI h).ext J2 e1 hsz4;replace hsz4:=jK hsz4 e1.size;replace B16:=B16.ext e1;subst hsl;clear hK K e1
 go_simp
 refine jP λK hK=>?_;go_simp;refine hK _ _ ?_;clear hK K
 refine stL (λK hK=>?_);refine stCO 9 B16 (st_ai ha hn hc) hy9 ny9 (λX7 B16' O=>hK _ _ ?_);replace E:=O.ext E zb;replace GR:=GR.trans O.gr;replace B12:=O.bk B12 zb;replace M2:MAt ⟨h,.slice ca cn cc,.slice va vn vc,.slice sa sn sc,.slice ga gn gc⟩ left X7:=⟨O.bk M2.bk (show h+2≠g16 by omega),M2.fit⟩;replace J2:=(JG.inv SS SI h).only J2 O zb;replace hsz4:h+3<=X7.heap.size:=by rw[O.size];exact hsz4
 obtain⟨nu9,ou9,hvl9⟩:=hset (.slice ha hn hc) (NoWord.slice _ _ _) rfl;replace hri:=hri.ob (Ob.only O) hg16x;clear hK K;have hul9:(ul.set 9 (.slice ha hn hc)).length=11:=by rw[List.length_set];exact hul
 generalize ul.set 9 (.slice ha hn hc)=vl at B16' nu9 ou9 hvl9 hul9;clear B16 hset nul oul hy9 ny9 hul O;have B16:=B16';clear B16';refine jE ?_;go_upto_region 4 with fail;have hg12:w.heap.size+2<X7.heap.size:=B12.lt;have ngm:h+2≠w.heap.size+2:=zb
 have ng16:g16≠w.heap.size+2:=zb
 refine wp_region_rgx (RS (w.heap.size+2) zVl vl) 13 [some 37,some 38,some 39,some 40,some 41,some 42,some 43,some 44,some 45,some 46,none,some 13,some 14] [IsV (.agg vl.toArray),IsP (h+2) 0,IsP (h+2) 0,IsP (h+2) 5,IsV (.map (some h)),IsRw X7.heap.size (ksV rd),IsP (h+2) 0,IsP (h+2) 0,IsP (h+2) 4,iV (left:Int),(λ_ w'=>Bk w' (w.heap.size+2) vl),IsRw X7.heap.size (ksV rd),iV (left:Int)] za za za za za za RS.trans RS.of ?_ ?_ ?_
 ·exact⟨λ_ _ _ _ h=>h,λ_ _ _ _ h=>h,λ_ _ _ _ h=>h,λ_ _ _ _ h=>h,λ_ _ _ _ h=>h,λ_ _ _ q h=>h.ob q.ob hg12,λ_ _ _ _ h=>h,λ_ _ _ _ h=>h,λ_ _ _ _ h=>h,λ_ _ _ _ h=>h,λ_ _ _ q h=>q.s h,λ_ _ _ q h=>h.ob q.ob hg12,λ_ _ _ _ h=>h,trivial⟩
 ·refine RxS (λw' q=>lvV (q.ob.bk B16 ng16) ld_Vl (qB 16) hul9) ?_;refine RxS (λw' q=>mv (qB 15)) ?_;refine RxS (λw' q=>nc (p:=⟨h+2,0,none⟩) (qA 1 38)) ?_;refine RxS (λw' q=>fa (fa_Mc5 (h+2)) (qA 2 39)) ?_;refine RxS (λw' q=>lvC 5 (q.ob.bk M2.bk ngm) ld_ms (qA 3 40)) ?_
  refine RxS (λw' q=>cl1 (en func68) (qA (fP:=IsV (.map (some h))) 4 41) (λx0 w2 hE d0=>by
   obtain rfl:x0=.map (some h):=d0
   exact jC (sortedS_c hSS ((JG.inv SS SI h).ext (J2.ob q.ob zb zb) hE (jK hsz4 q.ob.size)).2.2.1) λe w3 hq=>by
    obtain⟨e3,v3,q1,q2⟩:=hq
    exact⟨v3,q1,e3,q2.mono (jK q.ob.size hE.size)⟩)) ?_
  refine RxS (λw' q=>mv (qB 15)) ?_;refine RxS (λw' q=>nc (p:=⟨h+2,0,none⟩) (qA 6 43)) ?_;refine RxS (λw' q=>fa (fa_Mc4 (h+2)) (qA 7 44)) ?_;refine RxS (λw' q=>lvC 4 (q.ob.bk M2.bk ngm) xF (qA 8 45)) ?_;refine stS (.inl B12) st_Vl rfl hul9 nwZ nu9 ou9 (λw'=>qB 12) (λw'=>qA 0 37) ?_;refine RxS (λw' q=>mv (qA 5 42)) ?_;refine RxS (λw' q=>mv (qA 9 46)) ?_;exact RgAllx.nil
 intro v X8 q hZ;have B9:Bk X8 (w.heap.size+2) vl:=hZ 10 dcx;have hrs:IsRw X7.heap.size (ksV rd) (v 11) X8:=hZ 11 dcx;obtain⟨rv,hrv⟩:∃rv,v 11=rv:=⟨_,rfl⟩;rw[hrv]at hrs;simp only[lxE,Nat.reduceAdd];rw[hrv,show v 12=.int .i64 (left:Int)from hZ 12 dcx];clear hrv hZ;refine jL za ?_ _;have E8:=q.ob.ext E zb;have hvl8:=hvl9 X8 (GR.trans q.ob.gr);replace hri:=hri.ob q.ob hwB;have hwm:w.heap.size<=X5.heap.size:=zb
 have hwn:w.heap.size<=X7.heap.size:=zb
 clear B16 B12 M2 J2 hvl9 nu9 ou9 GR;obtain⟨l0,l1,l2,l3,l4,l5,l6,l7,l8,l9,l10,rfl⟩:=len11 hul9;have d0:World.cell? X8 ⟨w.heap.size+1+1,0,none⟩=some l0:=B9.c 0 _ rfl;have d1:World.cell? X8 ⟨w.heap.size+1+1,1,none⟩=some l1:=B9.c 1 _ rfl;have d2:World.cell? X8 ⟨w.heap.size+1+1,2,none⟩=some l2:=B9.c 2 _ rfl;have d3:World.cell? X8 ⟨w.heap.size+1+1,3,none⟩=some l3:=B9.c 3 _ rfl;have d4:World.cell? X8 ⟨w.heap.size+1+1,4,none⟩=some l4:=B9.c 4 _ rfl;have d5:World.cell? X8 ⟨w.heap.size+1+1,5,none⟩=some l5:=B9.c 5 _ rfl;have d6:World.cell? X8 ⟨w.heap.size+1+1,6,none⟩=some l6:=B9.c 6 _ rfl;have d7:World.cell? X8 ⟨w.heap.size+1+1,7,none⟩=some l7:=B9.c 7 _ rfl;have d8:World.cell? X8 ⟨w.heap.size+1+1,8,none⟩=some l8:=B9.c 8 _ rfl;have d9:World.cell? X8 ⟨w.heap.size+1+1,9,none⟩=some l9:=B9.c 9 _ rfl;have d10:World.cell? X8 ⟨w.heap.size+1+1,10,none⟩=some l10:=B9.c 10 _ rfl;clear B9 q;go_wp2_with fail;exact jD (v:=.tuple #[.agg #[l0,l1,l2,l3,l4,l5,l6,l7,l8,l9,l10],rv,.int .i64 (left:Int)]) (by simp[results,results48,d0,d1,d2,d3,d4,d5,d6,d7,d8,d9,d10,go_sem]) rfl ⟨E8,.agg #[l0,l1,l2,l3,l4,l5,l6,l7,l8,l9,l10],rv,rfl,.slice ha hn hc,hvl8,hri.mono hwm,hrs.mono hwn⟩
open Go Go.RowKit Go.Maps Go.Sort
theorem nd_len{α:Type}[DecidableEq α]:∀(l m:List α),l.Nodup->(∀x∈l,x∈m)->l.length<=m.length
 | [],_,_,_=>Nat.zero_le _
 | a ::l,m,h,hs=>by
  obtain⟨h1,h2⟩:=List.nodup_cons.1 h;have:=nd_len l (m.erase a) h2 (λx hx=>(List.mem_erase_of_ne (λe=>absurd hx (by rw[e];exact h1))).2 (hs x (List.mem_cons_of_mem _ hx)));have hm:=hs a List.mem_cons_self;rw[List.length_erase_of_mem hm]at this;have:=List.length_pos_of_mem hm;simp only[List.length_cons];omega
theorem has_dS'(x:List UInt8):∀(l:List (List UInt8)) (D:DU),IsMap D->(has (l.foldl (λD x=>D.put (.string x) (.lit (.bool true))) D) (.string x)=true↔x∈l\/has D (.string x)=true)
 | [],D,h=>by simp
 | y ::l,D,h=>by
  rw[List.foldl_cons,has_dS' x l _ (h.put _ _),List.mem_cons];by_cases e:x=y
  ·subst e;exact⟨λ_=> .inl (.inl rfl),λ_=> .inr (has_put_same h (show WideAt.IsKeyLit (Lit.string x)from trivial) _)⟩
  ·rw[has_put_other (λe'=>e (by cases e';rfl))];simp[e]
theorem has_dI'(x:Int):∀(l:List Int) (D:DU),IsMap D->(has (l.foldl (λD x=>D.put (.int .i64 x) (.lit (.bool true))) D) (.int .i64 x)=true↔x∈l\/has D (.int .i64 x)=true)
 | [],D,h=>by simp
 | y ::l,D,h=>by
  rw[List.foldl_cons,has_dI' x l _ (h.put _ _),List.mem_cons];by_cases e:x=y
  ·subst e;exact⟨λ_=> .inl (.inl rfl),λ_=> .inr (has_put_same h (show WideAt.IsKeyLit (Lit.int .i64 x)from trivial) _)⟩
  ·rw[has_put_other (λe'=>e (by cases e';rfl))];simp[e]
theorem has_dS(x:List UInt8)(l:List (List UInt8)):has (dS l) (.string x)=true↔x∈l:=by
 rw[dS,has_dS' x l _ ⟨_,rfl⟩];simp[has_eq]
theorem has_dI(x:Int)(l:List Int):has (dI l) (.int .i64 x)=true↔x∈l:=by
 rw[dI,has_dI' x l _ ⟨_,rfl⟩];simp[has_eq]
section
variable {w:World} {b n:Nat}
theorem keysS{l:List (List UInt8)}(hown:w.ownsMap prog 9 (plainElem prog 4) b n (dS l)):(strKeys (dS l)).Nodup/\(∀x,x∈strKeys (dS l)↔x∈l)/\(strKeys (dS l)).length=Maps.size (dS l):=by
 obtain⟨es,hD,hpw,_⟩:=hown.entries lawS;obtain⟨es',hD',hko⟩:=hown.keysOf;obtain rfl:es=es':=by rw[hD]at hD';simpa using hD'
 have hk:∀p∈es,∃x,p.1=.string x:=λp hp=>by obtain⟨v,hv⟩:=hko p hp;obtain⟨x,_,hx,_⟩:=Maps.keyOf_str ty_str hv;exact⟨x,hx⟩
 have hm:=λx=>has_dS x l
 rw[hD]at hm ⊢;refine⟨?_,λx=>?_,by simp[strKeys,size_eq]⟩
 ·show(es.map λp=>strOf p.1).Nodup;refine List.pairwise_map.2 (hpw.imp_of_mem λ{p q} hp' hq' hne e=>hne ?_);obtain⟨a,ha⟩:=hk p hp';obtain⟨b,hb⟩:=hk q hq';rw[ha,hb]at e ⊢;exact congrArg _ e
 ·rw[<-hm x,has_eq,List.any_eq_true];show x∈es.map (λp=>strOf p.1)↔_;rw[List.mem_map];constructor
  ·rintro⟨p,hp',rfl⟩;obtain⟨a,ha⟩:=hk p hp';exact⟨p,hp',by rw[ha];simp[Lit.sameKey,strOf]⟩
  ·rintro⟨p,hp',hs⟩;obtain⟨a,ha⟩:=hk p hp';rw[ha]at hs;exact⟨p,hp',by rw[ha];have:=WideAt.sameKey_eq hs;cases this;rfl⟩
theorem keysI{l:List Int}(hown:w.ownsMap prog 3 (plainElem prog 4) b n (dI l)):(intKeys (dI l)).Nodup/\(∀x,x∈intKeys (dI l)↔x∈l)/\(intKeys (dI l)).length=Maps.size (dI l):=by
 obtain⟨es,hD,hpw,_⟩:=hown.entries lawI;obtain⟨es',hD',hko⟩:=hown.keysOf;obtain rfl:es=es':=by rw[hD]at hD';simpa using hD'
 have hk:∀p∈es,∃x,p.1=.int .i64 x:=λp hp=>by obtain⟨v,hv⟩:=hko p hp;obtain⟨x,_,hx,_⟩:=Maps.keyOf_i64 ty_int hv;exact⟨x,hx⟩
 have hm:=λx=>has_dI x l
 rw[hD]at hm ⊢;refine⟨?_,λx=>?_,by simp[intKeys,size_eq]⟩
 ·show(es.map λp=>Go.intOf p.1).Nodup;refine List.pairwise_map.2 (hpw.imp_of_mem λ{p q} hp' hq' hne e=>hne ?_);obtain⟨a,ha⟩:=hk p hp';obtain⟨b,hb⟩:=hk q hq';rw[ha,hb]at e ⊢;exact congrArg _ e
 ·rw[<-hm x,has_eq,List.any_eq_true];show x∈es.map (λp=>Go.intOf p.1)↔_;rw[List.mem_map];constructor
  ·rintro⟨p,hp',rfl⟩;obtain⟨a,ha⟩:=hk p hp';exact⟨p,hp',by rw[ha];simp[Lit.sameKey,Go.intOf]⟩
  ·rintro⟨p,hp',hs⟩;obtain⟨a,ha⟩:=hk p hp';rw[ha]at hs;exact⟨p,hp',by rw[ha];have:=WideAt.sameKey_eq hs;cases this;rfl⟩
theorem own_size{k:TypeId}{R:Value->Option (DU×List MemPlace)}{D:DU}{m:Nat}(h:w.ownsMap prog k R b n D)(hm:Maps.size D<=m):w.ownsMap prog k R b m D:=by
 obtain⟨es,clock,hb,F,hs,hD⟩:=h;refine⟨es,clock,hb,F,?_,hD⟩;have:=length_read (P:=prog) (k:=k) (R0:=R) es;rw[hD,size_eq,this]at hm;exact hm
end
theorem dS_snoc(l:List (List UInt8))(x:List UInt8):(dS l).put (.string x) (.lit (.bool true))=dS (l++ [x]):=by simp[dS,List.foldl_append]
theorem dI_snoc(l:List Int)(x:Int):(dI l).put (.int .i64 x) (.lit (.bool true))=dI (l++ [x]):=by simp[dI,List.foldl_append]
theorem JG.read{SS:List (List UInt8)}{SI:List Int}{h:Nat}{s:Lg}{w:World}{x:ByteArray}(hx:x.size<=maxLen)(hS:x.data.toList∈SS)(hn:SS.length<maxLen)(j:JG SS SI h s w):
  ∃w',(Instr.mapUpdate 151 (.map (some h)) (.string x) (.bool true)).run prog w=.ok () w'/\JG SS SI h (s.1++ [x.data.toList],s.2) w'/\w.mapTurned w' h:=by
 obtain⟨j1,j2,j3,j4⟩:=j;obtain⟨w',hrun,own2,tur⟩:=j3.store lawS ty_ms hn (key:=.string x) (val:=.bool true) (kl:=.string x.data.toList) (d:=.lit (.bool true)) (ps:= []) (WideMaps.keyOf_string_mk ty_str hx) (plainElem_bool ty_bool true);rw[dS_snoc]at own2;have j1':∀y∈s.1++ [x.data.toList],y∈SS:=λy hy=>(List.mem_append.1 hy).elim (j1 y) (λe=>by rw[List.mem_singleton.1 e];exact hS)
 obtain⟨k1,k2,k3⟩:=keysS own2;refine⟨w',hrun,⟨j1',j2,own_size own2 (by rw[<-k3];exact nd_len _ _ k1 (λy hy=>j1' y ((k2 y).1 hy))),?_⟩,tur⟩;obtain⟨es,clock,hb,F,hs,hD⟩:=j4;exact⟨es,clock,((tur.grown).block (h+1) (by have:=(Array.getElem?_eq_some_iff.1 hb).1;exact this) (λe=>by injection e with e;omega)).trans hb,F,hs,hD⟩
theorem JG.use{SS:List (List UInt8)}{SI:List Int}{h:Nat}{s:Lg}{w:World}{x:Int}(hx:(Lit.int .i64 x).wf=true)(hS:x∈SI)(hn:SI.length<maxLen)(j:JG SS SI h s w):
  ∃w',(Instr.mapUpdate 152 (.map (some (h+1))) (.int .i64 x) (.bool true)).run prog w=.ok () w'/\JG SS SI h (s.1,s.2++ [x]) w'/\w.mapTurned w' (h+1):=by
 obtain⟨j1,j2,j3,j4⟩:=j;obtain⟨w',hrun,own2,tur⟩:=j4.store lawI ty_mi hn (key:=.int .i64 x) (val:=.bool true) (kl:=.int .i64 x) (d:=.lit (.bool true)) (ps:= []) (keyOf_int_mk ty_int hx) (plainElem_bool ty_bool true);rw[dI_snoc]at own2;have j2':∀y∈s.2++ [x],y∈SI:=λy hy=>(List.mem_append.1 hy).elim (j2 y) (λe=>by rw[List.mem_singleton.1 e];exact hS)
 obtain⟨k1,k2,k3⟩:=keysI own2;refine⟨w',hrun,⟨j1,j2',?_,own_size own2 (by rw[<-k3];exact nd_len _ _ k1 (λy hy=>j2' y ((k2 y).1 hy)))⟩,tur⟩;obtain⟨es,clock,hb,F,hs,hD⟩:=j3;exact⟨es,clock,((tur.grown).block h (by have:=(Array.getElem?_eq_some_iff.1 hb).1;exact this) (λe=>by injection e with e;omega)).trans hb,F,hs,hD⟩
end
section
open Go Go.RowKit
open Go.Proofs.Tryz
/-! ### Steps:what more of them change -/
section
variable {σ:Type}
structure Eff (le:σ ->σ ->Prop) (f:σ ->σ):Prop where
 up:∀s,le s (f s)
 mono:∀s S,le s S ->le (f s) (f S)
structure Obl (M:Mem σ) (C:ByteArray ->Prop) (V:ByteArray ->Int ->Env ->Prop) (le:σ ->σ ->Prop):Prop where
 rfl:∀s,le s s
 tr:∀a b c,le a b ->le b c ->le a c
 cl:∀x,C x ->∃r f,(∀s,M.cl x s =(r,f s))/\Eff le f/\∀q,r =.ok q ->q.lo <=q.hi
 vl:∀x n env,V x n env ->∃r f,(∀s,M.vl x n env s =(r,f s))/\Eff le f/\∀q,r =.ok q ->q.lo <=q.hi
def costE:Ex ->Nat
 | .loop _ _ lo hi b =>(hi + 1 - lo).toNat * (1 + costE b)
 | .bin _ a b =>costE a + costE b
 |_ =>0
theorem Eff.id{le:σ ->σ ->Prop}(h:∀s,le s s):Eff le id:=⟨h,λ_ _ h =>h⟩
theorem Eff.comp{le:σ ->σ ->Prop}(tr:∀a b c,le a b ->le b c ->le a c){f g:σ ->σ}(hf:Eff le f)(hg:Eff le g):Eff le (λs =>g (f s)) :=
 ⟨λs =>tr _ _ _ (hf.up s) (hg.up _),λ_s _S h =>hg.mono _ _ (hf.mono _ _ h)⟩
def Kn.In(q p:Kn):Prop:=p.lo <=q.lo/\q.hi <=p.hi
theorem mul_in1{a b x y:Int}(h1:a <=x)(h2:x <=b):min (a * y) (b * y) <=x * y/\x * y <=max (a * y) (b * y) :=by
 rcases Int.le_total 0 y with h|h
 ·have:=Int.mul_le_mul_of_nonneg_right h1 h;have:=Int.mul_le_mul_of_nonneg_right h2 h;omega
 ·have:=Int.mul_le_mul_of_nonpos_right h1 h;have:=Int.mul_le_mul_of_nonpos_right h2 h;omega
theorem mul_in{a b c d x y:Int}(h1:a <=x)(h2:x <=b)(h3:c <=y)(h4:y <=d):
  min (min (min (a * c) (a * d)) (b * c)) (b * d) <=x * y/\x * y <=max (max (max (a * c) (a * d)) (b * c)) (b * d) :=by
 have e1:=mul_in1 (y:=y) h1 h2
 have e2:=mul_in1 (y:=a) h3 h4
 have e3:=mul_in1 (y:=b) h3 h4
 rw[Int.mul_comm c a,Int.mul_comm d a,Int.mul_comm y a]at e2
 rw[Int.mul_comm c b,Int.mul_comm d b,Int.mul_comm y b]at e3
 omega
theorem mul4_le{p q:Kn}(h:p.lo <=p.hi)(h':q.lo <=q.hi):(mul4 p q).lo <=(mul4 p q).hi:=by
 have:=mul_in (Int.le_refl p.lo) h (Int.le_refl q.lo) h'
 simp only[mul4];omega
theorem mul4_in{p q p' q':Kn}(h:p'.In p)(h':q'.In q)(l:p'.lo <=p'.hi)(l':q'.lo <=q'.hi):(mul4 p' q').In (mul4 p q) :=by
 obtain⟨a1,a2⟩ :=h;obtain⟨b1,b2⟩ :=h'
 have e1:=mul_in a1 (Int.le_trans l a2) b1 (Int.le_trans l' b2)
 have e2:=mul_in a1 (Int.le_trans l a2) (Int.le_trans b1 l') b2
 have e3:=mul_in (Int.le_trans a1 l) a2 b1 (Int.le_trans l' b2)
 have e4:=mul_in (Int.le_trans a1 l) a2 (Int.le_trans b1 l') b2
 simp only[Kn.In,mul4];omega
theorem xU{q r:Kn}(h:xP q =.ok r):r =q:=by
 unfold xP at h;split at h <;> cases h;rfl
theorem truthV_in{a b a' b':Bool}(h1:a =true ->a' =true)(h2:b =true ->b' =true)(h3:¬(a' =true/\b' =true)):(qU a' b').In (qU a b) :=by
 cases a <;> cases b <;> cases a' <;> cases b' <;> simp_all [qU,Kn.In]
theorem truthV_le(a b:Bool):(qU a b).lo <=(qU a b).hi:=by cases a <;> cases b <;> simp[qU]
theorem opV_le{op:Int}{p q r:Kn}(h:p.lo <=p.hi)(h':q.lo <=q.hi)(e:opV op p q =.ok r):r.lo <=r.hi:=by
 unfold opV at e
 repeat' split at e
 ·rw[xU e];simp only;omega
 ·rw[xU e];simp only;omega
 ·rw[xU e];exact mul4_le h h'
 ·cases e;simp only;omega
 ·cases e;simp only;omega
 ·cases e;exact truthV_le _ _
 ·cases e;exact truthV_le _ _
theorem opV_in{op:Int}{p q r p' q' r':Kn}(l:p'.lo <=p'.hi)(l':q'.lo <=q'.hi)(i:p'.In p)(i':q'.In q)(e:opV op p q =.ok r)(e':opV op p' q' =.ok r'):r'.In r:=by
 unfold opV at e e'
 repeat' split at e
 all_goals simp_all only[if_true,if_false]
 ·rw[xU e,xU e'];obtain⟨_,_⟩ :=i;obtain⟨_,_⟩ :=i';simp only[Kn.In];omega
 ·rw[xU e,xU e'];obtain⟨_,_⟩ :=i;obtain⟨_,_⟩ :=i';simp only[Kn.In];omega
 ·rw[xU e,xU e'];exact mul4_in i i' l l'
 ·cases e;cases e';obtain⟨_,_⟩ :=i;obtain⟨_,_⟩ :=i';simp only[Kn.In];omega
 ·cases e;cases e';obtain⟨_,_⟩ :=i;obtain⟨_,_⟩ :=i';simp only[Kn.In];omega
 ·cases e;cases e';obtain⟨_,_⟩ :=i;obtain⟨_,_⟩ :=i'
  refine truthV_in ?_ ?_ ?_ <;> simp only[jQ] <;> omega
 ·cases e;cases e';obtain⟨_,_⟩ :=i;obtain⟨_,_⟩ :=i'
  refine truthV_in ?_ ?_ ?_ <;> simp only[jQ,Bool.and_eq_true,Bool.or_eq_true] <;> omega
def Tr.Ok(lo hi:Int)(t:Tr):Prop:=lo <=t.next/\t.next <=hi + 1/\0 <=t.sure/\0 <=t.opn/\t.last =hi + 1/\t.first <=hi + 1
structure Nest (fst:Bool) (hi:Int) (q p:Tr):Prop where
 a:p.sure <=q.sure
 b:fst =false ->q.sure + q.opn + hi + 1 - q.next <=p.sure + p.opn + hi + 1 - p.next
 c:p.first <=q.first
 d:q.last <=p.last
structure Fair (hi:Int) (q:Tr):Prop where
 a:0 <=q.opn + hi + 1 - q.next
 b:q.first <=q.last
def Body(le:σ ->σ ->Prop)(f:Int ->Mst σ ->Res Kn×Mst σ)(lo hi:Int):Prop:=∀n st r st',lo <=n ->n <=hi ->f n st =(r,st') ->st'.1 <=st.1/\le st.2 st'.2/\∀q,r =.ok q ->q.lo <=q.hi
theorem srch_sb{le:σ ->σ ->Prop}(rf:∀s,le s s)(tr:∀a b c,le a b ->le b c ->le a c){f:Int ->Mst σ ->Res Kn×Mst σ}{fst:Bool}{lo hi:Int}(hf:Body le f lo hi):
  ∀(n:Nat) (t:Tr) (st:Mst σ) (r:Res Tr) (st':Mst σ),t.Ok lo hi ->(hi + 1 - t.next).toNat <=n ->xO f fst hi n t st =(r,st') ->st'.1 <=st.1/\le st.2 st'.2/\∀q,r =.ok q ->Nest fst hi q (t.stop hi)/\Fair hi q
 | 0,t,st,r,st',hk,hn,h =>by
  simp only[xO,Prod.mk.injEq]at h
  obtain⟨rfl,rfl⟩ :=h
  refine⟨jJ _,rf _,?_⟩
  rintro q h
  cases h
  obtain⟨h1,h2,h3,h4,h5,h6⟩ :=hk
  exact⟨⟨Int.le_refl _,λ_ =>Int.le_refl _,Int.le_refl _,Int.le_refl _⟩,⟨by simp only[Tr.stop];omega,by simp only[Tr.stop];omega⟩⟩
 | n + 1,t,st,r,st',hk,hn,h =>by
  rw[xO]at h
  by_cases hg:t.next <=hi/\0 < st.1
  ·rw [if_pos hg]at h
   obtain⟨h1,h2,h3,h4,h5,h6⟩ :=hk
   split at h
   ·rename_i n2 st2 he
    cases h
    obtain⟨k1,k2,k3⟩ :=hf _ _ _ _ h1 hg.1 he
    exact⟨by simp only at k1;omega,k2,λq hq =>by cases hq⟩
   ·rename_i q st2 he
    obtain⟨k1,k2,k3⟩ :=hf _ _ _ _ h1 hg.1 he
    simp only at k1 k2
    have k4:=k3 q rfl
    simp only[Tr.step]at h
    by_cases c1:q.lo =0/\q.hi =0
    ·rw[if_pos c1]at h
     obtain⟨e1,e2,e3⟩ :=srch_sb rf tr hf n _ _ _ _ (by simp only[Tr.Ok];omega) (by simp only;omega) h
     refine⟨by omega,tr _ _ _ k2 e2,λp hp =>?_⟩
     obtain⟨⟨a1,a2,a3,a4⟩,F⟩ :=e3 p hp
     simp only[Tr.stop]at a1 a2 a3 a4
     exact⟨⟨by simp only[Tr.stop];omega,λhh =>by have:=a2 (by first|exact hh|trivial);simp only[Tr.stop];omega,by simp only[Tr.stop];omega,by simp only[Tr.stop];omega⟩,F⟩
    ·rw [if_neg c1]at h
     by_cases c2:q.lo <=0/\0 <=q.hi
     ·rw[if_pos c2]at h
      obtain⟨e1,e2,e3⟩ :=srch_sb rf tr hf n _ _ _ _ (by simp only[Tr.Ok];omega) (by simp only;omega) h
      refine⟨by omega,tr _ _ _ k2 e2,λp hp =>?_⟩
      obtain⟨⟨a1,a2,a3,a4⟩,F⟩ :=e3 p hp
      simp only[Tr.stop]at a1 a2 a3 a4
      exact⟨⟨by simp only[Tr.stop];omega,λhh =>by have:=a2 (by first|exact hh|trivial);simp only[Tr.stop];omega,by simp only[Tr.stop];omega,by simp only[Tr.stop];omega⟩,F⟩
     ·rw[if_neg c2]at h
      cases fst with
      | true =>
       simp only[if_true,Prod.mk.injEq]at h
       obtain⟨rfl,rfl⟩ :=h
       refine⟨by omega,k2,λp hp =>?_⟩
       cases hp
       exact⟨⟨by simp only[Tr.stop];omega,λhh =>(by cases hh),by simp only[Tr.stop];omega,by simp only[Tr.stop];omega⟩,⟨by simp only;omega,by simp only;omega⟩⟩
      | false =>
       simp only[Bool.false_eq_true,if_false]at h
       obtain⟨e1,e2,e3⟩ :=srch_sb rf tr hf n _ _ _ _ (by simp only[Tr.Ok];omega) (by simp only;omega) h
       refine⟨by omega,tr _ _ _ k2 e2,λp hp =>?_⟩
       obtain⟨⟨a1,a2,a3,a4⟩,F⟩ :=e3 p hp
       simp only[Tr.stop]at a1 a2 a3 a4
       exact⟨⟨by simp only[Tr.stop];omega,λhh =>by have:=a2 (by first|exact hh|trivial);simp only[Tr.stop];omega,by simp only[Tr.stop];omega,by simp only[Tr.stop];omega⟩,F⟩
  ·rw[if_neg hg,Prod.mk.injEq]at h
   obtain⟨rfl,rfl⟩ :=h
   refine⟨jJ _,rf _,?_⟩
   rintro q h
   cases h
   obtain⟨h1,h2,h3,h4,h5,h6⟩ :=hk
   exact⟨⟨Int.le_refl _,λ_ =>Int.le_refl _,Int.le_refl _,Int.le_refl _⟩,⟨by simp only[Tr.stop];omega,by simp only[Tr.stop];omega⟩⟩
theorem ev_sb{M:Mem σ}{C:ByteArray ->Prop}{V:ByteArray ->Int ->Env ->Prop}{le:σ ->σ ->Prop}(O:Obl M C V le):
  ∀(e:Ex) (env:Env) (st:Mst σ) (r:Res Kn) (st':Mst σ),wfE C V e env ->ev M e env st =(r,st') ->st'.1 <=st.1/\le st.2 st'.2/\∀q,r =.ok q ->q.lo <=q.hi
 | .num z,env,st,r,st',hw,h =>by
  rw[ev]at h;cases h
  exact⟨jJ _,O.rfl _,λq hq =>by cases hq;exact Int.le_refl _⟩
 | .var x,env,st,r,st',hw,h =>by
  rw[ev]at h;cases h
  exact⟨jJ _,O.rfl _,λq hq =>by cases hq;exact Int.le_refl _⟩
 | .cell x,env,st,r,st',hw,h =>by
  obtain⟨r0,f,h1,h2,h3⟩ :=O.cl x hw
  rw[ev,h1]at h;cases h
  exact⟨jJ _,h2.up _,h3⟩
 | .val x n,env,st,r,st',hw,h =>by
  obtain⟨r0,f,h1,h2,h3⟩ :=O.vl x n env hw
  rw[ev,h1]at h;cases h
  exact⟨jJ _,h2.up _,h3⟩
 | .loop fst x lo hi b,env,st,r,st',hw,h =>by
  obtain⟨_,_,hlh,_,hb⟩ :=hw
  rw[ev]at h
  have hbody:Body le (λn st =>ev M b (env ++ [(x,n)]) st) lo hi:=λn st r st' h1 h2 he =>ev_sb O b _ st r st' (hb n h1 h2) he
  obtain⟨r1,st1,hs⟩:∃r1 st1,xO (λn st =>ev M b (env ++ [(x,n)]) st) fst hi (hi + 1 - lo).toNat ⟨0,0,hi + 1,hi + 1,lo,true⟩ st =(r1,st1) :=⟨_,_,Prod.eta _ |>.symm⟩
  obtain⟨e1,e2,e3⟩ :=srch_sb O.rfl O.tr hbody (hi + 1 - lo).toNat ⟨0,0,hi + 1,hi + 1,lo,true⟩ st r1 st1 ⟨Int.le_refl _,hlh,Int.le_refl _,Int.le_refl _,rfl,Int.le_refl _⟩ (jJ _) hs
  rw[hs]at h
  cases r1 with
  |error n =>cases h;exact⟨e1,e2,λq hq =>by cases hq⟩
  | ok t =>
   cases h
   obtain⟨N,F⟩ :=e3 t rfl
   obtain⟨f1,f2⟩ :=F
   refine⟨e1,e2,λq hq =>?_⟩
   cases hq
   cases fst <;> simp only[if_true,if_false,Bool.false_eq_true] <;> omega
 | .bin op a b,env,st,r,st',hw,h =>by
  obtain⟨_,ha,hb⟩ :=hw
  rw[ev]at h
  obtain⟨r1,st1,hs⟩:∃r1 st1,ev M a env st =(r1,st1) :=⟨_,_,Prod.eta _ |>.symm⟩
  obtain⟨e1,e2,e3⟩ :=ev_sb O a _ _ _ _ ha hs
  rw[hs]at h
  cases r1 with
  |error n =>cases h;exact⟨e1,e2,λq hq =>by cases hq⟩
  | ok p =>
   simp only at h
   obtain⟨r2,st2,hs2⟩:∃r2 st2,ev M b env st1 =(r2,st2) :=⟨_,_,Prod.eta _ |>.symm⟩
   obtain⟨d1,d2,d3⟩ :=ev_sb O b _ _ _ _ hb hs2
   rw[hs2]at h
   cases r2 with
   |error n =>cases h;exact⟨by omega,O.tr _ _ _ e2 d2,λq hq =>by cases hq⟩
   | ok q =>
    simp only at h
    cases ho:opV op p q with
    |error n =>rw[ho]at h;cases h;exact⟨by omega,O.tr _ _ _ e2 d2,λq hq =>by cases hq⟩
    | ok r3 =>
     rw[ho]at h;cases h
     refine⟨by omega,O.tr _ _ _ e2 d2,λq' hq =>?_⟩
     cases hq
     exact(opV_le (e3 p rfl) (d3 q rfl) ho:r3.lo <=r3.hi)
end
section
variable {σ:Type}
theorem step_ok{fst:Bool}{lo hi:Int}{t:Tr}(h:t.Ok lo hi)(hn:t.next <=hi)(p:Kn){t':Tr}(e:t.step fst p =(t',false)):t'.Ok lo hi/\t'.next =t.next + 1:=by
 obtain⟨h1,h2,h3,h4,h5,h6⟩ :=h
 unfold Tr.step at e
 repeat' split at e
 all_goals (cases e;try exact⟨⟨by simp only;omega,by simp only;omega,by simp only;omega,by simp only;omega,by simp only;omega,by simp only;omega⟩,rfl⟩)
theorem step_fin{fst:Bool}{t:Tr}{p:Kn}(h:p.fin =false):(t.step fst p).1.fin =false:=by
 unfold Tr.step
 repeat' split
 all_goals simp[h]
theorem step_nest{fst:Bool}{lo hi:Int}{t tp tq:Tr}{p q':Kn}{dp dq:Bool}(h:t.Ok lo hi)(_hn:t.next <=hi)(i:q'.In p)(l:q'.lo <=q'.hi)(ep:t.step fst p =(tp,dp))(eq:t.step fst q' =(tq,dq)):
  (dq =true ->Nest fst hi tq (if dp then tp else tp.stop hi))/\ (dq =false ->∀q,Nest fst hi q (tq.stop hi) ->Nest fst hi q (if dp then tp else tp.stop hi)) :=by
 obtain⟨h1,h2,h3,h4,h5,h6⟩ :=h
 obtain⟨i1,i2⟩ :=i
 unfold Tr.step at ep eq
 repeat' split at ep
 all_goals (repeat' split at eq)
 all_goals (cases ep;cases eq)
 all_goals first
  | (exfalso;omega)
  |skip
 all_goals refine⟨λhq =>?_,λhq q hN =>?_⟩
 all_goals first
  | (cases hq;done)
  |skip
 all_goals first
  | (obtain⟨a1,a2,a3,a4⟩ :=hN;simp only[Tr.stop]at a1 a2 a3 a4;refine⟨?_,λhf =>?_,?_,?_⟩ <;>(try have a2':=a2 hf) <;> simp_all only[Tr.stop,if_false,Bool.false_eq_true] <;> omega)
  | (refine⟨?_,λhf =>?_,?_,?_⟩ <;> simp_all only[Tr.stop,if_true,if_false,Bool.false_eq_true] <;> omega)
  | (refine⟨?_,λhf =>?_,?_,?_⟩ <;> simp_all [Tr.stop] <;> omega)
end
section
variable {σ:Type}
def Enf{α:Type}(le:σ ->σ ->Prop)(g:Mst σ ->Res α×Mst σ)(k c:Nat):Prop:=
 ∃r u h,u <=k/\u <=c/\Eff le h/\∀K S,u <=K ->g (K,S)=(r,(K - u,h S))
def Exh{α:Type}(le:σ ->σ ->Prop)(g:Mst σ ->Res α×Mst σ)(k c:Nat)(F:α ->Bool)(N:α ->α ->Prop):Prop:=
 k < c/\∀s,∃ra s1,g (k,s)=(ra,(0,s1))/\∀p,ra =.ok p ->F p =false/\∀K S q K1 S1,k <=K ->le s S ->g (K,S)=(.ok q,(K1,S1)) ->N q p/\le s1 S1
theorem srch_out{f:Int ->Mst σ ->Res Kn×Mst σ}{fst:Bool}{hi:Int}(n:Nat)(t:Tr)(s:σ):xO f fst hi n t (0,s)=(.ok (t.stop hi),(0,s)) :=by
 cases n <;> simp[xO]
theorem srch_T{le:σ ->σ ->Prop}(rf:∀s,le s s)(tr:∀a b c,le a b ->le b c ->le a c){f:Int ->Mst σ ->Res Kn×Mst σ}{fst:Bool}{lo hi:Int}{c:Nat}(hf:Body le f lo hi)
  (HB:∀n k,lo <=n ->n <=hi ->Enf le (f n) k c\/Exh le (f n) k c Kn.fin Kn.In) :
  ∀(n:Nat) (t:Tr) (k:Nat),t.Ok lo hi ->(hi + 1 - t.next).toNat <=n ->Enf le (xO f fst hi n t) k (n * (1 + c))\/Exh le (xO f fst hi n t) k (n * (1 + c)) Tr.fin (Nest fst hi)
 |0,t,k,hk,hn => .inl ⟨.ok (t.stop hi),0,id,Nat.zero_le _,Nat.zero_le _,Eff.id rf,λK S _ =>by simp[xO]⟩
 | n + 1, t,k,hk,hn =>by
  by_cases hg:t.next <=hi
  ·cases k with
   | zero =>
    refine .inr ⟨by rw[Nat.add_mul];omega,λs =>⟨.ok (t.stop hi),s,srch_out _ _ _,?_⟩⟩
    intro p hp
    cases hp
    refine⟨by simp only[Tr.stop,show decide (hi < t.next)=false from by simp;omega,Bool.and_false],?_⟩
    intro K S q K1 S1 _ hl he
    obtain⟨_,e2,e3⟩ :=srch_sb rf tr hf (n + 1) t (K,S) _ _ hk hn he
    exact⟨(e3 q rfl).1,tr _ _ _ hl e2⟩
   | succ k =>
    have hgo:∀K S,0 < K ->xO f fst hi (n + 1) t (K,S)=match f t.next (K - 1,S)with
      | (.error n,st') =>(.error n,st')
      | (.ok q,st') =>match t.step fst q with
       | (t',true) =>(.ok t',st')
       | (t',false) =>xO f fst hi n t' st':=λK S hK =>by rw[xO,if_pos ⟨hg,hK⟩];rfl
    rcases HB t.next k hk.1 hg with⟨r,u,g,u1,u2,hE,hr⟩| ⟨hk2,hx⟩
    ·cases r with
     | error e =>
      refine .inl ⟨.error e,u + 1,g,by omega,by rw[Nat.add_mul];omega,hE,λK S hK =>?_⟩
      rw[hgo K S (by omega),hr (K - 1) S (by omega),show K - 1 - u =K - (u + 1)from by omega]
     | ok q =>
      rcases hs:t.step fst q with⟨t',d⟩
      cases d with
      | true =>
       refine .inl ⟨.ok t',u + 1,g,by omega,by rw[Nat.add_mul];omega,hE,λK S hK =>?_⟩
       rw[hgo K S (by omega),hr (K - 1) S (by omega),show K - 1 - u =K - (u + 1)from by omega]
       simp only[hs]
      | false =>
       obtain⟨hk',hnx⟩ :=step_ok hk hg q hs
       rcases srch_T rf tr hf HB n t' (k - u) hk' zb with⟨r',u',g',v1,v2,hE',hr'⟩| ⟨hk2,hx⟩
       ·refine .inl ⟨r',u + 1 + u',λs =>g' (g s),by omega,by rw[Nat.add_mul];omega,Eff.comp tr hE hE',λK S hK =>?_⟩
        rw[hgo K S (by omega),hr (K - 1) S (by omega)]
        simp only[hs]
        rw[hr' _ _ (by omega),show K - 1 - u - u' =K - (u + 1 + u')from by omega]
       ·refine .inr ⟨by rw[Nat.add_mul];omega,λs =>?_⟩
        obtain⟨ra,s1,hra,hp⟩ :=hx (g s)
        refine⟨ra,s1,?_,λp e =>⟨(hp p e).1,λK S q K1 S1 hK hl he =>?_⟩⟩
        ·rw[hgo (k + 1) s (by omega),Nat.add_sub_cancel,hr k s (by omega)]
         simp only[hs,hra]
        ·rw[hgo K S (by omega),hr (K - 1) S (by omega)]at he
         simp only[hs]at he
         exact(hp p e).2 _ _ _ _ _ zb (hE.mono _ _ hl) he
    ·refine .inr ⟨by rw[Nat.add_mul];omega,λs =>?_⟩
     obtain⟨ra,s1,hra,hp⟩ :=hx s
     cases ra with
     | error e =>
      refine⟨.error e,s1,?_,λp e =>by cases e⟩
      rw[hgo (k + 1) s (by omega),Nat.add_sub_cancel,hra]
     | ok p =>
      obtain⟨hfin,hmore⟩ :=hp p rfl
      rcases hs:t.step fst p with⟨tp,d⟩
      have hfin':tp.fin =false:=by have:=step_fin (fst:=fst) (t:=t) hfin;rwa [hs]at this
      refine⟨.ok (if d then tp else tp.stop hi),s1,?_,?_⟩
      ·rw[hgo (k + 1) s (by omega),Nat.add_sub_cancel,hra]
       cases d <;> simp[hs,srch_out]
      ·intro P hP
       cases hP
       refine⟨by cases d <;> simp[Tr.stop,hfin'],?_⟩
       intro K S q K1 S1 hK hl he
       rw[hgo K S (by omega)]at he
       rcases hb:f t.next (K - 1,S)with⟨rb,kb,sb⟩
       obtain⟨_,_,b3⟩ :=hf _ _ _ _ hk.1 hg hb
       rw[hb]at he
       cases rb with
       |error e =>cases he
       | ok q' =>
        obtain⟨hin,hle⟩ :=hmore (K - 1) S q' kb sb zb hl hb
        rcases hs':t.step fst q' with⟨tq,d'⟩
        simp only[hs']at he
        obtain⟨m1,m2⟩ :=step_nest hk hg hin (b3 q' rfl) hs hs'
        cases d' with
        |true =>cases he;exact⟨m1 rfl,hle⟩
        | false =>
         simp only at he
         obtain⟨hk',hnx⟩ :=step_ok hk hg q' hs'
         obtain⟨_,e2,e3⟩ :=srch_sb rf tr hf n tq (kb,sb) _ _ hk' zb he
         exact⟨m2 rfl q (e3 q rfl).1,tr _ _ _ hle e2⟩
  ·refine .inl ⟨.ok (t.stop hi),0,id,Nat.zero_le _,Nat.zero_le _,Eff.id rf,λK S _ =>?_⟩
   rw[xO,if_neg (λh =>hg h.1)];rfl
theorem ev_T{M:Mem σ}{C:ByteArray ->Prop}{V:ByteArray ->Int ->Env ->Prop}{le:σ ->σ ->Prop}(O:Obl M C V le):
  ∀(e:Ex) (env:Env) (k:Nat),wfE C V e env ->Enf le (ev M e env) k (costE e)\/Exh le (ev M e env) k (costE e) Kn.fin Kn.In
 | .num z,env,k,hw => .inl ⟨_,0,id,Nat.zero_le _,Nat.zero_le _,Eff.id O.rfl,λK S _ =>by rw[ev];rfl⟩
 | .var x,env,k,hw => .inl ⟨_,0,id,Nat.zero_le _,Nat.zero_le _,Eff.id O.rfl,λK S _ =>by rw[ev];rfl⟩
 | .cell x,env,k,hw =>by
  obtain⟨r0,f,h1,h2,h3⟩ :=O.cl x hw
  exact .inl ⟨r0,0,f,Nat.zero_le _,Nat.zero_le _,h2,λK S _ =>by rw[ev,h1];rfl⟩
 | .val x n,env,k,hw =>by
  obtain⟨r0,f,h1,h2,h3⟩ :=O.vl x n env hw
  exact .inl ⟨r0,0,f,Nat.zero_le _,Nat.zero_le _,h2,λK S _ =>by rw[ev,h1];rfl⟩
 | .loop fst x lo hi b,env,k,hw =>by
  obtain⟨_,_,hlh,_,hb⟩ :=hw
  have hbody:Body le (λn st =>ev M b (env ++ [(x,n)]) st) lo hi:=λn st r st' h1 h2 he =>ev_sb O b _ st r st' (hb n h1 h2) he
  have hk:Tr.Ok lo hi ⟨0,0,hi + 1,hi + 1,lo,true⟩ :=⟨Int.le_refl _,hlh,Int.le_refl _,Int.le_refl _,rfl,Int.le_refl _⟩
  rcases srch_T (fst:=fst) O.rfl O.tr hbody (λn k h1 h2 =>ev_T O b (env ++ [(x,n)]) k (hb n h1 h2)) (hi + 1 - lo).toNat ⟨0,0,hi + 1,hi + 1,lo,true⟩ k hk (jJ _)with⟨r,u,g,v1,v2,hE,hr⟩| ⟨hk2,hx⟩
  ·cases r with
   |error e =>exact .inl ⟨.error e,u,g,v1,v2,hE,λK S hK =>by rw[ev,hr K S hK]⟩
   |ok t =>exact .inl ⟨_,u,g,v1,v2,hE,λK S hK =>by rw[ev,hr K S hK]⟩
  ·refine .inr ⟨hk2,λs =>?_⟩
   obtain⟨ra,s1,hra,hp⟩ :=hx s
   cases ra with
   |error e =>exact⟨.error e,s1,by rw[ev,hra],λp e =>by cases e⟩
   | ok t =>
    obtain⟨hfin,hmore⟩ :=hp t rfl
    refine⟨_,s1,by rw[ev,hra],?_⟩
    intro p hp
    cases hp
    refine⟨by cases fst <;> exact hfin,?_⟩
    intro K S q K1 S1 hK hl he
    rw[ev]at he
    rcases hb:xO (λn st =>ev M b (env ++ [(x,n)]) st) fst hi (hi + 1 - lo).toNat ⟨0,0,hi + 1,hi + 1,lo,true⟩ (K,S)with⟨rb,kb,sb⟩
    rw[hb]at he
    cases rb with
    |error e =>cases he
    | ok q' =>
     cases he
     obtain⟨⟨a1,a2,a3,a4⟩,hle⟩ :=hmore K S q' K1 S1 hK hl hb
     refine⟨?_,hle⟩
     cases fst
     ·exact⟨a1,a2 rfl⟩
     ·exact⟨a3,a4⟩
 | .bin op a b,env,k,hw =>by
  obtain⟨_,ha,hb⟩ :=hw
  have hgo:∀K S,ev M (.bin op a b) env (K,S)=match ev M a env (K,S)with
    | (.error n,st') =>(.error n,st')
    | (.ok p,st') =>match ev M b env st' with
     | (.error n,st2) =>(.error n,st2)
     | (.ok q,st2) =>match opV op p q with
      | .error n =>(.error n,st2)
      | .ok r =>(.ok ⟨r.lo,r.hi,p.fin && q.fin⟩,st2) :=λK S =>by rw[ev];rfl
  rcases ev_T O a env k ha with⟨r,u,g,v1,v2,hE,hr⟩| ⟨hk2,hx⟩
  ·cases r with
   |error e =>exact .inl ⟨.error e,u,g,v1,jK v2 (Nat.le_add_right _ _),hE,λK S hK =>by rw[hgo,hr K S hK]⟩
   | ok p =>
    rcases ev_T O b env (k - u) hb with⟨r',u',g',w1,w2,hE',hr'⟩| ⟨hk2,hx⟩
    ·have key:∀K S,u + u' <=K ->ev M (.bin op a b) env (K,S)=match (r',(K - (u + u'),g' (g S)))with
      | (.error n,st2) =>(.error n,st2)
      | (.ok q,st2) =>match opV op p q with
       | .error n =>(.error n,st2)
       | .ok r =>(.ok ⟨r.lo,r.hi,p.fin && q.fin⟩,st2) :=λK S hK =>by
      rw[hgo,hr K S (by omega)]
      simp only
      rw[hr' (K - u) (g S) (by omega),show K - u - u' =K - (u + u')from by omega]
      rfl
     have hc:u + u' <=costE (.bin op a b) :=Nat.add_le_add v2 w2
     cases r' with
     |error e =>exact .inl ⟨.error e,u + u',_,by omega,hc,Eff.comp O.tr hE hE',λK S hK =>by rw[key K S hK]⟩
     | ok q =>
      cases ho:opV op p q with
      |error e =>exact .inl ⟨.error e,u + u',_,by omega,hc,Eff.comp O.tr hE hE',λK S hK =>by rw[key K S hK];simp only[ho]⟩
      |ok r =>exact .inl ⟨_,u + u',_,by omega,hc,Eff.comp O.tr hE hE',λK S hK =>by rw[key K S hK];simp only[ho];rfl⟩
    ·refine .inr ⟨by simp only[costE];omega,λs =>?_⟩
     obtain⟨ra,s1,hra,hp⟩ :=hx (g s)
     have h1:ev M (.bin op a b) env (k,s)=match (ra,((0:Nat),s1))with
      | (.error n,st2) =>(.error n,st2)
      | (.ok q,st2) =>match opV op p q with
       | .error n =>(.error n,st2)
       | .ok r =>(.ok ⟨r.lo,r.hi,p.fin && q.fin⟩,st2) :=by rw[hgo,hr k s v1];simp only;rw[hra];rfl
     cases ra with
     |error e =>exact⟨.error e,s1,h1,λp e =>by cases e⟩
     | ok q =>
      obtain⟨hfin,hmore⟩ :=hp q rfl
      simp only at h1
      cases ho:opV op p q with
      |error e =>rw[ho]at h1;exact⟨.error e,s1,h1,λp e =>by cases e⟩
      | ok r =>
       rw[ho]at h1
       refine⟨_,s1,h1,?_⟩
       intro P hP
       cases hP
       refine⟨by simp only[hfin,Bool.and_false],?_⟩
       intro K S q' K1 S1 hK hl he
       rw[hgo,hr K S (by omega)]at he
       simp only at he
       rcases hb2:ev M b env (K - u,g S)with⟨rb,kb,sb⟩
       rw[hb2]at he
       cases rb with
       |error e =>cases he
       | ok q2 =>
        simp only at he
        cases ho2:opV op p q2 with
        |error e =>rw[ho2]at he;cases he
        | ok r2 =>
         rw[ho2]at he;cases he
         obtain⟨hin,hle⟩ :=hmore (K - u) (g S) q2 K1 S1 zb (hE.mono _ _ hl) hb2
         have l1:=(ev_sb O a env (k,s) _ _ ha (hr k s v1)).2.2 p rfl
         have l2:=(ev_sb O b env (K - u,g S) _ _ hb hb2).2.2 q2 rfl
         exact⟨(opV_in l1 l2 ⟨Int.le_refl _,Int.le_refl _⟩ hin ho ho2:r2.In r),hle⟩
  ·refine .inr ⟨by simp only[costE];omega,λs =>?_⟩
   obtain⟨ra,s1,hra,hp⟩ :=hx s
   cases ra with
   |error e =>exact⟨.error e,s1,by rw[hgo,hra],λp e =>by cases e⟩
   | ok p =>
    obtain⟨hfin,hmore⟩ :=hp p rfl
    have T0:=ev_T O b env 0 hb
    rcases hb1:ev M b env (0,s1)with⟨rb,kb,sb⟩
    have h1:ev M (.bin op a b) env (k,s)=match (rb,(kb,sb))with
      | (.error n,st2) =>(.error n,st2)
      | (.ok q,st2) =>match opV op p q with
       | .error n =>(.error n,st2)
       | .ok r =>(.ok ⟨r.lo,r.hi,p.fin && q.fin⟩,st2) :=by rw[hgo,hra];simp only;rw[hb1];rfl
    obtain rfl:kb =0:=by
     have:=(ev_sb O b env (0,s1) _ _ hb hb1).1
     simp only at this;omega
    cases rb with
    |error e =>exact⟨.error e,sb,h1,λp e =>by cases e⟩
    | ok q =>
     simp only at h1
     cases ho:opV op p q with
     |error e =>rw[ho]at h1;exact⟨.error e,sb,h1,λp e =>by cases e⟩
     | ok r =>
      rw[ho]at h1
      refine⟨_,sb,h1,?_⟩
      intro P hP
      cases hP
      refine⟨by simp only[hfin,Bool.false_and],?_⟩
      intro K S q' K1 S1 hK hl he
      rw[hgo]at he
      rcases ha2:ev M a env (K,S)with⟨ra2,ka,sa⟩
      rw[ha2]at he
      cases ra2 with
      |error e =>cases he
      | ok p2 =>
       simp only at he
       obtain⟨hin,hle⟩ :=hmore K S p2 ka sa hK hl ha2
       rcases hb2:ev M b env (ka,sa)with⟨rb2,kb2,sb2⟩
       rw[hb2]at he
       cases rb2 with
       |error e =>cases he
       | ok q2 =>
        simp only at he
        cases ho2:opV op p2 q2 with
        |error e =>rw[ho2]at he;cases he
        | ok r2 =>
         rw[ho2]at he;cases he
         have l1:=(ev_sb O a env (K,S) _ _ ha ha2).2.2 p2 rfl
         have l2:=(ev_sb O b env (ka,sa) _ _ hb hb2).2.2 q2 rfl
         have:q2.In q/\le sb S1:=by
          rcases T0 with⟨r0,u0,g0,w1,w2,hE0,hr0⟩| ⟨_,hx0⟩
          ·obtain rfl:u0 =0:=by omega
           have a1:=hr0 0 s1 (jJ _)
           have a2:=hr0 ka sa (Nat.zero_le _)
           rw[hb1]at a1
           rw[hb2]at a2
           cases a1
           cases a2
           exact⟨⟨Int.le_refl _,Int.le_refl _⟩,hE0.mono _ _ hle⟩
          ·obtain⟨ra0,s0,hra0,hp0⟩ :=hx0 s1
           rw[hb1]at hra0
           cases hra0
           exact(hp0 q rfl).2 ka sa q2 K1 S1 (Nat.zero_le _) hle hb2
         exact⟨(opV_in l1 l2 hin this.1 ho ho2:r2.In r),this.2⟩
end
section
variable {σ:Type}
def Kn.Le(q:Kn)(B:Nat):Prop:=q.lo.natAbs <=B/\q.hi.natAbs <=B
end
/-! ### Cells and entries -/
structure qL where
 name:ByteArray
 lo:Int
 hi:Int
 fin:Bool
 hyps:List Int
 err:Int
structure EnD where
 vals:List Int
 hyps:List Int
def leG(s S:Lg):Prop:=∀x∈s.1,x∈S.1
theorem eff_app(a:List (List UInt8))(b:List Int):Eff leG (λs:Lg =>(s.1 ++a,s.2 ++b)) :=
 ⟨fun s x hx =>List.mem_append_left _ hx,λs S h x hx =>by
  simp only[List.mem_append]at hx ⊢
  exact hx.imp (h x) id⟩
def clG(cs:List qL)(x:ByteArray)(s:Lg):Res Kn×Lg:=match cs.find? (λc =>c.name ==x)with
 |none =>(.error 440,s)
 |some c =>(if c.err =0 then .ok ⟨c.lo,c.hi,c.fin⟩else .error c.err,(s.1,s.2 ++c.hyps))
def vlG(bst:List UInt8 ->Option EnD)(fl:ByteArray ->Env ->ByteArray)(x:ByteArray)(n:Int)(env:Env)(s:Lg):Res Kn×Lg:=match bst (fl x env).data.toList with
 |none =>(.error 6,(s.1 ++ [(fl x env).data.toList],s.2))
 |some d =>((match d.vals[n.toNat]? with|some v => .ok ⟨v,v,true⟩|none => .error 6),(s.1 ++ [(fl x env).data.toList],s.2 ++d.hyps))
def xQ(cs:List qL)(bst:List UInt8 ->Option EnD)(fl:ByteArray ->Env ->ByteArray):Mem Lg:=⟨clG cs,vlG bst fl⟩
def cellOk(SI:List Int)(cs:List qL):Prop:=∀c∈cs,c.lo <=c.hi/\ (Kn.mk c.lo c.hi true).Le 4294967296/\∀h∈c.hyps,h∈SI
theorem oblG{SI:List Int}{cs:List qL}{bst:List UInt8 ->Option EnD}{fl:ByteArray ->Env ->ByteArray}{C:ByteArray ->Prop}{V:ByteArray ->Int ->Env ->Prop}(hc:cellOk SI cs):Obl (xQ cs bst fl) C V leG where
 rfl:=λs x hx =>hx
 tr:=λa b c h1 h2 x hx =>h2 x (h1 x hx)
 cl :=λx _ =>by
  cases hf:cs.find? (λc =>c.name ==x)with
  |none =>exact⟨.error 440,λs =>(s.1 ++ [],s.2 ++ []),λs =>by simp[xQ,clG,hf],eff_app _ _,λq hq =>by cases hq⟩
  | some c =>
   refine⟨if c.err =0 then .ok ⟨c.lo,c.hi,c.fin⟩else .error c.err,λs =>(s.1 ++ [],s.2 ++c.hyps),λs =>by simp[xQ,clG,hf],eff_app _ _,λq hq =>?_⟩
   split at hq <;> cases hq
   exact(hc c (List.mem_of_find?_eq_some hf)).1
 vl :=λx n env _ =>by
  cases hf:bst (fl x env).data.toList with
  |none =>exact⟨.error 6,λs =>(s.1 ++ [(fl x env).data.toList],s.2 ++ []),λs =>by simp[xQ,vlG,hf],eff_app _ _,λq hq =>by cases hq⟩
  | some d =>
   refine⟨match d.vals[n.toNat]? with|some v => .ok ⟨v,v,true⟩|none => .error 6,λs =>(s.1 ++ [(fl x env).data.toList],s.2 ++d.hyps),λs =>by simp[xQ,vlG,hf],eff_app _ _,λq hq =>?_⟩
   split at hq <;> cases hq
   exact Int.le_refl _
theorem more_law{M:Mem Lg}{C:ByteArray ->Prop}{V:ByteArray ->Int ->Env ->Prop}(O:Obl M C V leG){e:Ex}(hw:wfE C V e []){few many:Nat}(h:few <=many){ra rb:Res Kn}{ka kb:Nat}{sa sb:Lg}
  (ha:ev M e [] (few,([], []))=(ra,(ka,sa))) (hb:ev M e [] (many,([], []))=(rb,(kb,sb))) :
  ka <=few/\kb <=many/\∀p q,ra =.ok p ->rb =.ok q ->p.lo <=p.hi/\q.In p/\leG sa sb/\ (p.fin =false ->ka =0\/ (p =q/\sa =sb))/\ (p.fin =true ->p =q/\sa =sb/\few - ka =many - kb) :=by
 obtain⟨a1,_,a3⟩ :=ev_sb O e [] _ _ _ hw ha
 obtain⟨b1,_,b3⟩ :=ev_sb O e [] _ _ _ hw hb
 refine⟨a1,b1,λp q hp hq =>⟨a3 p hp,?_⟩⟩
 subst hp
 subst hq
 rcases ev_T O e [] few hw with⟨r,u,f,h1,h2,hE,hr⟩| ⟨hk,hx⟩
 ·have e1:=hr few ([], []) h1
  have e2:=hr many ([], []) zb
  rw[ha]at e1
  rw[hb]at e2
  simp only[Prod.mk.injEq]at e1 e2
  obtain⟨c1,c2,c3⟩ :=e1
  obtain⟨d1,d2,d3⟩ :=e2
  have hpq:p =q:=by rw[<-d1]at c1;cases c1;rfl
  subst hpq
  have hss:sa =sb:=by rw[c3,d3]
  subst hss
  exact⟨⟨Int.le_refl _,Int.le_refl _⟩,λx hx =>hx,λ_ => .inr ⟨rfl,rfl⟩,λ_ =>⟨rfl,rfl,by omega⟩⟩
 ·obtain⟨ra,s1,hra,hm⟩ :=hx ([], [])
  rw[ha]at hra
  simp only[Prod.mk.injEq]at hra
  obtain⟨rfl,rfl,rfl⟩ :=hra
  obtain⟨hf,hm⟩ :=hm p rfl
  obtain⟨hin,hle⟩ :=hm many ([], []) q kb sb h (λx hx =>hx) hb
  exact⟨hin,hle,λ_ => .inl rfl,λht =>by rw[hf]at ht;cases ht⟩
/-! ### Trees -/
def fillOk(x:ByteArray)(env:Env):Prop:=x.size <=16/\env.length <=4/\∀p∈env,p.1.size <=16/\ -100 <=p.2/\p.2 <=161
def VG(SS:List (List UInt8))(fl:ByteArray ->Env ->ByteArray)(x:ByteArray)(n:Int)(env:Env):Prop:=0 <=n/\n <=9/\ (fl x env).data.toList∈SS/\fillOk x env
def hdOk(x:ByteArray):Prop:=∃c t,x.data.toList =c ::t/\c≠122/\c≠123
def wfT:Nat ->List ByteArray ->Ex ->Prop
 |_,_,.num z => -900 <=z/\z <=64125
 |_,bs,.var x =>x∈bs
 |_,_,.cell _ =>True
 |_,_,.val x n =>0 <=n/\n <=2/\x.size <=16/\hdOk x
 |d + 1,bs,.loop _ x lo hi b =>x.size <=16/\ -100 <=lo/\lo <=155/\lo <=hi/\hi <=lo + 6/\wfT d (bs ++ [x]) b
 |d + 1,bs,.bin op a b =>(op =4\/op =5\/op =6\/op =7\/op =8\/op =12\/op =13)/\wfT d bs a/\wfT d bs b
 |0,_,.loop _ _ _ _ _ =>False
 |0,_,.bin _ _ _ =>False
def xJ(fl:ByteArray ->Env ->ByteArray):Ex ->Env ->List (List UInt8)
 | .val x _,env => [(fl x env).data.toList]
 | .loop _ x lo hi b,env =>(List.range (hi + 1 - lo).toNat).flatMap λi =>xJ fl b (env ++ [(x,lo + (i:Nat))])
 | .bin _ a b,env =>xJ fl a env ++xJ fl b env
 |_,_ => []
theorem flatMap_len{α β:Type}(c:Nat)(f:α ->List β):∀(l:List α),(∀x∈l,(f x).length <=c) ->(l.flatMap f).length <=l.length * c
 | [],_ =>by simp
 | a ::l,h =>by
  have:=flatMap_len c f l λx hx =>h x (List.mem_cons_of_mem _ hx)
  have:=h a List.mem_cons_self
  simp only[List.flatMap_cons,jM,List.length_cons,Nat.add_mul]
  omega
theorem namesE_len(fl:ByteArray ->Env ->ByteArray):∀(d:Nat) (bs:List ByteArray) (e:Ex) (env:Env),wfT d bs e ->(xJ fl e env).length <=7 ^ d
 |d,bs,.num z,env,h =>by simp[xJ]
 |d,bs,.var x,env,h =>by simp[xJ]
 |d,bs,.cell x,env,h =>by simp[xJ]
 |d,bs,.val x n,env,h =>by simp only[xJ,List.length_singleton];exact Nat.pow_pos dcx
 | d + 1,bs,.loop fst x lo hi b,env,h =>by
  simp only[wfT]at h
  obtain⟨_,h1,h2,h3,h4,hb⟩ :=h
  rw[xJ]
  refine jK (flatMap_len (7 ^ d) _ _ λi _ =>namesE_len fl d _ b _ hb) ?_
  rw[List.length_range,Nat.pow_succ,Nat.mul_comm]
  exact Nat.mul_le_mul_left _ zb
 | d + 1,bs,.bin op a b,env,h =>by
  simp only[wfT]at h
  have h1:=namesE_len fl d bs a env h.2.1
  have h2:=namesE_len fl d bs b env h.2.2
  rw[xJ,jM,Nat.pow_succ]
  omega
theorem look_mem:∀(env:Env) (x:ByteArray),env.any (λp =>p.1 ==x)=true ->∃p∈env,p.2 =look env x
 | [],x,h =>by cases h
 | (y,k) ::t,x,h =>by
  rw[look]
  by_cases c:t.any (λp =>p.1 ==x)=true
  ·rw[if_pos c]
   obtain⟨p,h1,h2⟩ :=look_mem t x c
   exact⟨p,List.mem_cons_of_mem _ h1,h2⟩
  ·rw[if_neg c]
   exact⟨(y,k),List.mem_cons_self,rfl⟩
theorem wfE_of{SS:List (List UInt8)}{fl:ByteArray ->Env ->ByteArray}:∀(d:Nat) (bs:List ByteArray) (e:Ex) (env:Env),wfT d bs e ->env.map Prod.fst =bs ->env.length + d <=4 ->(∀p∈env,p.1.size <=16/\ -100 <=p.2/\p.2 <=161) ->
  (∀y∈xJ fl e env,y∈SS) ->wfE (λ_ =>True) (VG SS fl) e env
 | d,bs,.num z,env,h,hb,hl,hp,hS =>by
  simp only[wfT]at h
  simp only[wfE]
  exact Nat.lt_of_le_of_lt (show z.natAbs <=4294967296 ^ 1 by simp only[Nat.pow_one];omega) (Nat.pow_lt_pow_right dcx dcx)
 | d,bs,.var x,env,h,hb,hl,hp,hS =>by
  simp only[wfT]at h
  rw[<-hb]at h
  obtain⟨p,h1,h2⟩ :=List.mem_map.1 h
  have ha:env.any (λp =>p.1 ==x)=true:=List.any_eq_true.2 ⟨p,h1,by rw[h2,ba_beq];simp⟩
  obtain⟨q,h3,h4⟩ :=look_mem env x ha
  have:=hp q h3
  exact⟨ha,by omega,by omega⟩
 |d,bs,.cell x,env,h,hb,hl,hp,hS =>trivial
 | d,bs,.val x n,env,h,hb,hl,hp,hS =>by
  simp only[wfT]at h
  exact⟨h.1,by have:=h.2.1;omega,hS _ (by simp[xJ]),h.2.2.1,by omega,hp⟩
 | d + 1,bs,.loop fst x lo hi b,env,h,hb,hl,hp,hS =>by
  simp only[wfT]at h
  obtain⟨hx,h1,h2,h3,h4,hw⟩ :=h
  refine⟨by omega,by omega,by omega,by omega,λn n1 n2 =>?_⟩
  refine wfE_of d (bs ++ [x]) b _ hw (by simp[hb]) (by simp;omega) (λp hp' =>?_) (λy hy =>hS y ?_)
  ·rcases List.mem_append.1 hp' with h|h
   ·exact hp p h
   ·rw[List.mem_singleton.1 h];exact⟨hx,by simp only;omega,by simp only;omega⟩
  ·rw[xJ,List.mem_flatMap]
   refine⟨(n - lo).toNat,by rw[List.mem_range];omega,?_⟩
   rw[show lo + ((n - lo).toNat:Int)=n by omega]
   exact hy
 | d + 1,bs,.bin op a b,env,h,hb,hl,hp,hS =>by
  simp only[wfT]at h
  simp only[xJ,List.mem_append]at hS
  exact⟨h.1,wfE_of d bs a env h.2.1 hb zb hp (λy hy =>hS y (.inl hy)),wfE_of d bs b env h.2.2 hb zb hp (λy hy =>hS y (.inr hy))⟩
theorem rwz_run(w:World):(Instr.buildSlice 41 0 #[]).run prog w =.ok (.slice (some ⟨w.heap.size,0,none⟩) 0 0) (w.alloc (.cells #[] 3)) :=by go_simp
theorem Rwg.zero(w:World){base:Nat}(hb:base <=w.heap.size):Rwg 3 1 base (w.alloc (.cells #[] 3)) (.slice (some ⟨w.heap.size,0,none⟩) 0 0) 0 [] :=by
 refine⟨by simp,.inr ⟨w.heap.size,0,#[],rfl,hb,World.alloc_heap_new _ _,?_,?_,?_,?_⟩⟩
 all_goals simp
theorem rowOf{T:TypeId}(h:((prog.underlying T).any (·.isRow))=true):∃d,prog.underlying T =some d/\d.isRow =true:=by
 cases hq:prog.underlying T with
 |none =>rw[hq]at h;cases h
 |some d =>rw[hq]at h;exact⟨d,rfl,h⟩
theorem setCellsL:∀(us:List Value) (W:World) (g j:Nat),W.setCells g j us =xD W g j us
 | [],W,g,j =>rfl
 | u ::us,W,g,j =>by
  unfold xD
  rw[<-setCellsL us]
  rfl
theorem ldM{T m:Nat}(hu:((prog.underlying T).any (·.isRow))=true)(hi:(prog.info? T).map (·.size)=some m){w:World}{g f:Nat}{vs:List Value}(hl:vs.length =m)(hc:∀j v,vs[j]? =some v ->World.cell? w ⟨g,f + j,none⟩=some v):(Instr.loadAt T (.pointer (some ⟨g,f,none⟩))).run prog w =.ok (.agg vs.toArray) w:=by
 obtain⟨d,h1,h2⟩ :=rowOf hu
 exact run_loadAt_mid w g f T vs d hc h1 h2 (by rw[hl];exact hi)
theorem stM{T m:Nat}(hi:(prog.info? T).map (·.size)=some m):StV prog T m:=λw g vs us hl hl' h1 B =>by
 have ht:w.there g 0 us.toArray.size:=λj hj =>by
  have hj':j < vs.length:=by simp at hj;omega
  rw[Nat.zero_add]
  exact⟨by rw[B.c j _ (List.getElem?_eq_getElem hj')];rfl,B.f j⟩
 rw[run_storeAt_mid w g 0 T us.toArray ht (by simp only[List.size_toArray];rw[hl'];exact hi) (by simpa using h1),setCellsL]
theorem lvM{T m:Nat}(hu:((prog.underlying T).any (·.isRow))=true)(hi:(prog.info? T).map (·.size)=some m){w:World}{g:Nat}{vs:List Value}(hl:vs.length =m)(B:Bk w g vs):(loadVar T ⟨g,0,none⟩).run prog w =.ok (.agg vs.toArray) w:=by
 obtain⟨d,h1,h2⟩ :=rowOf hu
 exact run_loadVar_mid w g 0 T vs d (λj v hj =>by rw[Nat.zero_add];exact B.c j v hj) h1 h2 (by rw[hl];exact hi)
theorem resC{P:Program}{fn:Func}{a:Tmp}{t:TypeId}{tmps:Array Value}{w:World}{p:Addr}{v:Value}(h:fn.results = #[.cell a t])(ha:tmps.getD a undef =.pointer (some p))(hl:(loadVar t p).run P w =.ok v w):(results fn tmps).run P w =.ok v w:=by
 have ha':tmps[a]?.getD undef =.pointer (some p) :=by simpa using ha
 simp[results,h,ha',hl,asAddr]
end
end Go.Proofs.YtkeikfekkdplgaaGreatDoor
