/-
 Package density: Local, at a prime.
 Package genus: odd, special.
 Rows that a call makes by append, of elements of any size: reading, keeping, and the append itself.
-/
import Derived.Test.YtknffgdbdadpcaaGreatDoorDen23
import Derived.Test.YtknffgdbdadpcaaGreatDoorPrt
import Derived.Maps.AppendAt
import Derived.RangeFuncBox
import Derived.Test.YtknffgdbdadpcaaGreatDoorAdd
import Derived.Test.YtknffgdbdadpcaaGreatDoorRg
namespace Go.Proofs.YtknffgdbdadpcaaGreatDoor
open Go Go.RowKit Go.Shelf
open Go.Proofs.Tryz
theorem zy{P:Prop}(h:P:=by have:=HG.out;omega):P:=h
theorem zaw{P:Prop}(h:P:=by simp[results,results10,go_sem,c1,c2]):P:=h
theorem zc2{P:Prop}(h:P:=by have:=V2.2;rw[<-hWps]at this;exact this):P:=h
theorem zc5{P:Prop}(h:P:=by rw[<-hWp];exact(Ext.refl _).alloc _):P:=h
set_option maxRecDepth 100000
set_option maxHeartbeats 4000000
attribute [local go_sem] Oper.semAt_some
theorem VarAt.set_other{g g2 n0:Nat}{W0 W:World}{v:Value}(h:VarAt g n0 W0 v W)(hg:n0<=g2)(hne:g≠g2)(u:Value):VarAt g n0 W0 v (W.setCell ⟨g2,0,none⟩ u):=
 ⟨⟨(World.cell?_setCell_other (w:=W) _ _ _ (by intro h;injection h with h1;exact hne h1.symm)).trans h.1.1,by rw[World.frozen?_setCell];exact h.1.2⟩,h.2.setCell hg u⟩
theorem no_mem_lk(g:Nat->Nat->Int)(p:Nat):∀l:List (Nat×Nat),(∀y∈l,y.1≠p)->lkP g p l=1
 | [],_=>rfl
 | x ::l,h=>by
  unfold lkP;rw[if_neg (h x (List.mem_cons_self ..))];exact no_mem_lk g p l λy hy=>h y (List.mem_cons_of_mem _ hy)
def LocI(p g n0:Nat)(W0:World)(pre:List (Nat×Nat))(W:World):Prop:=(∀y∈pre,y.1≠p)/\VarAt g n0 W0 (.int .i64 0) W/\VarAt (g+1) n0 W0 (.int .i64 0) W
def LocX(g n0:Nat)(W0:World)(res:Int)(q:Code)(_:List (Nat×Nat))(W:World):Prop:=q=.ret/\VarAt g n0 W0 (.int .i64 res) W/\VarAt (g+1) n0 W0 (.int .i64 0) W
theorem Local_e{k1 k2 n L m p:Nat}{z:Int}{x y:Value}{w:World}(HZ:Hid (z= -(n:Int)))(hx:IsI k1 z x w)(hy:IsI k2 (m:Int) y w)(hk:k1<=16777216/\k2<=16777216)(hs:Sg w)(hn:1<=n/\n<=4194304/\(n%4=0\/n%4=3))(hL:L*L<=n/\n<(L+1)*(L+1))
  (hu:unsE (cdB n L) (m:Int)=0) (hm:0<m/\m<=1048576) (hp:Pr p) (hp2:p<1048576) (hIs:∀x w',Ext w w'->IsI 2 (p:Int) x w'->Calls prog 40 #[x] w' (Ret w' (IsT2 (IsV (.bool true)) (iV 0)))):
  Calls prog 10 #[x,y,.int .i64 (p:Int)] w (Ret w (IsT2 (iV (qV (kr z) p (vl p m))) (iV 0))):=by
 have HN:=hid hn;have HL:=hid hL;have HU:=hid hu;have HK:=hid hk;have HM:=hid hm;have HS:=hid hs;have HP:=hid (zJ hp hp2);have HZB:=hid (show -9223372036854775808<=z/\z<=9223372036854775807 by have:=HZ.out;omega);have HPB:=hid (show(-9223372036854775808<=(p:Int)/\(p:Int)<=9223372036854775807)/\decide ((1048576:Int)<=(p:Int))=false/\0<p from⟨by omega,by simp;omega,by have:=hp.1;omega⟩);clear hn hL hu hk hs hm hp hp2;obtain⟨s1,a1,n1,c1,rfl,h1⟩:=hx;obtain⟨s2,a2,n2,c2,rfl,h2⟩:=hy;have h1:IsI k1 z (.agg #[.bool s1,.slice a1 n1 c1]) w:=⟨_,_,_,_,rfl,h1⟩;have h2:IsI k2 (m:Int) (.agg #[.bool s2,.slice a2 n2 c2]) w:=⟨_,_,_,_,rfl,h2⟩
 obtain⟨W,hW,S⟩:∃W,W=(w.alloc (.cells #[.bool s1,.slice a1 n1 c1] 33)).alloc (.cells #[.bool s2,.slice a2 n2 c2] 33)/\Sto w W [((w.heap.size+1,0),IsI k2 (m:Int)),((w.heap.size,0),IsI k1 z)]:=
  ⟨_,rfl,((Sto.start w).new1 (w.heap.size) zh s1 a1 n1 c1 33 _ (IsI.gstb _ _) h1).new1 (w.heap.size+1) zh s2 a2 n2 c2 33 _ (IsI.gstb _ _) (h2.ext ((Ext.refl _).alloc _))⟩
 clear h1 h2;have hWs:W.heap.size=w.heap.size+2:=zde
 refine jI func10 rfl ?_;simp only[ntmps10,List.size_toArray,List.length_cons,List.length_nil,Nat.reduceAdd,Nat.reduceSub,Array.replicate_succ,Array.replicate_zero,List.push_toArray,List.append_toArray,List.nil_append,List.cons_append];go_upto_region 1 with fail;rw[<-hW];clear hW;obtain⟨Wp,hWp⟩:∃Wp,W.alloc (.cells #[.int .i64 (p:Int)] 3)=Wp:=⟨_,rfl⟩;have S1:Sto w Wp _:=S.mono zc5
 have C5:World.cell? Wp ⟨w.heap.size+1+1,0,none⟩=some (.int .i64 (p:Int)):=by
  have:=Boxed.new W 3 (.int .i64 (p:Int));rw[hWs,hWp]at this;exact this.cell
 have hWps:Wp.heap.size=w.heap.size+1+1+1:=by rw[<-hWp];simp;omega
 rw[hWp];clear hWp hWs S;obtain⟨W1,hW2⟩:∃W1,(Wp.alloc (.cells #[.int .i64 0] 3)).alloc (.cells #[.int .i64 0] 37)=W1:=⟨_,rfl⟩
 have V2:VarAt (w.heap.size+1+1+1) (w.heap.size+1+1+1) Wp (.int .i64 0) W1:=by
  have bV:=Boxed.new Wp 3 (.int .i64 0);rw[hWps]at bV;rw[<-hW2];refine⟨⟨(bV.alloc _).cell,(bV.alloc _).frozen⟩,?_⟩;rw[<-hWps];exact((Ext.refl _).alloc _).alloc _
 have U2:VarAt (w.heap.size+1+1+1+1) (w.heap.size+1+1+1) Wp (.int .i64 0) W1:=by
  have bV:=Boxed.new (Wp.alloc (.cells #[.int .i64 0] 3)) 37 (.int .i64 0);rw[World.size_alloc,hWps]at bV;rw[<-hW2];refine⟨⟨bV.cell,bV.frozen⟩,?_⟩;rw[<-hWps];exact((Ext.refl _).alloc _).alloc _
 rw[hW2];clear hW2;obtain⟨g,hg⟩:∃g,w.heap.size+1+1+1=g:=⟨_,rfl⟩;rw[hg]at V2 U2 hWps;have E2:Ext Wp W1:=zc2
 have S2:=S1.mono E2;obtain⟨s1,a1,n1,c1,B1,h1⟩:=S2.at 1 _ _ _ rfl;obtain⟨s2,a2,n2,c2,B2,h2⟩:=S2.at 0 _ _ _ rfl;have L1a:World.cell? W1 ⟨w.heap.size,0,none⟩=some (.bool s1):=B1.c0;have L1b:World.cell? W1 ⟨w.heap.size,1,none⟩=some (.slice a1 n1 c1):=B1.c1;have L2a:World.cell? W1 ⟨w.heap.size+1,0,none⟩=some (.bool s2):=B2.c0;have L2b:World.cell? W1 ⟨w.heap.size+1,1,none⟩=some (.slice a2 n2 c2):=B2.c1;have L5:=Ext.cell E2 C5;clear B1 B2;have hcon:=jC (x:=.agg #[.bool s1,.slice a1 n1 c1]) (by rw[<-HZ.out];exact h1) h2 HK.out.1 HK.out.2 HN.out HL.out;rw[HU.out]at hcon;go_upto_region 4 with(go_at_call 39;refine zC hcon ?_;rintro e w3 ⟨_,rfl,E3,rfl⟩);have L5a:=Ext.cell E3 L5;have hOf:=xT w3 (p:Int) HPB.out.1.1 HPB.out.1.2;go_upto_region 5 with(first| (go_at_call 41;refine zC hOf ?_;rintro e w4 ⟨xp,rfl,E4,hxp⟩)| (go_at_call 40;refine zC (hIs _ _ ((S2.ext.trans E3).trans E4) hxp) ?_;rintro e w5 ⟨_,rfl,E5,_,_,rfl,rfl,rfl⟩));have L5b:=Ext.cell E5 (Ext.cell E4 L5a);have hdec:=HPB.out.2.1;go_upto_region 7 with fail;have E35:Ext W1 w5:=(E3.trans E4).trans E5;have V5:=V2.ext E35 (zN zb E2.size);have U5:=U2.ext E35 (zN zb E2.size);have L2a':=Ext.cell E35 L2a;have L2b':=Ext.cell E35 L2b;have h2':=IsI.stb _ _ _ _ _ E35 h2;have HMB:=hid (show -9223372036854775808<=(m:Int)/\(m:Int)<=9223372036854775807 by have:=HM.out;omega);clear hdec hOf hcon L5a L5b hxp E3 E4 E5;go_wp2_with (first| (go_at_call 42;refine zC (Low_t h2' HMB.out.1 HMB.out.2) ?_;rintro e w6 ⟨_,rfl,E6,_,_,rfl,rfl,rfl⟩)| (go_at_call 43;refine zC (powers_c _ _) ?_;rintro e w7 ⟨rfl,rfl⟩))
 have hg5:g+1<w5.heap.size:=World.block_lt_of_cell? _ _ U5.1.1;have hs5:Wp.heap.size<=w5.heap.size:=zN E2.size E35.size;obtain⟨W7,hW7⟩:∃W7,w6.alloc (.cells #[.int .i64 (m:Int)] 2)=W7:=⟨_,rfl⟩;have E7:Ext w5 W7:=by rw[<-hW7];exact E6.alloc _
 have V7:=V5.ext E7 zb;have U7:=U5.ext E7 zb;have hX:=powers1_in Fence.wide 8 trivial rfl dcx (w6.alloc (.cells #[.int .i64 (m:Int)] 2)) w6.heap.size m HM.out.1 (by have:=HM.out.2;omega) zh zh;have hs7:W7.heap.size=w6.heap.size+1:=by rw[<-hW7];simp
 have hs6:w5.heap.size<=w6.heap.size:=E6.size;rw[hW7]at hX;rw[hW7];have E27:Ext Wp W7:=E2.trans (E35.trans E7);have VV:VarAt g g W7 (.int .i64 0) W7:=⟨V7.1,Below.refl _ _⟩;have UU:VarAt (g+1) g W7 (.int .i64 0) W7:=⟨U7.1,Below.refl _ _⟩;clear hW7 V2 U2 V5 U5 V7 U7 L1a L1b L2a L2b L5 h1 h2 L2a' L2b' h2' S2 E6 E7 E35;generalize w6.heap.size=c at*;have HG:=hid (show w.heap.size+1+1+1=g/\g+1<c/\W7.heap.size=c+1/\Wp.heap.size=g by omega);clear hg hg5 hs5 hs7 hs6 hWps
 refine wpIn_wide.1 (jX (n:=9) rfl dcx (gf:=89) (lb:= #[.pointer (some ⟨c,0,none⟩)]) rfl trivial (en func89) (c:=c) zy
  hX (λ_=>rfl) (λpre W'=>LocI p g g W7 pre W') (λq pre W'=>LocX g g W7 (qV (kr z) p (vl p m)) q pre W')
  ?_ ?_ ?_ ?_ ⟨by simp,VV,UU⟩ ?_ ?_ ?_ ?_ ?_)
 ·exact λpre A B row h hg hr=>⟨h.1,varAt_own (λ_:List (Nat×Nat)=> .int .i64 0) zy zy pre A B row h.2.1 hg hr,varAt_own (λ_:List (Nat×Nat)=> .int .i64 0) zy zy pre A B row h.2.2 hg hr⟩
 ·exact λq pre A B row h hg hr=>⟨h.1,varAt_own (λ_:List (Nat×Nat)=>_) zy zy pre A B row h.2.1 hg hr,varAt_own (λ_:List (Nat×Nat)=>_) zy zy pre A B row h.2.2 hg hr⟩
 ·exact λpre A B h hg=>⟨h.1,varAt_lone (λ_:List (Nat×Nat)=>_) zy zy zy pre A B h.2.1 hg,varAt_lone (λ_:List (Nat×Nat)=>_) zy zy zy pre A B h.2.2 hg⟩
 ·exact λq pre A B h hg=>⟨h.1,varAt_lone (λ_:List (Nat×Nat)=>_) zy zy zy pre A B h.2.1 hg,varAt_lone (λ_:List (Nat×Nat)=>_) zy zy zy pre A B h.2.2 hg⟩
 rotate_left
 ·intro l x W' K hK
  gi_wp2
  exact hK
 ·rintro l pre ⟨q,k⟩ W' hI hpre;obtain⟨hq1,hq2,hq3,hq4,hq5⟩:=pre_mem HM.out.1 hpre;dsimp only at hq1 hq2 hq3 hq4 hq5;have E17:Below g Wp W7:=by have h:=E27;rw[Ext,HG.out.2.2.2]at h;exact h
  have EW:Ext Wp W':=by rw[Ext,HG.out.2.2.2];exact Below.trans E17 hI.2.1.2
  have S':=S1.mono EW;obtain⟨s1,a1,n1,c1,B1,h1⟩:=S'.at 1 _ _ _ rfl;have L1a:World.cell? W' ⟨w.heap.size,0,none⟩=some (.bool s1):=B1.c0;have L1b:World.cell? W' ⟨w.heap.size,1,none⟩=some (.slice a1 n1 c1):=B1.c1;have L5:=Ext.cell EW C5;have hcw:c<W'.heap.size:=by have h1:=hI.2.1.2.size;have:=HG.out;omega
  have hcon:=dlocal_f (p:=q) (k:=k) h1 (by have:=HK.out.1;omega) (HS.out.ext (S1.ext.trans EW)) (by have:=hq1.1;have:=HM.out;omega) zbm;by_cases hqp:q=p
  ·subst hqp;rw[hq2]at hcon;have hvk:=hid hq2;clear hq1 hq2 hq3 hq4 hq5 B1 E17;have hV:=hI.2.1;have hU:=hI.2.2;have hpn:=hI.1;obtain⟨res,hres⟩:∃r,qV (kr z) q (vl q m)=r:=⟨_,rfl⟩;rw[hres]at hcon ⊢;rw[<-hvk.out]at hcon;have hgW:g<=W'.heap.size:=by have h1:=hI.2.1.2.size;have:=HG.out;omega
   gi_wp2_with (refine⟨trivial,?_⟩;gi_at_call 44;go_must (refine(in_round l hcon).mono ?_;rintro e w8 ⟨_,rfl,E8,rfl⟩;have Lg:=(hV.ext E8 hgW).1.1;have Fg:=(hV.ext E8 hgW).1.2;have Lg2:=(hU.ext E8 hgW).1.1;have Fg2:=(hU.ext E8 hgW).1.2))
   have V8:=((hV.ext E8 hgW).set (zL _) (.int .i64 res)).set_other (g2:=g+1) zb zb (.int .i64 0);have U8:=((hU.ext E8 hgW).set_other (g2:=g) (zL _) zb (.int .i64 res)).set zb (.int .i64 0);exact boxPost_ret ((((ext_keeps E8).trans (KeepsOthers.setCell _ _ _)).trans (KeepsOthers.setCell _ _ _)).from _) ⟨rfl,V8,U8⟩
  ·have hx9:((q:Int)==(p:Int))=false:=by rw[zH];omega
   clear hq1 hq2 hq3 hq4 hq5 B1 E17 hcon
   gi_wp2
   refine boxPost_norm ((KeepsOthers.refl _).from _) rfl ⟨?_,hI.2⟩;intro y hy;rcases List.mem_append.1 hy with h|h
   ·exact hI.1 y h
   ·rw[List.mem_singleton]at h;subst h;exact hqp
 ·rintro D xs W' hD rfl hI hK;have E17:Below g Wp W7:=by have h:=E27;rw[Ext,HG.out.2.2.2]at h;exact h
  have EW:Ext Wp W':=by rw[Ext,HG.out.2.2.2];exact Below.trans E17 hI.2.1.2
  have hlk:=lkP_pw (g:=qV (kr z)) (locg_0 (kr z)) HP.out.1 HM.out.1;rw[no_mem_lk _ _ _ hI.1]at hlk;have HLK:=hid hlk;clear hlk;have V8:=(hI.2.1.set (zL _) (.int .i64 1)).set_other (g2:=g+1) zb zb (.int .i64 0);have U8:=(hI.2.2.set_other (g2:=g) (zL _) zb (.int .i64 1)).set zb (.int .i64 0);have Lg:=hI.2.1.1.1;have Fg:=hI.2.1.1.2;have Lg2:=hI.2.2.1.1;have Fg2:=hI.2.2.1.2;go_wp2_with fail;have hK2:((W'.setCell ⟨g,0,none⟩ (.int .i64 1)).setCell ⟨g+1,0,none⟩ (.int .i64 0)).heap[D]? =some (.deferred (some [])):=(setCell_heap _ _ _ _ zy).trans ((setCell_heap _ _ _ _ zy).trans hK);generalize(W'.setCell ⟨g,0,none⟩ (.int .i64 1)).setCell ⟨g+1,0,none⟩ (.int .i64 0)=W7a at*
  have hfin:Ext w (W7a.putObj D (.deferred none)):=by
   have h:=S1.ext.trans (show Ext Wp W7a by rw[Ext,HG.out.2.2.2];exact Below.trans E17 V8.2);exact Below.trans h (belowK_b (w:=w) (zL _) W7a D _ _ zy hK2 rfl rfl)
  have c1:=cell_kept V8.1.1 (grownBy_putObj' W7a D (.deferred none)) (λr e=>by cases e;exact⟨_,hK2,rfl⟩);have c2:=cell_kept U8.1.1 (grownBy_putObj' W7a D (.deferred none)) (λr e=>by cases e;exact⟨_,hK2,rfl⟩);exact jY hK2 (v:=.tuple #[.int .i64 1,.int .i64 0]) zaw ⟨_,rfl,hfin,_,_,rfl,(by rw[<-HLK.out];rfl),rfl⟩
 ·rintro D q pre W' hD hpre ⟨rfl,V8,U8⟩ hK;have E17:Below g Wp W7:=by have h:=E27;rw[Ext,HG.out.2.2.2]at h;exact h
  refine wpIn_ret ?_
  have hfin:Ext w (W'.putObj D (.deferred none)):=by
   have h:=S1.ext.trans (show Ext Wp W' by rw[Ext,HG.out.2.2.2];exact Below.trans E17 V8.2);exact Below.trans h (belowK_b (w:=w) (zL _) W' D _ _ zy hK rfl rfl)
  have c1:=cell_kept V8.1.1 (grownBy_putObj' W' D (.deferred none)) (λr e=>by cases e;exact⟨_,hK,rfl⟩);have c2:=cell_kept U8.1.1 (grownBy_putObj' W' D (.deferred none)) (λr e=>by cases e;exact⟨_,hK,rfl⟩);exact jY hK (v:=.tuple #[.int .i64 (qV (kr z) p (vl p m)),.int .i64 0]) zaw ⟨_,rfl,hfin,_,_,rfl,rfl,rfl⟩
open Go Go.RowKit
def ChFn(W:World)(c:Int)(fn:Fn)(a b:Array Value):Prop:=
 ∃g,a= #[]/\b= #[.pointer (some ⟨g,0,none⟩)]/\((fn=.func 167/\(0<c/\c%2=1)/\W.heap[g]? =some (.cells #[.int .i64 c] 2))\/(fn=.func 168/\∃(h:Nat) (r:Int),W.heap[g]? =some (.cells #[.slice (some ⟨h,0,none⟩) 2 2] 202)/\W.heap[h]? =some (.cells #[.int .i64 1,.int .i64 r] 2)/\(c= -4/\r=5\/c=8/\r=7\/c= -8/\r=3)))
theorem ChFn.keep{W W':World}{c:Int}{fn:Fn}{a b:Array Value}(h:ChFn W c fn a b)(k:∀(g:Nat) (cs:Array Value) (T:TypeId),T≠120->W.heap[g]? =some (.cells cs T)->W'.heap[g]? =some (.cells cs T)):ChFn W' c fn a b:=by
 obtain⟨g,h1,h2,⟨h3,h4,h5⟩| ⟨h3,h',r,h5,h6,h7⟩⟩:=h
 ·exact⟨g,h1,h2,.inl ⟨h3,h4,k _ _ _ dcx h5⟩⟩
 ·exact⟨g,h1,h2,.inr ⟨h3,h',r,k _ _ _ dcx h5,k _ _ _ dcx h6,h7⟩⟩
theorem ChFn.ext{W W':World}{c:Int}{fn:Fn}{a b:Array Value}(h:ChFn W c fn a b)(e:Ext W W'):ChFn W' c fn a b:=h.keep λg _ _ _ hg=>(e.block g (Array.getElem?_eq_some_iff.1 hg).1).trans hg
def FnsAt(W:World)(l:List (Int×Fn×Array Value×Array Value)):Prop:=∀x∈l,ChFn W x.1 x.2.1 x.2.2.1 x.2.2.2
theorem FnsAt.nil(W:World):FnsAt W []:=λ_ h=>by cases h
theorem FnsAt.ext{W W':World}{l:List (Int×Fn×Array Value×Array Value)}(h:FnsAt W l)(e:Ext W W'):FnsAt W' l:=λx hx=>(h x hx).ext e
theorem FnsAt.cons{W:World}{l:List (Int×Fn×Array Value×Array Value)}{c:Int}{fn:Fn}{a b:Array Value}(h:ChFn W c fn a b)(k:FnsAt W l):FnsAt W ((c,fn,a,b) ::l):=λx hx=>by
 rcases List.mem_cons.1 hx with rfl|hx
 ·exact h
 ·exact k x hx
theorem odd_c(w:World)(p:Int)(hp:0<p/\p%2=1):Calls prog 130 #[.int .i64 p] w (Ret w (λv W'=>v=.agg #[.int .i64 p,.func (.func 167) #[] #[.pointer (some ⟨w.heap.size,0,none⟩)]]/\ChFn W' p (.func 167) #[] #[.pointer (some ⟨w.heap.size,0,none⟩)])):=by
 have hstf:∀(a:Addr) (fn:Fn) (first cap:Array Value) (w:World),(store a (.func fn first cap)).run prog w=stored prog w a (.func fn first cap) .plain:=λa fn first cap w=>run_store prog w a _ .plain rfl
 go_enter func130,ntmps130;go_wp2_with fail;exact zD (v:=.agg #[.int .i64 p,.func (.func 167) #[] #[.pointer (some ⟨w.heap.size,0,none⟩)]]) (by simp[results,results130,go_sem]) rfl ⟨_,rfl,((Ext.refl _).alloc _).alloc _,rfl,_,rfl,rfl,.inl ⟨rfl,hp,(Below.heap_alloc _ _ _ zh).trans (zS w _)⟩⟩
theorem zA(w:World)(p r:Int)(h:Nat)(hr:w.heap[h]? =some (.cells #[.int .i64 1,.int .i64 r] 2))(hpr:p= -4/\r=5\/p=8/\r=7\/p= -8/\r=3):Calls prog 131 #[.int .i64 p,.slice (some ⟨h,0,none⟩) 2 2] w (Ret w (λv W'=>v=.agg #[.int .i64 p,.func (.func 168) #[] #[.pointer (some ⟨w.heap.size,0,none⟩)]]/\ChFn W' p (.func 168) #[] #[.pointer (some ⟨w.heap.size,0,none⟩)])):=by
 have hstf:∀(a:Addr) (fn:Fn) (first cap:Array Value) (w:World),(store a (.func fn first cap)).run prog w=stored prog w a (.func fn first cap) .plain:=λa fn first cap w=>run_store prog w a _ .plain rfl
 go_enter func131,ntmps131;go_wp2_with fail;exact zD (v:=.agg #[.int .i64 p,.func (.func 168) #[] #[.pointer (some ⟨w.heap.size,0,none⟩)]]) (by simp[results,results131,go_sem]) rfl ⟨_,rfl,((Ext.refl _).alloc _).alloc _,rfl,_,rfl,rfl,.inr ⟨rfl,h,r,(Below.heap_alloc _ _ _ zh).trans (zS w _),(((Ext.refl w).alloc _).alloc _).block h (Array.getElem?_eq_some_iff.1 hr).1 |>.trans hr,hpr⟩⟩
theorem Ext.heap'{w w':World}(e:Ext w w'){g:Nat}{o:Obj}(h:w.heap[g]? =some o):w'.heap[g]? =some o:=(e.block g (Array.getElem?_eq_some_iff.1 h).1).trans h
def Rwg(e k base:Nat)(w:World)(v:Value)(n:Nat)(xs:List Value):Prop:=w.ownsRow base e k v n xs
theorem Rwg.nil(e k base:Nat)(w:World):Rwg e k base w (.slice none 0 0) 0 []:=⟨by simp,.inl ⟨rfl,rfl⟩⟩
theorem Rwg.ext{e k base n:Nat}{w w':World}{v:Value}{xs:List Value}(h:Rwg e k base w v n xs)(E:Ext w w'):Rwg e k base w' v n xs:=by
 obtain⟨h1,h2| ⟨g,cap,cur,hv,hb,hg,hr⟩⟩:=h
 ·exact⟨h1,.inl h2⟩
 ·exact⟨h1,.inr ⟨g,cap,cur,hv,hb,E.heap' hg,hr⟩⟩
theorem Rwg.base{e k b b' n:Nat}{w:World}{v:Value}{xs:List Value}(h:Rwg e k b w v n xs)(hb:b'<=b):Rwg e k b' w v n xs:=by
 obtain⟨h1,h2| ⟨g,cap,cur,hv,hg,hr⟩⟩:=h
 ·exact⟨h1,.inl h2⟩
 ·exact⟨h1,.inr ⟨g,cap,cur,hv,zN hb hg,hr⟩⟩
theorem Rwg.shape{e k base n:Nat}{w:World}{v:Value}{xs:List Value}(h:Rwg e k base w v n xs):∃ao cap,v=.slice ao n cap/\n<=cap/\cap<=9223372036854775807/\xs.length=n*k/\
  (n≠0->∃g,ao=some ⟨g,0,none⟩/\base<=g/\g<w.heap.size/\∀j u,xs[j]? =some u->w.cell? ⟨g,j,none⟩=some u):=by
 obtain⟨h1,⟨h2,h3⟩| ⟨g,cap,cur,hv,hb,hg,hn,hc,hsz,ht⟩⟩:=h
 ·subst h3;exact⟨none,0,h2,zL _,by decide,h1,λh=>absurd rfl h⟩
 ·refine⟨_,cap,hv,hn,hc,h1,λ_=>⟨g,rfl,hb,(Array.getElem?_eq_some_iff.1 hg).1,λj u hj=>?_⟩⟩;have hjl:j<xs.length:=(List.getElem?_eq_some_iff.1 hj).1;simp only[World.cell?];rw[hg];show cur[j]? =some u;rw[<-ht,List.getElem?_take,if_pos (by omega)]at hj
  simpa using hj
theorem qX{P:Program}{w:World}{ops:Array Oper}{rest:List Oper}{o:Oper}{a:Act}{Q:Exit->Act->World->Prop}(hgd:o.guard=none)(s x:Operand)(t:TypeId)
  (ho:o.op=.call {callee:=.builtin .append,args:= #[s,x],argTypes:= #[t,t]}) (base e:Nat) (z:Value) (k bytes:Nat) (ht:P.underlying t=some (.slice e)) (hinfo:(P.info? e).map (λi=>(i.zero,i.size,i.bytes))=some (some z,k,bytes))
  (hzs:z.cells.size=k) (hk:0<k) (v:Value) (n:Nat) (xs:List Value) (hs:a.eval s=v) (hown:Rwg e k base w v n xs) (g m c:Nat) (news:List Value) (hx:a.eval x=.slice (some ⟨g,0,none⟩) m c) (hl:news.length=m*k)
  (hnews:∀j u,news[j]? =some u->w.cell? ⟨g,j,none⟩=some u) (h1:∀u∈news,u.oneCell'=true) (h63:n+m<=140737488355328) (hbytes:(n+m)*bytes<=140737488355328) (hbase:base<=w.heap.size)
  (h:∀v' w',Rwg e k base w' v' (n+m) (xs++news)->w.grownBy w' v.ownBlock->Below base w w'->wpList P ops Q rest (a.put o.dst v') w'):
  wpList P ops Q (o ::rest) a w:=by
 obtain⟨i,hi,hz0,hz1,hz2⟩:=info_parts hinfo;refine wpList_append_own_at w hgd s x t ho base e i z k bytes ht hi hz0 hz1 hz2 hzs hk v n xs hs hown ⟨g,0,none⟩ m c news hx hl (λj u hj=>by cases j <;> simpa [Addr.add]using hnews _ u hj) h1 (by unfold maxLen;omega) hbytes hbase ?_;intro v' w' h2 h3 _ _;refine h v' w' h2 h3 ((Below.refl base w).grown h3 hbase λb hb=>?_);obtain⟨_,⟨hv,_⟩| ⟨g,cap,cur,hv,hb2,_⟩⟩:=hown
 ·rw[hv]at hb;cases hb
 ·rw[hv]at hb;cases hb;exact hb2
theorem cells_new(w:World)(cs:Array Value)(t:Nat):∀j u,cs.toList[j]? =some u->(w.alloc (.cells cs t)).cell? ⟨w.heap.size,j,none⟩=some u:=by
 intro j u hj;simp only[World.cell?];have:(w.alloc (.cells cs t)).heap[w.heap.size]? =some (.cells cs t):=by show(w.heap.push _)[w.heap.size]? =_;simp
 rw[this];show cs[j]? =some u
 simpa using hj
theorem qP(w:World)(cs:Array Value)(t g:Nat)(hg:w.heap.size=g):∀j u,cs.toList[j]? =some u->(w.alloc (.cells cs t)).cell? ⟨g,j,none⟩=some u:=by subst hg;exact cells_new w cs t
def setL:World->Nat->Nat->List Value->World
 |W,_,_, []=>W
 |W,b,j,v ::vs=>setL (W.setCell ⟨b,j,none⟩ v) b (j+1) vs
theorem setL_other:∀(vs:List Value) (W:World) (b j:Nat) (p:Addr),(p.block≠b\/(p=⟨b,p.off,none⟩/\p.off<j))->World.cell? (setL W b j vs) p=World.cell? W p
 | [],_,_,_,_,_=>rfl
 | v ::vs,W,b,j,p,h=>by
  unfold setL;rw[setL_other vs _ b (j+1) p (h.imp id λ⟨h1,h2⟩=>⟨h1,by omega⟩)];refine World.cell?_setCell_other _ _ _ _ ?_;rintro rfl;rcases h with h| ⟨_,h⟩
  ·exact h rfl
  ·exact Nat.lt_irrefl _ h
theorem setL_cell:∀(vs:List Value) (W:World) (b j:Nat),(∀i,i<vs.length->(World.cell? W ⟨b,j+i,none⟩).isSome)->∀(i:Nat) (v:Value),vs[i]? =some v->World.cell? (setL W b j vs) ⟨b,j+i,none⟩=some v
 | [],_,_,_,_,i,v,h=>by simp at h
 | u ::vs,W,b,j,hs,i,v,h=>by
  unfold setL;cases i with
  | zero=>
   simp at h;subst h;rw[setL_other vs _ b (j+1) ⟨b,j+0,none⟩ (.inr ⟨rfl,by simp⟩)];exact World.cell?_setCell_same' _ _ _ (hs 0 zh)
  | succ i=>
   simp at h;have:=setL_cell vs (W.setCell ⟨b,j,none⟩ u) b (j+1) (λk hk=>?_) i v h
   ·rw[show j+(i+1)=j+1+i by omega];exact this
   ·rw[World.cell?_setCell_other _ _ _ _ (by intro e;injection e with e1 e2;omega)];have:=hs (k+1) jl
    rwa [show j+(k+1)=j+1+k by omega]at this
theorem setL_below:∀(vs:List Value) (W w:World) (b j base:Nat),Below base w W->base<=b->Below base w (setL W b j vs)
 | [],_,_,_,_,_,h,_=>h
 | v ::vs,W,w,b,j,base,h,hb=>by
  unfold setL;exact setL_below vs _ w b (j+1) base (h.setCell (p:=⟨b,j,none⟩) hb v) hb
theorem setL_gr:∀(vs:List Value) (W:World) (b j:Nat),(∀i,i<vs.length->∃u,World.cell? W ⟨b,j+i,none⟩=some u/\NoWord u)->Gr W (setL W b j vs)
 | [],W,_,_,_=>Gr.refl W
 | v ::vs,W,b,j,h=>by
  unfold setL;obtain⟨u,hu,hn⟩:=h 0 zh;refine((Gr.refl W).set (p:=⟨b,j,none⟩) hu hn v).trans (setL_gr vs _ b (j+1) λi hi=>?_);obtain⟨u,hu,hn⟩:=h (i+1) jl;refine⟨u,?_,hn⟩;rw[World.cell?_setCell_other _ _ _ _ (by intro e;injection e with e1 e2;omega),show j+1+i=j+(i+1)by omega];exact hu
end Go.Proofs.YtknffgdbdadpcaaGreatDoor
