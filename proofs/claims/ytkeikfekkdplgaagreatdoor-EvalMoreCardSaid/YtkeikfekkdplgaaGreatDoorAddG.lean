/- Lemmas. -/
import Derived.Test.YtkeikfekkdplgaaGreatDoorHld
namespace Go.Proofs.YtkeikfekkdplgaaGreatDoor
section
open Go Go.RowKit Go.Maps Go.Shelf
open Go.Proofs.Tryz
theorem xd{P:Prop}(h:P:=by simp only[List.map_toArray,List.map_cons,List.map_nil];rw[h1,h2];exact bd_HeE _ _ _ _ _ _ _ _ _ _ _):P:=h
set_option maxHeartbeats 8000000
attribute [local go_sem] Oper.semAt_some
set_option maxRecDepth 100000
def IsCm(nm nm':ByteArray):Value->World->Prop:=λx _=>∃c:Int,x=.int .i64 c/\ -1<=c/\c<=1/\(c=0->nm=nm')
theorem IsCm.stb(nm nm':ByteArray):Stb (IsCm nm nm'):=λ_ _ _ _ h=>h
instance (nm nm':ByteArray):StbC (IsCm nm nm'):=⟨IsCm.stb nm nm'⟩
theorem ld_En31{w:World}{g:Nat}{vs:List Value}(hl:vs.length=31)(B:Bk w g vs):(Instr.loadAt 95 (.pointer (some ⟨g,0,none⟩))).run prog w=.ok (.agg vs.toArray) w:=ldM za za hl (λj v hj=>by rw[Nat.zero_add];exact B.c j v hj)
theorem ix_Zn(ao:Option Addr)(g n c j:Nat)(ha:ao=some ⟨g,0,none⟩)(h:j<n)(w:World):(Instr.indexAt 69 (.slice ao n c) (.int .i64 (j:Int))).run prog w=.ok (.pointer (some ⟨g,2*j,none⟩)) w:=by subst ha;exact ix_In g c n j h w
theorem cmpI_b(a b:Int): -1<=qJ a b/\qJ a b<=1:=by unfold qJ;split <;>(try split) <;> omega
theorem compare_f{w:World}{nm nm':ByteArray}{d d':EnD}{es es':List Value}(h:EntW nm d es w)(h':EntW nm' d' es' w):Calls prog 57 #[.agg es.toArray,.agg es'.toArray] w (Ret w (IsCm nm nm')):=by
 have hl:=h.len;have hl':=h'.len;have h0:es[0]? =some (.string nm):=by obtain⟨-,-,-,va,vc,ha,hc,rfl,-⟩:=h;rfl
 have h0':es'[0]? =some (.string nm'):=by obtain⟨-,-,-,va,vc,ha,hc,rfl,-⟩:=h';rfl
 obtain⟨W,hW,E,B2,B3⟩:∃W,W=(w.alloc (.cells es.toArray 95)).alloc (.cells es'.toArray 95)/\Ext w W/\Bk W w.heap.size es/\Bk W (w.heap.size+1) es':=zbp;have H12:=hid (jI h h');obtain⟨b,hbb⟩:∃b,w.heap.size=b:=⟨_,rfl⟩;rw[hbb]at B2 B3;have c2:=B2.c 0 _ h0;have c3:=B3.c 0 _ h0';have HE:=hid E;have HB:=hid (jI B2 B3);have HL:=hid (jI hl hl');clear h h' h0 h0' E B2 B3 hl hl';obtain⟨lt,hlt⟩:∃t,Op.bytesLess nm.toList nm'.toList=t:=⟨_,rfl⟩;obtain⟨eq,heq⟩:∃t,(nm.toList==nm'.toList)=t:=⟨_,rfl⟩;have HEQ:=hid heq;go_enter func57,ntmps57;go_upto_region 1 with fail;rw[<-hW];clear hW;cases lt with
 | true=>
  go_wp2_with fail
  go_ret
  exact⟨_,rfl,HE.out,-1,rfl,by decide,by decide,λh=>by cases h⟩
 |false=>
 cases eq with
 | false=>
  go_wp2_with fail
  go_ret
  exact⟨_,rfl,HE.out,1,rfl,by decide,by decide,λh=>by cases h⟩
 | true=>
  have hnm:nm=nm':=by have:=HEQ.out;rw[ba_listE]at this;exact of_decide_eq_true this
  have HNM:=hid hnm;clear hnm HEQ;go_upto_region 5 with fail;clear c2 c3 hlt heq;refine rg 4 (dR 19 4) [IsV (.agg es.toArray),IsZs,IsV (.agg es'.toArray),IsZs] [] 2 ?_ ?_
  ·refine Rc (lv (fP:=IsV (.agg es.toArray)) _ (λw2 e=>ld_En31 HL.out.1 (HB.out.1.ext e)) (qB 2) (λ_ _=>rfl)) ?_;refine Rc (cl1 (en func77) (qA (fP:=IsV (.agg es.toArray)) 0 19) (λx0 w' hE d0=>by{obtain rfl:x0=_:=d0;exact words_f (H12.out.1.ext (HE.out.trans hE))})) ?_;refine Rc (lv (fP:=IsV (.agg es'.toArray)) _ (λw2 e=>ld_En31 HL.out.2 (HB.out.2.ext e)) (qB 3) (λ_ _=>rfl)) ?_;refine Rc (cl1 (en func77) (qA (fP:=IsV (.agg es'.toArray)) 2 21) (λx0 w' hE d0=>by{obtain rfl:x0=_:=d0;exact words_f (H12.out.2.ext (HE.out.trans hE))})) ?_;exact rn0
  intro x X1 e1 hZ _;obtain⟨n1,a1,k1,hv1,hn1,hr1⟩:=hZ 1 dcx;obtain⟨n2,a2,k2,hv2,hn2,hr2⟩:=hZ 3 dcx;simp only[lxE,Nat.reduceAdd];rw[hv1,hv2];have HEX:=hid (HE.out.trans e1);have HR1:=hid hr1;have HR2:=hid hr2;have HN:=hid (jI hn1 hn2);clear hZ hv1 hv2 hr1 hr2 e1 H12 hn1 hn2;refine asA 4 5 (.tmp 20) (.slice a1 n1 k1) rfl ?_;refine asA 5 6 (.tmp 22) (.slice a2 n2 k2) rfl ?_;refine jL za ?_ _;simp only[Act.put,uAx,u0x,u1x];go_wp2_with fail
  go_loopg [7,8] n1 (λgk v7 v8 wr=>∃i:Nat,v7=.int .i64 (i:Int)/\i+gk=n1/\Hid (Ext X1 wr))
  case atStart=>exact⟨0,rfl,by omega,hid (Ext.refl X1)⟩
  case round=>
   obtain⟨i,rfl,hg,S⟩:=hrel;by_cases hi:i<n1/\i<n2
   ·obtain⟨hi1,hi2⟩:=hi;have hil:(i:Int)<(n1:Int):=by omega
    have hil2:(i:Int)<(n2:Int):=zb
    have hiw:IntKind.i64.wrap ((i:Int)+1)=((i+1:Nat):Int):=by have:=HN.out;simp only[IntKind.wrap_i64];omega
    have HI:=hid (jI hi1 (jI hi2 hg));obtain⟨g1,ea1,q1⟩:=HR1.out zb;obtain⟨s,a,m,c',z,r1,r2,r3⟩:=q1 i hi1;obtain⟨g2,ea2,q2⟩:=HR2.out zb;obtain⟨s',a',m',c'',z',r1',r2',r3'⟩:=q2 i hi2;clear q1 q2 hg hi1 hi2;have e0:=S.out;replace r1:=e0.cell r1;replace r2:=e0.cell r2;replace r3:=r3.ext e0;replace r1':=e0.cell r1';replace r2':=e0.cell r2';replace r3':=r3'.ext e0;clear e0;go_upto_region 9 with fail;refine rg 9 (dR 35 9) [IsV (.slice a1 n1 k1),iV (i:Int),IsP g1 (2*i),IsI 128 z,IsV (.slice a2 n2 k2),iV (i:Int),IsP g2 (2*i),IsI 128 z',iV (qJ z z')] [] 1 ?_ ?_
    ·refine Rc (mv (qB 5)) ?_;refine Rc yu ?_;refine Rc (ixq (ix_Zn a1 g1 n1 k1 i ea1 HI.out.1) (qA 0 35) (qA 1 36)) ?_;refine Rc (lv (fP:=IsI 128 z) _ (λw2 e=>qE w2 g1 (2*i) s a m c' (e.cell r1) (e.cell r2)) (qA 2 37) (λw2 e=>r3.ext e)) ?_;refine Rc (mv (qB 6)) ?_;refine Rc yu ?_;refine Rc (ixq (ix_Zn a2 g2 n2 k2 i ea2 HI.out.2.1) (qA 4 39) (qA 5 40)) ?_;refine Rc (lv (fP:=IsI 128 z') _ (λw2 e=>qE w2 g2 (2*i) s' a' m' c'' (e.cell r1') (e.cell r2')) (qA 6 41) (λw2 e=>r3'.ext e)) ?_;refine Rc (cl2 (en func37) (qA (fP:=IsI 128 z) 3 38) (qA (fP:=IsI 128 z') 7 42) (λx0 x1 w' hE d0 d1=>RCmp_f d0 d1 dcx dcx)) ?_;exact rn0
    intro x X3 e1 hZ _;simp only[lxE,Nat.reduceAdd];rw[show x 8=.int .i64 (qJ z z')from hZ 8 dcx];have S2:=hid (S.out.trans e1);clear hZ r1 r2 r3 r1' r2' r3' e1 S ea1 ea2;obtain⟨cm,hcm⟩:∃cm,qJ z z'=cm:=⟨_,rfl⟩;have HCM:=hid (show -1<=cm/\cm<=1 by rw[<-hcm];exact cmpI_b z z');rw[hcm];clear hcm;refine asA 9 8 (.tmp 43) (.int .i64 cm) rfl ?_;refine jL za ?_ _;simp only[Act.put,uAx,u0x,u1x];by_cases hc0:cm=0
    ·subst hc0;go_wp2_with fail
     go_roundg (gk-1)
     case measure=>have:=HI.out;omega
     case rel=>exact⟨i+1,rfl,by have:=HI.out;omega,S2⟩
    ·go_wp2_with fail
     go_ret
     exact⟨_,rfl,HEX.out.trans S2.out,cm,rfl,HCM.out.1,HCM.out.2,λh=>absurd h hc0⟩
   ·have hE9:Ext w wr:=HEX.out.trans S.out;have hil:¬((i:Int)<(n1:Int))\/((i:Int)<(n1:Int)/\¬((i:Int)<(n2:Int))):=by omega
    clear hi;by_cases hnn:n1=n2
    ·subst hnn;rcases hil with hil| ⟨hil,hil2⟩
     ·go_wp2_with fail
      go_ret
      exact⟨_,rfl,hE9,0,rfl,by decide,by decide,λ_=>HNM.out⟩
     ·exact absurd hil hil2
    ·have hnn':¬((n1:Int)=(n2:Int)):=by omega
     rcases hil with hil| ⟨hil,hil2⟩
     ·go_wp2_with fail
      go_ret
      exact⟨_,rfl,hE9,-1,rfl,by decide,by decide,λh=>by cases h⟩
     ·go_wp2_with fail
      go_ret
      exact⟨_,rfl,hE9,-1,rfl,by decide,by decide,λh=>by cases h⟩
attribute [local go_sem] Oper.semAt_some
set_option maxRecDepth 100000
theorem ld_So3{w:World}{g f:Nat}{vs:List Value}(hl:vs.length=3)(hc:∀q u,vs[q]? =some u->World.cell? w ⟨g,f+q,none⟩=some u):(Instr.loadAt 102 (.pointer (some ⟨g,f,none⟩))).run prog w=.ok (.agg vs.toArray) w:=ldM za za hl hc
theorem ix_So1(g o c:Nat)(w:World):(Instr.indexAt 96 (.slice (some ⟨g,o,none⟩) 1 c) (.int .i64 0)).run prog w=.ok (.pointer (some ⟨g,o,none⟩)) w:=by go_simp
def s010:List Value:= [.int .i64 0,.int .i64 1,.int .i64 0]
theorem less_f(w:World):Calls prog 78 #[.agg #[.int .i64 0,.int .i64 1,.int .i64 0],.agg #[.int .i64 0,.int .i64 1,.int .i64 0]] w (Ret w (IsV (.bool false))):=by
 obtain⟨W,hW,E,B2,B3⟩:∃W,W=(w.alloc (.cells #[.int .i64 0,.int .i64 1,.int .i64 0] 102)).alloc (.cells #[.int .i64 0,.int .i64 1,.int .i64 0] 102)/\Ext w W/\Bk W w.heap.size s010/\Bk W (w.heap.size+1) s010:=⟨_,rfl,((Ext.refl w).alloc _).alloc _,(Bk.new w #[.int .i64 0,.int .i64 1,.int .i64 0] _).ext ((Ext.refl _).alloc _),Bk.newE _ _ zd _ _⟩;have c0:=B2.c 0 _ rfl;have c1:=B2.c 1 _ rfl;have c2:=B2.c 2 _ rfl;have d0:=B3.c 0 _ rfl;have d1:=B3.c 1 _ rfl;have d2:=B3.c 2 _ rfl;clear B2 B3;go_enter func78,ntmps78;go_upto_region 1 with fail;rw[<-hW];clear hW;go_wp2_with fail
 go_ret
 exact⟨_,rfl,E,rfl⟩
theorem sourced_f{w:World}{g o c:Nat}(hc:∀q u,s010[q]? =some u->World.cell? w ⟨g,o+q,none⟩=some u):Calls prog 58 #[.slice (some ⟨g,o,none⟩) 1 c,.agg #[.int .i64 0,.int .i64 1,.int .i64 0]] w (Ret w (IsV (.slice (some ⟨g,o,none⟩) 1 c))):=by
 obtain⟨W,hW,E,B⟩:∃W,W=w.alloc (.cells #[.int .i64 0,.int .i64 1,.int .i64 0] 102)/\Ext w W/\Bk W w.heap.size s010:=⟨_,rfl,(Ext.refl w).alloc _,Bk.new w #[.int .i64 0,.int .i64 1,.int .i64 0] _⟩;have hcW:∀q u,s010[q]? =some u->World.cell? W ⟨g,o+q,none⟩=some u:=λq u hq=>E.cell (hc q u hq)
 clear hc;obtain⟨b,hbb⟩:∃b,w.heap.size=b:=⟨_,rfl⟩;rw[hbb]at B;go_enter func58,ntmps58;go_upto_region 1 with fail;rw[<-hW];clear hW;go_wp2_with fail;refine wp_loop_rounds 1 ?_;rw[rounds_succ];go_upto_region 2 with fail;refine rg 12 (dR 6 12) [iV 0,IsV (.slice (some ⟨g,o,none⟩) 1 c),iV ((1:Nat):Int),IsV (.bool true),IsV (.bool true),IsV (.slice (some ⟨g,o,none⟩) 1 c),iV 0,IsP g o,IsV (.agg s010.toArray),IsV (.agg s010.toArray),IsV (.bool false),IsV (.bool false)] [] 0 ?_ ?_
 ·refine Rc (mv (qB (x:=.int .i64 0) 5)) ?_;refine Rc zt ?_;refine Rc (lnZ (p:=some ⟨g,o,none⟩) (n:=1) (c:=c) (qA 1 7)) ?_;refine Rc (bn (r:=.bool true) (qC 0 6) (qC 2 8) (hr:=λw=>by go_simp)) ?_;refine Rc (mv (qA (fP:=IsV (.bool true)) 3 9)) ?_;refine RcG 4 10 true zt ?_;refine RcG 4 10 true (mv (qB (x:=.int .i64 0) 5)) ?_;refine RcG 4 10 true (ixq (ix_So1 g o c) (qA 5 11) (qA 6 12)) ?_;refine RcG 4 10 true (lv (fP:=IsV (.agg s010.toArray)) _ (λw2 e=>ld_So3 rfl (λq u hq=>e.cell (hcW q u hq))) (qA 7 13) (λ_ _=>rfl)) ?_;refine RcG 4 10 true (lv (fP:=IsV (.agg s010.toArray)) _ (λw2 e=>ld_So3 (f:=0) rfl (λq u hq=>by rw[Nat.zero_add];exact(B.ext e).c q u hq)) (qB 3) (λ_ _=>rfl)) ?_;refine RcG 4 10 true (cl2 (en func78) (qA (fP:=IsV (.agg s010.toArray)) 8 14) (qA (fP:=IsV (.agg s010.toArray)) 9 15) (λx0 x1 w' hE d0 d1=>by{obtain rfl:x0=_:=d0;obtain rfl:x1=_:=d1;exact less_f w'})) ?_;refine Rc (pk (b:=true) (qA 4 10) (qA 10 16)) ?_;exact rn0
 intro v X1 e1 hZ _;simp only[lxE,Nat.reduceAdd];rw[show v 11=.bool false from hZ 11 dcx];clear hZ;have E1:=E.trans e1;have B1:=B.ext e1;have hc1:∀q u,s010[q]? =some u->World.cell? X1 ⟨g,o+q,none⟩=some u:=λq u hq=>e1.cell (hcW q u hq)
 clear hcW B E e1;refine jL za ?_ _;go_upto_region 4 with fail;refine rg 12 (dR 20 12) [iV 0,IsV (.slice (some ⟨g,o,none⟩) 1 c),iV ((1:Nat):Int),IsV (.bool true),IsV (.bool true),IsV (.slice (some ⟨g,o,none⟩) 1 c),iV 0,IsP g o,IsV (.agg s010.toArray),IsV (.agg s010.toArray),IsV (.bool true),IsV (.bool true)] [] 0 ?_ ?_
 ·refine Rc (mv (qB (x:=.int .i64 0) 5)) ?_;refine Rc zt ?_;refine Rc (lnZ (p:=some ⟨g,o,none⟩) (n:=1) (c:=c) (qA 1 21)) ?_;refine Rc (bn (r:=.bool true) (qC 0 20) (qC 2 22) (hr:=λw=>by go_simp)) ?_;refine Rc (mv (qA (fP:=IsV (.bool true)) 3 23)) ?_;refine RcG 4 24 true zt ?_;refine RcG 4 24 true (mv (qB (x:=.int .i64 0) 5)) ?_;refine RcG 4 24 true (ixq (ix_So1 g o c) (qA 5 25) (qA 6 26)) ?_;refine RcG 4 24 true (lv (fP:=IsV (.agg s010.toArray)) _ (λw2 e=>ld_So3 rfl (λq u hq=>e.cell (hc1 q u hq))) (qA 7 27) (λ_ _=>rfl)) ?_;refine RcG 4 24 true (lv (fP:=IsV (.agg s010.toArray)) _ (λw2 e=>ld_So3 (f:=0) rfl (λq u hq=>by rw[Nat.zero_add];exact(B1.ext e).c q u hq)) (qB 3) (λ_ _=>rfl)) ?_;refine RcG 4 24 true (bn (r:=.bool true) (qC 8 28) (qC 9 29) (hr:=λw=>by unfold s010;go_simp)) ?_;refine Rc (pk (b:=true) (qA 4 24) (qA 10 30)) ?_;exact rn0
 intro v X2 e1 hZ _;simp only[lxE,Nat.reduceAdd];rw[show v 11=.bool true from hZ 11 dcx];clear hZ;refine jL za ?_ _;go_wp2_with fail
 go_ret
 exact⟨_,rfl,E1.trans e1,rfl⟩
attribute [local go_sem] Oper.semAt_some
set_option maxRecDepth 100000
def HdS2(L:List (List Value))(v:Value)(w:World):Prop:=(L= []/\v=.slice none 0 0)\/∃g c,v=.slice (some ⟨g,0,none⟩) L.length c/\L.length<=c/\HdR L g w
theorem HdS2.ext{L:List (List Value)}{v:Value}{w w':World}(h:HdS2 L v w)(e:Ext w w'):HdS2 L v w':=h.imp id λ⟨g,c,h1,h2,h3⟩=>⟨g,c,h1,h2,h3.ext e⟩
theorem HdS2.hds{L:List (List Value)}{v:Value}{w:World}(h:HdS2 L v w):HdS L v w:=h.imp id λ⟨g,c,h1,_,h3⟩=>⟨g,c,h1,h3⟩
def IsHw(base:Nat)(M:List (List Value))(v:Value)(w:World):Prop:=Rwg 98 32 base w v M.length M.flatten/\NwB w v
theorem IsHw.ext{base:Nat}{M:List (List Value)}{v:Value}{w w':World}(h:IsHw base M v w)(e:Ext w w'):IsHw base M v w':=⟨h.1.ext e,h.2.kept λg hg=>e.block g (h.1.own_lt hg).1⟩
theorem IsHw.stb(base:Nat)(M:List (List Value)):Stb (IsHw base M):=λ_ _ _ e h=>h.ext e
instance (base:Nat) (M:List (List Value)):StbC (IsHw base M):=⟨IsHw.stb base M⟩
theorem IsHw.hds{base:Nat}{M:List (List Value)}{v:Value}{w:World}(h:IsHw base M v w)(hM:∀vs∈M,vs.length=32):HdS2 M v w:=(HdO.of h.1 rfl h.2 hM).imp id λ⟨g,c,h1,h2,_,h4⟩=>⟨g,c,h1,h2,h4.1⟩
theorem flat32{M:List (List Value)}(hM:∀vs∈M,HdOk vs):M.flatten.length=M.length*32/\(∀u∈M.flatten,u.oneCell'=true)/\∀u∈M.flatten,NoWord u:=by
 refine⟨by rw[flat_len (λvs h=>(hM vs h).1),Nat.mul_comm],λu hu=>?_,λu hu=>?_⟩
 ·obtain⟨vs,h1,h2⟩:=List.mem_flatten.1 hu;exact List.all_eq_true.1 (hM vs h1).2.1 u h2
 ·obtain⟨vs,h1,h2⟩:=List.mem_flatten.1 hu;exact(hM vs h1).2.2 u h2
theorem wp_hw{w:World}{o:Oper}{a:Act}{Q:Exit->Act->World->Prop}{K:Act->World->Prop}(t:Tmp)(s x:Operand)
  (ho:o.op=.call {callee:=.builtin .append,args:= #[s,x],argTypes:= #[37,37]}) (base:Nat) (M N:List (List Value)) (v xv:Value) (hs:a.eval s=v) (hx:a.eval x=xv) (hI:IsHw base M v w) (hN:∀vs∈N,HdOk vs) (hsrc:SrcR N.length N.flatten xv w) (hl:M.length+N.length<=1000000) (hbase:base<=w.heap.size)
  (h:∀v' w',IsHw base (M++N) v' w'->Pg v w v' w'->K (a.put (some t) v') w') (hdt:o.dst=some t:=by rfl):Oper.wp prog o a w K Q:=by
 obtain⟨bytes,hi,hb⟩:=infoH;obtain⟨f1,f2,f3⟩:=flat32 hN;refine wp_rwnS s x 37 ho base 98 (.agg z32'.toArray) 32 bytes za hi rfl dcx (λu hu=>nwZ32 u jo) v M.length M.flatten hs hI.1 hI.2 N.length N.flatten xv hx f1 hsrc f2 f3 zb (by have:=Nat.mul_le_mul (show M.length+N.length<=1000000 by omega) hb;omega) hbase ?_;intro v' w' r1 r2 r3 r4 r5 r6;rw[hdt];exact h v' w' ⟨by rw[jM,List.flatten_append];exact r1,r2⟩ ⟨r3,r4,r6.imp id λe=>⟨_,e,jJ _⟩⟩
theorem IsHw.below{base:Nat}{M:List (List Value)}{v v':Value}{w w':World}(h:IsHw base M v w)(p:Pg v w v' w')(hb:base<=w.heap.size):Below base w w':=(Below.refl base w).grown p.gb hb λ_b hb=>(h.1.own_lt hb).2
theorem Pg.cell{v v':Value}{w w':World}{g o:Nat}{u:Value}(p:Pg v w v' w')(h:World.cell? w ⟨g,o,none⟩=some u)(hne:v.ownBlock≠some g):World.cell? w' ⟨g,o,none⟩=some u:=p.gb.cell (a:=⟨g,o,none⟩) h (λe=>hne e.symm)
def IsSrc(m:Nat)(news:List Value):Value->World->Prop:=λx w=>SrcR m news x w
theorem IsSrc.stb(m:Nat)(news:List Value):Stb (IsSrc m news):=λ_ _ _ e h=>h.ext e
instance (m:Nat) (news:List Value):StbC (IsSrc m news):=⟨IsSrc.stb m news⟩
theorem run_slH(g n c j:Nat)(h:j<=c)(w:World):(Instr.slice 37 (.slice (some ⟨g,0,none⟩) n c) none (some (.int .i64 (j:Int))) none).run prog w=.ok (.slice (some ⟨g,0,none⟩) j c) w:=by
 have h0:(0:Int)<=(j:Int):=zb
 have h2:(j:Int)<=(c:Int):=zb
 have:=run_slice_h (P:=prog) w 37 (some ⟨g,0,none⟩) n c za .i64 (j:Int) h0 h2;rw[this]
 go_simp
theorem run_slL(g n c j:Nat)(h:j<=n)(w:World):(Instr.slice 37 (.slice (some ⟨g,0,none⟩) n c) (some (.int .i64 (j:Int))) none none).run prog w=.ok (.slice (if c=j then some ⟨g,0,none⟩else some ⟨g,32*j,none⟩) (n-j) (c-j)) w:=by
 have h0:(0:Int)<=(j:Int):=zb
 have h2:(j:Int)<=(n:Int):=zb
 have:=run_slice_l (P:=prog) w 37 (some ⟨g,0,none⟩) n c za .i64 (j:Int) h0 h2;rw[this];have h4:j*32=32*j:=zb
 go_simp
section
variable {ops:Array Oper} {Q:Exit->Act->World->Prop} {ds:List (Option Tmp)} {a0:Act} {w0:World} {L:List (Value->World->Prop)} {boxes:List Nat} {i k:Nat} {o:Oper} {os:List Oper}
theorem slTo{M:List (List Value)}{sv:Value}{j:Nat}{x y:Operand}(h:HdS2 M sv w0)(hM:∀vs∈M,vs.length=32)(hj:j<=M.length)(hx:Od ops ds a0 w0 L i x (IsV sv))(hy:Od ops ds a0 w0 L i y (iV (j:Int)))(ho:o.op=.slice 37 x none (some y) none:=by rfl)(hi:L.getD i (λ_ _=>True)=IsSrc j (M.take j).flatten:=by kernel_rfl)(hb:boxes.contains i=false:=by kernel_rfl):Ok prog ops Q ds a0 w0 L boxes i o:=
 okE' hb λv a w hE hd hf=>by
  have e1:a.eval x=_:=hx.out v a w hE hd hf;have e2:a.eval y=_:=hy.out v a w hE hd hf;rcases h with⟨rfl,rfl⟩| ⟨g,c,rfl,hc,hR⟩
  ·obtain rfl:j=0:=by simpa using hj
   refine⟨.slice none 0 0,w,?_,Ext.refl w,by rw[hi];exact .inl ⟨rfl,rfl,rfl⟩⟩;unfold execOp;rw[ho];dsimp only[Option.map];rw[e1,e2]
   go_simp
  ·refine⟨.slice (some ⟨g,0,none⟩) j c,w,?_,Ext.refl w,?_⟩
   ·have:=run_slH g M.length c j zb w;unfold execOp;rw[ho];dsimp only[Option.map];rw[e1,e2];simp[run_sliceAt_slice (P:=prog) w 37 _ _ _ _ (by kernel_rfl),this]
   ·rw[hi];refine .inr ⟨g,0,c,rfl,λq u hq=>?_⟩;obtain⟨vs,h1,h2⟩:=flat_inv (λvs hvs=>hM vs (List.mem_of_mem_take hvs)) hq;rw[List.getElem?_take]at h1
    split at h1
    ·have:=hE.cell (hR _ vs h1 _ u h2)
     rwa [show 32*(q/32)+q%32=0+q by omega]at this
    ·cases h1
theorem slFrom{M:List (List Value)}{sv:Value}{j:Nat}{x y:Operand}(h:HdS2 M sv w0)(hM:∀vs∈M,vs.length=32)(hj:j<=M.length)(hx:Od ops ds a0 w0 L i x (IsV sv))(hy:Od ops ds a0 w0 L i y (iV (j:Int)))(ho:o.op=.slice 37 x (some y) none none:=by rfl)(hi:L.getD i (λ_ _=>True)=IsSrc (M.drop j).length (M.drop j).flatten:=by kernel_rfl)(hb:boxes.contains i=false:=by kernel_rfl):Ok prog ops Q ds a0 w0 L boxes i o:=
 okE' hb λv a w hE hd hf=>by
  have e1:a.eval x=_:=hx.out v a w hE hd hf;have e2:a.eval y=_:=hy.out v a w hE hd hf;rcases h with⟨rfl,rfl⟩| ⟨g,c,rfl,hc,hR⟩
  ·obtain rfl:j=0:=by simpa using hj
   refine⟨.slice none 0 0,w,?_,Ext.refl w,by rw[hi];exact .inl ⟨rfl,rfl,rfl⟩⟩;unfold execOp;rw[ho];dsimp only[Option.map];rw[e1,e2]
   go_simp
  ·refine⟨.slice (if c=j then some ⟨g,0,none⟩else some ⟨g,32*j,none⟩) (M.length-j) (c-j),w,?_,Ext.refl w,?_⟩
   ·have:=run_slL g M.length c j hj w;unfold execOp;rw[ho];dsimp only[Option.map];rw[e1,e2];simp[run_sliceAt_slice (P:=prog) w 37 _ _ _ _ (by kernel_rfl),this]
   ·rw[hi];show SrcR _ _ _ _;rw[List.length_drop];by_cases hcj:c=j
    ·rw[if_pos hcj];have hd0:M.drop j= []:=List.drop_eq_nil_of_le zb;exact .inr ⟨g,0,c-j,rfl,λq u hq=>by rw[hd0]at hq;simp at hq⟩
    ·rw[if_neg hcj];refine .inr ⟨g,32*j,c-j,rfl,λq u hq=>?_⟩;obtain⟨vs,h1,h2⟩:=flat_inv (λvs hvs=>hM vs (List.mem_of_mem_drop hvs)) hq;rw[List.getElem?_drop]at h1;have:=hE.cell (hR _ vs h1 _ u h2)
     rwa [show 32*(j+q/32)+q%32=32*j+q by omega]at this
theorem bsHw{base:Nat}(hb0:base<=w0.heap.size)(ho:o.op=.buildSlice 37 0 #[]:=by rfl)(hi:L.getD i (λ_ _=>True)=IsHw base []:=by kernel_rfl)(hb:boxes.contains i=false:=by kernel_rfl):Ok prog ops Q ds a0 w0 L boxes i o:=
 okE' hb λv a w hE hd hf=>by
  have hr:(Instr.buildSlice 37 0 #[]).run prog w=.ok (.slice (some ⟨w.heap.size,0,none⟩) 0 0) (w.alloc (.cells #[] 98)):=zy
  exact⟨_,_,bsRunZ ho (by simpa using hr),(Ext.refl w).alloc _,by rw[hi];exact⟨RwgH.zero w (jK hb0 hE.size),NwB.zero w _⟩⟩
end
attribute [local go_sem] Oper.semAt_some
set_option maxRecDepth 100000
def IsBp(p:Prop):Value->World->Prop:=λx _=>∃b:Bool,x=.bool b/\(b=true->p)
theorem IsBp.stb(p:Prop):Stb (IsBp p):=λ_ _ _ _ h=>h
instance (p:Prop):StbC (IsBp p):=⟨IsBp.stb p⟩
def IsSo1(kk:Nat->Prop)(p:Int×Int×Int):Value->World->Prop:=λx w=>∃g,kk g/\x=.slice (some ⟨g,0,none⟩) 1 1/\World.cell? w ⟨g,0,none⟩=some (.int .i64 p.1)/\World.cell? w ⟨g,0+1,none⟩=some (.int .i64 p.2.1)/\World.cell? w ⟨g,0+2,none⟩=some (.int .i64 p.2.2)
theorem IsSo1.stb(kk:Nat->Prop)(p:Int×Int×Int):Stb (IsSo1 kk p):=λ_ _ _ e ⟨g,h0,h1,h2,h3,h4⟩=>⟨g,h0,h1,e.cell h2,e.cell h3,e.cell h4⟩
instance (kk:Nat->Prop) (p:Int×Int×Int):StbC (IsSo1 kk p):=⟨IsSo1.stb kk p⟩
def IsHe(kk:Nat->Prop)(p:Int×Int×Int)(es:List Value):Value->World->Prop:=λx w=>∃g o c,kk g/\x=.agg (es++ [Value.slice (some ⟨g,o,none⟩) 1 c]).toArray/\World.cell? w ⟨g,o,none⟩=some (.int .i64 p.1)/\World.cell? w ⟨g,o+1,none⟩=some (.int .i64 p.2.1)/\World.cell? w ⟨g,o+2,none⟩=some (.int .i64 p.2.2)
theorem IsHe.stb(kk:Nat->Prop)(p:Int×Int×Int)(es:List Value):Stb (IsHe kk p es):=λ_ _ _ e ⟨g,o,c,h0,h1,h2,h3,h4⟩=>⟨g,o,c,h0,h1,e.cell h2,e.cell h3,e.cell h4⟩
instance (kk:Nat->Prop) (p:Int×Int×Int) (es:List Value):StbC (IsHe kk p es):=⟨IsHe.stb kk p es⟩
def IsHn(kk:Nat->Prop)(p:Int×Int×Int)(es:List Value):Value->World->Prop:=λx w=>∃g o c,kk g/\SrcR 1 (es++ [Value.slice (some ⟨g,o,none⟩) 1 c]) x w/\World.cell? w ⟨g,o,none⟩=some (.int .i64 p.1)/\World.cell? w ⟨g,o+1,none⟩=some (.int .i64 p.2.1)/\World.cell? w ⟨g,o+2,none⟩=some (.int .i64 p.2.2)
theorem IsHn.stb(kk:Nat->Prop)(p:Int×Int×Int)(es:List Value):Stb (IsHn kk p es):=λ_ _ _ e ⟨g,o,c,h0,h1,h2,h3,h4⟩=>⟨g,o,c,h0,h1.ext e,e.cell h2,e.cell h3,e.cell h4⟩
instance (kk:Nat->Prop) (p:Int×Int×Int) (es:List Value):StbC (IsHn kk p es):=⟨IsHn.stb kk p es⟩
theorem fa_Sh0(g:Nat)(w:World):(Instr.fieldAt 39 (.pointer (some ⟨g,0,none⟩)) 0).run prog w=.ok (.pointer (some ⟨g,0,none⟩)) w:=by go_simp
theorem fa_He0(g f:Nat)(w:World):(Instr.fieldAt 98 (.pointer (some ⟨g,f,none⟩)) 0).run prog w=.ok (.pointer (some ⟨g,f,none⟩)) w:=by go_simp
theorem fa_He1(g f:Nat)(w:World):(Instr.fieldAt 98 (.pointer (some ⟨g,f,none⟩)) 1).run prog w=.ok (.pointer (some ⟨g,f+31,none⟩)) w:=by go_simp
theorem ld_aH:LdC1 prog 37:=λw a v h=>by go_simp
theorem ld_aSo:LdC1 prog 96:=λw a v h=>by go_simp
theorem st_Sh:StV prog 39 1:=stM za
theorem lv_Sh{w:World}{g:Nat}{vs:List Value}(hl:vs.length=1)(B:Bk w g vs):(loadVar 39 ⟨g,0,none⟩).run prog w=.ok (.agg vs.toArray) w:=lvM za za hl B
theorem nwNilS:∀v∈ [Value.slice none 0 0],NoWord v:=λv hv=>by obtain rfl:v=.slice none 0 0:=(by simpa using hv);exact NoWord.slice _ _ _
theorem bd_HeE(nm:ByteArray)(va:Option Addr)(vn vc:Nat)(ha:Option Addr)(hn hc:Nat)(a:Option Addr)(n c:Nat)(w:World):(Instr.build 98 #[(0,.agg (entV nm va vn vc ha hn hc).toArray),(1,.slice a n c)]).run prog w=.ok (.agg (entV nm va vn vc ha hn hc++ [Value.slice a n c]).toArray) w:=by unfold entV;go_simp
theorem bs_HeE(nm:ByteArray)(va:Option Addr)(vn vc:Nat)(ha:Option Addr)(hn hc:Nat)(a:Option Addr)(n c:Nat)(w:World):(Instr.buildSlice 37 1 #[(0,.agg (entV nm va vn vc ha hn hc++ [Value.slice a n c]).toArray)]).run prog w=.ok (.slice (some ⟨w.heap.size,0,none⟩) 1 1) (w.alloc (.cells (entV nm va vn vc ha hn hc++ [Value.slice a n c]).toArray 98)):=by unfold entV;go_simp
section
variable {ops:Array Oper} {Q:Exit->Act->World->Prop} {ds:List (Option Tmp)} {a0:Act} {w0:World} {L:List (Value->World->Prop)} {boxes:List Nat} {i k:Nat} {o:Oper} {os:List Oper}
theorem bnL{nm nm':ByteArray}{x:Operand}(hx:Od ops ds a0 w0 L i x (IsCm nm nm'))(ho:o.op=.binOp .lss 3 x (.const (.int .i64 0)) 3:=by rfl)(hi:L.getD i (λ_ _=>True)=IsBp True:=by kernel_rfl)(hb:boxes.contains i=false:=by kernel_rfl):Ok prog ops Q ds a0 w0 L boxes i o:=
 okE' hb λv a w hE hd hf=>by
  obtain⟨c,h1,-⟩:=hx.out v a w hE hd hf;refine⟨.bool (decide (c<0)),w,?_,Ext.refl w,by rw[hi];exact⟨_,rfl,λ_=>trivial⟩⟩;unfold execOp;rw[ho];dsimp only;rw[h1,show a.eval (.const (.int .i64 0))=.int .i64 0 from rfl]
  go_simp
theorem bnZ{nm nm':ByteArray}{x:Operand}(hx:Od ops ds a0 w0 L i x (IsCm nm nm'))(ho:o.op=.binOp .eql 3 x (.const (.int .i64 0)) 3:=by rfl)(hi:L.getD i (λ_ _=>True)=IsBp (nm=nm'):=by kernel_rfl)(hb:boxes.contains i=false:=by kernel_rfl):Ok prog ops Q ds a0 w0 L boxes i o:=
 okE' hb λv a w hE hd hf=>by
  obtain⟨c,h1,-,-,h2⟩:=hx.out v a w hE hd hf;refine⟨.bool (decide (c=0)),w,?_,Ext.refl w,by rw[hi];exact⟨_,rfl,λh=>h2 (of_decide_eq_true h)⟩⟩;unfold execOp;rw[ho];dsimp only;rw[h1,show a.eval (.const (.int .i64 0))=.int .i64 0 from rfl]
  go_simp
  by_cases hc0:c=0 <;> simp[hc0]
theorem bsSo1{kk:Nat->Prop}{p:Int×Int×Int}{x:Operand}(hk:∀m,w0.heap.size<=m->kk m)(hx:Od ops ds a0 w0 L i x (IsV (.agg #[.int .i64 p.1,.int .i64 p.2.1,.int .i64 p.2.2])))(ho:o.op=.buildSlice 96 1 #[(0,x)]:=by rfl)(hi:L.getD i (λ_ _=>True)=IsSo1 kk p:=by kernel_rfl)(hb:boxes.contains i=false:=by kernel_rfl):Ok prog ops Q ds a0 w0 L boxes i o:=
 okE' hb λv a w hE hd hf=>by
  have h1:a.eval x=_:=hx.out v a w hE hd hf;have hr:(Instr.buildSlice 96 1 #[(0,.agg #[.int .i64 p.1,.int .i64 p.2.1,.int .i64 p.2.2])]).run prog w=.ok (.slice (some ⟨w.heap.size,0,none⟩) 1 1) (w.alloc (.cells #[.int .i64 p.1,.int .i64 p.2.1,.int .i64 p.2.2] 102)):=zy
  have B:=Bk.new w #[.int .i64 p.1,.int .i64 p.2.1,.int .i64 p.2.2] 102;exact⟨_,_,bsRunZ ho zam,(Ext.refl w).alloc _,by rw[hi];exact⟨_,hk _ hE.size,rfl,B.c 0 _ rfl,B.c 1 _ rfl,B.c 2 _ rfl⟩⟩
theorem bdHe{kk:Nat->Prop}{p:Int×Int×Int}{nm:ByteArray}{va:Option Addr}{vn vc:Nat}{ha:Option Addr}{hn hc:Nat}{es:List Value}{x y:Operand}(hes:entV nm va vn vc ha hn hc=es)(hx:Od ops ds a0 w0 L i x (IsV (.agg es.toArray)))(hy:Od ops ds a0 w0 L i y (IsSo1 kk p))(ho:o.op=.build 98 #[(0,x),(1,y)]:=by rfl)(hi:L.getD i (λ_ _=>True)=IsHe kk p es:=by kernel_rfl)(hb:boxes.contains i=false:=by kernel_rfl):Ok prog ops Q ds a0 w0 L boxes i o:=
 okE' hb λv a w hE hd hf=>by
  subst hes;have h1:a.eval x=_:=hx.out v a w hE hd hf;obtain⟨g,h0,h2,q1,q2,q3⟩:=hy.out v a w hE hd hf;exact⟨_,w,bdG ho xd,Ext.refl w,by rw[hi];exact⟨g,0,1,h0,rfl,q1,q2,q3⟩⟩
theorem bdHeV{kk:Nat->Prop}{p:Int×Int×Int}{nm:ByteArray}{va:Option Addr}{vn vc:Nat}{ha:Option Addr}{hn hc:Nat}{g o' c':Nat}{es:List Value}{x y:Operand}(hes:entV nm va vn vc ha hn hc=es)(hk:kk g)(q1:World.cell? w0 ⟨g,o',none⟩=some (.int .i64 p.1))(q2:World.cell? w0 ⟨g,o'+1,none⟩=some (.int .i64 p.2.1))(q3:World.cell? w0 ⟨g,o'+2,none⟩=some (.int .i64 p.2.2))(hx:Od ops ds a0 w0 L i x (IsV (.agg es.toArray)))(hy:Od ops ds a0 w0 L i y (IsV (.slice (some ⟨g,o',none⟩) 1 c')))(ho:o.op=.build 98 #[(0,x),(1,y)]:=by rfl)(hi:L.getD i (λ_ _=>True)=IsHe kk p es:=by kernel_rfl)(hb:boxes.contains i=false:=by kernel_rfl):Ok prog ops Q ds a0 w0 L boxes i o:=
 okE' hb λv a w hE hd hf=>by
  subst hes;have h1:a.eval x=_:=hx.out v a w hE hd hf;have h2:a.eval y=_:=hy.out v a w hE hd hf;exact⟨_,w,bdG ho xd,Ext.refl w,by rw[hi];exact⟨g,o',c',hk,rfl,hE.cell q1,hE.cell q2,hE.cell q3⟩⟩
theorem bsHn{kk:Nat->Prop}{p:Int×Int×Int}{nm:ByteArray}{va:Option Addr}{vn vc:Nat}{ha:Option Addr}{hn hc:Nat}{es:List Value}{x:Operand}(hes:entV nm va vn vc ha hn hc=es)(hx:Od ops ds a0 w0 L i x (IsHe kk p es))(ho:o.op=.buildSlice 37 1 #[(0,x)]:=by rfl)(hi:L.getD i (λ_ _=>True)=IsHn kk p es:=by kernel_rfl)(hb:boxes.contains i=false:=by kernel_rfl):Ok prog ops Q ds a0 w0 L boxes i o:=
 okE' hb λv a w hE hd hf=>by
  subst hes;obtain⟨g,o',c,h0,h1,q1,q2,q3⟩:=hx.out v a w hE hd hf;have e:=(Ext.refl w).alloc (.cells (entV nm va vn vc ha hn hc++ [Value.slice (some ⟨g,o',none⟩) 1 c]).toArray 98);exact⟨_,_,bsRunZ ho (by simp only[List.map_toArray,List.map_cons,List.map_nil];rw[h1];exact bs_HeE _ _ _ _ _ _ _ _ _ _ _),e,by rw[hi];exact⟨g,o',c,h0,SrcR.new w (entV nm va vn vc ha hn hc++ [Value.slice (some ⟨g,o',none⟩) 1 c]).toArray _ 1 1,e.cell q1,e.cell q2,e.cell q3⟩⟩
end
def IsSh(L:List (List Value))(nm:ByteArray)(p:Int×Int×Int):Value->World->Prop:=λx w=>∃(sv:Value) (j m:Nat) (new:List Value),x=.agg #[sv]/\HdS2 (L.take j++ [new]++L.drop m) sv w/\j<=L.length/\HeldW p new w/\xZ new=nm/\(m=j\/(m=j+1/\p=(0,1,0)/\∃vs,L[j]? =some vs/\xZ vs=nm))
theorem IsSh.stb(L:List (List Value))(nm:ByteArray)(p:Int×Int×Int):Stb (IsSh L nm p):=λ_ _ _ e ⟨sv,j,m,new,h1,h2,h3,h4,h5,h6⟩=>⟨sv,j,m,new,h1,h2.ext e,h3,h4.ext e,h5,h6⟩
instance (L:List (List Value)) (nm:ByteArray) (p:Int×Int×Int):StbC (IsSh L nm p):=⟨IsSh.stb L nm p⟩
theorem HeldW.ent{p:Int×Int×Int}{vs:List Value}{w:World}(h:HeldW p vs w):∃d es,vs.take 31=es/\EntW (xZ vs) d es w/\∃g o c,vs[31]? =some (.slice (some ⟨g,o,none⟩) 1 c)/\World.cell? w ⟨g,o,none⟩=some (.int .i64 p.1)/\World.cell? w ⟨g,o+1,none⟩=some (.int .i64 p.2.1)/\World.cell? w ⟨g,o+2,none⟩=some (.int .i64 p.2.2):=by
 obtain⟨nm,d,es,g,o,c,rfl,h1,h2,h3,h4⟩:=h;have hl:=h1.len
 have hn:xZ (es++ [Value.slice (some ⟨g,o,none⟩) 1 c])=nm:=by
  obtain⟨-,-,-,va,vc,ha,hc,rfl,-⟩:=h1;rfl
 refine⟨d,es,by rw[<-hl];simp,by rw[hn];exact h1,g,o,c,?_,h2,h3,h4⟩;rw[List.getElem?_append_right (by omega),hl];rfl
theorem ix_HdS(sa:Option Addr)(g c n j:Nat)(ha:sa=some ⟨g,0,none⟩)(h:j<n)(w:World):(Instr.indexAt 37 (.slice sa n c) (.int .i64 (j:Int))).run prog w=.ok (.pointer (some ⟨g,32*j,none⟩)) w:=by subst ha;exact ix_Hd g c n j h w
theorem hdAt{L:List (List Value)}{sa:Option Addr}{n sc j:Nat}{vs:List Value}{p:Int×Int×Int}{w W:World}(hs:HdS2 L (.slice sa n sc) W)(hvs:L[j]? =some vs)(hW:HeldW p vs w):∃(g g31 o31 c31:Nat) (d':EnD) (es':List Value),sa=some ⟨g,0,none⟩/\(∀w',Ext W w'->(Instr.loadAt 95 (.pointer (some ⟨g,32*j,none⟩))).run prog w'=.ok (.agg es'.toArray) w')/\
  (∀w',Ext W w'->World.cell? w' ⟨g,32*j+31,none⟩=some (.slice (some ⟨g31,o31,none⟩) 1 c31))/\EntW (xZ vs) d' es' w/\World.cell? w ⟨g31,o31,none⟩=some (.int .i64 p.1)/\World.cell? w ⟨g31,o31+1,none⟩=some (.int .i64 p.2.1)/\World.cell? w ⟨g31,o31+2,none⟩=some (.int .i64 p.2.2):=by
 obtain⟨d',es',ht,hent,g31,o31,c31,q31,r1,r2,r3⟩:=hW.ent;rcases hs with⟨h1,-⟩| ⟨g,c,h1,-,hR⟩
 ·rw[h1]at hvs;simp at hvs
 ·simp only[Value.slice.injEq]at h1;refine⟨g,g31,o31,c31,d',es',h1.1,λw' e=>ldM (vs:=es') za za hent.len (λq u hq=>e.cell (hR j vs hvs q u ?_)),λw' e=>e.cell (hR j vs hvs 31 _ q31),hent,r1,r2,r3⟩;rw[<-ht,List.getElem?_take]at hq
  split at hq
  ·exact hq
  ·cases hq
theorem HdS2.only{L:List (List Value)}{v:Value}{w w':World}{k:Nat}(h:HdS2 L v w)(O:OnlyB k w w')(hk:∀g,v.ownBlock=some g->g≠k):HdS2 L v w':=h.imp id λ⟨g,c,h1,h2,h3⟩=>⟨g,c,h1,h2,h3.only (Ob.only O) (hk g (by rw[h1];rfl))⟩
theorem qW{w w':World}{k g o:Nat}{u:Value}(h:World.cell? w ⟨g,o,none⟩=some u)(O:OnlyB k w w')(hk:g≠k):World.cell? w' ⟨g,o,none⟩=some u:=(World.cell?_of_block (w:=w) (a:=⟨g,o,none⟩) (O.block g hk)).trans h
end
section
open Go Go.RowKit Go.Maps Go.Shelf
open Go.Proofs.Tryz
theorem zw{P:Prop}(h:P:=by exact mv (qB (x:=.int .i64 (j:Int)) 7)):P:=h
theorem jx{P:Prop}(h:P:=by exact fa (fa_Sh0 b) (qB 3)):P:=h
theorem jz{P:Prop}(h:P:=by rw[<-hu];exact hZ 1 dcx):P:=h
theorem yv{P:Prop}(h:P:=by have:=HL.out;have:=hjn.out;simp;omega):P:=h
theorem yz{P:Prop}(h:P:=by exact lv (fP:=IsV (.agg es.toArray)) _ (λw2 e=>ld_En31 HLN.out (HB4.out.ext (S3.out.2.trans e))) (qB 4) (λ_ _=>rfl)):P:=h
attribute [local go_sem] Oper.semAt_some
set_option maxRecDepth 100000
def IsShE(L:List (List Value))(nm:ByteArray)(p:Int×Int×Int)(es:List Value):Value->World->Prop:=λx w=>∃(sv:Value) (j m:Nat) (new:List Value),x=.agg #[sv]/\HdS2 (L.take j++ [new]++L.drop m) sv w/\j<=L.length/\HeldW p new w/\xZ new=nm/\(m=j\/(m=j+1/\p=(0,1,0)/\∃vs,L[j]? =some vs/\xZ vs=nm))/\new.take 31=es
set_option maxHeartbeats 16000000 in
theorem add_ge{w:World}{L:List (List Value)}{sv:Value}{nm:ByteArray}{d:EnD}{es:List Value}{p:Int×Int×Int}(hs:HdS2 L sv w)(hl:L.length<=1000)(hL:∀vs∈L,HeldW (0,1,0) vs w)(he:EntW nm d es w)(hp:p=(0,1,0)\/∀vs∈L,xZ vs≠nm):
  Calls prog 25 #[.agg #[sv],.agg es.toArray,.agg #[.int .i64 p.1,.int .i64 p.2.1,.int .i64 p.2.2]] w (Ret w (IsShE L nm p es)):=by
 have hes:∃va vn vc ha hn hc,es=entV nm va vn vc ha hn hc:=by obtain⟨-,-,-,va,vc,ha,hc,rfl,-⟩:=he;exact⟨_,_,_,_,_,_,rfl⟩
 obtain⟨va,vn,vc,ha,hn',hc,rfl⟩:=hes;have HOK:=hid (show ∀vs∈L,HdOk vs from λvs h=>(hL vs h).ok.1);have H32:=hid (show ∀vs∈L,vs.length=32 from λvs h=>(hL vs h).ok.1.1)
 have hsl:∃a n c,sv=.slice a n c/\n=L.length:=by
  rcases hs with⟨rfl,rfl⟩| ⟨g,c,rfl,-,-⟩
  ·exact⟨_,_,_,rfl,rfl⟩
  ·exact⟨_,_,_,rfl,rfl⟩
 obtain⟨sa,n,sc,rfl,hn⟩:=hsl;obtain⟨es,hes⟩:∃es,entV nm va vn vc ha hn' hc=es:=⟨_,rfl⟩;have HES:=hid hes;rw[hes]at he ⊢;have hlen:=he.len
 obtain⟨W,hW,E,B3,B4,B5,B6⟩:∃W,W=(((w.alloc (.cells #[.slice sa n sc] 39)).alloc (.cells es.toArray 95)).alloc (.cells #[.int .i64 p.1,.int .i64 p.2.1,.int .i64 p.2.2] 102)).alloc (.cells #[.slice none 0 0] 39)/\Ext w W/\Bk W w.heap.size [.slice sa n sc]/\Bk W (w.heap.size+1) es/\Bk W (w.heap.size+2) [.int .i64 p.1,.int .i64 p.2.1,.int .i64 p.2.2]/\Bk W (w.heap.size+3) [.slice none 0 0]:=
  ⟨_,rfl,((((Ext.refl w).alloc _).alloc _).alloc _).alloc _,(Bk.new w _ _).ext ((((Ext.refl _).alloc _).alloc _).alloc _),(Bk.newE _ _ zd _ _).ext (((Ext.refl _).alloc _).alloc _),(Bk.newE _ _ zd _ _).ext ((Ext.refl _).alloc _),Bk.newE _ _ zd _ _⟩
 obtain⟨b,hbb⟩:∃b,w.heap.size=b:=⟨_,rfl⟩;rw[hbb]at B3 B4 B5 B6;have HE:=hid E;have HB3:=hid B3;have HB4:=hid B4;have HB5:=hid B5;have HB6:=hid B6;have HS:=hid (hs.ext E);have HL:=hid (jI hl hn);have HLW:=hid hL;have HEN:=hid he;have HP:=hid hp;have HLN:=hid hlen;have HBB:=hid (jI hbb B6.lt);clear hs hl hL he hp E B3 B4 B5 B6 hlen hn hes;go_enter func25,ntmps25;go_upto_region 1 with fail;rw[<-hW];clear hW hbb;go_wp2_with fail
 go_loopg [7] n (λgk v7 wr=>∃j:Nat,v7=.int .i64 (j:Int)/\j+gk=n/\Hid (Ext W wr))
 case atStart=>exact⟨0,rfl,by omega,hid (Ext.refl W)⟩
 case round=>
  obtain⟨j,rfl,hg,S⟩:=hrel;by_cases hj:j<n
  case' pos=>
   obtain⟨vs,hvs⟩:∃vs,L[j]? =some vs:=⟨_,List.getElem?_eq_getElem (by have:=HL.out.2;omega)⟩;obtain⟨g,g31,o31,c31,d',es',hsa,hld,-,hent,-,-,-⟩:=hdAt HS.out hvs (HLW.out vs (List.mem_of_getElem? hvs));have HLD:=hid hld;have HSA:=hid hsa;have HVN:=hid hent;have HJ:=hid (jI hj hg);have HIW:=hid (show IntKind.i64.wrap ((j:Int)+1)=((j+1:Nat):Int)by have:=HL.out;simp only[IntKind.wrap_i64];omega);have hjn:=hid (show j<=n by omega);clear hvs hent hld hg hj hsa;go_upto_region 2 with fail;refine rg 16 (dR 9 16) [iV (j:Int),IsP b 0,IsV (.slice sa n sc),iV (n:Int),IsV (.bool true),IsV (.bool true),IsP b 0,IsV (.slice sa n sc),iV (j:Int),IsP g (32*j),IsP g (32*j),IsV (.agg es'.toArray),IsV (.agg es.toArray),IsCm (xZ vs) nm,IsBp True,IsBp True] [] 0 ?_ ?_
   ·refine Rc zw ?_;refine Rc jx ?_;refine Rc (lvC 0 (HB3.out.ext S.out) ld_aH (qA 1 10)) ?_;refine Rc (lnZ (p:=sa) (n:=n) (c:=sc) (qA 2 11)) ?_;refine Rc (bn (r:=.bool true) (qC 0 9) (qC 3 12) (hr:=λw=>by have hil:(j:Int)<(n:Int):=(by have:=HJ.out;omega);go_simp)) ?_;refine Rc (mv (qA (fP:=IsV (.bool true)) 4 13)) ?_;refine RcG 5 14 true jx ?_;refine RcG 5 14 true (lvC 0 (HB3.out.ext S.out) ld_aH (qA 6 15)) ?_;refine RcG 5 14 true zw ?_;refine RcG 5 14 true (ixq (ix_HdS sa g sc n j HSA.out HJ.out.1) (qA 7 16) (qA 8 17)) ?_;refine RcG 5 14 true (fa (fa_He0 g (32*j)) (qA 9 18)) ?_;refine RcG 5 14 true (lv (fP:=IsV (.agg es'.toArray)) _ (λw2 e=>HLD.out w2 (S.out.trans e)) (qA 10 19) (λ_ _=>rfl)) ?_;refine RcG 5 14 true (lv (fP:=IsV (.agg es.toArray)) _ (λw2 e=>ld_En31 HLN.out (HB4.out.ext (S.out.trans e))) (qB 4) (λ_ _=>rfl)) ?_;refine RcG 5 14 true (cl2 (en func57) (qA (fP:=IsV (.agg es'.toArray)) 11 20) (qA (fP:=IsV (.agg es.toArray)) 12 21) (λx0 x1 w' hE d0 d1=>by{obtain rfl:x0=_:=d0;obtain rfl:x1=_:=d1;exact compare_f (HVN.out.ext (HE.out.trans (S.out.trans hE))) (HEN.out.ext (HE.out.trans (S.out.trans hE)))})) ?_;refine RcG 5 14 true (bnL (nm:=xZ vs) (nm':=nm) (qA 13 22)) ?_;refine Rc (pk (b:=true) (qA 5 14) (qA 14 23)) ?_;exact rn0
   intro x X1 e1 hZ _;obtain⟨bb,hbv,-⟩:=hZ 15 dcx;simp only[lxE,Nat.reduceAdd];rw[hbv];have S1:=hid (S.out.trans e1);clear hZ hbv e1 S;refine jL za ?_ _;have hiw:=HIW.out;cases bb
   case' true=>
    go_wp2_with fail
    go_roundg (gk-1)
    case measure=>have:=HJ.out;omega
    case rel=>exact⟨j+1,rfl,by have:=HJ.out;omega,S1⟩
   case' false=>
    clear hiw HIW HJ HVN HLD HSA
  case' neg=>
   have hjn:=hid (show j<=n by omega);have HJN:=hid (jI hj hg);clear hj hg;go_upto_region 2 with fail;refine rg 16 (dR 9 16) [iV (j:Int),IsP b 0,IsV (.slice sa n sc),iV (n:Int),IsV (.bool false),IsV (.bool false),IsV undef,IsV undef,IsV undef,IsV undef,IsV undef,IsV undef,IsV undef,IsV undef,IsV undef,IsV (.bool false)] [] 0 ?_ ?_
   ·refine Rc zw ?_;refine Rc jx ?_;refine Rc (lvC 0 (HB3.out.ext S.out) ld_aH (qA 1 10)) ?_;refine Rc (lnZ (p:=sa) (n:=n) (c:=sc) (qA 2 11)) ?_;refine Rc (bn (r:=.bool false) (qC 0 9) (qC 3 12) (hr:=λw=>by have hil:¬((j:Int)<(n:Int)):=(by have:=HJN.out;omega);go_simp)) ?_;refine Rc (mv (qA (fP:=IsV (.bool false)) 4 13)) ?_
    iterate 9 refine RcN 5 14 false ?_
    refine Rc (pk (b:=false) (qA 5 14) qF) ?_;exact rn0
   intro x X1 e1 hZ _;simp only[lxE,Nat.reduceAdd];rw[show x 15=.bool false from hZ 15 dcx];have S1:=hid (S.out.trans e1);clear hZ e1 S;refine jL za ?_ _
  all_goals
   have htl:(L.take j).length=j:=by have:=hjn.out;have:=HL.out.2;simp;omega
   go_upto_region 4 with fail;refine rgs 5 (dR 27 5) [IsHw W.heap.size [],IsP b 0,IsV (.slice sa n sc),iV (j:Int),IsSrc j (L.take j).flatten] [] ?_ ?_
   ·refine Rc (bsHw S1.out.size) ?_;refine Rc jx ?_;refine Rc (lvC 0 (HB3.out.ext S1.out) ld_aH (qA 1 28)) ?_;refine Rc zw ?_;refine Rc (slTo (M:=L) (j:=j) (HS.out.ext S1.out) H32.out (by have:=hjn.out;have:=HL.out.2;omega) (qA 2 29) (qA 3 30)) ?_;exact rn0
   intro x X2 e2 hZ _;have h0:IsHw W.heap.size [] (x 0) X2:=hZ 0 dcx;have h4:SrcR (L.take j).length (L.take j).flatten (x 4) X2:=by rw[htl];exact hZ 4 dcx
   simp only[lxE,Nat.reduceAdd];clear hZ;have E2:=S1.out.trans e2;refine stL (λK hK=>wp_hw 32 (.tmp 27) (.tmp 31) rfl W.heap.size [] (L.take j) (x 0) (x 4) rfl rfl h0 (λvs h=>HOK.out vs (List.mem_of_mem_take h)) h4 (by have:=HL.out;simp;omega) E2.size (λv8 w8 hI8 p8=>hK _ _ ?_));have hb8:=h0.below p8 E2.size;have H8:=hid (jI hI8 (show Ext W w8 from Below.trans E2 hb8));clear h0 h4 hI8 hb8 p8 hK K e2 E2 S1 htl;simp only[List.nil_append]at H8;by_cases hj:j<n
   case' pos=>
    obtain⟨vs,hvs⟩:∃vs,L[j]? =some vs:=⟨_,List.getElem?_eq_getElem (by have:=HL.out.2;omega)⟩;obtain⟨g,g31,o31,c31,d',es',hsa,hld,hl31,hent,r1,r2,r3⟩:=hdAt HS.out hvs (HLW.out vs (List.mem_of_getElem? hvs));have HLD:=hid (jI hld hl31);have HVN:=hid hent;have HSA:=hid hsa;have HJ:=hid hj;have HVS:=hid hvs;have HR:=hid (jI r1 (jI r2 r3));have HG:=hid (show g31<b by rw[<-HBB.out.1];exact World.block_lt_of_cell? _ _ r1);clear hld hl31 hent hsa hj hvs r1 r2 r3;go_upto_region 5 with fail;refine rg 16 (dR 33 16) [iV (j:Int),IsP b 0,IsV (.slice sa n sc),iV (n:Int),IsV (.bool true),IsV (.bool true),IsP b 0,IsV (.slice sa n sc),iV (j:Int),IsP g (32*j),IsP g (32*j),IsV (.agg es'.toArray),IsV (.agg es.toArray),IsCm (xZ vs) nm,IsBp (xZ vs=nm),IsBp (xZ vs=nm)] [] 0 ?_ ?_
    ·refine Rc zw ?_;refine Rc jx ?_;refine Rc (lvC 0 (HB3.out.ext H8.out.2) ld_aH (qA 1 34)) ?_;refine Rc (lnZ (p:=sa) (n:=n) (c:=sc) (qA 2 35)) ?_;refine Rc (bn (r:=.bool true) (qC 0 33) (qC 3 36) (hr:=λw=>by have hil:(j:Int)<(n:Int):=(by have:=HJ.out;omega);go_simp)) ?_;refine Rc (mv (qA (fP:=IsV (.bool true)) 4 37)) ?_;refine RcG 5 38 true jx ?_;refine RcG 5 38 true (lvC 0 (HB3.out.ext H8.out.2) ld_aH (qA 6 39)) ?_;refine RcG 5 38 true zw ?_;refine RcG 5 38 true (ixq (ix_HdS sa g sc n j HSA.out HJ.out) (qA 7 40) (qA 8 41)) ?_;refine RcG 5 38 true (fa (fa_He0 g (32*j)) (qA 9 42)) ?_;refine RcG 5 38 true (lv (fP:=IsV (.agg es'.toArray)) _ (λw2 e=>HLD.out.1 w2 (H8.out.2.trans e)) (qA 10 43) (λ_ _=>rfl)) ?_;refine RcG 5 38 true (lv (fP:=IsV (.agg es.toArray)) _ (λw2 e=>ld_En31 HLN.out (HB4.out.ext (H8.out.2.trans e))) (qB 4) (λ_ _=>rfl)) ?_;refine RcG 5 38 true (cl2 (en func57) (qA (fP:=IsV (.agg es'.toArray)) 11 44) (qA (fP:=IsV (.agg es.toArray)) 12 45) (λx0 x1 w' hE d0 d1=>by{obtain rfl:x0=_:=d0;obtain rfl:x1=_:=d1;exact compare_f (HVN.out.ext (HE.out.trans (H8.out.2.trans hE))) (HEN.out.ext (HE.out.trans (H8.out.2.trans hE)))})) ?_;refine RcG 5 38 true (bnZ (nm:=xZ vs) (nm':=nm) (qA 13 46)) ?_;refine Rc (pk (b:=true) (qA 5 38) (qA 14 47)) ?_;exact rn0
    intro x X3 e3 hZ _;obtain⟨bb,hbv,hbn⟩:=hZ 15 dcx;simp only[lxE,Nat.reduceAdd];rw[hbv];have S3:=hid (jI (H8.out.1.ext e3) (H8.out.2.trans e3));clear hZ hbv e3 H8;refine jL za ?_ _;cases bb
    case' true=>
     have hnm:=hid (hbn rfl);have hp0:p=(0,1,0):=HP.out.resolve_right (λh=>h vs (List.mem_of_getElem? HVS.out) hnm.out);subst hp0;go_upto_region 6 with fail;refine rg 12 (dR 49 12) [IsV v8,IsV (.agg es.toArray),IsP b 0,IsV (.slice sa n sc),iV (j:Int),IsP g (32*j),IsP g (32*j+31),IsV (.slice (some ⟨g31,o31,none⟩) 1 c31),IsV (.agg #[.int .i64 0,.int .i64 1,.int .i64 0]),IsV (.slice (some ⟨g31,o31,none⟩) 1 c31),IsHe (λg=>g<b) (0,1,0) es,IsHn (λg=>g<b) (0,1,0) es] [] 2 ?_ ?_
     ·refine Rc (mv (qB 8)) ?_;refine Rc yz ?_;refine Rc jx ?_;refine Rc (lvC 0 (HB3.out.ext S3.out.2) ld_aH (qA 2 51)) ?_;refine Rc zw ?_;refine Rc (ixq (ix_HdS sa g sc n j HSA.out HJ.out) (qA 3 52) (qA 4 53)) ?_;refine Rc (fa (fa_He1 g (32*j)) (qA 5 54)) ?_;refine Rc (lv (fP:=IsV (.slice (some ⟨g31,o31,none⟩) 1 c31)) _ (λw2 e=>ld_aSo w2 _ _ (HLD.out.2 w2 (S3.out.2.trans e))) (qA 6 55) (λ_ _=>rfl)) ?_;refine Rc (lv (fP:=IsV (.agg #[.int .i64 0,.int .i64 1,.int .i64 0])) _ (λw2 e=>ld_So3 (vs:= [.int .i64 0,.int .i64 1,.int .i64 0]) (f:=0) rfl (λq u hq=>by rw[Nat.zero_add];exact(HB5.out.ext (S3.out.2.trans e)).c q u hq)) (qB 5) (λ_ _=>rfl)) ?_
      refine Rc (cl2 (en func58) (qA (fP:=IsV (.slice (some ⟨g31,o31,none⟩) 1 c31)) 7 56) (qA (fP:=IsV (.agg #[.int .i64 0,.int .i64 1,.int .i64 0])) 8 57) (λx0 x1 w' hE d0 d1=>by
       obtain rfl:x0=_:=d0;obtain rfl:x1=_:=d1;refine sourced_f (λq u hq=>?_);have e9:=HE.out.trans (S3.out.2.trans hE);rcases q with _|_|_|q
       ·cases hq;exact e9.cell HR.out.1
       ·cases hq;exact e9.cell HR.out.2.1
       ·cases hq;exact e9.cell HR.out.2.2
       ·simp[s010]at hq)) ?_
      refine Rc (bdHeV (kk:=λg=>g<b) (p:=(0,1,0)) (c':=c31) HES.out HG.out ((HE.out.trans S3.out.2).cell HR.out.1) ((HE.out.trans S3.out.2).cell HR.out.2.1) ((HE.out.trans S3.out.2).cell HR.out.2.2) (qA 1 50) (qA 9 58)) ?_;refine Rc (bsHn (kk:=λg=>g<b) (p:=(0,1,0)) HES.out (qA 10 59)) ?_;exact rn0
     intro x X4 e4 hZ _;obtain⟨gn,on,cn,hgn,hsr,t1,t2,t3⟩:=hZ 11 dcx;simp only[lxE,Nat.reduceAdd];rw[show x 0=v8 from hZ 0 dcx];clear hZ;have E4:=S3.out.2.trans e4;have hok:HdOk (es++ [Value.slice (some ⟨gn,on,none⟩) 1 cn]):=(show HeldW (0,1,0) (es++ [Value.slice (some ⟨gn,on,none⟩) 1 cn]) X4 from⟨nm,d,es,gn,on,cn,rfl,HEN.out.ext (HE.out.trans E4),t1,t2,t3⟩).ok.1;have hhn:xZ (es++ [Value.slice (some ⟨gn,on,none⟩) 1 cn])=nm:=by rw[<-HES.out];rfl
     obtain⟨new,hnw⟩:∃new,es++ [Value.slice (some ⟨gn,on,none⟩) 1 cn]=new:=⟨_,rfl⟩;rw[hnw]at hsr hok hhn;have HNN:=hid (jI hnw.symm (jI hok.1 hhn));refine stA 12 rfl (λK hK=>wp_hw 61 (.tmp 49) (.tmp 60) rfl W.heap.size (L.take j) [new] v8 (x 11) rfl rfl (S3.out.1.ext e4) (λvs h=>by rw[List.mem_singleton]at h;rw[h];exact hok) (by simpa using hsr) yv E4.size (λv9 w9 hI9 p9=>hK _ _ ?_));have hb9:=(S3.out.1.ext e4).below p9 E4.size;have H9:=hid (jI hI9 (show Ext W w9 from Below.trans E4 hb9));have h8o:v8.ownBlock≠some gn:=λe=>by have:=(S3.out.1.1.own_lt e).2;have:=HBB.out.2;omega
     have h9o:v9.ownBlock≠some gn:=λe=>by have:=(hI9.1.own_lt e).2;have:=HBB.out.2;omega
     have HSC:=hid (jI h9o (jI (show gn≠b+3 by omega) (jI (p9.cell t1 h8o) (jI (p9.cell t2 h8o) (p9.cell t3 h8o)))));clear hI9 p9 hb9 h8o h9o t1 t2 t3 hnw hok hhn hsr hK K e4 E4 S3;refine asA 13 8 (.tmp 61) v9 rfl ?_;refine jL za ?_ _;simp only[Act.put,uAx,u0x,u1x];go_upto_region 7 with fail;refine rgs 6 (dR 62 6) [IsV v9,IsP b 0,IsV (.slice sa n sc),iV (j:Int),iV ((j+1:Nat):Int),IsSrc (L.drop (j+1)).length (L.drop (j+1)).flatten] [] ?_ ?_
     ·refine Rc (mv (qB 8)) ?_;refine Rc jx ?_;refine Rc (lvC 0 (HB3.out.ext H9.out.2) ld_aH (qA 1 63)) ?_;refine Rc zw ?_;refine Rc (bn (r:=.int .i64 ((j+1:Nat):Int)) (qC 3 65) qF (hr:=λw=>by have hiw:IntKind.i64.wrap ((j:Int)+1)=((j+1:Nat):Int):=(by have:=HL.out;have:=hjn.out;simp only[IntKind.wrap_i64];omega);go_simp)) ?_;refine Rc (slFrom (M:=L) (j:=j+1) (HS.out.ext H9.out.2) H32.out (by have:=HJ.out;have:=HL.out.2;omega) (qA 2 64) (qA 4 66)) ?_;exact rn0
     intro x X5 e5 hZ _;have h4:SrcR (L.drop (j+1)).length (L.drop (j+1)).flatten (x 5) X5:=hZ 5 dcx;simp only[lxE,Nat.reduceAdd];rw[show x 0=v9 from hZ 0 dcx];clear hZ;have E5:=H9.out.2.trans e5;refine stL (λK hK=>wp_hw 68 (.tmp 62) (.tmp 67) rfl W.heap.size (L.take j++ [new]) (L.drop (j+1)) v9 (x 5) rfl rfl (H9.out.1.ext e5) (λvs h=>HOK.out vs (List.mem_of_mem_drop h)) h4 yv E5.size (λv10 w10 hI10 p10=>hK _ _ ?_));have E10:Ext W w10:=Below.trans E5 ((H9.out.1.ext e5).below p10 E5.size);have hsc:=HSC.out.2.2;have t1:=p10.cell (e5.cell hsc.1) HSC.out.1;have t2:=p10.cell (e5.cell hsc.2.1) HSC.out.1;have t3:=p10.cell (e5.cell hsc.2.2) HSC.out.1;obtain⟨a10,n10,c10,h10⟩:∃a n c,v10=.slice a n c:=(by obtain⟨ao,cap,h,-⟩:=hI10.1.shape;exact⟨_,_,_,h⟩);subst h10;clear hK K p10 h4 hsc e5;refine jP λK hK=>?_;go_simp;refine hK _ _ ?_;clear hK K;refine stL (λK hK=>?_);refine qX (us:= [.slice a10 n10 c10]) (HB6.out.ext E10) st_Sh rfl rfl nwNilS (λX6 B6' O=>hK _ _ ?_);clear hK K;refine jE ?_;go_wp2_with fail;have hE6:Ext w X6:=O.ext (HE.out.trans E10) (by have:=HBB.out.1;omega);have hnn:=HNN.out;exact jD (resC results25 rfl (lv_Sh rfl B6')) rfl ⟨_,rfl,hE6,_,j,j+1,new,rfl,(hI10.hds (λvs h=>by{rcases List.mem_append.1 h with h|h;{rcases List.mem_append.1 h with h|h;{exact(HOK.out vs (List.mem_of_mem_take h)).1};{rw[List.mem_singleton]at h;rw[h];exact hnn.2.1}};{exact(HOK.out vs (List.mem_of_mem_drop h)).1}})).only O (λg hg=>by have:=(hI10.1.own_lt hg).2;have:=HBB.out.2;omega),by have:=HL.out;have:=hjn.out;omega,⟨nm,d,es,gn,on,cn,hnn.1,HEN.out.ext hE6,qW t1 O HSC.out.2.1,qW t2 O HSC.out.2.1,qW t3 O HSC.out.2.1⟩,hnn.2.2,(.inr ⟨rfl,rfl,vs,HVS.out,hnm.out⟩),by rw[hnn.1,<-HLN.out];simp⟩
    case' false=>
     clear hbn HLD HVN HSA HJ HVS HR HG
   case' neg=>
    have HJN:=hid hj;clear hj;go_upto_region 5 with fail;refine rg 16 (dR 33 16) [iV (j:Int),IsP b 0,IsV (.slice sa n sc),iV (n:Int),IsV (.bool false),IsV (.bool false),IsV undef,IsV undef,IsV undef,IsV undef,IsV undef,IsV undef,IsV undef,IsV undef,IsV undef,IsV (.bool false)] [] 0 ?_ ?_
    ·refine Rc zw ?_;refine Rc jx ?_;refine Rc (lvC 0 (HB3.out.ext H8.out.2) ld_aH (qA 1 34)) ?_;refine Rc (lnZ (p:=sa) (n:=n) (c:=sc) (qA 2 35)) ?_;refine Rc (bn (r:=.bool false) (qC 0 33) (qC 3 36) (hr:=λw=>by have hil:¬((j:Int)<(n:Int)):=(by have:=HJN.out;omega);go_simp)) ?_;refine Rc (mv (qA (fP:=IsV (.bool false)) 4 37)) ?_
     iterate 9 refine RcN 5 38 false ?_
     refine Rc (pk (b:=false) (qA 5 38) qF) ?_;exact rn0
    intro x X3 e3 hZ _;simp only[lxE,Nat.reduceAdd];rw[show x 15=.bool false from hZ 15 dcx];have S3:=hid (jI (H8.out.1.ext e3) (H8.out.2.trans e3));clear hZ e3 H8 HJN;refine jL za ?_ _
   all_goals
    go_upto_region 8 with fail;refine rgs 6 (dR 70 6) [IsV v8,IsV (.agg es.toArray),IsV (.agg #[.int .i64 p.1,.int .i64 p.2.1,.int .i64 p.2.2]),IsSo1 (λg=>X3.heap.size<=g) p,IsHe (λg=>X3.heap.size<=g) p es,IsHn (λg=>X3.heap.size<=g) p es] [] ?_ ?_
    ·refine Rc (mv (qB 8)) ?_;refine Rc yz ?_;refine Rc (lv (fP:=IsV (.agg #[.int .i64 p.1,.int .i64 p.2.1,.int .i64 p.2.2])) _ (λw2 e=>ld_So3 (vs:= [.int .i64 p.1,.int .i64 p.2.1,.int .i64 p.2.2]) (f:=0) rfl (λq u hq=>by rw[Nat.zero_add];exact(HB5.out.ext (S3.out.2.trans e)).c q u hq)) (qB 5) (λ_ _=>rfl)) ?_;refine Rc (bsSo1 (kk:=λg=>X3.heap.size<=g) (p:=p) (λm hm=>hm) (qA 2 72)) ?_;refine Rc (bdHe (kk:=λg=>X3.heap.size<=g) (p:=p) HES.out (qA 1 71) (qA 3 73)) ?_;refine Rc (bsHn (kk:=λg=>X3.heap.size<=g) (p:=p) HES.out (qA 4 74)) ?_;exact rn0
    intro x X4 e4 hZ _;obtain⟨gn,on,cn,hgn,hsr,t1,t2,t3⟩:=hZ 5 dcx;simp only[lxE,Nat.reduceAdd];rw[show x 0=v8 from hZ 0 dcx];clear hZ;have E4:=S3.out.2.trans e4;have hok:HdOk (es++ [Value.slice (some ⟨gn,on,none⟩) 1 cn]):=(show HeldW p (es++ [Value.slice (some ⟨gn,on,none⟩) 1 cn]) X4 from⟨nm,d,es,gn,on,cn,rfl,HEN.out.ext (HE.out.trans E4),t1,t2,t3⟩).ok.1;have hhn:xZ (es++ [Value.slice (some ⟨gn,on,none⟩) 1 cn])=nm:=by rw[<-HES.out];rfl
    obtain⟨new,hnw⟩:∃new,es++ [Value.slice (some ⟨gn,on,none⟩) 1 cn]=new:=⟨_,rfl⟩;rw[hnw]at hsr hok hhn;have HNN:=hid (jI hnw.symm (jI hok.1 hhn));refine stL (λK hK=>wp_hw 76 (.tmp 70) (.tmp 75) rfl W.heap.size (L.take j) [new] v8 (x 5) rfl rfl (S3.out.1.ext e4) (λvs h=>by rw[List.mem_singleton]at h;rw[h];exact hok) (by simpa using hsr) yv E4.size (λv9 w9 hI9 p9=>hK _ _ ?_));have hb9:=(S3.out.1.ext e4).below p9 E4.size;have H9:=hid (jI hI9 (show Ext W w9 from Below.trans E4 hb9));have hgl:=World.block_lt_of_cell? _ _ t1;have h8o:v8.ownBlock≠some gn:=λe=>by have:=(S3.out.1.1.own_lt e).1;omega
    have h9o:v9.ownBlock≠some gn:=λe=>by
     rcases p9.own with o| ⟨g9,o,hg9⟩
     ·exact h8o (o.symm.trans e)
     ·rw[o]at e;cases e;simp only at hgl;omega
    have HSC:=hid (jI h9o (jI (show gn≠b+3 by have:=HBB.out.2;have:=S3.out.2.size;omega) (jI (p9.cell t1 h8o) (jI (p9.cell t2 h8o) (p9.cell t3 h8o)))));clear hI9 p9 hb9 h8o h9o t1 t2 t3 hnw hok hhn hsr hK K e4 E4 S3 hgl hgn;go_upto_region 9 with fail;refine rgs 5 (dR 77 5) [IsV v9,IsP b 0,IsV (.slice sa n sc),iV (j:Int),IsSrc (L.drop j).length (L.drop j).flatten] [] ?_ ?_
    ·refine Rc (mv (qB 8)) ?_;refine Rc jx ?_;refine Rc (lvC 0 (HB3.out.ext H9.out.2) ld_aH (qA 1 78)) ?_;refine Rc zw ?_;refine Rc (slFrom (M:=L) (j:=j) (HS.out.ext H9.out.2) H32.out (by have:=hjn.out;have:=HL.out.2;omega) (qA 2 79) (qA 3 80)) ?_;exact rn0
    intro x X5 e5 hZ _;have h4:SrcR (L.drop j).length (L.drop j).flatten (x 4) X5:=hZ 4 dcx;simp only[lxE,Nat.reduceAdd];rw[show x 0=v9 from hZ 0 dcx];clear hZ;have E5:=H9.out.2.trans e5;refine stL (λK hK=>wp_hw 82 (.tmp 77) (.tmp 81) rfl W.heap.size (L.take j++ [new]) (L.drop (j)) v9 (x 4) rfl rfl (H9.out.1.ext e5) (λvs h=>HOK.out vs (List.mem_of_mem_drop h)) h4 yv E5.size (λv10 w10 hI10 p10=>hK _ _ ?_));have E10:Ext W w10:=Below.trans E5 ((H9.out.1.ext e5).below p10 E5.size);have hsc:=HSC.out.2.2;have t1:=p10.cell (e5.cell hsc.1) HSC.out.1;have t2:=p10.cell (e5.cell hsc.2.1) HSC.out.1;have t3:=p10.cell (e5.cell hsc.2.2) HSC.out.1;obtain⟨a10,n10,c10,h10⟩:∃a n c,v10=.slice a n c:=(by obtain⟨ao,cap,h,-⟩:=hI10.1.shape;exact⟨_,_,_,h⟩);subst h10;clear hK K p10 h4 hsc e5;refine jP λK hK=>?_;go_simp;refine hK _ _ ?_;clear hK K;refine stL (λK hK=>?_);refine qX (us:= [.slice a10 n10 c10]) (HB6.out.ext E10) st_Sh rfl rfl nwNilS (λX6 B6' O=>hK _ _ ?_);clear hK K;refine jE ?_;go_wp2_with fail;have hE6:Ext w X6:=O.ext (HE.out.trans E10) (by have:=HBB.out.1;omega);have hnn:=HNN.out;exact jD (resC results25 rfl (lv_Sh rfl B6')) rfl ⟨_,rfl,hE6,_,j,j,new,rfl,(hI10.hds (λvs h=>by{rcases List.mem_append.1 h with h|h;{rcases List.mem_append.1 h with h|h;{exact(HOK.out vs (List.mem_of_mem_take h)).1};{rw[List.mem_singleton]at h;rw[h];exact hnn.2.1}};{exact(HOK.out vs (List.mem_of_mem_drop h)).1}})).only O (λg hg=>by have:=(hI10.1.own_lt hg).2;have:=HBB.out.2;omega),by have:=HL.out;have:=hjn.out;omega,⟨nm,d,es,gn,on,cn,hnn.1,HEN.out.ext hE6,qW t1 O HSC.out.2.1,qW t2 O HSC.out.2.1,qW t3 O HSC.out.2.1⟩,hnn.2.2,(.inl rfl),by rw[hnn.1,<-HLN.out];simp⟩
theorem add_g{w:World}{L:List (List Value)}{sv:Value}{nm:ByteArray}{d:EnD}{es:List Value}{p:Int×Int×Int}(hs:HdS2 L sv w)(hl:L.length<=1000)(hL:∀vs∈L,HeldW (0,1,0) vs w)(he:EntW nm d es w)(hp:p=(0,1,0)\/∀vs∈L,xZ vs≠nm):
  Calls prog 25 #[.agg #[sv],.agg es.toArray,.agg #[.int .i64 p.1,.int .i64 p.2.1,.int .i64 p.2.2]] w (Ret w (IsSh L nm p)):=
 jC (add_ge hs hl hL he hp) (by rintro e w1 ⟨_,rfl,e1,sv,j,m,new,h1,h2,h3,h4,h5,h6,-⟩;exact⟨_,rfl,e1,sv,j,m,new,h1,h2,h3,h4,h5,h6⟩)
end
end Go.Proofs.YtkeikfekkdplgaaGreatDoor
