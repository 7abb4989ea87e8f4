/- Lemmas. -/
import Derived.Test.YtkeikfekkdplgaaGreatDoorTre
import Derived.Test.YtkeikfekkdplgaaGreatDoorEv16
import Derived.Test.YtkeikfekkdplgaaGreatDoorEv8
namespace Go.Proofs.YtkeikfekkdplgaaGreatDoor
section
open Go Go.RowKit
open Go.Proofs.Tryz
set_option maxRecDepth 100000
set_option maxHeartbeats 8000000
attribute [local go_sem] Oper.semAt_some
theorem Ob.below{B g:Nat}{w w':World}(O:Ob g w w')(hB:B<=g)(hw:B<=w.heap.size):Below B w w':=⟨O.os,O.tape,O.output,O.size,λk hk=>O.block k (by omega) (by omega)⟩
theorem delO_f{w:World}{L:List (List Value)}{v:Value}{f:FuncId}{caps:List Value}{p:List Value->Bool}{B:Nat}(he:∀args w,(callFunc f args).run prog w=.ok (.enter f args) w)(hl:L.length<=1000000)(hL:∀vs∈L,HdOk vs)(hO:HdO B L v w)(hB:B<=w.heap.size)
  (HF:∀vs∈L,∀w',Below B w w'->Calls prog f (.agg vs.toArray ::caps).toArray w' (Ret w' (IsV (.bool (p vs))))):
  Calls prog 183 #[v,.func (.func f) #[] caps.toArray] w (λe w'=>Below B w w'/\∃u,e=.returned u/\HdO B (L.filter (λvs=> !p vs)) u w'):=by
 rcases hO with⟨rfl,rfl⟩| ⟨g,c,rfl,h1,h2,h3⟩
 ·have hidx:=idxHd_f (w:=w) (L:= []) (n0:=0) (c:=0) (ao:=none) (p:=p) (caps:=caps) he rfl dcx (λvs hv=>by cases hv) rfl (λh=>absurd rfl h) (λvs hv=>by cases hv);go_enter func183,ntmps183;go_wp2_with (go_at_call 218;refine hidx.mono ?_;rintro e w1 ⟨_,rfl,e1,rfl⟩)
  go_ret
  exact⟨e1.mono hB,_,rfl,.inl ⟨rfl,rfl⟩⟩
 ·refine jJ (delHd_f he rfl hl h1 hL h3 (λvs hv w' O=>HF vs hv w' (O.below h2 hB))) λe w' ⟨O,q1,q2⟩=>⟨O.below h2 hB,_,q1,.inr ⟨g,c,rfl,jQ (List.length_filter_le _ _) h1,h2,q2⟩⟩
theorem find_g{w:World}{L:List (List Value)}{v:Value}{x:ByteArray}(hl:L.length<=1000000)(hL:∀vs∈L,HdOk vs)(hN:∀vs∈L,vs[0]? =some (.string (xH vs)))(hv:HdS L v w):Calls prog 182 #[.agg #[v],.string x] w (λe w'=>Ext w w'/\∃u,e=.returned u/\HdO w.heap.size (L.filter (λvs=>decide (xH vs=x))) u w'):=by
 have hmf:∀(fn:Fn) (first cap:Array Value) (w:World),(Instr.makeFunc fn first cap).run prog w=.ok (.func fn first cap) w:=λ_ _ _ _=>rfl
 obtain⟨W,hW,E,c0,cx,hlt⟩:∃W,W=(w.alloc (.cells #[v] 39)).alloc (.cells #[.string x] 9)/\Ext w W/\World.cell? W ⟨w.heap.size,0,none⟩=some v/\World.cell? W ⟨w.heap.size+1,0,none⟩=some (.string x)/\w.heap.size+1<W.heap.size:=
  ⟨_,rfl,((Ext.refl w).alloc _).alloc _,((Bk.new w _ _).ext ((Ext.refl _).alloc _)).c 0 _ rfl,(Bk.newE _ _ (by simp) _ _).c 0 _ rfl,by simp⟩
 have hcl:=cloneH_g hl hL (hv.ext E)
 have hdel:∀w1 u,Ext W w1->HdO W.heap.size L u w1->Calls prog 183 #[u,.func (.func 217) #[] #[.pointer (some ⟨w.heap.size+1,0,none⟩)]] w1 (λe w'=>Below W.heap.size w1 w'/\∃u,e=.returned u/\HdO W.heap.size (L.filter (λvs=> !(!decide (xH vs=x)))) u w'):=λw1 u e1 hu=>
  delO_f (caps:= [.pointer (some ⟨w.heap.size+1,0,none⟩)]) (en func217) hl hL hu e1.size (λvs hvs w' hb=>find1_g (hN vs hvs) (((hb.cell (p:=⟨w.heap.size+1,0,none⟩) hlt)).trans (e1.cell cx)))
 clear hl hL hN;go_enter func182,ntmps182;go_upto_region 1 with fail;rw[<-hW];clear hW;go_wp2_with (first| (go_at_call 216;refine hcl.mono ?_;rintro e w1 ⟨e1,u1,rfl,hu1⟩)| (go_at_call 183;refine(hdel _ _ e1 hu1).mono ?_;rintro e w2 ⟨e2,u2,rfl,hu2⟩))
 go_ret
 have E2:Ext w w2:=E.trans (Below.trans e1 e2);refine⟨E2,_,rfl,?_⟩;have:(L.filter (λvs=> !(!decide (xH vs=x))))=L.filter (λvs=>decide (xH vs=x)):=by simp
 rw[this]at hu2;exact hu2.imp id λ⟨g,c,h1,h2,h3,h4⟩=>⟨g,c,h1,h2,jQ E.size h3,h4⟩
theorem cmp2_f{w:World}{va vb:List Value}{la lb ca cb:Nat}{pa pb:Option Addr}(ha:va[30]? =some (.slice pa la ca))(hb:vb[30]? =some (.slice pb lb cb))(h1:la<=1000000)(h2:lb<=1000000):
  Calls prog 189 #[.agg va.toArray,.agg vb.toArray] w (Ret w (iV ((la:Int)-(lb:Int)))):=by
 obtain⟨W,hW,E,c1,c2⟩:∃W,W=(w.alloc (.cells va.toArray 98)).alloc (.cells vb.toArray 98)/\Ext w W/\World.cell? W ⟨w.heap.size,30,none⟩=some (.slice pa la ca)/\World.cell? W ⟨w.heap.size+1,30,none⟩=some (.slice pb lb cb):=
  ⟨_,rfl,((Ext.refl w).alloc _).alloc _,((Bk.new w va.toArray _).ext ((Ext.refl _).alloc _)).c 30 _ ha,(Bk.newE _ _ (by simp) vb.toArray _).c 30 _ hb⟩
 have hw:IntKind.i64.wrap ((la:Int)-(lb:Int))=(la:Int)-(lb:Int):=jz
 go_enter func189,ntmps189;go_upto_region 1 with fail;rw[<-hW];clear hW;go_wp2_with fail
 go_ret
 exact⟨_,rfl,E,rfl⟩
def jA(hl:List Value->Nat):List (List Value)->List Value->List Value
 | [],m=>m
 |v ::t,m=>jA hl t (if hl v<hl m then v else m)
theorem minL_snoc(hl:List Value->Nat)(v:List Value):∀(t:List (List Value)) (m:List Value),jA hl (t++ [v]) m=if hl v<hl (jA hl t m)then v else jA hl t m
 | [],m=>rfl
 |u ::t,m=>by rw[List.cons_append,jA,minL_snoc hl v t,jA]
theorem minL_mem(hl:List Value->Nat):∀(t:List (List Value)) (m:List Value),jA hl t m=m\/jA hl t m∈t
 | [],m=> .inl rfl
 | v ::t,m=>by
  rw[jA];rcases minL_mem hl t (if hl v<hl m then v else m)with h|h
  ·rw[h]
   split
   ·exact .inr List.mem_cons_self
   ·exact .inl rfl
  ·exact .inr (List.mem_cons_of_mem _ h)
theorem tBst4_1{P:Prop}(h:P:=by
  have hx9:=HIW.out;go_wp2_with fail
  go_roundg (gk-1)
  case measure=>have:=HI.out;omega
  case rel=>exact⟨i+1,rfl,HI.out.1,HI.out.2.1,S'⟩
  ):P:=h
theorem minH_g{w:World}{L:List (List Value)}{hd:List Value}{hl:List Value->Nat}{g c n0:Nat}(hn:(hd ::L).length=n0)(hl0:n0<=1000000)(hL:∀vs∈hd ::L,HdOk vs)(hh:∀vs∈hd ::L,hl vs<=1000000/\∃p q,vs[30]? =some (.slice p (hl vs) q))(hR:HdR (hd ::L) g w):
  Calls prog 188 #[.slice (some ⟨g,0,none⟩) n0 c,.func (.func 189) #[] #[]] w (Ret w (IsV (.agg (jA hl L hd).toArray))):=by
 obtain⟨W,hW,E,B4⟩:∃W,W=w.alloc (.cells #[.string ⟨#[]⟩,.slice none 0 0,.slice none 0 0,.bool false,.slice none 0 0,.slice none 0 0,.slice none 0 0,.int .i64 0,.bool false,.slice none 0 0,.slice none 0 0,.slice none 0 0,.int .i64 0,.int .i64 0,.int .i64 0,.int .i64 0,.slice none 0 0,.slice none 0 0,.slice none 0 0,.slice none 0 0,.bool false,.slice none 0 0,.bool false,.slice none 0 0,.slice none 0 0,.slice none 0 0,.slice none 0 0,.slice none 0 0,.slice none 0 0,.slice none 0 0,.slice none 0 0,.slice none 0 0] 98)/\Ext w W/\Bk W w.heap.size z32':=zi;have HN:=hid hn;have HL:=hid hl0;have HLL:=hid hL;have HH:=hid hh;have hn1:1<=n0:=by simp at hn;omega
 have hok:=hL hd List.mem_cons_self;have HR:=hid (hR.ext E);have hni:¬(n0:Int)<1:=by omega
 have hgl:g<w.heap.size:=by
  obtain⟨u,hu⟩:∃u,hd[0]? =some u:=⟨_,List.getElem?_eq_getElem (show 0<hd.length by rw[hok.1];decide)⟩;exact World.block_lt_of_cell? w ⟨g,32*0+0,none⟩ (hR 0 hd rfl 0 _ hu)
 clear hn hL hh hR hl0;go_enter func188,ntmps188;go_upto_region 1 with fail;rw[<-hW];clear hW;go_upto_region 3 with fail;clear hni;refine rgs 3 (dR 11 3) [IsV (.slice (some ⟨g,0,none⟩) n0 c),IsP g (32*0),IsV (.agg hd.toArray)] [] ?_ ?_
 ·refine Rc zv ?_;refine Rc (ixq (u:=.int .i64 ((0:Nat):Int)) (ix_Hd g c n0 0 hn1) (qA 0 11) qE) ?_;refine Rc (lv (fP:=IsV (.agg hd.toArray)) _ (λw' e=>ld_Hd (j:=0) (HR.out.ext e) rfl hok.1) (qA 1 12) (λ_ _=>rfl)) ?_;exact rn0
 intro v X1 e1 hZ _;simp only[lxE,Nat.reduceAdd];rw[show v 2=.agg hd.toArray from hZ 2 dcx];clear hZ;replace E:=E.trans e1;replace B4:=B4.ext e1;replace HR:=hid (HR.out.ext e1);clear e1;refine stL (λK hK=>?_);refine xF (vs:=z32') al_Hd (λBn e3=>hK _ _ ?_);obtain⟨g5,hg5⟩:∃g,X1.heap.size=g:=⟨_,rfl⟩;have hg45:w.heap.size<g5:=by rw[<-hg5];exact B4.lt
 rw[hg5]at Bn ⊢;generalize X1.alloc (.cells z32'.toArray 98)=Y1 at Bn e3 ⊢;replace E:=E.trans e3;replace B4:=B4.ext e3;replace HR:=hid (HR.out.ext e3);clear hK K e3
 go_simp
 refine stL (λK hK=>?_);refine qZ (us:=hd) Bn st_HdV rfl hok.1 nwZ32 (λX2 B5 O=>hK _ _ ?_) (ho1:=hok.2.1);have hgr:g≠g5:=by omega
 replace E:=O.ext E (by omega);replace B4:=O.bk B4 (by omega);replace HR:=hid (HR.out.only (Ob.only O) hgr);clear hK K O Bn hok hg5;refine jL ?_;go_wp2_with fail
 have HMEM:Hid (∀i,jA hl (L.take i) hd∈hd ::L):=hid λi=>by
  rcases minL_mem hl (L.take i) hd with h|h
  ·rw[h];exact List.mem_cons_self
  ·exact List.mem_cons_of_mem _ (List.mem_of_mem_take h)
 have S0:=hid (show Ext w X2/\Bk X2 w.heap.size z32'/\Bk X2 g5 (jA hl (L.take (1-1)) hd)/\HdR (hd ::L) g X2 from⟨E,B4,B5,HR.out⟩);clear E B4 B5 HR
 go_loopg [6] (n0-1) (λgk v6 wr=>∃(i:Nat),v6=.int .i64 (i:Int)/\i+gk=n0/\1<=i/\Hid (Ext w wr/\Bk wr w.heap.size z32'/\Bk wr g5 (jA hl (L.take (i-1)) hd)/\HdR (hd ::L) g wr))
 case atStart=>exact⟨1,rfl,by omega,jP _,S0⟩
 case round=>
  clear S0;obtain⟨i,rfl,hg,h1i,S⟩:=hrel;obtain⟨E,B4,B5,hR⟩:=S.out;clear S;have hmo:=HMEM.out (i-1);by_cases hi:i<n0
  ·obtain⟨vs,hd9⟩:∃d,(hd ::L)[i]? =some d:=zl;have hvm:=List.mem_of_getElem? hd9;have hokv:=HLL.out vs hvm;have hokm:=HLL.out _ hmo;obtain⟨hv1,pv,qv,hv2⟩:=HH.out vs hvm;obtain⟨hm1,pm,qm,hm2⟩:=HH.out _ hmo
   have HNX:=hid (show jA hl (L.take (i+1-1)) hd=if hl vs<hl (jA hl (L.take (i-1)) hd)then vs else jA hl (L.take (i-1)) hd by
    have hLi:L[i-1]? =some vs:=by
     have:(hd ::L)[(i-1)+1]? =some vs:=by rw[show i-1+1=i by omega];exact hd9
     simpa using this
    rw[show i+1-1=(i-1)+1 by omega,List.take_add_one,hLi]
    exact minL_snoc hl vs _ _)
   obtain⟨mv9,hmv⟩:∃m,jA hl (L.take (i-1)) hd=m:=⟨_,rfl⟩;rw[hmv]at B5 hokm hm1 hm2 HNX;have HI:=hid (show i+1+(gk-1)=n0/\1<=i+1/\0<gk by omega);have hil:(i:Int)<(n0:Int):=by omega
   have HIW:=hid (show IntKind.i64.wrap ((i:Int)+1)=((i+1:Nat):Int)by have:=HL.out;simp only[IntKind.wrap_i64];omega);have HI2:=hid hi;clear hg hi h1i hmo hvm hmv;go_upto_region 7 with fail;clear hil;obtain⟨b,hb⟩:∃b,decide (((hl vs:Nat):Int)-((hl mv9:Nat):Int)<0)=b:=⟨_,rfl⟩;have HB:=hid hb;refine rg 8 (dR 20 8) [IsV (.func (.func 189) #[] #[]),IsV (.slice (some ⟨g,0,none⟩) n0 c),iV (i:Int),IsP g (32*i),IsV (.agg vs.toArray),IsV (.agg mv9.toArray),iV (((hl vs:Nat):Int)-((hl mv9:Nat):Int)),IsV (.bool b)] [] 0 ?_ ?_
   ·refine Rc xb ?_;refine Rc zv ?_;refine Rc (mv (qB (x:=.int .i64 (i:Int)) 6)) ?_;refine Rc (ixq (ix_Hd g c n0 i HI2.out) (qA 1 21) (qA 2 22)) ?_;refine Rc (lv (fP:=IsV (.agg vs.toArray)) _ (λw' e=>ld_Hd (hR.ext e) hd9 hokv.1) (qA 3 23) (λ_ _=>rfl)) ?_;refine Rc (lvV B5 ld_HdV (qB 5) hokm.1) ?_;refine Rc (cv2 (caps:= []) (en func189) (qA 0 20) (qA (fP:=IsV (.agg vs.toArray)) 4 24) (qA (fP:=IsV (.agg mv9.toArray)) 5 25) (λx0 x1 w' hE d0 d1=>by{obtain rfl:x0=_:=d0;obtain rfl:x1=_:=d1;exact cmp2_f hv2 hm2 hv1 hm1})) ?_;refine Rc (bn (r:=.bool b) (qC 6 26) qE (hr:=λw=>by have hx9:=HB.out;go_simp)) ?_;exact rn0
   intro v X3 e1 hZ _;simp only[lxE,Nat.reduceAdd];rw[show v 7=.bool b from hZ 7 dcx];clear hZ;replace E:=E.trans e1;replace B4:=B4.ext e1;replace B5:=B5.ext e1;replace hR:=hR.ext e1;clear e1 hv2 hm2 hv1 hm1;refine jR za ?_ _;cases b with
   | false=>
    have hnb:¬hl vs<hl mv9:=by simp only[decide_eq_false_iff_not]at hb;omega
    have S':=hid (show Ext w X3/\Bk X3 w.heap.size z32'/\Bk X3 g5 (jA hl (L.take (i+1-1)) hd)/\HdR (hd ::L) g X3 from⟨E,B4,by rw[HNX.out,if_neg hnb];exact B5,hR⟩);clear E B4 B5 hR HNX hb hnb hd9 hokv hokm;exact tBst4_1
   | true=>
    have hnb:hl vs<hl mv9:=by simp only[jY]at hb;omega
    go_upto_region 8 with fail;refine rgs 4 (dR 28 4) [IsV (.slice (some ⟨g,0,none⟩) n0 c),iV (i:Int),IsP g (32*i),IsV (.agg vs.toArray)] [] ?_ ?_
    ·refine Rc zv ?_;refine Rc (mv (qB (x:=.int .i64 (i:Int)) 6)) ?_;refine Rc (ixq (ix_Hd g c n0 i HI2.out) (qA 0 28) (qA 1 29)) ?_;refine Rc (lv (fP:=IsV (.agg vs.toArray)) _ (λw' e=>ld_Hd (hR.ext e) hd9 hokv.1) (qA 2 30) (λ_ _=>rfl)) ?_;exact rn0
    intro v X4 e1 hZ _;simp only[lxE,Nat.reduceAdd];rw[show v 3=.agg vs.toArray from hZ 3 dcx];clear hZ;replace E:=E.trans e1;replace B4:=B4.ext e1;replace B5:=B5.ext e1;replace hR:=hR.ext e1;clear e1;refine stL (λK hK=>?_);refine qZ (us:=vs) B5 st_HdV hokm.1 hokv.1 hokm.2.2 (λX5 B5' O=>hK _ _ ?_) (ho1:=hokv.2.1);have S':=hid (show Ext w X5/\Bk X5 w.heap.size z32'/\Bk X5 g5 (jA hl (L.take (i+1-1)) hd)/\HdR (hd ::L) g X5 from⟨O.ext E (by omega),O.bk B4 (by omega),by rw[HNX.out,if_pos hnb];exact B5',hR.only (Ob.only O) hgr⟩);clear E B4 B5 hR HNX hb hnb hd9 hokv hokm hK K O B5';refine jL ?_;exact tBst4_1
  ·have hie:i=n0:=by omega
   have hokm:=HLL.out _ hmo;have hil:¬(i:Int)<(n0:Int):=by omega
   have hfin:jA hl (L.take (i-1)) hd=jA hl L hd:=by rw[List.take_of_length_le (by have:=HN.out;simp at this;omega)]
   rw[hfin]at B5 hokm;clear hfin hie hmo hR hg;go_upto_region 9 with fail;refine rgs 1 [some 32] [IsV (.agg (jA hl L hd).toArray)] [] ?_ ?_
   ·refine Rc (lvV B5 ld_HdV (qB 5) hokm.1) ?_;exact rn0
   intro v X3 e1 hZ _;replace E:=E.trans e1;replace B4:=B4.ext e1;simp only[lxE];rw[show v 0=.agg (jA hl L hd).toArray from hZ 0 dcx];clear hZ e1;refine stL (λK hK=>?_);refine qZ (us:=jA hl L hd) B4 st_HdV rfl hokm.1 nwZ32 (λX4 B4' O=>hK _ _ ?_) (ho1:=hokm.2.1);replace E:=(Ob.only O).ext E (jP _);clear hK O B4 K;refine jL ?_;go_wp2_with fail;exact jK (v:=.agg (jA hl L hd).toArray) (resC results188 rfl (lv_Hd hokm.1 B4')) rfl ⟨_,rfl,E,rfl⟩
end
section
open Go Go.RowKit
open Go.Proofs.Tryz
set_option maxRecDepth 100000
set_option maxHeartbeats 8000000
attribute [local go_sem] Oper.semAt_some
theorem resCT{P:Program}{fn:Func}{a b:Tmp}{t:TypeId}{tmps:Array Value}{w:World}{p:Addr}{v:Value}(h:fn.results= #[.cell a t,.tmp b])(ha:tmps.getD a undef=.pointer (some p))(hl:(loadVar t p).run P w=.ok v w):(results fn tmps).run P w=.ok (.tuple #[v,tmps.getD b undef]) w:=by
 have ha':tmps[a]?.getD undef=.pointer (some p):=by simpa using ha
 simp[results,h,ha',hl,asAddr]
theorem lv_EnD{w:World}{g:Nat}{vs:List Value}(hl:vs.length=31)(B:Bk w g vs):(loadVar 95 ⟨g,0,none⟩).run prog w=.ok (.agg vs.toArray) w:=lvM za za hl B
theorem fld_Hd{w:World}{hs:List Value}(_hl:hs.length=32):(Instr.field 98 (.agg hs.toArray) 0).run prog w=.ok (.agg (hs.take 31).toArray) w:=by
 have h:(hs.toArray.extract 0 31)=(hs.take 31).toArray:=by apply Array.ext';simp
 unfold Instr.field
 go_simp
 simp[asAgg,h]
section
variable {ops:Array Oper} {Q:Exit->Act->World->Prop} {ds:List (Option Tmp)} {a0:Act} {w0:World} {L:List (Value->World->Prop)} {boxes:List Nat} {i k:Nat} {o:Oper} {os:List Oper}
theorem fldHd{hs:List Value}{x:Operand}(hl:hs.length=32)(hx:Od ops ds a0 w0 L i x (IsV (.agg hs.toArray)))(ho:o.op=.field 98 x 0:=by rfl)(hi:L.getD i (λ_ _=>True)=IsV (.agg (hs.take 31).toArray):=by kernel_rfl)(hb:boxes.contains i=false:=by kernel_rfl):Ok prog ops Q ds a0 w0 L boxes i o:=
 Ok.of hb λv a w hE hd hf=>by
  have h1:a.eval x=_:=hx.out v a w hE hd hf;refine⟨.agg (hs.take 31).toArray,?_,by rw[hi];rfl⟩;unfold execOp;rw[ho];dsimp only;rw[h1];simp[fld_Hd hl]
theorem bdEn0(ho:o.op=.build 95 #[]:=by rfl)(hi:L.getD i (λ_ _=>True)=IsV (.agg z31.toArray):=by kernel_rfl)(hb:boxes.contains i=false:=by kernel_rfl):Ok prog ops Q ds a0 w0 L boxes i o:=
 Ok.of hb λv a w hE hd hf=>by
  have hr:(Instr.build 95 #[]).run prog w=.ok (.agg z31.toArray) w:=by unfold z31;go_simp
  refine⟨.agg z31.toArray,?_,by rw[hi];rfl⟩;unfold execOp;rw[ho];simp[hr]
end
theorem IrR.below{hs:List Int}{v:Value}{w w1 w':World}{B:Nat}(h:IrR hs v w)(e:Ext w w1)(hB:w.heap.size<=B)(b:Below B w1 w'):IrR hs v w':=by
 obtain⟨ao,c,h1,h2⟩:=h;exact⟨ao,c,h1,λhn=>let ⟨g,o,k1,k2⟩:=h2 hn;⟨g,o,k1,λj x hj=>(b.cell (p:=⟨g,o+j,none⟩) (Nat.lt_of_lt_of_le (World.block_lt_of_cell? w ⟨g,o+j,none⟩ (k2 j x hj)) hB)).trans (e.cell (k2 j x hj))⟩⟩
def bestL(hy:List Value->List Int):List (List Value)->Option (List Value)
 | []=>none
 |hd ::t=>some (jA (λvs=>(hy vs).length) t hd)
def xY(hy:List Value->List Int)(gs:List Int)(L:List (List Value))(x:ByteArray):Option (List Value):=
 bestL hy ((L.filter (λvs=>decide (xH vs=x))).filter (λvs=> !(hy vs).any (λh=> !gs.any (λy=>decide (y=h)))))
def IsBe(o:Option (List Value)):Value->World->Prop:=λx _=>∃es:List Value,x=.agg es.toArray/\es.length=31/\es.all (λu=>u.oneCell')=true/\(∀v∈es,NoWord v)/\∀vs,o=some vs->es=vs.take 31
theorem best_g{w:World}{L:List (List Value)}{v gv:Value}{x:ByteArray}{gs:List Int}{hy:List Value->List Int}(hl:L.length<=1000000)(hL:∀vs∈L,HdOk vs)(hN:∀vs∈L,vs[0]? =some (.string (xH vs)))(hv:HdS L v w)
  (hH:∀vs∈L,∃u,vs[30]? =some u/\IrR (hy vs) u w/\(hy vs).length<=1000000) (hg:IrR gs gv w) (hgl:gs.length<=1000000):
  Calls prog 137 #[.agg #[v],.string x,gv] w (Ret w (IsT2 (IsBe (xY hy gs L x)) (IsV (.bool (xY hy gs L x).isSome)))):=by
 have hmf:∀(fn:Fn) (first cap:Array Value) (w:World),(Instr.makeFunc fn first cap).run prog w=.ok (.func fn first cap) w:=λ_ _ _ _=>rfl
 obtain⟨gao,gcc,hgv,-⟩:=id hg;obtain⟨gl,hgl'⟩:∃n,gs.length=n:=⟨_,rfl⟩;rw[hgl']at hgv;subst hgv
 obtain⟨W,hW,E,c3,c5,B6⟩:∃W,W=((w.alloc (.cells #[v] 39)).alloc (.cells #[.slice gao gl gcc] 41)).alloc (.cells z31.toArray 95)/\Ext w W/\World.cell? W ⟨w.heap.size,0,none⟩=some v/\World.cell? W ⟨w.heap.size+1,0,none⟩=some (.slice gao gl gcc)/\Bk W (w.heap.size+2) z31:=
  ⟨_,rfl,(((Ext.refl w).alloc _).alloc _).alloc _,((Bk.new w _ _).ext (((Ext.refl _).alloc _).alloc _)).c 0 _ rfl,((Bk.newE _ _ (by simp) _ _).ext ((Ext.refl _).alloc _)).c 0 _ rfl,by simpa using Bk.newE ((w.alloc (.cells #[v] 39)).alloc (.cells #[.slice gao gl gcc] 41)) (w.heap.size+2) (by simp) z31.toArray 95⟩
 have hlt:=B6.lt;obtain⟨L1,hL1⟩:∃L1,L.filter (λvs=>decide (xH vs=x))=L1:=⟨_,rfl⟩;obtain⟨L2,hL2⟩:∃L2,L1.filter (λvs=> !(hy vs).any (λh=> !gs.any (λy=>decide (y=h))))=L2:=⟨_,rfl⟩;have hbe:xY hy gs L x=bestL hy L2:=by rw[xY,hL1,hL2]
 have h1m:∀vs∈L1,vs∈L:=λvs h=>by rw[<-hL1]at h;exact(List.mem_filter.1 h).1
 have h2m:∀vs∈L2,vs∈L:=λvs h=>by rw[<-hL2]at h;exact h1m vs (List.mem_filter.1 h).1
 have hl1:L1.length<=1000000:=by rw[<-hL1];exact jQ (List.length_filter_le _ _) hl
 have hl2:L2.length<=1000000:=by rw[<-hL2];exact jQ (List.length_filter_le _ _) hl1
 have hfind:∀w1,Ext W w1->Calls prog 182 #[.agg #[v],.string x] w1 (λe w'=>Ext w1 w'/\∃u,e=.returned u/\HdO W.heap.size L1 u w'):=λw1 e1=>by
  rw[<-hL1];exact jJ (find_g hl hL hN (hv.ext (E.trans e1))) λe w' ⟨q1,u,q2,q3⟩=>⟨q1,u,q2,q3.imp id λ⟨g,c,r1,r2,r3,r4⟩=>⟨g,c,r1,r2,jQ e1.size r3,r4⟩⟩
 have hdel:∀w1 u,Ext W w1->HdO W.heap.size L1 u w1->Calls prog 183 #[u,.func (.func 184) #[] #[.pointer (some ⟨w.heap.size+1,0,none⟩)]] w1 (λe w'=>Below W.heap.size w1 w'/\∃u,e=.returned u/\HdO W.heap.size L2 u w'):=λw1 u e1 hu=>by
  rw[<-hL2];refine delO_f (caps:= [.pointer (some ⟨w.heap.size+1,0,none⟩)]) (en func184) hl1 (λvs h=>hL vs (h1m vs h)) hu e1.size (λvs hvs w' hb=>?_);obtain⟨u30,r1,r2,r3⟩:=hH vs (h1m vs hvs);exact best1_g r1 (r2.below (E.trans e1) E.size hb) r3 ((hb.cell (p:=⟨w.heap.size+1,0,none⟩) (by show w.heap.size+1<W.heap.size;omega)).trans (e1.cell c5)) (hg.below (E.trans e1) E.size hb) hgl
 have HBE:=hid hbe;have H2:=hid (jO h2m hl2);have HLL:=hid (jO hL hH);clear hl hN hv hg hgl hgl' hl1 h1m hL1 hL2 hbe h2m hl2 hL hH c5;go_enter func137,ntmps137;go_upto_region 1 with fail;simp only[z31]at hW;rw[<-hW];clear hW;go_upto_region 3 with(first| (go_at_call 182;refine(hfind _ (Ext.refl _)).mono ?_;rintro e w1 ⟨e1,u1,rfl,hu1⟩)| (go_at_call 183;refine(hdel _ _ e1 hu1).mono ?_;rintro e w2 ⟨e2,u2,rfl,hu2⟩));have E2:Ext W w2:=Below.trans e1 e2;replace E:=E.trans E2;replace B6:=B6.ext E2;have h6:=B6.lt;clear hfind hdel e1 e2 hu1 c3 hmf;cases L2 with
 | nil=>
  have hlen:∃ao c,u2=.slice ao 0 c:=by
   rcases hu2 with⟨_,rfl⟩| ⟨g,c,rfl,_⟩
   ·exact⟨_,_,rfl⟩
   ·exact⟨_,_,rfl⟩
  obtain⟨ao,c,rfl⟩:=hlen;clear hu2;go_upto_region 4 with fail;refine rgs 1 [some 18] [IsV (.agg z31.toArray)] [] ?_ ?_
  ·refine Rc bdEn0 ?_;exact rn0
  intro v X3 e1 hZ _;replace E:=E.trans e1;replace B6:=B6.ext e1;simp only[lxE];rw[show v 0=.agg z31.toArray from hZ 0 dcx];clear hZ e1;refine stL (λK hK=>?_);refine qZ (us:=z31) B6 st_En rfl rfl nwE (λX4 B6' O=>hK _ _ ?_);replace E:=(Ob.only O).ext E (by omega);clear hK O B6 K;refine stL (λK hK=>?_);refine wp_mvA (u:=.bool false) za (hK _ _ ?_);clear hK K;refine jL ?_
  try simp only[Act.put,uAx,u0x,u1x]
  go_wp2_with fail;exact jK (resCT results137 rfl (lv_EnD rfl B6')) rfl ⟨_,rfl,E,_,_,rfl,⟨z31,rfl,rfl,rfl,nwE,λvs h=>by rw[HBE.out]at h;cases h⟩,by rw[HBE.out];rfl⟩
 | cons hd t=>
  rcases hu2 with⟨h0,_⟩| ⟨g,c,rfl,hc1,hc2,hB⟩
  ·cases h0
  obtain⟨n0,hn0⟩:∃n0,(hd ::t).length=n0:=⟨_,rfl⟩;have hn1:¬n0=0:=by simp at hn0;omega
  have hn2:¬(n0:Int)=0:=by omega
  have HM:=hid (show jA (λvs=>(hy vs).length) t hd∈hd ::t from(minL_mem _ t hd).elim (λh=>by rw[h];exact List.mem_cons_self) (λh=>List.mem_cons_of_mem _ h))
  have hmin:=λw' (e:Ext w2 w')=>minH_g (w:=w') (L:=t) (hd:=hd) (hl:=λvs=>(hy vs).length) (g:=g) (c:=c) hn0 (by rw[<-hn0];exact H2.out.2) (λvs h=>HLL.out.1 vs (H2.out.1 vs h)) (λvs h=>by
   obtain⟨u,r1,⟨ao,c',r2,_⟩,r3⟩:=HLL.out.2 vs (H2.out.1 vs h)
   exact⟨r3,ao,c',by rw[r1,r2]⟩) (hB.1.ext e)
  obtain⟨mm,hmm⟩:∃m,jA (λvs=>(hy vs).length) t hd=m:=⟨_,rfl⟩;rw[hmm]at HM hmin;have hmok:=HLL.out.1 mm (H2.out.1 mm HM.out);have HMM:=hid hmm;clear hmm hc1 hc2;rw[hn0];go_upto_region 5 with fail;clear hn1 hn2;refine rgs 3 (dR 19 3) [IsV (.slice (some ⟨g,0,none⟩) n0 c),IsV (.agg mm.toArray),IsV (.agg (mm.take 31).toArray)] [] ?_ ?_
  ·refine Rc (mv (qB 8)) ?_
   refine Rc (cl (fQ:=IsV (.agg mm.toArray)) (en func188) rfl rfl za za λv a w2 hE hd' hf=>by
    have e0:a.eval (.tmp 19)=.slice (some ⟨g,0,none⟩) n0 c:=(qA 0 19:Od _ _ _ _ _ _ _ (IsV (.slice (some ⟨g,0,none⟩) n0 c))).out v a w2 hE hd' hf;simp only[List.map_toArray,List.map_cons,List.map_nil];rw[e0]
    exact hmin w2 hE) ?_
   refine Rc (fldHd hmok.1 (qA 1 20)) ?_;exact rn0
  intro v X3 e1 hZ _;replace E:=E.trans e1;replace B6:=B6.ext e1;simp only[lxE,Nat.reduceAdd];rw[show v 2=.agg (mm.take 31).toArray from hZ 2 dcx];clear hZ e1 hmin hB;have hl':(mm.take 31).length=31:=by simp[hmok.1]
  have h1':(mm.take 31).all (λu=>u.oneCell')=true:=List.all_eq_true.2 λu hu=>List.all_eq_true.1 hmok.2.1 u (List.mem_of_mem_take hu)
  have hn':∀u∈mm.take 31,NoWord u:=λu hu=>hmok.2.2 u (List.mem_of_mem_take hu)
  refine stL (λK hK=>?_);refine qZ (us:=mm.take 31) B6 st_En rfl hl' nwE (λX4 B6' O=>hK _ _ ?_) (ho1:=h1');replace E:=(Ob.only O).ext E (by omega);clear hK O B6 K;refine stL (λK hK=>?_);refine wp_mvA (u:=.bool true) za (hK _ _ ?_);clear hK K;refine jL ?_
  try simp only[Act.put,uAx,u0x,u1x]
  go_wp2_with fail;exact jK (resCT results137 rfl (lv_EnD hl' B6')) rfl ⟨_,rfl,E,_,_,rfl,⟨mm.take 31,rfl,hl',h1',hn',λvs h=>by rw[HBE.out,bestL,HMM.out]at h;cases h;rfl⟩,by rw[HBE.out];rfl⟩
end
section
open Go Go.RowKit Go.Maps Go.Sort
open Go.Proofs.Tryz
set_option maxRecDepth 100000
set_option maxHeartbeats 4000000
attribute [local go_sem] Oper.semAt_some
def CsR(H:Nat)(cs:List qJ)(v:Value)(w:World):Prop:=∃ao c,v=.slice ao cs.length c/\(cs≠ []->∃g,ao=some ⟨g,0,none⟩/\g<H/\∀(j:Nat) (d:qJ),cs[j]? =some d->∃vs:List Value,vs.length=9/\vs[0]? =some (.string d.name)/\∀q u,vs[q]? =some u->World.cell? w ⟨g,9*j+q,none⟩=some u)
def VcR(H:Nat)(d:qJ)(vs:List Value)(w:World):Prop:=vs.length=11/\vs.all (λu=>u.oneCell')=true/\(∃s a n c,vs[0]? =some (.bool s)/\vs[1]? =some (.slice a n c)/\IsI 128 d.lo (.agg #[.bool s,.slice a n c]) w)/\(∃s a n c,vs[4]? =some (.bool s)/\vs[5]? =some (.slice a n c)/\IsI 128 d.hi (.agg #[.bool s,.slice a n c]) w)/\
 vs[8]? =some (.bool d.fin)/\vs[10]? =some (.int .i64 d.err)/\∃hv,vs[9]? =some hv/\∀h,H<=h->HyR h d.hyps hv w
def VsR(H:Nat)(cs:List qJ)(v:Value)(w:World):Prop:=∃ao c,v=.slice ao cs.length c/\(cs≠ []->∃g,ao=some ⟨g,0,none⟩/\g<H/\∀(j:Nat) (d:qJ),cs[j]? =some d->∃vs:List Value,VcR H d vs w/\∀q u,vs[q]? =some u->World.cell? w ⟨g,11*j+q,none⟩=some u)
theorem HyR.rmB{H h:Nat}{hs:List Int}{v:Value}{w w':World}(hv:∀h,H<=h->HyR h hs v w)(r:Rm h w w')(hh:H<=h):∀h,H<=h->HyR h hs v w':=λh' hh'=>by
 obtain⟨ao,c,h1,h2⟩:=hv h hh;obtain⟨ao',c',h1',h2'⟩:=hv h' hh';rw[h1]at h1';injection h1' with e1 e2 e3;refine⟨ao,c,h1,λhn=>?_⟩;obtain⟨g,o,k1,k2,k3⟩:=h2 hn;obtain⟨g',o',k1',k2',k3'⟩:=h2' hn;rw[<-e1,k1]at k1';injection k1' with k1';injection k1' with q1 q2;exact⟨g,o,k1,by rw[q1];exact k2',λj x hj=>r.cell (k3 j x hj) k2⟩
theorem CsR.rm{H h:Nat}{cs:List qJ}{v:Value}{w w':World}(x:CsR H cs v w)(r:Rm h w w')(hh:H<=h):CsR H cs v w':=by
 obtain⟨ao,c,h1,h2⟩:=x;exact⟨ao,c,h1,λhn=>let ⟨g,k1,k2,k3⟩:=h2 hn;⟨g,k1,k2,λj d hj=>let ⟨vs,q1,q2,q3⟩:=k3 j d hj;⟨vs,q1,q2,λq u hq=>r.cell (q3 q u hq) (.inl (Nat.lt_of_lt_of_le k2 hh))⟩⟩⟩
theorem VsR.rm{H h:Nat}{cs:List qJ}{v:Value}{w w':World}(x:VsR H cs v w)(r:Rm h w w')(hh:H<=h):VsR H cs v w':=by
 obtain⟨ao,c,h1,h2⟩:=x;refine⟨ao,c,h1,λhn=>?_⟩;obtain⟨g,k1,k2,k3⟩:=h2 hn;refine⟨g,k1,k2,λj d hj=>?_⟩;obtain⟨vs,⟨q1,q1',⟨s,a,n,c1,a1,a2,a3⟩,⟨s',a',n',c1',b1,b2,b3⟩,q4,q5,hv,q6,q7⟩,q8⟩:=k3 j d hj;exact⟨vs,⟨q1,q1',⟨s,a,n,c1,a1,a2,IsI.gstb _ _ _ _ _ r.gr a3⟩,⟨s',a',n',c1',b1,b2,IsI.gstb _ _ _ _ _ r.gr b3⟩,q4,q5,hv,q6,HyR.rmB q7 r hh⟩,λq u hq=>r.cell (q8 q u hq) (.inl (Nat.lt_of_lt_of_le k2 hh))⟩
theorem cell1_f{w:World}{vs:List Value}{x y:ByteArray}{b:Nat}(_hl:vs.length=9)(h0:vs[0]? =some (.string y))(cb:World.cell? w ⟨b,0,none⟩=some (.string x)):Calls prog 133 #[.agg vs.toArray,.pointer (some ⟨b,0,none⟩)] w (Ret w (IsV (.bool (decide (y=x))))):=by
 obtain⟨W,hW,E,c0⟩:∃W,W=w.alloc (.cells vs.toArray 127)/\Ext w W/\World.cell? W ⟨w.heap.size,0,none⟩=some (.string y):=⟨_,rfl,(Ext.refl w).alloc _,(Bk.new w vs.toArray _).c 0 _ h0⟩;replace cb:=E.cell cb;have hb:=ba_listE y x;go_enter func133,ntmps133;go_upto_region 1 with fail;rw[<-hW];clear hW;go_wp2_with fail
 go_ret
 exact⟨_,rfl,E,rfl⟩
theorem ix_Ce(g c n j:Nat)(h:j<n)(w:World):(Instr.indexAt 33 (.slice (some ⟨g,0,none⟩) n c) (.int .i64 (j:Int))).run prog w=.ok (.pointer (some ⟨g,9*j,none⟩)) w:=by
 have h1:(0:Int)<=(j:Int):=by omega
 have h2:(j:Int)<(n:Int):=by omega
 have h3:0+j*9=9*j:=by omega
 have h4:j*9=9*j:=by omega
 go_simp
theorem ld_CeO{w:World}{g f:Nat}{vs:List Value}(hl:vs.length=9)(hc:∀q u,vs[q]? =some u->World.cell? w ⟨g,f+q,none⟩=some u):(Instr.loadAt 127 (.pointer (some ⟨g,f,none⟩))).run prog w=.ok (.agg vs.toArray) w:=ldM za za hl hc
def idxC(cs:List qJ)(x:ByteArray):Int:=match cs.findIdx? (λc=>c.name==x)with
 |none=> -1
 |some i=>(i:Nat)
theorem idxC_hit{cs:List qJ}{x:ByteArray}{i:Nat}{d:qJ}(h:cs[i]? =some d)(hx:d.name=x)(hn:∀(j:Nat) (e:qJ),j<i->cs[j]? =some e->e.name≠x):idxC cs x=(i:Nat)/\cs.find? (λc=>c.name==x)=some d:=by
 have hl:=(List.getElem?_eq_some_iff.1 h).1
 have h1:cs.findIdx? (λc=>c.name==x)=some i:=by
  rw[List.findIdx?_eq_some_iff_getElem];refine⟨hl,by rw[ba_beq];simp[(List.getElem?_eq_some_iff.1 h).2,hx],λj hj=>?_⟩;rw[ba_beq];have:=hn j _ hj (List.getElem?_eq_getElem (by omega))
  simpa using this
 refine⟨by rw[idxC,h1],?_⟩;rw[List.find?_eq_some_iff_getElem]
 exact⟨by rw[ba_beq];simp[hx],i,hl,(List.getElem?_eq_some_iff.1 h).2,λj hj=>by
  rw[ba_beq];have:=hn j _ hj (List.getElem?_eq_getElem (by omega))
  simpa using this⟩
theorem idxC_miss{cs:List qJ}{x:ByteArray}(hn:∀(j:Nat) (e:qJ),cs[j]? =some e->e.name≠x):idxC cs x= -1/\cs.find? (λc=>c.name==x)=none:=by
 have h0:∀c∈cs,(c.name==x)=false:=λc hc=>by
  obtain⟨j,hj,he⟩:=List.getElem_of_mem hc;rw[ba_beq]
  simpa using hn j c za2
 have h1:cs.findIdx? (λc=>c.name==x)=none:=List.findIdx?_eq_none_iff.2 h0;exact⟨by rw[idxC,h1],List.find?_eq_none.2 λc hc=>by rw[h0 c hc];simp⟩
theorem idxC_f{w:World}{H:Nat}{cs:List qJ}{v:Value}{x:ByteArray}{b:Nat}(_hH:H<=w.heap.size)(hv:CsR H cs v w)(cb:World.cell? w ⟨b,0,none⟩=some (.string x))(hl:cs.length<=1000000):
  Calls prog 132 #[v,.func (.func 133) #[] #[.pointer (some ⟨b,0,none⟩)]] w (Ret w (iV (idxC cs x))):=by
 obtain⟨ao,c,rfl,hcs⟩:=hv;obtain⟨n0,hn0⟩:∃n0,cs.length=n0:=⟨_,rfl⟩;have HN:=hid hn0;have HL:=hid hl;rw[hn0];have HCS:=hid hcs;have HCB:=hid cb;clear hcs hn0 hl cb;go_enter func132,ntmps132
 go_wp2
 go_loopg [8] n0 (λgk v8 wr=>∃(i:Nat),v8=.int .i64 (i:Int)/\i+gk=n0/\Hid (Ext w wr/\∀(j:Nat) (e:qJ),j<i->cs[j]? =some e->e.name≠x))
 case atStart=>exact⟨0,rfl,by omega,hid ⟨Ext.refl _,λj e hj=>absurd hj (Nat.not_lt_zero _)⟩⟩
 case round=>
  obtain⟨i,rfl,hg,S⟩:=hrel;by_cases hi:i<n0
  ·obtain⟨d,hd⟩:∃d,cs[i]? =some d:=zl;obtain⟨g,rfl,hgb,hc⟩:=HCS.out xm;obtain⟨vs,hvl,hv0,hvc⟩:=hc i d hd;have HI:=hid (show i+1+(gk-1)=n0 by omega);have HD:=hid hd;have hil:(i:Int)<(n0:Int):=by omega
   have HIW:=hid (show IntKind.i64.wrap ((i:Int)+1)=((i+1:Nat):Int)by have:=HL.out;have:=HN.out;simp only[IntKind.wrap_i64];omega);have HG:=hid hg;have HI2:=hid hi;clear hc hd hg hi;have E:=S.out.1;go_upto_region 4 with fail;clear hil;refine rgs 6 (dR 11 6) [IsV (.func (.func 133) #[] #[.pointer (some ⟨b,0,none⟩)]),IsV (.slice (some ⟨g,0,none⟩) n0 c),iV (i:Int),IsP g (9*i),IsV (.agg vs.toArray),IsV (.bool (decide (d.name=x)))] [] ?_ ?_
   ·refine Rc xb ?_;refine Rc zv ?_;refine Rc zt ?_;refine Rc (ixq (ix_Ce g c n0 i HI2.out) (qA 1 12) (qA 2 13)) ?_;refine Rc (lv (fP:=IsV (.agg vs.toArray)) _ (λw' e=>ld_CeO hvl (λq u hq=>e.cell (E.cell (hvc q u hq)))) (qA 3 14) (λ_ _=>rfl)) ?_;refine Rc (cv1 (caps:= [.pointer (some ⟨b,0,none⟩)]) (en func133) (qA 0 11) (qA (fP:=IsV (.agg vs.toArray)) 4 15) (λx0 w' hE d0=>by{obtain rfl:x0=_:=d0;exact cell1_f hvl hv0 (hE.cell (E.cell HCB.out))})) ?_;exact rn0
   intro v X1 e1 hZ _;simp only[lxE,Nat.reduceAdd];rw[show v 5=.bool (decide (d.name=x))from hZ 5 dcx];clear hZ;refine jL ?_;by_cases hx:d.name=x
   ·have HR:=idxC_hit HD.out hx S.out.2;rw[show decide (d.name=x)=true from by simpa using hx];clear S;go_wp2_with fail
    go_ret
    exact⟨_,rfl,E.trans e1,by first|rfl| (rw[HR.1];rfl)⟩
   ·rw[show decide (d.name=x)=false from by simpa using hx]
    have S':=hid (show Ext w X1/\∀(j:Nat) (e:qJ),j<i+1->cs[j]? =some e->e.name≠x from⟨E.trans e1,λj e hj he=>by
     rcases Nat.lt_succ_iff_lt_or_eq.1 hj with h|h
     ·exact S.out.2 j e h he
     ·subst h;rw[HD.out]at he;cases he;exact hx⟩)
    clear S E e1 hx;have hx9:=HIW.out;go_wp2_with fail
    go_roundg (gk-1)
    case measure=>have:=HI.out;have:=HI2.out;have:=HG.out;omega
    case rel=>exact⟨i+1,rfl,HI.out,S'⟩
  ·have hil:¬(i:Int)<(n0:Int):=by omega
   have hie:i=n0:=by omega
   have HR:=idxC_miss (cs:=cs) (x:=x) (λj e he=>S.out.2 j e xa he);have E:=S.out.1;clear S hg hie;go_wp2_with fail
   go_ret
   exact⟨_,rfl,E,by first|rfl| (rw[HR.1];rfl)⟩
end
section
open Go Go.RowKit Go.Maps Go.Sort
open Go.Proofs.Tryz
set_option maxRecDepth 100000
set_option maxHeartbeats 8000000
attribute [local go_sem] Oper.semAt_some
theorem idxC_cases(cs:List qJ)(x:ByteArray):(idxC cs x= -1/\cs.find? (λc=>c.name==x)=none)\/∃(i:Nat) (d:qJ),idxC cs x=(i:Nat)/\cs[i]? =some d/\cs.find? (λc=>c.name==x)=some d:=by
 cases hf:cs.findIdx? (λc=>c.name==x)with
 | none=>
  refine .inl ⟨by rw[idxC,hf],List.find?_eq_none.2 λc hc=>?_⟩;have:=(List.findIdx?_eq_none_iff.1 hf) c hc;simp[this]
 | some i=>
  obtain⟨h1,h2,h3⟩:=List.findIdx?_eq_some_iff_getElem.1 hf;refine .inr ⟨i,cs[i],by rw[idxC,hf],List.getElem?_eq_getElem h1,?_⟩;rw[List.find?_eq_some_iff_getElem];exact⟨h2,i,h1,rfl,λj hj=>by have:=h3 j hj;simpa using this⟩
theorem ix_Va(g c n j:Nat)(h:j<n)(w:World):(Instr.indexAt 34 (.slice (some ⟨g,0,none⟩) n c) (.int .i64 (j:Int))).run prog w=.ok (.pointer (some ⟨g,11*j,none⟩)) w:=by
 have h1:(0:Int)<=(j:Int):=by omega
 have h2:(j:Int)<(n:Int):=by omega
 have h3:0+j*11=11*j:=by omega
 have h4:j*11=11*j:=by omega
 go_simp
theorem ld_VaO{w:World}{g f:Nat}{vs:List Value}(hl:vs.length=11)(hc:∀q u,vs[q]? =some u->World.cell? w ⟨g,f+q,none⟩=some u):(Instr.loadAt 50 (.pointer (some ⟨g,f,none⟩))).run prog w=.ok (.agg vs.toArray) w:=ldM za za hl hc
theorem ld_aV:LdC1 prog 34:=λw a v h=>by go_simp
theorem ld_ai':LdC1 prog 41:=λw a v h=>by go_simp
theorem fa_Mc1(g:Nat)(w:World):(Instr.fieldAt 154 (.pointer (some ⟨g,0,none⟩)) 1).run prog w=.ok (.pointer (some ⟨g,1,none⟩)) w:=by go_simp
theorem fa_Va0(g:Nat)(w:World):(Instr.fieldAt 50 (.pointer (some ⟨g,0,none⟩)) 0).run prog w=.ok (.pointer (some ⟨g,0,none⟩)) w:=by go_simp
theorem fa_Va1(g:Nat)(w:World):(Instr.fieldAt 50 (.pointer (some ⟨g,0,none⟩)) 1).run prog w=.ok (.pointer (some ⟨g,8,none⟩)) w:=by go_simp
theorem fa_Va2(g:Nat)(w:World):(Instr.fieldAt 50 (.pointer (some ⟨g,0,none⟩)) 2).run prog w=.ok (.pointer (some ⟨g,9,none⟩)) w:=by go_simp
theorem fa_Ra0(g f:Nat)(w:World):(Instr.fieldAt 45 (.pointer (some ⟨g,f,none⟩)) 0).run prog w=.ok (.pointer (some ⟨g,f,none⟩)) w:=by go_simp
section
variable {ops:Array Oper} {Q:Exit->Act->World->Prop} {ds:List (Option Tmp)} {a0:Act} {w0:World} {L:List (Value->World->Prop)} {boxes:List Nat} {i k:Nat} {o:Oper} {os:List Oper}
theorem bdKnI{p q:Int}{f:Bool}{x y z:Operand}(hx:Od ops ds a0 w0 L i x (IsI 128 p))(hy:Od ops ds a0 w0 L i y (IsI 128 q))(hz:Od ops ds a0 w0 L i z (IsV (.bool f)))(ho:o.op=.build 176 #[(0,x),(1,y),(2,z)]:=by rfl)(hi:L.getD i (λ_ _=>True)=IsKn 128 p q f:=by kernel_rfl)(hb:boxes.contains i=false:=by kernel_rfl):Ok prog ops Q ds a0 w0 L boxes i o:=
 bdG2 ho hi hb λv a w hE hd hf=>by
  have hI1:=hx.out v a w hE hd hf;have hI2:=hy.out v a w hE hd hf;obtain⟨s,p',n,c,e1,h1⟩:=id hI1;obtain⟨s2,p2,n2,c2,e2,h2⟩:=id hI2;have e3:a.eval z=.bool f:=hz.out v a w hE hd hf;rw[e1]at hI1;rw[e2]at hI2;have hr:(Instr.build 176 #[(0,.agg #[.bool s,.slice p' n c]),(1,.agg #[.bool s2,.slice p2 n2 c2]),(2,.bool f)]).run prog w=.ok (.agg #[.bool s,.slice p' n c,.bool s2,.slice p2 n2 c2,.bool f]) w:=ja
  exact⟨_,by simp only[List.map_toArray,List.map_cons,List.map_nil];rw[e1,e2,e3];exact hr,_,_,_,_,_,_,_,_,rfl,hI1,hI2⟩
end
theorem cell_g{w:World}{m:Mc}{left:Nat}{cs:List qJ}{SS:List (List UInt8)}{SI:List Int}{s:Lg}{x:ByteArray}{H:Nat}(hH:H<=m.h)(hc:CsR H cs m.cs w)(hv:VsR H cs m.vs w)(hl:cs.length<=1000000)
  (hok:∀c∈cs,c.hyps.length<=1000000/\∀y∈c.hyps,y∈SI/\(Lit.int .i64 y).wf=true) (hn:SI.length<maxLen) (hh:m.h+3<=w.heap.size) (hM:MAt m left w) (hj:JG SS SI m.h s w):
  Calls prog 111 #[.pointer (some ⟨m.h+2,0,none⟩),.string x] w (EvP m (JG SS SI m.h) w ((clG cs x s).1,(left,(clG cs x s).2))):=by
 have hmf:∀(fn:Fn) (first cap:Array Value) (w:World),(Instr.makeFunc fn first cap).run prog w=.ok (.func fn first cap) w:=λ_ _ _ _=>rfl
 obtain⟨W,hW,E,B3,B4⟩:∃W,W=(w.alloc (.cells #[.string x] 9)).alloc (.cells #[.bool false,.slice none 0 0,.bool false,.slice none 0 0,.bool false] 176)/\Ext w W/\Bk W w.heap.size [.string x]/\Bk W (w.heap.size+1) [.bool false,.slice none 0 0,.bool false,.slice none 0 0,.bool false]:=
  ⟨_,rfl,((Ext.refl w).alloc _).alloc _,(Bk.new w _ _).ext ((Ext.refl _).alloc _),Bk.newE _ _ (by simp) _ _⟩
 have hw4:m.h+3<=w.heap.size:=hh;have HC:=hid (hc.rm (Rm.ext (h:=m.h) E) hH);have HV:=hid (hv.rm (Rm.ext (h:=m.h) E) hH);replace hM:=hM.ext E;replace hj:=(JG.inv SS SI m.h).ext hj E hh;replace hh:=jQ hh E.size;have HLN:=hid hl;have HOK:=hid hok;clear hc hv hl hok;obtain⟨ix,hix⟩:∃ix,idxC cs x=ix:=⟨_,rfl⟩
 have hcon:∀w',Ext W w'->Calls prog 132 #[m.cs,.func (.func 133) #[] #[.pointer (some ⟨w.heap.size,0,none⟩)]] w' (Ret w' (iV ix)):=λw' e=>by
  rw[<-hix];exact idxC_f (H:=H) (by have:=e.size;omega) (HC.out.rm (Rm.ext (h:=m.h) e) hH) (e.cell (B3.c 0 _ rfl)) HLN.out
 have HX:=hid hix;clear hix;have c0:=hM.bk.c 0 _ rfl;go_enter func111,ntmps111;go_upto_region 1 with fail;rw[<-hW];clear hW;go_upto_region 2 with(go_at_call 132;refine jJ (hcon _ (Ext.refl _)) ?_;rintro e w1 ⟨_,rfl,e1,rfl⟩);clear hcon c0 B3 hmf;replace E:=E.trans e1;replace B4:=B4.ext e1;replace HV:=hid (HV.out.rm (Rm.ext (h:=m.h) e1) hH);replace hM:=hM.ext e1;replace hj:=(JG.inv SS SI m.h).ext hj e1 hh;replace hh:=jQ hh e1.size;clear e1 HC;rcases idxC_cases cs x with⟨h1,h2⟩| ⟨i,d,h1,h2,h3⟩
 ·have hix:ix= -1:=by rw[<-h1];exact HX.out.symm
  subst hix;have HCL:=hid (show clG cs x s=(.error 440,s)by rw[clG,h2]);go_wp2_with fail;exact⟨rfl,by rw[HCL.out];exact⟨Rm.ext E,hM,hj,rfl⟩⟩
 ·have hix:ix=(i:Nat):=by rw[<-h1];exact HX.out.symm
  subst hix;have HCL:=hid (show clG cs x s=(if d.err=0 then .ok ⟨d.lo,d.hi,d.fin⟩else .error d.err,(s.1,s.2++d.hyps))by rw[clG,h3]);have hil:=(List.getElem?_eq_some_iff.1 h2).1;obtain⟨hd1,hd2⟩:=HOK.out d (List.mem_of_getElem? h2);obtain⟨ao,c,hvs,hvc⟩:=HV.out;obtain⟨g,rfl,hgH,hel⟩:=hvc (by intro h0;subst h0;simp at h2);obtain⟨vs,⟨v1,v2,⟨s1,a1,n1,c1,v3,v4,v5⟩,⟨s2,a2,n2,c2,v6,v7,v8⟩,v9,v10,hy,v11,v12⟩,v13⟩:=hel i d h2;have hi0:(0:Int)<=(i:Int):=by omega
  have HIL:=hid hil;clear h1 h2 h3 hil HX HV hvc hel HOK;go_upto_region 4 with fail;clear hi0;refine rgs 7 (dR 17 7) [IsP (m.h+2) 0,IsP (m.h+2) 0,IsP (m.h+2) 1,IsV (.slice (some ⟨g,0,none⟩) cs.length c),iV (i:Int),IsP g (11*i),IsV (.agg vs.toArray)] [] ?_ ?_
  ·refine Rc zv ?_;refine Rc (nc (p:=⟨m.h+2,0,none⟩) (qA 0 17)) ?_;refine Rc (fa (fa_Mc1 (m.h+2)) (qA 1 18)) ?_;refine Rc (lv (fP:=IsV (.slice (some ⟨g,0,none⟩) cs.length c)) _ (λw' e=>ld_aV w' _ _ (by have:=(hM.bk.ext e).c 1 _ rfl;rw[hvs]at this;exact this)) (qA 2 19) (λ_ _=>rfl)) ?_;refine Rc zt ?_;refine Rc (ixq (ix_Va g c cs.length i HIL.out) (qA 3 20) (qA 4 21)) ?_;refine Rc (lv (fP:=IsV (.agg vs.toArray)) _ (λw' e=>ld_VaO v1 (λq u hq=>e.cell (v13 q u hq))) (qA 5 22) (λ_ _=>rfl)) ?_;exact rn0
  intro v X1 e1 hZ _;simp only[lxE,Nat.reduceAdd];rw[show v 6=.agg vs.toArray from hZ 6 dcx];clear hZ v13 hvs;replace E:=E.trans e1;replace B4:=B4.ext e1;replace hM:=hM.ext e1;replace hj:=(JG.inv SS SI m.h).ext hj e1 hh;replace hh:=jQ hh (Ext.size e1);replace v5:=IsI.gstb _ _ _ _ _ (Ext.gr e1) v5;replace v8:=IsI.gstb _ _ _ _ _ (Ext.gr e1) v8;replace v12:=HyR.rmB v12 (Rm.ext (h:=m.h) e1) hH;clear e1;refine stL (λK hK=>?_);refine xF (vs:=zVl) al_Vl (λBn e3=>hK _ _ ?_);obtain⟨g6,hg6⟩:∃g,X1.heap.size=g:=⟨_,rfl⟩;have hg64:w.heap.size+1<g6:=by rw[<-hg6];exact B4.lt
  rw[hg6]at Bn ⊢;generalize X1.alloc (.cells zVl.toArray 50)=Y1 at Bn e3 ⊢;replace E:=E.trans e3;replace B4:=B4.ext e3;replace hM:=hM.ext e3;replace hj:=(JG.inv SS SI m.h).ext hj e3 hh;replace v5:=IsI.gstb _ _ _ _ _ (Ext.gr e3) v5;replace v8:=IsI.gstb _ _ _ _ _ (Ext.gr e3) v8;replace v12:=HyR.rmB v12 (Rm.ext (h:=m.h) e3) hH;have hg6h:m.h+3<=g6:=by omega
  replace hh:=jQ hh e3.size;clear hK K hg6 e3
  go_simp
  refine stL (λK hK=>?_);refine qZ (us:=vs) Bn st_Vl rfl v1 nwZ (λX2 B6 O=>hK _ _ ?_) (ho1:=v2);replace E:=O.ext E (by omega);replace B4:=O.bk B4 (by omega);replace hM:MAt m left X2:=⟨O.bk hM.bk (by omega),hM.fit⟩;replace hj:=(JG.inv SS SI m.h).only hj O (by omega);replace v5:=IsI.gstb _ _ _ _ _ O.gr v5;replace v8:=IsI.gstb _ _ _ _ _ O.gr v8;replace v12:=HyR.rmB v12 O.rmg (jQ hH (by omega));replace hh:=(show m.h+3<=X2.heap.size by rw[O.size];exact hh);clear hK K O Bn;refine jL ?_;go_upto_region 5 with fail;refine rgs 3 (dR 24 3) [IsP (m.h+2) 0,IsP g6 9,IsV (hy)] [] ?_ ?_
  ·refine Rc zv ?_;refine Rc (fa (fa_Va2 g6) (qB 6)) ?_;refine Rc (lvC 9 B6 ld_ai' (qA 1 25) v11) ?_;exact rn0
  intro v X3 e1 hZ _;simp only[lxE,Nat.reduceAdd];rw[show v 0=.pointer (some ⟨m.h+2,0,none⟩)from hZ 0 dcx,show v 2=hy from hZ 2 dcx];clear hZ;replace E:=E.trans e1;replace B4:=B4.ext e1;replace B6:=B6.ext e1;replace hM:=hM.ext e1;replace hj:=(JG.inv SS SI m.h).ext hj e1 hh;replace hh:=jQ hh (Ext.size e1);replace v5:=IsI.gstb _ _ _ _ _ (Ext.gr e1) v5;replace v8:=IsI.gstb _ _ _ _ _ (Ext.gr e1) v8;replace v12:=HyR.rmB v12 (Rm.ext (h:=m.h) e1) hH;clear e1;refine stL (λK hK=>?_);refine xB (us:= [.pointer (some ⟨m.h+2,0,none⟩),hy]) (en func134) za (use_g hM hj hh (v12 m.h hH) hd2 hn hd1) (λv2 X4 h=>hK _ _ ?_) (λch X4 h=>by{obtain⟨hx,_⟩:=h;cases hx}) (λX4 h=>by{obtain⟨hx,_⟩:=h;cases hx});obtain⟨hx,R,hM',hj'⟩:=h;cases hx;replace B4:=R.bk B4 (by omega);replace B6:=R.bk B6 (by omega);replace v5:=IsI.gstb _ _ _ _ _ R.gr v5;replace v8:=IsI.gstb _ _ _ _ _ R.gr v8;have RR:=(Rm.ext (h:=m.h) E).trans R;replace hh:=jQ hh R.size;clear hK K R E v12 hM hj;refine jL ?_
  go_simp
  have c10:=B6.c 10 _ v10;by_cases he:d.err=0
  ·have d10:World.cell? X4 ⟨g6,10,none⟩=some (.int .i64 0):=by rw[<-he];exact c10
   clear c10;go_upto_region 8 with fail;clear d10;refine rgs 11 (dR 35 11) [IsP g6 0,IsP g6 0,IsP g6 0,IsI 128 d.lo,IsP g6 0,IsP g6 4,IsP g6 4,IsI 128 d.hi,IsP g6 8,IsV (.bool d.fin),IsKn 128 d.lo d.hi d.fin] [] ?_ ?_
   ·refine Rc (fa (fa_Va0 g6) (qB 6)) ?_;refine Rc (fa (fa_Iv0 g6 0) (qA 0 35)) ?_;refine Rc (fa (fa_Ra0 g6 0) (qA 1 36)) ?_;refine Rc (lv (fP:=IsI 128 d.lo) _ (λw' e=>qF w' g6 0 s1 a1 n1 c1 (e.cell (B6.c 0 _ v3)) (e.cell (B6.c 1 _ v4))) (qA 2 37) (λw' e=>IsI.gstb _ _ _ _ _ e.gr v5)) ?_;refine Rc (fa (fa_Va0 g6) (qB 6)) ?_;refine Rc (fa (fa_Iv1 g6 0) (qA 4 39)) ?_;refine Rc (fa (fa_Ra0 g6 4) (qA 5 40)) ?_;refine Rc (lv (fP:=IsI 128 d.hi) _ (λw' e=>qF w' g6 4 s2 a2 n2 c2 (e.cell (B6.c 4 _ v6)) (e.cell (B6.c 5 _ v7))) (qA 6 41) (λw' e=>IsI.gstb _ _ _ _ _ e.gr v8)) ?_;refine Rc (fa (fa_Va1 g6) (qB 6)) ?_;refine Rc (lvC 8 B6 ld_b (qA 8 43) v9) ?_;refine Rc (bdKnI (qA (fP:=IsI 128 d.lo) 3 38) (qA (fP:=IsI 128 d.hi) 7 42) (qA (fP:=IsV (.bool d.fin)) 9 44)) ?_;exact rn0
   intro v X5 e1 hZ _;obtain⟨s5,a5,n5,c5,s6,a6,n6,c6,hvk,g1,g2⟩:=hZ 10 dcx;obtain⟨fq,hfq⟩:∃f,d.fin=f:=⟨_,rfl⟩;simp only[lxE,Nat.reduceAdd];rw[hvk,hfq];clear hvk hZ;replace B4:=B4.ext e1;replace hM':=hM'.ext e1;replace hj':=(JG.inv SS SI m.h).ext hj' e1 hh;replace hh:=jQ hh e1.size;replace RR:=RR.trans (Rm.ext e1);clear e1 v5 v8;refine stL (λK hK=>?_);refine qZ (us:= [.bool s5,.slice a5 n5 c5,.bool s6,.slice a6 n6 c6,.bool fq]) B4 xP rfl rfl nw5 (λX9 B9 O=>hK _ _ ?_);replace g1:=IsI.gstb _ _ _ _ _ O.gr g1;replace g2:=IsI.gstb _ _ _ _ _ O.gr g2;have M9:MAt m left X9:=⟨O.bk hM'.bk (by omega),hM'.fit⟩;have J9:=(JG.inv SS SI m.h).only hj' O (by omega);have R9:=RR.ob (Ob.only O) (by omega);refine jL ?_;have d0:=B9.c 0 _ rfl;have d1:=B9.c 1 _ rfl;have d2:=B9.c 2 _ rfl;have d3:=B9.c 3 _ rfl;have d4:=B9.c 4 _ rfl;clear hK K O B9 B6 B4 hM' hj' RR;go_wp2_with fail;exact jK (v:=.agg #[.bool s5,.slice a5 n5 c5,.bool s6,.slice a6 n6 c6,.bool fq]) (by simp[results,results111,go_sem,d0,d1,d2,d3,d4]) rfl (by{rw[HCL.out,if_pos he];exact⟨R9,M9,J9,_,rfl,_,_,_,_,_,_,_,_,by first|rfl|rw[hfq],g1,g2⟩})
  ·go_wp2_with fail;exact⟨rfl,by{rw[HCL.out,if_neg he];exact⟨RR,hM',hj',rfl⟩}⟩
end
section
open Go Go.RowKit Go.Maps Go.Shelf
open Go.Proofs.Tryz
set_option maxRecDepth 100000
set_option maxHeartbeats 8000000
attribute [local go_sem] Oper.semAt_some
theorem Bk.kept{A B:World}{g:Nat}{vs:List Value}{row:Option Nat}(b:Bk A g vs)(hv:vs≠ [])(hg:A.grownBy B row)(hr:∀r,row=some r->∃o:Obj,A.heap[r]? =some o/\o.isCells=false):Bk B g vs:=by
 obtain⟨v0,hv0⟩:∃v,vs[0]? =some v:=by cases vs with|nil=>exact absurd rfl hv|cons v t=>exact⟨v,rfl⟩
 have hb:B.heap[g]? =A.heap[g]? :=hg.block g b.lt (λe=>by
  obtain⟨o,h1,h2⟩:=hr g e.symm;obtain⟨o',h3,h4⟩:=cells_of_cell (b.c 0 v0 hv0);rw[h1]at h3;cases h3;rw[h2]at h4
  cases h4)
 exact⟨λj v hj=>(World.cell?_of_block (w:=A) (a:=⟨g,j,none⟩) hb).trans (b.c j v hj),λj=>(World.frozen?_of_block (w:=A) (a:=⟨g,j,none⟩) hb).trans (b.f j),Nat.lt_of_lt_of_le b.lt hg.size⟩
def EntAt(H:Nat)(d:EnD)(es:List Value)(w:World):Prop:=
 (∃ao c,es[1]? =some (.slice ao d.vals.length c)/\(d.vals≠ []->∃g,ao=some ⟨g,0,none⟩/\g<H/\∀(j:Nat) (z:Int),d.vals[j]? =some z->∃s a n c',World.cell? w ⟨g,2*j,none⟩=some (.bool s)/\World.cell? w ⟨g,2*j+1,none⟩=some (.slice a n c')/\IsI 128 z (.agg #[.bool s,.slice a n c']) w))/\
 ∃hv,es[30]? =some hv/\∀h,H<=h->HyR h d.hyps hv w
theorem EntAt.rm{H h:Nat}{d:EnD}{es:List Value}{w w':World}(x:EntAt H d es w)(r:Rm h w w')(hh:H<=h):EntAt H d es w':=by
 obtain⟨⟨ao,c,h1,h2⟩,hv,h3,h4⟩:=x;refine⟨⟨ao,c,h1,λhn=>?_⟩,hv,h3,HyR.rmB h4 r hh⟩;obtain⟨g,k1,k2,k3⟩:=h2 hn;refine⟨g,k1,k2,λj z hj=>?_⟩;obtain⟨s,a,n,c',q1,q2,q3⟩:=k3 j z hj;exact⟨s,a,n,c',r.cell q1 (.inl (Nat.lt_of_lt_of_le k2 hh)),r.cell q2 (.inl (Nat.lt_of_lt_of_le k2 hh)),IsI.gstb _ _ _ _ _ r.gr q3⟩
def IsBd(H:Nat)(o:Option EnD):Value->World->Prop:=λx w=>∃es:List Value,x=.agg es.toArray/\es.length=31/\es.all (λu=>u.oneCell')=true/\(∀v∈es,NoWord v)/\∀d,o=some d->EntAt H d es w
theorem IsBd.rm{H h:Nat}{o:Option EnD}{x:Value}{w w':World}(y:IsBd H o x w)(r:Rm h w w')(hh:H<=h):IsBd H o x w':=let ⟨es,h1,h2,h3,h4,h5⟩:=y;⟨es,h1,h2,h3,h4,λd hd=>(h5 d hd).rm r hh⟩
theorem IsBd.stb(H:Nat)(o:Option EnD):Stb (IsBd H o):=λ_ _ _ e y=>y.rm (Rm.ext (h:=H) e) (jP _)
instance (H:Nat) (o:Option EnD):StbC (IsBd H o):=⟨IsBd.stb H o⟩
theorem fa_En1'(g:Nat)(w:World):(Instr.fieldAt 95 (.pointer (some ⟨g,0,none⟩)) 1).run prog w=.ok (.pointer (some ⟨g,1,none⟩)) w:=by go_simp
theorem ix_In(g c n j:Nat)(h:j<n)(w:World):(Instr.indexAt 69 (.slice (some ⟨g,0,none⟩) n c) (.int .i64 (j:Int))).run prog w=.ok (.pointer (some ⟨g,2*j,none⟩)) w:=by
 have h1:(0:Int)<=(j:Int):=by omega
 have h2:(j:Int)<(n:Int):=by omega
 have h3:0+j*2=2*j:=by omega
 have h4:j*2=2*j:=by omega
 go_simp
theorem value_g{w:World}{h left:Nat}{ca va sa ga:Option Addr}{cn cc vn vc sn sc gn gc:Nat}{x:ByteArray}{k:Nat}{env:Env}{ve:Value}{bst:List UInt8->Option EnD}{SS:List (List UInt8)}{SI:List Int}{s:Lg}{H:Nat}(hH:H<=h)(T:TabM w)(hE:IsEnv h env ve w)(hF:fillOk x env)(_hk:k<=9)
  (hS:(flG x env).data.toList∈SS) (hSS:SS.length<maxLen) (hSI:SI.length<maxLen) (hb:∀y d,bst y=some d->d.vals.length<=1000000/\d.hyps.length<=1000000/\∀z∈d.hyps,z∈SI/\(Lit.int .i64 z).wf=true)
  (hh:h+3<=w.heap.size) (hM:MAt ⟨h,.slice ca cn cc,.slice va vn vc,.slice sa sn sc,.slice ga gn gc⟩ left w) (hj:JG SS SI h s w)
  (HB:Hid (∀w',Rm h w w'->Calls prog 137 #[.agg #[.slice sa sn sc],.string (flG x env),.slice ga gn gc] w' (Ret w' (IsT2 (IsBd H (bst (flG x env).data.toList)) (IsV (.bool (bst (flG x env).data.toList).isSome)))))):
  Calls prog 112 #[.pointer (some ⟨h+2,0,none⟩),.string x,.int .i64 (k:Int),ve] w (EvP ⟨h,.slice ca cn cc,.slice va vn vc,.slice sa sn sc,.slice ga gn gc⟩ (JG SS SI h) w ((vlG bst flG x (k:Int) env s).1,(left,(vlG bst flG x (k:Int) env s).2))):=by
 obtain⟨R0,hR0⟩:∃R,vlG bst flG x (k:Int) env s=R:=⟨_,rfl⟩;rw[hR0];obtain⟨hel,ao,cp,rfl,hcp,hle,hnil,hcs⟩:=hE
 obtain⟨W,hW,E,B5,B8⟩:∃W,W=(w.alloc (.cells #[.string x] 9)).alloc (.cells #[.bool false,.slice none 0 0,.bool false,.slice none 0 0,.bool false] 176)/\Ext w W/\Bk W w.heap.size [.string x]/\Bk W (w.heap.size+1) [.bool false,.slice none 0 0,.bool false,.slice none 0 0,.bool false]:=
  ⟨_,rfl,((Ext.refl w).alloc _).alloc _,(Bk.new w _ _).ext ((Ext.refl _).alloc _),Bk.newE _ _ (by simp) _ _⟩
 have hEB:EnvB w.heap.size W ao env:=by
  by_cases hne:env= []
  ·exact .inl hne
  ·obtain⟨g,r1,r2,r3,r4⟩:=hcs hne;exact .inr ⟨g,r1,r3,λj y kk hj=>⟨E.cell (r4 j y kk hj).1,E.cell (r4 j y kk hj).2⟩⟩
 clear hcs hnil hcp hle;refine calls_of_wp_marks func112 rfl ?_;simp only[ntmps112,List.size_toArray,List.length_cons,List.length_nil,Nat.reduceAdd,Nat.reduceSub,Array.replicate_succ,Array.replicate_zero,List.push_toArray,List.append_toArray,List.nil_append,List.cons_append];go_upto_region 1 with fail;rw[<-hW];clear hW;go_wp2_with (go_at_call 135;refine(back_c _ _ _ _).mono ?_;rintro e w1 ⟨rfl,rfl⟩)
 have hwc:=B8.lt;obtain⟨c,hc⟩:∃c,W.heap.size=c:=⟨_,rfl⟩;rw[hc]at hwc;obtain⟨w1,hw1,E1,hcl,hcb⟩:∃w1,w1=W.alloc (.cells #[.slice ao env.length cp] 197)/\Ext W w1/\c<w1.heap.size/\w1.cell? ⟨c,0,none⟩=some (.slice ao env.length cp):=⟨_,rfl,(Ext.refl _).alloc _,by rw[<-hc];simp,by rw[<-hc];simp⟩;rw[<-hw1,hc];clear hw1;have E1w:Ext w w1:=E.trans E1;have hcE:=hid (jO hcl hwc);have hT1:=T.ext E1w
 refine wpIn_wide.1 (wpIn_rangeFunc_ownH (n:=9) rfl dcx (gf:=179) (lb:= #[.pointer (some ⟨c,0,none⟩)]) rfl trivial (en func179)
  (backv_stops Fence.wide (9-1) trivial rfl dcx c w.heap.size ao cp env hel hF.2.2 w1 hcl E1w.size hcb (hEB.below (E1.mono E.size))) (λh k=>h.trans k) (Kpb.put E1w.size) (jS _ _) (λ_=>rfl)
  (λpre W'=>(Bk W' w.heap.size [.string (fiN x pre)]/\Bk W' (w.heap.size+1) [.bool false,.slice none 0 0,.bool false,.slice none 0 0,.bool false])/\Below w.heap.size w W') (λ_ _ _=>False)
  ?own (λ_ _ _ _ _ hx _ _=>hx) ?start
  (λy a' W'=>∃g10,a'= {tmps:= #[.pointer (some ⟨h+2,0,none⟩),.string x,.int .i64 (k:Int),.slice ao env.length cp,undef,.pointer (some ⟨w.heap.size,0,none⟩),undef,undef,.pointer (some ⟨w.heap.size+1,0,none⟩),undef,.pointer (some ⟨g10,0,none⟩),undef,undef,.slice ao env.length cp,.func (.func 179) #[] #[.pointer (some ⟨c,0,none⟩)],.int .i64 (y.1:Int),.agg #[.string (clp y).1,.int .i64 (clp y).2],undef,undef,undef,undef,undef,undef,undef,undef,undef,undef,undef,undef,undef,undef,undef,undef,undef,undef,undef,undef,undef,undef,undef,undef,undef,undef,undef,undef,undef,undef,undef,undef,undef,undef,undef,undef,undef,undef,undef,undef,undef,undef,undef,undef,undef],defers:= []}/\Bk W' g10 [.string (clp y).1,.int .i64 (clp y).2])
  ?hAx ?assign ?body ?done (λ_ _ _ _ _ _ hx _=>hx.elim))
 case own=>
  intro pre A B row hs hg hr;exact⟨⟨hs.1.1.kept (by simp) hg (λr e=>(hr r e).2),hs.1.2.kept (by simp) hg (λr e=>(hr r e).2)⟩,hs.2.grown hg hs.2.size (λq e=>jQ E1w.size (hr q e).1)⟩
 case start=>exact⟨⟨B5.ext E1,B8.ext E1⟩,E1w⟩
 case hAx=>
  rintro y a' _ A B row ⟨g10,h1,h3⟩ hg hr;exact⟨g10,h1,h3.kept (by simp) hg (λr e=>(hr r e).2)⟩
 case assign=>
  intro l pre y W' K hI hK;obtain⟨⟨b5,b8⟩,hb⟩:=hI;have e1:Ext W' (W'.alloc (.cells #[.string (clp y).1,.int .i64 (clp y).2] 200)):=(Ext.refl _).alloc _;have hbs:=hb.size
  gi_wp2
  exact hK _ _ ((ext_keeps e1).from _) ⟨Below.mono e1 (by omega),λv hv=>e1.cell hv⟩ ⟨⟨b5.ext e1,b8.ext e1⟩,Below.trans hb (Below.mono e1 (by omega))⟩ ⟨_,rfl,Bk.newE _ _ (by simp) _ _⟩
 case body=>
  rintro l pre y a' W' hl0 hlr ⟨⟨b5,b8⟩,hb⟩ ⟨g10,rfl,b10⟩ hlen;have d5:=b5.c 0 _ rfl;have d10:=b10.c 0 _ rfl;have d11:=b10.c 1 _ rfl;have hT:=T.ext hb;obtain⟨hy0,hy1,hy2⟩:=clp_fit y;have hF2:=hF.2.1;have hbs:=hb.size
  gi_wp2_with (refine⟨trivial,?_⟩;gi_at_call 136;go_must (refine(in_round l (Fill_f hT (fiN x pre) (clp y).1 (clp y).2 (fiN_le hF.1 (by omega)) (by omega) (by omega) (by omega))).mono ?_;rintro e w8 ⟨_,rfl,E8,rfl⟩;have Lg:=(b5.ext E8).c 0 _ rfl;have Fg:=(b5.ext E8).f 0))
  have hs8:=E8.size;have hc8:=hcE.out;obtain⟨O,B9⟩:=(b5.ext E8).putO (us:= [.string (fillB (fiN x pre) (clp y).1 (clp y).2)]) rfl (by simp[NoWord]);refine⟨((ext_keeps E8).trans (KeepsOthers.setCell _ _ _)).from _,⟨Below.setCell (Below.mono E8 hbs) (jP _) _,λv hv=>?_⟩,⟨?_,?_⟩,?_⟩
  ·exact(World.cell?_of_block (w:=w8) (a:=⟨c,0,none⟩) (O.block c (by omega))).trans (E8.cell hv)
  ·rw[fiN_snoc];exact B9
  ·exact O.bk (b8.ext E8) (by omega)
  ·exact Below.setCell (hb.trans (Below.mono E8 hbs)) (jP _) _
 case done=>
  rintro D xs W' hD rfl ⟨⟨B5',B8'⟩,E'⟩ hK;obtain⟨fx,hfx⟩:∃fx,flG x env=fx:=⟨_,rfl⟩;have hsz:fx.size<=maxLen:=jQ (by rw[<-hfx];exact fiN_le hF.1 (by rw[upto_length];exact hF.2.1)) dcx;rw[show fiN x (upto (bwv env) env.length)=fx from hfx]at B5';unfold vlG at hR0;rw[hfx]at hS HB hR0;obtain⟨o,ho⟩:∃o,bst fx.data.toList=o:=⟨_,rfl⟩;rw[ho]at HB hR0;have hb':=hb fx.data.toList;rw[ho]at hb';clear ho hb hfx B5 B8 hcb E1 T hT1 hEB E;have E:Ext w W':=E';clear E';have hM2:=hM.ext E;have hj2:=(JG.inv SS SI h).ext hj E hh;have B5:=B5';have B8:=B8';clear B5' B8';have hDW:c<D:=Nat.lt_of_lt_of_le hcl hD;have hc8:=hcE.out;clear hcl hj hM hcE E1w hc;go_upto_region 4 with fail;have hDl:D<W'.heap.size:=(Array.getElem?_eq_some_iff.1 hK).1;refine rg 5 (dR 23 5) [IsP (h+2) 0,IsP (h+2) 0,IsP (h+2) 5,IsV (.map (some h)),IsV (.string fx)] [] 1 ?_ ?_
  ·refine Rc zv ?_;refine Rc (nc (p:=⟨h+2,0,none⟩) (qA 0 23)) ?_;refine Rc (fa (fa_Mc5 (h+2)) (qA 1 24)) ?_;refine Rc (lvC 5 hM2.bk ld_ms (qA 2 25)) ?_;refine Rc (lvC 0 B5 ld_str (qB 5)) ?_;exact rn0
  intro v X1 e1 hZ _;replace E:=E.trans e1;replace hj2:=(JG.inv SS SI h).ext hj2 e1 hM2.bk.lt;replace hM2:=hM2.ext e1;replace B5:=B5.ext e1;replace B8:=B8.ext e1;replace hK:=(e1.block D hDl).trans hK;replace hDl:=Nat.lt_of_lt_of_le hDl e1.size;simp only[lxE,Nat.reduceAdd];rw[show v 3=.map (some h)from hZ 3 dcx,show v 4=.string fx from hZ 4 dcx];clear hZ e1;obtain⟨X2,hrun,hj3,tur⟩:=hj2.read hsz hS hSS;have R:=turned_rm (h:=h) tur (.inl rfl);refine stA 5 (h:=λK hK'=>?_);refine wp_mu za za rfl hrun (hK' _ _ ?_);have RR:=(Rm.ext E).trans R;replace hM2:MAt ⟨h,.slice ca cn cc,.slice va vn vc,.slice sa sn sc,.slice ga gn gc⟩ left X2:=⟨hM2.bk.grown tur.grown ju,hM2.fit⟩;replace B5:=R.bk B5 (by omega);replace B8:=R.bk B8 (by omega);replace hK:=(R.block D hDl (by omega)).trans hK;replace hDl:=Nat.lt_of_lt_of_le hDl R.size;clear hK' hj2 tur hrun E R;refine jR za ?_ _;go_upto_region 5 with fail;have hX2:=hM2.bk.lt;obtain⟨b,hbo⟩:∃b,o.isSome=b:=⟨_,rfl⟩;rw[hbo]at HB;refine rgO 14 [12] [some 29,some 30,some 31,some 32,some 33,some 34,some 35,some 36,some 37,some 38,some 28,some 39,some 40,some 11] [IsP (h+2) 0,IsP (h+2) 0,IsP (h+2) 2,IsV (.agg #[.slice sa sn sc]),IsV (.string fx),IsP (h+2) 0,IsP (h+2) 0,IsP (h+2) 3,IsV (.slice ga gn gc),IsT2 (IsBd H o) (IsV (.bool b)),IsT2 (IsBd H o) (IsV (.bool b)),IsBd H o,IsV (.bool b),IsNb X2.heap.size z31] [] 2 ?_ ?_ ?_
  ·intro i hi v w' hE hd;obtain rfl:i=12:=by simpa using hi
   have d0:IsT2 (IsBd H o) (IsV (.bool b)) (v 10) w':=hd 10 za;obtain⟨x0,x1,z0,y0,y1⟩:=d0;refine⟨.bool b,_,rfl,Or.inl ⟨by rfl,?_⟩,rfl⟩;intro w9;simp only[lxE,Nat.reduceAdd];rw[z0];obtain rfl:x1=.bool b:=y1
   go_simp
  ·refine Rc zv ?_;refine Rc (nc (p:=⟨h+2,0,none⟩) (qA 0 29)) ?_;refine Rc (fa (fa_Mc2 (h+2)) (qA 1 30)) ?_;refine Rc (lv (fP:=IsV (.agg #[.slice sa sn sc])) _ (λw' e=>ld_ShM ((hM2.bk.ext e).c 2 _ rfl)) (qA 2 31) (λ_ _=>rfl)) ?_;refine Rc (lvC 0 B5 ld_str (qB 5)) ?_;refine Rc zv ?_;refine Rc (nc (p:=⟨h+2,0,none⟩) (qA 5 34)) ?_;refine Rc (fa (fa_Mc3 (h+2)) (qA 6 35)) ?_;refine Rc (lvC 3 hM2.bk ld_ai (qA 7 36)) ?_;refine Rc (cl3 (en func137) (qA (fP:=IsV (.agg #[.slice sa sn sc])) 3 32) (qA (fP:=IsV (.string fx)) 4 33) (qA (fP:=IsV (.slice ga gn gc)) 8 37) (λx0 x1 x2 w' hE d0 d1 d2=>by{obtain rfl:x0=_:=d0;obtain rfl:x1=_:=d1;obtain rfl:x2=_:=d2;exact HB.out w' (RR.trans (Rm.ext hE))})) ?_;refine Rc (mv (qA 9 38)) ?_;refine Rc (ex (qA (fP:=IsT2 (IsBd H o) (IsV (.bool b))) 10 28) (λu w' hu=>let ⟨a,b',h1,h2,h3⟩:=hu;⟨_,h1,a,rfl,h2⟩)) ?_;refine Rc (ex (qA (fP:=IsT2 (IsBd H o) (IsV (.bool b))) 10 28) (λu w' hu=>let ⟨a,b',h1,h2,h3⟩:=hu;⟨_,h1,b',rfl,h3⟩)) ?_;refine Rc (alB al_En (jP _)) ?_;exact rn0
  intro v X3 e1 hZ _;obtain⟨es,hv11,hes,hone,hnw,hbest⟩:=hZ 11 dcx;obtain⟨g11,hv13,hg11,B11⟩:=hZ 13 dcx;simp only[lxE,Nat.reduceAdd];rw[hv11,hv13,show v 12=.bool b from hZ 12 dcx];clear hZ hv11 hv13;refine stA 14 (h:=λK hK'=>?_);refine qZ (us:=es) B11 st_En rfl hes nwE (λX4 B11' O=>hK' _ _ ?_) (ho1:=hone);have e2:=O.ext e1 hg11;have hs:=RR.size;have hb4:∀d,o=some d->EntAt H d es X4:=λd hd=>(hbest d hd).rm (h:=g11) ⟨O.os,O.tape,O.output,by rw[O.size];exact jP _,λk _ hg=>O.block k (by omega),O.gr⟩ (by omega)
  replace hj3:=(JG.inv SS SI h).ext hj3 e2 hX2;replace hM2:=hM2.ext e2;replace RR:=RR.trans (Rm.ext e2);replace B8:=B8.ext e2;replace hK:=(e2.block D hDl).trans hK;replace hDl:=Nat.lt_of_lt_of_le hDl e2.size;have hg8:X2.heap.size<=g11:=hg11;clear hK' O e1 e2 B11 hbest B5 HB hs;refine stA 15 (h:=λK hK'=>?_);refine wp_mvA (u:=.bool b) za (hK' _ _ ?_);clear hK';refine jR za ?_ _;simp only[Act.put,uAx];cases o with
  | none=>
   obtain rfl:false=b:=hbo;refine NoPanic.normal ?_;go_wp2_with fail;have O:=obD (q:=none) hK;exact marks_panic1 hK ⟨RR.ob O (by omega),hM2.ob O ju,by rw[<-hR0];exact hj3.ob O (by omega) (by omega),by rw[<-hR0];rfl⟩
  | some d=>
   obtain rfl:true=b:=hbo;refine NoPanic.normal ?_;obtain⟨⟨va1,vc1,q1,q2⟩,hv,q4,q5⟩:=hb4 d rfl;obtain⟨hlv,hlh,hih⟩:=hb' d rfl;clear hb4 hb';have q50:=q5 h hH;have c30:=B11'.c 30 _ q4;have c1:=B11'.c 1 _ q1;have hX4:h+3<=X4.heap.size:=by have:=RR.size;omega
   go_upto_region 9 with(go_at_call 134;refine(use_g (m:=⟨h,.slice ca cn cc,.slice va vn vc,.slice sa sn sc,.slice ga gn gc⟩) hM2 hj3 hX4 q50 hih hSI hlh).mono ?_;rintro e w5 ⟨rfl,R5,M5,J5⟩);replace B11':=R5.bk B11' (by omega);replace B8:=R5.bk B8 (by omega);replace hK:=(R5.block D hDl (by omega)).trans hK;replace hDl:=Nat.lt_of_lt_of_le hDl R5.size;replace RR:=RR.trans R5;have hg12:g11<w5.heap.size:=B11'.lt;have hX5:h+3<=w5.heap.size:=by have:=RR.size;omega
   clear c30 q50 q5 hM2 hj3 c1;have c1:=B11'.c 1 _ q1;by_cases hkl:k<d.vals.length
   ·obtain⟨z,hz⟩:∃z,d.vals[k]? =some z:=⟨d.vals[k],List.getElem?_eq_getElem hkl⟩;have hle':¬((d.vals.length:Int)<=(k:Int)):=by omega
    obtain⟨gv,rfl,hgv,hq⟩:=q2 (λe=>by rw[e]at hkl;simp at hkl);obtain⟨s2,a2,n2,c2,t1,t2,t3⟩:=hq k z hz;replace t1:=R5.cell t1 (.inl (Nat.lt_of_lt_of_le hgv hH));replace t2:=R5.cell t2 (.inl (Nat.lt_of_lt_of_le hgv hH));replace t3:=IsI.gstb _ _ _ _ _ R5.gr t3
    have hR1:R0=(.ok ⟨z,z,true⟩,(s.1++ [fx.data.toList],s.2++d.hyps)):=by
     rw[<-hR0,Int.toNat_natCast,hz]
    clear hR0 hq q2;go_upto_region 11 with fail;clear c1;refine rgs 6 (dR 56 6) [IsP g11 1,IsV (.slice (some ⟨gv,0,none⟩) d.vals.length vc1),iV (k:Int),IsP gv (2*k),IsI 128 z,IsKn 128 z z true] [] ?_ ?_
    ·refine Rc (fa (fa_En1' g11) (qB 11)) ?_;refine Rc (lvC 1 B11' ld_aI (qA 0 56) q1) ?_;refine Rc yj ?_;refine Rc (ixq (u:=.int .i64 (k:Int)) (ix_In gv vc1 d.vals.length k hkl) (qA 1 57) (qA 2 58)) ?_;refine Rc (lv (fP:=IsI 128 z) _ (λw' e=>qF w' gv (2*k) s2 a2 n2 c2 (e.cell t1) (e.cell t2)) (qA 3 59) (λw' e=>t3.ext e)) ?_;refine Rc (cl1 (en func109) (qA (fP:=IsI 128 z) 4 60) (λx0 w' hE d0=>exact_f d0)) ?_;exact rn0
    intro v X6 e6 hZ _;obtain⟨s5,a5,n5,c5,s6,a6,n6,c6,hv,g1,g2⟩:=hZ 5 dcx;obtain⟨fq,hfq⟩:∃f,true=f:=⟨_,rfl⟩;simp only[lxE,Nat.reduceAdd];rw[hv,hfq];replace B8:=B8.ext e6;replace M5:=M5.ext e6;replace J5:=(JG.inv SS SI h).ext J5 e6 hX5;replace RR:=RR.trans (Rm.ext e6);replace hK:=(e6.block D hDl).trans hK;replace hDl:=Nat.lt_of_lt_of_le hDl e6.size;clear hv hZ e6 q1 t1 t2 t3;refine stL (λK hK'=>?_);refine qZ (us:= [.bool s5,.slice a5 n5 c5,.bool s6,.slice a6 n6 c6,.bool fq]) B8 xP rfl rfl nw5 (λX9 B9 O=>hK' _ _ ?_);have O':=Ob.only O;replace g1:=IsI.gstb _ _ _ _ _ O.gr g1;replace g2:=IsI.gstb _ _ _ _ _ O.gr g2;replace M5:=M5.ob O' ju;replace J5:=J5.ob O' (by omega) (by omega);replace RR:=RR.ob O' (by omega);replace hK:=(O.block D (by omega)).trans hK;refine jL ?_;clear hK' K O O';go_wp2_with fail;have O:=obD (q:=none) hK;replace B9:=O.bk B9 (by omega);have d0:=B9.c 0 _ rfl;have d1:=B9.c 1 _ rfl;have d2:=B9.c 2 _ rfl;have d3:=B9.c 3 _ rfl;have d4:=B9.c 4 _ rfl;exact marks_ret1 hK (v:=.agg #[.bool s5,.slice a5 n5 c5,.bool s6,.slice a6 n6 c6,.bool fq]) (by simp[results,results112,go_sem,d0,d1,d2,d3,d4]) ⟨RR.ob O (by omega),M5.ob O ju,J5.ob O (by omega) (by omega),⟨_,rfl,_,_,_,_,_,_,_,_,by rw[<-hfq],IsI.gstb _ _ _ _ _ O.gr g1,IsI.gstb _ _ _ _ _ O.gr g2⟩⟩
   ·have hle':((d.vals.length:Int)<=(k:Int)):=by omega
    have hR1:R0=(.error 6,(s.1++ [fx.data.toList],s.2++d.hyps)):=by
     rw[<-hR0,Int.toNat_natCast,List.getElem?_eq_none (by omega)]
    clear hR0 q2;go_wp2_with fail;have O:=obD (q:=none) hK;exact marks_panic1 hK ⟨RR.ob O (by omega),M5.ob O ju,J5.ob O (by omega) (by omega),rfl⟩
end
section
open Go Go.RowKit Go.Maps
set_option maxRecDepth 100000
set_option maxHeartbeats 8000000
def IsOutG(res:Res Kn)(left:Nat)(rd:List (List UInt8))(hy:List Int):Value->World->Prop:=λx w=>∃(vl:List Value) (ha:Option Addr) (hn hc:Nat) (ra:Option Addr) (rn rc:Nat),x=.agg (vl++ [Value.slice ra rn rc,Value.int .i64 (left:Int)]).toArray/\vl.length=11/\vl.all (λu=>u.oneCell')=true/\(∀v∈vl,NoWord v)/\
 IsVl res (.slice ha hn hc) (.agg vl.toArray) w/\IsRw 0 (zsV hy) (.slice ha hn hc) w/\IsRw 0 (ksV rd) (.slice ra rn rc) w
def EvG(SS:List (List UInt8))(SI:List Int)(w:World)(us:List Value)(ca va sa ga:Option Addr)(cn cc vn vc sn sc gn gc s0:Nat)(res:Res Kn)(left:Nat)(rd:List (List UInt8))(hy:List Int):Prop:=
 ∀ (h:Nat) (w':World),w.heap.size<=h->Ext w w'->MAt ⟨h,.slice ca cn cc,.slice va vn vc,.slice sa sn sc,.slice ga gn gc⟩ s0 w'->JG SS SI h ([], []) w'->h+3<=w'.heap.size->
  Calls Tryz.prog 84 #[.pointer (some ⟨h+2,0,none⟩),.agg us.toArray,.slice none 0 0] w' (EvP ⟨h,.slice ca cn cc,.slice va vn vc,.slice sa sn sc,.slice ga gn gc⟩ (JG SS SI h) w' (res,(left,(rd,hy))))
theorem EvG.ext{SS:List (List UInt8)}{SI:List Int}{w w1:World}{us:List Value}{ca va sa ga:Option Addr}{cn cc vn vc sn sc gn gc s0:Nat}{res:Res Kn}{left:Nat}{rd:List (List UInt8)}{hy:List Int}(H:EvG SS SI w us ca va sa ga cn cc vn vc sn sc gn gc s0 res left rd hy)(e:Ext w w1):EvG SS SI w1 us ca va sa ga cn cc vn vc sn sc gn gc s0 res left rd hy:=
 λh w' h1 h2 h3 h4 h5=>H h w' (jQ e.size h1) (e.trans h2) h3 h4 h5
theorem run_g{w:World}{us:List Value}{ca va sa ga:Option Addr}{cn cc vn vc sn sc gn gc s0:Nat}{res:Res Kn}{left:Nat}{SS:List (List UInt8)}{SI:List Int}{rd:List (List UInt8)}{hy:List Int}(hl:us.length=8)(hs:s0<=100000)(hSS:SS.length<=1000000)(hSI:SI.length<=1000000)(HC:EvG SS SI w us ca va sa ga cn cc vn vc sn sc gn gc s0 res left rd hy):
  Calls Tryz.prog 16 #[.agg us.toArray,.slice ca cn cc,.slice va vn vc,.agg #[.slice sa sn sc],.slice ga gn gc,.int .i64 (s0:Int)] w (Ret w (IsOutG res left rd hy)):=by
 have HC:=hid HC;have hl0:=hl;obtain⟨u0,u1,u2,u3,u4,u5,u6,u7,rfl⟩:=len8 hl;clear hl
 obtain⟨W,hW,E,B6,B9,B12⟩:∃W,W=((w.alloc (.cells #[u0,u1,u2,u3,u4,u5,u6,u7] 31)).alloc (.cells #[.slice sa sn sc] 39)).alloc (.cells #[.bool false,.slice none 0 0,.bool false,.slice none 0 0,.bool false,.slice none 0 0,.bool false,.slice none 0 0,.bool false,.slice none 0 0,.int .i64 0,.slice none 0 0,.int .i64 0] 53)/\Ext w W/\Bk W w.heap.size [u0,u1,u2,u3,u4,u5,u6,u7]/\Bk W (w.heap.size+1) [.slice sa sn sc]/\Bk W (w.heap.size+2) zOut:=
  ⟨_,rfl,(((Ext.refl w).alloc _).alloc _).alloc _,(Bk.new w _ _).ext (((Ext.refl _).alloc _).alloc _),(Bk.newE _ _ (by simp) _ _).ext ((Ext.refl _).alloc _),Bk.newE _ _ (by simp) _ _⟩
 go_enter Tryz.func16,Tryz.ntmps16;go_upto_region 1 with fail;rw[<-hW];clear hW;refine rgs 6 (dR 17 6) [IsV (.agg #[u0,u1,u2,u3,u4,u5,u6,u7]),IsV (.slice ca cn cc),IsV (.slice va vn vc),IsV (.agg #[.slice sa sn sc]),IsV (.slice ga gn gc),iV (s0:Int)] [] ?_ ?_
 ·refine Rc (lvV B6 xN (qB 6)) ?_;refine Rc xb ?_;refine Rc yj ?_;refine Rc (lvV B9 ld_Sh (qB 9)) ?_;refine Rc (mv (qB 4)) ?_;refine Rc (mv (qB 5)) ?_;exact rn0
 intro v X1 e1 hZ _;replace E:=E.trans e1;replace B12:=B12.ext e1;simp only[lxE,Nat.reduceAdd];rw[show v 0=.agg #[u0,u1,u2,u3,u4,u5,u6,u7]from hZ 0 dcx,show v 1=.slice ca cn cc from hZ 1 dcx,show v 2=.slice va vn vc from hZ 2 dcx,show v 3=.agg #[.slice sa sn sc]from hZ 3 dcx,show v 4=.slice ga gn gc from hZ 4 dcx,show v 5=.int .i64 (s0:Int)from hZ 5 dcx];clear hZ e1 B6 B9;refine stL (λK hK=>?_);refine xB (us:= [.agg #[u0,u1,u2,u3,u4,u5,u6,u7],.slice ca cn cc,.slice va vn vc,.agg #[.slice sa sn sc],.slice ga gn gc,.int .i64 (s0:Int)]) (en Tryz.func48) za (Eval_g (SS:=SS) (SI:=SI) (us:= [u0,u1,u2,u3,u4,u5,u6,u7]) hl0 hs hSS hSI (hid (HC.out.ext E))) (λv2 X2 h=>hK _ _ ?_) (λch X2 h=>by{obtain⟨_,_,_,_,hx,_⟩:=h;cases hx}) (λX2 h=>by{obtain⟨_,_,_,_,hx,_⟩:=h;cases hx});obtain⟨e1,vv,rv,hv,hx,hvl,hri,hrs⟩:=h;have hX1:=B12.lt;cases hx;obtain⟨ha,hn,hc,rfl⟩:=hri.shape;obtain⟨ra,rn,rc,rfl⟩:=hrs.shape;obtain⟨vl,rfl,hvn,hone,hnw⟩:=hvl.list;have hvn0:=hvn;replace E:=E.trans e1;replace B12:=B12.ext e1;clear hK K e1;have hW2:=B12.lt;obtain⟨l0,l1,l2,l3,l4,l5,l6,l7,l8,l9,l10,rfl⟩:=len11 hvn;clear hvn
 go_simp
 refine jX λK hK=>?_;go_simp;refine hK _ _ ?_;clear hK K
 refine jX λK hK=>?_;go_simp;refine hK _ _ ?_;clear hK K
 refine jX λK hK=>?_;go_simp;refine hK _ _ ?_;clear hK K
 refine jX λK hK=>?_;go_simp;refine hK _ _ ?_;clear hK K
 refine stL (λK hK=>?_);refine xF (vs:=zVl) al_Vl (λB13 e1=>hK _ _ ?_);replace E:=E.trans e1;replace B12:=B12.ext e1;obtain⟨g13,hg13⟩:∃g,X2.heap.size=g:=⟨_,rfl⟩;rw[hg13]at B13 hW2 ⊢;generalize X2.alloc (.cells zVl.toArray 50)=X3 at E B12 e1 B13 ⊢;clear hK K
 go_simp
 refine stL (λK hK=>?_);refine qZ (us:= [l0,l1,l2,l3,l4,l5,l6,l7,l8,l9,l10]) B13 st_Vl rfl rfl nwZ (λX4 B14 O=>hK _ _ ?_) (ho1:=hone);replace B12:=O.bk B12 (by omega);replace E:=O.ext E (by omega);have e2:=O.ext e1 (by omega);replace hvl:=IsVl.stb _ _ _ _ _ e2 hvl;replace hri:=hri.ext e2;replace hrs:=hrs.ext e2;clear hK K O e1 e2 B13;refine jX λK hK=>?_;go_simp;refine hK _ _ ?_;clear hK K
 refine jX λK hK=>?_;go_simp;refine hK _ _ ?_;clear hK K
 refine jL ?_;go_upto_region 2 with fail;refine rgs 4 (dR 27 4) [IsV (.agg #[l0,l1,l2,l3,l4,l5,l6,l7,l8,l9,l10]),IsV (.slice ra rn rc),iV (left:Int),IsV (.agg #[l0,l1,l2,l3,l4,l5,l6,l7,l8,l9,l10,.slice ra rn rc,.int .i64 (left:Int)])] [] ?_ ?_
 ·refine Rc (lvV B14 ld_Vl (qB 13)) ?_;refine Rc (mv (qB 14)) ?_;refine Rc (mv (qB 15)) ?_
  refine Rc (Ok.of za λv a w2 hE hd hf=>by
   have e1:a.eval (.tmp 27)=_:=(qA (fP:=IsV (.agg #[l0,l1,l2,l3,l4,l5,l6,l7,l8,l9,l10])) 0 27:Od _ _ _ _ _ _ _ _).out v a w2 hE hd hf;have e2:a.eval (.tmp 28)=_:=(qA (fP:=IsV (.slice ra rn rc)) 1 28:Od _ _ _ _ _ _ _ _).out v a w2 hE hd hf;have e3:a.eval (.tmp 29)=_:=(qA (fP:=iV (left:Int)) 2 29:Od _ _ _ _ _ _ _ _).out v a w2 hE hd hf;have hr:(Instr.build 53 #[(0,.agg #[l0,l1,l2,l3,l4,l5,l6,l7,l8,l9,l10]),(1,.slice ra rn rc),(2,.int .i64 (left:Int))]).run Tryz.prog w2=.ok (.agg #[l0,l1,l2,l3,l4,l5,l6,l7,l8,l9,l10,.slice ra rn rc,.int .i64 (left:Int)]) w2:=ja
   exact⟨_,bdG rfl (by simp only[List.map_toArray,List.map_cons,List.map_nil];rw[e1,e2,e3];exact hr),rfl⟩) ?_
  exact rn0
 intro v X5 e1 hZ _;replace E:=E.trans e1;replace B12:=B12.ext e1;replace hvl:=IsVl.stb _ _ _ _ _ e1 hvl;replace hri:=hri.ext e1;replace hrs:=hrs.ext e1;simp only[lxE,Nat.reduceAdd];rw[show v 3=.agg #[l0,l1,l2,l3,l4,l5,l6,l7,l8,l9,l10,.slice ra rn rc,.int .i64 (left:Int)]from hZ 3 dcx];clear hZ e1 B14;refine stL (λK hK=>?_)
 have hone2: [l0,l1,l2,l3,l4,l5,l6,l7,l8,l9,l10,Value.slice ra rn rc,.int .i64 (left:Int)].all (λu=>u.oneCell')=true:=by
  rw[show [l0,l1,l2,l3,l4,l5,l6,l7,l8,l9,l10,Value.slice ra rn rc,.int .i64 (left:Int)]= [l0,l1,l2,l3,l4,l5,l6,l7,l8,l9,l10]++ [Value.slice ra rn rc,.int .i64 (left:Int)]from rfl,List.all_append,hone];rfl
 refine qZ (us:= [l0,l1,l2,l3,l4,l5,l6,l7,l8,l9,l10,.slice ra rn rc,.int .i64 (left:Int)]) B12 st_Out rfl rfl nwOut (λX6 B9 O=>hK _ _ ?_) (ho1:=hone2);replace E:=O.ext E (by omega);have hvl6:=IsVl.gstb _ _ _ _ _ O.gr hvl;have hri6:=(hri.ob (Ob.only O) hX1).mono (Nat.zero_le _);have hrs6:=(hrs.ob (Ob.only O) hX1).mono (Nat.zero_le _);refine jL ?_;have d0:=B9.c 0 _ rfl;have d1:=B9.c 1 _ rfl;have d2:=B9.c 2 _ rfl;have d3:=B9.c 3 _ rfl;have d4:=B9.c 4 _ rfl;have d5:=B9.c 5 _ rfl;have d6:=B9.c 6 _ rfl;have d7:=B9.c 7 _ rfl;have d8:=B9.c 8 _ rfl;have d9:=B9.c 9 _ rfl;have d10:=B9.c 10 _ rfl;have d11:=B9.c 11 _ rfl;have d12:=B9.c 12 _ rfl;clear hK K O B9;go_wp2_with fail;exact jK (v:=.agg #[l0,l1,l2,l3,l4,l5,l6,l7,l8,l9,l10,.slice ra rn rc,.int .i64 (left:Int)]) (by simp[results,Tryz.results16,go_sem,d0,d1,d2,d3,d4,d5,d6,d7,d8,d9,d10,d11,d12]) rfl ⟨_,rfl,E, [l0,l1,l2,l3,l4,l5,l6,l7,l8,l9,l10],ha,hn,hc,ra,rn,rc,rfl,rfl,hone,hnw,hvl6,hri6,hrs6⟩
end
section
open Go Go.RowKit Go.Maps Go.Shelf
theorem bestH_mem{hy:List Value->List Int}{gs:List Int}{L:List (List Value)}{x:ByteArray}{vs:List Value}(h:xY hy gs L x=some vs):vs∈L:=by
 unfold xY at h;obtain⟨M,hM⟩:∃M,(L.filter (λvs=>decide (xH vs=x))).filter (λvs=> !(hy vs).any (λh=> !gs.any (λy=>decide (y=h))))=M:=⟨_,rfl⟩;rw[hM]at h;have hs:∀v∈M,v∈L:=λv hv=>by rw[<-hM]at hv;exact(List.mem_filter.1 (List.mem_filter.1 hv).1).1
 cases M with
 |nil=>simp[bestL]at h
 | cons hd t=>
  simp only[bestL,Option.some.injEq]at h;rw[<-h];rcases minL_mem (λvs=>(hy vs).length) t hd with e|e
  ·rw[e];exact hs _ List.mem_cons_self
  ·exact hs _ (List.mem_cons_of_mem _ e)
structure ShpM (cs:List qJ) (L:List (List Value)) (dat:List Value->EnD) (gs:List Int) (c v s g:Value) (w:World):Prop where
 tm:TabM w
 cr:CsR w.heap.size cs c w
 vr:VsR w.heap.size cs v w
 sr:HdS L s w
 gr:IrR gs g w
 ent:∀vs∈L,EntAt w.heap.size (dat vs) (vs.take 31) w
 hy:∀vs∈L,∃u,vs[30]? =some u/\IrR (dat vs).hyps u w
structure ShpMOk (SI:List Int) (cs:List qJ) (L:List (List Value)) (dat:List Value->EnD) (gs:List Int):Prop where
 cl:cs.length<=1000000
 ck:∀c∈cs,c.hyps.length<=1000000/\∀y∈c.hyps,y∈SI/\(Lit.int .i64 y).wf=true
 ll:L.length<=1000000
 lk:∀vs∈L,HdOk vs
 ln:∀vs∈L,vs[0]? =some (.string (xH vs))
 gl:gs.length<=1000000
 dk:∀vs∈L,(dat vs).vals.length<=1000000/\(dat vs).hyps.length<=1000000/\∀z∈(dat vs).hyps,z∈SI/\(Lit.int .i64 z).wf=true
def bsG(L:List (List Value))(dat:List Value->EnD)(gs:List Int)(y:List UInt8):Option EnD:=(xY (λvs=>(dat vs).hyps) gs L ⟨y.toArray⟩).map dat
theorem bsG_at(L:List (List Value))(dat:List Value->EnD)(gs:List Int)(x:ByteArray):bsG L dat gs x.data.toList=(xY (λvs=>(dat vs).hyps) gs L x).map dat:=by simp[bsG]
theorem bestE{cs:List qJ}{L:List (List Value)}{dat:List Value->EnD}{gs SI:List Int}{c v s g:Value}{w0 w':World}(S:ShpM cs L dat gs c v s g w0)(K:ShpMOk SI cs L dat gs)(E:Ext w0 w')(x:ByteArray):
  Calls Tryz.prog 137 #[.agg #[s],.string x,g] w' (Ret w' (IsT2 (IsBd w0.heap.size (bsG L dat gs x.data.toList)) (IsV (.bool (bsG L dat gs x.data.toList).isSome)))):=by
 refine(best_g (L:=L) (hy:=λvs=>(dat vs).hyps) K.ll K.lk K.ln (S.sr.ext E) (λvs hvs=>?_) (S.gr.ext E) K.gl).mono ?_
 ·obtain⟨u,h1,h2⟩:=S.hy vs hvs;exact⟨u,h1,h2.ext E,(K.dk vs hvs).2.1⟩
 ·rintro e w2 ⟨y,rfl,e2,a,b,rfl,⟨es,h1,h2,h3,h4,h5⟩,hb⟩;refine⟨_,rfl,e2,a,b,rfl,⟨es,h1,h2,h3,h4,λd hd=>?_⟩,?_⟩
  ·rw[bsG_at]at hd;obtain⟨vs,hv1,rfl⟩:=Option.map_eq_some_iff.1 hd;rw[h5 vs hv1];exact(S.ent vs (bestH_mem hv1)).rm (Rm.ext (h:=w0.heap.size) (E.trans e2)) (jP _)
  ·rw[bsG_at,Option.isSome_map];exact hb
theorem evG_f{w0:World}{us:List Value}{ca va sa ga:Option Addr}{cn cc vn vc sn sc gn gc s0:Nat}{cs:List qJ}{L:List (List Value)}{dat:List Value->EnD}{gs SI:List Int}{SS:List (List UInt8)}{e:Ex}
  (S:ShpM cs L dat gs (.slice ca cn cc) (.slice va vn vc) (.slice sa sn sc) (.slice ga gn gc) w0) (K:ShpMOk SI cs L dat gs) (hSS:SS.length<maxLen) (hSI:SI.length<maxLen)
  (hw:wfE (λ_=>True) (VG SS flG) e []) (hn:IsNd w0.heap.size e us w0):
  EvG SS SI w0 us ca va sa ga cn cc vn vc sn sc gn gc s0 (ev (qX cs (bsG L dat gs) flG) e [] (s0,([], []))).1 (ev (qX cs (bsG L dat gs) flG) e [] (s0,([], []))).2.1 (ev (qX cs (bsG L dat gs) flG) e [] (s0,([], []))).2.2.1 (ev (qX cs (bsG L dat gs) flG) e [] (s0,([], []))).2.2.2:=by
 intro h w' hh E hM hj hs
 have hbk:∀y d,bsG L dat gs y=some d->d.vals.length<=1000000/\d.hyps.length<=1000000/\∀z∈d.hyps,z∈SI/\(Lit.int .i64 z).wf=true:=λy d hd=>by
  obtain⟨vs,hv1,rfl⟩:=Option.map_eq_some_iff.1 hd;exact K.dk vs (bestH_mem hv1)
 refine(eval_f (qX cs (bsG L dat gs) flG) ⟨h,.slice ca cn cc,.slice va vn vc,.slice sa sn sc,.slice ga gn gc⟩ (λs w=>JG SS SI h s w/\Ext w0 w) ?_ (λ_=>True) (VG SS flG) ?_ ?_ e [] us (.slice none 0 0) (s0,([], [])) w' hw ?_ (IsEnv.nil _ _) hM ⟨hj,E⟩ hs).mono ?_
 ·rintro s w1 w2 ⟨j,e1⟩ b k1 k2;exact⟨j.blk k1 k2,Below.trans e1 (b.mono hh)⟩
 ·rintro x ⟨l,s⟩ w1-m1 ⟨j1,e1⟩ hs1;refine(cell_g (H:=w0.heap.size) hh (S.cr.rm (Rm.ext (h:=w0.heap.size) e1) (jP _)) (S.vr.rm (Rm.ext (h:=w0.heap.size) e1) (jP _)) K.cl K.ck hSI hs1 m1 j1).mono ?_;rintro e w2 ⟨r1,r2,r3,r4⟩;exact⟨r1,r2,⟨r3,r1.extAll e1 hh⟩,r4⟩
 ·rintro x n env ve ⟨l,s⟩ w1 hV hE m1 ⟨j1,e1⟩ hs1;obtain⟨v1,v2,v3,v4⟩:=hV;obtain⟨k,rfl⟩:=Int.eq_ofNat_of_zero_le v1;refine(value_g (H:=w0.heap.size) (k:=k) (bst:=bsG L dat gs) hh (S.tm.ext e1) hE v4 (by omega) v3 hSS hSI hbk hs1 m1 j1 (hid λw9 r9=>bestE S K (r9.extAll e1 hh) _)).mono ?_;rintro e w2 ⟨r1,r2,r3,r4⟩;exact⟨r1,r2,⟨r3,r1.extAll e1 hh⟩,r4⟩
 ·exact(hn.rm (Rm.ext (h:=w0.heap.size) E)).up hh
 ·rintro e w2 ⟨r1,r2,⟨r3,-⟩,r4⟩;exact⟨r1,r2,r3,r4⟩
end
section
open Go Go.RowKit Go.Maps Go.Shelf
def evR(cs:List qJ)(L:List (List Value))(dat:List Value->EnD)(gs:List Int)(e:Ex)(s0:Nat):Res Kn×Mst Lg:=ev (qX cs (bsG L dat gs) flG) e [] (s0,([], []))
theorem wfE_T{e:Ex}(h:wfT 4 [] e):wfE (λ_=>True) (VG (xA flG e []) flG) e []:=
 wfE_of 4 [] e [] h rfl dcx (λ_ hp=>absurd hp List.not_mem_nil) (λ_ h=>h)
theorem run_T{w:World}{us:List Value}{ca va sa ga:Option Addr}{cn cc vn vc sn sc gn gc s0:Nat}{cs:List qJ}{L:List (List Value)}{dat:List Value->EnD}{gs SI:List Int}{e:Ex}
  (S:ShpM cs L dat gs (.slice ca cn cc) (.slice va vn vc) (.slice sa sn sc) (.slice ga gn gc) w) (K:ShpMOk SI cs L dat gs) (hSI:SI.length<=1000000) (hs:s0<=100000) (hT:wfT 4 [] e) (hn:IsNd w.heap.size e us w):
  Calls Tryz.prog 16 #[.agg us.toArray,.slice ca cn cc,.slice va vn vc,.agg #[.slice sa sn sc],.slice ga gn gc,.int .i64 (s0:Int)] w (Ret w (IsOutG (evR cs L dat gs e s0).1 (evR cs L dat gs e s0).2.1 (evR cs L dat gs e s0).2.2.1 (evR cs L dat gs e s0).2.2.2)):=by
 have hl:(xA flG e []).length<=2401:=namesE_len flG 4 [] e [] hT;exact run_g hn.len hs (jQ hl dcx) hSI (evG_f S K yl yl (wfE_T hT) hn)
end
section
open Go Go.RowKit Go.Maps Go.Shelf
def IsOutX(res:Res Kn)(left:Nat)(rs hs:List Value):Value->World->Prop:=λx w=>∃(vl:List Value) (ha:Option Addr) (hn hc:Nat) (ra:Option Addr) (rn rc:Nat),x=.agg (vl++ [Value.slice ra rn rc,Value.int .i64 (left:Int)]).toArray/\vl.length=11/\vl.all (λu=>u.oneCell')=true/\(∀v∈vl,NoWord v)/\
 IsVl res (.slice ha hn hc) (.agg vl.toArray) w/\IsRw 0 hs (.slice ha hn hc) w/\IsRw 0 rs (.slice ra rn rc) w
theorem IsOutX.stb(res:Res Kn)(left:Nat)(rs hs:List Value):Stb (IsOutX res left rs hs):=λ_ _ _ e ⟨vl,ha,hn,hc,ra,rn,rc,h1,h2,h3,h4,h5,h6,h7⟩=>⟨vl,ha,hn,hc,ra,rn,rc,h1,h2,h3,h4,IsVl.stb _ _ _ _ _ e h5,h6.ext e,h7.ext e⟩
instance (res:Res Kn) (left:Nat) (rs hs:List Value):StbC (IsOutX res left rs hs):=⟨IsOutX.stb res left rs hs⟩
def NoB(xs:List Value):Prop:=∀u∈xs,∀b,u≠ .bool b
theorem noB_k(l:List (List UInt8)):NoB (ksV l):=λu hu b e=>by
 obtain⟨x,-,rfl⟩:=List.mem_map.1 hu;cases e
theorem noB_z(l:List Int):NoB (zsV l):=λu hu b e=>by
 obtain⟨x,-,rfl⟩:=List.mem_map.1 hu;cases e
theorem IsRw.out{B g:Nat}{xs:List Value}{v:Value}{w w':World}(h:IsRw B xs v w)(Bn:Bk w g zOut)(O:OnlyB g w w')(hx:NoB xs):IsRw B xs v w':=by
 obtain⟨ao,c,h1,h2⟩:=h;refine⟨ao,c,h1,λhn=>?_⟩;obtain⟨g',k1,k2,k3⟩:=h2 hn;refine⟨g',k1,k2,λj u hj=>(World.cell?_of_block (w:=w) (a:=⟨g',j,none⟩) (O.block g' λe=>?_)).trans (k3 j u hj)⟩;cases xs with
 |nil=>exact hn rfl
 | cons x t=>
  have h0:=k3 0 x rfl;rw[e,Bn.c 0 _ rfl]at h0;exact hx x List.mem_cons_self false (Option.some.inj h0).symm
structure OutX (res:Res Kn) (left:Nat) (rs hs:List Value) (g:Nat) (W:World):Prop where
 vl:∃(vl:List Value) (ha:Option Addr) (hn hc:Nat),vl.length=11/\(∀j v,vl[j]? =some v->World.cell? W ⟨g,j,none⟩=some v)/\IsVl res (.slice ha hn hc) (.agg vl.toArray) W/\IsRw 0 hs (.slice ha hn hc) W
 rd:∃(ra:Option Addr) (rn rc:Nat),World.cell? W ⟨g,11,none⟩=some (.slice ra rn rc)/\IsRw 0 rs (.slice ra rn rc) W
 left:World.cell? W ⟨g,12,none⟩=some (.int .i64 (left:Int))
theorem OutX.ext{res:Res Kn}{left:Nat}{rs hs:List Value}{g:Nat}{W W':World}(h:OutX res left rs hs g W)(e:Ext W W'):OutX res left rs hs g W':=by
 obtain⟨⟨vl,ha,hn,hc,h1,h2,h3,h4⟩,⟨ra,rn,rc,h5,h6⟩,h7⟩:=h;exact⟨⟨vl,ha,hn,hc,h1,λj v hj=>e.cell (h2 j v hj),IsVl.stb _ _ _ _ _ e h3,h4.ext e⟩,⟨ra,rn,rc,e.cell h5,h6.ext e⟩,e.cell h7⟩
def IsVh(res:Res Kn)(hs:List Value):Value->World->Prop:=λx w=>∃a n c,IsVl res (.slice a n c) x w/\IsRw 0 hs (.slice a n c) w
theorem IsVh.stb(res:Res Kn)(hs:List Value):Stb (IsVh res hs):=λ_ _ _ e ⟨a,n,c,h,k⟩=>⟨a,n,c,IsVl.stb _ _ _ _ _ e h,k.ext e⟩
instance (res:Res Kn) (hs:List Value):StbC (IsVh res hs):=⟨IsVh.stb res hs⟩
set_option maxRecDepth 100000
theorem ld_VlO{w:World}{g:Nat}{vs:List Value}(hl:vs.length=11)(hc:∀j v,vs[j]? =some v->World.cell? w ⟨g,j,none⟩=some v):(Instr.loadAt 50 (.pointer (some ⟨g,0,none⟩))).run Tryz.prog w=.ok (.agg vs.toArray) w:=by
 obtain⟨v0,v1,v2,v3,v4,v5,v6,v7,v8,v9,v10,rfl⟩:=len11 hl;have c0:=hc 0 _ rfl;have c1:=hc 1 _ rfl;have c2:=hc 2 _ rfl;have c3:=hc 3 _ rfl;have c4:=hc 4 _ rfl;have c5:=hc 5 _ rfl;have c6:=hc 6 _ rfl;have c7:=hc 7 _ rfl;have c8:=hc 8 _ rfl;have c9:=hc 9 _ rfl;have c10:=hc 10 _ rfl;clear hc hl
 go_simp
theorem xO(g:Nat)(w:World):(Instr.fieldAt 53 (.pointer (some ⟨g,0,none⟩)) 0).run Tryz.prog w=.ok (.pointer (some ⟨g,0,none⟩)) w:=by go_simp
theorem fa_Out1(g:Nat)(w:World):(Instr.fieldAt 53 (.pointer (some ⟨g,0,none⟩)) 1).run Tryz.prog w=.ok (.pointer (some ⟨g,11,none⟩)) w:=by go_simp
theorem fa_Out2(g:Nat)(w:World):(Instr.fieldAt 53 (.pointer (some ⟨g,0,none⟩)) 2).run Tryz.prog w=.ok (.pointer (some ⟨g,12,none⟩)) w:=by go_simp
section
variable {ops:Array Oper} {Q:Exit->Act->World->Prop} {ds:List (Option Tmp)} {a0:Act} {w0:World} {L:List (Value->World->Prop)} {boxes:List Nat} {i k:Nat} {o:Oper} {os:List Oper}
theorem ldVh{res:Res Kn}{left g:Nat}{rs hs:List Value}{x:Operand}(h:OutX res left rs hs g w0)(hx:Od ops ds a0 w0 L i x (IsP g 0))(ho:o.op=.load 50 x:=by rfl)(hi:L.getD i (λ_ _=>True)=IsVh res hs:=by kernel_rfl)(hb:boxes.contains i=false:=by kernel_rfl):Ok Tryz.prog ops Q ds a0 w0 L boxes i o:=by
 obtain⟨⟨vl,ha,hn,hc,h1,h2,h3,h4⟩,_,_⟩:=h;exact lv _ (λw e=>ld_VlO h1 (λj v hj=>e.cell (h2 j v hj))) hx (λw e=>⟨ha,hn,hc,IsVl.stb _ _ _ _ _ e h3,h4.ext e⟩) ho hi hb
theorem ldLeft{res:Res Kn}{left g:Nat}{rs hs:List Value}{x:Operand}(h:OutX res left rs hs g w0)(hx:Od ops ds a0 w0 L i x (IsP g 12))(ho:o.op=.load 3 x:=by rfl)(hi:L.getD i (λ_ _=>True)=iV (left:Int):=by kernel_rfl)(hb:boxes.contains i=false:=by kernel_rfl):Ok Tryz.prog ops Q ds a0 w0 L boxes i o:=
 lv _ (λw e=>xE w _ _ (e.cell h.left)) hx (λ_ _=>rfl) ho hi hb
theorem stOut{W:World}{g:Nat}{res:Res Kn}{left:Nat}{rs hs:List Value}{u:Value}{a:Act}{K:Act->World->Prop}{x y:Operand}(B:Bk W g zOut)(hu:IsOutX res left rs hs u W)(hr:NoB rs)(hh:NoB hs)
  (h:∀W',OutX res left rs hs g W'->OnlyB g W W'->K a W') (ho:o.op=.store 53 x y:=by rfl) (hd:o.dst=none:=by rfl) (hx:a.eval x=.pointer (some ⟨g,0,none⟩):=by kernel_rfl) (hy':a.eval y=u:=by kernel_rfl):Oper.wp Tryz.prog o a W K Q:=by
 obtain⟨vl,ha,hn,hc,ra,rn,rc,rfl,h1,h2,h3,h4,h5,h6⟩:=hu;obtain⟨v0,v1,v2,v3,v4,v5,v6,v7,v8,v9,v10,rfl⟩:=len11 h1
 have hone: [v0,v1,v2,v3,v4,v5,v6,v7,v8,v9,v10,Value.slice ra rn rc,.int .i64 (left:Int)].all (λu=>u.oneCell')=true:=by
  rw[show [v0,v1,v2,v3,v4,v5,v6,v7,v8,v9,v10,Value.slice ra rn rc,.int .i64 (left:Int)]= [v0,v1,v2,v3,v4,v5,v6,v7,v8,v9,v10]++ [Value.slice ra rn rc,.int .i64 (left:Int)]from rfl,List.all_append,h2];rfl
 refine qZ (us:= [v0,v1,v2,v3,v4,v5,v6,v7,v8,v9,v10,.slice ra rn rc,.int .i64 (left:Int)]) B st_Out rfl rfl nwOut (λW' B' O=>h W' ⟨⟨[v0,v1,v2,v3,v4,v5,v6,v7,v8,v9,v10],ha,hn,hc,rfl,λj v hj=>B'.c j v (getE_app _ [Value.slice ra rn rc,.int .i64 (left:Int)] hj),IsVl.gstb _ _ _ _ _ O.gr h4,h5.out B O hh⟩,⟨ra,rn,rc,B'.c 11 _ rfl,h6.out B O hr⟩,B'.c 12 _ rfl⟩ O) ho hd hx hy' hone
end
end
section
open Go Go.RowKit Go.Maps Go.Shelf
open Go.Proofs.Tryz
set_option maxRecDepth 100000
set_option maxHeartbeats 4000000
attribute [local go_sem] Oper.semAt_some
theorem ld_str':LdC1 prog 9:=λw a v h=>by go_simp
theorem ix_rI(ao:Option Addr)(g o c n j:Nat)(ha:ao=some ⟨g,o,none⟩)(h:j<n)(w:World):(Instr.indexAt 41 (.slice ao n c) (.int .i64 (j:Int))).run prog w=.ok (.pointer (some ⟨g,o+j,none⟩)) w:=by
 subst ha;exact ix_Io g o c n j h w
theorem ix_rS(ao:Option Addr)(g c n j:Nat)(ha:ao=some ⟨g,0,none⟩)(h:j<n)(w:World):(Instr.indexAt 51 (.slice ao n c) (.int .i64 (j:Int))).run prog w=.ok (.pointer (some ⟨g,j,none⟩)) w:=by
 subst ha;have h1:(0:Int)<=(j:Int):=by omega
 have h2:(j:Int)<(n:Int):=by omega
 go_simp
theorem sameI_t{w:World}{l:List Int}{a b:Value}(ha:IsRw 0 (l.map (Value.int .i64)) a w)(hb:IsRw 0 (l.map (Value.int .i64)) b w)(hl:l.length<=1000000):Calls prog 44 #[a,b] w (Ret w (IsV (.bool true))):=by
 obtain⟨ao,ca,rfl,h1⟩:=ha;obtain⟨bo,cb,rfl,h2⟩:=hb;rw[List.length_map];obtain⟨n,hn⟩:∃n,l.length=n:=⟨_,rfl⟩;have HN:=hid hn;have HL:=hid hl;have H12:=hid (jO h1 h2);rw[hn];clear h1 h2 hn hl;go_enter func44,ntmps44
 go_wp2
 go_loopg [5] n (λgk v5 wr=>∃i:Nat,v5=.int .i64 (i:Int)/\i+gk=n/\Ext w wr)
 case atStart=>exact⟨0,rfl,by omega,Ext.refl w⟩
 case round=>
  obtain⟨i,rfl,hg,E⟩:=hrel;by_cases hi:i<n
  ·have hil:(i:Int)<(n:Int):=by omega
   have hiw:IntKind.i64.wrap ((i:Int)+1)=((i+1:Nat):Int):=jv
   have hne:l≠ []:=by rintro rfl;have:=HN.out;simp at this;omega
   have hne':l.map (Value.int .i64)≠ []:=by simpa using hne
   obtain⟨g1,ea,-,k1⟩:=H12.out.1 hne';obtain⟨g2,eb,-,k2⟩:=H12.out.2 hne';obtain⟨x,hx⟩:∃x,l[i]? =some x:=zl;have c1:=E.cell (k1 i (.int .i64 x) (by rw[List.getElem?_map,hx];rfl));have c2:=E.cell (k2 i (.int .i64 x) (by rw[List.getElem?_map,hx];rfl));have HI:=hid hi;have HG:=hid hg;clear hi hg k1 k2 hne hne' hx;go_upto_region 6 with fail;refine rg 9 (dR 17 9) [IsV (.slice ao n ca),iV (i:Int),IsP g1 i,iV x,IsV (.slice bo n cb),iV (i:Int),IsP g2 i,iV x,IsV (.bool false)] [] 0 ?_ ?_
   ·refine Rc zv ?_;refine Rc zt ?_;refine Rc (ixq (λw'=>by have:=ix_rI ao g1 0 ca n i ea HI.out w';rwa [Nat.zero_add]at this) (qA 0 17) (qA 1 18)) ?_;refine Rc (lv (fP:=iV x) _ (λw' e=>xE w' _ _ (e.cell c1)) (qA 2 19) (λ_ _=>rfl)) ?_;refine Rc xb ?_;refine Rc zt ?_;refine Rc (ixq (λw'=>by have:=ix_rI bo g2 0 cb n i eb HI.out w';rwa [Nat.zero_add]at this) (qA 4 21) (qA 5 22)) ?_;refine Rc (lv (fP:=iV x) _ (λw' e=>xE w' _ _ (e.cell c2)) (qA 6 23) (λ_ _=>rfl)) ?_;refine Rc (bn (r:=.bool false) (qC 3 20) (qC 7 24) (hr:=λw=>by go_simp)) ?_;exact rn0
   intro v X3 e1 hZ _;simp only[lxE,Nat.reduceAdd];rw[show v 8=.bool false from hZ 8 dcx];clear hZ c1 c2;replace E:=E.trans e1;clear e1;refine jR za ?_ _;go_wp2_with fail
   go_roundg (gk-1)
   case measure=>have:=HG.out;have:=HI.out;omega
   case rel=>exact⟨i+1,rfl,by have:=HG.out;have:=HI.out;omega,E⟩
  ·have hil:¬((i:Int)<(n:Int)):=by omega
   go_wp2
   go_ret
   exact⟨_,rfl,E,rfl⟩
theorem sameS_t{w:World}{l:List (List UInt8)}{a b:Value}(ha:IsRw 0 (l.map encStr) a w)(hb:IsRw 0 (l.map encStr) b w)(hl:l.length<=1000000):Calls prog 24 #[a,b] w (Ret w (IsV (.bool true))):=by
 obtain⟨ao,ca,rfl,h1⟩:=ha;obtain⟨bo,cb,rfl,h2⟩:=hb;rw[List.length_map];obtain⟨n,hn⟩:∃n,l.length=n:=⟨_,rfl⟩;have HN:=hid hn;have HL:=hid hl;have H12:=hid (jO h1 h2);rw[hn];clear h1 h2 hn hl;go_enter func24,ntmps24
 go_wp2
 go_loopg [5] n (λgk v5 wr=>∃i:Nat,v5=.int .i64 (i:Int)/\i+gk=n/\Ext w wr)
 case atStart=>exact⟨0,rfl,by omega,Ext.refl w⟩
 case round=>
  obtain⟨i,rfl,hg,E⟩:=hrel;by_cases hi:i<n
  ·have hil:(i:Int)<(n:Int):=by omega
   have hiw:IntKind.i64.wrap ((i:Int)+1)=((i+1:Nat):Int):=jv
   have hne:l≠ []:=by rintro rfl;have:=HN.out;simp at this;omega
   have hne':l.map encStr≠ []:=by simpa using hne
   obtain⟨g1,ea,-,k1⟩:=H12.out.1 hne';obtain⟨g2,eb,-,k2⟩:=H12.out.2 hne';obtain⟨x0,hx⟩:∃x,l[i]? =some x:=zl;obtain⟨x,hx0⟩:∃x:ByteArray,encStr x0=.string x:=⟨_,rfl⟩;have c1:=E.cell (k1 i (.string x) (by rw[List.getElem?_map,hx,<-hx0];rfl));have c2:=E.cell (k2 i (.string x) (by rw[List.getElem?_map,hx,<-hx0];rfl));have HI:=hid hi;have HG:=hid hg;clear hi hg k1 k2 hne hne' hx hx0;go_upto_region 6 with fail;refine rg 9 (dR 17 9) [IsV (.slice ao n ca),iV (i:Int),IsP g1 i,IsV (.string x),IsV (.slice bo n cb),iV (i:Int),IsP g2 i,IsV (.string x),IsV (.bool false)] [] 0 ?_ ?_
   ·refine Rc zv ?_;refine Rc zt ?_;refine Rc (ixq (ix_rS ao g1 ca n i ea HI.out) (qA 0 17) (qA 1 18)) ?_;refine Rc (lv (fP:=IsV (.string x)) _ (λw' e=>ld_str' w' _ _ (e.cell c1)) (qA 2 19) (λ_ _=>rfl)) ?_;refine Rc xb ?_;refine Rc zt ?_;refine Rc (ixq (ix_rS bo g2 cb n i eb HI.out) (qA 4 21) (qA 5 22)) ?_;refine Rc (lv (fP:=IsV (.string x)) _ (λw' e=>ld_str' w' _ _ (e.cell c2)) (qA 6 23) (λ_ _=>rfl)) ?_;refine Rc (bn (r:=.bool false) (qC 3 20) (qC 7 24) (hr:=λw=>by go_simp)) ?_;exact rn0
   intro v X3 e1 hZ _;simp only[lxE,Nat.reduceAdd];rw[show v 8=.bool false from hZ 8 dcx];clear hZ c1 c2;replace E:=E.trans e1;clear e1;refine jR za ?_ _;go_wp2_with fail
   go_roundg (gk-1)
   case measure=>have:=HG.out;have:=HI.out;omega
   case rel=>exact⟨i+1,rfl,by have:=HG.out;have:=HI.out;omega,E⟩
  ·have hil:¬((i:Int)<(n:Int)):=by omega
   go_wp2
   go_ret
   exact⟨_,rfl,E,rfl⟩
end
section
open Go Go.RowKit Go.Maps Go.Shelf
set_option maxRecDepth 100000
set_option maxHeartbeats 8000000
attribute [local go_sem] Oper.semAt_some
def IsQI(a b:Int):Value->World->Prop:=IsQ (IsI 130 a) (IsI 130 b)
theorem IsQI.stb(a b:Int):Stb (IsQI a b):=IsQ.stb (IsI.stb _ _) (IsI.stb _ _)
instance (a b:Int):StbC (IsQI a b):=⟨IsQI.stb a b⟩
def lqR:Res Kn->Int×Int| .ok q=>((Rat.divInt q.lo 1).num,((Rat.divInt q.lo 1).den:Int))| .error _=>(0,0)
def hqR:Res Kn->Int×Int| .ok q=>((Rat.divInt q.hi 1).num,((Rat.divInt q.hi 1).den:Int))| .error _=>(0,0)
def finR:Res Kn->Bool| .ok q=>q.fin| .error _=>true
def errR:Res Kn->Int| .ok _=>0| .error n=>n
theorem IsQI.nil(w:World):IsQI 0 0 (.agg #[.bool false,.slice none 0 0,.bool false,.slice none 0 0]) w:=⟨_,_,_,_,_,_,_,_,rfl,IsI.nil w _,IsI.nil w _⟩
theorem IsVh.agg{r:Res Kn}{hs:List Value}{x:Value}{w:World}(h:IsVh r hs x w):∃s1 a1 n1 c1 s2 a2 n2 c2 s3 a3 n3 c3 s4 a4 n4 c4 a n c,x=.agg #[.bool s1,.slice a1 n1 c1,.bool s2,.slice a2 n2 c2,.bool s3,.slice a3 n3 c3,.bool s4,.slice a4 n4 c4,.bool (finR r),.slice a n c,.int .i64 (errR r)]/\
  IsQI (lqR r).1 (lqR r).2 (.agg #[.bool s1,.slice a1 n1 c1,.bool s2,.slice a2 n2 c2]) w/\IsQI (hqR r).1 (hqR r).2 (.agg #[.bool s3,.slice a3 n3 c3,.bool s4,.slice a4 n4 c4]) w/\IsRw 0 hs (.slice a n c) w:=by
 obtain⟨a,n,c,h1,h2⟩:=h;cases r with
 | error m=>
  obtain rfl:=h1;exact⟨_,_,_,_,_,_,_,_,_,_,_,_,_,_,_,_,a,n,c,rfl,IsQI.nil w,IsQI.nil w,h2⟩
 | ok q=>
  obtain⟨s1,a1,n1,c1,s2,a2,n2,c2,s3,a3,n3,c3,s4,a4,n4,c4,rfl,k1,k2⟩:=h1;exact⟨s1,a1,n1,c1,s2,a2,n2,c2,s3,a3,n3,c3,s4,a4,n4,c4,a,n,c,rfl,k1,k2,h2⟩
theorem sameV_t{w:World}{r:Res Kn}{hl:List Int}{x y:Value}(hx:IsVh r (hl.map (Value.int .i64)) x w)(hy:IsVh r (hl.map (Value.int .i64)) y w)(hk:hl.length<=1000000):Calls Tryz.prog 23 #[x,y] w (Ret w (IsV (.bool true))):=by
 obtain⟨ps1,pa1,pn1,pc1,ps2,pa2,pn2,pc2,ps3,pa3,pn3,pc3,ps4,pa4,pn4,pc4,pa,pn,pc,rfl,pl,ph,py⟩:=hx.agg;obtain⟨qs1,qa1,qn1,qc1,qs2,qa2,qn2,qc2,qs3,qa3,qn3,qc3,qs4,qa4,qn4,qc4,qa,qn,qc,rfl,ql,qh,qy⟩:=hy.agg;have HK:=hid hk;clear hk;obtain⟨W,hW,E,B2,B3⟩:∃W,W=(w.alloc (.cells #[.bool ps1,.slice pa1 pn1 pc1,.bool ps2,.slice pa2 pn2 pc2,.bool ps3,.slice pa3 pn3 pc3,.bool ps4,.slice pa4 pn4 pc4,.bool (finR r),.slice pa pn pc,.int .i64 (errR r)] 50)).alloc (.cells #[.bool qs1,.slice qa1 qn1 qc1,.bool qs2,.slice qa2 qn2 qc2,.bool qs3,.slice qa3 qn3 qc3,.bool qs4,.slice qa4 qn4 qc4,.bool (finR r),.slice qa qn qc,.int .i64 (errR r)] 50)/\Ext w W/\Bk W w.heap.size [.bool ps1,.slice pa1 pn1 pc1,.bool ps2,.slice pa2 pn2 pc2,.bool ps3,.slice pa3 pn3 pc3,.bool ps4,.slice pa4 pn4 pc4,.bool (finR r),.slice pa pn pc,.int .i64 (errR r)]/\Bk W (w.heap.size+1) [.bool qs1,.slice qa1 qn1 qc1,.bool qs2,.slice qa2 qn2 qc2,.bool qs3,.slice qa3 qn3 qc3,.bool qs4,.slice qa4 qn4 qc4,.bool (finR r),.slice qa qn qc,.int .i64 (errR r)]:=zy;replace pl:=IsQI.stb _ _ _ _ _ E pl;replace ph:=IsQI.stb _ _ _ _ _ E ph;replace ql:=IsQI.stb _ _ _ _ _ E ql;replace qh:=IsQI.stb _ _ _ _ _ E qh;have P1:=hid (py.ext E);have Q1:=hid (qy.ext E);clear py qy;go_enter Tryz.func23,Tryz.ntmps23;go_upto_region 1 with fail;rw[<-hW];clear hW;obtain⟨b,hb⟩:∃b,w.heap.size=b:=⟨_,rfl⟩;rw[hb]at B2 B3 ⊢;refine rgs 38 [some 5,some 6,some 7,some 8,some 9,some 10,some 11,some 12,some 13,some 14,some 15,some 16,some 17,some 18,some 19,some 20,some 21,some 22,some 23,some 24,some 25,some 26,some 27,some 28,some 29,some 30,some 31,some 32,some 33,some 34,some 35,some 36,some 37,some 38,some 39,some 40,some 41,some 4] [IsP b 0,IsP b 0,IsQI (lqR r).1 (lqR r).2,IsP (b+1) 0,IsP (b+1) 0,IsQI (lqR r).1 (lqR r).2,IsV (.bool true),IsV (.bool true),IsP b 0,IsP b 4,IsQI (hqR r).1 (hqR r).2,IsP (b+1) 0,IsP (b+1) 4,IsQI (hqR r).1 (hqR r).2,IsV (.bool true),IsV (.bool true),IsV (.bool true),IsP b 8,IsV (.bool (finR r)),IsP (b+1) 8,IsV (.bool (finR r)),IsV (.bool true),IsV (.bool true),IsV (.bool true),IsP b 9,IsV (.slice pa pn pc),IsP (b+1) 9,IsV (.slice qa qn qc),IsV (.bool true),IsV (.bool true),IsV (.bool true),IsP b 10,iV (errR r),IsP (b+1) 10,iV (errR r),IsV (.bool true),IsV (.bool true),IsV (.bool true)] [] ?_ ?_
 ·refine Rc (fa (fa_Vl0 (b)) (qB (x:=.pointer (some ⟨b,0,none⟩)) 2)) ?_;refine Rc (fa (fa_Iv0 (b) 0) (qA (fP:=IsP b 0) 0 5)) ?_;refine Rc (lv (fP:=IsQI (lqR r).1 (lqR r).2) _ (λw' e=>ld_Rat w' (b) 0 ps1 pa1 pn1 pc1 ps2 pa2 pn2 pc2 ((B2.ext e).c 0 _ rfl) ((B2.ext e).c 1 _ rfl) ((B2.ext e).c 2 _ rfl) ((B2.ext e).c 3 _ rfl)) (qA (fP:=IsP b 0) 1 6) (λw' e=>IsQI.stb _ _ _ _ _ e pl)) ?_;refine Rc (fa (fa_Vl0 (b+1)) (qB (x:=.pointer (some ⟨b+1,0,none⟩)) 3)) ?_;refine Rc (fa (fa_Iv0 (b+1) 0) (qA (fP:=IsP (b+1) 0) 3 8)) ?_;refine Rc (lv (fP:=IsQI (lqR r).1 (lqR r).2) _ (λw' e=>ld_Rat w' (b+1) 0 qs1 qa1 qn1 qc1 qs2 qa2 qn2 qc2 ((B3.ext e).c 0 _ rfl) ((B3.ext e).c 1 _ rfl) ((B3.ext e).c 2 _ rfl) ((B3.ext e).c 3 _ rfl)) (qA (fP:=IsP (b+1) 0) 4 9) (λw' e=>IsQI.stb _ _ _ _ _ e ql)) ?_;refine Rc (cl2 (en Tryz.func19) (qA (fP:=IsQI (lqR r).1 (lqR r).2) 2 7) (qA (fP:=IsQI (lqR r).1 (lqR r).2) 5 10) (λx0 x1 w' hE d0 d1=>by{exact rqSame_t d0 d1 dcx rfl rfl})) ?_;refine Rc (mv (qA (fP:=IsV (.bool true)) 6 11)) ?_;refine RcG 7 12 true (fa (fa_Vl0 (b)) (qB (x:=.pointer (some ⟨b,0,none⟩)) 2)) ?_;refine RcG 7 12 true (fa (fa_Iv1 (b) 0) (qA (fP:=IsP b 0) 8 13)) ?_;refine RcG 7 12 true (lv (fP:=IsQI (hqR r).1 (hqR r).2) _ (λw' e=>ld_Rat w' (b) 4 ps3 pa3 pn3 pc3 ps4 pa4 pn4 pc4 ((B2.ext e).c 4 _ rfl) ((B2.ext e).c 5 _ rfl) ((B2.ext e).c 6 _ rfl) ((B2.ext e).c 7 _ rfl)) (qA (fP:=IsP b 4) 9 14) (λw' e=>IsQI.stb _ _ _ _ _ e ph)) ?_;refine RcG 7 12 true (fa (fa_Vl0 (b+1)) (qB (x:=.pointer (some ⟨b+1,0,none⟩)) 3)) ?_;refine RcG 7 12 true (fa (fa_Iv1 (b+1) 0) (qA (fP:=IsP (b+1) 0) 11 16)) ?_;refine RcG 7 12 true (lv (fP:=IsQI (hqR r).1 (hqR r).2) _ (λw' e=>ld_Rat w' (b+1) 4 qs3 qa3 qn3 qc3 qs4 qa4 qn4 qc4 ((B3.ext e).c 4 _ rfl) ((B3.ext e).c 5 _ rfl) ((B3.ext e).c 6 _ rfl) ((B3.ext e).c 7 _ rfl)) (qA (fP:=IsP (b+1) 4) 12 17) (λw' e=>IsQI.stb _ _ _ _ _ e qh)) ?_;refine RcG 7 12 true (cl2 (en Tryz.func19) (qA (fP:=IsQI (hqR r).1 (hqR r).2) 10 15) (qA (fP:=IsQI (hqR r).1 (hqR r).2) 13 18) (λx0 x1 w' hE d0 d1=>by{exact rqSame_t d0 d1 dcx rfl rfl})) ?_;refine Rc (pk (qC 7 12) (qA (fP:=IsV (.bool true)) 14 19)) ?_;refine Rc (mv (qA (fP:=IsV (.bool true)) 15 20)) ?_;refine RcG 16 21 true (fa (fa_Vl1 (b)) (qB (x:=.pointer (some ⟨b,0,none⟩)) 2)) ?_;refine RcG 16 21 true (lvC 8 B2 ld_b (qA (fP:=IsP b 8) 17 22)) ?_;refine RcG 16 21 true (fa (fa_Vl1 (b+1)) (qB (x:=.pointer (some ⟨b+1,0,none⟩)) 3)) ?_;refine RcG 16 21 true (lvC 8 B3 ld_b (qA (fP:=IsP (b+1) 8) 19 24)) ?_;refine RcG 16 21 true (bn (r:=.bool true) (qC 18 23) (qC 20 25) (hr:=λw=>by go_simp)) ?_;refine Rc (pk (qC 16 21) (qA (fP:=IsV (.bool true)) 21 26)) ?_
  refine Rc (mv (qA (fP:=IsV (.bool true)) 22 27)) ?_;refine RcG 23 28 true (fa (fa_Vl2 (b)) (qB (x:=.pointer (some ⟨b,0,none⟩)) 2)) ?_;refine RcG 23 28 true (lvC 9 B2 ld_ai (qA (fP:=IsP b 9) 24 29)) ?_;refine RcG 23 28 true (fa (fa_Vl2 (b+1)) (qB (x:=.pointer (some ⟨b+1,0,none⟩)) 3)) ?_;refine RcG 23 28 true (lvC 9 B3 ld_ai (qA (fP:=IsP (b+1) 9) 26 31)) ?_;refine RcG 23 28 true (cl2 (en Tryz.func44) (qA (fP:=IsV (.slice pa pn pc)) 25 30) (qA (fP:=IsV (.slice qa qn qc)) 27 32) (λx0 x1 w' hE d0 d1=>by{obtain rfl:x0=.slice pa pn pc:=d0;obtain rfl:x1=.slice qa qn qc:=d1;exact sameI_t (P1.out.ext hE) (Q1.out.ext hE) HK.out})) ?_;refine Rc (pk (qC 23 28) (qA (fP:=IsV (.bool true)) 28 33)) ?_;refine Rc (mv (qA (fP:=IsV (.bool true)) 29 34)) ?_;refine RcG 30 35 true (fa (fa_Vl3 (b)) (qB (x:=.pointer (some ⟨b,0,none⟩)) 2)) ?_;refine RcG 30 35 true (lvC 10 B2 ld_e (qA (fP:=IsP b 10) 31 36)) ?_;refine RcG 30 35 true (fa (fa_Vl3 (b+1)) (qB (x:=.pointer (some ⟨b+1,0,none⟩)) 3)) ?_;refine RcG 30 35 true (lvC 10 B3 ld_e (qA (fP:=IsP (b+1) 10) 33 38)) ?_;refine RcG 30 35 true (bn (r:=.bool true) (qC 32 37) (qC 34 39) (hr:=λw=>by go_simp)) ?_;refine Rc (pk (qC 30 35) (qA (fP:=IsV (.bool true)) 35 40)) ?_;refine Rc (mv (qA (fP:=IsV (.bool true)) 36 41)) ?_;exact rn0
 intro v X e1 hZ _;simp only[lxE,Nat.reduceAdd];rw[show v 37=.bool true from hZ 37 dcx];replace E:=E.trans e1;clear e1 hZ;refine jL ?_;go_wp2_with fail
 go_ret
 exact⟨_,rfl,E,rfl⟩
end
section
open Go Go.RowKit Go.Maps Go.Sort
theorem any_ins{α:Type}(f:Lit×DataW α->Bool)(x:Lit×DataW α):∀l:List (Lit×DataW α),(∀p∈DataW.insert x l,p=x\/p∈l)
 | [],p,hp=> .inl (by simpa [DataW.insert]using hp)
 | y ::r,p,hp=>by
  unfold DataW.insert at hp
  split at hp
  ·exact(List.mem_cons.1 hp).imp id id
  ·rcases List.mem_cons.1 hp with h|h
   ·exact .inr (by rw[h];exact List.mem_cons_self)
   ·exact(any_ins f x r p h).imp id (List.mem_cons_of_mem _)
theorem dS_keys:∀(l:List (List UInt8)) (es:List (Lit×DU)),(∀p∈es,∃x,p.1=.string x)->∃es',l.foldl (λD x=>D.put (.string x) (.lit (.bool true))) (DataW.map es)=.map es'/\∀p∈es',∃x,p.1=.string x
 | [],es,h=>⟨es,rfl,h⟩
 | x ::l,es,h=>dS_keys l _ λp hp=>by
  rcases any_ins (λ_=>true) _ _ p hp with e|e
  ·exact⟨x,by rw[e]⟩
  ·exact h p (List.mem_filter.1 e).1
theorem mem_ksL(l:List (List UInt8))(x:List UInt8):x∈ksL l↔x∈l:=by
 obtain⟨es,hD,hk⟩:=dS_keys l [] (λp hp=>absurd hp List.not_mem_nil);have hD:dS l=.map es:=hD;have hm:=has_dS x l;rw[hD]at hm;rw[<-hm,has_eq,List.any_eq_true,ksL,List.mem_mergeSort,hD];show x∈es.map (λp=>strOf p.1)↔_;rw[List.mem_map];constructor
 ·rintro⟨p,hp',rfl⟩;obtain⟨a,ha⟩:=hk p hp';exact⟨p,hp',by rw[ha];simp[Lit.sameKey,strOf]⟩
 ·rintro⟨p,hp',hs⟩;obtain⟨a,ha⟩:=hk p hp';rw[ha]at hs;exact⟨p,hp',by rw[ha];have:=WideAt.sameKey_eq hs;cases this;rfl⟩
end
section
open Go Go.RowKit
/-! ### Shelves:what was not read makes no difference -/
theorem ev_up(cs:List qJ)(bst:List UInt8 ->Option EnD)(fl:ByteArray ->Env ->ByteArray):∀(e:Ex) (env:Env) (st:Mst Lg) (r:Res Kn) (st':Mst Lg),ev (qX cs bst fl) e env st =(r,st') ->leG st.2 st'.2
 | .num z,env,st,r,st',h =>by rw[ev]at h;cases h;exact λx hx =>hx
 | .var x,env,st,r,st',h =>by rw[ev]at h;cases h;exact λx hx =>hx
 | .cell x,env,st,r,st',h =>by
  rw[ev]at h;cases h
  intro y hy
  simp only[qX,clG]
  split <;> exact hy
 | .val x n,env,st,r,st',h =>by
  rw[ev]at h;cases h
  intro y hy
  simp only[qX,vlG]
  split <;> exact List.mem_append_left _ hy
 | .loop fst x lo hi b,env,st,r,st',h =>by
  have hs:∀(n:Nat) (t:Tr) (st:Mst Lg) (r:Res Tr) (st':Mst Lg),xQ (λn st =>ev (qX cs bst fl) b (env ++ [(x,n)]) st) fst hi n t st =(r,st') ->leG st.2 st'.2:=by
   intro n
   induction n with
   |zero =>intro t st r st' h;simp only[xQ]at h;cases h;exact λx hx =>hx
   | succ n ih =>
    intro t st r st' h
    rw[xQ]at h
    split at h
    ·rcases he:ev (qX cs bst fl) b (env ++ [(x,t.next)]) (st.1 - 1,st.2)with⟨r1,st1⟩
     have u:=ev_up cs bst fl b _ _ _ _ he
     rw[he]at h
     cases r1 with
     |error e =>cases h;exact u
     | ok q =>
      simp only at h
      split at h
      ·cases h;exact u
      ·exact λy hy =>ih _ _ _ _ h y (u y hy)
    ·cases h;exact λx hx =>hx
  rw[ev]at h
  rcases he:xQ (λn st =>ev (qX cs bst fl) b (env ++ [(x,n)]) st) fst hi (hi + 1 - lo).toNat ⟨0,0,hi + 1,hi + 1,lo,true⟩ st with⟨r1,st1⟩
  have u:=hs _ _ _ _ _ he
  rw[he]at h
  cases r1 <;>(cases h;exact u)
 | .bin op a b,env,st,r,st',h =>by
  rw[ev]at h
  rcases he:ev (qX cs bst fl) a env st with⟨r1,st1⟩
  have u:=ev_up cs bst fl a _ _ _ _ he
  rw[he]at h
  cases r1 with
  |error e =>cases h;exact u
  | ok p =>
   simp only at h
   rcases he2:ev (qX cs bst fl) b env st1 with⟨r2,st2⟩
   have u2:=ev_up cs bst fl b _ _ _ _ he2
   rw[he2]at h
   have u3:leG st.2 st2.2:=λy hy =>u2 y (u y hy)
   cases r2 with
   |error e =>cases h;exact u3
   | ok q =>
    simp only at h
    split at h <;>(cases h;exact u3)
theorem ev_agree(cs:List qJ)(bst b':List UInt8 ->Option EnD)(fl:ByteArray ->Env ->ByteArray):∀(e:Ex) (env:Env) (st:Mst Lg) (r:Res Kn) (st':Mst Lg),ev (qX cs bst fl) e env st =(r,st') ->(∀x∈st'.2.1,b' x =bst x) ->ev (qX cs b' fl) e env st =(r,st')
 | .num z,env,st,r,st',h,hb =>by rw[ev]at h ⊢;exact h
 | .var x,env,st,r,st',h,hb =>by rw[ev]at h ⊢;exact h
 | .cell x,env,st,r,st',h,hb =>by rw[ev]at h ⊢;exact h
 | .val x n,env,st,r,st',h,hb =>by
  rw[ev]at h ⊢
  have:b' (fl x env).data.toList =bst (fl x env).data.toList:=by
   refine hb _ ?_
   cases h
   simp only[qX,vlG]
   split <;> simp
  have e:(qX cs b' fl).vl x n env st.2 =(qX cs bst fl).vl x n env st.2:=by simp only[qX,vlG,this]
  rw[e];exact h
 | .loop fst x lo hi b,env,st,r,st',h,hb =>by
  have hs:∀(n:Nat) (t:Tr) (st:Mst Lg) (r:Res Tr) (st':Mst Lg),xQ (λn st =>ev (qX cs bst fl) b (env ++ [(x,n)]) st) fst hi n t st =(r,st') ->leG st.2 st'.2/\ ((∀x∈st'.2.1,b' x =bst x) ->xQ (λn st =>ev (qX cs b' fl) b (env ++ [(x,n)]) st) fst hi n t st =(r,st')) :=by
   intro n
   induction n with
   |zero =>intro t st r st' h;simp only[xQ]at h ⊢;cases h;exact⟨λx hx =>hx,λ_ =>rfl⟩
   | succ n ih =>
    intro t st r st' h
    rw[xQ]at h
    rw[xQ]
    split at h
    ·rename_i hg
     rw[if_pos hg]
     rcases he:ev (qX cs bst fl) b (env ++ [(x,t.next)]) (st.1 - 1,st.2)with⟨r1,st1⟩
     have u:=ev_up cs bst fl b _ _ _ _ he
     rw[he]at h
     cases r1 with
     |error e =>cases h;exact⟨u,λhb =>by rw[ev_agree cs bst b' fl b _ _ _ _ he hb]⟩
     | ok q =>
      simp only at h
      rcases hst:t.step fst q with⟨t',d⟩
      rw[hst]at h
      cases d with
      |true =>cases h;exact⟨u,λhb =>by rw[ev_agree cs bst b' fl b _ _ _ _ he hb];simp only[hst]⟩
      | false =>
       obtain⟨i1,i2⟩ :=ih _ _ _ _ h
       exact⟨λy hy =>i1 y (u y hy),λhb =>by rw[ev_agree cs bst b' fl b _ _ _ _ he (λy hy =>hb y (i1 y hy))];simp only[hst];exact i2 hb⟩
    ·rename_i hg
     rw[if_neg hg]
     cases h;exact⟨λx hx =>hx,λ_ =>rfl⟩
  rw[ev]at h
  rcases he:xQ (λn st =>ev (qX cs bst fl) b (env ++ [(x,n)]) st) fst hi (hi + 1 - lo).toNat ⟨0,0,hi + 1,hi + 1,lo,true⟩ st with⟨r1,st1⟩
  have u:=hs _ _ _ _ _ he
  rw[he]at h
  cases r1 <;>(cases h;rw[ev,u.2 hb])
 | .bin op a b,env,st,r,st',h,hb =>by
  rw[ev]at h
  rcases he:ev (qX cs bst fl) a env st with⟨r1,st1⟩
  rw[he]at h
  cases r1 with
  |error e =>cases h;rw[ev,ev_agree cs bst b' fl a _ _ _ _ he hb]
  | ok p =>
   simp only at h
   rcases he2:ev (qX cs bst fl) b env st1 with⟨r2,st2⟩
   have u2:=ev_up cs bst fl b _ _ _ _ he2
   rw[he2]at h
   have hst:st'.2 =st2.2:=by
    cases r2 with
    |error e =>cases h;rfl
    |ok q =>simp only at h;split at h <;>(cases h;rfl)
   rw[hst]at hb
   rw[ev,ev_agree cs bst b' fl a _ _ _ _ he (λy hy =>hb y (u2 y hy))]
   simp only
   rw[ev_agree cs bst b' fl b _ _ _ _ he2 hb]
   exact h
theorem ev_none'(cs:List qJ)(bst:List UInt8 ->Option EnD)(fl:ByteArray ->Env ->ByteArray):∀(e:Ex) (env:Env) (st:Mst Lg) (q:Kn) (st':Mst Lg),ev (qX cs (λ_ =>none) fl) e env st =(.ok q,st') ->st'.2.1 =st.2.1/\ev (qX cs bst fl) e env st =(.ok q,st')
 | .num z,env,st,r,st',h =>by rw[ev]at h ⊢;cases h;exact⟨rfl,rfl⟩
 | .var x,env,st,r,st',h =>by rw[ev]at h ⊢;cases h;exact⟨rfl,rfl⟩
 | .cell x,env,st,r,st',h =>by
  rw[ev]at h ⊢
  refine⟨?_,h⟩
  simp only[Prod.mk.injEq]at h
  rw[<-h.2]
  simp only[qX,clG]
  split <;> rfl
 | .val x n,env,st,r,st',h =>by
  rw[ev]at h
  simp[qX,vlG]at h
 | .loop fst x lo hi b,env,st,r,st',h =>by
  have hs:∀(n:Nat) (t:Tr) (st:Mst Lg) (q:Tr) (st':Mst Lg),xQ (λn st =>ev (qX cs (λ_ =>none) fl) b (env ++ [(x,n)]) st) fst hi n t st =(.ok q,st') ->st'.2.1 =st.2.1/\xQ (λn st =>ev (qX cs bst fl) b (env ++ [(x,n)]) st) fst hi n t st =(.ok q,st') :=by
   intro n
   induction n with
   |zero =>intro t st r st' h;simp only[xQ]at h ⊢;cases h;exact⟨rfl,rfl⟩
   | succ n ih =>
    intro t st r st' h
    rw[xQ]at h
    rw[xQ]
    split at h
    ·rename_i hg
     rw[if_pos hg]
     rcases he:ev (qX cs (λ_ =>none) fl) b (env ++ [(x,t.next)]) (st.1 - 1,st.2)with⟨r1,st1⟩
     rw[he]at h
     cases r1 with
     |error e =>cases h
     | ok q =>
      obtain⟨u1,u2⟩ :=ev_none' cs bst fl b _ _ _ _ he
      simp only at h u1
      rw[u2]
      simp only
      rcases hst:t.step fst q with⟨t',d⟩
      rw[hst]at h
      cases d with
      |true =>cases h;exact⟨u1,rfl⟩
      | false =>
       obtain⟨i1,i2⟩ :=ih _ _ _ _ h
       exact⟨i1.trans u1,i2⟩
    ·rename_i hg
     rw[if_neg hg]
     cases h;exact⟨rfl,rfl⟩
  rw[ev]at h
  rcases he:xQ (λn st =>ev (qX cs (λ_ =>none) fl) b (env ++ [(x,n)]) st) fst hi (hi + 1 - lo).toNat ⟨0,0,hi + 1,hi + 1,lo,true⟩ st with⟨r1,st1⟩
  rw[he]at h
  cases r1 with
  |error e =>cases h
  | ok t =>
   have u:=hs _ _ _ _ _ he
   cases h
   exact⟨u.1,by rw[ev,u.2]⟩
 | .bin op a b,env,st,r,st',h =>by
  rw[ev]at h
  rcases he:ev (qX cs (λ_ =>none) fl) a env st with⟨r1,st1⟩
  rw[he]at h
  cases r1 with
  |error e =>cases h
  | ok p =>
   simp only at h
   rcases he2:ev (qX cs (λ_ =>none) fl) b env st1 with⟨r2,st2⟩
   rw[he2]at h
   cases r2 with
   |error e =>cases h
   | ok q =>
    simp only at h
    obtain⟨u1,u2⟩ :=ev_none' cs bst fl a _ _ _ _ he
    obtain⟨v1,v2⟩ :=ev_none' cs bst fl b _ _ _ _ he2
    have hst:st'.2 =st2.2:=by split at h <;>(cases h;try rfl)
    refine⟨by rw[hst,v1,u1],?_⟩
    rw[ev,u2]
    simp only
    rw[v2]
    exact h
theorem ev_hyps(cs:List qJ)(bst:List UInt8 ->Option EnD)(fl:ByteArray ->Env ->ByteArray)(P:Int ->Prop)(hc:∀c∈cs,∀h∈c.hyps,P h)(hb:∀x d,bst x =some d ->∀h∈d.hyps,P h):∀(e:Ex) (env:Env) (st:Mst Lg) (r:Res Kn) (st':Mst Lg),ev (qX cs bst fl) e env st =(r,st') ->(∀h∈st.2.2,P h) ->∀h∈st'.2.2,P h
 | .num z,env,st,r,st',h,hp =>by rw[ev]at h;cases h;exact hp
 | .var x,env,st,r,st',h,hp =>by rw[ev]at h;cases h;exact hp
 | .cell x,env,st,r,st',h,hp =>by
  rw[ev]at h;cases h
  simp only[qX,clG]
  split
  ·exact hp
  ·rename_i c hf
   intro y hy
   exact(List.mem_append.1 hy).elim (hp y) (hc c (List.mem_of_find?_eq_some hf) y)
 | .val x n,env,st,r,st',h,hp =>by
  rw[ev]at h;cases h
  simp only[qX,vlG]
  split
  ·exact hp
  ·rename_i d hf
   intro y hy
   exact(List.mem_append.1 hy).elim (hp y) (hb _ d hf y)
 | .loop fst x lo hi b,env,st,r,st',h,hp =>by
  have hs:∀(n:Nat) (t:Tr) (st:Mst Lg) (r:Res Tr) (st':Mst Lg),xQ (λn st =>ev (qX cs bst fl) b (env ++ [(x,n)]) st) fst hi n t st =(r,st') ->(∀h∈st.2.2,P h) ->∀h∈st'.2.2,P h:=by
   intro n
   induction n with
   |zero =>intro t st r st' h hp;simp only[xQ]at h;cases h;exact hp
   | succ n ih =>
    intro t st r st' h hp
    rw[xQ]at h
    split at h
    ·rcases he:ev (qX cs bst fl) b (env ++ [(x,t.next)]) (st.1 - 1,st.2)with⟨r1,st1⟩
     have u:=ev_hyps cs bst fl P hc hb b _ _ _ _ he hp
     rw[he]at h
     cases r1 with
     |error e =>cases h;exact u
     | ok q =>
      simp only at h
      split at h
      ·cases h;exact u
      ·exact ih _ _ _ _ h u
    ·cases h;exact hp
  rw[ev]at h
  rcases he:xQ (λn st =>ev (qX cs bst fl) b (env ++ [(x,n)]) st) fst hi (hi + 1 - lo).toNat ⟨0,0,hi + 1,hi + 1,lo,true⟩ st with⟨r1,st1⟩
  have u:=hs _ _ _ _ _ he hp
  rw[he]at h
  cases r1 <;>(cases h;exact u)
 | .bin op a b,env,st,r,st',h,hp =>by
  rw[ev]at h
  rcases he:ev (qX cs bst fl) a env st with⟨r1,st1⟩
  have u:=ev_hyps cs bst fl P hc hb a _ _ _ _ he hp
  rw[he]at h
  cases r1 with
  |error e =>cases h;exact u
  | ok p =>
   simp only at h
   rcases he2:ev (qX cs bst fl) b env st1 with⟨r2,st2⟩
   have u2:=ev_hyps cs bst fl P hc hb b _ _ _ _ he2 u
   rw[he2]at h
   cases r2 with
   |error e =>cases h;exact u2
   | ok q =>
    simp only at h
    split at h <;>(cases h;exact u2)
end
section
open Go Go.RowKit Go.Maps Go.Sort
theorem ins_perm{α:Type}(x:Lit×DataW α):∀l:List (Lit×DataW α),(DataW.insert x l).Perm (x ::l)
 | []=>by simp[DataW.insert]
 | y ::r=>by
  unfold DataW.insert
  split
  ·exact .refl _
  ·exact((ins_perm x r).cons y).trans (.swap ..)
theorem fold_nd{β:Type}(g:β->Lit)(hg:∀a,(g a).sameKey (g a)=true):∀(l:List β) (es:List (Lit×DU)),es.Pairwise (λp q=>p.1≠q.1)->(∀p∈es,∃x,p.1=g x)->
  ∃es',l.foldl (λD x=>D.put (g x) (.lit (.bool true))) (DataW.map es)=.map es'/\es'.Pairwise (λp q=>p.1≠q.1)/\∀p∈es',∃x,p.1=g x
 | [],es,h,hk=>⟨es,rfl,h,hk⟩
 | x ::l,es,h,hk=>by
  have hp:=ins_perm (g x,(.lit (.bool true):DU)) (es.filter λp=> !p.1.sameKey (g x));refine fold_nd g hg l (DataW.insert (g x,.lit (.bool true)) (es.filter λp=> !p.1.sameKey (g x))) ?_ ?_
  ·refine(hp.pairwise_iff λh=>h.symm).2 (List.pairwise_cons.2 ⟨λp hm e=>?_,h.filter _⟩);have:=(List.mem_filter.1 hm).2;rw[<-e,hg]at this;cases this
  ·intro p hm;rcases List.mem_cons.1 (hp.mem_iff.1 hm)with rfl|hm
   ·exact⟨x,rfl⟩
   ·exact hk p (List.mem_filter.1 hm).1
theorem tSubN_1{P:Prop}(h:P:=by
  rw[hD];refine List.pairwise_map.2 (hp.imp_of_mem λ{p q} h1 h2 hne e=>hne ?_);obtain⟨a,ha⟩:=hk p h1;obtain⟨b,hb⟩:=hk q h2;rw[ha,hb]at e ⊢;exact congrArg _ e
  ):P:=h
theorem ks_nd(l:List (List UInt8)):(ksL l).Nodup:=by
 obtain⟨es,hD,hp,hk⟩:=fold_nd (λx:List UInt8=>Lit.string x) (λa=>by simp[Lit.sameKey]) l [] List.Pairwise.nil (λp hp=>absurd hp List.not_mem_nil);have hD:dS l=.map es:=hD;refine(List.mergeSort_perm (strKeys (dS l)) _).nodup_iff.2 ?_;exact tSubN_1
theorem mem_zsL(l:List Int)(x:Int):x∈zsL l↔x∈l:=by
 obtain⟨es,hD,-,hk⟩:=fold_nd (λx:Int=>Lit.int .i64 x) (λa=>by simp[Lit.sameKey]) l [] List.Pairwise.nil (λp hp=>absurd hp List.not_mem_nil);have hD:dI l=.map es:=hD;have hm:=has_dI x l;rw[hD]at hm;rw[<-hm,has_eq,List.any_eq_true,zsL,List.mem_mergeSort,hD];show x∈es.map (λp=>Go.intOf p.1)↔_;rw[List.mem_map];constructor
 ·rintro⟨p,hp',rfl⟩;obtain⟨a,ha⟩:=hk p hp';exact⟨p,hp',by rw[ha];simp[Lit.sameKey,Go.intOf]⟩
 ·rintro⟨p,hp',hs⟩;obtain⟨a,ha⟩:=hk p hp';rw[ha]at hs;exact⟨p,hp',by rw[ha];have:=WideAt.sameKey_eq hs;cases this;rfl⟩
theorem zs_nd(l:List Int):(zsL l).Nodup:=by
 obtain⟨es,hD,hp,hk⟩:=fold_nd (λx:Int=>Lit.int .i64 x) (λa=>by simp[Lit.sameKey]) l [] List.Pairwise.nil (λp hp=>absurd hp List.not_mem_nil);have hD:dI l=.map es:=hD;refine(List.mergeSort_perm (intKeys (dI l)) _).nodup_iff.2 ?_;exact tSubN_1
theorem ksL_len{l SS:List (List UInt8)}(h:∀x∈l,x∈SS):(ksL l).length<=SS.length:=nd_len _ _ (ks_nd l) λx hx=>h x ((mem_ksL _ x).1 hx)
theorem zsL_len{l SI:List Int}(h:∀x∈l,x∈SI):(zsL l).length<=SI.length:=nd_len _ _ (zs_nd l) λx hx=>h x ((mem_zsL _ x).1 hx)
theorem step_next(fst:Bool)(t:Tr)(q:Kn):(t.step fst q).2=false->(t.step fst q).1.next=t.next+1:=by
 unfold Tr.step
 repeat' split
 all_goals simp
theorem ev_names(cs:List qJ)(bst:List UInt8->Option EnD)(fl:ByteArray->Env->ByteArray)(P:List UInt8->Prop):∀(e:Ex) (env:Env) (st:Mst Lg) (r:Res Kn) (st':Mst Lg),(∀y∈xA fl e env,P y)->ev (qX cs bst fl) e env st=(r,st')->(∀x∈st.2.1,P x)->∀x∈st'.2.1,P x
 | .num z,env,st,r,st',_,h,hp=>by rw[ev]at h;cases h;exact hp
 | .var x,env,st,r,st',_,h,hp=>by rw[ev]at h;cases h;exact hp
 | .cell x,env,st,r,st',_,h,hp=>by
  rw[ev]at h;cases h;simp only[qX,clG]
  split <;> exact hp
 | .val x n,env,st,r,st',hn,h,hp=>by
  rw[ev]at h;cases h;simp only[qX,vlG];have h1:P (fl x env).data.toList:=hn _ (by simp[xA])
  split
  all_goals
   intro y hy;rcases List.mem_append.1 hy with hy|hy
   ·exact hp y hy
   ·rw[List.mem_singleton.1 hy];exact h1
 | .loop fst x lo hi b,env,st,r,st',hn,h,hp=>by
  have hn':∀z:Int,lo<=z->z<=hi->∀y∈xA fl b (env++ [(x,z)]),P y:=λz h1 h2 y hy=>hn y (by
   rw[xA,List.mem_flatMap]
   exact⟨(z-lo).toNat,List.mem_range.2 (by omega),by rw[show lo+((z-lo).toNat:Int)=z from by omega];exact hy⟩)
  have hs:∀(n:Nat) (t:Tr) (st:Mst Lg) (r:Res Tr) (st':Mst Lg),lo<=t.next->xQ (λn st=>ev (qX cs bst fl) b (env++ [(x,n)]) st) fst hi n t st=(r,st')->(∀h∈st.2.1,P h)->∀h∈st'.2.1,P h:=by
   intro n
   induction n with
   |zero=>intro t st r st' _ h hp;simp only[xQ]at h;cases h;exact hp
   | succ n ih=>
    intro t st r st' hl h hp;rw[xQ]at h
    split at h
    ·rename_i hc
     rcases he:ev (qX cs bst fl) b (env++ [(x,t.next)]) (st.1-1,st.2)with⟨r1,st1⟩;have u:=ev_names cs bst fl P b _ _ _ _ (hn' t.next hl hc.1) he hp;rw[he]at h;cases r1 with
     |error e=>cases h;exact u
     | ok q=>
      simp only at h;have hnx:=step_next fst t q;generalize t.step fst q=z at h hnx;obtain⟨t',bb⟩:=z;cases bb with
      |true=>cases h;exact u
      |false=>exact ih _ _ _ _ (by have:=hnx rfl;simp only at this;omega) h u
    ·cases h;exact hp
  rw[ev]at h;rcases he:xQ (λn st=>ev (qX cs bst fl) b (env++ [(x,n)]) st) fst hi (hi+1-lo).toNat ⟨0,0,hi+1,hi+1,lo,true⟩ st with⟨r1,st1⟩;have u:=hs _ _ _ _ _ (Int.le_refl _) he hp;rw[he]at h;cases r1 <;>(cases h;exact u)
 | .bin op a b,env,st,r,st',hn,h,hp=>by
  rw[xA]at hn;rw[ev]at h;rcases he:ev (qX cs bst fl) a env st with⟨r1,st1⟩;have u:=ev_names cs bst fl P a _ _ _ _ (λy hy=>hn y (List.mem_append_left _ hy)) he hp;rw[he]at h;cases r1 with
  |error e=>cases h;exact u
  | ok p=>
   simp only at h;rcases he2:ev (qX cs bst fl) b env st1 with⟨r2,st2⟩;have u2:=ev_names cs bst fl P b _ _ _ _ (λy hy=>hn y (List.mem_append_right _ hy)) he2 u;rw[he2]at h;cases r2 with
   |error e=>cases h;exact u2
   | ok q=>
    simp only at h
    split at h <;>(cases h;exact u2)
end
section
open Go Go.RowKit Go.Maps Go.Sort
theorem bsG_mem{L:List (List Value)}{dat:List Value->EnD}{gs:List Int}{y:List UInt8}{d:EnD}(h:bsG L dat gs y=some d):∃vs∈L,d=dat vs:=by
 obtain⟨vs,hv,rfl⟩:=Option.map_eq_some_iff.1 h;exact⟨vs,bestH_mem hv,rfl⟩
theorem lens_R{cs:List qJ}{L:List (List Value)}{dat:List Value->EnD}{gs SI:List Int}{e:Ex}(K:ShpMOk SI cs L dat gs)(hT:wfT 4 [] e)(s0:Nat):
  (ksL (evR cs L dat gs e s0).2.2.1).length<=2401/\(zsL (evR cs L dat gs e s0).2.2.2).length<=SI.length:=by
 rcases he:evR cs L dat gs e s0 with⟨r,k,na,ha⟩;refine⟨jQ (ksL_len (SS:=xA flG e []) ?_) (namesE_len flG 4 [] e [] hT),zsL_len (SI:=SI) ?_⟩
 ·exact ev_names cs _ flG (λx=>x∈xA flG e []) e [] _ _ _ (λ_ h=>h) he (λx hx=>absurd hx List.not_mem_nil)
 ·exact ev_hyps cs _ flG (λx=>x∈SI) (λc hc h hh=>((K.ck c hc).2 h hh).1) (λx d hd h hh=>by
   obtain⟨vs,hv,rfl⟩:=bsG_mem hd
   exact((K.dk vs hv).2.2 h hh).1) e [] _ _ _ he (λx hx=>absurd hx List.not_mem_nil)
end
section
open Go Go.RowKit Go.Maps Go.Shelf
theorem zm{P:Prop}(h:P:=by have:=HL.out;omega):P:=h
set_option maxRecDepth 100000
set_option maxHeartbeats 4000000
attribute [local go_sem] Oper.semAt_some
theorem infI:(Tryz.prog.info? 3).map (λi=>(i.zero,i.size,i.bytes))=some (some (.int .i64 0),1,8):=by kernel_rfl
theorem IrR.of{base n:Nat}{w:World}{v:Value}{gs:List Int}(h:Rwg 3 1 base w v n (gs.map (λz=>Value.int .i64 z)))(hn:gs.length=n):IrR gs v w:=by
 obtain⟨ao,cap,rfl,-,-,-,h2⟩:=h.shape;refine⟨ao,cap,by rw[hn],λhne=>?_⟩;obtain⟨g,rfl,-,-,h3⟩:=h2 (by rintro rfl;exact hne (List.length_eq_zero_iff.1 hn));exact⟨g,0,rfl,λj x hj=>by rw[Nat.zero_add];exact h3 j _ (by rw[List.getElem?_map,hj];rfl)⟩
def IsGr:Value->World->Prop:=λv w=>∃gs:List Int,gs.length<=3/\(∀y∈gs,1<=y/\y<=3)/\IrR gs v w
theorem IsGr.stb:Stb IsGr:=λ_ _ _ e ⟨gs,h1,h2,h3⟩=>⟨gs,h1,h2,h3.ext e⟩
instance:StbC IsGr:=⟨IsGr.stb⟩
theorem granted_f{w:World}{ca ea:Option Addr}{cn cc en' ec:Nat}{gr:Int}(h0:0<=gr)(h1:gr<=255):Calls Tryz.prog 14 #[.agg #[.slice ca cn cc,.slice ea en' ec,.int .u8 gr]] w (Ret w IsGr):=by
 obtain⟨W,hW,E,B⟩:∃W,W=w.alloc (.cells #[.slice ca cn cc,.slice ea en' ec,.int .u8 gr] 24)/\Ext w W/\Bk W w.heap.size [.slice ca cn cc,.slice ea en' ec,.int .u8 gr]:=zi;go_enter Tryz.func14,Tryz.ntmps14;go_upto_region 1 with fail;rw[<-hW];clear hW;have hE:=E.size;have hq:=rwz_run;have hlt:=B.lt;have HB:=hid B;have HE:=hid E;obtain⟨b,hb⟩:∃b,w.heap.size=b:=⟨_,rfl⟩;have HW:=hid hb;rw[hb]at HB hlt;rw[hb];have HH:=hid (jO h0 h1);have HL:=hid hlt;clear B E hb h0 h1
 go_wp2
 go_loopg [3,4] 3 (λgk v3 v4 wr=>∃(i:Nat) (gs:List Int),v4=.int .i64 (i:Int)/\1<=i/\i+gk=4/\Hid (gs.length+1<=i/\(∀y∈gs,1<=y/\y<=3)/\Rwg 3 1 (b+1) wr v3 gs.length (gs.map (λz=>Value.int .i64 z))/\Below (b+1) W wr))
 case atStart=>exact⟨1, [],rfl,by omega,by omega,hid ⟨by simp,λy hy=>by simp at hy,Rwg.zero W zm,(jS _ _).alloc zm _⟩⟩
 case round=>
  obtain⟨i,gs,rfl,hi1,hg,S⟩:=hrel;obtain⟨s1,s2,s3,s4⟩:=S.out;have B:=HB.out;have c2:=(s4.cell (p:=⟨b,2,none⟩) ju).trans (B.c 2 _ rfl);by_cases hi:i<=3
  ·have hil:(i:Int)<=3:=by omega
   have hiw:IntKind.i64.wrap ((i:Int)+1)=((i+1:Nat):Int):=jz
   have HG:=hid (jO hi1 hg);have HI:=hid hi;have hsz:b+1<=wr.heap.size:=by have:=s4.size;omega
   have HS:=hid hsz;obtain⟨bb,hbb⟩:∃t,(bits BinOp.and IntKind.u8 (gr/2^i) 1==1)=t:=⟨_,rfl⟩;clear s1 s2 s3 s4 B hi1 hg hi hsz;cases bb with
   | true=>
    go_wp2_with (at_builtin;go_must (refine wpl_rwg rfl _ _ 41 rfl (b+1) 3 (.int .i64 0) 1 8 za infI rfl dcx _ _ _ rfl (S.out.2.2.1.ext ((Ext.refl _).alloc _)) _ 1 _ [.int .i64 (i:Int)] rfl rfl (cells_newE _ _ _ _ (by simp)) xf (by have:=S.out.1;have:=HI.out;omega) (by have:=S.out.1;have:=HI.out;omega) (by have h1:=HS.out;simp;omega) ?_;intro v9 w10 hr9 hg9 hb9))
    have hx:=hid (jO hr9 (S.out.2.2.2.trans ((jS _ _).alloc HS.out _ |>.trans hb9)));clear hr9 hg9 hb9
    go_roundg (gk-1)
    case measure=>have:=HG.out;have:=HI.out;omega
    case rel=>
     refine⟨i+1,gs++ [(i:Int)],rfl,by omega,by have:=HG.out;have:=HI.out;omega,hid ⟨?_,?_,?_,hx.out.2⟩⟩
     ·have:=S.out.1;simp;omega
     ·intro y hy;rcases List.mem_append.1 hy with h|h
      ·exact S.out.2.1 y h
      ·have:=HG.out;have:=HI.out;rw[List.mem_singleton]at h;omega
     ·have:=hx.out.1;simpa using this
   | false=>
    go_wp2_with fail
    go_roundg (gk-1)
    case measure=>have:=HG.out;have:=HI.out;omega
    case rel=>exact⟨i+1,gs,rfl,by omega,by have:=HG.out;have:=HI.out;omega,hid ⟨by have:=S.out.1;omega,S.out.2.1,S.out.2.2.1,S.out.2.2.2⟩⟩
  ·have hil:¬((i:Int)<=3):=by omega
   have e4:Ext w wr:=Below.trans HE.out (s4.mono (by have:=HW.out;omega));have hgs:gs.length<=3:=by omega
   clear S s4 c2 B
   go_wp2
   go_ret
   exact⟨_,rfl,e4,gs,hgs,s2,IrR.of s3 rfl⟩
end
section
open Go Go.RowKit Go.Maps Go.Shelf
set_option maxRecDepth 100000
set_option maxHeartbeats 4000000
attribute [local go_sem] Oper.semAt_some
def IsSg(n:Int):Value->World->Prop:=λx w=>∃s1 a1 n1 c1 s2 a2 n2 c2 s3 a3 n3 c3 s4 a4 n4 c4,x=.agg #[.bool s1,.slice a1 n1 c1,.bool s2,.slice a2 n2 c2,.bool s3,.slice a3 n3 c3,.bool s4,.slice a4 n4 c4,.bool true,.slice none 0 0,.int .i64 0]/\
 IsRat 2 (Rat.divInt n 1) (.agg #[.bool s1,.slice a1 n1 c1,.bool s2,.slice a2 n2 c2]) w/\IsRat 2 (Rat.divInt n 1) (.agg #[.bool s3,.slice a3 n3 c3,.bool s4,.slice a4 n4 c4]) w
theorem IsSg.stb(n:Int):Stb (IsSg n):=λ_ _ _ e ⟨s1,a1,n1,c1,s2,a2,n2,c2,s3,a3,n3,c3,s4,a4,n4,c4,h1,h2,h3⟩=>⟨s1,a1,n1,c1,s2,a2,n2,c2,s3,a3,n3,c3,s4,a4,n4,c4,h1,IsRat.stbE _ _ _ _ _ e h2,IsRat.stbE _ _ _ _ _ e h3⟩
instance (n:Int):StbC (IsSg n):=⟨IsSg.stb n⟩
section
variable {ops:Array Oper} {Q:Exit->Act->World->Prop} {ds:List (Option Tmp)} {a0:Act} {w0:World} {L:List (Value->World->Prop)} {boxes:List Nat} {i k:Nat} {o:Oper} {os:List Oper}
theorem bdSg{n:Int}{x:Operand}(hx:Od ops ds a0 w0 L i x (IsIv 2 (Rat.divInt n 1) (Rat.divInt n 1)))(ho:o.op=.build 50 #[(0,x),(1,.const (.bool true))]:=by rfl)(hi:L.getD i (λ_ _=>True)=IsSg n:=by kernel_rfl)(hb:boxes.contains i=false:=by kernel_rfl):Ok Tryz.prog ops Q ds a0 w0 L boxes i o:=
 Ok.of hb λv a w hE hd hf=>by
  obtain⟨s1,a1,n1,c1,s2,a2,n2,c2,s3,a3,n3,c3,s4,a4,n4,c4,e1,h1,h2,h3,h4⟩:=hx.out v a w hE hd hf;have hr:(Instr.build 50 #[(0,.agg #[.bool s1,.slice a1 n1 c1,.bool s2,.slice a2 n2 c2,.bool s3,.slice a3 n3 c3,.bool s4,.slice a4 n4 c4]),(1,.bool true)]).run Tryz.prog w=.ok (.agg #[.bool s1,.slice a1 n1 c1,.bool s2,.slice a2 n2 c2,.bool s3,.slice a3 n3 c3,.bool s4,.slice a4 n4 c4,.bool true,.slice none 0 0,.int .i64 0]) w:=ja
  exact⟨_,bd_run ho e1 rfl hr,by rw[hi];exact⟨_,_,_,_,_,_,_,_,_,_,_,_,_,_,_,_,rfl,⟨_,_,_,_,_,_,_,_,rfl,h1,h2⟩,⟨_,_,_,_,_,_,_,_,rfl,h3,h4⟩⟩⟩
end
theorem single_f{n:Int}(w:World)(hn: -9223372036854775808<=n/\n<=9223372036854775807):Calls Tryz.prog 46 #[.int .i64 n] w (Ret w (IsSg n)):=by
 obtain⟨W,hW,E,B2⟩:∃W,W=w.alloc (.cells #[.bool false,.slice none 0 0,.bool false,.slice none 0 0,.bool false,.slice none 0 0,.bool false,.slice none 0 0,.bool false,.slice none 0 0,.int .i64 0] 50)/\Ext w W/\Bk W w.heap.size [.bool false,.slice none 0 0,.bool false,.slice none 0 0,.bool false,.slice none 0 0,.bool false,.slice none 0 0,.bool false,.slice none 0 0,.int .i64 0]:=
  ⟨_,rfl,(Ext.refl w).alloc _,Bk.new w _ _⟩
 have HN:=hid hn;clear hn;go_enter Tryz.func46,Tryz.ntmps46;go_upto_region 1 with fail;rw[<-hW];clear hW;refine rgs 6 (dR 3 6) [iV n,IsRat 2 (Rat.divInt n 1),iV n,IsRat 2 (Rat.divInt n 1),IsIv 2 (Rat.divInt n 1) (Rat.divInt n 1),IsSg n] [] ?_ ?_
 ·refine Rc zv ?_;refine Rc (cl2 (en Tryz.func47) (qA (fP:=iV n) 0 3) qE (λx0 x1 w' hE d0 d1=>by{obtain rfl:x0=.int .i64 n:=d0;obtain rfl:x1=.int .i64 1:=d1;exact rqOf_f w' n 1 HN.out dcx dcx})) ?_;refine Rc zv ?_;refine Rc (cl2 (en Tryz.func47) (qA (fP:=iV n) 2 5) qE (λx0 x1 w' hE d0 d1=>by{obtain rfl:x0=.int .i64 n:=d0;obtain rfl:x1=.int .i64 1:=d1;exact rqOf_f w' n 1 HN.out dcx dcx})) ?_;refine Rc (bdIv (qC 1 4) (qC 3 6)) ?_;refine Rc (bdSg (qC 4 7)) ?_;exact rn0
 intro v W1 e1 hZ _;replace E:=E.trans e1;replace B2:=B2.ext e1;obtain⟨s1,a1,n1,c1,s2,a2,n2,c2,s3,a3,n3,c3,s4,a4,n4,c4,hv,g1,g2⟩:=hZ 5 dcx;simp only[lxE,Nat.reduceAdd];rw[hv];clear hv hZ e1;refine stL (λK hK'=>?_);refine qZ (us:= [.bool s1,.slice a1 n1 c1,.bool s2,.slice a2 n2 c2,.bool s3,.slice a3 n3 c3,.bool s4,.slice a4 n4 c4,.bool true,.slice none 0 0,.int .i64 0]) B2 st_Vl rfl rfl nwVl (λX9 B9 O=>hK' _ _ ?_);replace g1:=IsRat.gstb _ _ _ _ _ O.gr g1;replace g2:=IsRat.gstb _ _ _ _ _ O.gr g2;replace E:=O.ext E (jP _);refine jL ?_;clear hK' K O;have d0:=B9.c 0 _ rfl;have d1:=B9.c 1 _ rfl;have d2:=B9.c 2 _ rfl;have d3:=B9.c 3 _ rfl;have d4:=B9.c 4 _ rfl;have d5:=B9.c 5 _ rfl;have d6:=B9.c 6 _ rfl;have d7:=B9.c 7 _ rfl;have d8:=B9.c 8 _ rfl;have d9:=B9.c 9 _ rfl;have d10:=B9.c 10 _ rfl;clear B9 B2;go_wp2_with fail;exact jK (v:=.agg #[.bool s1,.slice a1 n1 c1,.bool s2,.slice a2 n2 c2,.bool s3,.slice a3 n3 c3,.bool s4,.slice a4 n4 c4,.bool true,.slice none 0 0,.int .i64 0]) (by simp[results,Tryz.results46,go_sem,d0,d1,d2,d3,d4,d5,d6,d7,d8,d9,d10]) rfl ⟨_,rfl,E,s1,a1,n1,c1,s2,a2,n2,c2,s3,a3,n3,c3,s4,a4,n4,c4,rfl,g1,g2⟩
end
section
open Go Go.RowKit Go.Maps Go.Shelf
theorem Rwg.grown{e k base n:Nat}{w w':World}{v:Value}{xs:List Value}{row:Option Nat}(h:Rwg e k base w v n xs)(hg:w.grownBy w' row)(hr:∀g,v.ownBlock=some g->row≠some g):Rwg e k base w' v n xs:=by
 obtain⟨h1,h2| ⟨g,cap,cur,hv,hb,hc,hx⟩⟩:=h
 ·exact⟨h1,.inl h2⟩
 ·exact⟨h1,.inr ⟨g,cap,cur,hv,hb,(hg.block g (Array.getElem?_eq_some_iff.1 hc).1 (λe=>hr g (by rw[hv];rfl) e.symm)).trans hc,hx⟩⟩
theorem Rwg.own_lt{e k base n:Nat}{w:World}{v:Value}{xs:List Value}(h:Rwg e k base w v n xs){g:Nat}(hg:v.ownBlock=some g):g<w.heap.size/\base<=g:=by
 obtain⟨h1,⟨h2,h3⟩| ⟨g',cap,cur,hv,hb,hc,hx⟩⟩:=h
 ·rw[h2]at hg;cases hg
 ·rw[hv]at hg;cases hg;exact⟨(Array.getElem?_eq_some_iff.1 hc).1,hb⟩
def zCe:List Value:= [.string ⟨#[]⟩,.int .i64 0,.string ⟨#[]⟩,.int .i64 0,.bool false,.slice none 0 0,.int .i64 0,.int .i64 0,.slice none 0 0]
def zVl2:List Value:= [.bool false,.slice none 0 0,.bool false,.slice none 0 0,.bool false,.slice none 0 0,.bool false,.slice none 0 0,.bool false,.slice none 0 0,.int .i64 0]
theorem tInp3_1{P:Prop}(h:P:=by
  simp only[Prod.mk.injEq,jY]at hq;obtain⟨h0,h1,h2⟩:=hq;exact⟨i.bytes,by rw[hi];simp[h0,h1],h2⟩
  ):P:=h
theorem infoC:∃bytes,(Tryz.prog.info? 127).map (λi=>(i.zero,i.size,i.bytes))=some (some (.agg zCe.toArray),9,bytes)/\bytes<=100000:=by
 obtain⟨i,hi,hq⟩:=Option.map_eq_some_iff.1 (show(Tryz.prog.info? 127).map (λi=>(i.zero,i.size,decide (i.bytes<=100000)))=some (some (.agg zCe.toArray),9,true)by kernel_rfl);exact tInp3_1
theorem infoV:∃bytes,(Tryz.prog.info? 50).map (λi=>(i.zero,i.size,i.bytes))=some (some (.agg zVl2.toArray),11,bytes)/\bytes<=100000:=by
 obtain⟨i,hi,hq⟩:=Option.map_eq_some_iff.1 (show(Tryz.prog.info? 50).map (λi=>(i.zero,i.size,decide (i.bytes<=100000)))=some (some (.agg zVl2.toArray),11,true)by kernel_rfl);exact tInp3_1
theorem nwZCe:∀u∈zCe,NoWord u:=by
 intro u hu;simp only[zCe,List.mem_cons,List.not_mem_nil,or_false]at hu;rcases hu with rfl|rfl|rfl|rfl|rfl|rfl|rfl|rfl|rfl
 all_goals first|exact NoWord.bool _|exact NoWord.slice _ _ _|exact NoWord.int64 _|exact NoWord.string _
theorem nwZVl2:∀u∈zVl2,NoWord u:=nwVl
theorem num_one(n:Int):(Rat.divInt n 1).num=n:=by rw[show Rat.divInt n 1=mkRat n 1 from rfl,Rat.mkRat_one];rfl
theorem IsRat.lo{n:Int}{s1 s2:Bool}{a1 a2:Option Addr}{n1 c1 n2 c2:Nat}{w:World}(h:IsRat 2 (Rat.divInt n 1) (.agg #[.bool s1,.slice a1 n1 c1,.bool s2,.slice a2 n2 c2]) w):IsI 128 n (.agg #[.bool s1,.slice a1 n1 c1]) w:=by
 obtain⟨t1,b1,m1,d1,t2,b2,m2,d2,e,h1,h2⟩:=h;simp only[Value.agg.injEq,Array.mk.injEq,List.cons.injEq,Value.bool.injEq,Value.slice.injEq,and_true]at e;obtain⟨rfl,⟨rfl,rfl,rfl⟩,rfl,rfl,rfl,rfl⟩:=e;rw[num_one]at h1;exact h1.mono dcx
theorem Bk.mid5{w:World}{g:Nat}{v0 v1 v2 v3 v4 v5 v6 v7 v8 v9 v10 u4 u5 u6 u7 u8:Value}(B:Bk w g [v0,v1,v2,v3,v4,v5,v6,v7,v8,v9,v10])(n4:NoWord v4)(n5:NoWord v5)(n6:NoWord v6)(n7:NoWord v7)(n8:NoWord v8):
  OnlyB g w (((((w.setCell ⟨g,4,none⟩ u4).setCell ⟨g,5,none⟩ u5).setCell ⟨g,6,none⟩ u6).setCell ⟨g,7,none⟩ u7).setCell ⟨g,8,none⟩ u8)/\Bk (((((w.setCell ⟨g,4,none⟩ u4).setCell ⟨g,5,none⟩ u5).setCell ⟨g,6,none⟩ u6).setCell ⟨g,7,none⟩ u7).setCell ⟨g,8,none⟩ u8) g [v0,v1,v2,v3,u4,u5,u6,u7,u8,v9,v10]:=by
 obtain⟨O4,Q4⟩:=B.setO 4 (by simp) u4 n4;obtain⟨O5,Q5⟩:=Q4.setO 5 (by simp) u5 n5;obtain⟨O6,Q6⟩:=Q5.setO 6 (by simp) u6 n6;obtain⟨O7,Q7⟩:=Q6.setO 7 (by simp) u7 n7;obtain⟨O8,Q8⟩:=Q7.setO 8 (by simp) u8 n8;exact⟨O4.trans (O5.trans (O6.trans (O7.trans O8))),Q8⟩
def VcX(v6 v7:Value)(d:qJ)(vs:List Value)(w:World):Prop:=vs.length=11/\vs.all (λu=>u.oneCell')=true/\(∀u∈vs,NoWord u)/\(∃s a n c,vs[0]? =some (.bool s)/\vs[1]? =some (.slice a n c)/\IsI 128 d.lo (.agg #[.bool s,.slice a n c]) w)/\(∃s a n c,vs[4]? =some (.bool s)/\vs[5]? =some (.slice a n c)/\IsI 128 d.hi (.agg #[.bool s,.slice a n c]) w)/\
 vs[8]? =some (.bool d.fin)/\vs[10]? =some (.int .i64 d.err)/\∃ao c,vs[9]? =some (.slice ao d.hyps.length c)/\(d.hyps≠ []->∃g,ao=some ⟨g,0,none⟩/\g<w.heap.size/\v6.ownBlock≠some g/\v7.ownBlock≠some g/\∀j x,d.hyps[j]? =some x->World.cell? w ⟨g,0+j,none⟩=some (.int .i64 x))
theorem VcX.grow{v6 v7 u6 u7:Value}{d:qJ}{vs:List Value}{w w':World}{row:Option Nat}(h:VcX v6 v7 d vs w)(hg:w.grownBy w' row)(gr:Gr w w')(hr:row=v6.ownBlock\/row=v7.ownBlock\/row=none)(h6:u6.ownBlock=v6.ownBlock\/u6.ownBlock=some w.heap.size)(h7:u7.ownBlock=v7.ownBlock\/u7.ownBlock=some w.heap.size):VcX u6 u7 d vs w':=by
 obtain⟨a1,a2,a3,⟨s,a,n,c,b1,b2,b3⟩,⟨s',a',n',c',b1',b2',b3'⟩,a4,a5,ao,cc,a6,a7⟩:=h;refine⟨a1,a2,a3,⟨s,a,n,c,b1,b2,IsI.gstb _ _ _ _ _ gr b3⟩,⟨s',a',n',c',b1',b2',IsI.gstb _ _ _ _ _ gr b3'⟩,a4,a5,ao,cc,a6,λhn=>?_⟩;obtain⟨g,k1,k2,k3,k4,k5⟩:=a7 hn;refine⟨g,k1,Nat.lt_of_lt_of_le k2 hg.size,λe=>?_,λe=>?_,λj x hj=>?_⟩
 ·rcases h6 with h|h
  ·exact k3 (h▸e)
  ·rw[h]at e;injection e with e;omega
 ·rcases h7 with h|h
  ·exact k4 (h▸e)
  ·rw[h]at e;injection e with e;omega
 ·exact(World.cell?_of_block (w:=w) (a:=⟨g,0+j,none⟩) (hg.block g k2 (λe=>by
   rcases hr with h|h|h
   ·exact k3 (h▸e.symm)
   ·exact k4 (h▸e.symm)
   ·rw[h]at e;cases e))).trans (k5 j x hj)
theorem VcX.ext{v6 v7:Value}{d:qJ}{vs:List Value}{w w':World}(h:VcX v6 v7 d vs w)(E:Ext w w'):VcX v6 v7 d vs w':=by
 obtain⟨a1,a2,a3,⟨s,a,n,c,b1,b2,b3⟩,⟨s',a',n',c',b1',b2',b3'⟩,a4,a5,ao,cc,a6,a7⟩:=h;refine⟨a1,a2,a3,⟨s,a,n,c,b1,b2,b3.ext E⟩,⟨s',a',n',c',b1',b2',b3'.ext E⟩,a4,a5,ao,cc,a6,λhn=>?_⟩;obtain⟨g,k1,k2,k3,k4,k5⟩:=a7 hn;exact⟨g,k1,Nat.lt_of_lt_of_le k2 E.size,k3,k4,λj x hj=>E.cell (k5 j x hj)⟩
theorem VcX.out{v6 v7:Value}{d:qJ}{vs:List Value}{w:World}(h:VcX v6 v7 d vs w):VcR w.heap.size d vs w:=by
 obtain⟨a1,a2,-,b,c,a4,a5,ao,cc,a6,a7⟩:=h;refine⟨a1,a2,b,c,a4,a5,_,a6,λh hh=>⟨ao,cc,rfl,λhn=>?_⟩⟩;obtain⟨g,k1,k2,-,-,k5⟩:=a7 hn;exact⟨g,0,k1,.inl (Nat.lt_of_lt_of_le k2 hh),k5⟩
theorem VcX.set9{v6 v7:Value}{d:qJ}{us:List Value}{X X1:World}{g:Nat}(V:VcX v6 v7 d us X)(B:Bk X g us)(h6:v6.ownBlock≠some X.heap.size)(h7:v7.ownBlock≠some X.heap.size)
  (hX:(X.alloc (.cells #[.int .i64 3] 3)).setCell ⟨g,9,none⟩ (.slice (some ⟨X.heap.size,0,none⟩) 1 1)=X1):
  VcX v6 v7 {d with hyps:= [3]} (us.set 9 (.slice (some ⟨X.heap.size,0,none⟩) 1 1)) X1/\Bk X1 g (us.set 9 (.slice (some ⟨X.heap.size,0,none⟩) 1 1))/\OnlyB g (X.alloc (.cells #[.int .i64 3] 3)) X1:=by
 obtain⟨a1,a2,a3,⟨s,a,n,c,b1,b2,b3⟩,⟨s',a',n',c',b1',b2',b3'⟩,a4,a5,ao,cc,a6,a7⟩:=V;have e0:Ext X (X.alloc (.cells #[.int .i64 3] 3)):=(Ext.refl X).alloc _;obtain⟨O,B1⟩:=(B.ext e0).setO 9 (by omega) (.slice (some ⟨X.heap.size,0,none⟩) 1 1) (a3 _ (List.getElem_mem _));rw[hX]at O B1;have hm:∀u∈us.set 9 (.slice (some ⟨X.heap.size,0,none⟩) 1 1),u∈us\/u=.slice (some ⟨X.heap.size,0,none⟩) 1 1:=λu hu=>List.mem_or_eq_of_mem_set hu
 have hne:∀(j:Nat) (u:Value),j≠9->us[j]? =some u->(us.set 9 (.slice (some ⟨X.heap.size,0,none⟩) 1 1))[j]? =some u:=λj u hj hu=>by rw[List.getElem?_set_ne (by omega)];exact hu
 refine⟨⟨by rw[List.length_set];exact a1,List.all_eq_true.2 λu hu=>(hm u hu).elim (λh=>List.all_eq_true.1 a2 u h) (λh=>by rw[h];rfl),λu hu=>(hm u hu).elim (a3 u) (λh=>by rw[h];exact NoWord.slice _ _ _),
  ⟨s,a,n,c,hne _ _ dcx b1,hne _ _ dcx b2,IsI.gstb _ _ _ _ _ O.gr (b3.ext e0)⟩,⟨s',a',n',c',hne _ _ dcx b1',hne _ _ dcx b2',IsI.gstb _ _ _ _ _ O.gr (b3'.ext e0)⟩,hne _ _ dcx a4,hne _ _ dcx a5,_,1,
  by rw[List.getElem?_set_self (by omega)];rfl,λ_=>⟨X.heap.size,rfl,by rw[O.size,World.size_alloc];exact Nat.lt_succ_self _,h6,h7,λj x hj=>?_⟩⟩,B1,O⟩
 have hg:g≠X.heap.size:=by have:=B.lt;omega
 match j,hj with
 | 0,hj=>
  have hx:x=3:=by simpa using hj.symm
  subst hx;rw[World.cell?_of_block (w:=X.alloc (.cells #[.int .i64 3] 3)) (a:=⟨X.heap.size,0+0,none⟩) (O.block _ (λh=>hg h.symm))];exact(Bk.new X #[.int .i64 3] _).c 0 _ rfl
 |j+1,hj=>simp at hj
def VcB(g:Nat)(X:World):Prop:=∃(us:List Value) (d:qJ),Bk X g us/\us[9]? =some (.slice none 0 0)/\d.lo<=d.hi/\ -5<=d.lo/\d.hi<=13/\d.hyps= []/\∀v6 v7,VcX v6 v7 d us X
theorem VcB.of{g:Nat}{X:World}{p1 p2 p3 p4 f:Bool}{q1 q2 q3 q4:Option Addr}{m1 m2 m3 m4 k1 k2 k3 k4:Nat}{lo hi er:Int}(B:Bk X g [.bool p1,.slice q1 m1 k1,.bool p2,.slice q2 m2 k2,.bool p3,.slice q3 m3 k3,.bool p4,.slice q4 m4 k4,.bool f,.slice none 0 0,.int .i64 er])
  (h1:IsI 128 lo (.agg #[.bool p1,.slice q1 m1 k1]) X) (h3:IsI 128 hi (.agg #[.bool p3,.slice q3 m3 k3]) X) (hb:lo<=hi/\ -5<=lo/\hi<=13):VcB g X:=
 ⟨_,⟨⟨#[]⟩,lo,hi,f, [],er⟩,B,rfl,hb.1,hb.2.1,hb.2.2,rfl,λ_ _=>⟨rfl,rfl,nwVl,⟨_,_,_,_,rfl,rfl,h1⟩,⟨_,_,_,_,rfl,rfl,h3⟩,rfl,rfl,_,_,rfl,λh=>absurd rfl h⟩⟩
end
section
open Go Go.RowKit
def SrcR(m:Nat)(news:List Value)(x:Value)(w:World):Prop:=(x=.slice none 0 0/\m=0/\news= [])\/∃g f c,x=.slice (some ⟨g,f,none⟩) m c/\∀j u,news[j]? =some u->World.cell? w ⟨g,f+j,none⟩=some u
theorem SrcR.ext{m:Nat}{news:List Value}{x:Value}{w w':World}(h:SrcR m news x w)(e:Ext w w'):SrcR m news x w':=h.imp id λ⟨g,f,c,h1,h2⟩=>⟨g,f,c,h1,λj u hj=>e.cell (h2 j u hj)⟩
theorem SrcR.new(w:World)(cs:Array Value)(t m c:Nat):SrcR m cs.toList (.slice (some ⟨w.heap.size,0,none⟩) m c) (w.alloc (.cells cs t)):=.inr ⟨_,0,c,rfl,λj u hj=>by rw[Nat.zero_add];exact cells_newE w cs t _ rfl j u hj⟩
theorem wp_rwnS{P:Program}{w:World}{o:Oper}{a:Act}{Q:Exit->Act->World->Prop}{K:Act->World->Prop}(s x:Operand)(t:TypeId)
  (ho:o.op=.call {callee:=.builtin .append,args:= #[s,x],argTypes:= #[t,t]}) (base e:Nat) (z:Value) (k bytes:Nat) (ht:P.underlying t=some (.slice e)) (hinfo:(P.info? e).map (λi=>(i.zero,i.size,i.bytes))=some (some z,k,bytes))
  (hzs:z.cells.size=k) (hk:0<k) (hzn:∀u∈z.cells.toList,NoWord u) (v:Value) (n:Nat) (xs:List Value) (hs:a.eval s=v) (hown:Rwg e k base w v n xs) (hnw:NwB w v) (m:Nat) (news:List Value) (xv:Value) (hx:a.eval x=xv) (hl:news.length=m*k)
  (hnews:SrcR m news xv w) (h1:∀u∈news,u.oneCell'=true) (hnn:∀u∈news,NoWord u) (h63:n+m<=140737488355328) (hbytes:(n+m)*bytes<=140737488355328) (hbase:base<=w.heap.size)
  (h:∀v' w',Rwg e k base w' v' (n+m) (xs++news)->NwB w' v'->w.grownBy w' v.ownBlock->Gr w w'->Below base w w'->(v'.ownBlock=v.ownBlock\/v'.ownBlock=some w.heap.size)->K (a.put o.dst v') w'):
  Oper.wp P o a w K Q:=by
 obtain⟨i,hi,hz0,hz1,hz2⟩:=info_parts hinfo;rcases hnews with⟨rfl,rfl,rfl⟩| ⟨g,f,c,rfl,hc⟩
 ·have hr:=run_append_owned_none (P:=P) (w:=w) base t o.type e i k ht hi v n xs hown;unfold Oper.wp execOp;simp only[ho,resolve,invoke,builtin,Sem.run_bind,Sem.run_pure,Result.andThen_ok,List.map_toArray,List.map_cons,List.map_nil,hs,hx,hr];exact h v w (by simpa using hown) hnw ⟨rfl,rfl,rfl,jP _,λ_ _ _=>rfl⟩ (Gr.refl w) (jS base w) (.inl rfl)
 ·obtain⟨v',w',hr,h2,h3,h5,h6⟩:=run_append_nw (P:=P) w base t o.type e i z k bytes ht hi hz0 hz1 hz2 hzs hk hzn v n xs hown hnw ⟨g,f,none⟩ m c news hl (λj u hj=>by have:=hc j u hj;cases j <;> simpa [Addr.add]using this) h1 hnn yl hbytes hbase;unfold Oper.wp execOp;simp only[ho,resolve,invoke,builtin,Sem.run_bind,Sem.run_pure,Result.andThen_ok,List.map_toArray,List.map_cons,List.map_nil,hs,hx,hr];refine h v' w' h2 h6 h3 (gr_of_grown h3 hnw) ((jS base w).grown h3 hbase λb hb=>?_) h5;obtain⟨_,⟨hv,_⟩| ⟨g,cap,cur,hv,hb2,_⟩⟩:=hown
  ·rw[hv]at hb;cases hb
  ·rw[hv]at hb;cases hb;exact hb2
theorem wpl_rwnS{P:Program}{w:World}{ops:Array Oper}{rest:List Oper}{o:Oper}{a:Act}{Q:Exit->Act->World->Prop}(hgd:o.guard=none)(s x:Operand)(t:TypeId)
  (ho:o.op=.call {callee:=.builtin .append,args:= #[s,x],argTypes:= #[t,t]}) (base e:Nat) (z:Value) (k bytes:Nat) (ht:P.underlying t=some (.slice e)) (hinfo:(P.info? e).map (λi=>(i.zero,i.size,i.bytes))=some (some z,k,bytes))
  (hzs:z.cells.size=k) (hk:0<k) (hzn:∀u∈z.cells.toList,NoWord u) (v:Value) (n:Nat) (xs:List Value) (hs:a.eval s=v) (hown:Rwg e k base w v n xs) (hnw:NwB w v) (m:Nat) (news:List Value) (xv:Value) (hx:a.eval x=xv) (hl:news.length=m*k)
  (hnews:SrcR m news xv w) (h1:∀u∈news,u.oneCell'=true) (hnn:∀u∈news,NoWord u) (h63:n+m<=140737488355328) (hbytes:(n+m)*bytes<=140737488355328) (hbase:base<=w.heap.size)
  (h:∀v' w',Rwg e k base w' v' (n+m) (xs++news)->NwB w' v'->w.grownBy w' v.ownBlock->Gr w w'->Below base w w'->(v'.ownBlock=v.ownBlock\/v'.ownBlock=some w.heap.size)->wpList P ops Q rest (a.put o.dst v') w'):
  wpList P ops Q (o ::rest) a w:=
 wpList_plain hgd λ_K hK=>wp_rwnS s x t ho base e z k bytes ht hinfo hzs hk hzn v n xs hs hown hnw m news xv hx hl hnews h1 hnn h63 hbytes hbase λv' w' q1 q2 q3 q4 q5 q6=>hK _ _ (h v' w' q1 q2 q3 q4 q5 q6)
end
end Go.Proofs.YtkeikfekkdplgaaGreatDoor
