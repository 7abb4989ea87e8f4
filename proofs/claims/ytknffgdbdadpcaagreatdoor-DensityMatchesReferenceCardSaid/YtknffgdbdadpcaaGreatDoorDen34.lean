/-
  The law DensityMatchesReference: its walk. (Printed by wip/gen/law43.py.)
  The reference of package density: prime, factor. (Printed by wip/gen/den34.py.)
-/
import Derived.Test.YtknffgdbdadpcaaGreatDoorDen42
import Derived.Test.YtknffgdbdadpcaaGreatDoorPri6
import Derived.Test.YtknffgdbdadpcaaGreatDoorDen17r
import Derived.Test.YtknffgdbdadpcaaGreatDoorSam
import Derived.Test.YtknffgdbdadpcaaGreatDoorDen33
import Derived.Test.YtknffgdbdadpcaaGreatDoorDen23
namespace Go.Proofs.YtknffgdbdadpcaaGreatDoor
open Go Go.RowKit
open Go.Proofs.Tryz
theorem zck{P:Prop}(h:P:=by exact ldI S 0 (w.heap.size+1) 0 (qD 4) qG):P:=h
theorem zcv{P:Prop}(h:P:=by exact ldI S 1 (w.heap.size) 0 (qD 3) qG):P:=h
set_option maxRecDepth 100000
set_option maxHeartbeats 16000000
def AuO(K:Nat):Option (ByteArray×Rat)->Value->World->Prop
  |none=>IsV qY
  |some (nm,t)=>AuV nm K 1 t
theorem AuO.stb(K:Nat):∀o,Stb (AuO K o)
  |none=>IsV.stb _
  |some (_,_)=>AuV.stb _ _ _ _
theorem AuO.shape{K:Nat}{o:Option (ByteArray×Rat)}{v:Value}{W:World}(h:AuO K o v W):∃ao n0 c0 s a n c s' a' n' c',v=.agg #[.slice ao n0 c0,.bool s,.slice a n c,.bool s',.slice a' n' c']:=by
  cases o with
  |none=>exact⟨_,_,_,_,_,_,_,_,_,_,_,h⟩
  | some p=>
    obtain⟨g,s,a,n,c,s',a',n',c',h1,_,_⟩:=(h:AuV p.1 K 1 p.2 v W);exact⟨_,_,_,_,_,_,_,_,_,_,_,h1⟩
theorem auSame_o{o:Option (ByteArray×Rat)}{x y:Value}{w:World}(hx:AuO 4 o x w)(hy:AuO 2 o y w):Calls prog 21 #[x,y] w (Ret w (IsV (.bool true))):=by
  cases o with
  | none=>
    obtain rfl:x=qY:=hx;obtain rfl:y=qY:=hy;exact auSame_nil w
  |some p=>exact auSame_f (hx:AuV p.1 4 1 p.2 x w) (hy:AuV p.1 2 1 p.2 y w) dcx
structure AgrN (w0:World) (z z2 p:Int):Prop where
  lo:∃a e:Int,∀(x y:Value) (w:World),Ext w0 w->IsI 2 z x w->IsI 2 z2 y w->Calls prog 10 #[x,y,.int .i64 p] w (Ret w (IsT2 (iV a) (iV e)))/\Calls prog 11 #[x,y,.int .i64 p] w (Ret w (IsT2 (iV a) (iV e)))
  tot:∃a e:Int,∀(x y:Value) (w:World),Ext w0 w->IsI 2 z x w->IsI 2 z2 y w->Calls prog 12 #[x,y] w (Ret w (IsT2 (iV a) (iV e)))/\Calls prog 13 #[x,y] w (Ret w (IsT2 (iV a) (iV e)))
  ge:∃(ks:List Int) (e:Int),∀(x y:Value) (w:World),Ext w0 w->IsI 2 z x w->IsI 2 z2 y w->Calls prog 14 #[x,y] w (Ret w (IsT2 (IRx ks) (iV e)))/\Calls prog 15 #[x,y] w (Ret w (IsT2 (IRx ks) (iV e)))
  au:∃(o:Option (ByteArray×Rat)) (e:Int),∀(x y:Value) (w:World),Ext w0 w->IsI 2 z x w->IsI 2 z2 y w->Calls prog 16 #[x,y] w (Ret w (IsT2 (AuO 4 o) (iV e)))/\Calls prog 17 #[x,y] w (Ret w (IsT2 (AuO 2 o) (iV e)))
  cl:∃(o:Option (ByteArray×Rat)) (e:Int),∀(x:Value) (w:World),Ext w0 w->IsI 2 z x w->Calls prog 18 #[x] w (Ret w (IsT2 (AuO 4 o) (iV e)))/\Calls prog 19 #[x] w (Ret w (IsT2 (AuO 2 o) (iV e)))
theorem ia_R2_0(g:Nat)(w:World):(Instr.indexAt 30 (.pointer (some ⟨g,0,none⟩)) (.int .i64 0)).run prog w=.ok (.pointer (some ⟨g,0,none⟩)) w:=by go_simp
theorem ia_R2_1(g:Nat)(w:World):(Instr.indexAt 30 (.pointer (some ⟨g,0,none⟩)) (.int .i64 1)).run prog w=.ok (.pointer (some ⟨g,2,none⟩)) w:=by go_simp
theorem Match_w(w:World)(d:Nat)(v1 v2 v3 v4 v5 v6 v7 v8:Value)(sX sY:Bool)(aX aY:Option Addr)(nX cX nY cY:Nat)(xX xY:List Nat)(hX:Wd w aX nX cX xX)(hY:Wd w aY nY cY xY)(p:Int)(ht:Tab w)(hs:Sg w)(hz:Tzt w)(T:Nat)(y0 y1:Int)(HD:Hid (d<65536))(HT:Hid (dsz d=T))(HY0:Hid (rawZ sX xX 2=y0))(HY1:Hid (rawZ sY xY 2=y1))(HAG:Hid (∀z,z= -(T:Int)\/z=y0->AgrN w z y1 p)):Calls prog 3 #[.agg #[.int .u16 (d:Int),v1,v2,v3,v4,v5,v6,v7,v8],.agg #[.bool sX,.slice aX nX cX,.bool sY,.slice aY nY cY],.int .i64 p] w (Ret w (IsV (.bool true))):=by
  obtain⟨W,hW,S,cB0,cB1,cB2,cB3,cB4,cB5,cB6,cB7,cB8⟩:∃W,W=(w.alloc (.cells #[.int .u16 (d:Int),v1,v2,v3,v4,v5,v6,v7,v8] 26)).alloc (.cells #[.bool sX,.slice aX nX cX,.bool sY,.slice aY nY cY] 30)/\Sto w W [((w.heap.size+1,1),IsR sY xY),((w.heap.size+1,0),IsR sX xX)]/\World.cell? W ⟨w.heap.size,0,none⟩=some (.int .u16 (d:Int))/\World.cell? W ⟨w.heap.size,1,none⟩=some (v1)/\World.cell? W ⟨w.heap.size,2,none⟩=some (v2)/\World.cell? W ⟨w.heap.size,3,none⟩=some (v3)/\World.cell? W ⟨w.heap.size,4,none⟩=some (v4)/\World.cell? W ⟨w.heap.size,5,none⟩=some (v5)/\World.cell? W ⟨w.heap.size,6,none⟩=some (v6)/\World.cell? W ⟨w.heap.size,7,none⟩=some (v7)/\World.cell? W ⟨w.heap.size,8,none⟩=some (v8):=⟨_,rfl,(((Sto.start w).mono ((Ext.refl _).alloc _)).new2 (w.heap.size+1) zh sX sY aX aY nX cX nY cY 30 (IsR sX xX) (IsR sY xY) (IsR.gstb _ _) (⟨_,_,_,rfl,hX.ext ((Ext.refl _).alloc _)⟩) (IsR.gstb _ _) (⟨_,_,_,rfl,hY.ext ((Ext.refl _).alloc _)⟩)),((Ext.refl _).alloc _).cell (qH _ _ zh _ _ _ _ rfl),((Ext.refl _).alloc _).cell (qH _ _ zh _ _ _ _ rfl),((Ext.refl _).alloc _).cell (qH _ _ zh _ _ _ _ rfl),((Ext.refl _).alloc _).cell (qH _ _ zh _ _ _ _ rfl),((Ext.refl _).alloc _).cell (qH _ _ zh _ _ _ _ rfl),((Ext.refl _).alloc _).cell (qH _ _ zh _ _ _ _ rfl),((Ext.refl _).alloc _).cell (qH _ _ zh _ _ _ _ rfl),((Ext.refl _).alloc _).cell (qH _ _ zh _ _ _ _ rfl),((Ext.refl _).alloc _).cell (qH _ _ zh _ _ _ _ rfl)⟩;clear hX hY;go_enter func3,ntmps3;go_upto_region 1 with fail;rw[<-hW];clear hW;refine rgs 2 [some 32,some 7] [IsV (.bool true),IsV (.bool true)] [] ?_ ?_
  · refine Rc (cl0 (en func7) (λw' hE=>examplesR_f w' (ht.ext (S.ext.trans hE)) (hs.ext (S.ext.trans hE)) (hz.ext (S.ext.trans hE)))) ?_
    refine Rc (mv (qA 0 32)) ?_;exact rn0
  intro v W1 e1 hH _;replace S:=S.mono e1;replace cB0:=e1.cell cB0;replace cB1:=e1.cell cB1;replace cB2:=e1.cell cB2;replace cB3:=e1.cell cB3;replace cB4:=e1.cell cB4;replace cB5:=e1.cell cB5;replace cB6:=e1.cell cB6;replace cB7:=e1.cell cB7;replace cB8:=e1.cell cB8;simp only[lxE,Nat.reduceAdd];rw[show v 1=.bool true from hH 1 dcx];clear hH e1;refine zF ?_;go_upto_region 2 with fail;refine rgs 2 [some 33,some 34] [IsV (.bool true),IsV (.bool false)] [] ?_ ?_
  · refine Rc xa ?_
    refine Rc (nt (qC 0 33)) ?_;exact rn0
  intro v W2 e1 hH _;replace S:=S.mono e1;replace cB0:=e1.cell cB0;replace cB1:=e1.cell cB1;replace cB2:=e1.cell cB2;replace cB3:=e1.cell cB3;replace cB4:=e1.cell cB4;replace cB5:=e1.cell cB5;replace cB6:=e1.cell cB6;replace cB7:=e1.cell cB7;replace cB8:=e1.cell cB8;simp only[lxE,Nat.reduceAdd];rw[show v 1=.bool false from hH 1 dcx];clear hH e1;refine zF ?_;go_upto_region 4 with fail;refine rg 7 [some 35,some 36,some 37,some 38,some 39,some 40,some 8] [IsV (.agg #[.int .u16 (d:Int),v1,v2,v3,v4,v5,v6,v7,v8]),IsI 2 (-(T:Int)),IsV (.pointer (some ⟨w.heap.size+1,0,none⟩)),IsR sX xX,IsI 2 y0,IsLi 2 [-(T:Int),y0],IsLi 2 [-(T:Int),y0]] [] 0 ?_ ?_ (hst:=by repeat' (first|exact trivial|exact IsLi.stb _ _|exact IsR.stb _ _|exact IsV.stb _|exact IsI.stb _ _|exact IsBo.stb _ _|apply IsT2.stb|apply IsT3.stb|apply IsJ.stb|apply IsQ.stb|apply IsF.stb|apply zJ))
  · refine Rc (ldRaw (raw_run ⟨cB0,cB1,cB2,cB3,cB4,cB5,cB6,cB7,cB8⟩) (qD 3)) ?_
    refine Rc (cl1 (en func8) (qA (fP:=IsV (.agg #[.int .u16 (d:Int),v1,v2,v3,v4,v5,v6,v7,v8])) 0 35) (λx0 w' hE d0=>by{obtain rfl:x0=.agg #[.int .u16 (d:Int),v1,v2,v3,v4,v5,v6,v7,v8]:=d0;exact(by have hh:=disc_f w' d v1 v2 v3 v4 v5 v6 v7 v8 HD.out;rw[HT.out]at hh;exact hh)})) ?_;refine Rc (ix (ia_R2_0 (w.heap.size+1)) (qD 4) qE) ?_;refine Rc (ldI S 1 (w.heap.size+1) 0 (qA 2 37) ld_Raw) ?_;refine Rc (cl2 (en func9) (qA (fP:=IsR sX xX) 3 38) qE (λx0 x1 w' hE d0 d1=>by{obtain rfl:x1=.int .i64 2:=d1;exact(by have hh:=Made_f d0 (K:=2) dcx;rw[HY0.out]at hh;exact hh)})) ?_;refine Rc (bI2 (K:=2) (qC 1 36) (qC 4 39) dcx dcx) ?_;refine Rc (mv (qA 5 40)) ?_;exact rn0
  intro v W4 e1 hH _;replace S:=S.mono e1;obtain⟨u8,hu8,k8⟩:∃vv_,v 6=vv_/\(IsLi 2 [-(T:Int),y0]) vv_ W4:=⟨_,rfl,hH 6 dcx⟩;simp only[lxE,Nat.reduceAdd];rw[hu8];clear hu8 hH e1;refine zO za ?_ _;clear cB0 cB1 cB2 cB3 cB4 cB5 cB6 cB7 cB8;go_upto_region 5 with fail;have HK8:=hid k8;have EA:=Ext.refl W4;have hl:=hid S.lt;have hw:=S.ext.size;have EAz:=EA.size;refine rgs 4 [some 41,some 42,some 43,some 9] [IsV (.pointer (some ⟨w.heap.size+1,2,none⟩)),IsR sY xY,IsI 2 y1,IsBo W4 1] [3] ?_ ?_
  · refine Rc (ix (ia_R2_1 (w.heap.size+1)) (qD 4) qE) ?_
    refine Rc (ldI S 0 (w.heap.size+1) 1 (qA 0 41) ld_Raw) ?_;refine Rc (cl2 (en func9) (qA (fP:=IsR sY xY) 1 42) qE (λx0 x1 w' hE d0 d1=>by{obtain rfl:x1=.int .i64 2:=d1;exact(by have hh:=Made_f d0 (K:=2) dcx;rw[HY1.out]at hh;exact hh)})) ?_;refine Rc zdi ?_;exact rn0
  intro v W5 e1 hH _;replace S:=S.mono e1;replace EA:=EA.trans e1;replace k8:=(IsLi.stb _ _) _ _ _ e1 k8;have h43:=hH 2 dcx;obtain⟨g9,v3,q2,b1,_⟩:=(hH 3 dcx:IsBo W4 1 (v 3) W5);replace S:=S.addN 1 (ApartO.old hl.out q2) (zN hw q2) b1;simp only[newF,List.cons_append,List.nil_append]at S;simp only[lxE,Nat.reduceAdd];rw[v3];clear b1 hl hw v3 hH e1
  try simp only[dxE]
  (with_reducible refine stL ?_ zfe);intro KK hKK;refine stIe S 0 (g9) 0 h43 qJ (λW5a S2 G2 X2=>hKK _ _ ?_) rfl
  replace EA:=X2 _ EA (zN EAz q2);clear X2;replace S:=S2;clear S2 G2 hKK KK h43;simp only[u0x]at S;refine zF ?_;go_upto_region 6 with fail;obtain⟨gl,hu8,hq8⟩:=IsLi.stb _ _ _ _ _ EA HK8.out;clear k8 HK8 EA;replace hu8:u8=.slice (some ⟨gl,0,none⟩) 2 2:=hu8;subst hu8;have HQ:=hid hq8;have S5:=hid S;clear S hq8;go_upto_region 7 with fail
  go_loopg [10] 2 (λgk v10 wr=>∃i:Nat,v10=.int .i64 (i:Int)/\i+gk=2/\Hid (Ext W5a wr))
  case atStart=>exact⟨0,rfl,rfl,hid (Ext.refl _)⟩
  case round=>
    obtain⟨i,rfl,hi,HE⟩:=hrel;rcases zI gk with h0|h0
    · obtain rfl:i=2:=by omega
      clear hi h0;go_wp2_with fail;exact zD (v:=.bool true) (by simp[results,results3,go_sem]) rfl ⟨_,rfl,S5.out.ext.trans HE.out,rfl⟩
    · obtain⟨z,hz,hzm⟩:∃z:Int, [-(T:Int),y0][i]? =some z/\(z= -(T:Int)\/z=y0):=by
        rcases(show i=0\/i=1 by omega)with rfl|rfl
        ·exact⟨_,rfl,.inl rfl⟩
        ·exact⟨_,rfl,.inr rfl⟩
      obtain⟨sa,aa,na,ca,B,hb⟩:=HQ.out i z hz;have B:=B.ext HE.out;have h11:=hb.ext HE.out;have L0:World.cell? wr ⟨gl,2*i,none⟩=some (.bool sa):=B.c0;have L1:World.cell? wr ⟨gl,2*i+1,none⟩=some (.slice aa na ca):=B.c1;have L0':World.cell? wr ⟨gl,i*2,none⟩=some (.bool sa):=by rw[Nat.mul_comm];exact L0
      have L1':World.cell? wr ⟨gl,i*2+1,none⟩=some (.slice aa na ca):=by rw[Nat.mul_comm];exact L1
      have hi2:i<2:=zb
      have hi3:(i:Int)<2:=zb
      have hi4:0<=(i:Int):=zb
      have AG:=HAG.out z hzm;have HI:=hid (zJ hi (show IntKind.i64.wrap ((i:Int)+1)=(i:Int)+1 by simp only[IntKind.wrap_i64];omega));clear hi h0 B hb hz hzm;go_upto_region 10 with fail;obtain⟨w9,hw9⟩:∃ww,World.alloc wr (.cells #[.bool sa,.slice aa na ca] 33)=ww:=⟨_,rfl⟩;have X9:Ext wr w9:=hw9▸(Ext.refl _).alloc _;have M0:World.cell? w9 ⟨wr.heap.size,0,none⟩=some (.bool sa):=hw9▸qH _ _ rfl _ _ _ _ rfl;have M1:World.cell? w9 ⟨wr.heap.size,1,none⟩=some (.slice aa na ca):=hw9▸qH _ _ rfl _ _ _ _ rfl;rw[hw9];clear hw9 L0 L1 L0' L1';have h11:=h11.ext X9;obtain⟨s9,a9,n9,c9,B9,h9⟩:=(S5.out.mono (HE.out.trans X9)).at 0 (g9) 0 (IsI 2 (y1)) rfl;have N0:World.cell? w9 ⟨g9,0,none⟩=some (.bool s9):=B9.c0;have N1:World.cell? w9 ⟨g9,1,none⟩=some (.slice a9 n9 c9):=B9.c1;have EW:=hid (HE.out.trans X9);have EA:=S5.out.ext.trans EW.out;clear B9 X9;obtain⟨aL,eL,hLo⟩:=AG.lo;obtain⟨aT,eT,hTo⟩:=AG.tot;obtain⟨ks,eG,hGe⟩:=AG.ge;obtain⟨oA,eA,hAu⟩:=AG.au;obtain⟨oC,eC,hCl⟩:=AG.cl;clear AG;have HLo:=hid hLo;have HTo:=hid hTo;have HGe:=hid hGe;have HAu:=hid hAu;have HCl:=hid hCl;clear hLo hTo hGe hAu hCl;go_upto_region 11 with(go_at_call 10;go_must (refine zC ((HLo.out _ _ _ EA h11 h9).1) ?_;rintro e w11 ⟨_,rfl,F11,_,_,rfl,rfl,rfl⟩));replace M0:=Ext.cell F11 M0;replace M1:=Ext.cell F11 M1;replace N0:=Ext.cell F11 N0;replace N1:=Ext.cell F11 N1;replace h11:=IsI.ext h11 F11;replace h9:=IsI.ext h9 F11;replace EA:=EA.trans F11;go_upto_region 12 with(go_at_call 11;go_must (refine zC ((HLo.out _ _ _ EA h11 h9).2) ?_;rintro e w12 ⟨_,rfl,F12,_,_,rfl,rfl,rfl⟩));replace M0:=Ext.cell F12 M0;replace M1:=Ext.cell F12 M1;replace N0:=Ext.cell F12 N0;replace N1:=Ext.cell F12 N1;replace h11:=IsI.ext h11 F12;replace h9:=IsI.ext h9 F12;replace EA:=EA.trans F12;go_upto_region 13 with(go_at_call 12;go_must (refine zC ((HTo.out _ _ _ EA h11 h9).1) ?_;rintro e w13 ⟨_,rfl,F13,_,_,rfl,rfl,rfl⟩));replace M0:=Ext.cell F13 M0;replace M1:=Ext.cell F13 M1;replace N0:=Ext.cell F13 N0;replace N1:=Ext.cell F13 N1;replace h11:=IsI.ext h11 F13;replace h9:=IsI.ext h9 F13;replace EA:=EA.trans F13;go_upto_region 14 with(go_at_call 13;go_must (refine zC ((HTo.out _ _ _ EA h11 h9).2) ?_;rintro e w14 ⟨_,rfl,F14,_,_,rfl,rfl,rfl⟩));replace M0:=Ext.cell F14 M0;replace M1:=Ext.cell F14 M1;replace N0:=Ext.cell F14 N0;replace N1:=Ext.cell F14 N1;replace h11:=IsI.ext h11 F14;replace h9:=IsI.ext h9 F14;replace EA:=EA.trans F14;go_upto_region 15 with(go_at_call 14;go_must (refine zC ((HGe.out _ _ _ EA h11 h9).1) ?_;rintro e w15 ⟨_,rfl,F15,kv1,_,rfl,hk1,rfl⟩));replace M0:=Ext.cell F15 M0;replace M1:=Ext.cell F15 M1;replace N0:=Ext.cell F15 N0;replace N1:=Ext.cell F15 N1;replace h11:=IsI.ext h11 F15;replace h9:=IsI.ext h9 F15;replace EA:=EA.trans F15;go_upto_region 16 with(go_at_call 15;go_must (refine zC ((HGe.out _ _ _ EA h11 h9).2) ?_;rintro e w16 ⟨_,rfl,F16,kv2,_,rfl,hk2,rfl⟩));replace M0:=Ext.cell F16 M0;replace M1:=Ext.cell F16 M1
      replace N0:=Ext.cell F16 N0;replace N1:=Ext.cell F16 N1;replace h11:=IsI.ext h11 F16;replace h9:=IsI.ext h9 F16;replace EA:=EA.trans F16;go_upto_region 17 with(go_at_call 16;go_must (refine zC ((HAu.out _ _ _ EA h11 h9).1) ?_;rintro e w17 ⟨_,rfl,F17,av1,_,rfl,ha1,rfl⟩;obtain⟨ao1,na1,ca1,sA1,aA1,nA1,cA1,sB1,aB1,nB1,cB1,rfl⟩:=ha1.shape;skip));obtain⟨v17w,hv17w⟩:∃ww,World.alloc w17 (.cells #[.slice ao1 na1 ca1,.bool sA1,.slice aA1 nA1 cA1,.bool sB1,.slice aB1 nB1 cB1] 48)=ww:=⟨_,rfl⟩;have X17:Ext w17 v17w:=hv17w▸(Ext.refl _).alloc _;have A10:=hv17w▸qH w17 w17.heap.size rfl #[.slice ao1 na1 ca1,.bool sA1,.slice aA1 nA1 cA1,.bool sB1,.slice aB1 nB1 cB1] 48 0 _ rfl;have A11:=hv17w▸qH w17 w17.heap.size rfl #[.slice ao1 na1 ca1,.bool sA1,.slice aA1 nA1 cA1,.bool sB1,.slice aB1 nB1 cB1] 48 1 _ rfl;have A12:=hv17w▸qH w17 w17.heap.size rfl #[.slice ao1 na1 ca1,.bool sA1,.slice aA1 nA1 cA1,.bool sB1,.slice aB1 nB1 cB1] 48 2 _ rfl;have A13:=hv17w▸qH w17 w17.heap.size rfl #[.slice ao1 na1 ca1,.bool sA1,.slice aA1 nA1 cA1,.bool sB1,.slice aB1 nB1 cB1] 48 3 _ rfl;have A14:=hv17w▸qH w17 w17.heap.size rfl #[.slice ao1 na1 ca1,.bool sA1,.slice aA1 nA1 cA1,.bool sB1,.slice aB1 nB1 cB1] 48 4 _ rfl;rw[hv17w];clear hv17w;replace M0:=Ext.cell F17 M0;replace M1:=Ext.cell F17 M1;replace N0:=Ext.cell F17 N0;replace N1:=Ext.cell F17 N1;replace h11:=IsI.ext h11 F17;replace h9:=IsI.ext h9 F17;replace EA:=EA.trans F17;replace M0:=Ext.cell X17 M0;replace M1:=Ext.cell X17 M1;replace N0:=Ext.cell X17 N0;replace N1:=Ext.cell X17 N1;replace h11:=IsI.ext h11 X17;replace h9:=IsI.ext h9 X17;replace EA:=EA.trans X17;go_upto_region 18 with(go_at_call 17;go_must (refine zC ((HAu.out _ _ _ EA h11 h9).2) ?_;rintro e w18 ⟨_,rfl,F18,av2,_,rfl,ha2,rfl⟩;obtain⟨ao2,na2,ca2,sA2,aA2,nA2,cA2,sB2,aB2,nB2,cB2,rfl⟩:=ha2.shape;skip));obtain⟨v18w,hv18w⟩:∃ww,World.alloc w18 (.cells #[.slice ao2 na2 ca2,.bool sA2,.slice aA2 nA2 cA2,.bool sB2,.slice aB2 nB2 cB2] 48)=ww:=⟨_,rfl⟩;have X18:Ext w18 v18w:=hv18w▸(Ext.refl _).alloc _;have A20:=hv18w▸qH w18 w18.heap.size rfl #[.slice ao2 na2 ca2,.bool sA2,.slice aA2 nA2 cA2,.bool sB2,.slice aB2 nB2 cB2] 48 0 _ rfl;have A21:=hv18w▸qH w18 w18.heap.size rfl #[.slice ao2 na2 ca2,.bool sA2,.slice aA2 nA2 cA2,.bool sB2,.slice aB2 nB2 cB2] 48 1 _ rfl;have A22:=hv18w▸qH w18 w18.heap.size rfl #[.slice ao2 na2 ca2,.bool sA2,.slice aA2 nA2 cA2,.bool sB2,.slice aB2 nB2 cB2] 48 2 _ rfl;have A23:=hv18w▸qH w18 w18.heap.size rfl #[.slice ao2 na2 ca2,.bool sA2,.slice aA2 nA2 cA2,.bool sB2,.slice aB2 nB2 cB2] 48 3 _ rfl;have A24:=hv18w▸qH w18 w18.heap.size rfl #[.slice ao2 na2 ca2,.bool sA2,.slice aA2 nA2 cA2,.bool sB2,.slice aB2 nB2 cB2] 48 4 _ rfl;rw[hv18w];clear hv18w;replace M0:=Ext.cell F18 M0;replace M1:=Ext.cell F18 M1;replace N0:=Ext.cell F18 N0;replace N1:=Ext.cell F18 N1;replace h11:=IsI.ext h11 F18;replace h9:=IsI.ext h9 F18;replace EA:=EA.trans F18
      replace M0:=Ext.cell X18 M0;replace M1:=Ext.cell X18 M1;replace N0:=Ext.cell X18 N0;replace N1:=Ext.cell X18 N1;replace h11:=IsI.ext h11 X18;replace h9:=IsI.ext h9 X18;replace EA:=EA.trans X18;go_upto_region 19 with(go_at_call 18;go_must (refine zC ((HCl.out _ _ EA h11).1) ?_;rintro e w19 ⟨_,rfl,F19,av3,_,rfl,ha3,rfl⟩;obtain⟨ao3,na3,ca3,sA3,aA3,nA3,cA3,sB3,aB3,nB3,cB3,rfl⟩:=ha3.shape;skip));obtain⟨v19w,hv19w⟩:∃ww,World.alloc w19 (.cells #[.slice ao3 na3 ca3,.bool sA3,.slice aA3 nA3 cA3,.bool sB3,.slice aB3 nB3 cB3] 48)=ww:=⟨_,rfl⟩;have X19:Ext w19 v19w:=hv19w▸(Ext.refl _).alloc _;have A30:=hv19w▸qH w19 w19.heap.size rfl #[.slice ao3 na3 ca3,.bool sA3,.slice aA3 nA3 cA3,.bool sB3,.slice aB3 nB3 cB3] 48 0 _ rfl;have A31:=hv19w▸qH w19 w19.heap.size rfl #[.slice ao3 na3 ca3,.bool sA3,.slice aA3 nA3 cA3,.bool sB3,.slice aB3 nB3 cB3] 48 1 _ rfl;have A32:=hv19w▸qH w19 w19.heap.size rfl #[.slice ao3 na3 ca3,.bool sA3,.slice aA3 nA3 cA3,.bool sB3,.slice aB3 nB3 cB3] 48 2 _ rfl;have A33:=hv19w▸qH w19 w19.heap.size rfl #[.slice ao3 na3 ca3,.bool sA3,.slice aA3 nA3 cA3,.bool sB3,.slice aB3 nB3 cB3] 48 3 _ rfl;have A34:=hv19w▸qH w19 w19.heap.size rfl #[.slice ao3 na3 ca3,.bool sA3,.slice aA3 nA3 cA3,.bool sB3,.slice aB3 nB3 cB3] 48 4 _ rfl;rw[hv19w];clear hv19w;replace M0:=Ext.cell F19 M0;replace M1:=Ext.cell F19 M1;replace N0:=Ext.cell F19 N0;replace N1:=Ext.cell F19 N1;replace h11:=IsI.ext h11 F19;replace h9:=IsI.ext h9 F19;replace EA:=EA.trans F19;replace M0:=Ext.cell X19 M0;replace M1:=Ext.cell X19 M1;replace N0:=Ext.cell X19 N0;replace N1:=Ext.cell X19 N1;replace h11:=IsI.ext h11 X19;replace h9:=IsI.ext h9 X19;replace EA:=EA.trans X19;go_upto_region 20 with(go_at_call 19;go_must (refine zC ((HCl.out _ _ EA h11).2) ?_;rintro e w20 ⟨_,rfl,F20,av4,_,rfl,ha4,rfl⟩;obtain⟨ao4,na4,ca4,sA4,aA4,nA4,cA4,sB4,aB4,nB4,cB4,rfl⟩:=ha4.shape;skip));obtain⟨v20w,hv20w⟩:∃ww,World.alloc w20 (.cells #[.slice ao4 na4 ca4,.bool sA4,.slice aA4 nA4 cA4,.bool sB4,.slice aB4 nB4 cB4] 48)=ww:=⟨_,rfl⟩;have X20:Ext w20 v20w:=hv20w▸(Ext.refl _).alloc _;have A40:=hv20w▸qH w20 w20.heap.size rfl #[.slice ao4 na4 ca4,.bool sA4,.slice aA4 nA4 cA4,.bool sB4,.slice aB4 nB4 cB4] 48 0 _ rfl;have A41:=hv20w▸qH w20 w20.heap.size rfl #[.slice ao4 na4 ca4,.bool sA4,.slice aA4 nA4 cA4,.bool sB4,.slice aB4 nB4 cB4] 48 1 _ rfl;have A42:=hv20w▸qH w20 w20.heap.size rfl #[.slice ao4 na4 ca4,.bool sA4,.slice aA4 nA4 cA4,.bool sB4,.slice aB4 nB4 cB4] 48 2 _ rfl;have A43:=hv20w▸qH w20 w20.heap.size rfl #[.slice ao4 na4 ca4,.bool sA4,.slice aA4 nA4 cA4,.bool sB4,.slice aB4 nB4 cB4] 48 3 _ rfl;have A44:=hv20w▸qH w20 w20.heap.size rfl #[.slice ao4 na4 ca4,.bool sA4,.slice aA4 nA4 cA4,.bool sB4,.slice aB4 nB4 cB4] 48 4 _ rfl;rw[hv20w];clear hv20w;replace M0:=Ext.cell F20 M0;replace M1:=Ext.cell F20 M1;replace N0:=Ext.cell F20 N0;replace N1:=Ext.cell F20 N1;replace h11:=IsI.ext h11 F20
      replace h9:=IsI.ext h9 F20;replace EA:=EA.trans F20;replace M0:=Ext.cell X20 M0;replace M1:=Ext.cell X20 M1;replace N0:=Ext.cell X20 N0;replace N1:=Ext.cell X20 N1;replace h11:=IsI.ext h11 X20;replace h9:=IsI.ext h9 X20;replace EA:=EA.trans X20;replace hk1:=IRx.stb _ _ _ _ (((((((((F16).trans F17).trans X17).trans F18).trans X18).trans F19).trans X19).trans F20).trans X20) hk1;replace hk2:=IRx.stb _ _ _ _ ((((((((F17).trans X17).trans F18).trans X18).trans F19).trans X19).trans F20).trans X20) hk2;replace ha1:=AuO.stb _ _ _ _ _ (((((((X17).trans F18).trans X18).trans F19).trans X19).trans F20).trans X20) ha1;replace A10:=Ext.cell ((((((F18).trans X18).trans F19).trans X19).trans F20).trans X20) A10;replace A11:=Ext.cell ((((((F18).trans X18).trans F19).trans X19).trans F20).trans X20) A11;replace A12:=Ext.cell ((((((F18).trans X18).trans F19).trans X19).trans F20).trans X20) A12;replace A13:=Ext.cell ((((((F18).trans X18).trans F19).trans X19).trans F20).trans X20) A13;replace A14:=Ext.cell ((((((F18).trans X18).trans F19).trans X19).trans F20).trans X20) A14;replace ha2:=AuO.stb _ _ _ _ _ (((((X18).trans F19).trans X19).trans F20).trans X20) ha2;replace A20:=Ext.cell ((((F19).trans X19).trans F20).trans X20) A20;replace A21:=Ext.cell ((((F19).trans X19).trans F20).trans X20) A21;replace A22:=Ext.cell ((((F19).trans X19).trans F20).trans X20) A22;replace A23:=Ext.cell ((((F19).trans X19).trans F20).trans X20) A23;replace A24:=Ext.cell ((((F19).trans X19).trans F20).trans X20) A24;replace ha3:=AuO.stb _ _ _ _ _ (((X19).trans F20).trans X20) ha3;replace A30:=Ext.cell ((F20).trans X20) A30;replace A31:=Ext.cell ((F20).trans X20) A31;replace A32:=Ext.cell ((F20).trans X20) A32;replace A33:=Ext.cell ((F20).trans X20) A33;replace A34:=Ext.cell ((F20).trans X20) A34;replace ha4:=AuO.stb _ _ _ _ _ (X20) ha4;have hSL:=SameList_f hk1 hk2;rw[decide_eq_true rfl]at hSL;have hSA:=λ(w':World) (E:Ext v20w w')=>auSame_o (AuO.stb _ _ _ _ _ E ha1) (AuO.stb _ _ _ _ _ E ha2)
      have hSC:=λ(w':World) (E:Ext v20w w')=>auSame_o (AuO.stb _ _ _ _ _ E ha3) (AuO.stb _ _ _ _ _ E ha4)
      have EZ:=hid (EW.out.trans ((((((((((((((F11).trans F12).trans F13).trans F14).trans F15).trans F16).trans F17).trans X17).trans F18).trans X18).trans F19).trans X19).trans F20).trans X20));clear hk1 hk2 ha1 ha2 ha3 ha4 M0 M1 N0 N1 h11 h9 EA F11 F12 F13 F14 F15 F16 F17 X17 F18 X18 F19 X19 F20 X20;have hi1:=HI.out.2;go_wp2_with (first| (go_at_call 20;go_must (refine zC hSL ?_;rintro e w21 ⟨_,rfl,Y1,rfl⟩;clear hSL;have A10:=Ext.cell Y1 A10;have A11:=Ext.cell Y1 A11;have A12:=Ext.cell Y1 A12;have A13:=Ext.cell Y1 A13;have A14:=Ext.cell Y1 A14;have A20:=Ext.cell Y1 A20;have A21:=Ext.cell Y1 A21;have A22:=Ext.cell Y1 A22;have A23:=Ext.cell Y1 A23;have A24:=Ext.cell Y1 A24;have A30:=Ext.cell Y1 A30;have A31:=Ext.cell Y1 A31;have A32:=Ext.cell Y1 A32;have A33:=Ext.cell Y1 A33;have A34:=Ext.cell Y1 A34;have A40:=Ext.cell Y1 A40;have A41:=Ext.cell Y1 A41;have A42:=Ext.cell Y1 A42;have A43:=Ext.cell Y1 A43;have A44:=Ext.cell Y1 A44))| (go_at_call 21;go_must (first| (refine zC (hSA _ Y1) ?_;rintro e w22 ⟨_,rfl,Y2,rfl⟩;clear hSA;have A30:=Ext.cell Y2 A30;have A31:=Ext.cell Y2 A31;have A32:=Ext.cell Y2 A32;have A33:=Ext.cell Y2 A33;have A34:=Ext.cell Y2 A34;have A40:=Ext.cell Y2 A40;have A41:=Ext.cell Y2 A41;have A42:=Ext.cell Y2 A42;have A43:=Ext.cell Y2 A43;have A44:=Ext.cell Y2 A44)| (refine zC (hSC _ (Y1.trans Y2)) ?_;rintro e w23 ⟨_,rfl,Y3,rfl⟩;clear hSC))))
      go_roundg (gk-1)
      case measure=>have:=HI.out.1;omega
      case rel=>exact⟨i+1,by rw[zV];rfl,by have:=HI.out.1;omega,hid (((EZ.out.trans Y1).trans Y2).trans Y3)⟩
theorem rprime_f(w:World)(p:Int)(hp: -9223372036854775808<=p/\p<=1048576)(b:Bool)(hb:b=true↔2<=p/\Pr p.toNat):Calls prog 45 #[.int .i64 p] w (Ret w (IsV (.bool b))):=by
  have HB:=hid hb;have HP:=hid hp;clear hb hp;go_enter func45,ntmps45;go_wp2_with fail
  go_loopg [3] 1025 (λgk v3 wr=>∃k:Nat,v3=.int .i64 (k:Int)/\k+gk=1027/\2<=k/\(2<=p->jP k p.toNat)/\wr=w)
  case atStart=>exact⟨2,rfl,rfl,by decide,λ_ d h1 h2=>by omega,rfl⟩
  case round=>
    obtain⟨k,rfl,hg,hk2,hno,rfl⟩:=hrel;obtain⟨sq,hsq⟩:∃s,k*k=s:=⟨_,rfl⟩;have hsi:(k:Int)*(k:Int)=(sq:Int):=zdb
    have hkb:k*k<=1027*1027:=Nat.mul_le_mul zb zb;have hx1:IntKind.i64.wrap ((k:Int)*(k:Int))=(sq:Int):=by rw[hsi];exact qT zb zb
    by_cases hle:(sq:Int)<=p
    · obtain ⟨P,rfl⟩:∃P:Nat,p=(P:Int):=⟨p.toNat,by omega⟩
      have hno:=hno (by have:=Nat.mul_le_mul hk2 hk2;omega);rw[Int.toNat_natCast]at hno
      have hk:k<=1024:=by
        refine Nat.le_of_not_lt λh=>?_
        have:=Nat.mul_le_mul (show 1025<=k from h) (show 1025<=k from h);have:=HP.out;omega
      obtain⟨r,hr⟩:∃r,P%k=r:=⟨_,rfl⟩;have hrlt:=zR P (show 0<k by omega);rw[hr]at hrlt;have hx2:(P:Int).tmod (k:Int)=(r:Int):=by rw[zG (by omega),<-hr];rfl
      have hx3:IntKind.i64.wrap (r:Int)=(r:Int):=qT zb zb;have hx4:¬k=0:=zb
      have hx5:sq<=P:=zb
      have HG:=hid (zJ hg (zJ hk hk2));by_cases h0:r=0
      · have hbf:b=false:=by
          rw[Bool.eq_false_iff];intro h;obtain⟨_,h2⟩:=HB.out.1 h;rw[Int.toNat_natCast]at h2;rcases h2.2 k (Nat.dvd_of_mod_eq_zero zb)with h3|h3
          ·omega
          · have h4:k*2<=k*k:=Nat.mul_le_mul_left k hk2
            omega
        subst h0;rw[hbf];clear hno hrlt hr hsq hsi hkb hk hk2 hg;go_wp2_with fail;exact zD (v:=.bool false) (by simp[results,results45,go_sem]) rfl ⟨_,rfl,Ext.refl _,rfl⟩
      · have HN:=hid (show jP (k+1) P from λd h1 h2 h3=>by
          by_cases e:d=k
          ·subst e;have:=Nat.mod_eq_zero_of_dvd h3;omega
          ·exact hno d h1 zb h3)
        have hx6:IntKind.i64.wrap ((k:Int)+1)=(k:Int)+1:=qT zb zb;have hx7:(((r:Int))==0)=false:=jk
        clear hno hrlt hr hsq hsi hkb hk hk2 hg;go_wp2_with fail
        go_roundg (gk-1)
        case measure=>have:=HG.out;omega
        case rel=>exact⟨k+1,by rw[zV];rfl,by have:=HG.out;omega,by have:=HG.out;omega,λ_=>by rw[Int.toNat_natCast];exact HN.out,rfl⟩
    · have hbd:decide (1<p)=b:=by
        by_cases h2:2<=p
        · obtain⟨P,rfl⟩:∃P:Nat,p=(P:Int):=⟨p.toNat,by omega⟩
          have h3:=rest_prime (show 2<=P by omega) (hno h2) zb;have h4:b=true:=HB.out.2 ⟨h2,h3⟩;rw[h4];exact decide_eq_true zb
        · have h4:b=false:=by
            rw[Bool.eq_false_iff];intro h;exact h2 (HB.out.1 h).1
          rw[h4];exact decide_eq_false zb
      clear hno hsq hsi hkb hk2 hg;go_wp2_with fail;exact zD (v:=.bool b) (by simp[results,results45,go_sem]) rfl ⟨_,rfl,Ext.refl _,rfl⟩
theorem loc_step(ch:Nat->Int)(p i:Nat)(hb: -1<=ch p/\ch p<=1){w o:Int}(hw:w=if ch p=0 then(if i=0 then 1 else 0)else if ch p=1 then 1 else if i%2=0 then 1 else -1)(ho:o=qV ch p i):
    w*ch p=(if ch p=0 then(if i+1=0 then 1 else 0)else if ch p=1 then 1 else if (i+1)%2=0 then 1 else -1)/\o+w*ch p=qV ch p (i+1):=by
  have key:w*ch p=(if ch p=0 then(if i+1=0 then 1 else 0)else if ch p=1 then 1 else if (i+1)%2=0 then 1 else -1):=by
    rw[hw];obtain h|h|h:ch p=0\/ch p=1\/ch p= -1:=zb
    ·rw[h];simp
    ·rw[h];simp
    · rw [h]
      rcases Nat.mod_two_eq_zero_or_one i with g|g
      · have:(i+1)%2=1:=by omega
        simp[g,this]
      · have:(i+1)%2=0:=by omega
        simp[g,this]
  refine⟨key,?_⟩;rw[key,ho];unfold qV;obtain h|h|h:ch p=0\/ch p=1\/ch p= -1:=zb
  ·rw[h];simp
  ·rw[h];simp
  · have a1:¬((-1:Int)=0):=by decide
    have a2:¬((-1:Int)=1):=zdp
    rw[h];simp only[if_neg a1,if_neg a2];rcases Nat.mod_two_eq_zero_or_one i with g|g
    · have e:¬(i+1)%2=0:=by omega
      rw[if_neg e];omega
    · have e:(i+1)%2=0:=by omega
      rw[if_pos e];omega
theorem rfactor_a{k1 k2 n p:Nat}{z s:Int}{x y:Value}{w:World}(hx:IsI k1 z x w)(hy:IsI k2 (n:Int) y w)(HK:Hid (k1<=67108864))(HNB:Hid (0<n/\n<4294967296))(HPB:Hid (2<=p/\p<=4611686018427387904))(HCH:Hid (kr z p=s))(HSB:Hid (-1<=s/\s<=1)):Calls prog 46 #[x,y,.int .i64 (p:Int)] w (Ret w (iV (qV (λ_=>s) p (vl p n)))):=by
  obtain⟨s1,a1,n1,c1,s2,a2,n2,c2,W,rfl,rfl,hW,S⟩:=en2 hx hy;go_enter func46,ntmps46;go_upto_region 1 with fail;rw[<-hW];clear hW;refine rgt S 7 [some 13,some 14,some 12,some 15,some 16,some 7,some 8] [IsI k2 ((n:Int)),IsT2 (iV (n:Int)) (IsV (.bool true)),IsT2 (iV (n:Int)) (IsV (.bool true)),iV (n:Int),IsV (.bool true),iV (n:Int),IsV (.bool true)] ?_ ?_
  · refine Rc zck ?_
    refine Rc (cl1 (en func47) (qA (fP:=IsI k2 ((n:Int))) 0 13) (λx0 w' hE d0=>RLow_f d0 HNB.out.2)) ?_;refine Rc (mv (qA 1 14)) ?_;refine Rc (ex (qC 2 12) t20) ?_;refine Rc (ex (qC 2 12) t21) ?_;refine Rc (mv (qA 3 15)) ?_;refine Rc (mv (qA 4 16)) ?_;exact rn0
  intro v W1 S hH;simp only[lxE,Nat.reduceAdd];rw[show v 5=.int .i64 (n:Int)from hH 5 dcx];clear hH;go_upto_region 2 with fail;refine rg 5 [some 17,some 18,some 19,some 20,some 9] [IsI k1 z,iV (p:Int),IsI 2 ((p:Int)),iV s,iV s] [] 0 ?_ ?_
  · refine Rc zcv ?_
    refine Rc zcl ?_;refine Rc (cl1 (en func22) (qA (fP:=iV (p:Int)) 1 18) (λx0 w' hE d0=>by{obtain rfl:x0=.int .i64 (p:Int):=d0;exact qL _ (p:Int) zb (by have:=HPB.out;omega)})) ?_;refine Rc (cl2 (en func48) (qA (fP:=IsI k1 z) 0 17) (qA (fP:=IsI 2 ((p:Int))) 2 19) (λx0 x1 w' hE d0 d1=>(by have hh:=RKron_f d0 d1 HK.out dcx ⟨by have:=HPB.out;omega,by have:=HPB.out;omega⟩;rw[HCH.out]at hh;exact hh))) ?_;refine Rc (mv (qA 3 20)) ?_;exact rn0
  intro v W2 e1 hH _;replace S:=S.mono e1;simp only[lxE,Nat.reduceAdd];rw[show v 4=.int .i64 s from hH 4 dcx];clear hH e1;refine zO za ?_ _;go_upto_region 3 with fail;refine rgt S 1 [some 10] [iV 1] ?_ ?_
  · refine Rc zaf ?_
    exact rn0
  intro v W3 S hH;simp only[lxE];rw[show v 0=.int .i64 1 from hH 0 dcx];clear hH;go_upto_region 4 with fail;refine rgt S 1 [some 11] [iV 1] ?_ ?_
  · refine Rc zaf ?_
    exact rn0
  intro v W4 S hH;simp only[lxE];rw[show v 0=.int .i64 1 from hH 0 dcx];clear hH;go_wp2_with fail;have S0:=hid S;clear S
  go_loopg [7,10,11] n (λgk v7 v10 v11 wr=>∃(vv i:Nat) (o u:Int),v7=.int .i64 (vv:Int)/\v10=.int .i64 o/\v11=.int .i64 u/\vv=gk/\0<vv/\vv<=n/\n=p^i*vv/\i<40/\u=(if s=0 then(if i=0 then 1 else 0)else if s=1 then 1 else if i%2=0 then 1 else -1)/\o=qV (λ_=>s) p i/\Hid (Sto w wr [((w.heap.size+1,0),IsI k2 ((n:Int))),((w.heap.size,0),IsI k1 z)]))
  case atStart=>exact⟨n,0,1,1,rfl,rfl,rfl,rfl,HNB.out.1,zL _,by simp,by decide,by simp,(locg_0 _ _).symm,S0⟩
  case round=>
    clear S0;obtain⟨vv,i,o,u,rfl,rfl,rfl,hgv,hv0,hvn,hvi,hi40,hu,ho,S⟩:=hrel;have S:=S.out;obtain⟨q0,hq0⟩:∃q,gk=q:=⟨_,rfl⟩;rw[hq0]at hgv;obtain⟨r,hr⟩:∃r,vv%p=r:=⟨_,rfl⟩;have hpb:=HPB.out;have hrl:=zR vv (show 0<p by omega);rw[hr]at hrl;have HM:=hid (show(vv:Int).tmod (p:Int)=(r:Int)/\IntKind.i64.wrap (r:Int)=(r:Int)/\¬p=0 from⟨by rw[zG (by omega),<-hr];rfl,qT zb zb,by omega⟩);by_cases h0:r=0
    · subst h0
      have HZ:=hid (show True from trivial);obtain⟨v2,hv2⟩:∃q,vv=p*q:=Nat.dvd_of_mod_eq_zero hr
      have hv20:0<v2:=by
        rcases zI v2 with h|h
        ·rw[h]at hv2;omega
        ·exact h
      have hlt2:2*v2<=vv:=by rw[hv2];exact Nat.mul_le_mul_right v2 hpb.1
      have HQ:=hid (show(vv:Int).tdiv (p:Int)=(v2:Int)/\IntKind.i64.wrap (v2:Int)=(v2:Int)/\¬p=0 from⟨by rw[Int.tdiv_eq_ediv_of_nonneg (by omega),hv2,Int.natCast_mul,Int.mul_ediv_cancel_left _ (by omega)],qT zb yv,by omega⟩);obtain⟨e1,e2⟩:=loc_step (λ_=>s) p i HSB.out hu ho;obtain⟨u2,hu2⟩:∃t,u*s=t:=⟨_,rfl⟩;obtain⟨o2,ho2⟩:∃t,o+u2=t:=⟨_,rfl⟩;replace e1:u*s=_:=e1;replace e2:o+u*s=_:=e2;rw[hu2]at e1 e2;rw[ho2]at e2;have hub: -1<=u2/\u2<=1:=by rw[e1];split <;>(try split) <;>(try split) <;> omega
      have hob:=locg_le (λ_=>s) p i;have hoc:=locg_nonneg (λ_=>s) p i;rw[<-ho]at hob hoc;have HWU:=hid (show IntKind.i64.wrap (u*s)=u2 by rw[hu2];exact qT zb zb);have HWO:=hid (show IntKind.i64.wrap (o+u2)=o2 by rw[ho2];exact qT zb zb)
      have hp39:i+1<40:=by
        refine Nat.lt_of_not_le λh=>?_
        have h1:2^39<=p^i:=zN (Nat.pow_le_pow_left hpb.1 39) (Nat.pow_le_pow_right zb zb);have h2:p^i<=n:=by rw[hvi];exact Nat.le_mul_of_pos_right _ hv0
        have h3:=HNB.out.2;have h4:(2:Nat)^39=549755813888:=zdp
        omega
      have HREL:=hid (show v2<q0/\0<v2/\v2<=n/\n=p^(i+1)*v2/\i+1<40/\u2=_/\o2=_ from⟨by omega,hv20,by omega,by rw[hvi,hv2,Nat.pow_succ,Nat.mul_assoc],hp39,e1,e2⟩);have HQ0:=hid hq0;clear e1 e2 hub hob hoc hu2 ho2 hv2 hv20 hlt2 hu ho hgv hv0 hvn hvi hi40 hr hrl hpb hp39 hq0 HZ;go_upto_region 5 with fail;refine rgt S 4 [some 21,some 22,some 23,some 24] [iV (vv:Int),iV (p:Int),iV 0,IsV (.bool true)] ?_ ?_
      · refine Rc xa ?_
        refine Rc zcl ?_;refine Rc (bn (r:=.int .i64 0) (qC 0 21) (qC 1 22) (hr:=λw=>by have hx9:=HM.out.1;have hx7:=HM.out.2.2;go_simp)) ?_;refine Rc (bn (r:=.bool true) (qC 2 23) qE (hr:=λw=>by go_simp)) ?_;exact rn0
      intro v W5 S hH;simp only[lxE,Nat.reduceAdd];rw[show v 3=.bool true from hH 3 dcx];clear hH;go_upto_region 6 with fail;refine rgs 3 [some 25,some 26,some 27] [iV (vv:Int),iV (p:Int),iV (v2:Int)] [] ?_ ?_
      · refine Rc xa ?_
        refine Rc zcl ?_;refine Rc (bn (r:=.int .i64 (v2:Int)) (qC 0 25) (qC 1 26) (hr:=λw=>by have hx9:=HQ.out.1;have hx8:=HQ.out.2.1;have hx7:=HQ.out.2.2;go_simp)) ?_;exact rn0
      intro v W6 e1 hH _;replace S:=S.mono e1;simp only[lxE,Nat.reduceAdd];rw[show v 2=.int .i64 (v2:Int)from hH 2 dcx];clear hH e1;refine zT λK hK=>?_;go_simp;refine hK _ _ ?_;clear hK K
      refine zF ?_;go_upto_region 7 with fail;refine rgs 3 [some 28,some 29,some 30] [iV u,iV s,iV u2] [] ?_ ?_
      · refine Rc (mv (qD 11)) ?_
        refine Rc zdg ?_;refine Rc (bn (r:=.int .i64 u2) (qC 0 28) (qC 1 29) (hr:=λw=>by have hx9:=HWU.out;go_simp)) ?_;exact rn0
      intro v W7 e1 hH _;replace S:=S.mono e1;simp only[lxE,Nat.reduceAdd];rw[show v 2=.int .i64 u2 from hH 2 dcx];clear hH e1;refine zT λK hK=>?_;go_simp;refine hK _ _ ?_;clear hK K
      refine zF ?_;go_upto_region 8 with fail;refine rgs 3 [some 31,some 32,some 33] [iV o,iV u2,iV o2] [] ?_ ?_
      · refine Rc zae ?_
        refine Rc (mv (qD 11)) ?_;refine Rc (bn (r:=.int .i64 o2) (qC 0 31) (qC 1 32) (hr:=λw=>by have hx9:=HWO.out;go_simp)) ?_;exact rn0
      intro v W8 e1 hH _;replace S:=S.mono e1;simp only[lxE,Nat.reduceAdd];rw[show v 2=.int .i64 o2 from hH 2 dcx];clear hH e1;refine zT λK hK=>?_;go_simp;refine hK _ _ ?_;clear hK K
      refine zF ?_;have S':=hid S;clear S;go_wp2_with fail
      go_roundg v2
      case measure=>have:=HREL.out.1;have:=HQ0.out;omega
      case rel=>exact⟨v2,i+1,o2,u2,rfl,rfl,rfl,rfl,HREL.out.2.1,HREL.out.2.2.1,HREL.out.2.2.2.1,HREL.out.2.2.2.2.1,HREL.out.2.2.2.2.2.1,HREL.out.2.2.2.2.2.2,S'⟩
    · have HNE:=hid (show(((r:Int))==0)=false by rw[zH];omega)
      have hnd:¬p∣vv:=λh=>h0 (by rw[<-hr];exact Nat.mod_eq_zero_of_dvd h)
      have hvl:vl p n=i:=vl_uniq hpb.1 hv0 hvi hnd;have HOO:=hid (show qV (λ_=>s) p (vl p n)=o by rw[hvl];exact ho.symm);clear hnd hvl h0 hu ho hgv hv0 hvn hvi hi40 hr hrl hpb hq0;go_upto_region 5 with fail;refine rgt S 4 [some 21,some 22,some 23,some 24] [iV (vv:Int),iV (p:Int),iV (r:Int),IsV (.bool false)] ?_ ?_
      · refine Rc xa ?_
        refine Rc zcl ?_;refine Rc (bn (r:=.int .i64 (r:Int)) (qC 0 21) (qC 1 22) (hr:=λw=>by have hx9:=HM.out.1;have hx8:=HM.out.2.1;have hx7:=HM.out.2.2;go_simp)) ?_;refine Rc (bn (r:=.bool false) (qC 2 23) qE (hr:=λw=>by have hx9:=HNE.out;go_simp)) ?_;exact rn0
      intro v W5 S hH;simp only[lxE,Nat.reduceAdd];rw[show v 3=.bool false from hH 3 dcx];clear hH;go_upto_region 9 with fail;refine rgt S 2 [some 34,some 6] [iV o,iV o] ?_ ?_
      · refine Rc zae ?_
        refine Rc (mv (qA 0 34)) ?_;exact rn0
      intro v W9 S hH;simp only[lxE,Nat.reduceAdd];rw[show v 1=.int .i64 o from hH 1 dcx];clear hH;go_wp2_with fail;exact zD (v:=.int .i64 o) (by simp[results,results46,go_sem]) rfl (⟨_,rfl,S.ext,HOO.out▸rfl⟩)
end Go.Proofs.YtknffgdbdadpcaaGreatDoor
