/-
 Package density: Local, of what is refused, at what is no prime, at any integer of 64 bits.
 The reference of package density: Same, at two audits that are equal.
-/
import Derived.Test.YtknffgdbdadpcaaGreatDoorRwg
import Derived.Test.YtknffgdbdadpcaaGreatDoorPri6
import Derived.Test.YtknffgdbdadpcaaGreatDoorRwz
import Derived.Test.YtknffgdbdadpcaaGreatDoorDen13
namespace Go.Proofs.YtknffgdbdadpcaaGreatDoor
open Go Go.RowKit Go.Shelf
open Go.Proofs.Tryz
set_option maxRecDepth 100000
set_option maxHeartbeats 8000000
theorem tSam_1{P:Prop}(h:P:=by
  have bV:=Boxed.new (Wp.alloc (.cells #[.int .i64 0] 3)) 37 (.int .i64 0);rw[World.size_alloc,hWps]at bV;rw[<-hW2];refine⟨⟨bV.cell,bV.frozen⟩,?_⟩;rw[<-hWps];exact((Ext.refl _).alloc _).alloc _
  ):P:=h
theorem tSam_2{P:Prop}(h:P:=by
  have bV:=Boxed.new Wp 3 (.int .i64 0);rw[hWps]at bV;rw[<-hW2];refine⟨⟨(bV.alloc _).cell,(bV.alloc _).frozen⟩,?_⟩;rw[<-hWps];exact((Ext.refl _).alloc _).alloc _
  ):P:=h
theorem Local_x{k1 k2:Nat}{zd z2 ue:Int}{x y:Value}{w:World}(hx:IsI k1 zd x w)(hy:IsI k2 z2 y w)(p:Int)(HUN:Hid (∀(x y:Value) (w':World),Ext w w'->IsI k1 zd x w'->IsI k2 z2 y w'->Calls prog 39 #[x,y] w' (Ret w' (iV ue))))(HUB:Hid ((ue !=0)=true)):Calls prog 10 #[x,y,.int .i64 p] w (Ret w (IsT2 (iV 0) (iV ue))):=by
 obtain⟨s1,a1,n1,c1,rfl,h1⟩:=hx;obtain⟨s2,a2,n2,c2,rfl,h2⟩:=hy;have h1:IsI k1 zd (.agg #[.bool s1,.slice a1 n1 c1]) w:=⟨_,_,_,_,rfl,h1⟩;have h2:IsI k2 z2 (.agg #[.bool s2,.slice a2 n2 c2]) w:=⟨_,_,_,_,rfl,h2⟩
 obtain⟨W,hW,S⟩:∃W,W=(w.alloc (.cells #[.bool s1,.slice a1 n1 c1] 33)).alloc (.cells #[.bool s2,.slice a2 n2 c2] 33)/\Sto w W [((w.heap.size+1,0),IsI k2 z2),((w.heap.size,0),IsI k1 zd)]:=
  ⟨_,rfl,((Sto.start w).new1 (w.heap.size) zh s1 a1 n1 c1 33 _ (IsI.gstb _ _) h1).new1 (w.heap.size+1) zh s2 a2 n2 c2 33 _ (IsI.gstb _ _) (h2.ext ((Ext.refl _).alloc _))⟩
 clear h1 h2;have hWs:W.heap.size=w.heap.size+2:=zde
 go_enter func10,ntmps10;go_upto_region 1 with fail;rw[<-hW];clear hW;obtain⟨Wp,hWp⟩:∃Wp,W.alloc (.cells #[.int .i64 p] 3)=Wp:=⟨_,rfl⟩;have S1:Sto w Wp _:=S.mono zc5
 have C5:World.cell? Wp ⟨w.heap.size+1+1,0,none⟩=some (.int .i64 p):=by
  have:=Boxed.new W 3 (.int .i64 p);rw[hWs,hWp]at this;exact this.cell
 have hWps:Wp.heap.size=w.heap.size+1+1+1:=by rw[<-hWp];simp;omega
 rw[hWp];clear hWp hWs S;obtain⟨W1,hW2⟩:∃W1,(Wp.alloc (.cells #[.int .i64 0] 3)).alloc (.cells #[.int .i64 0] 37)=W1:=⟨_,rfl⟩
 have V2:VarAt (w.heap.size+1+1+1) (w.heap.size+1+1+1) Wp (.int .i64 0) W1:=by
  exact tSam_2
 have U2:VarAt (w.heap.size+1+1+1+1) (w.heap.size+1+1+1) Wp (.int .i64 0) W1:=by
  exact tSam_1
 rw[hW2];clear hW2;obtain⟨g,hg⟩:∃g,w.heap.size+1+1+1=g:=⟨_,rfl⟩;rw[hg]at V2 U2 hWps;have E2:Ext Wp W1:=zc2
 have S2:=S1.mono E2;obtain⟨s1,a1,n1,c1,B1,h1⟩:=S2.at 1 _ _ _ rfl;obtain⟨s2,a2,n2,c2,B2,h2⟩:=S2.at 0 _ _ _ rfl;have L1a:World.cell? W1 ⟨w.heap.size,0,none⟩=some (.bool s1):=B1.c0;have L1b:World.cell? W1 ⟨w.heap.size,1,none⟩=some (.slice a1 n1 c1):=B1.c1;have L2a:World.cell? W1 ⟨w.heap.size+1,0,none⟩=some (.bool s2):=B2.c0;have L2b:World.cell? W1 ⟨w.heap.size+1,1,none⟩=some (.slice a2 n2 c2):=B2.c1;have L5:=Ext.cell E2 C5;clear B1 B2;have hcon:=HUN.out _ _ _ (S1.ext.trans E2) h1 h2;have hub:=HUB.out;clear h1 h2 L5;go_wp2_with (go_at_call 39;go_must (refine zC hcon ?_;rintro e w3 ⟨_,rfl,E3,rfl⟩;have V3:=V2.ext E3 (zN zb E2.size);have U3:=U2.ext E3 (zN zb E2.size);have Lg:=V3.1.1;have Fg:=V3.1.2;have Lg2:=U3.1.1;have Fg2:=U3.1.2;clear hcon))
 have V8:=(V3.set (zL _) (.int .i64 0)).set_other (g2:=g+1) zb zb (.int .i64 ue);have U8:=(U3.set_other (g2:=g) (zL _) zb (.int .i64 0)).set zb (.int .i64 ue);have hfin:Ext w _:=S1.ext.trans (show Ext Wp _ by rw[Ext,hWps];exact V8.2);have c1:=V8.1.1;have c2:=U8.1.1;exact zD (v:=.tuple #[.int .i64 0,.int .i64 ue]) zaw rfl ⟨_,rfl,hfin,_,_,rfl,rfl,rfl⟩
theorem Local_no{k1 k2:Nat}{zd z2:Int}{x y:Value}{w:World}(hx:IsI k1 zd x w)(hy:IsI k2 z2 y w)(p:Int)(HUN:Hid (∀(x y:Value) (w':World),Ext w w'->IsI k1 zd x w'->IsI k2 z2 y w'->Calls prog 39 #[x,y] w' (Ret w' (iV 0))))(HPB:Hid (-9223372036854775808<=p/\p<=9223372036854775807))(HT:Hid (Tzt w))(HNP:Hid (¬(p<1048576/\0<=p/\Pr p.toNat))):Calls prog 10 #[x,y,.int .i64 p] w (Ret w (IsT2 (iV 0) (iV 7))):=by
 obtain⟨s1,a1,n1,c1,rfl,h1⟩:=hx;obtain⟨s2,a2,n2,c2,rfl,h2⟩:=hy;have h1:IsI k1 zd (.agg #[.bool s1,.slice a1 n1 c1]) w:=⟨_,_,_,_,rfl,h1⟩;have h2:IsI k2 z2 (.agg #[.bool s2,.slice a2 n2 c2]) w:=⟨_,_,_,_,rfl,h2⟩
 obtain⟨W,hW,S⟩:∃W,W=(w.alloc (.cells #[.bool s1,.slice a1 n1 c1] 33)).alloc (.cells #[.bool s2,.slice a2 n2 c2] 33)/\Sto w W [((w.heap.size+1,0),IsI k2 z2),((w.heap.size,0),IsI k1 zd)]:=
  ⟨_,rfl,((Sto.start w).new1 (w.heap.size) zh s1 a1 n1 c1 33 _ (IsI.gstb _ _) h1).new1 (w.heap.size+1) zh s2 a2 n2 c2 33 _ (IsI.gstb _ _) (h2.ext ((Ext.refl _).alloc _))⟩
 clear h1 h2;have hWs:W.heap.size=w.heap.size+2:=zde
 go_enter func10,ntmps10;go_upto_region 1 with fail;rw[<-hW];clear hW;obtain⟨Wp,hWp⟩:∃Wp,W.alloc (.cells #[.int .i64 p] 3)=Wp:=⟨_,rfl⟩;have S1:Sto w Wp _:=S.mono zc5
 have C5:World.cell? Wp ⟨w.heap.size+1+1,0,none⟩=some (.int .i64 p):=by
  have:=Boxed.new W 3 (.int .i64 p);rw[hWs,hWp]at this;exact this.cell
 have hWps:Wp.heap.size=w.heap.size+1+1+1:=by rw[<-hWp];simp;omega
 rw[hWp];clear hWp hWs S;obtain⟨W1,hW2⟩:∃W1,(Wp.alloc (.cells #[.int .i64 0] 3)).alloc (.cells #[.int .i64 0] 37)=W1:=⟨_,rfl⟩
 have V2:VarAt (w.heap.size+1+1+1) (w.heap.size+1+1+1) Wp (.int .i64 0) W1:=by
  exact tSam_2
 have U2:VarAt (w.heap.size+1+1+1+1) (w.heap.size+1+1+1) Wp (.int .i64 0) W1:=by
  exact tSam_1
 rw[hW2];clear hW2;obtain⟨g,hg⟩:∃g,w.heap.size+1+1+1=g:=⟨_,rfl⟩;rw[hg]at V2 U2 hWps;have E2:Ext Wp W1:=zc2
 have S2:=S1.mono E2;obtain⟨s1,a1,n1,c1,B1,h1⟩:=S2.at 1 _ _ _ rfl;obtain⟨s2,a2,n2,c2,B2,h2⟩:=S2.at 0 _ _ _ rfl;have L1a:World.cell? W1 ⟨w.heap.size,0,none⟩=some (.bool s1):=B1.c0;have L1b:World.cell? W1 ⟨w.heap.size,1,none⟩=some (.slice a1 n1 c1):=B1.c1;have L2a:World.cell? W1 ⟨w.heap.size+1,0,none⟩=some (.bool s2):=B2.c0;have L2b:World.cell? W1 ⟨w.heap.size+1,1,none⟩=some (.slice a2 n2 c2):=B2.c1;have L5:=Ext.cell E2 C5;clear B1 B2;have hcon:=HUN.out _ _ _ (S1.ext.trans E2) h1 h2;clear h1 h2;go_upto_region 4 with(go_at_call 39;refine zC hcon ?_;rintro e w3 ⟨_,rfl,E3,rfl⟩);have L5a:=Ext.cell E3 L5;have hOf:=xT w3 p HPB.out.1 HPB.out.2;have hIs:=λ(x:Value) (w':World) (E:Ext w w') (h:IsI 2 p x w')=>Is_g p HPB.out (HT.out.ext E) h
 go_upto_region 5 with(first| (go_at_call 41;refine zC hOf ?_;rintro e w4 ⟨xp,rfl,E4,hxp⟩)| (go_at_call 40;refine zC (hIs _ _ (((S1.ext.trans E2).trans E3).trans E4) hxp) ?_;rintro e w5 ⟨_,rfl,E5,_,_,rfl,⟨B,rfl,hB⟩,rfl⟩));have L5b:=Ext.cell E5 (Ext.cell E4 L5a);have E35:Ext W1 w5:=(E3.trans E4).trans E5;have V3:=V2.ext E35 (zN zb E2.size);have U3:=U2.ext E35 (zN zb E2.size);have Lg:=V3.1.1;have Fg:=V3.1.2;have Lg2:=U3.1.1;have Fg2:=U3.1.2;clear hcon hOf hIs hxp L5 L5a;cases B
 ·clear hB;go_wp2_with fail;have V8:=(V3.set (zL _) (.int .i64 0)).set_other (g2:=g+1) zb zb (.int .i64 7);have U8:=(U3.set_other (g2:=g) (zL _) zb (.int .i64 0)).set zb (.int .i64 7);have hfin:Ext w _:=S1.ext.trans (show Ext Wp _ by rw[Ext,hWps];exact V8.2);have c1:=V8.1.1;have c2:=U8.1.1;exact zD (v:=.tuple #[.int .i64 0,.int .i64 7]) zaw rfl ⟨_,rfl,hfin,_,_,rfl,rfl,rfl⟩
 ·have hge:1048576<=p:=by
   by_cases h:p<1048576
   ·exact absurd ⟨h,(hB h).1 rfl⟩ HNP.out
   ·omega
  clear hB;go_wp2_with fail;have V8:=(V3.set (zL _) (.int .i64 0)).set_other (g2:=g+1) zb zb (.int .i64 7);have U8:=(U3.set_other (g2:=g) (zL _) zb (.int .i64 0)).set zb (.int .i64 7);have hfin:Ext w _:=S1.ext.trans (show Ext Wp _ by rw[Ext,hWps];exact V8.2);have c1:=V8.1.1;have c2:=U8.1.1;exact zD (v:=.tuple #[.int .i64 0,.int .i64 7]) zaw rfl ⟨_,rfl,hfin,_,_,rfl,rfl,rfl⟩
open Go Go.RowKit
theorem auSame_nil(w:World):Calls prog 21 #[qY,qY] w (Ret w (IsV (.bool true))):=by
 obtain⟨W,hW,E,hc1,hc2⟩:∃W,W=(w.alloc (.cells #[.slice none 0 0,.bool false,.slice none 0 0,.bool false,.slice none 0 0] 48)).alloc (.cells #[.slice none 0 0,.bool false,.slice none 0 0,.bool false,.slice none 0 0] 48)/\Ext w W/\(∀(j:Nat) (v:Value),(#[.slice none 0 0,.bool false,.slice none 0 0,.bool false,.slice none 0 0]:Array Value)[j]? =some v->World.cell? W ⟨w.heap.size,j,none⟩=some v)/\(∀(j:Nat) (v:Value),(#[.slice none 0 0,.bool false,.slice none 0 0,.bool false,.slice none 0 0]:Array Value)[j]? =some v->World.cell? W ⟨w.heap.size+1,j,none⟩=some v):=
  ⟨_,rfl,((Ext.refl _).alloc _).alloc _,λj v hj=>Ext.cell ((Ext.refl _).alloc _) (qH _ _ rfl _ _ _ _ hj),λj v hj=>qH _ _ zh _ _ _ _ hj⟩
 have hz:∀w',IsQ (IsI 0 0) (IsI 0 0) (.agg #[.bool false,.slice none 0 0,.bool false,.slice none 0 0]) w':=λw'=>⟨_,_,_,_,_,_,_,_,rfl,IsI.nil w' 0,IsI.nil w' 0⟩
 have hS:=λw'=>rqSame_t (hz w') (hz w') dcx rfl rfl
 clear hz;unfold qY;go_enter func21,ntmps21;go_upto_region 1 with fail;rw[<-hW];clear hW;have M0:=hc1 0 _ rfl;have M1:=hc1 1 _ rfl;have M2:=hc1 2 _ rfl;have M3:=hc1 3 _ rfl;have M4:=hc1 4 _ rfl;have N0:=hc2 0 _ rfl;have N1:=hc2 1 _ rfl;have N2:=hc2 2 _ rfl;have N3:=hc2 3 _ rfl;have N4:=hc2 4 _ rfl;clear hc1 hc2;go_wp2_with (go_at_call 33;go_must (refine zC (hS _) ?_;rintro e w1 ⟨_,rfl,E1,rfl⟩;clear hS;have M0:=Ext.cell E1 M0))
 go_loopg [5] 0 (λ_ v5 wr=>v5=.int .i64 0/\wr=w1)
 case atStart=>exact⟨rfl,rfl⟩
 case round=>
  obtain⟨rfl,rfl⟩:=hrel;go_wp2_with fail;exact zD (v:=.bool true) (by simp[results,results21,go_sem]) rfl ⟨_,rfl,E.trans E1,rfl⟩
theorem auSame_f{name:ByteArray}{K1 K2:Nat}{q r:Rat}{x y:Value}{w:World}(hx:AuV name K1 q r x w)(hy:AuV name K2 q r y w)(hK:K1<=1048576/\K2<=1048576):Calls prog 21 #[x,y] w (Ret w (IsV (.bool true))):=by
 obtain⟨g1,s1,a1,n1,c1,t1,d1,m1,e1,rfl,ht1,hp1⟩:=hx;obtain⟨g2,s2,a2,n2,c2,t2,d2,m2,e2,rfl,ht2,hp2⟩:=hy
 obtain⟨W,hW,E,hc1,hc2⟩:∃W,W=(w.alloc (.cells #[.slice (some ⟨g1,0,none⟩) 1 1,.bool s1,.slice a1 n1 c1,.bool t1,.slice d1 m1 e1] 48)).alloc (.cells #[.slice (some ⟨g2,0,none⟩) 1 1,.bool s2,.slice a2 n2 c2,.bool t2,.slice d2 m2 e2] 48)/\Ext w W/\(∀(j:Nat) (v:Value),(#[.slice (some ⟨g1,0,none⟩) 1 1,.bool s1,.slice a1 n1 c1,.bool t1,.slice d1 m1 e1]:Array Value)[j]? =some v->World.cell? W ⟨w.heap.size,j,none⟩=some v)/\(∀(j:Nat) (v:Value),(#[.slice (some ⟨g2,0,none⟩) 1 1,.bool s2,.slice a2 n2 c2,.bool t2,.slice d2 m2 e2]:Array Value)[j]? =some v->World.cell? W ⟨w.heap.size+1,j,none⟩=some v):=
  ⟨_,rfl,((Ext.refl _).alloc _).alloc _,λj v hj=>Ext.cell ((Ext.refl _).alloc _) (qH _ _ rfl _ _ _ _ hj),λj v hj=>qH _ _ zh _ _ _ _ hj⟩
 have hS:=λw' (e:Ext w w')=>rqSame_eq (IsQ.stb (IsI.stb _ _) (IsI.stb _ _) _ _ _ e ht1) (IsQ.stb (IsI.stb _ _) (IsI.stb _ _) _ _ _ e ht2) hK.1 rfl
 go_enter func21,ntmps21;go_upto_region 1 with fail;rw[<-hW];clear hW;have M0:=hc1 0 _ rfl;have M1:=hc1 1 _ rfl;have M2:=hc1 2 _ rfl;have M3:=hc1 3 _ rfl;have M4:=hc1 4 _ rfl;have N0:=hc2 0 _ rfl;have N1:=hc2 1 _ rfl;have N2:=hc2 2 _ rfl;have N3:=hc2 3 _ rfl;have N4:=hc2 4 _ rfl;clear hc1 hc2 ht1 ht2;have hS:=hS _ E;go_wp2_with (go_at_call 33;go_must (refine zC hS ?_;rintro e w1 ⟨_,rfl,E1,rfl⟩;clear hS))
 have M0':=Ext.cell E1 M0;have N0':=Ext.cell E1 N0;clear M0 M1 M2 M3 M4 N0 N1 N2 N3 N4
 go_loopg [5,6,7] 1 (λgk v5 _ _ wr=>∃i:Nat,v5=.int .i64 (i:Int)/\i+gk=1/\Ext w1 wr)
 case atStart=>exact⟨0,rfl,rfl,Ext.refl _⟩
 case round=>
  obtain⟨i,rfl,hi,EW⟩:=hrel;have M0:=Ext.cell EW M0';have N0:=Ext.cell EW N0';rcases zI gk with h0|h0
  ·obtain rfl:i=1:=by omega
   clear hi h0;go_wp2_with fail;exact zD (v:=.bool true) (by simp[results,results21,go_sem]) rfl ⟨_,rfl,(E.trans E1).trans EW,rfl⟩
  ·obtain rfl:i=0:=by omega
   obtain rfl:gk=1:=zb
   clear hi h0;have P1:=hp1.ext ((E.trans E1).trans EW);have P2:=hp2.ext ((E.trans E1).trans EW);obtain⟨sA,aA,nA,cA,sB,aB,nB,cB,A2,A3,A4,A5,hq1⟩:=P1.c;obtain⟨sC,aC,nC,cC,sD,aD,nD,cD,B2,B3,B4,B5,hq2⟩:=P2.c;have A0:=P1.nm;have A1:=P1.at_;have A6:=P1.is_;have A7:=P1.v0;have A8:=P1.v1;have B0:=P2.nm;have B1:=P2.at_;have B6:=P2.is_;have B7:=P2.v0;have B8:=P2.v1;clear P1 P2 hp1 hp2;have hR:=λw' (e:Ext wr w')=>rqSame_eq (IsQ.stb (IsI.stb _ _) (IsI.stb _ _) _ _ _ e hq1) (IsQ.stb (IsI.stb _ _) (IsI.stb _ _) _ _ _ e hq2) hK.1 rfl
   have hI:=λw'=>Same_t (IsI.nil w' 0) (IsI.nil w' 0) rfl dcx
   clear hq1 hq2;go_upto_region 7 with fail;obtain⟨w7,hw7⟩:∃ww,World.alloc wr (.cells #[.string name,.int .i64 0,.bool sA,.slice aA nA cA,.bool sB,.slice aB nB cB,.bool false,.bool false,.slice none 0 0] 74)=ww:=⟨_,rfl⟩;have Xw7:Ext wr w7:=hw7▸(Ext.refl _).alloc _;have hlw7:∀(j:Nat) (u:Value),(#[.string name,.int .i64 0,.bool sA,.slice aA nA cA,.bool sB,.slice aB nB cB,.bool false,.bool false,.slice none 0 0]:Array Value)[j]? =some u->World.cell? w7 ⟨World.heap wr |>.size,j,none⟩=some u:=λj u hj=>hw7▸qH _ _ rfl _ _ _ _ hj
   have hzw7:(World.heap w7).size=(World.heap wr).size+1:=by rw[<-hw7];simp
   rw[hw7];clear hw7;have N0:=Ext.cell Xw7 N0;have M0:=Ext.cell Xw7 M0;have B0:=Ext.cell Xw7 B0;have B1:=Ext.cell Xw7 B1;have B2:=Ext.cell Xw7 B2;have B3:=Ext.cell Xw7 B3;have B4:=Ext.cell Xw7 B4;have B5:=Ext.cell Xw7 B5;have B6:=Ext.cell Xw7 B6;have B7:=Ext.cell Xw7 B7;have B8:=Ext.cell Xw7 B8;have hR:=λw' (e:Ext w7 w')=>hR w' (Xw7.trans e)
   go_upto_region 8 with fail;obtain⟨w8,hw8⟩:∃ww,World.alloc w7 (.cells #[.string name,.int .i64 0,.bool sC,.slice aC nC cC,.bool sD,.slice aD nD cD,.bool false,.bool false,.slice none 0 0] 74)=ww:=⟨_,rfl⟩;have Xw8:Ext w7 w8:=hw8▸(Ext.refl _).alloc _;have hlw8:∀(j:Nat) (u:Value),(#[.string name,.int .i64 0,.bool sC,.slice aC nC cC,.bool sD,.slice aD nD cD,.bool false,.bool false,.slice none 0 0]:Array Value)[j]? =some u->World.cell? w8 ⟨World.heap w7 |>.size,j,none⟩=some u:=λj u hj=>hw8▸qH _ _ rfl _ _ _ _ hj
   have hzw8:(World.heap w8).size=(World.heap w7).size+1:=by rw[<-hw8];simp
   rw[hw8];clear hw8;simp only[hzw7]at hlw8;have A0:=Ext.cell Xw8 (hlw7 0 _ rfl);have A1:=Ext.cell Xw8 (hlw7 1 _ rfl);have A2:=Ext.cell Xw8 (hlw7 2 _ rfl);have A3:=Ext.cell Xw8 (hlw7 3 _ rfl);have A4:=Ext.cell Xw8 (hlw7 4 _ rfl);have A5:=Ext.cell Xw8 (hlw7 5 _ rfl);have A6:=Ext.cell Xw8 (hlw7 6 _ rfl);have A7:=Ext.cell Xw8 (hlw7 7 _ rfl);have A8:=Ext.cell Xw8 (hlw7 8 _ rfl);have B0:=hlw8 0 _ rfl;have B1:=hlw8 1 _ rfl;have B2:=hlw8 2 _ rfl;have B3:=hlw8 3 _ rfl;have B4:=hlw8 4 _ rfl;have B5:=hlw8 5 _ rfl;have B6:=hlw8 6 _ rfl;have B7:=hlw8 7 _ rfl;have B8:=hlw8 8 _ rfl;have hR:=hR _ Xw8;have HX:=hid (Xw7.trans Xw8);clear hlw7 hlw8 hzw7 hzw8 Xw7 Xw8 N0 M0;go_wp2_with (first| (go_at_call 33;go_must (refine zC hR ?_;rintro e w9 ⟨_,rfl,E9,rfl⟩;clear hR;have A6:=Ext.cell E9 A6;have A7:=Ext.cell E9 A7;have A8:=Ext.cell E9 A8;have B6:=Ext.cell E9 B6;have B7:=Ext.cell E9 B7;have B8:=Ext.cell E9 B8))| (go_at_call 26;go_must (refine zC (hI _) ?_;rintro e w10 ⟨_,rfl,E10,rfl⟩;clear hI)))
   go_roundg 0
   case measure=>decide
   case rel=>exact⟨1,rfl,rfl,((EW.trans HX.out).trans E9).trans E10⟩
end Go.Proofs.YtknffgdbdadpcaaGreatDoor
