/-
 The reference of package rational: Same, Of, Made. (Printed by wip/gen/rat3.py.)
 Package density: one: an audit with one entry. (Printed by wip/gen/den13.py.)
-/
import Derived.Test.YtknffgdbdadpcaaGreatDoorQ2
import Derived.Test.YtknffgdbdadpcaaGreatDoorDen12
namespace Go.Proofs.YtknffgdbdadpcaaGreatDoor
open Go Go.RowKit
open Go.Proofs.Tryz
theorem zev{P:Prop}(h:P:=by exact⟨_,rfl,((Sto.start w).new2 (w.heap.size) zh false false none none 0 0 0 0 46 (IsI 0 0) (IsI 0 0) (IsI.gstb _ _) (IsI.nil _ _) (IsI.gstb _ _) (IsI.nil _ _))⟩):P:=h
theorem yu{P:Prop}(h:P:=by show w.heap.size<_;omega):P:=h
theorem zcu{P:Prop}(h:P:=by rw[hvs];rfl):P:=h
set_option maxRecDepth 100000
set_option maxHeartbeats 4000000
theorem rqSame_t{k1 k2:Nat}{u1 v1 u2 v2:Int}{x y:Value}{w:World}(hx:IsQ (IsI k1 u1) (IsI k1 v1) x w)(hy:IsQ (IsI k2 u2) (IsI k2 v2) y w)(l1:k1<=1048576)(hu:u1=u2)(hv:v1=v2):Calls prog 33 #[x,y] w (Ret w (IsV (.bool true))):=by
 have HU:=hid hu;have HV:=hid hv;clear hu hv;obtain⟨s1x,a1x,n1x,c1x,s1y,a1y,n1y,c1y,rfl,h1x,h1y⟩:=hx;obtain⟨s2x,a2x,n2x,c2x,s2y,a2y,n2y,c2y,rfl,h2x,h2y⟩:=hy;obtain⟨W,hW,S⟩:∃W,W=(w.alloc (.cells #[.bool s1x,.slice a1x n1x c1x,.bool s1y,.slice a1y n1y c1y] 46)).alloc (.cells #[.bool s2x,.slice a2x n2x c2x,.bool s2y,.slice a2y n2y c2y] 46)/\Sto w W [((w.heap.size+1,1),IsI k2 v2),((w.heap.size+1,0),IsI k2 u2),((w.heap.size,1),IsI k1 v1),((w.heap.size,0),IsI k1 u1)]:=⟨_,rfl,(((Sto.start w).new2 (w.heap.size) zh s1x s1y a1x a1y n1x c1x n1y c1y 46 (IsI k1 u1) (IsI k1 v1) (IsI.gstb _ _) (h1x) (IsI.gstb _ _) (h1y)).new2 (w.heap.size+1) zh s2x s2y a2x a2y n2x c2x n2y c2y 46 (IsI k2 u2) (IsI k2 v2) (IsI.gstb _ _) (h2x.ext ((Ext.refl _).alloc _)) (IsI.gstb _ _) (h2y.ext ((Ext.refl _).alloc _)))⟩;clear h1x h1y h2x h2y;go_enter func33,ntmps33;go_upto_region 1 with fail;rw[<-hW];clear hW;refine rgt S 13 [some 5,some 6,some 7,some 8,some 9,some 10,some 11,some 12,some 13,some 14,some 15,some 16,some 4] [IsV (.pointer (some ⟨w.heap.size,0,none⟩)),IsI k1 u1,IsV (.pointer (some ⟨w.heap.size+1,0,none⟩)),IsI k2 u2,IsV (.bool true),IsV (.bool true),IsV (.pointer (some ⟨w.heap.size,2,none⟩)),IsI k1 v1,IsV (.pointer (some ⟨w.heap.size+1,2,none⟩)),IsI k2 v2,IsV (.bool true),IsV (.bool true),IsV (.bool true)] ?_ ?_
 ·refine Rc (fa (fa_Rat0 (w.heap.size) 0) (qD 2)) ?_;refine Rc (ldI S 3 (w.heap.size) 0 (qA 0 5) qG) ?_;refine Rc (fa (fa_Rat0 (w.heap.size+1) 0) (qD 3)) ?_;refine Rc (ldI S 1 (w.heap.size+1) 0 (qA 2 7) qG) ?_;refine Rc (cl2 (en func26) (qA (fP:=IsI k1 u1) 1 6) (qA (fP:=IsI k2 u2) 3 8) (λx0 x1 w' hE d0 d1=>Same_t d0 d1 HU.out zb)) ?_;refine Rc (mv (qA 4 9)) ?_;refine RcG 5 10 true (fa (fa_Rat1 (w.heap.size) 0) (qD 2)) ?_;refine RcG 5 10 true (ldI S 2 (w.heap.size) 1 (qA 6 11) qG) ?_;refine RcG 5 10 true (fa (fa_Rat1 (w.heap.size+1) 0) (qD 3)) ?_;refine RcG 5 10 true (ldI S 0 (w.heap.size+1) 1 (qA 8 13) qG) ?_;refine RcG 5 10 true (cl2 (en func26) (qA (fP:=IsI k1 v1) 7 12) (qA (fP:=IsI k2 v2) 9 14) (λx0 x1 w' hE d0 d1=>Same_t d0 d1 HV.out zb)) ?_;refine Rc (pk (qC 5 10) (qA 10 15)) ?_;refine Rc (mv (qA 11 16)) ?_;exact rn0
 intro v W1 S hH;simp only[lxE,Nat.reduceAdd];rw[show v 12=.bool true from hH 12 dcx];clear hH;go_wp2_with fail;exact zD (v:=.bool true) (by simp[results,results33,go_sem]) rfl (⟨_,rfl,S.ext,rfl⟩)
theorem rqSame_eq{k1 k2:Nat}{p q:Rat}{x y:Value}{w:World}(hx:IsRat k1 p x w)(hy:IsRat k2 q y w)(l1:k1<=1048576)(h:p=q):Calls prog 33 #[x,y] w (Ret w (IsV (.bool true))):=
 rqSame_t hx hy l1 (by rw[h]) (by rw[h])
theorem rqOf_f(w:World)(n d:Int)(hn: -9223372036854775808<=n/\n<=9223372036854775807)(hd: -9223372036854775808<=d/\d<=9223372036854775807)(hz:d≠0):Calls prog 34 #[.int .i64 n,.int .i64 d] w (Ret w (IsRat 2 (Rat.divInt n d))):=by
 have HN:=hid hn;have HD:=hid hd;have HZ:=hid hz;clear hn hd hz;obtain⟨W,hW,S⟩:∃W,W=w.alloc (.cells #[.bool false,.slice none 0 0,.bool false,.slice none 0 0] 46)/\Sto w W [((w.heap.size,1),IsI 0 0),((w.heap.size,0),IsI 0 0)]:=zev;go_enter func34,ntmps34;go_upto_region 1 with fail;rw[<-hW];clear hW;refine rgs 5 [some 5,some 6,some 7,some 8,some 9] [iV n,IsI 2 n,iV d,IsI 2 d,IsQ (IsI (max 2 2) ((Rat.divInt n d).num)) (IsI (max 2 2) (((Rat.divInt n d).den:Int)))] [] ?_ ?_
 ·refine Rc jm ?_;refine Rc (cl1 (en func22) (qA (fP:=iV n) 0 5) (λx0 w' hE d0=>by{obtain rfl:x0=.int .i64 n:=d0;exact qL _ n HN.out.1 HN.out.2})) ?_;refine Rc (mv (qD 1)) ?_;refine Rc (cl1 (en func22) (qA (fP:=iV d) 2 7) (λx0 w' hE d0=>by{obtain rfl:x0=.int .i64 d:=d0;exact qL _ d HD.out.1 HD.out.2})) ?_;refine Rc (cl2 (en func78) (qA (fP:=IsI 2 n) 1 6) (qA (fP:=IsI 2 d) 3 8) (λx0 x1 w' hE d0 d1=>rqover_f d0 d1 dcx dcx HZ.out)) ?_;exact rn0
 intro v W1 e1 hH _;replace S:=S.mono e1;have h9:=hH 4 dcx;simp only[lxE,Nat.reduceAdd];clear hH e1
 try simp only[dxE]
 (with_reducible refine stL ?_ zfe);intro KK hKK;refine stQ S 1 0 (w.heap.size) 0 h9 (IsI.gstb _ _) (IsI.gstb _ _) st_Rat (λW1a S2 G2=>hKK _ _ ?_) rfl rfl
 replace S:=S2;clear S2 G2 hKK KK h9;simp only[u0x,u1x]at S;refine zF ?_;go_wp2_with fail;obtain⟨s90x,a90x,n90x,c90x,b90x,h90x⟩:=S.at 1 (w.heap.size) 0 (IsI (max 2 2) ((Rat.divInt n d).num)) rfl;have L90xa:World.cell? W1a ⟨w.heap.size,0,none⟩=some (.bool s90x):=b90x.c0;have L90xb:World.cell? W1a ⟨w.heap.size,1,none⟩=some (.slice a90x n90x c90x):=b90x.c1;obtain⟨s90y,a90y,n90y,c90y,b90y,h90y⟩:=S.at 0 (w.heap.size) 1 (IsI (max 2 2) (((Rat.divInt n d).den:Int))) rfl;have L90ya:World.cell? W1a ⟨w.heap.size,2,none⟩=some (.bool s90y):=b90y.c0;have L90yb:World.cell? W1a ⟨w.heap.size,3,none⟩=some (.slice a90y n90y c90y):=b90y.c1;exact zD (v:=.agg #[.bool s90x,.slice a90x n90x c90x,.bool s90y,.slice a90y n90y c90y]) (by simp[results,results34,go_sem,L90xa,L90xb,L90ya,L90yb]) rfl (⟨_,rfl,S.ext,⟨_,_,_,_,_,_,_,_,rfl,h90x,h90y⟩⟩)
theorem one1_f(w:World)(z:Int)(HZ:Hid (-9223372036854775808<=z/\z<=9223372036854775807))(q:Rat)(HQ:Hid (Rat.divInt z 1=q)):Calls prog 109 #[.int .i64 z] w (Ret w (IsRat 4 q)):=by
 obtain⟨W,hW,S⟩:∃W,W=w.alloc (.cells #[.bool false,.slice none 0 0,.bool false,.slice none 0 0] 46)/\Sto w W [((w.heap.size,1),IsI 0 0),((w.heap.size,0),IsI 0 0)]:=zev;go_enter func109,ntmps109;go_upto_region 1 with fail;rw[<-hW];clear hW;have hl:=hid S.lt;have hw:=S.ext.size;refine rgs 8 [some 6,some 7,some 8,some 9,some 5,some 10,some 11,some 3] [iV z,IsI 2 z,IsI 2 1,IsT2 (IsQ (IsI (max (2+2) 2) q.num) (IsI (max (2+2) 2) (((q.den:Nat):Int)))) (iV 0),IsT2 (IsQ (IsI (max (2+2) 2) q.num) (IsI (max (2+2) 2) (((q.den:Nat):Int)))) (iV 0),IsQ (IsI (max (2+2) 2) q.num) (IsI (max (2+2) 2) (((q.den:Nat):Int))),iV 0,IsBo W 2] [7] ?_ ?_
 ·refine Rc jm ?_;refine Rc (cl1 (en func41) (qA (fP:=iV z) 0 6) (λx0 w' hE d0=>by{obtain rfl:x0=.int .i64 z:=d0;exact xT _ z HZ.out.1 HZ.out.2})) ?_;refine Rc zm ?_;refine Rc (cl2 (en func110) (qA (fP:=IsI 2 z) 1 7) (qA (fP:=IsI 2 1) 2 8) (λx0 x1 w' hE d0 d1=>qNew_c d0 d1 dcx dcx dcx q HQ.out)) ?_;refine Rc (mv (qA 3 9)) ?_;refine Rc (ex (qC 4 5) t20) ?_;refine Rc (ex (qC 4 5) t21) ?_;refine Rc (al al_Rat) ?_;exact rn0
 intro v W1 e1 hH _;replace S:=S.mono e1;have h10:=hH 5 dcx;have v6:v 6=.int .i64 0:=hH 6 dcx;obtain⟨g3,v7,q2,b1,_⟩:=(hH 7 dcx:IsBo W 2 (v 7) W1);replace S:=S.addN 2 (ApartO.old hl.out q2) (zN hw q2) b1;simp only[newF,List.cons_append,List.nil_append]at S;simp only[lxE,Nat.reduceAdd];rw[v6,v7];clear b1 hl hw v6 v7 hH e1
 try simp only[dxE]
 (with_reducible refine stL ?_ zfe);intro KK hKK;refine stQ S 1 0 (g3) 0 h10 (IsI.gstb _ _) (IsI.gstb _ _) st_Rat (λW1a S2 G2=>hKK _ _ ?_) rfl rfl
 replace S:=S2;clear S2 G2 hKK KK h10;simp only[u0x,u1x]at S;refine zT λK hK=>?_;go_simp;refine hK _ _ ?_;clear hK K
 refine zF ?_;go_upto_region 2 with fail;refine rgs 1 [some 12] [IsQ (IsI (max (2+2) 2) q.num) (IsI (max (2+2) 2) (((q.den:Nat):Int)))] [] ?_ ?_
 ·refine Rc (ldQ S 1 0 (g3) 0 (qD 3) ld_Rat rfl rfl) ?_;exact rn0
 intro v W2 e1 hH _;replace S:=S.mono e1;have h12:=hH 0 dcx;simp only[lxE];clear hH e1
 try simp only[dxE]
 (with_reducible refine stL ?_ zfe);intro KK hKK;refine stQ S 3 2 (w.heap.size) 0 h12 (IsI.gstb _ _) (IsI.gstb _ _) st_Rat (λW2a S2 G2=>hKK _ _ ?_) rfl rfl
 replace S:=S2;clear S2 G2 hKK KK h12;simp only[u0x,u1x]at S;refine zF ?_;go_wp2_with fail;obtain⟨s90x,a90x,n90x,c90x,b90x,h90x⟩:=S.at 3 (w.heap.size) 0 (IsI (max (2+2) 2) q.num) rfl;have L90xa:World.cell? W2a ⟨w.heap.size,0,none⟩=some (.bool s90x):=b90x.c0;have L90xb:World.cell? W2a ⟨w.heap.size,1,none⟩=some (.slice a90x n90x c90x):=b90x.c1;obtain⟨s90y,a90y,n90y,c90y,b90y,h90y⟩:=S.at 2 (w.heap.size) 1 (IsI (max (2+2) 2) (((q.den:Nat):Int))) rfl;have L90ya:World.cell? W2a ⟨w.heap.size,2,none⟩=some (.bool s90y):=b90y.c0;have L90yb:World.cell? W2a ⟨w.heap.size,3,none⟩=some (.slice a90y n90y c90y):=b90y.c1;exact zD (v:=.agg #[.bool s90x,.slice a90x n90x c90x,.bool s90y,.slice a90y n90y c90y]) (by simp[results,results109,go_sem,L90xa,L90xb,L90ya,L90yb]) rfl (⟨_,rfl,S.ext,⟨_,_,_,_,_,_,_,_,rfl,h90x,h90y⟩⟩)
structure PartAt (W:World) (g:Nat) (name:ByteArray) (K:Nat) (q:Rat):Prop where
 nm:World.cell? W ⟨g,0,none⟩=some (.string name)
 at_:World.cell? W ⟨g,1,none⟩=some (.int .i64 0)
 c:∃s a n c s' a' n' c',World.cell? W ⟨g,2,none⟩=some (.bool s)/\World.cell? W ⟨g,3,none⟩=some (.slice a n c)/\World.cell? W ⟨g,4,none⟩=some (.bool s')/\World.cell? W ⟨g,5,none⟩=some (.slice a' n' c')/\IsRat K q (.agg #[.bool s,.slice a n c,.bool s',.slice a' n' c']) W
 is_:World.cell? W ⟨g,6,none⟩=some (.bool false)
 v0:World.cell? W ⟨g,7,none⟩=some (.bool false)
 v1:World.cell? W ⟨g,8,none⟩=some (.slice none 0 0)
theorem PartAt.ext{W W':World}{g:Nat}{name:ByteArray}{K:Nat}{q:Rat}(h:PartAt W g name K q)(E:Ext W W'):PartAt W' g name K q:=by
 obtain⟨s,a,n,c,s',a',n',c',h1,h2,h3,h4,h5⟩:=h.c;exact⟨E.cell h.nm,E.cell h.at_,⟨s,a,n,c,s',a',n',c',E.cell h1,E.cell h2,E.cell h3,E.cell h4,IsQ.stb (IsI.stb _ _) (IsI.stb _ _) _ _ _ E h5⟩,E.cell h.is_,E.cell h.v0,E.cell h.v1⟩
def AuV(name:ByteArray)(K:Nat)(q t:Rat):Value->World->Prop:=λv W=>∃g s a n c s' a' n' c',v=.agg #[.slice (some ⟨g,0,none⟩) 1 1,.bool s,.slice a n c,.bool s',.slice a' n' c']/\IsRat K t (.agg #[.bool s,.slice a n c,.bool s',.slice a' n' c']) W/\PartAt W g name K q
theorem AuV.stb(name:ByteArray)(K:Nat)(q t:Rat):Stb (AuV name K q t):=λ_ _ _ e ⟨g,s,a,n,c,s',a',n',c',h1,h2,h3⟩=>⟨g,s,a,n,c,s',a',n',c',h1,IsQ.stb (IsI.stb _ _) (IsI.stb _ _) _ _ _ e h2,h3.ext e⟩
def qY:Value:=.agg #[.slice none 0 0,.bool false,.slice none 0 0,.bool false,.slice none 0 0]
theorem one_f(w:World)(name:ByteArray)(z:Int)(hz: -9223372036854775808<=z/\z<=9223372036854775807):Calls prog 58 #[.string name,.int .i64 z] w (Ret w (IsT2 (AuV name 4 1 (Rat.divInt z 1)) (iV 0))):=by
 have HZ:=hid hz;clear hz
 obtain⟨W,hW,E,hc,hf⟩:∃W,W=w.alloc (.cells #[.slice none 0 0,.bool false,.slice none 0 0,.bool false,.slice none 0 0] 48)/\Ext w W/\(∀(j:Nat) (v:Value),(#[.slice none 0 0,.bool false,.slice none 0 0,.bool false,.slice none 0 0]:Array Value)[j]? =some v->World.cell? W ⟨w.heap.size,j,none⟩=some v)/\∀j,World.frozen? W ⟨w.heap.size,j,none⟩=false:=
  ⟨_,rfl,(Ext.refl _).alloc _,λj v hj=>qH _ _ rfl _ _ _ _ hj,λj=>by simp⟩
 go_enter func58,ntmps58;go_upto_region 2 with fail;rw[<-hW];have hWs:W.heap.size=w.heap.size+1:=zde
 clear hW;have M0:=hc 0 _ rfl;have M1:=hc 1 _ rfl;have M2:=hc 2 _ rfl;have M3:=hc 3 _ rfl;have M4:=hc 4 _ rfl;have N0:=hf 0;have N1:=hf 1;have N2:=hf 2;have N3:=hf 3;have N4:=hf 4;clear hc hf;have hA:=λW=>one1_f W 1 (hid dcx) 1 (hid rfl)
 have hB:=λW=>one1_f W z HZ (Rat.divInt z 1) (hid rfl)
 go_wp2_with (go_at_call 109;go_must (first| (refine zC (hA _) ?_;rintro e w1 ⟨_,rfl,E1,sA,aA,nA,cA,sB,aB,nB,cB,rfl,hA1,hA2⟩;clear hA)| (refine zC (hB _) ?_;rintro e w2 ⟨_,rfl,E2,sC,aC,nC,cC,sD,aD,nD,cD,rfl,hB1,hB2⟩;clear hB;have L0:=Ext.cell ((E1.alloc _).trans E2) M0;have L1:=Ext.cell ((E1.alloc _).trans E2) M1;have L2:=Ext.cell ((E1.alloc _).trans E2) M2;have L3:=Ext.cell ((E1.alloc _).trans E2) M3;have L4:=Ext.cell ((E1.alloc _).trans E2) M4;have K0:=(Ext.frozen ((E1.alloc _).trans E2) (p:=⟨w.heap.size,0,none⟩) yu).trans N0;have K1:=(Ext.frozen ((E1.alloc _).trans E2) (p:=⟨w.heap.size,1,none⟩) yu).trans N1;have K2:=(Ext.frozen ((E1.alloc _).trans E2) (p:=⟨w.heap.size,2,none⟩) yu).trans N2;have K3:=(Ext.frozen ((E1.alloc _).trans E2) (p:=⟨w.heap.size,3,none⟩) yu).trans N3;have K4:=(Ext.frozen ((E1.alloc _).trans E2) (p:=⟨w.heap.size,4,none⟩) yu).trans N4)))
 have hs:∀i,i<5->(World.cell? w2 ⟨w.heap.size,0+i,none⟩).isSome:=λi hi=>by
  rcases(show i=0\/i=1\/i=2\/i=3\/i=4 by omega)with rfl|rfl|rfl|rfl|rfl
  ·rw[L0];rfl
  ·rw[L1];rfl
  ·rw[L2];rfl
  ·rw[L3];rfl
  ·rw[L4];rfl
 have hnw:∀i,i<5->∃u,World.cell? w2 ⟨w.heap.size,0+i,none⟩=some u/\NoWord u:=λi hi=>by
  rcases(show i=0\/i=1\/i=2\/i=3\/i=4 by omega)with rfl|rfl|rfl|rfl|rfl
  ·exact⟨_,L0,NoWord.slice _ _ _⟩
  ·exact⟨_,L1,NoWord.bool _⟩
  ·exact⟨_,L2,NoWord.slice _ _ _⟩
  ·exact⟨_,L3,NoWord.bool _⟩
  ·exact⟨_,L4,NoWord.slice _ _ _⟩
 obtain⟨vs,hvs⟩:∃vs:List Value,vs= [.slice (some ⟨w1.heap.size,0,none⟩) 1 1,.bool sC,.slice aC nC cC,.bool sD,.slice aD nD cD]:=⟨_,rfl⟩;have hl5:vs.length=5:=zcu
 have hcell:=setL_cell vs w2 w.heap.size 0 (by rw[hl5];exact hs);have hgr:=setL_gr vs w2 w.heap.size 0 (by rw[hl5];exact hnw);have hbel:=setL_below vs w2 w w.heap.size 0 w.heap.size (((E.trans E1).alloc _).trans E2) (zL _);have hoth:=λp hp=>setL_other vs w2 w.heap.size 0 p (.inl hp)
 obtain⟨W2,hW9⟩:∃W2,setL w2 w.heap.size 0 vs=W2:=⟨_,rfl⟩;rw[hW9]at hcell hgr hbel;simp only[hW9]at hoth;subst hvs;simp only[setL,Nat.zero_add,Nat.reduceAdd]at hW9;rw[hW9];have c0:=hcell 0 _ rfl;have c1:=hcell 1 _ rfl;have c2:=hcell 2 _ rfl;have c3:=hcell 3 _ rfl;have c4:=hcell 4 _ rfl
 try simp only[Nat.zero_add]at c0 c1 c2 c3 c4
 have hg1:w1.heap.size≠w.heap.size:=by have:=E1.size;omega
 have hpart:PartAt W2 w1.heap.size name 4 1:=by
  have hE2:=λj (v:Value) h=>(hoth ⟨w1.heap.size,j,none⟩ hg1).trans (E2.cell (qH w1 w1.heap.size rfl #[.string name,.int .i64 0,.bool sA,.slice aA nA cA,.bool sB,.slice aB nB cB,.bool false,.bool false,.slice none 0 0] 74 j v h))
  exact⟨hE2 0 _ rfl,hE2 1 _ rfl,⟨_,_,_,_,_,_,_,_,hE2 2 _ rfl,hE2 3 _ rfl,hE2 4 _ rfl,hE2 5 _ rfl,IsQ.gstb (IsI.gstb _ _) (IsI.gstb _ _) _ _ _ ((Gr.refl _).ext (((Ext.refl w1).alloc _).trans E2) |>.trans hgr) ⟨_,_,_,_,_,_,_,_,rfl,hA1,hA2⟩⟩,hE2 6 _ rfl,hE2 7 _ rfl,hE2 8 _ rfl⟩
 have htot:=IsQ.gstb (IsI.gstb _ _) (IsI.gstb _ _) _ _ _ hgr ⟨_,_,_,_,_,_,_,_,rfl,hB1,hB2⟩;exact zD (v:=.tuple #[.agg #[.slice (some ⟨w1.heap.size,0,none⟩) 1 1,.bool sC,.slice aC nC cC,.bool sD,.slice aD nD cD],.int .i64 0]) (by simp[results,results58,go_sem,c0,c1,c2,c3,c4]) rfl ⟨_,rfl,hbel,_,_,rfl,⟨_,_,_,_,_,_,_,_,_,rfl,htot,hpart⟩,rfl⟩
structure AuBox (W:World) (b:Nat):Prop where
 m0:World.cell? W ⟨b,0,none⟩=some (.slice none 0 0)
 m1:World.cell? W ⟨b,1,none⟩=some (.bool false)
 m2:World.cell? W ⟨b,2,none⟩=some (.slice none 0 0)
 m3:World.cell? W ⟨b,3,none⟩=some (.bool false)
 m4:World.cell? W ⟨b,4,none⟩=some (.slice none 0 0)
 f:∀j,World.frozen? W ⟨b,j,none⟩=false
theorem AuBox.lt{W:World}{b:Nat}(h:AuBox W b):b<W.heap.size:=World.block_lt_of_cell? W _ h.m0
theorem AuBox.ext{W W':World}{b:Nat}(h:AuBox W b)(E:Ext W W'):AuBox W' b:=⟨E.cell h.m0,E.cell h.m1,E.cell h.m2,E.cell h.m3,E.cell h.m4,λj=>(E.frozen h.lt).trans (h.f j)⟩
theorem AuBox.new(w:World):AuBox (w.alloc (.cells #[.slice none 0 0,.bool false,.slice none 0 0,.bool false,.slice none 0 0] 48)) w.heap.size:=⟨by simp,by simp,by simp,by simp,by simp,λj=>by simp⟩
theorem AuBox.newE(w:World)(g:Nat)(hg:w.heap.size=g):AuBox (w.alloc (.cells #[.slice none 0 0,.bool false,.slice none 0 0,.bool false,.slice none 0 0] 48)) g:=by subst hg;exact AuBox.new w
structure AuAt (W:World) (b:Nat) (ao:Option Addr) (n0 c0:Nat) (s:Bool) (a:Option Addr) (n c:Nat) (s':Bool) (a':Option Addr) (n' c':Nat):Prop where
 m0:World.cell? W ⟨b,0,none⟩=some (.slice ao n0 c0)
 m1:World.cell? W ⟨b,1,none⟩=some (.bool s)
 m2:World.cell? W ⟨b,2,none⟩=some (.slice a n c)
 m3:World.cell? W ⟨b,3,none⟩=some (.bool s')
 m4:World.cell? W ⟨b,4,none⟩=some (.slice a' n' c')
theorem AuAt.ext{W W':World}{b:Nat}{ao:Option Addr}{n0 c0:Nat}{s:Bool}{a:Option Addr}{n c:Nat}{s':Bool}{a':Option Addr}{n' c':Nat}(h:AuAt W b ao n0 c0 s a n c s' a' n' c')(E:Ext W W'):AuAt W' b ao n0 c0 s a n c s' a' n' c':=
 ⟨E.cell h.m0,E.cell h.m1,E.cell h.m2,E.cell h.m3,E.cell h.m4⟩
theorem jZ{W:World}{b:Nat}(h:AuBox W b)(ao:Option Addr)(n0 c0:Nat)(s:Bool)(a:Option Addr)(n c:Nat)(s':Bool)(a':Option Addr)(n' c':Nat):
  ∃ W0,((((W.setCell ⟨b,0,none⟩ (.slice ao n0 c0)).setCell ⟨b,1,none⟩ (.bool s)).setCell ⟨b,2,none⟩ (.slice a n c)).setCell ⟨b,3,none⟩ (.bool s')).setCell ⟨b,4,none⟩ (.slice a' n' c')=W0/\
   AuAt W0 b ao n0 c0 s a n c s' a' n' c'/\(∀base w,Below base w W->base<=b->Below base w W0)/\(∀p:Addr,p.block≠b->World.cell? W0 p=World.cell? W p)/\Gr W W0:=by
 have hs:∀i,i<5->∃u,World.cell? W ⟨b,0+i,none⟩=some u/\NoWord u:=λi hi=>by
  rcases(show i=0\/i=1\/i=2\/i=3\/i=4 by omega)with rfl|rfl|rfl|rfl|rfl
  ·exact⟨_,h.m0,NoWord.slice _ _ _⟩
  ·exact⟨_,h.m1,NoWord.bool _⟩
  ·exact⟨_,h.m2,NoWord.slice _ _ _⟩
  ·exact⟨_,h.m3,NoWord.bool _⟩
  ·exact⟨_,h.m4,NoWord.slice _ _ _⟩
 obtain⟨vs,hvs⟩:∃vs:List Value,vs= [.slice ao n0 c0,.bool s,.slice a n c,.bool s',.slice a' n' c']:=⟨_,rfl⟩;have hl5:vs.length=5:=zcu
 have hcell:=setL_cell vs W b 0 (λi hi=>by obtain⟨u,hu,_⟩:=hs i zb;rw[hu];rfl);have hgr:=setL_gr vs W b 0 (λi hi=>hs i zb);have hbel:=λbase w hB hb=>setL_below vs W w b 0 base hB hb
 have hoth:=λp hp=>setL_other vs W b 0 p (.inl hp)
 refine⟨setL W b 0 vs,by rw[hvs];rfl,?_,hbel,hoth,hgr⟩;have c0:=hcell 0 _ zcu;have c1:=hcell 1 _ zcu;have c2:=hcell 2 _ zcu;have c3:=hcell 3 _ zcu;have c4:=hcell 4 _ zcu;exact⟨c0,c1,c2,c3,c4⟩
theorem PartAt.put{W W0:World}{b g:Nat}{name:ByteArray}{K:Nat}{q:Rat}(h:PartAt W g name K q)(hb:AuBox W b)(hoth:∀p:Addr,p.block≠b->World.cell? W0 p=World.cell? W p)(hgr:Gr W W0):PartAt W0 g name K q:=by
 have hne:g≠b:=by
  rintro rfl;have:=h.nm.symm.trans hb.m0;cases this
 obtain⟨s,a,n,c,s',a',n',c',h1,h2,h3,h4,h5⟩:=h.c;exact⟨(hoth _ hne).trans h.nm,(hoth _ hne).trans h.at_,⟨s,a,n,c,s',a',n',c',(hoth _ hne).trans h1,(hoth _ hne).trans h2,(hoth _ hne).trans h3,(hoth _ hne).trans h4,IsQ.gstb (IsI.gstb _ _) (IsI.gstb _ _) _ _ _ hgr h5⟩,(hoth _ hne).trans h.is_,(hoth _ hne).trans h.v0,(hoth _ hne).trans h.v1⟩
end Go.Proofs.YtknffgdbdadpcaaGreatDoor
