/-
 Package density: Audit, at a discriminant. (Printed by wip/gen/den15.py.)
 Package density where the number is no discriminant (d >= 0); SameList of the reference of package genus. (Printed by wip/gen/den16.py.)
-/
import Derived.Test.YtknffgdbdadpcaaGreatDoorDen14
namespace Go.Proofs.YtknffgdbdadpcaaGreatDoor
open Go Go.RowKit
open Go.Proofs.Tryz
theorem zel{P:Prop}(h:P:=by exact⟨_,rfl,((((Sto.start w).new1 (w.heap.size) zh s1 a1 n1 c1 33 (IsI k1 (-(n:Int))) (IsI.gstb _ _) (h1)).new1 (w.heap.size+1) zh s2 a2 n2 c2 33 (IsI k2 z) (IsI.gstb _ _) (h2.ext ((Ext.refl _).alloc _))).mono ((Ext.refl _).alloc _)),AuBox.newE _ _ zh⟩):P:=h
theorem zeo{P:Prop}(h:P:=by exact cl2 (en func12) (qA (fP:=IsI k1 (-(n:Int))) 0 13) (qA (fP:=IsI k2 z) 1 14) (λx0 x1 w' hE d0 d1=>(by have hh:=Total_f d0 d1 zl (HSG.out.ext (S.ext.trans hE)) HNN.out HL.out;rw[HU.out,HTE.out]at hh;exact hh))):P:=h
theorem ze2{P:Prop}(h:P:=by exact cl2 (en func52) (qA (fP:=IsI k2 z) 0 22) (qA (fP:=IsI 2 1024) 1 23) (λx0 x1 w' hE d0 d1=>zC (jB d0 d1 zl dcx) λ_ _ h=>h.int HC4.out)):P:=h
theorem zah{P:Prop}(h:P:=by exact cl1 (en func84) (qA (fP:=IsI k1 z) 0 14) (λx0 w' hE d0=>zC (jA d0) λ_ _ h=>h.int HSG.out)):P:=h
theorem zci{P:Prop}(h:P:=by exact cl1 (en func41) qE (λx0 w' hE d0=>by{obtain rfl:x0=.int .i64 1024:=d0;exact xT _ 1024 dcx dcx})):P:=h
set_option maxRecDepth 100000
set_option maxHeartbeats 4000000
theorem Audit_b{k1 k2 n L:Nat}{z:Int}{x y:Value}{w:World}(hx:IsI k1 (-(n:Int)) x w)(hy:IsI k2 z y w)(HK:Hid (k1<=162/\k2<=162))(HSG:Hid (Sg w))(HNN:Hid (1<=n/\n<=4194304/\(n%4=0\/n%4=3)))(HL:Hid (L*L<=n/\n<(L+1)*(L+1))){ue te:Int}(HU:Hid (unsE (cdB n L) z=ue))(HTE:Hid (totE n L z=te))(HUB:Hid ((ue !=0)=false)){c4:Int}(HC4:Hid (qK z 1024=c4))(HC4B:Hid (decide (0<c4)=true)):Calls prog 16 #[x,y] w (Ret w (IsT2 (IsV qY) (iV (2)))):=by
 obtain⟨s1,a1,n1,c1,rfl,h1⟩:=hx;have h1:IsI _ _ _ w:=⟨_,_,_,_,rfl,h1⟩;obtain⟨s2,a2,n2,c2,rfl,h2⟩:=hy;have h2:IsI _ _ _ w:=⟨_,_,_,_,rfl,h2⟩;obtain⟨W,hW,S,AB⟩:∃W,W=((w.alloc (.cells #[.bool s1,.slice a1 n1 c1] 33)).alloc (.cells #[.bool s2,.slice a2 n2 c2] 33)).alloc (.cells #[.slice none 0 0,.bool false,.slice none 0 0,.bool false,.slice none 0 0] 48)/\Sto w W [((w.heap.size+1,0),IsI k2 z),((w.heap.size,0),IsI k1 (-(n:Int)))]/\AuBox W (w.heap.size+1+1):=zel;clear h1 h2;have EA:=Ext.refl W;go_enter func16,ntmps16;go_upto_region 1 with fail;rw[<-hW];clear hW;refine rgs 8 [some 13,some 14,some 15,some 12,some 16,some 17,some 6,some 7] [IsI k1 (-(n:Int)),IsI k2 z,IsT2 (iV te) (iV ue),IsT2 (iV te) (iV ue),iV te,iV ue,iV te,iV ue] [] ?_ ?_
 ·refine Rc zf ?_;refine Rc zg ?_;refine Rc zeo ?_;refine Rc zdm ?_;refine Rc (ex (qC 3 12) t20) ?_;refine Rc (ex (qC 3 12) t21) ?_;refine Rc (mv (qA 4 16)) ?_;refine Rc (mv (qA 5 17)) ?_;exact rn0
 intro v W1 e1 hH _;replace S:=S.mono e1;replace EA:=EA.trans e1;simp only[lxE,Nat.reduceAdd];rw[show v 6=.int .i64 te from hH 6 dcx,show v 7=.int .i64 ue from hH 7 dcx];clear hH e1;refine zF ?_;go_upto_region 2 with fail;refine rgs 2 [some 18,some 19] [iV ue,IsV (.bool false)] [] ?_ ?_
 ·refine Rc xa ?_;refine Rc (bn (r:=.bool false) (qC 0 18) qE (hr:=λw=>by have hx9:=HUB.out;go_simp)) ?_;exact rn0
 intro v W2 e1 hH _;replace S:=S.mono e1;replace EA:=EA.trans e1;simp only[lxE,Nat.reduceAdd];rw[show v 1=.bool false from hH 1 dcx];clear hH e1;refine zF ?_;go_upto_region 4 with fail;refine rg 4 [some 22,some 23,some 24,some 25] [IsI k2 z,IsI 2 1024,iV c4,IsV (.bool true)] [] 0 ?_ ?_
 ·refine Rc zg ?_;refine Rc zci ?_;refine Rc ze2 ?_;refine Rc (bn (r:=.bool true) (qC 2 24) qE (hr:=λw=>by have hx9:=HC4B.out;go_simp)) ?_;exact rn0
 intro v W4 e1 hH _;replace S:=S.mono e1;replace EA:=EA.trans e1;simp only[lxE,Nat.reduceAdd];rw[show v 3=.bool true from hH 3 dcx];clear hH e1;refine zO za ?_ _;go_upto_region 5 with fail;have AB9:=AB.ext EA;have M0:=AB9.m0;have M1:=AB9.m1;have M2:=AB9.m2;have M3:=AB9.m3;have M4:=AB9.m4;have N0:=AB9.f 0;have N1:=AB9.f 1;have N2:=AB9.f 2;have N3:=AB9.f 3;have N4:=AB9.f 4;have HE:=hid S.ext;clear S EA AB;go_wp2_with fail;obtain⟨W5,hW9,hAt,hbel,_,_⟩:=jZ AB9 none 0 0 false none 0 0 false none 0 0;rw[hW9];have c0:=hAt.m0;have c1:=hAt.m1;have c2:=hAt.m2;have c3:=hAt.m3;have c4:=hAt.m4;exact zD (v:=.tuple #[qY,.int .i64 2]) (by simp[results,results16,go_sem,c0,c1,c2,c3,c4,qY]) rfl ⟨_,rfl,hbel _ _ HE.out zb,_,_,rfl,rfl,rfl⟩
theorem Audit_k{k1 k2 n L:Nat}{z:Int}{x y:Value}{w:World}(hx:IsI k1 (-(n:Int)) x w)(hy:IsI k2 z y w)(HK:Hid (k1<=162/\k2<=162))(HSG:Hid (Sg w))(HNN:Hid (1<=n/\n<=4194304/\(n%4=0\/n%4=3)))(HL:Hid (L*L<=n/\n<(L+1)*(L+1))){ue te:Int}(HU:Hid (unsE (cdB n L) z=ue))(HTE:Hid (totE n L z=te))(HUB:Hid ((ue !=0)=false)){c4:Int}(HC4:Hid (qK z 1024=c4))(HC4B:Hid (decide (0<c4)=false))(HT:Hid (Tab w))(td tn:ByteArray)(HTD:Hid (encS (xW (-(n:Int)))=.string td/\jG (-(n:Int))=0/\td.size<=1000))(HTN:Hid (encS (xW z)=.string tn/\jG z=0/\tn.size<=1000))(HTB:Hid (-9223372036854775808<=te/\te<=9223372036854775807)):Calls prog 16 #[x,y] w (Ret w (IsT2 (AuV ((⟨#[115,58]⟩:ByteArray)++td++(⟨#[58]⟩:ByteArray)++tn) 4 1 (Rat.divInt te 1)) (iV 0))):=by
 obtain⟨s1,a1,n1,c1,rfl,h1⟩:=hx;have h1:IsI _ _ _ w:=⟨_,_,_,_,rfl,h1⟩;obtain⟨s2,a2,n2,c2,rfl,h2⟩:=hy;have h2:IsI _ _ _ w:=⟨_,_,_,_,rfl,h2⟩;obtain⟨W,hW,S,AB⟩:∃W,W=((w.alloc (.cells #[.bool s1,.slice a1 n1 c1] 33)).alloc (.cells #[.bool s2,.slice a2 n2 c2] 33)).alloc (.cells #[.slice none 0 0,.bool false,.slice none 0 0,.bool false,.slice none 0 0] 48)/\Sto w W [((w.heap.size+1,0),IsI k2 z),((w.heap.size,0),IsI k1 (-(n:Int)))]/\AuBox W (w.heap.size+1+1):=zel;clear h1 h2;have EA:=Ext.refl W;go_enter func16,ntmps16;go_upto_region 1 with fail;rw[<-hW];clear hW;refine rgs 8 [some 13,some 14,some 15,some 12,some 16,some 17,some 6,some 7] [IsI k1 (-(n:Int)),IsI k2 z,IsT2 (iV te) (iV ue),IsT2 (iV te) (iV ue),iV te,iV ue,iV te,iV ue] [] ?_ ?_
 ·refine Rc zf ?_;refine Rc zg ?_;refine Rc zeo ?_;refine Rc zdm ?_;refine Rc (ex (qC 3 12) t20) ?_;refine Rc (ex (qC 3 12) t21) ?_;refine Rc (mv (qA 4 16)) ?_;refine Rc (mv (qA 5 17)) ?_;exact rn0
 intro v W1 e1 hH _;replace S:=S.mono e1;replace EA:=EA.trans e1;simp only[lxE,Nat.reduceAdd];rw[show v 6=.int .i64 te from hH 6 dcx,show v 7=.int .i64 ue from hH 7 dcx];clear hH e1;refine zF ?_;go_upto_region 2 with fail;refine rgs 2 [some 18,some 19] [iV ue,IsV (.bool false)] [] ?_ ?_
 ·refine Rc xa ?_;refine Rc (bn (r:=.bool false) (qC 0 18) qE (hr:=λw=>by have hx9:=HUB.out;go_simp)) ?_;exact rn0
 intro v W2 e1 hH _;replace S:=S.mono e1;replace EA:=EA.trans e1;simp only[lxE,Nat.reduceAdd];rw[show v 1=.bool false from hH 1 dcx];clear hH e1;refine zF ?_;go_upto_region 4 with fail;refine rg 4 [some 22,some 23,some 24,some 25] [IsI k2 z,IsI 2 1024,iV c4,IsV (.bool false)] [] 0 ?_ ?_
 ·refine Rc zg ?_;refine Rc zci ?_;refine Rc ze2 ?_;refine Rc (bn (r:=.bool false) (qC 2 24) qE (hr:=λw=>by have hx9:=HC4B.out;go_simp)) ?_;exact rn0
 intro v W4 e1 hH _;replace S:=S.mono e1;replace EA:=EA.trans e1;simp only[lxE,Nat.reduceAdd];rw[show v 3=.bool false from hH 3 dcx];clear hH e1;refine zO za ?_ _;go_upto_region 6 with fail;refine rgs 7 [some 28,some 29,some 27,some 30,some 31,some 8,some 9] [IsI k1 (-(n:Int)),IsT2 (IsV (.string td)) (iV 0),IsT2 (IsV (.string td)) (iV 0),IsV (.string td),iV 0,IsV (.string td),iV 0] [] ?_ ?_
 ·refine Rc zf ?_;refine Rc (cl1 (en func57) (qA (fP:=IsI k1 (-(n:Int))) 0 28) (λx0 w' hE d0=>(by have hh:=Text_f d0 zl (HT.out.ext (S.ext.trans hE));rw[HTD.out.1,HTD.out.2.1]at hh;exact hh))) ?_;refine Rc (mv (qA 1 29)) ?_;refine Rc (ex (qC 2 27) t20) ?_;refine Rc (ex (qC 2 27) t21) ?_;refine Rc (mv (qA 3 30)) ?_;refine Rc (mv (qA 4 31)) ?_;exact rn0
 intro v W6 e1 hH _;replace S:=S.mono e1;replace EA:=EA.trans e1;simp only[lxE,Nat.reduceAdd];rw[show v 5=.string td from hH 5 dcx];clear hH e1;refine zF ?_;go_upto_region 7 with fail;refine rgs 7 [some 33,some 34,some 32,some 35,some 36,some 10,some 11] [IsI k2 z,IsT2 (IsV (.string tn)) (iV 0),IsT2 (IsV (.string tn)) (iV 0),IsV (.string tn),iV 0,IsV (.string tn),iV 0] [] ?_ ?_
 ·refine Rc zg ?_;refine Rc (cl1 (en func57) (qA (fP:=IsI k2 z) 0 33) (λx0 w' hE d0=>(by have hh:=Text_f d0 zl (HT.out.ext (S.ext.trans hE));rw[HTN.out.1,HTN.out.2.1]at hh;exact hh))) ?_;refine Rc (mv (qA 1 34)) ?_;refine Rc (ex (qC 2 32) t20) ?_;refine Rc (ex (qC 2 32) t21) ?_;refine Rc (mv (qA 3 35)) ?_;refine Rc (mv (qA 4 36)) ?_;exact rn0
 intro v W7 e1 hH _;replace S:=S.mono e1;replace EA:=EA.trans e1;simp only[lxE,Nat.reduceAdd];rw[show v 5=.string tn from hH 5 dcx];clear hH e1;refine zF ?_;go_upto_region 8 with fail;have HB:=hid (show td.size+2<=9223372036854775807/\td.size+2+1<=9223372036854775807/\td.size+2+1+tn.size<=9223372036854775807 by have:=HTD.out.2.2;have:=HTN.out.2.2;omega);have AB9:=AB.ext EA;have M0:=AB9.m0;have M1:=AB9.m1;have M2:=AB9.m2;have M3:=AB9.m3;have M4:=AB9.m4;have N0:=AB9.f 0;have N1:=AB9.f 1;have N2:=AB9.f 2;have N3:=AB9.f 3;have N4:=AB9.f 4;have HE:=hid S.ext;have ht9:=HB.out.1;have ht8:=HB.out.2.1;have ht7:=HB.out.2.2;clear S EA;go_wp2_with (go_at_call 58;go_must (refine zC (one_f _ _ _ HTB.out) ?_;rintro e w9 ⟨_,rfl,E9,_,_,rfl,⟨gp,sA,aA,nA,cA,sB,aB,nB,cB,rfl,hA,hP⟩,rfl⟩;have AB10:=AB9.ext E9;have P0:=AB10.m0;have P1:=AB10.m1;have P2:=AB10.m2;have P3:=AB10.m3;have P4:=AB10.m4;have Q0:=AB10.f 0;have Q1:=AB10.f 1;have Q2:=AB10.f 2;have Q3:=AB10.f 3;have Q4:=AB10.f 4))
 obtain⟨W8,hW9,hAt,hbel,hoth,hgr⟩:=jZ AB10 (some ⟨gp,0,none⟩) 1 1 sA aA nA cA sB aB nB cB;rw[hW9];have c0:=hAt.m0;have c1:=hAt.m1;have c2:=hAt.m2;have c3:=hAt.m3;have c4:=hAt.m4;have hP9:=hP.put AB10 hoth hgr;have hA9:=IsQ.gstb (IsI.gstb _ _) (IsI.gstb _ _) _ _ _ hgr hA;exact zD (v:=.tuple #[.agg #[.slice (some ⟨gp,0,none⟩) 1 1,.bool sA,.slice aA nA cA,.bool sB,.slice aB nB cB],.int .i64 0]) (by simp[results,results16,go_sem,c0,c1,c2,c3,c4]) rfl ⟨_,rfl,hbel _ _ (HE.out.trans E9) zb,_,_,rfl,⟨_,_,_,_,_,_,_,_,_,rfl,hA9,hP9⟩,rfl⟩
theorem drefused_p{k1:Nat}{z:Int}{x:Value}{w:World}(hx:IsI k1 z x w)(l1:k1<=16777216)(hz:0<=z):Calls prog 61 #[x] w (Ret w (iV 5)):=by
 have HK:=hid l1;obtain⟨q,hq⟩:∃x,z/4=x:=⟨_,rfl⟩;obtain⟨r,hr⟩:∃x,z%4=x:=⟨_,rfl⟩;have HQR:=hid (zJ hq hr);obtain⟨sg,hsg⟩:∃x,z.sign=x:=⟨_,rfl⟩;have HSG:=hid hsg;have HSB:=hid (show 0<=sg by rw[<-hsg];exact Int.sign_nonneg_iff.2 hz);clear l1 hz hq hr hsg;obtain⟨s1,a1,n1,c1,W,rfl,hW,S⟩:=en1 hx;go_enter func61,ntmps61;go_upto_region 1 with fail;rw[<-hW];clear hW;have hl:=hid S.lt;have hw:=S.ext.size;refine rgn 12 [some 7,some 8,some 9,some 6,some 10,some 11,some 12,some 3,some 4,none,none,some 5] [IsI k1 z,IsI 2 4,IsT3 (IsI k1 q) (IsI 2 r) (iV 0),IsT3 (IsI k1 q) (IsI 2 r) (iV 0),IsI k1 q,IsI 2 r,iV 0,IsNw W 1,IsNw W 1,TT,TT,iV 0] [7,8] [none,none,none,none,none,none,none,none,none,some (7, [IsI k1 q]),some (8, [IsI 2 r]),none] [none,none,none,none,none,none,none,none,none,some 7,some 8,none] 0 ?_ ?_
 ·refine RcK (ldI S 0 (w.heap.size) 0 (qD 1) qG) ?_;refine RcK (cl1 (en func41) qE (λx0 w' hE d0=>by{obtain rfl:x0=.int .i64 4:=d0;exact xT _ 4 dcx dcx})) ?_;refine RcK (cl2 (en func111) (qA (fP:=IsI k1 z) 0 7) (qA (fP:=IsI 2 4) 1 8) (λx0 x1 w' hE d0 d1=>zem)) ?_;refine RcK (mv (qA 2 9)) ?_;refine RcK (ex (qC 3 6) t30) ?_;refine RcK (ex (qC 3 6) t31) ?_;refine RcK (ex (qC 3 6) t32) ?_;refine RcK (alN qR) ?_;refine RcK (alN qR) ?_;refine RcS 7 (sI qJ (qA (fP:=IsI k1 q) 4 10)) ?_;refine RcS 8 (sI qJ (qA (fP:=IsI 2 r) 5 11)) ?_;refine RcK (mv (qA 6 12)) ?_;exact RgAllN.nil
 intro v W1 e1 hH hS hne;replace S:=S.mono e1;obtain⟨g3,v7,q1,S2⟩:=S.addI (hH 7 dcx rfl) (hS 9 dcx _ _ rfl) hw (IsI.gstb _ _);replace S:=S2 (ApartO.old hl.out q1);clear S2;obtain⟨g4,v8,q2,S2⟩:=S.addI (hH 8 dcx rfl) (hS 10 dcx _ _ rfl) hw (IsI.gstb _ _);replace S:=S2 (ApartO.cons (λh=>hne 7 8 dcx dcx dcx dcx dcx rfl rfl zbt) (ApartO.old hl.out q2));clear S2;simp only[lxE,Nat.reduceAdd];rw[v7,v8];clear hl hw hne v7 v8 hH hS e1;refine zO za ?_ _;go_upto_region 2 with fail;refine rg 10 [some 14,some 15,some 16,some 17,some 18,some 19,some 20,some 21,some 22,some 13] [IsI k1 z,iV sg,IsV (.bool true),IsV (.bool true),IsV (undef),IsV (undef),IsV (undef),IsV (undef),IsV (.bool true),IsV (.bool true)] [] 0 ?_ ?_
 ·refine Rc zv ?_;refine Rc zah ?_;refine Rc (bn (r:=.bool true) (qC 1 15) qE (hr:=λw=>by have hx9:=HSB.out;go_simp)) ?_;refine Rc zbw ?_;refine RcN 3 17 true ?_;refine RcN 3 17 true ?_;refine RcN 3 17 true ?_;refine RcN 3 17 true ?_;refine Rc (pk (qC 3 17) qE) ?_;refine Rc zdn ?_;exact rn0
 intro v W2 e1 hH _;replace S:=S.mono e1;simp only[lxE,Nat.reduceAdd];rw[show v 9=.bool true from hH 9 dcx];clear hH e1;refine zO za ?_ _;go_upto_region 3 with fail;refine rgt S 1 [some 2] [iV 5] ?_ ?_
 ·refine Rc zaf ?_;exact rn0
 intro v W3 S hH;simp only[lxE];rw[show v 0=.int .i64 5 from hH 0 dcx];clear hH;go_wp2_with fail;exact zD (v:=.int .i64 5) zb5 rfl (⟨_,rfl,S.ext,rfl⟩)
theorem unsuitable_p{k1 k2:Nat}{z z2:Int}{x y:Value}{w:World}(hx:IsI k1 z x w)(hy:IsI k2 z2 y w)(HK:Hid (k1<=16777216))(HZ:Hid (0<=z)):Calls prog 39 #[x,y] w (Ret w (iV 5)):=by
 obtain⟨s1,a1,n1,c1,s2,a2,n2,c2,W,rfl,rfl,hW,S⟩:=en2 hx hy;go_enter func39,ntmps39;go_upto_region 1 with fail;rw[<-hW];clear hW;refine rgt S 3 [some 9,some 10,some 5] [IsI k1 z,iV 5,iV 5] ?_ ?_
 ·refine Rc zf ?_;refine Rc (cl1 (en func61) (qA (fP:=IsI k1 z) 0 9) (λx0 w' hE d0=>drefused_p d0 HK.out HZ.out)) ?_;refine Rc zbo ?_;exact rn0
 intro v W1 S hH;simp only[lxE,Nat.reduceAdd];rw[show v 2=.int .i64 5 from hH 2 dcx];clear hH;go_upto_region 2 with fail;refine rgt S 2 [some 11,some 12] [iV 5,IsV (.bool true)] ?_ ?_
 ·refine Rc ja ?_;refine Rc (bn (r:=.bool true) (qC 0 11) qE (hr:=λw=>by go_simp)) ?_;exact rn0
 intro v W2 S hH;simp only[lxE,Nat.reduceAdd];rw[show v 1=.bool true from hH 1 dcx];clear hH;go_upto_region 3 with fail;refine rgt S 2 [some 13,some 4] [iV 5,iV 5] ?_ ?_
 ·refine Rc ja ?_;refine Rc (mv (qA 0 13)) ?_;exact rn0
 intro v W3 S hH;simp only[lxE,Nat.reduceAdd];rw[show v 1=.int .i64 5 from hH 1 dcx];clear hH;go_wp2_with fail;exact zD (v:=.int .i64 5) zbg rfl (⟨_,rfl,S.ext,rfl⟩)
theorem Total_p{k1 k2:Nat}{z z2:Int}{x y:Value}{w:World}(hx:IsI k1 z x w)(hy:IsI k2 z2 y w)(HK:Hid (k1<=16777216))(HZ:Hid (0<=z)):Calls prog 12 #[x,y] w (Ret w (IsT2 (iV 0) (iV 5))):=by
 obtain⟨s1,a1,n1,c1,s2,a2,n2,c2,W,rfl,rfl,hW,S⟩:=en2 hx hy;go_enter func12,ntmps12;go_upto_region 1 with fail;rw[<-hW];clear hW;refine rgt S 4 [some 14,some 15,some 16,some 6] [IsI k1 z,IsI k2 z2,iV 5,iV 5] ?_ ?_
 ·refine Rc zf ?_;refine Rc zg ?_;refine Rc (cl2 (en func39) (qA (fP:=IsI k1 z) 0 14) (qA (fP:=IsI k2 z2) 1 15) (λx0 x1 w' hE d0 d1=>unsuitable_p d0 d1 HK HZ)) ?_;refine Rc zbw ?_;exact rn0
 intro v W1 S hH;simp only[lxE,Nat.reduceAdd];rw[show v 3=.int .i64 5 from hH 3 dcx];clear hH;go_upto_region 2 with fail;refine rgt S 2 [some 17,some 18] [iV 5,IsV (.bool true)] ?_ ?_
 ·refine Rc zaa ?_;refine Rc (bn (r:=.bool true) (qC 0 17) qE (hr:=λw=>by go_simp)) ?_;exact rn0
 intro v W2 S hH;simp only[lxE,Nat.reduceAdd];rw[show v 1=.bool true from hH 1 dcx];clear hH;go_upto_region 3 with fail;refine rgt S 3 [some 19,some 4,some 5] [iV 5,iV 0,iV 5] ?_ ?_
 ·refine Rc zaa ?_;refine Rc zaf ?_;refine Rc (mv (qA 0 19)) ?_;exact rn0
 intro v W3 S hH;simp only[lxE,Nat.reduceAdd];rw[show v 1=.int .i64 0 from hH 1 dcx,show v 2=.int .i64 5 from hH 2 dcx];clear hH;go_wp2_with fail;exact zD (v:=.tuple #[.int .i64 0,.int .i64 5]) zb9 rfl (⟨_,rfl,S.ext,_,_,rfl,rfl,rfl⟩)
theorem SameList_f{xs ys:List Int}{x y:Value}{w:World}(hx:IRx xs x w)(hy:IRx ys y w):Calls prog 20 #[x,y] w (Ret w (IsV (.bool (decide (xs=ys))))):=by
 obtain⟨ao,c1,rfl,hc1,hc2,hx4⟩:=hx.shape;obtain⟨bo,c2,rfl,hd1,hd2,hy4⟩:=hy.shape;have HX:=hid hx4;have HY:=hid hy4;have hl:xs.length<=9223372036854775807/\ys.length<=9223372036854775807:=zb
 clear hx hy hx4 hy4;by_cases hlen:xs.length=ys.length
 ·have hlz:(((xs.length:Nat):Int) !=((ys.length:Nat):Int))=false:=by rw[hlen];simp
  have HL:=hid hlen;go_enter func20,ntmps20;go_wp2_with fail;clear hlz
  go_loopg [5] xs.length (λgk v5 wr=>∃i:Nat,v5=.int .i64 (i:Int)/\i+gk=xs.length/\Hid (xs.take i=ys.take i/\Ext w wr))
  case atStart=>exact⟨0,rfl,by omega,hid ⟨by simp,Ext.refl _⟩⟩
  case round=>
   obtain⟨i,rfl,hg,HR⟩:=hrel;rcases zI gk with h0|h0
   ·obtain rfl:i=xs.length:=by omega
    have heq:decide (xs=ys)=true:=by
     have:=HR.out.1;rw[List.take_length,HL.out,List.take_length]at this;exact decide_eq_true this
    have hdec:decide (((xs.length:Nat):Int)<((xs.length:Nat):Int))=false:=zh
    have HQ:=hid heq;clear heq hg h0;go_wp2_with fail;exact zD (v:=.bool true) (by simp[results,results20,go_sem]) rfl ⟨_,rfl,HR.out.2,by rw[HQ.out];rfl⟩
   ·have hi:i<xs.length:=by omega
    have hi2:i<ys.length:=by have:=HL.out;omega
    obtain⟨g,rfl,_,hgc⟩:=HX.out (by rintro rfl;simp at hi);obtain⟨g2,rfl,_,hgd⟩:=HY.out (by rintro rfl;simp at hi2);have M1:=HR.out.2.cell (hgc i _ (List.getElem?_eq_getElem hi));have M2:=HR.out.2.cell (hgd i _ (List.getElem?_eq_getElem hi2));have hdec:decide ((i:Int)<((xs.length:Nat):Int))=true:=jl
    have HA:=hid (show xs[i]? =some xs[i]/\ys[i]? =some ys[i]from⟨List.getElem?_eq_getElem hi,List.getElem?_eq_getElem hi2⟩);have hca:i<c1/\i<c2:=zb
    obtain⟨a,ha⟩:∃a,xs[i]=a:=⟨_,rfl⟩;obtain⟨b,hb⟩:∃b,ys[i]=b:=⟨_,rfl⟩;rw[ha]at M1 HA;rw[hb]at M2 HA;have HG:=hid (zJ hg h0);clear hgc hgd hg h0 ha hb;by_cases hab:a=b
    ·have hbb:(a !=b)=false:=by rw[hab];simp
     have HAB:=hid hab;clear hab;go_wp2_with fail
     go_region
     go_wp2_with fail;have HE:=hid (show xs.take (i+1)=ys.take (i+1)by rw[List.take_add_one,List.take_add_one,HA.out.1,HA.out.2,HR.out.1,HAB.out])
     go_roundg (gk-1)
     case measure=>have:=HG.out;omega
     case rel=>exact⟨i+1,by rw[zV];rfl,by have:=HG.out;omega,hid ⟨HE.out,HR.out.2.drew⟩⟩
    ·have hbb:(a !=b)=true:=by simpa using hab
     have HF:=hid (show decide (xs=ys)=false by rw[zK];rintro rfl;have:=HA.out.1.symm.trans HA.out.2;injection this with h;exact hab h);clear hab;go_wp2_with fail
     go_region
     go_wp2_with fail;exact zD (v:=.bool false) (by simp[results,results20,go_sem]) rfl ⟨_,rfl,HR.out.2.drew,by rw[HF.out];rfl⟩
 ·have hlz:(((xs.length:Nat):Int) !=((ys.length:Nat):Int))=true:=by simp only[bne_iff_ne,ne_eq];omega
  have HF:=hid (show decide (xs=ys)=false by rw[zK];rintro rfl;exact hlen rfl);go_enter func20,ntmps20;go_wp2_with fail;exact zD (v:=.bool false) (by simp[results,results20,go_sem]) rfl ⟨_,rfl,Ext.refl _,by rw[HF.out];rfl⟩
end Go.Proofs.YtknffgdbdadpcaaGreatDoor
