/-
 Package density: Class, at a discriminant. (Printed by wip/gen/den14.py.)
-/
import Derived.Test.YtknffgdbdadpcaaGreatDoorDen13
namespace Go.Proofs.YtknffgdbdadpcaaGreatDoor
open Go Go.RowKit
open Go.Proofs.Tryz
theorem zd1{P:Prop}(h:P:=by exact⟨_,rfl,(((Sto.start w).new1 (w.heap.size) zh s1 a1 n1 c1 33 (IsI k1 (-(n:Int))) (IsI.gstb _ _) (h1)).mono ((Ext.refl _).alloc _)),AuBox.newE _ _ zh⟩):P:=h
theorem zeg{P:Prop}(h:P:=by exact cl2 (en func52) (qA (fP:=IsI k1 (-(n:Int))) 4 18) (qA (fP:=IsI 2 (-4)) 5 19) (λx0 x1 w' hE d0 d1=>zC (jB d0 d1 zl dcx) λ_ _ h=>h.int HC4.out)):P:=h
theorem zeq{P:Prop}(h:P:=by exact cl1 (en func61) (qA (fP:=IsI k1 (-(n:Int))) 0 14) (λx0 w' hE d0=>jN d0 zl HNN.out)):P:=h
theorem zex{P:Prop}(h:P:=by exact cl2 (en func52) (qA (fP:=IsI k1 (-(n:Int))) 0 25) (qA (fP:=IsI 2 (-4096)) 1 26) (λx0 x1 w' hE d0 d1=>zC (jB d0 d1 zl dcx) λ_ _ h=>h.int HC9.out)):P:=h
theorem zfb{P:Prop}(h:P:=by exact cl1 (en func29) (qA (fP:=IsI k1 (-(n:Int))) 0 31) (λx0 w' hE d0=>Conductor_f d0 zl HNN.out HL.out)):P:=h
theorem jt{P:Prop}(h:P:=by exact cl1 (en func41) qE (λx0 w' hE d0=>by{obtain rfl:x0=.int .i64 (-4):=d0;exact xT _ (-4) dcx dcx})):P:=h
theorem xg{P:Prop}(h:P:=by exact cl1 (en func41) qE (λx0 w' hE d0=>by{obtain rfl:x0=.int .i64 (-4096):=d0;exact xT _ (-4096) dcx dcx})):P:=h
theorem zae{P:Prop}(h:P:=by exact mv (qD 10)):P:=h
theorem za3{P:Prop}(h:P:=by exact cl2 (en func52) (qA (fP:=IsI 2 (((cdB n L:Nat):Int))) 0 36) (qA (fP:=IsI 2 1) 1 37) (λx0 x1 w' hE d0 d1=>zC (jB d0 d1 dcx dcx) λ_ _ h=>h.int HCF.out)):P:=h
theorem za5{P:Prop}(h:P:=by exact bn (r:=.bool false) (qC 6 20) qE (hr:=λw=>by have hx9:=HC4B.out;go_simp)):P:=h
theorem zbz{P:Prop}(h:P:=by simp[results,results18,go_sem,c0,c1,c2,c3,c4,qY]):P:=h
set_option maxRecDepth 100000
set_option maxHeartbeats 4000000
section
variable {P:Program} {ops:Array Oper} {Q:Exit->Act->World->Prop} {o:Oper}
theorem stIe{w W:World}{B:List Fld}{a:Act}{K:Act->World->Prop}(S:Sto w W B)(j g q:Nat){T k:Nat}{z:Int}{x y:Operand}{fP:Value->World->Prop}{u:Value}(hu:IsI k z u W)(hT:StI P T)(h:∀W',Sto w W' (B.set j ((g,q),IsI k z))->Gr W W'->(∀w0:World,Ext w0 W->w0.heap.size<=g->Ext w0 W')->K a W')
  (hB:B[j]? =some ((g,q),fP)) (ho:o.op=.store T x y:=by rfl) (hd:o.dst=none:=by rfl) (hx:a.eval x=.pointer (some ⟨g,2*q,none⟩):=by kernel_rfl) (hy:a.eval y=u:=by kernel_rfl):Oper.wp P o a W K Q:=by
 obtain⟨s,a1,n,c,rfl,h1⟩:=hu;obtain⟨s0,a2,n0,c0,b,_⟩:=S.at j g q fP hB;obtain⟨W',hW,S',G⟩:=S.put j g q fP (IsI k z) hB s a1 n c (IsI.gstb _ _) ⟨_,_,_,_,rfl,h1⟩;refine st_wp ho hx hy (hT W g (2*q) _ _ _ _ _ _ _ _ b.c0 b.c1 b.f0 b.f1) ?_;rw[<-hW,hd];exact h W' S' G (λw0 e hg=>by rw[hW];exact(e.set hg _).set hg _)
end
def clsS(z:Int):Nat->Int
 |0=>0
 |m+1=>clsS z m-(m:Int)*kr z m
theorem kr_abs(z:Int)(m:Nat): -1<=kr z m/\kr z m<=1:=by
 unfold kr
 split
 ·decide
 ·refine krF_le _ _ _ _ ?_
  split
  ·exact sg8_le _
  ·decide
theorem clsS_le(z:Int):∀m:Nat,-(((m*m:Nat):Nat):Int)<=clsS z m/\clsS z m<=((m*m:Nat):Int)
 |0=>by simp[clsS]
 | m+1=>by
  have h:=clsS_le z m;have hk:=kr_abs z m;unfold clsS;have h1:(m+1)*(m+1)=m*m+2*m+1:=by rw[Nat.add_mul,Nat.mul_add];omega
  rw[h1];obtain h2|h2|h2:kr z m= -1\/kr z m=0\/kr z m=1:=zb
  all_goals rw[h2];omega
theorem clsS_b(z:Int){m:Nat}(h:m<=4096): -16777216<=clsS z m/\clsS z m<=16777216:=by
 have h1:=clsS_le z m;have h2:m*m<=4096*4096:=Nat.mul_le_mul h h;generalize m*m=x at h1 h2;omega
theorem tDen14_1{P:Prop}(h:P:=by
  rw[hW9];have c0:=hAt.m0;have c1:=hAt.m1;have c2:=hAt.m2;have c3:=hAt.m3;have c4:=hAt.m4;exact zD (v:=.tuple #[qY,.int .i64 5]) zbz rfl ⟨_,rfl,hbel _ _ HE.out zb,_,_,rfl,rfl,rfl⟩
  ):P:=h
theorem Class_a{k1 n:Nat}{x:Value}{w:World}(hx:IsI k1 (-(n:Int)) x w)(HK:Hid (k1<=162))(HNN:Hid (1<=n/\n<=4194304/\(n%4=0\/n%4=3))){c4:Int}(HC4:Hid (qK (-(n:Int)) (-4)=c4))(HC4B:Hid (decide (0<=c4)=true)):Calls prog 18 #[x] w (Ret w (IsT2 (IsV qY) (iV 5))):=by
 obtain⟨s1,a1,n1,c1,rfl,h1⟩:=hx;have h1:IsI _ _ _ w:=⟨_,_,_,_,rfl,h1⟩;obtain⟨W,hW,S,AB⟩:∃W,W=(w.alloc (.cells #[.bool s1,.slice a1 n1 c1] 33)).alloc (.cells #[.slice none 0 0,.bool false,.slice none 0 0,.bool false,.slice none 0 0] 48)/\Sto w W [((w.heap.size,0),IsI k1 (-(n:Int)))]/\AuBox W (w.heap.size+1):=zd1;clear h1;have EA:=Ext.refl W;go_enter func18,ntmps18;go_upto_region 1 with fail;rw[<-hW];clear hW;refine rg 10 [some 14,some 15,some 16,some 17,some 18,some 19,some 20,some 21,some 22,some 13] [IsI k1 (-(n:Int)),iV 0,IsV (.bool false),IsV (.bool false),IsI k1 (-(n:Int)),IsI 2 (-4),iV c4,IsV (.bool true),IsV (.bool true),IsV (.bool true)] [] 0 ?_ ?_
 ·refine Rc zj ?_;refine Rc zeq ?_;refine Rc yw ?_;refine Rc zbw ?_;refine RcG 3 17 false zj ?_;refine RcG 3 17 false jt ?_;refine RcG 3 17 false zeg ?_;refine RcG 3 17 false (bn (r:=.bool true) (qC 6 20) qE (hr:=λw=>by have hx9:=HC4B.out;go_simp)) ?_;refine Rc zbn ?_;refine Rc zdn ?_;exact rn0
 intro v W1 e1 hH _;replace S:=S.mono e1;replace EA:=EA.trans e1;simp only[lxE,Nat.reduceAdd];rw[show v 9=.bool true from hH 9 dcx];clear hH e1;refine zO za ?_ _;go_upto_region 2 with fail;have AB9:=AB.ext EA;have M0:=AB9.m0;have M1:=AB9.m1;have M2:=AB9.m2;have M3:=AB9.m3;have M4:=AB9.m4;have N0:=AB9.f 0;have N1:=AB9.f 1;have N2:=AB9.f 2;have N3:=AB9.f 3;have N4:=AB9.f 4;have HE:=hid S.ext;clear S EA AB;go_wp2_with fail;obtain⟨W2,hW9,hAt,hbel,_,_⟩:=jZ AB9 none 0 0 false none 0 0 false none 0 0;exact tDen14_1
theorem Class_n{k1 n:Nat}{x:Value}{w:World}(hx:IsI k1 (-(n:Int)) x w)(HK:Hid (k1<=162))(HNN:Hid (1<=n/\n<=4194304/\(n%4=0\/n%4=3))){c4:Int}(HC4:Hid (qK (-(n:Int)) (-4)=c4))(HC4B:Hid (decide (0<=c4)=false)){c9:Int}(HC9:Hid (qK (-(n:Int)) (-4096)=c9))(HC9B:Hid (decide (c9<0)=false)){L:Nat}(HL:Hid (L*L<=n/\n<(L+1)*(L+1))){cf:Int}(HCF:Hid (qK ((cdB n L:Nat):Int) 1=cf))(HCFB:Hid ((cf !=0)=true)):Calls prog 18 #[x] w (Ret w (IsT2 (IsV qY) (iV 5))):=by
 obtain⟨s1,a1,n1,c1,rfl,h1⟩:=hx;have h1:IsI _ _ _ w:=⟨_,_,_,_,rfl,h1⟩;obtain⟨W,hW,S,AB⟩:∃W,W=(w.alloc (.cells #[.bool s1,.slice a1 n1 c1] 33)).alloc (.cells #[.slice none 0 0,.bool false,.slice none 0 0,.bool false,.slice none 0 0] 48)/\Sto w W [((w.heap.size,0),IsI k1 (-(n:Int)))]/\AuBox W (w.heap.size+1):=zd1;clear h1;have EA:=Ext.refl W;go_enter func18,ntmps18;go_upto_region 1 with fail;rw[<-hW];clear hW;refine rg 10 [some 14,some 15,some 16,some 17,some 18,some 19,some 20,some 21,some 22,some 13] [IsI k1 (-(n:Int)),iV 0,IsV (.bool false),IsV (.bool false),IsI k1 (-(n:Int)),IsI 2 (-4),iV c4,IsV (.bool false),IsV (.bool false),IsV (.bool false)] [] 0 ?_ ?_
 ·refine Rc zj ?_;refine Rc zeq ?_;refine Rc yw ?_;refine Rc zbw ?_;refine RcG 3 17 false zj ?_;refine RcG 3 17 false jt ?_;refine RcG 3 17 false zeg ?_;refine RcG 3 17 false za5 ?_;refine Rc zbn ?_;refine Rc zdn ?_;exact rn0
 intro v W1 e1 hH _;replace S:=S.mono e1;replace EA:=EA.trans e1;simp only[lxE,Nat.reduceAdd];rw[show v 9=.bool false from hH 9 dcx];clear hH e1;refine zO za ?_ _;go_upto_region 3 with fail;refine rg 5 [some 25,some 26,some 27,some 28,some 24] [IsI k1 (-(n:Int)),IsI 2 (-4096),iV c9,IsV (.bool false),IsV (.bool false)] [] 0 ?_ ?_
 ·refine Rc zj ?_;refine Rc xg ?_;refine Rc zex ?_;refine Rc (bn (r:=.bool false) (qC 2 27) qE (hr:=λw=>by have hx9:=HC9B.out;go_simp)) ?_;refine Rc (mv (qA 3 28)) ?_;exact rn0
 intro v W3 e1 hH _;replace S:=S.mono e1;replace EA:=EA.trans e1;simp only[lxE,Nat.reduceAdd];rw[show v 4=.bool false from hH 4 dcx];clear hH e1;refine zO za ?_ _;go_upto_region 5 with fail;have hl:=hid S.lt;have hw:=S.ext.size;have EAz:=EA.size;refine rgs 8 [some 31,some 32,some 30,some 33,some 34,some 35,some 4,some 5] [IsI k1 (-(n:Int)),IsT3 (IsI 2 (cdD n L)) (IsI 2 (((cdB n L:Nat):Int))) (iV 0),IsT3 (IsI 2 (cdD n L)) (IsI 2 (((cdB n L:Nat):Int))) (iV 0),IsI 2 (cdD n L),IsI 2 (((cdB n L:Nat):Int)),iV 0,IsBo W3 1,IsBo W3 1] [6,7] ?_ ?_
 ·refine Rc zj ?_;refine Rc zfb ?_;refine Rc (mv (qA 1 32)) ?_;refine Rc (ex (qC 2 30) t30) ?_;refine Rc (ex (qC 2 30) t31) ?_;refine Rc (ex (qC 2 30) t32) ?_;refine Rc zdi ?_;refine Rc zdi ?_;exact rn0
 intro v W5 e1 hH hne;replace S:=S.mono e1;replace EA:=EA.trans e1;have h33:=hH 3 dcx;have h34:=hH 4 dcx;have v5:v 5=.int .i64 0:=hH 5 dcx;obtain⟨g4,v6,q2,b1,_⟩:=(hH 6 dcx:IsBo W3 1 (v 6) W5);replace S:=S.addN 1 (ApartO.old hl.out q2) (zN hw q2) b1;obtain⟨g5,v7,q4,b3,_⟩:=(hH 7 dcx:IsBo W3 1 (v 7) W5);replace S:=S.addN 1 (ApartO.cons (λh=>hne 6 7 dcx dcx dcx dcx dcx zcg) (ApartO.old hl.out q4)) (zN hw q4) b3;simp only[newF,List.cons_append,List.nil_append]at S;simp only[lxE,Nat.reduceAdd];rw[v5,v6,v7];clear b1 b3 hl hw hne v5 v6 v7 hH e1
 try simp only[dxE]
 (with_reducible refine stL ?_ zfe);intro KK hKK;refine stIe S 1 (g4) 0 h33 qJ (λW5a S2 G2 X2=>hKK _ _ ?_) rfl
 replace h34:=(IsI.gstb _ _) _ _ _ G2 h34;replace EA:=X2 _ EA (zN EAz q2);clear X2;replace S:=S2;clear S2 G2 hKK KK h33;simp only[u0x,u1x]at S
 try simp only[dxE]
 (with_reducible refine stL ?_ zfe);intro KK hKK;refine stIe S 0 (g5) 0 h34 qJ (λW5b S2 G2 X2=>hKK _ _ ?_) rfl
 replace EA:=X2 _ EA (zN EAz q4);clear X2;replace S:=S2;clear S2 G2 hKK KK h34;simp only[u0x]at S;refine zT λK hK=>?_;go_simp;refine hK _ _ ?_;clear hK K
 refine zF ?_;go_upto_region 6 with fail;refine rg 4 [some 36,some 37,some 38,some 39] [IsI 2 (((cdB n L:Nat):Int)),IsI 2 1,iV cf,IsV (.bool true)] [] 0 ?_ ?_
 ·refine Rc za1 ?_;refine Rc zm ?_;refine Rc za3 ?_;refine Rc (bn (r:=.bool true) (qC 2 38) qE (hr:=λw=>by have hx9:=HCFB.out;go_simp)) ?_;exact rn0
 intro v W6 e1 hH _;replace S:=S.mono e1;replace EA:=EA.trans e1;simp only[lxE,Nat.reduceAdd];rw[show v 3=.bool true from hH 3 dcx];clear hH e1;refine zO za ?_ _;go_upto_region 7 with fail;have AB9:=AB.ext EA;have M0:=AB9.m0;have M1:=AB9.m1;have M2:=AB9.m2;have M3:=AB9.m3;have M4:=AB9.m4;have N0:=AB9.f 0;have N1:=AB9.f 1;have N2:=AB9.f 2;have N3:=AB9.f 3;have N4:=AB9.f 4;have HE:=hid S.ext;clear S EA AB;go_wp2_with fail;obtain⟨W7,hW9,hAt,hbel,_,_⟩:=jZ AB9 none 0 0 false none 0 0 false none 0 0;exact tDen14_1
theorem Class_k{k1 n:Nat}{x:Value}{w:World}(hx:IsI k1 (-(n:Int)) x w)(HK:Hid (k1<=162))(HNN:Hid (1<=n/\n<=4194304/\(n%4=0\/n%4=3))){c4:Int}(HC4:Hid (qK (-(n:Int)) (-4)=c4))(HC4B:Hid (decide (0<=c4)=false)){c9:Int}(HC9:Hid (qK (-(n:Int)) (-4096)=c9))(HC9B:Hid (decide (c9<0)=false)){L:Nat}(HL:Hid (L*L<=n/\n<(L+1)*(L+1))){cf:Int}(HCF:Hid (qK ((cdB n L:Nat):Int) 1=cf))(HCFB:Hid ((cf !=0)=false))(HNB:Hid (n<=4096))(HT:Hid (Tab w))(tn:ByteArray)(HTN:Hid (encS (xW (-(n:Int)))=.string tn/\jG (-(n:Int))=0/\tn.size<=1000))(HSG:Hid (Sg w)):Calls prog 18 #[x] w (Ret w (IsT2 (AuV ((⟨#[99,58]⟩:ByteArray)++tn) 4 1 (Rat.divInt ((clsS (-(n:Int)) n).tdiv (n:Int)) 1)) (iV 0))):=by
 obtain⟨s1,a1,n1,c1,rfl,h1⟩:=hx;have h1:IsI _ _ _ w:=⟨_,_,_,_,rfl,h1⟩;obtain⟨W,hW,S,AB⟩:∃W,W=(w.alloc (.cells #[.bool s1,.slice a1 n1 c1] 33)).alloc (.cells #[.slice none 0 0,.bool false,.slice none 0 0,.bool false,.slice none 0 0] 48)/\Sto w W [((w.heap.size,0),IsI k1 (-(n:Int)))]/\AuBox W (w.heap.size+1):=zd1;clear h1;have EA:=Ext.refl W;go_enter func18,ntmps18;go_upto_region 1 with fail;rw[<-hW];clear hW;refine rg 10 [some 14,some 15,some 16,some 17,some 18,some 19,some 20,some 21,some 22,some 13] [IsI k1 (-(n:Int)),iV 0,IsV (.bool false),IsV (.bool false),IsI k1 (-(n:Int)),IsI 2 (-4),iV c4,IsV (.bool false),IsV (.bool false),IsV (.bool false)] [] 0 ?_ ?_
 ·refine Rc zj ?_;refine Rc zeq ?_;refine Rc yw ?_;refine Rc zbw ?_;refine RcG 3 17 false zj ?_;refine RcG 3 17 false jt ?_;refine RcG 3 17 false zeg ?_;refine RcG 3 17 false za5 ?_;refine Rc zbn ?_;refine Rc zdn ?_;exact rn0
 intro v W1 e1 hH _;replace S:=S.mono e1;replace EA:=EA.trans e1;simp only[lxE,Nat.reduceAdd];rw[show v 9=.bool false from hH 9 dcx];clear hH e1;refine zO za ?_ _;go_upto_region 3 with fail;refine rg 5 [some 25,some 26,some 27,some 28,some 24] [IsI k1 (-(n:Int)),IsI 2 (-4096),iV c9,IsV (.bool false),IsV (.bool false)] [] 0 ?_ ?_
 ·refine Rc zj ?_;refine Rc xg ?_;refine Rc zex ?_;refine Rc (bn (r:=.bool false) (qC 2 27) qE (hr:=λw=>by have hx9:=HC9B.out;go_simp)) ?_;refine Rc (mv (qA 3 28)) ?_;exact rn0
 intro v W3 e1 hH _;replace S:=S.mono e1;replace EA:=EA.trans e1;simp only[lxE,Nat.reduceAdd];rw[show v 4=.bool false from hH 4 dcx];clear hH e1;refine zO za ?_ _;go_upto_region 5 with fail;have hl:=hid S.lt;have hw:=S.ext.size;have EAz:=EA.size;refine rgs 8 [some 31,some 32,some 30,some 33,some 34,some 35,some 4,some 5] [IsI k1 (-(n:Int)),IsT3 (IsI 2 (cdD n L)) (IsI 2 (((cdB n L:Nat):Int))) (iV 0),IsT3 (IsI 2 (cdD n L)) (IsI 2 (((cdB n L:Nat):Int))) (iV 0),IsI 2 (cdD n L),IsI 2 (((cdB n L:Nat):Int)),iV 0,IsBo W3 1,IsBo W3 1] [6,7] ?_ ?_
 ·refine Rc zj ?_;refine Rc zfb ?_;refine Rc (mv (qA 1 32)) ?_;refine Rc (ex (qC 2 30) t30) ?_;refine Rc (ex (qC 2 30) t31) ?_;refine Rc (ex (qC 2 30) t32) ?_;refine Rc zdi ?_;refine Rc zdi ?_;exact rn0
 intro v W5 e1 hH hne;replace S:=S.mono e1;replace EA:=EA.trans e1;have h33:=hH 3 dcx;have h34:=hH 4 dcx;have v5:v 5=.int .i64 0:=hH 5 dcx;obtain⟨g4,v6,q2,b1,_⟩:=(hH 6 dcx:IsBo W3 1 (v 6) W5);replace S:=S.addN 1 (ApartO.old hl.out q2) (zN hw q2) b1;obtain⟨g5,v7,q4,b3,_⟩:=(hH 7 dcx:IsBo W3 1 (v 7) W5);replace S:=S.addN 1 (ApartO.cons (λh=>hne 6 7 dcx dcx dcx dcx dcx zcg) (ApartO.old hl.out q4)) (zN hw q4) b3;simp only[newF,List.cons_append,List.nil_append]at S;simp only[lxE,Nat.reduceAdd];rw[v5,v6,v7];clear b1 b3 hl hw hne v5 v6 v7 hH e1
 try simp only[dxE]
 (with_reducible refine stL ?_ zfe);intro KK hKK;refine stIe S 1 (g4) 0 h33 qJ (λW5a S2 G2 X2=>hKK _ _ ?_) rfl
 replace h34:=(IsI.gstb _ _) _ _ _ G2 h34;replace EA:=X2 _ EA (zN EAz q2);clear X2;replace S:=S2;clear S2 G2 hKK KK h33;simp only[u0x,u1x]at S
 try simp only[dxE]
 (with_reducible refine stL ?_ zfe);intro KK hKK;refine stIe S 0 (g5) 0 h34 qJ (λW5b S2 G2 X2=>hKK _ _ ?_) rfl
 replace EA:=X2 _ EA (zN EAz q4);clear X2;replace S:=S2;clear S2 G2 hKK KK h34;simp only[u0x]at S;refine zT λK hK=>?_;go_simp;refine hK _ _ ?_;clear hK K
 refine zF ?_;go_upto_region 6 with fail;refine rg 4 [some 36,some 37,some 38,some 39] [IsI 2 (((cdB n L:Nat):Int)),IsI 2 1,iV cf,IsV (.bool false)] [] 0 ?_ ?_
 ·refine Rc za1 ?_;refine Rc zm ?_;refine Rc za3 ?_;refine Rc (bn (r:=.bool false) (qC 2 38) qE (hr:=λw=>by have hx9:=HCFB.out;go_simp)) ?_;exact rn0
 intro v W6 e1 hH _;replace S:=S.mono e1;replace EA:=EA.trans e1;simp only[lxE,Nat.reduceAdd];rw[show v 3=.bool false from hH 3 dcx];clear hH e1;refine zO za ?_ _;go_upto_region 8 with fail;refine rgs 7 [some 42,some 43,some 41,some 44,some 45,some 7,some 8] [IsI k1 (-(n:Int)),IsT2 (iV (-(n:Int))) (IsV (.bool true)),IsT2 (iV (-(n:Int))) (IsV (.bool true)),iV (-(n:Int)),IsV (.bool true),iV (-(n:Int)),IsV (.bool true)] [] ?_ ?_
 ·refine Rc zv ?_;refine Rc (cl1 (en func42) (qA (fP:=IsI k1 (-(n:Int))) 0 42) (λx0 w' hE d0=>Low_t d0 yv yv)) ?_;refine Rc (mv (qA 1 43)) ?_;refine Rc (ex (qC 2 41) t20) ?_;refine Rc (ex (qC 2 41) t21) ?_;refine Rc (mv (qA 3 44)) ?_;refine Rc (mv (qA 4 45)) ?_;exact rn0
 intro v W8 e1 hH _;replace S:=S.mono e1;replace EA:=EA.trans e1;simp only[lxE,Nat.reduceAdd];rw[show v 5=.int .i64 (-(n:Int))from hH 5 dcx];clear hH e1;refine zF ?_;go_upto_region 9 with fail;refine rgs 1 [some 9] [iV 0] [] ?_ ?_
 ·refine Rc zaf ?_;exact rn0
 intro v W9 e1 hH _;replace S:=S.mono e1;replace EA:=EA.trans e1;simp only[lxE];rw[show v 0=.int .i64 0 from hH 0 dcx];clear hH e1;refine zF ?_;go_upto_region 10 with fail;refine rgs 1 [some 10] [iV 1] [] ?_ ?_
 ·refine Rc zaf ?_;exact rn0
 intro v W10 e1 hH _;replace S:=S.mono e1;replace EA:=EA.trans e1;simp only[lxE];rw[show v 0=.int .i64 1 from hH 0 dcx];clear hH e1;refine zF ?_;go_wp2_with fail;have S0:=hid (zJ S EA);clear S EA
 go_loopg [9,10] (n-1) (λgk v9 v10 wr=>∃m:Nat,v10=.int .i64 (m:Int)/\v9=.int .i64 (clsS (-(n:Int)) m)/\1<=m/\m+gk=n/\Hid (Sto w wr [((g5,0),IsI 2 (((cdB n L:Nat):Int))),((g4,0),IsI 2 (cdD n L)),((w.heap.size,0),IsI k1 (-(n:Int)))]/\Ext W wr))
 case atStart=>exact⟨1,rfl,by simp[clsS],zL _,by have:=HNN.out.1;omega,S0⟩
 case round=>
  clear S0;obtain⟨m,rfl,rfl,hm1,hmg,S9⟩:=hrel;obtain⟨S,EA⟩:=S9.out;have hsb:=clsS_b (-(n:Int)) (m:=m) yv;have hkb:=kr_abs (-(n:Int)) m;obtain⟨s,hs⟩:∃s,clsS (-(n:Int)) m=s:=⟨_,rfl⟩;obtain⟨u,hu⟩:∃u,kr (-(n:Int)) m=u:=⟨_,rfl⟩;rw[hs]at hsb ⊢;rw[hu]at hkb;have HU:=hid hu;have hn2:=HNB.out;have HWN:=hid (show IntKind.i64.wrap (-(-(n:Int)))=(n:Int)/\IntKind.i64.wrap (n:Int)=(n:Int)by constructor <;>(simp only[IntKind.wrap_i64];omega));by_cases hlt:m<n
  ·obtain⟨mu,hmu⟩:∃x,(m:Int)*u=x:=⟨_,rfl⟩
   have hmub: -4096<=mu/\mu<=4096:=by
    rw[<-hmu];obtain h2|h2|h2:u= -1\/u=0\/u=1:=zb
    all_goals rw[h2];omega
   have HMU:=hid (show IntKind.i64.wrap ((m:Int)*u)=mu by rw[hmu];simp only[IntKind.wrap_i64];omega);have HSU:=hid (show IntKind.i64.wrap (s-mu)=s-mu by simp only[IntKind.wrap_i64];omega);have HNX:=hid (show s-mu=clsS (-(n:Int)) (m+1)by rw[<-hs,<-hmu,<-hu];rfl);have HLT:=hid (show(m:Int)<(n:Int)/\m<n by omega);have HM:=hid (show(-9223372036854775808<=(m:Int)/\(m:Int)<=9223372036854775807)/\0<m/\m<=4611686018427387904 by omega);have HADD:=hid (show IntKind.i64.wrap ((m:Int)+1)=(m:Int)+1 by simp only[IntKind.wrap_i64];omega);have HG:=hid hmg;clear hs hu hsb hkb hn2 hmu hmub hlt hm1 hmg;go_upto_region 11 with fail;refine rgs 4 [some 46,some 47,some 48,some 49] [iV (m:Int),iV (-(n:Int)),iV (n:Int),IsV (.bool true)] [] ?_ ?_
   ·refine Rc zae ?_;refine Rc xa ?_;refine Rc (un (r:=.int .i64 (n:Int)) (qC 1 47) (hr:=λw=>by have hx9:=HWN.out.1;have hx8:=HWN.out.2;go_simp)) ?_;refine Rc (bn (r:=.bool true) (qC 0 46) (qC 2 48) (hr:=λw=>by have hx9:=HLT.out.1;have hx8:=HLT.out.2;go_simp)) ?_;exact rn0
   intro v W11 e1 hH _;replace S:=S.mono e1;replace EA:=EA.trans e1;simp only[lxE,Nat.reduceAdd];rw[show v 3=.bool true from hH 3 dcx];clear hH e1;refine zF ?_;go_upto_region 13 with fail;refine rg 8 [some 52,some 53,some 54,some 55,some 56,some 57,some 58,some 59] [iV s,iV (m:Int),IsI k1 (-(n:Int)),iV (m:Int),IsI 2 ((m:Int)),iV u,iV mu,iV (s-mu)] [] 1 ?_ ?_
   ·refine Rc zdg ?_;refine Rc zae ?_;refine Rc zv ?_;refine Rc zae ?_;refine Rc (cl1 (en func41) (qA (fP:=iV (m:Int)) 3 55) (λx0 w' hE d0=>by{obtain rfl:x0=.int .i64 (m:Int):=d0;exact xT _ (m:Int) HM.out.1.1 HM.out.1.2})) ?_;refine Rc (cl2 (en func62) (qA (fP:=IsI k1 (-(n:Int))) 2 54) (qA (fP:=IsI 2 ((m:Int))) 4 56) (λx0 x1 w' hE d0 d1=>(by have hh:=Kron_f d0 d1 zl dcx (HSG.out.ext (S.ext.trans hE)) HM.out.2;rw[HU.out]at hh;exact hh))) ?_;refine Rc (bn (r:=.int .i64 mu) (qC 1 53) (qC 5 57) (hr:=λw=>by have hx9:=HMU.out;go_simp)) ?_;refine Rc (bn (r:=.int .i64 (s-mu)) (qC 0 52) (qC 6 58) (hr:=λw=>by have hx9:=HSU.out;go_simp)) ?_;exact rn0
   intro v W13 e1 hH _;replace S:=S.mono e1;replace EA:=EA.trans e1;simp only[lxE,Nat.reduceAdd];rw[show v 7=.int .i64 (s-mu)from hH 7 dcx];clear hH e1;refine wpAny_ready (rs:= [8]) za zh (AllReady.cons rfl (λK hK=>?_) AllReady.nil);go_simp;refine hK _ _ ?_;clear hK K;refine zO za ?_ _;have hx9:=HADD.out;have S9:=hid (zJ S EA);clear S EA;go_wp2_with fail
   go_roundg (gk-1)
   case measure=>have:=HG.out;have:=HLT.out;omega
   case rel=>exact⟨m+1,by rw[zV];rfl,by rw[HNX.out],by omega,by have:=HG.out;have:=HLT.out;omega,S9⟩
  ·obtain rfl:m=n:=by omega
   have HGE:=hid (show ¬(m:Int)<(m:Int)/\¬m<m by omega);obtain⟨qv,hqv⟩:∃x,s.tdiv (m:Int)=x:=⟨_,rfl⟩
   have hqb: -16777216<=qv/\qv<=16777216:=by
    have h1:qv.natAbs<=s.natAbs:=by rw[<-hqv,Int.natAbs_tdiv];exact Nat.div_le_self _ _
    omega
   have HQV:=hid (show s.tdiv (m:Int)=qv/\IntKind.i64.wrap qv=qv/\¬m=0 from⟨hqv,by simp only[IntKind.wrap_i64];omega,by omega⟩);have HQB:=hid (show -9223372036854775808<=qv/\qv<=9223372036854775807 by omega);have HQE:=hid (show qv=(clsS (-(m:Int)) m).tdiv (m:Int)by rw[hs,hqv]);clear hs hu hsb hkb hn2 hqv hqb hlt hm1 hmg;go_upto_region 11 with fail;refine rgs 4 [some 46,some 47,some 48,some 49] [iV (m:Int),iV (-(m:Int)),iV (m:Int),IsV (.bool false)] [] ?_ ?_
   ·refine Rc zae ?_;refine Rc xa ?_;refine Rc (un (r:=.int .i64 (m:Int)) (qC 1 47) (hr:=λw=>by have hx9:=HWN.out.1;have hx8:=HWN.out.2;go_simp)) ?_;refine Rc (bn (r:=.bool false) (qC 0 46) (qC 2 48) (hr:=λw=>by have hx9:=HGE.out.1;have hx8:=HGE.out.2;go_simp)) ?_;exact rn0
   intro v W11 e1 hH _;replace S:=S.mono e1;replace EA:=EA.trans e1;simp only[lxE,Nat.reduceAdd];rw[show v 3=.bool false from hH 3 dcx];clear hH e1;refine zF ?_;go_upto_region 14 with fail;refine rgs 7 [some 61,some 62,some 60,some 63,some 64,some 11,some 12] [IsI k1 (-(m:Int)),IsT2 (IsV (.string tn)) (iV 0),IsT2 (IsV (.string tn)) (iV 0),IsV (.string tn),iV 0,IsV (.string tn),iV 0] [] ?_ ?_
   ·refine Rc zv ?_;refine Rc (cl1 (en func57) (qA (fP:=IsI k1 (-(m:Int))) 0 61) (λx0 w' hE d0=>(by have hh:=Text_f d0 HK.out (HT.out.ext (S.ext.trans hE));rw[HTN.out.1,HTN.out.2.1]at hh;exact hh))) ?_;refine Rc (mv (qA 1 62)) ?_;refine Rc (ex (qC 2 60) t20) ?_;refine Rc (ex (qC 2 60) t21) ?_;refine Rc (mv (qA 3 63)) ?_;refine Rc (mv (qA 4 64)) ?_;exact rn0
   intro v W14 e1 hH _;replace S:=S.mono e1;replace EA:=EA.trans e1;simp only[lxE,Nat.reduceAdd];rw[show v 5=.string tn from hH 5 dcx];clear hH e1;refine zF ?_;go_upto_region 15 with fail;have HB:=hid (show tn.size+2<=9223372036854775807 by have:=HTN.out.2.2;omega);have AB9:=AB.ext EA;have M0:=AB9.m0;have M1:=AB9.m1;have M2:=AB9.m2;have M3:=AB9.m3;have M4:=AB9.m4;have N0:=AB9.f 0;have N1:=AB9.f 1;have N2:=AB9.f 2;have N3:=AB9.f 3;have N4:=AB9.f 4;have HE:=hid S.ext;have ht9:=HB.out;have hx9:=HWN.out.1;have hx8:=HWN.out.2;have hx7:=HQV.out.1;have hx6:=HQV.out.2.1;have hx5:=HQV.out.2.2;clear S EA;go_wp2_with (go_at_call 58;go_must (refine zC (one_f _ _ _ HQB.out) ?_;rintro e w9 ⟨_,rfl,E9,_,_,rfl,⟨gp,sA,aA,nA,cA,sB,aB,nB,cB,rfl,hA,hP⟩,rfl⟩;have AB10:=AB9.ext E9;have P0:=AB10.m0;have P1:=AB10.m1;have P2:=AB10.m2;have P3:=AB10.m3;have P4:=AB10.m4;have Q0:=AB10.f 0;have Q1:=AB10.f 1;have Q2:=AB10.f 2;have Q3:=AB10.f 3;have Q4:=AB10.f 4))
   obtain⟨W10,hW9,hAt,hbel,hoth,hgr⟩:=jZ AB10 (some ⟨gp,0,none⟩) 1 1 sA aA nA cA sB aB nB cB;rw[hW9];have c0:=hAt.m0;have c1:=hAt.m1;have c2:=hAt.m2;have c3:=hAt.m3;have c4:=hAt.m4;have hP9:=hP.put AB10 hoth hgr;have hA9:=IsQ.gstb (IsI.gstb _ _) (IsI.gstb _ _) _ _ _ hgr hA;exact zD (v:=.tuple #[.agg #[.slice (some ⟨gp,0,none⟩) 1 1,.bool sA,.slice aA nA cA,.bool sB,.slice aB nB cB],.int .i64 0]) (by simp[results,results18,go_sem,c0,c1,c2,c3,c4]) rfl ⟨_,rfl,hbel _ _ (HE.out.trans E9) zb,_,_,rfl,by rw[<-HQE.out];exact⟨_,_,_,_,_,_,_,_,_,rfl,hA9,hP9⟩,rfl⟩
end Go.Proofs.YtknffgdbdadpcaaGreatDoor
