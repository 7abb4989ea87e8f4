/- Lemmas. -/
import Derived.Test.YtkeikfekkdplgaaGreatDoorEv0
namespace Go.Proofs.YtkeikfekkdplgaaGreatDoor
section
open Go Go.RowKit
open Go.Proofs.Tryz
theorem za4{P:Prop}(h:P:=by exact cl2 (en func150) (qA (fP:=IsI k l1) 1 21) (qA (fP:=IsI k u2) 3 23) (λx0 x1 w' hE d0 d1=>jC (Cmp_f d0 d1 ze ze) λ_ _ h=>h.int HC3.out)):P:=h
theorem za5{P:Prop}(h:P:=by exact cl2 (en func150) (qA (fP:=IsI k u1) 1 7) (qA (fP:=IsI k l2) 3 9) (λx0 x1 w' hE d0 d1=>jC (Cmp_f d0 d1 ze ze) λ_ _ h=>h.int HC1.out)):P:=h
theorem zbi{P:Prop}(h:P:=by exact cl2 (en func140) (qA (fP:=IsI k u1) 6 11) (qA (fP:=IsI k u2) 8 13) (λx0 x1 w' hE d0 d1=>jC (Add_f d0 d1 ze ze) λ_ _ h=>h.iup (k:=max k k+1) (k':=k+1) HV.out zb)):P:=h
theorem zbj{P:Prop}(h:P:=by exact cl2 (en func142) (qA (fP:=IsI k u1) 6 11) (qA (fP:=IsI k l2) 8 13) (λx0 x1 w' hE d0 d1=>jC (Sub_f d0 d1 ze ze) λ_ _ h=>h.iup (k:=max k k+1) (k':=k+1) HV.out zb)):P:=h
theorem zbk{P:Prop}(h:P:=by exact cl2 (en func140) (qA (fP:=IsI k l1) 1 6) (qA (fP:=IsI k l2) 3 8) (λx0 x1 w' hE d0 d1=>jC (Add_f d0 d1 ze ze) λ_ _ h=>h.iup (k:=max k k+1) (k':=k+1) HU.out zb)):P:=h
theorem zbl{P:Prop}(h:P:=by exact cl2 (en func142) (qA (fP:=IsI k l1) 1 6) (qA (fP:=IsI k u2) 3 8) (λx0 x1 w' hE d0 d1=>jC (Sub_f d0 d1 ze ze) λ_ _ h=>h.iup (k:=max k k+1) (k':=k+1) HU.out zb)):P:=h
theorem zbm{P:Prop}(h:P:=by exact cl2 (en func150) (qA (fP:=IsI k l2) 8 28) (qA (fP:=IsI k u1) 10 30) (λx0 x1 w' hE d0 d1=>jC (Cmp_f d0 d1 ze ze) λ_ _ h=>h.int HC4.out)):P:=h
theorem zbn{P:Prop}(h:P:=by exact cl2 (en func150) (qA (fP:=IsI k u2) 8 14) (qA (fP:=IsI k l1) 10 16) (λx0 x1 w' hE d0 d1=>jC (Cmp_f d0 d1 ze ze) λ_ _ h=>h.int HC2.out)):P:=h
theorem zbo{P:Prop}(h:P:=by exact cl1 (en func139) (qA (fP:=IsKn (k+1) u v false) 10 15) (λx0 w' hE d0=>short_y d0 (hid ze) H1 H2 HR HB)):P:=h
theorem zj{P:Prop}(h:P:=by exact fa (qQ (w.heap.size+1) 0) (qB 3)):P:=h
theorem zk{P:Prop}(h:P:=by exact fa (qP (w.heap.size+1) 0) (qB 3)):P:=h
theorem zm{P:Prop}(h:P:=by exact fa (qQ w.heap.size 0) (qB 2)):P:=h
theorem zn{P:Prop}(h:P:=by exact fa (qP w.heap.size 0) (qB 2)):P:=h
theorem ya{P:Prop}(h:P:=by simp[results,results151,go_sem,d0,d1,d2,d3,d4]):P:=h
theorem yl{P:Prop}(h:P:=by exact bkn (qC 4 9) (qC 9 14) bd_Kn):P:=h
theorem xe{P:Prop}(h:P:=by exact lvI 2 B1 h2 qE (qA 5 10)):P:=h
theorem xi{P:Prop}(h:P:=by exact lvI 0 B1 h1 qE (qA 0 5)):P:=h
theorem zag{P:Prop}(h:P:=by exact lvI 0 B2 h3 qE (qA 2 7)):P:=h
set_option maxRecDepth 100000
set_option maxHeartbeats 8000000
theorem Ret.iup{w:World}{k k':Nat}{z z':Int}{e:Ending}{w':World}(h:Ret w (IsI k z) e w')(hz:z=z')(hk:k<=k'):Ret w (IsI k' z') e w':=let ⟨x,h1,h2,h3⟩:=h;⟨x,h1,h2,hz▸h3.mono hk⟩
theorem opA_y{k:Nat}{l1 u1 l2 u2 u v m1 m2 r:Int}{f1 f2:Bool}{x y:Value}{w:World}(hx:IsKn k l1 u1 f1 x w)(hy:IsKn k l2 u2 f2 y w)(HK:Hid (k<=1000))(HU:Hid (l1+l2=u))(HV:Hid (u1+u2=v))(H1:Hid (((bitLen u.natAbs:Nat):Int)=m1))(H2:Hid (((bitLen v.natAbs:Nat):Int)=m2))(HR:Hid ((if m2 >m1 then m2 else m1)=r))(HB:Hid (¬r >4096)):Calls prog 138 #[x,y] w (Ret w (IsKn (k+1) u v false)):=by
 obtain⟨s1,a1,n1,c1,s2,a2,n2,c2,rfl,h1,h2⟩:=hx;obtain⟨s3,a3,n3,c3,s4,a4,n4,c4,rfl,h3,h4⟩:=hy
 obtain⟨W,hW,E,B1,B2,B3⟩:∃W,W=((w.alloc (.cells #[.bool s1,.slice a1 n1 c1,.bool s2,.slice a2 n2 c2,.bool f1] 176)).alloc (.cells #[.bool s3,.slice a3 n3 c3,.bool s4,.slice a4 n4 c4,.bool f2] 176)).alloc (.cells #[.bool false,.slice none 0 0,.bool false,.slice none 0 0,.bool false] 176)/\Ext w W/\Bk W w.heap.size [.bool s1,.slice a1 n1 c1,.bool s2,.slice a2 n2 c2,.bool f1]/\Bk W (w.heap.size+1) [.bool s3,.slice a3 n3 c3,.bool s4,.slice a4 n4 c4,.bool f2]/\Bk W (w.heap.size+2) [.bool false,.slice none 0 0,.bool false,.slice none 0 0,.bool false]:=
  ⟨_,rfl,(((Ext.refl w).alloc _).alloc _).alloc _,(Bk.new w _ _).ext (((Ext.refl _).alloc _).alloc _),(Bk.newE _ _ zd _ _).ext ((Ext.refl _).alloc _),Bk.newE _ _ zd _ _⟩
 replace h1:=h1.ext E;replace h2:=h2.ext E;replace h3:=h3.ext E;replace h4:=h4.ext E;go_enter func138,ntmps138;go_upto_region 1 with fail;rw[<-hW];clear hW;refine rg 12 (dR 5 12) [IsP (w.heap.size) 0,IsI k l1,IsP (w.heap.size+1) 0,IsI k l2,IsI (k+1) u,IsP (w.heap.size) 2,IsI k u1,IsP (w.heap.size+1) 2,IsI k u2,IsI (k+1) v,IsKn (k+1) u v false,IsKn (k+1) u v false] [] 1 ?_ ?_
 ·refine Rc zm ?_;refine Rc xi ?_;refine Rc zj ?_;refine Rc zag ?_;refine Rc zbk ?_;refine Rc zn ?_;refine Rc xe ?_;refine Rc zk ?_;refine Rc (lvI 2 B2 h4 qE (qA 7 12)) ?_;refine Rc zbi ?_;refine Rc yl ?_;refine Rc zbo ?_;exact rn0
 intro v W1 e1 hZ _;replace E:=E.trans e1;replace B3:=B3.ext e1;obtain⟨s5,a5,n5,c5,s6,a6,n6,c6,hv,g1,g2⟩:=hZ 11 dcx;simp only[lxE,Nat.reduceAdd];rw[hv];clear hv hZ e1 B1 B2 h1 h2 h3 h4;refine stA 12 (h:=λK hK=>?_);refine stV (us:= [.bool s5,.slice a5 n5 c5,.bool s6,.slice a6 n6 c6,.bool false]) B3 xL rfl rfl nw5 E zb (λW1a B4 E2 G2 _ _=>hK _ _ ?_);refine jL za ?_ _;have d0:=B4.c 0 _ rfl;have d1:=B4.c 1 _ rfl;have d2:=B4.c 2 _ rfl;have d3:=B4.c 3 _ rfl;have d4:=B4.c 4 _ rfl;go_wp2_with fail;exact jD (v:=.agg #[.bool s5,.slice a5 n5 c5,.bool s6,.slice a6 n6 c6,.bool false]) (by simp[results,results138,go_sem,d0,d1,d2,d3,d4]) rfl ⟨_,rfl,E2,_,_,_,_,_,_,_,_,rfl,IsI.gstb _ _ _ _ _ G2 g1,IsI.gstb _ _ _ _ _ G2 g2⟩
theorem opA_n{k:Nat}{l1 u1 l2 u2 u v m1 m2 r:Int}{f1 f2:Bool}{x y:Value}{w:World}(hx:IsKn k l1 u1 f1 x w)(hy:IsKn k l2 u2 f2 y w)(HK:Hid (k<=1000))(HU:Hid (l1+l2=u))(HV:Hid (u1+u2=v))(H1:Hid (((bitLen u.natAbs:Nat):Int)=m1))(H2:Hid (((bitLen v.natAbs:Nat):Int)=m2))(HR:Hid ((if m2 >m1 then m2 else m1)=r))(HB:Hid (r >4096)):Calls prog 138 #[x,y] w (λe w'=>e=.panicked (pan 2)/\Ext w w'):=by
 obtain⟨s1,a1,n1,c1,s2,a2,n2,c2,rfl,h1,h2⟩:=hx;obtain⟨s3,a3,n3,c3,s4,a4,n4,c4,rfl,h3,h4⟩:=hy
 obtain⟨W,hW,E,B1,B2,B3⟩:∃W,W=((w.alloc (.cells #[.bool s1,.slice a1 n1 c1,.bool s2,.slice a2 n2 c2,.bool f1] 176)).alloc (.cells #[.bool s3,.slice a3 n3 c3,.bool s4,.slice a4 n4 c4,.bool f2] 176)).alloc (.cells #[.bool false,.slice none 0 0,.bool false,.slice none 0 0,.bool false] 176)/\Ext w W/\Bk W w.heap.size [.bool s1,.slice a1 n1 c1,.bool s2,.slice a2 n2 c2,.bool f1]/\Bk W (w.heap.size+1) [.bool s3,.slice a3 n3 c3,.bool s4,.slice a4 n4 c4,.bool f2]/\Bk W (w.heap.size+2) [.bool false,.slice none 0 0,.bool false,.slice none 0 0,.bool false]:=
  ⟨_,rfl,(((Ext.refl w).alloc _).alloc _).alloc _,(Bk.new w _ _).ext (((Ext.refl _).alloc _).alloc _),(Bk.newE _ _ zd _ _).ext ((Ext.refl _).alloc _),Bk.newE _ _ zd _ _⟩
 replace h1:=h1.ext E;replace h2:=h2.ext E;replace h3:=h3.ext E;replace h4:=h4.ext E;go_enter func138,ntmps138;go_upto_region 1 with fail;rw[<-hW];clear hW;refine rg 12 (dR 5 12) [IsP (w.heap.size) 0,IsI k l1,IsP (w.heap.size+1) 0,IsI k l2,IsI (k+1) u,IsP (w.heap.size) 2,IsI k u1,IsP (w.heap.size+1) 2,IsI k u2,IsI (k+1) v,IsKn (k+1) u v false,λ_ _=>False] [] 1 ?_ ?_ (hst:=by repeat' (first|exact trivial|exact(λ_ _ _ _ h=>h)|exact IsV.stb _|exact IsKn.stb _ _ _ _|exact IsI.stb _ _|apply jI))
 ·refine Rc zm ?_;refine Rc xi ?_;refine Rc zj ?_;refine Rc zag ?_;refine Rc zbk ?_;refine Rc zn ?_;refine Rc xe ?_;refine Rc zk ?_;refine Rc (lvI 2 B2 h4 qE (qA 7 12)) ?_;refine Rc zbi ?_;refine Rc yl ?_;refine RcP (en func139) (qA (fP:=IsKn (k+1) u v false) 10 15) (λx0 w' hE d0=>jC (short_n d0 (hid ze) H1 H2 HR HB) λ_ _ h=>⟨_,h.1,λ_ hd=>⟨hd,rfl,(E.trans hE).trans h.2⟩⟩) ?_;exact rn0
 intro v W1 e1 hZ _;exact(hZ 11 dcx:False).elim
theorem opS_y{k:Nat}{l1 u1 l2 u2 u v m1 m2 r:Int}{f1 f2:Bool}{x y:Value}{w:World}(hx:IsKn k l1 u1 f1 x w)(hy:IsKn k l2 u2 f2 y w)(HK:Hid (k<=1000))(HU:Hid (l1-u2=u))(HV:Hid (u1-l2=v))(H1:Hid (((bitLen u.natAbs:Nat):Int)=m1))(H2:Hid (((bitLen v.natAbs:Nat):Int)=m2))(HR:Hid ((if m2 >m1 then m2 else m1)=r))(HB:Hid (¬r >4096)):Calls prog 141 #[x,y] w (Ret w (IsKn (k+1) u v false)):=by
 obtain⟨s1,a1,n1,c1,s2,a2,n2,c2,rfl,h1,h2⟩:=hx;obtain⟨s3,a3,n3,c3,s4,a4,n4,c4,rfl,h3,h4⟩:=hy
 obtain⟨W,hW,E,B1,B2,B3⟩:∃W,W=((w.alloc (.cells #[.bool s1,.slice a1 n1 c1,.bool s2,.slice a2 n2 c2,.bool f1] 176)).alloc (.cells #[.bool s3,.slice a3 n3 c3,.bool s4,.slice a4 n4 c4,.bool f2] 176)).alloc (.cells #[.bool false,.slice none 0 0,.bool false,.slice none 0 0,.bool false] 176)/\Ext w W/\Bk W w.heap.size [.bool s1,.slice a1 n1 c1,.bool s2,.slice a2 n2 c2,.bool f1]/\Bk W (w.heap.size+1) [.bool s3,.slice a3 n3 c3,.bool s4,.slice a4 n4 c4,.bool f2]/\Bk W (w.heap.size+2) [.bool false,.slice none 0 0,.bool false,.slice none 0 0,.bool false]:=
  ⟨_,rfl,(((Ext.refl w).alloc _).alloc _).alloc _,(Bk.new w _ _).ext (((Ext.refl _).alloc _).alloc _),(Bk.newE _ _ zd _ _).ext ((Ext.refl _).alloc _),Bk.newE _ _ zd _ _⟩
 replace h1:=h1.ext E;replace h2:=h2.ext E;replace h3:=h3.ext E;replace h4:=h4.ext E;go_enter func141,ntmps141;go_upto_region 1 with fail;rw[<-hW];clear hW;refine rg 12 (dR 5 12) [IsP (w.heap.size) 0,IsI k l1,IsP (w.heap.size+1) 2,IsI k u2,IsI (k+1) u,IsP (w.heap.size) 2,IsI k u1,IsP (w.heap.size+1) 0,IsI k l2,IsI (k+1) v,IsKn (k+1) u v false,IsKn (k+1) u v false] [] 1 ?_ ?_
 ·refine Rc zm ?_;refine Rc xi ?_;refine Rc zk ?_;refine Rc (lvI 2 B2 h4 qE (qA 2 7)) ?_;refine Rc zbl ?_;refine Rc zn ?_;refine Rc xe ?_;refine Rc zj ?_;refine Rc (lvI 0 B2 h3 qE (qA 7 12)) ?_;refine Rc zbj ?_;refine Rc yl ?_;refine Rc zbo ?_;exact rn0
 intro v W1 e1 hZ _;replace E:=E.trans e1;replace B3:=B3.ext e1;obtain⟨s5,a5,n5,c5,s6,a6,n6,c6,hv,g1,g2⟩:=hZ 11 dcx;simp only[lxE,Nat.reduceAdd];rw[hv];clear hv hZ e1 B1 B2 h1 h2 h3 h4;refine stA 12 (h:=λK hK=>?_);refine stV (us:= [.bool s5,.slice a5 n5 c5,.bool s6,.slice a6 n6 c6,.bool false]) B3 xL rfl rfl nw5 E zb (λW1a B4 E2 G2 _ _=>hK _ _ ?_);refine jL za ?_ _;have d0:=B4.c 0 _ rfl;have d1:=B4.c 1 _ rfl;have d2:=B4.c 2 _ rfl;have d3:=B4.c 3 _ rfl;have d4:=B4.c 4 _ rfl;go_wp2_with fail;exact jD (v:=.agg #[.bool s5,.slice a5 n5 c5,.bool s6,.slice a6 n6 c6,.bool false]) (by simp[results,results141,go_sem,d0,d1,d2,d3,d4]) rfl ⟨_,rfl,E2,_,_,_,_,_,_,_,_,rfl,IsI.gstb _ _ _ _ _ G2 g1,IsI.gstb _ _ _ _ _ G2 g2⟩
theorem opS_n{k:Nat}{l1 u1 l2 u2 u v m1 m2 r:Int}{f1 f2:Bool}{x y:Value}{w:World}(hx:IsKn k l1 u1 f1 x w)(hy:IsKn k l2 u2 f2 y w)(HK:Hid (k<=1000))(HU:Hid (l1-u2=u))(HV:Hid (u1-l2=v))(H1:Hid (((bitLen u.natAbs:Nat):Int)=m1))(H2:Hid (((bitLen v.natAbs:Nat):Int)=m2))(HR:Hid ((if m2 >m1 then m2 else m1)=r))(HB:Hid (r >4096)):Calls prog 141 #[x,y] w (λe w'=>e=.panicked (pan 2)/\Ext w w'):=by
 obtain⟨s1,a1,n1,c1,s2,a2,n2,c2,rfl,h1,h2⟩:=hx;obtain⟨s3,a3,n3,c3,s4,a4,n4,c4,rfl,h3,h4⟩:=hy
 obtain⟨W,hW,E,B1,B2,B3⟩:∃W,W=((w.alloc (.cells #[.bool s1,.slice a1 n1 c1,.bool s2,.slice a2 n2 c2,.bool f1] 176)).alloc (.cells #[.bool s3,.slice a3 n3 c3,.bool s4,.slice a4 n4 c4,.bool f2] 176)).alloc (.cells #[.bool false,.slice none 0 0,.bool false,.slice none 0 0,.bool false] 176)/\Ext w W/\Bk W w.heap.size [.bool s1,.slice a1 n1 c1,.bool s2,.slice a2 n2 c2,.bool f1]/\Bk W (w.heap.size+1) [.bool s3,.slice a3 n3 c3,.bool s4,.slice a4 n4 c4,.bool f2]/\Bk W (w.heap.size+2) [.bool false,.slice none 0 0,.bool false,.slice none 0 0,.bool false]:=
  ⟨_,rfl,(((Ext.refl w).alloc _).alloc _).alloc _,(Bk.new w _ _).ext (((Ext.refl _).alloc _).alloc _),(Bk.newE _ _ zd _ _).ext ((Ext.refl _).alloc _),Bk.newE _ _ zd _ _⟩
 replace h1:=h1.ext E;replace h2:=h2.ext E;replace h3:=h3.ext E;replace h4:=h4.ext E;go_enter func141,ntmps141;go_upto_region 1 with fail;rw[<-hW];clear hW;refine rg 12 (dR 5 12) [IsP (w.heap.size) 0,IsI k l1,IsP (w.heap.size+1) 2,IsI k u2,IsI (k+1) u,IsP (w.heap.size) 2,IsI k u1,IsP (w.heap.size+1) 0,IsI k l2,IsI (k+1) v,IsKn (k+1) u v false,λ_ _=>False] [] 1 ?_ ?_ (hst:=by repeat' (first|exact trivial|exact(λ_ _ _ _ h=>h)|exact IsV.stb _|exact IsKn.stb _ _ _ _|exact IsI.stb _ _|apply jI))
 ·refine Rc zm ?_;refine Rc xi ?_;refine Rc zk ?_;refine Rc (lvI 2 B2 h4 qE (qA 2 7)) ?_;refine Rc zbl ?_;refine Rc zn ?_;refine Rc xe ?_;refine Rc zj ?_;refine Rc (lvI 0 B2 h3 qE (qA 7 12)) ?_;refine Rc zbj ?_;refine Rc yl ?_;refine RcP (en func139) (qA (fP:=IsKn (k+1) u v false) 10 15) (λx0 w' hE d0=>jC (short_n d0 (hid ze) H1 H2 HR HB) λ_ _ h=>⟨_,h.1,λ_ hd=>⟨hd,rfl,(E.trans hE).trans h.2⟩⟩) ?_;exact rn0
 intro v W1 e1 hZ _;exact(hZ 11 dcx:False).elim
theorem opL_f{k:Nat}{l1 u1 l2 u2:Int}{f1 f2:Bool}{x y:Value}{w:World}(hx:IsKn k l1 u1 f1 x w)(hy:IsKn k l2 u2 f2 y w)(HK:Hid (k<=1000)):Calls prog 146 #[x,y] w (Ret w (IsKn k (min l1 l2) (min u1 u2) false)):=by
 obtain⟨s1,a1,n1,c1,s2,a2,n2,c2,rfl,h1,h2⟩:=hx;obtain⟨s3,a3,n3,c3,s4,a4,n4,c4,rfl,h3,h4⟩:=hy
 obtain⟨W,hW,E,B1,B2,B3⟩:∃W,W=((w.alloc (.cells #[.bool s1,.slice a1 n1 c1,.bool s2,.slice a2 n2 c2,.bool f1] 176)).alloc (.cells #[.bool s3,.slice a3 n3 c3,.bool s4,.slice a4 n4 c4,.bool f2] 176)).alloc (.cells #[.bool false,.slice none 0 0,.bool false,.slice none 0 0,.bool false] 176)/\Ext w W/\Bk W w.heap.size [.bool s1,.slice a1 n1 c1,.bool s2,.slice a2 n2 c2,.bool f1]/\Bk W (w.heap.size+1) [.bool s3,.slice a3 n3 c3,.bool s4,.slice a4 n4 c4,.bool f2]/\Bk W (w.heap.size+2) [.bool false,.slice none 0 0,.bool false,.slice none 0 0,.bool false]:=
  ⟨_,rfl,(((Ext.refl w).alloc _).alloc _).alloc _,(Bk.new w _ _).ext (((Ext.refl _).alloc _).alloc _),(Bk.newE _ _ zd _ _).ext ((Ext.refl _).alloc _),Bk.newE _ _ zd _ _⟩
 replace h1:=h1.ext E;replace h2:=h2.ext E;replace h3:=h3.ext E;replace h4:=h4.ext E;go_enter func146,ntmps146;go_upto_region 1 with fail;rw[<-hW];clear hW;refine rg 11 (dR 5 11) [IsP (w.heap.size) 0,IsI k l1,IsP (w.heap.size+1) 0,IsI k l2,IsI k (min l1 l2),IsP (w.heap.size) 2,IsI k u1,IsP (w.heap.size+1) 2,IsI k u2,IsI k (min u1 u2),IsKn k (min l1 l2) (min u1 u2) false] [] 1 ?_ ?_
 ·refine Rc zm ?_;refine Rc xi ?_;refine Rc zj ?_;refine Rc zag ?_;refine Rc (cl2 (en func144) (qA (fP:=IsI k l1) 1 6) (qA (fP:=IsI k l2) 3 8) (λx0 x1 w' hE d0 d1=>lessv_f d0 d1 ze)) ?_;refine Rc zn ?_;refine Rc xe ?_;refine Rc zk ?_;refine Rc (lvI 2 B2 h4 qE (qA 7 12)) ?_;refine Rc (cl2 (en func144) (qA (fP:=IsI k u1) 6 11) (qA (fP:=IsI k u2) 8 13) (λx0 x1 w' hE d0 d1=>lessv_f d0 d1 ze)) ?_;refine Rc yl ?_;exact rn0
 intro v W1 e1 hZ _;replace E:=E.trans e1;replace B3:=B3.ext e1;obtain⟨s5,a5,n5,c5,s6,a6,n6,c6,hv,g1,g2⟩:=hZ 10 dcx;simp only[lxE,Nat.reduceAdd];rw[hv];clear hv hZ e1 B1 B2 h1 h2 h3 h4;refine stA 11 (h:=λK hK=>?_);refine stV (us:= [.bool s5,.slice a5 n5 c5,.bool s6,.slice a6 n6 c6,.bool false]) B3 xL rfl rfl nw5 E zb (λW1a B4 E2 G2 _ _=>hK _ _ ?_);refine jL za ?_ _;have d0:=B4.c 0 _ rfl;have d1:=B4.c 1 _ rfl;have d2:=B4.c 2 _ rfl;have d3:=B4.c 3 _ rfl;have d4:=B4.c 4 _ rfl;go_wp2_with fail;exact jD (v:=.agg #[.bool s5,.slice a5 n5 c5,.bool s6,.slice a6 n6 c6,.bool false]) (by simp[results,results146,go_sem,d0,d1,d2,d3,d4]) rfl ⟨_,rfl,E2,_,_,_,_,_,_,_,_,rfl,IsI.gstb _ _ _ _ _ G2 g1,IsI.gstb _ _ _ _ _ G2 g2⟩
theorem opG_f{k:Nat}{l1 u1 l2 u2:Int}{f1 f2:Bool}{x y:Value}{w:World}(hx:IsKn k l1 u1 f1 x w)(hy:IsKn k l2 u2 f2 y w)(HK:Hid (k<=1000)):Calls prog 147 #[x,y] w (Ret w (IsKn k (max l1 l2) (max u1 u2) false)):=by
 obtain⟨s1,a1,n1,c1,s2,a2,n2,c2,rfl,h1,h2⟩:=hx;obtain⟨s3,a3,n3,c3,s4,a4,n4,c4,rfl,h3,h4⟩:=hy
 obtain⟨W,hW,E,B1,B2,B3⟩:∃W,W=((w.alloc (.cells #[.bool s1,.slice a1 n1 c1,.bool s2,.slice a2 n2 c2,.bool f1] 176)).alloc (.cells #[.bool s3,.slice a3 n3 c3,.bool s4,.slice a4 n4 c4,.bool f2] 176)).alloc (.cells #[.bool false,.slice none 0 0,.bool false,.slice none 0 0,.bool false] 176)/\Ext w W/\Bk W w.heap.size [.bool s1,.slice a1 n1 c1,.bool s2,.slice a2 n2 c2,.bool f1]/\Bk W (w.heap.size+1) [.bool s3,.slice a3 n3 c3,.bool s4,.slice a4 n4 c4,.bool f2]/\Bk W (w.heap.size+2) [.bool false,.slice none 0 0,.bool false,.slice none 0 0,.bool false]:=
  ⟨_,rfl,(((Ext.refl w).alloc _).alloc _).alloc _,(Bk.new w _ _).ext (((Ext.refl _).alloc _).alloc _),(Bk.newE _ _ zd _ _).ext ((Ext.refl _).alloc _),Bk.newE _ _ zd _ _⟩
 replace h1:=h1.ext E;replace h2:=h2.ext E;replace h3:=h3.ext E;replace h4:=h4.ext E;go_enter func147,ntmps147;go_upto_region 1 with fail;rw[<-hW];clear hW;refine rg 11 (dR 5 11) [IsP (w.heap.size) 0,IsI k l1,IsP (w.heap.size+1) 0,IsI k l2,IsI k (max l1 l2),IsP (w.heap.size) 2,IsI k u1,IsP (w.heap.size+1) 2,IsI k u2,IsI k (max u1 u2),IsKn k (max l1 l2) (max u1 u2) false] [] 1 ?_ ?_
 ·refine Rc zm ?_;refine Rc xi ?_;refine Rc zj ?_;refine Rc zag ?_;refine Rc (cl2 (en func145) (qA (fP:=IsI k l1) 1 6) (qA (fP:=IsI k l2) 3 8) (λx0 x1 w' hE d0 d1=>greaterv_f d0 d1 ze)) ?_;refine Rc zn ?_;refine Rc xe ?_;refine Rc zk ?_;refine Rc (lvI 2 B2 h4 qE (qA 7 12)) ?_;refine Rc (cl2 (en func145) (qA (fP:=IsI k u1) 6 11) (qA (fP:=IsI k u2) 8 13) (λx0 x1 w' hE d0 d1=>greaterv_f d0 d1 ze)) ?_;refine Rc yl ?_;exact rn0
 intro v W1 e1 hZ _;replace E:=E.trans e1;replace B3:=B3.ext e1;obtain⟨s5,a5,n5,c5,s6,a6,n6,c6,hv,g1,g2⟩:=hZ 10 dcx;simp only[lxE,Nat.reduceAdd];rw[hv];clear hv hZ e1 B1 B2 h1 h2 h3 h4;refine stA 11 (h:=λK hK=>?_);refine stV (us:= [.bool s5,.slice a5 n5 c5,.bool s6,.slice a6 n6 c6,.bool false]) B3 xL rfl rfl nw5 E zb (λW1a B4 E2 G2 _ _=>hK _ _ ?_);refine jL za ?_ _;have d0:=B4.c 0 _ rfl;have d1:=B4.c 1 _ rfl;have d2:=B4.c 2 _ rfl;have d3:=B4.c 3 _ rfl;have d4:=B4.c 4 _ rfl;go_wp2_with fail;exact jD (v:=.agg #[.bool s5,.slice a5 n5 c5,.bool s6,.slice a6 n6 c6,.bool false]) (by simp[results,results147,go_sem,d0,d1,d2,d3,d4]) rfl ⟨_,rfl,E2,_,_,_,_,_,_,_,_,rfl,IsI.gstb _ _ _ _ _ G2 g1,IsI.gstb _ _ _ _ _ G2 g2⟩
theorem opLess_f{k:Nat}{l1 u1 l2 u2 c1' c2':Int}{f1 f2:Bool}{x y:Value}{w:World}(hx:IsKn k l1 u1 f1 x w)(hy:IsKn k l2 u2 f2 y w)(HK:Hid (k<=1000)){b1 b2:Bool}(HC1:Hid (qJ u1 l2=c1'))(HC2:Hid (qJ l1 u2=c2'))(HB1:Hid (decide (c1'<0)=b1))(HB2:Hid (decide (0<=c2')=b2)):Calls prog 148 #[x,y] w (Ret w (IsK 2 (qU b1 b2))):=by
 obtain⟨s1,a1,n1,c1,s2,a2,n2,c2,rfl,h1,h2⟩:=hx;obtain⟨s3,a3,n3,c3,s4,a4,n4,c4,rfl,h3,h4⟩:=hy
 obtain⟨W,hW,E,B1,B2,B3⟩:∃W,W=((w.alloc (.cells #[.bool s1,.slice a1 n1 c1,.bool s2,.slice a2 n2 c2,.bool f1] 176)).alloc (.cells #[.bool s3,.slice a3 n3 c3,.bool s4,.slice a4 n4 c4,.bool f2] 176)).alloc (.cells #[.bool false,.slice none 0 0,.bool false,.slice none 0 0,.bool false] 176)/\Ext w W/\Bk W w.heap.size [.bool s1,.slice a1 n1 c1,.bool s2,.slice a2 n2 c2,.bool f1]/\Bk W (w.heap.size+1) [.bool s3,.slice a3 n3 c3,.bool s4,.slice a4 n4 c4,.bool f2]/\Bk W (w.heap.size+2) [.bool false,.slice none 0 0,.bool false,.slice none 0 0,.bool false]:=
  ⟨_,rfl,(((Ext.refl w).alloc _).alloc _).alloc _,(Bk.new w _ _).ext (((Ext.refl _).alloc _).alloc _),(Bk.newE _ _ zd _ _).ext ((Ext.refl _).alloc _),Bk.newE _ _ zd _ _⟩
 replace h1:=h1.ext E;replace h2:=h2.ext E;replace h3:=h3.ext E;replace h4:=h4.ext E;go_enter func148,ntmps148;go_upto_region 1 with fail;rw[<-hW];clear hW;refine rg 13 (dR 5 13) [IsP (w.heap.size) 2,IsI k u1,IsP (w.heap.size+1) 0,IsI k l2,iV c1',IsV (.bool b1),IsP (w.heap.size) 0,IsI k l1,IsP (w.heap.size+1) 2,IsI k u2,iV c2',IsV (.bool b2),IsK 2 (qU b1 b2)] [] 1 ?_ ?_
 ·refine Rc zn ?_;refine Rc (lvI 2 B1 h2 qE (qA 0 5)) ?_;refine Rc zj ?_;refine Rc zag ?_;refine Rc (cl2 (en func150) (qA (fP:=IsI k u1) 1 6) (qA (fP:=IsI k l2) 3 8) (λx0 x1 w' hE d0 d1=>jC (Cmp_f d0 d1 ze ze) λ_ _ h=>h.int HC1.out)) ?_;refine Rc (bn (r:=.bool b1) (qC 4 9) qF (hr:=λw=>by have hx9:=HB1.out;go_simp)) ?_;refine Rc zm ?_;refine Rc (lvI 0 B1 h1 qE (qA 6 11)) ?_;refine Rc zk ?_;refine Rc (lvI 2 B2 h4 qE (qA 8 13)) ?_;refine Rc (cl2 (en func150) (qA (fP:=IsI k l1) 7 12) (qA (fP:=IsI k u2) 9 14) (λx0 x1 w' hE d0 d1=>jC (Cmp_f d0 d1 ze ze) λ_ _ h=>h.int HC2.out)) ?_;refine Rc (bn (r:=.bool b2) (qC 10 15) qF (hr:=λw=>by have hx9:=HB2.out;go_simp)) ?_;refine Rc (cl2 (en func149) (qA (fP:=IsV (.bool b1)) 5 10) (qA (fP:=IsV (.bool b2)) 11 16) (λx0 x1 w' hE d0 d1=>by{obtain rfl:x0=.bool b1:=d0;obtain rfl:x1=.bool b2:=d1;exact truth_f w' b1 b2})) ?_;exact rn0
 intro v W1 e1 hZ _;replace E:=E.trans e1;replace B3:=B3.ext e1;obtain⟨s5,a5,n5,c5,s6,a6,n6,c6,hv,g1,g2⟩:=hZ 12 dcx;simp only[lxE,Nat.reduceAdd];rw[hv];clear hv hZ e1 B1 B2 h1 h2 h3 h4;refine stA 13 (h:=λK hK=>?_);refine stV (us:= [.bool s5,.slice a5 n5 c5,.bool s6,.slice a6 n6 c6,.bool (qU b1 b2).fin]) B3 xL rfl rfl nw5 E zb (λW1a B4 E2 G2 _ _=>hK _ _ ?_);refine jL za ?_ _;have d0:=B4.c 0 _ rfl;have d1:=B4.c 1 _ rfl;have d2:=B4.c 2 _ rfl;have d3:=B4.c 3 _ rfl;have d4:=B4.c 4 _ rfl;go_wp2_with fail;exact jD (v:=.agg #[.bool s5,.slice a5 n5 c5,.bool s6,.slice a6 n6 c6,.bool (qU b1 b2).fin]) (by simp[results,results148,go_sem,d0,d1,d2,d3,d4]) rfl ⟨_,rfl,E2,_,_,_,_,_,_,_,_,rfl,IsI.gstb _ _ _ _ _ G2 g1,IsI.gstb _ _ _ _ _ G2 g2⟩
theorem opEq_tt{k:Nat}{l1 u1 l2 u2 c1' _c2' c3' c4':Int}{f1 f2:Bool}{x y:Value}{w:World}(hx:IsKn k l1 u1 f1 x w)(hy:IsKn k l2 u2 f2 y w)(HK:Hid (k<=1000)){_b2 b4:Bool}(HC1:Hid (qJ u1 l2=c1'))(HB1:Hid (decide (c1'<0)=true))(HC3:Hid (qJ l1 u2=c3'))(HB3:Hid (c3'=0))(HC4:Hid (qJ l2 u1=c4'))(HB4:Hid ((c4'==0)=b4)):Calls prog 151 #[x,y] w (Ret w (IsK 2 (qU b4 true))):=by
 obtain⟨s1,a1,n1,c1,s2,a2,n2,c2,rfl,h1,h2⟩:=hx;obtain⟨s3,a3,n3,c3,s4,a4,n4,c4,rfl,h3,h4⟩:=hy
 obtain⟨W,hW,E,B1,B2,B3⟩:∃W,W=((w.alloc (.cells #[.bool s1,.slice a1 n1 c1,.bool s2,.slice a2 n2 c2,.bool f1] 176)).alloc (.cells #[.bool s3,.slice a3 n3 c3,.bool s4,.slice a4 n4 c4,.bool f2] 176)).alloc (.cells #[.bool false,.slice none 0 0,.bool false,.slice none 0 0,.bool false] 176)/\Ext w W/\Bk W w.heap.size [.bool s1,.slice a1 n1 c1,.bool s2,.slice a2 n2 c2,.bool f1]/\Bk W (w.heap.size+1) [.bool s3,.slice a3 n3 c3,.bool s4,.slice a4 n4 c4,.bool f2]/\Bk W (w.heap.size+2) [.bool false,.slice none 0 0,.bool false,.slice none 0 0,.bool false]:=
  ⟨_,rfl,(((Ext.refl w).alloc _).alloc _).alloc _,(Bk.new w _ _).ext (((Ext.refl _).alloc _).alloc _),(Bk.newE _ _ zd _ _).ext ((Ext.refl _).alloc _),Bk.newE _ _ zd _ _⟩
 replace h1:=h1.ext E;replace h2:=h2.ext E;replace h3:=h3.ext E;replace h4:=h4.ext E;go_enter func151,ntmps151;go_upto_region 1 with fail;rw[<-hW];clear hW;refine rgs 15 [some 6,some 7,some 8,some 9,some 10,some 11,some 12,some 13,some 14,some 15,some 16,some 17,some 18,some 19,some 5] [IsP (w.heap.size) 2,IsI k u1,IsP (w.heap.size+1) 0,IsI k l2,iV c1',IsV (.bool true),IsV (.bool true),IsV undef,IsV undef,IsV undef,IsV undef,IsV undef,IsV undef,IsV (.bool true),IsV (.bool true)] [] ?_ ?_
 ·refine Rc zn ?_;refine Rc (lvI 2 B1 h2 qE (qA 0 6)) ?_;refine Rc zj ?_;refine Rc (lvI 0 B2 h3 qE (qA 2 8)) ?_;refine Rc za5 ?_;refine Rc (bn (r:=.bool true) (qC 4 10) qF (hr:=λw=>by have hx9:=HB1.out;go_simp)) ?_;refine Rc (mv (qA 5 11)) ?_;refine RcN 6 12 true ?_;refine RcN 6 12 true ?_;refine RcN 6 12 true ?_;refine RcN 6 12 true ?_;refine RcN 6 12 true ?_;refine RcN 6 12 true ?_;refine Rc (pk (qC 6 12) qF) ?_;refine Rc (mv (qA 13 19)) ?_;exact rn0
 intro v W1 e1 hZ _;replace E:=E.trans e1;replace B1:=B1.ext e1;replace B2:=B2.ext e1;replace B3:=B3.ext e1;replace h1:=h1.ext e1;replace h2:=h2.ext e1;replace h3:=h3.ext e1;replace h4:=h4.ext e1;simp only[lxE,Nat.reduceAdd];rw[show v 14=.bool true from hZ 14 dcx];clear hZ e1;refine jE ?_;go_upto_region 2 with fail;refine rgs 16 (dR 20 16) [IsP (w.heap.size) 0,IsI k l1,IsP (w.heap.size+1) 2,IsI k u2,iV c3',IsV (.bool true),IsV (.bool true),IsP (w.heap.size+1) 0,IsI k l2,IsP (w.heap.size) 2,IsI k u1,iV c4',IsV (.bool b4),IsV (.bool b4),IsV (.bool true),IsK 2 (qU b4 true)] [] ?_ ?_
 ·refine Rc zm ?_;refine Rc (lvI 0 B1 h1 qE (qA 0 20)) ?_;refine Rc zk ?_;refine Rc (lvI 2 B2 h4 qE (qA 2 22)) ?_;refine Rc za4 ?_;refine Rc (bn (r:=.bool true) (qC 4 24) qF (hr:=λw=>by have hx9:=HB3.out;go_simp)) ?_;refine Rc (mv (qA 5 25)) ?_;refine RcG 6 26 true zj ?_;refine RcG 6 26 true (lvI 0 B2 h3 qE (qA 7 27)) ?_;refine RcG 6 26 true zn ?_;refine RcG 6 26 true (lvI 2 B1 h2 qE (qA 9 29)) ?_;refine RcG 6 26 true zbm ?_;refine RcG 6 26 true (bn (r:=.bool b4) (qC 11 31) qF (hr:=λw=>by have hx9:=HB4.out;go_simp)) ?_;refine Rc (pk (qC 6 26) (qA 12 32)) ?_;refine Rc (mv (qB 5)) ?_;refine Rc (cl2 (en func149) (qA (fP:=IsV (.bool b4)) 13 33) (qA (fP:=IsV (.bool true)) 14 34) (λx0 x1 w' hE d0 d1=>by{obtain rfl:x0=.bool b4:=d0;obtain rfl:x1=.bool true:=d1;exact truth_f w' b4 true})) ?_;exact rn0
 intro v W1 e1 hZ _;replace E:=E.trans e1;replace B3:=B3.ext e1;obtain⟨s5,a5,n5,c5,s6,a6,n6,c6,hv,g1,g2⟩:=hZ 15 dcx;simp only[lxE,Nat.reduceAdd];rw[hv];clear hv hZ e1 B1 B2 h1 h2 h3 h4;refine stL (λK hK=>?_);refine stV (us:= [.bool s5,.slice a5 n5 c5,.bool s6,.slice a6 n6 c6,.bool (qU b4 true).fin]) B3 xL rfl rfl nw5 E zb (λW2 B4 E2 G2 _ _=>hK _ _ ?_);refine jE ?_;have d0:=B4.c 0 _ rfl;have d1:=B4.c 1 _ rfl;have d2:=B4.c 2 _ rfl;have d3:=B4.c 3 _ rfl;have d4:=B4.c 4 _ rfl;go_wp2_with fail;exact jD (v:=.agg #[.bool s5,.slice a5 n5 c5,.bool s6,.slice a6 n6 c6,.bool (qU b4 true).fin]) ya rfl ⟨_,rfl,E2,_,_,_,_,_,_,_,_,rfl,IsI.gstb _ _ _ _ _ G2 g1,IsI.gstb _ _ _ _ _ G2 g2⟩
theorem opEq_tf{k:Nat}{l1 u1 l2 u2 c1' _c2' c3' _c4':Int}{f1 f2:Bool}{x y:Value}{w:World}(hx:IsKn k l1 u1 f1 x w)(hy:IsKn k l2 u2 f2 y w)(HK:Hid (k<=1000)){_b2 _b4:Bool}(HC1:Hid (qJ u1 l2=c1'))(HB1:Hid (decide (c1'<0)=true))(HC3:Hid (qJ l1 u2=c3'))(HB3:Hid (¬c3'=0)):Calls prog 151 #[x,y] w (Ret w (IsK 2 (qU false true))):=by
 obtain⟨s1,a1,n1,c1,s2,a2,n2,c2,rfl,h1,h2⟩:=hx;obtain⟨s3,a3,n3,c3,s4,a4,n4,c4,rfl,h3,h4⟩:=hy
 obtain⟨W,hW,E,B1,B2,B3⟩:∃W,W=((w.alloc (.cells #[.bool s1,.slice a1 n1 c1,.bool s2,.slice a2 n2 c2,.bool f1] 176)).alloc (.cells #[.bool s3,.slice a3 n3 c3,.bool s4,.slice a4 n4 c4,.bool f2] 176)).alloc (.cells #[.bool false,.slice none 0 0,.bool false,.slice none 0 0,.bool false] 176)/\Ext w W/\Bk W w.heap.size [.bool s1,.slice a1 n1 c1,.bool s2,.slice a2 n2 c2,.bool f1]/\Bk W (w.heap.size+1) [.bool s3,.slice a3 n3 c3,.bool s4,.slice a4 n4 c4,.bool f2]/\Bk W (w.heap.size+2) [.bool false,.slice none 0 0,.bool false,.slice none 0 0,.bool false]:=
  ⟨_,rfl,(((Ext.refl w).alloc _).alloc _).alloc _,(Bk.new w _ _).ext (((Ext.refl _).alloc _).alloc _),(Bk.newE _ _ zd _ _).ext ((Ext.refl _).alloc _),Bk.newE _ _ zd _ _⟩
 replace h1:=h1.ext E;replace h2:=h2.ext E;replace h3:=h3.ext E;replace h4:=h4.ext E;go_enter func151,ntmps151;go_upto_region 1 with fail;rw[<-hW];clear hW;refine rgs 15 [some 6,some 7,some 8,some 9,some 10,some 11,some 12,some 13,some 14,some 15,some 16,some 17,some 18,some 19,some 5] [IsP (w.heap.size) 2,IsI k u1,IsP (w.heap.size+1) 0,IsI k l2,iV c1',IsV (.bool true),IsV (.bool true),IsV undef,IsV undef,IsV undef,IsV undef,IsV undef,IsV undef,IsV (.bool true),IsV (.bool true)] [] ?_ ?_
 ·refine Rc zn ?_;refine Rc (lvI 2 B1 h2 qE (qA 0 6)) ?_;refine Rc zj ?_;refine Rc (lvI 0 B2 h3 qE (qA 2 8)) ?_;refine Rc za5 ?_;refine Rc (bn (r:=.bool true) (qC 4 10) qF (hr:=λw=>by have hx9:=HB1.out;go_simp)) ?_;refine Rc (mv (qA 5 11)) ?_;refine RcN 6 12 true ?_;refine RcN 6 12 true ?_;refine RcN 6 12 true ?_;refine RcN 6 12 true ?_;refine RcN 6 12 true ?_;refine RcN 6 12 true ?_;refine Rc (pk (qC 6 12) qF) ?_;refine Rc (mv (qA 13 19)) ?_;exact rn0
 intro v W1 e1 hZ _;replace E:=E.trans e1;replace B1:=B1.ext e1;replace B2:=B2.ext e1;replace B3:=B3.ext e1;replace h1:=h1.ext e1;replace h2:=h2.ext e1;replace h3:=h3.ext e1;replace h4:=h4.ext e1;simp only[lxE,Nat.reduceAdd];rw[show v 14=.bool true from hZ 14 dcx];clear hZ e1;refine jE ?_;go_upto_region 2 with fail;refine rgs 16 (dR 20 16) [IsP (w.heap.size) 0,IsI k l1,IsP (w.heap.size+1) 2,IsI k u2,iV c3',IsV (.bool false),IsV (.bool false),IsV undef,IsV undef,IsV undef,IsV undef,IsV undef,IsV undef,IsV (.bool false),IsV (.bool true),IsK 2 (qU false true)] [] ?_ ?_
 ·refine Rc zm ?_;refine Rc (lvI 0 B1 h1 qE (qA 0 20)) ?_;refine Rc zk ?_;refine Rc (lvI 2 B2 h4 qE (qA 2 22)) ?_;refine Rc za4 ?_;refine Rc (bn (r:=.bool false) (qC 4 24) qF (hr:=λw=>by have hx9:=HB3.out;go_simp)) ?_;refine Rc (mv (qA 5 25)) ?_;refine RcN 6 26 false ?_;refine RcN 6 26 false ?_;refine RcN 6 26 false ?_;refine RcN 6 26 false ?_;refine RcN 6 26 false ?_;refine RcN 6 26 false ?_;refine Rc (pk (qC 6 26) qF) ?_;refine Rc (mv (qB 5)) ?_;refine Rc (cl2 (en func149) (qA (fP:=IsV (.bool false)) 13 33) (qA (fP:=IsV (.bool true)) 14 34) (λx0 x1 w' hE d0 d1=>by{obtain rfl:x0=.bool false:=d0;obtain rfl:x1=.bool true:=d1;exact truth_f w' false true})) ?_;exact rn0
 intro v W1 e1 hZ _;replace E:=E.trans e1;replace B3:=B3.ext e1;obtain⟨s5,a5,n5,c5,s6,a6,n6,c6,hv,g1,g2⟩:=hZ 15 dcx;simp only[lxE,Nat.reduceAdd];rw[hv];clear hv hZ e1 B1 B2 h1 h2 h3 h4;refine stL (λK hK=>?_);refine stV (us:= [.bool s5,.slice a5 n5 c5,.bool s6,.slice a6 n6 c6,.bool (qU false true).fin]) B3 xL rfl rfl nw5 E zb (λW2 B4 E2 G2 _ _=>hK _ _ ?_);refine jE ?_;have d0:=B4.c 0 _ rfl;have d1:=B4.c 1 _ rfl;have d2:=B4.c 2 _ rfl;have d3:=B4.c 3 _ rfl;have d4:=B4.c 4 _ rfl;go_wp2_with fail;exact jD (v:=.agg #[.bool s5,.slice a5 n5 c5,.bool s6,.slice a6 n6 c6,.bool (qU false true).fin]) ya rfl ⟨_,rfl,E2,_,_,_,_,_,_,_,_,rfl,IsI.gstb _ _ _ _ _ G2 g1,IsI.gstb _ _ _ _ _ G2 g2⟩
theorem opEq_ft{k:Nat}{l1 u1 l2 u2 c1' c2' c3' c4':Int}{f1 f2:Bool}{x y:Value}{w:World}(hx:IsKn k l1 u1 f1 x w)(hy:IsKn k l2 u2 f2 y w)(HK:Hid (k<=1000)){b2 b4:Bool}(HC1:Hid (qJ u1 l2=c1'))(HB1:Hid (decide (c1'<0)=false))(HC2:Hid (qJ u2 l1=c2'))(HB2:Hid (decide (c2'<0)=b2))(HC3:Hid (qJ l1 u2=c3'))(HB3:Hid (c3'=0))(HC4:Hid (qJ l2 u1=c4'))(HB4:Hid ((c4'==0)=b4)):Calls prog 151 #[x,y] w (Ret w (IsK 2 (qU b4 b2))):=by
 obtain⟨s1,a1,n1,c1,s2,a2,n2,c2,rfl,h1,h2⟩:=hx;obtain⟨s3,a3,n3,c3,s4,a4,n4,c4,rfl,h3,h4⟩:=hy
 obtain⟨W,hW,E,B1,B2,B3⟩:∃W,W=((w.alloc (.cells #[.bool s1,.slice a1 n1 c1,.bool s2,.slice a2 n2 c2,.bool f1] 176)).alloc (.cells #[.bool s3,.slice a3 n3 c3,.bool s4,.slice a4 n4 c4,.bool f2] 176)).alloc (.cells #[.bool false,.slice none 0 0,.bool false,.slice none 0 0,.bool false] 176)/\Ext w W/\Bk W w.heap.size [.bool s1,.slice a1 n1 c1,.bool s2,.slice a2 n2 c2,.bool f1]/\Bk W (w.heap.size+1) [.bool s3,.slice a3 n3 c3,.bool s4,.slice a4 n4 c4,.bool f2]/\Bk W (w.heap.size+2) [.bool false,.slice none 0 0,.bool false,.slice none 0 0,.bool false]:=
  ⟨_,rfl,(((Ext.refl w).alloc _).alloc _).alloc _,(Bk.new w _ _).ext (((Ext.refl _).alloc _).alloc _),(Bk.newE _ _ zd _ _).ext ((Ext.refl _).alloc _),Bk.newE _ _ zd _ _⟩
 replace h1:=h1.ext E;replace h2:=h2.ext E;replace h3:=h3.ext E;replace h4:=h4.ext E;go_enter func151,ntmps151;go_upto_region 1 with fail;rw[<-hW];clear hW;refine rgs 15 [some 6,some 7,some 8,some 9,some 10,some 11,some 12,some 13,some 14,some 15,some 16,some 17,some 18,some 19,some 5] [IsP (w.heap.size) 2,IsI k u1,IsP (w.heap.size+1) 0,IsI k l2,iV c1',IsV (.bool false),IsV (.bool false),IsP (w.heap.size+1) 2,IsI k u2,IsP (w.heap.size) 0,IsI k l1,iV c2',IsV (.bool b2),IsV (.bool b2),IsV (.bool b2)] [] ?_ ?_
 ·refine Rc zn ?_;refine Rc (lvI 2 B1 h2 qE (qA 0 6)) ?_;refine Rc zj ?_;refine Rc (lvI 0 B2 h3 qE (qA 2 8)) ?_;refine Rc za5 ?_;refine Rc (bn (r:=.bool false) (qC 4 10) qF (hr:=λw=>by have hx9:=HB1.out;go_simp)) ?_;refine Rc (mv (qA 5 11)) ?_;refine RcG 6 12 false zk ?_;refine RcG 6 12 false (lvI 2 B2 h4 qE (qA 7 13)) ?_;refine RcG 6 12 false zm ?_;refine RcG 6 12 false (lvI 0 B1 h1 qE (qA 9 15)) ?_;refine RcG 6 12 false zbn ?_;refine RcG 6 12 false (bn (r:=.bool b2) (qC 11 17) qF (hr:=λw=>by have hx9:=HB2.out;go_simp)) ?_;refine Rc (pk (qC 6 12) (qA 12 18)) ?_;refine Rc (mv (qA 13 19)) ?_;exact rn0
 intro v W1 e1 hZ _;replace E:=E.trans e1;replace B1:=B1.ext e1;replace B2:=B2.ext e1;replace B3:=B3.ext e1;replace h1:=h1.ext e1;replace h2:=h2.ext e1;replace h3:=h3.ext e1;replace h4:=h4.ext e1;simp only[lxE,Nat.reduceAdd];rw[show v 14=.bool b2 from hZ 14 dcx];clear hZ e1;refine jE ?_;go_upto_region 2 with fail;refine rgs 16 (dR 20 16) [IsP (w.heap.size) 0,IsI k l1,IsP (w.heap.size+1) 2,IsI k u2,iV c3',IsV (.bool true),IsV (.bool true),IsP (w.heap.size+1) 0,IsI k l2,IsP (w.heap.size) 2,IsI k u1,iV c4',IsV (.bool b4),IsV (.bool b4),IsV (.bool b2),IsK 2 (qU b4 b2)] [] ?_ ?_
 ·refine Rc zm ?_;refine Rc (lvI 0 B1 h1 qE (qA 0 20)) ?_;refine Rc zk ?_;refine Rc (lvI 2 B2 h4 qE (qA 2 22)) ?_;refine Rc za4 ?_;refine Rc (bn (r:=.bool true) (qC 4 24) qF (hr:=λw=>by have hx9:=HB3.out;go_simp)) ?_;refine Rc (mv (qA 5 25)) ?_;refine RcG 6 26 true zj ?_;refine RcG 6 26 true (lvI 0 B2 h3 qE (qA 7 27)) ?_;refine RcG 6 26 true zn ?_;refine RcG 6 26 true (lvI 2 B1 h2 qE (qA 9 29)) ?_;refine RcG 6 26 true zbm ?_;refine RcG 6 26 true (bn (r:=.bool b4) (qC 11 31) qF (hr:=λw=>by have hx9:=HB4.out;go_simp)) ?_;refine Rc (pk (qC 6 26) (qA 12 32)) ?_;refine Rc (mv (qB 5)) ?_;refine Rc (cl2 (en func149) (qA (fP:=IsV (.bool b4)) 13 33) (qA (fP:=IsV (.bool b2)) 14 34) (λx0 x1 w' hE d0 d1=>by{obtain rfl:x0=.bool b4:=d0;obtain rfl:x1=.bool b2:=d1;exact truth_f w' b4 b2})) ?_;exact rn0
 intro v W1 e1 hZ _;replace E:=E.trans e1;replace B3:=B3.ext e1;obtain⟨s5,a5,n5,c5,s6,a6,n6,c6,hv,g1,g2⟩:=hZ 15 dcx;simp only[lxE,Nat.reduceAdd];rw[hv];clear hv hZ e1 B1 B2 h1 h2 h3 h4;refine stL (λK hK=>?_);refine stV (us:= [.bool s5,.slice a5 n5 c5,.bool s6,.slice a6 n6 c6,.bool (qU b4 b2).fin]) B3 xL rfl rfl nw5 E zb (λW2 B4 E2 G2 _ _=>hK _ _ ?_);refine jE ?_;have d0:=B4.c 0 _ rfl;have d1:=B4.c 1 _ rfl;have d2:=B4.c 2 _ rfl;have d3:=B4.c 3 _ rfl;have d4:=B4.c 4 _ rfl;go_wp2_with fail;exact jD (v:=.agg #[.bool s5,.slice a5 n5 c5,.bool s6,.slice a6 n6 c6,.bool (qU b4 b2).fin]) ya rfl ⟨_,rfl,E2,_,_,_,_,_,_,_,_,rfl,IsI.gstb _ _ _ _ _ G2 g1,IsI.gstb _ _ _ _ _ G2 g2⟩
theorem opEq_ff{k:Nat}{l1 u1 l2 u2 c1' c2' c3' _c4':Int}{f1 f2:Bool}{x y:Value}{w:World}(hx:IsKn k l1 u1 f1 x w)(hy:IsKn k l2 u2 f2 y w)(HK:Hid (k<=1000)){b2 _b4:Bool}(HC1:Hid (qJ u1 l2=c1'))(HB1:Hid (decide (c1'<0)=false))(HC2:Hid (qJ u2 l1=c2'))(HB2:Hid (decide (c2'<0)=b2))(HC3:Hid (qJ l1 u2=c3'))(HB3:Hid (¬c3'=0)):Calls prog 151 #[x,y] w (Ret w (IsK 2 (qU false b2))):=by
 obtain⟨s1,a1,n1,c1,s2,a2,n2,c2,rfl,h1,h2⟩:=hx;obtain⟨s3,a3,n3,c3,s4,a4,n4,c4,rfl,h3,h4⟩:=hy
 obtain⟨W,hW,E,B1,B2,B3⟩:∃W,W=((w.alloc (.cells #[.bool s1,.slice a1 n1 c1,.bool s2,.slice a2 n2 c2,.bool f1] 176)).alloc (.cells #[.bool s3,.slice a3 n3 c3,.bool s4,.slice a4 n4 c4,.bool f2] 176)).alloc (.cells #[.bool false,.slice none 0 0,.bool false,.slice none 0 0,.bool false] 176)/\Ext w W/\Bk W w.heap.size [.bool s1,.slice a1 n1 c1,.bool s2,.slice a2 n2 c2,.bool f1]/\Bk W (w.heap.size+1) [.bool s3,.slice a3 n3 c3,.bool s4,.slice a4 n4 c4,.bool f2]/\Bk W (w.heap.size+2) [.bool false,.slice none 0 0,.bool false,.slice none 0 0,.bool false]:=
  ⟨_,rfl,(((Ext.refl w).alloc _).alloc _).alloc _,(Bk.new w _ _).ext (((Ext.refl _).alloc _).alloc _),(Bk.newE _ _ zd _ _).ext ((Ext.refl _).alloc _),Bk.newE _ _ zd _ _⟩
 replace h1:=h1.ext E;replace h2:=h2.ext E;replace h3:=h3.ext E;replace h4:=h4.ext E;go_enter func151,ntmps151;go_upto_region 1 with fail;rw[<-hW];clear hW;refine rgs 15 [some 6,some 7,some 8,some 9,some 10,some 11,some 12,some 13,some 14,some 15,some 16,some 17,some 18,some 19,some 5] [IsP (w.heap.size) 2,IsI k u1,IsP (w.heap.size+1) 0,IsI k l2,iV c1',IsV (.bool false),IsV (.bool false),IsP (w.heap.size+1) 2,IsI k u2,IsP (w.heap.size) 0,IsI k l1,iV c2',IsV (.bool b2),IsV (.bool b2),IsV (.bool b2)] [] ?_ ?_
 ·refine Rc zn ?_;refine Rc (lvI 2 B1 h2 qE (qA 0 6)) ?_;refine Rc zj ?_;refine Rc (lvI 0 B2 h3 qE (qA 2 8)) ?_;refine Rc za5 ?_;refine Rc (bn (r:=.bool false) (qC 4 10) qF (hr:=λw=>by have hx9:=HB1.out;go_simp)) ?_;refine Rc (mv (qA 5 11)) ?_;refine RcG 6 12 false zk ?_;refine RcG 6 12 false (lvI 2 B2 h4 qE (qA 7 13)) ?_;refine RcG 6 12 false zm ?_;refine RcG 6 12 false (lvI 0 B1 h1 qE (qA 9 15)) ?_;refine RcG 6 12 false zbn ?_;refine RcG 6 12 false (bn (r:=.bool b2) (qC 11 17) qF (hr:=λw=>by have hx9:=HB2.out;go_simp)) ?_;refine Rc (pk (qC 6 12) (qA 12 18)) ?_;refine Rc (mv (qA 13 19)) ?_;exact rn0
 intro v W1 e1 hZ _;replace E:=E.trans e1;replace B1:=B1.ext e1;replace B2:=B2.ext e1;replace B3:=B3.ext e1;replace h1:=h1.ext e1;replace h2:=h2.ext e1;replace h3:=h3.ext e1;replace h4:=h4.ext e1;simp only[lxE,Nat.reduceAdd];rw[show v 14=.bool b2 from hZ 14 dcx];clear hZ e1;refine jE ?_;go_upto_region 2 with fail;refine rgs 16 (dR 20 16) [IsP (w.heap.size) 0,IsI k l1,IsP (w.heap.size+1) 2,IsI k u2,iV c3',IsV (.bool false),IsV (.bool false),IsV undef,IsV undef,IsV undef,IsV undef,IsV undef,IsV undef,IsV (.bool false),IsV (.bool b2),IsK 2 (qU false b2)] [] ?_ ?_
 ·refine Rc zm ?_;refine Rc (lvI 0 B1 h1 qE (qA 0 20)) ?_;refine Rc zk ?_;refine Rc (lvI 2 B2 h4 qE (qA 2 22)) ?_;refine Rc za4 ?_;refine Rc (bn (r:=.bool false) (qC 4 24) qF (hr:=λw=>by have hx9:=HB3.out;go_simp)) ?_;refine Rc (mv (qA 5 25)) ?_;refine RcN 6 26 false ?_;refine RcN 6 26 false ?_;refine RcN 6 26 false ?_;refine RcN 6 26 false ?_;refine RcN 6 26 false ?_;refine RcN 6 26 false ?_;refine Rc (pk (qC 6 26) qF) ?_;refine Rc (mv (qB 5)) ?_;refine Rc (cl2 (en func149) (qA (fP:=IsV (.bool false)) 13 33) (qA (fP:=IsV (.bool b2)) 14 34) (λx0 x1 w' hE d0 d1=>by{obtain rfl:x0=.bool false:=d0;obtain rfl:x1=.bool b2:=d1;exact truth_f w' false b2})) ?_;exact rn0
 intro v W1 e1 hZ _;replace E:=E.trans e1;replace B3:=B3.ext e1;obtain⟨s5,a5,n5,c5,s6,a6,n6,c6,hv,g1,g2⟩:=hZ 15 dcx;simp only[lxE,Nat.reduceAdd];rw[hv];clear hv hZ e1 B1 B2 h1 h2 h3 h4;refine stL (λK hK=>?_);refine stV (us:= [.bool s5,.slice a5 n5 c5,.bool s6,.slice a6 n6 c6,.bool (qU false b2).fin]) B3 xL rfl rfl nw5 E zb (λW2 B4 E2 G2 _ _=>hK _ _ ?_);refine jE ?_;have d0:=B4.c 0 _ rfl;have d1:=B4.c 1 _ rfl;have d2:=B4.c 2 _ rfl;have d3:=B4.c 3 _ rfl;have d4:=B4.c 4 _ rfl;go_wp2_with fail;exact jD (v:=.agg #[.bool s5,.slice a5 n5 c5,.bool s6,.slice a6 n6 c6,.bool (qU false b2).fin]) ya rfl ⟨_,rfl,E2,_,_,_,_,_,_,_,_,rfl,IsI.gstb _ _ _ _ _ G2 g1,IsI.gstb _ _ _ _ _ G2 g2⟩
end
section
open Go Go.RowKit
section
variable {P:Program} {md:Region.Mode} {ops:Array Oper} {Q:Exit->Act->World->Prop}
theorem rgC_main(n:Nat)(L:Nat->Value->World->Prop)(Rel:World->World->Prop)(fS:Value->World->Prop){a0:Act}{w0:World}
  (hsz:ops.size=n+3) (hap:qO ops (n+2)=true) (hnd:∀i,i<n->∀e∈qT md ops i,e<i) (hnA:qT md ops (n+1)= [])
  (hnC:∀i,i<n->(ups md ops n).contains i=true) (hnC2:∀e∈qT md ops n,e<n) (hnS:∀i,i<n+2->(ups md ops (n+2)).contains i=true)
  (hst:∀i,i<n->Stb (L i)) (hstA:Stb (L (n+1))) (hstP:Stb fS) (hRA:∀x w w',Rel w w'->L (n+1) x w->L (n+1) x w')
  (hop:∀i,i<n->∀o,ops[i]? =some o->∀(v:Nat->Value) (w:World),Ext w0 w->(∀j,(ups md ops i).contains j=true->L j (v j) w)->∀K:Act->World->Prop,
   (∀x w',Ext w w'->L i x w'->K ((qY ops v a0 (n+2)).put o.dst x) w')->if Region.wanted o (yielded ops (qY ops v a0 (n+2)).tmps)=true then Oper.wp P o (qY ops v a0 (n+2)) w K Q else K ((qY ops v a0 (n+2)).put o.dst undef) w)
  (hal:∀o,ops[n+1]? =some o->∀(v:Nat->Value) (w:World),w0.heap.size<=w.heap.size->∀K:Act->World->Prop,
   (∀x w',Ext w w'->L (n+1) x w'->K ((qY ops v a0 (n+2)).put o.dst x) w')->if Region.wanted o (yielded ops (qY ops v a0 (n+2)).tmps)=true then Oper.wp P o (qY ops v a0 (n+2)) w K Q else K ((qY ops v a0 (n+2)).put o.dst undef) w)
  (hRs:∀w w',Rel w w'->w.heap.size<=w'.heap.size)
  (hcall:∀o,ops[n]? =some o->∀(v:Nat->Value) (w:World),Ext w0 w->(∀j,j<n->L j (v j) w)->∀K:Act->World->Prop,
   (∀x w',Rel w w'->fS x w'->K ((qY ops v a0 (n+2)).put o.dst x) w')->if Region.wanted o (yielded ops (qY ops v a0 (n+2)).tmps)=true then Oper.wp P o (qY ops v a0 (n+2)) w K Q else K ((qY ops v a0 (n+2)).put o.dst undef) w)
  (hend:∀v w,fS (v n) w->L (n+1) (v (n+1)) w->wpAny P md ops Q 1 (qG ops.size (n+2)) (qY ops v a0 (n+2)) w):
  ∀ (fuel:Nat) (listed:Array Bool) (v:Nat->Value) (w:World),listed.size=ops.size->listed.getD n false=false->listed.getD (n+2) false=false->
   fuel+xA listed (n+2)=n+3->(∀i,listed.getD i false=true->∀e∈qT md ops i,listed.getD e false=true)->Ext w0 w->
   (∀i,i<n->listed.getD i false=true->L i (v i) w)->(listed.getD (n+1) false=true->L (n+1) (v (n+1)) w)->
   wpAny P md ops Q fuel listed (qY ops v a0 (n+2)) w:=by
 have hput:∀(v:Nat->Value) (i:Nat) (x:Value),i<n+2->(qY ops v a0 (n+2)).put (qR ops i) x=qY ops (jB v i x) a0 (n+2):=λv i x hi=>layN_put a0 v i x (n+2) hi (λj k hj hk hjk=>xN hap hj hk hjk)
 have hfirst:∀(m:Nat) (listed:Array Bool),listed.size=ops.size->(∀i,i<m->listed.getD i false=true)->(∀i,m<=i->listed.getD i false=false)->listed=qG ops.size m:=by
  intro m listed h1 h2 h3;apply Array.ext (by simp[qG,h1]);intro i g1 g2;have h4:listed[i]=listed.getD i false:=by simp[g1]
  rw[h4];rcases jN i m with h|h
  ·rw[h2 i h];simp[qG,h]
  ·rw[h3 i h];simp[qG];omega
 intro fuel
 induction fuel with
 | zero=>
  intro listed v w hs hn hS hcnt hcl hR hZ hA;have h1:=doneN_lt (n:=n+2) (i:=n) zb hn;omega
 | succ fuel ih=>
  intro listed v w hs hn hS hcnt hcl hR hZ hA;have hout:∀j,n+3<=j->listed.getD j false=false:=λj hj=>by simp[Array.getElem?_eq_none (show listed.size<=j by omega)]
  have hne:Region.ready md ops listed≠ []:=by
   by_cases hall:∀i,i<n->listed.getD i false=true
   ·have:n∈Region.ready md ops listed:=xI (by simpa [show n<listed.size by omega]using hn) zb (λe he=>hall e (hnC2 e he));intro h;rw[h]at this;cases this
   ·have hex:∃i,i<n/\(!listed.getD i false)=true:=by
     rcases Classical.em (∃i,i<n/\(!listed.getD i false)=true)with h|h
     ·exact h
     ·exact absurd (λi hi=>by
       cases h':listed.getD i false
       ·exact absurd ⟨i,hi,by simp[h']⟩ h
       ·rfl) hall
    obtain⟨i,hi,h0,hmin⟩:=exists_least (λi=> !listed.getD i false) n hex
    have:i∈Region.ready md ops listed:=xI (by simpa [show i<listed.size by omega]using h0) zb (λe he=>by
     have:=hmin e (hnd i hi e he)
     simpa using this)
    intro h;rw[h]at this;cases this
  refine⟨λh=>absurd h hne,λi hi=>?_⟩;obtain⟨hun,o,ho,_⟩:=mem_ready.1 hi;have his:i<ops.size:=(Array.getElem?_eq_some_iff.1 ho).1;have hil:i<listed.size:=zb
  have hdst:o.dst=qR ops i:=by simp[qR,ho]
  have hups:∀j,(ups md ops i).contains j=true->listed.getD j false=true:=λj hj=>qN hcl i (qT md ops i) (qM hi) j (List.contains_iff_mem.1 hj)
  have hcl':∀j,(listed.setIfInBounds i true).getD j false=true->∀e∈qT md ops j,(listed.setIfInBounds i true).getD e false=true:=λj hj e he=>by
   by_cases hij:i=j
   ·subst hij;exact getD_set_true (qM hi e he)
   ·rw[getD_set_ne false hij]at hj;exact getD_set_true (hcl j hj e he)
  have hi2:i≠n+2:=λh=>by
   subst h;have:=hups n (hnS n zb);rw[hn]at this;cases this
  have hdn:=doneN_set _ _ hun (n+2);refine wpOp_step ho λK hK=>?_
  by_cases hin:i=n
  ·-- the call
   subst hin;have hall:∀j,j<i->listed.getD j false=true:=λj hj=>hups j (hnC j hj)
   refine hcall o ho v w hR (λj hj=>hZ j hj (hall j hj)) K (λx w' hRel hG=>hK _ _ ?_);rw[hdst,hput v i x (by omega)];rw[if_pos (by omega)]at hdn;cases hA1:listed.getD (i+1) false with
   | true=>
    have hl:listed.setIfInBounds i true=qG ops.size (i+2):=hfirst (i+2) _ (by simp[hs]) (λj hj=>by
     by_cases hij:i=j
     ·subst hij;simp[hil]
     ·rw[getD_set_ne false hij];rcases jN j i with h|h
      ·exact hall j h
      ·obtain rfl:j=i+1:=by omega
       exact hA1) (λj hj=>by
     rw[getD_set_ne false (by omega)];rcases jN j (i+3)with h|h
     ·obtain rfl:j=i+2:=by omega
      exact hS
     ·exact hout j h)
    have hfu:fuel=1:=by
     have:xA listed (i+2)=i+1:=by
      have h2:=doneN_all (listed:=listed.setIfInBounds i true) (i+2) (λj hj=>by
       by_cases hij:i=j
       ·subst hij;simp[hil]
       ·rw[getD_set_ne false hij];rcases jN j i with h|h
        ·exact hall j h
        ·obtain rfl:j=i+1:=by omega
         exact hA1)
      omega
     omega
    rw[hl,hfu];refine hend _ _ (by simpa only[jB,if_true]using hG) ?_;simp only[jB];rw[if_neg (by omega)];exact hRA _ _ _ hRel (hA hA1)
   | false=>
    have hl:listed.setIfInBounds i true=qG ops.size (i+1):=hfirst (i+1) _ (by simp[hs]) (λj hj=>by
     by_cases hij:i=j
     ·subst hij;simp[hil]
     ·rw[getD_set_ne false hij];exact hall j zb) (λj hj=>by
     rw[getD_set_ne false (by omega)];rcases jN j (i+3)with h|h
     ·rcases(show j=i+1\/j=i+2 by omega)with rfl|rfl
      ·exact hA1
      ·exact hS
     ·exact hout j h)
    have hfu:fuel=2:=by
     have h3:xA (listed.setIfInBounds i true) (i+2)=i+1:=by
      have h4:=doneN_all (listed:=listed.setIfInBounds i true) (i+1) (λj hj=>by
       by_cases hij:i=j
       ·subst hij;simp[hil]
       ·rw[getD_set_ne false hij];exact hall j zb)
      have h5:(listed.setIfInBounds i true).getD (i+1) false=false:=by rw[getD_set_ne false (by omega)];exact hA1
      unfold xA at h4 ⊢;rw[List.range_succ,List.countP_append,h4];simp only[List.countP_cons,List.countP_nil,h5];simp
     omega
    rw[hl,hfu];have hA0:i+1<(qG ops.size (i+1)).size:=by rw[<-hl];simp[hs];omega
    have hg:∀j,(qG ops.size (i+1)).getD j false=(listed.setIfInBounds i true).getD j false:=λj=>by rw[hl]
    have hr1:i+1∈Region.ready md ops (qG ops.size (i+1)):=xI (by
     have:=hg (i+1);rw[getD_set_ne false (by omega),hA1]at this
     simpa [hA0]using this) zb (λe he=>by rw[hnA]at he;cases he)
    refine⟨λh=>(by rw[h]at hr1;cases hr1),λk hk=>?_⟩;obtain⟨hun2,o2,ho2,_⟩:=mem_ready.1 hk;have hks:k<ops.size:=(Array.getElem?_eq_some_iff.1 ho2).1;have hkl:k<(qG ops.size (i+1)).size:=by rw[<-hl];simp[hs];omega
    have hkf:(qG ops.size (i+1)).getD k false=false:=by simp[hkl]at hun2 ⊢;exact hun2
    have hk1:k=i+1:=by
     rcases jN k (i+1)with h|h
     ·rw[hg]at hkf;by_cases hik:i=k
      ·subst hik;simp[hil]at hkf
      ·rw[getD_set_ne false hik,hall k (by omega)]at hkf;cases hkf
     ·rcases(show k=i+1\/k=i+2 by omega)with h1|h1
      ·exact h1
      ·subst h1;exfalso;have h6:=qN (listed:=qG ops.size (i+1)) (λj hj e he=>by rw[hg]at hj ⊢;exact hcl' j hj e he) (i+2) (qT md ops (i+2)) (qM hk) (i+1) (List.contains_iff_mem.1 (hnS (i+1) zb));rw[hg,getD_set_ne false (by omega),hA1]at h6;cases h6
    subst hk1;have hdst2:o2.dst=qR ops (i+1):=by simp[qR,ho2]
    refine wpOp_step ho2 λK2 hK2=>?_
    refine hal o2 ho2 _ w' (jK hR.size (hRs _ _ hRel)) K2 (λy w2 hE2 hy=>hK2 _ _ ?_);rw[hdst2,hput _ (i+1) y (by omega)]
    have hl2:(qG ops.size (i+1)).setIfInBounds (i+1) true=qG ops.size (i+2):=hfirst (i+2) _ (by rw[<-hl];simp[hs]) (λj hj=>by
     by_cases hij:i+1=j
     ·subst hij;simp[hA0]
     ·rw[getD_set_ne false hij,hg];by_cases hij2:i=j
      ·subst hij2;simp[hil]
      ·rw[getD_set_ne false hij2];exact hall j zb) (λj hj=>by
     rw[getD_set_ne false (by omega),hg,getD_set_ne false (by omega)];rcases jN j (i+3)with h|h
     ·obtain rfl:j=i+2:=by omega
      exact hS
     ·exact hout j h)
    rw[hl2];refine hend _ _ ?_ (by simpa only[jB,if_true]using hy);simp only[jB];rw[if_neg (by omega)];exact hstP _ _ _ hE2 (by simpa only[jB,if_true]using hG)
  ·have hnext:∀x w',Ext w w'->L i x w'->K ((qY ops v a0 (n+2)).put o.dst x) w':=λx w' hE hx=>hK _ _ (by
    rw[hdst,hput v i x (by omega)];rw[if_pos (show i<n+2 by omega)]at hdn;refine ih _ _ _ (by simp[hs]) (by rw[getD_set_ne false hin];exact hn) (by rw[getD_set_ne false hi2];exact hS) zb hcl' (hR.trans hE) (λj hj hlj=>?_) (λhlj=>?_)
    ·by_cases hij:j=i
     ·subst hij;simpa only[jB,if_true]using hx
     ·rw[getD_set_ne false (Ne.symm hij)]at hlj;simp only[jB];rw[if_neg hij];exact hst j hj _ _ _ hE (hZ j hj hlj)
    ·by_cases hij:n+1=i
     ·rw[<-hij]at hx;simpa only[jB,<-hij,if_true]using hx
     ·rw[getD_set_ne false (Ne.symm hij)]at hlj;simp only[jB];rw[if_neg hij]
      exact hstA _ _ _ hE (hA hlj))
   rcases(show i<n\/i=n+1 by omega)with hin'|hin'
   ·refine hop i hin' o ho v w hR (λj hj=>?_) K hnext;have hjl:=hups j hj;rcases jN j n with h|h
    ·exact hZ j h hjl
    ·rcases(show j=n\/j=n+1\/j=n+2\/n+3<=j by omega)with rfl|rfl|rfl|h1
     ·rw[hn]at hjl;cases hjl
     ·exact hA hjl
     ·rw[hS]at hjl;cases hjl
     ·rw[hout j h1]at hjl;cases hjl
   ·subst hin';exact hal o ho v w hR.size K hnext
theorem rgC(n:Nat)(ds:List (Option Tmp))(L:List (Value->World->Prop))(Rel:World->World->Prop)(fS:Value->World->Prop){a0:Act}{w0:World}{id:Nat}{oc oa:Oper}
  (hop:RgAll P .any ops Q ds a0 w0 L [] 0 n ops.toList)
  (hcall:∀(v:Nat->Value) (w:World),Ext w0 w->(∀j,j<n->L.getD j (λ_ _=>True) (v j) w)->∀K:Act->World->Prop,Shut (∀x w',Rel w w'->fS x w'->K ((qZ v a0 0 ds).put oc.dst x) w')->Oper.wp P oc (qZ v a0 0 ds) w K Q)
  (hal:∀w,w0.heap.size<=w.heap.size->Ok P ops Q ds a0 w L [] (n+1) oa)
  (hend:∀v w,fS (v n) w->L.getD (n+1) (λ_ _=>True) (v (n+1)) w->wpAny P .any ops Q 1 (qG ops.size (n+2)) (qZ v a0 0 ds) w)
  (hstP:Stb fS) (hRA:∀x w w',Rel w w'->L.getD (n+1) (λ_ _=>True) x w->L.getD (n+1) (λ_ _=>True) x w') (hRs:∀w w',Rel w w'->w.heap.size<=w'.heap.size)
  (hst:AllStb L)
  (hoc:ops[n]? =some oc:=by rfl) (hoa:ops[n+1]? =some oa:=by rfl) (hgc:oc.guard=none:=by rfl) (hga:oa.guard=none:=by rfl)
  (hm:P.follows .mixedOrders=true:=by kernel_rfl) (hsz:ops.size=n+3:=by kernel_rfl) (hds:(List.range (n+2)).map (qR ops)=ds:=by kernel_rfl) (hap:qO ops (n+2)=true:=by kernel_rfl)
  (hnd:(List.range n).all (λi=>(qT .any ops i).all λe=>decide (e<i))=true:=by kernel_rfl) (hnA:qT .any ops (n+1)= []:=by kernel_rfl)
  (hnC:(List.range n).all (λi=>(ups .any ops n).contains i)=true:=by kernel_rfl) (hnC2:(qT .any ops n).all (λe=>decide (e<n))=true:=by kernel_rfl) (hnS:(List.range (n+2)).all (λi=>(ups .any ops (n+2)).contains i)=true:=by kernel_rfl):
  (Code.region id ops true).wp P Q a0 w0:=by
 simp only[List.all_eq_true,List.mem_range,jQ]at hnd hnC hnC2 hnS;refine wp_region_any hm ?_;have hlay:∀v,qY ops v a0 (n+2)=qZ v a0 0 ds:=λv=>xB v a0 (n+2) ds hds
 have hD:∀m,xA (Array.replicate ops.size false) m=0:=λm=>by
  unfold xA;rw[List.countP_eq_zero.2];intro i _;simp[qH]
 have hLF:∀i,(Array.replicate ops.size false).getD i false=false:=λi=>by simpa using qH ops.size i
 have:=rgC_main (P:=P) (md:=.any) (ops:=ops) (Q:=Q) n (λi=>L.getD i (λ_ _=>True)) Rel fS (a0:=a0) (w0:=w0) hsz hap hnd hnA hnC hnC2 hnS (λi _=>hst.get i) (hst.get _) hstP hRA
  (fun i hi o ho v w hE hd K hK=>by
   have h1:=RgAll.get n 0 ops.toList hop i hi o jt;rw[Nat.zero_add]at h1;rw[hlay]
   exact h1 v w hE hd K (λx w' hE' hx _=>by have:=hK x w' hE' hx;rwa [hlay]at this))
  (fun o ho v w hw K hK=>by
   rw[hoa]at ho;obtain rfl:=Option.some.inj ho;rw[hlay,if_pos (by simp[Region.wanted,hga])]
   exact(hal w hw).out v _ w (Ext.refl w) (λj hj=>by
    have:qT .any ops (n+1)= []:=hnA
    have h2:ups .any ops (n+1)= []:=by
     unfold ups;rw[this]
     have:∀k,sweep .any ops k []= []:=λk=>by
      induction k with
      |zero=>rfl
      |succ k ih=>unfold sweep;simpa using ih
     exact this _
    rw[h2]at hj;cases hj) (Fr.of ds a0 v) K (λx w' hE' hx _=>by have:=hK x w' hE' hx;rwa [hlay]at this))
  hRs
  (fun o ho v w hE hd K hK=>by
   rw[hoc]at ho;obtain rfl:=Option.some.inj ho;rw[hlay,if_pos (by simp[Region.wanted,hgc])]
   exact hcall v w hE hd K (λx w' hR hx=>by have:=hK x w' hR hx;rwa [hlay]at this))
  (λv w h1 h2=>by rw[hlay];exact hend v w h1 h2)
  (n+3) (Array.replicate ops.size false) (xS ops a0) w0.drew zd (hLF _) (hLF _) (by rw[hD]) (λi hi=>by rw[hLF]at hi;cases hi) (Ext.refl w0).drew (λi _ hi=>by rw[hLF]at hi;cases hi) (λhi=>by rw[hLF]at hi;cases hi)
 have hself:qY ops (xS ops a0) a0 (n+2)=a0:=layN_self a0 (n+2);rw[hself]at this;rw[hsz]at this ⊢;exact this
end
def IsNb(B:Nat)(vs:List Value):Value->World->Prop:=λx w=>∃g,x=.pointer (some ⟨g,0,none⟩)/\B<=g/\Bk w g vs
theorem IsNb.stb(B:Nat)(vs:List Value):Stb (IsNb B vs):=λ_ _ _ e ⟨g,h1,h2,h3⟩=>⟨g,h1,h2,h3.ext e⟩
instance (B:Nat) (vs:List Value):StbC (IsNb B vs):=⟨IsNb.stb B vs⟩
section
variable {P:Program} {ops:Array Oper} {Q:Exit->Act->World->Prop} {ds:List (Option Tmp)} {a0:Act} {w0:World} {L:List (Value->World->Prop)} {boxes:List Nat} {i k:Nat} {o:Oper} {os:List Oper}
theorem alB{T:Nat}{B:Nat}{vs:List Value}(hr:∀w,(Instr.alloc T true (.tuple #[])).run P w=.ok (.pointer (some ⟨w.heap.size,0,none⟩)) (w.alloc (.cells vs.toArray T)))(hB:B<=w0.heap.size)(ho:o.op=.alloc T:=by rfl)(hi:L.getD i (λ_ _=>True)=IsNb B vs:=by kernel_rfl)(hb:boxes.contains i=false:=by kernel_rfl):Ok P ops Q ds a0 w0 L boxes i o:=
 ⟨fun v a w hE hd hf K hK=>by
  have hrun:(execOp a.eval o).run P w=.ok (.value (.pointer (some ⟨w.heap.size,0,none⟩))) (w.alloc (.cells vs.toArray T)):=by
   unfold execOp;rw[ho];dsimp only;simp[hr w]
  unfold Oper.wp;rw[hrun]
  exact hK.out _ _ ((Ext.refl w).alloc _) (by rw[hi];exact⟨_,rfl,jK hB hE.size,Bk.new w vs.toArray T⟩) (FreshIf.no hb)⟩
end
theorem al_Kn(w:World):(Instr.alloc 176 true (.tuple #[])).run Tryz.prog w=.ok (.pointer (some ⟨w.heap.size,0,none⟩)) (w.alloc (.cells [.bool false,.slice none 0 0,.bool false,.slice none 0 0,.bool false].toArray 176)):=by go_simp
end
end Go.Proofs.YtkeikfekkdplgaaGreatDoor
