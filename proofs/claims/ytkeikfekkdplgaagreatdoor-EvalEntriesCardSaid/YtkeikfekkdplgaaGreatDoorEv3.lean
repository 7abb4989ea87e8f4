/- Lemmas. -/
import Derived.Test.YtkeikfekkdplgaaGreatDoorRDivMod
import Derived.ArgAppend
import Derived.Test.YtkeikfekkdplgaaGreatDoorReadB
import Derived.Test.YtkeikfekkdplgaaGreatDoorFact
namespace Go.Proofs.YtkeikfekkdplgaaGreatDoor
section
open Go Go.RowKit
open Go.Proofs.Tryz
theorem zbj{P:Prop}(h:P:=by exact cl2 (en func150) (qA (fP:=IsI k l1) 1 21) (qA (fP:=IsI k u2) 3 23) (λx0 x1 w' hE d0 d1=>jJ (Cmp_f d0 d1 zc zc) λ_ _ h=>h.int HC3.out)):P:=h
theorem zbk{P:Prop}(h:P:=by exact cl2 (en func150) (qA (fP:=IsI k u1) 1 7) (qA (fP:=IsI k l2) 3 9) (λx0 x1 w' hE d0 d1=>jJ (Cmp_f d0 d1 zc zc) λ_ _ h=>h.int HC1.out)):P:=h
theorem zbx{P:Prop}(h:P:=by exact cl2 (en func140) (qA (fP:=IsI k u1) 6 11) (qA (fP:=IsI k u2) 8 13) (λx0 x1 w' hE d0 d1=>jJ (Add_f d0 d1 zc zc) λ_ _ h=>h.iup (k:=max k k+1) (k':=k+1) HV.out (by omega))):P:=h
theorem zby{P:Prop}(h:P:=by exact cl2 (en func142) (qA (fP:=IsI k u1) 6 11) (qA (fP:=IsI k l2) 8 13) (λx0 x1 w' hE d0 d1=>jJ (Sub_f d0 d1 zc zc) λ_ _ h=>h.iup (k:=max k k+1) (k':=k+1) HV.out (by omega))):P:=h
theorem zbz{P:Prop}(h:P:=by exact cl2 (en func140) (qA (fP:=IsI k l1) 1 6) (qA (fP:=IsI k l2) 3 8) (λx0 x1 w' hE d0 d1=>jJ (Add_f d0 d1 zc zc) λ_ _ h=>h.iup (k:=max k k+1) (k':=k+1) HU.out (by omega))):P:=h
theorem zb0{P:Prop}(h:P:=by exact cl2 (en func142) (qA (fP:=IsI k l1) 1 6) (qA (fP:=IsI k u2) 3 8) (λx0 x1 w' hE d0 d1=>jJ (Sub_f d0 d1 zc zc) λ_ _ h=>h.iup (k:=max k k+1) (k':=k+1) HU.out (by omega))):P:=h
theorem zb1{P:Prop}(h:P:=by exact cl2 (en func150) (qA (fP:=IsI k l2) 8 28) (qA (fP:=IsI k u1) 10 30) (λx0 x1 w' hE d0 d1=>jJ (Cmp_f d0 d1 zc zc) λ_ _ h=>h.int HC4.out)):P:=h
theorem zb2{P:Prop}(h:P:=by exact cl2 (en func150) (qA (fP:=IsI k u2) 8 14) (qA (fP:=IsI k l1) 10 16) (λx0 x1 w' hE d0 d1=>jJ (Cmp_f d0 d1 zc zc) λ_ _ h=>h.int HC2.out)):P:=h
theorem zb4{P:Prop}(h:P:=by exact cl1 (en func139) (qA (fP:=IsKn (k+1) u v false) 10 15) (λx0 w' hE d0=>short_y d0 (hid zc) H1 H2 HR HB)):P:=h
theorem zj{P:Prop}(h:P:=by exact fa (qR (w.heap.size+1) 0) (qB 3)):P:=h
theorem zk{P:Prop}(h:P:=by exact fa (qQ (w.heap.size+1) 0) (qB 3)):P:=h
theorem zp{P:Prop}(h:P:=by exact fa (qR w.heap.size 0) (qB 2)):P:=h
theorem zq{P:Prop}(h:P:=by exact fa (qQ w.heap.size 0) (qB 2)):P:=h
theorem yk{P:Prop}(h:P:=by simp[results,results151,go_sem,d0,d1,d2,d3,d4]):P:=h
theorem yz{P:Prop}(h:P:=by exact bkn (qC 4 9) (qC 9 14) bd_Kn):P:=h
theorem xo{P:Prop}(h:P:=by exact lvI 2 B1 h2 qF (qA 5 10)):P:=h
theorem xx{P:Prop}(h:P:=by exact lvI 0 B1 h1 qF (qA 0 5)):P:=h
theorem zaw{P:Prop}(h:P:=by exact lvI 0 B2 h3 qF (qA 2 7)):P:=h
set_option maxRecDepth 100000
set_option maxHeartbeats 8000000
theorem Ret.iup{w:World}{k k':Nat}{z z':Int}{e:Ending}{w':World}(h:Ret w (IsI k z) e w')(hz:z=z')(hk:k<=k'):Ret w (IsI k' z') e w':=let ⟨x,h1,h2,h3⟩:=h;⟨x,h1,h2,hz▸h3.mono hk⟩
theorem opA_y{k:Nat}{l1 u1 l2 u2 u v m1 m2 r:Int}{f1 f2:Bool}{x y:Value}{w:World}(hx:IsKn k l1 u1 f1 x w)(hy:IsKn k l2 u2 f2 y w)(HK:Hid (k<=1000))(HU:Hid (l1+l2=u))(HV:Hid (u1+u2=v))(H1:Hid (((bitLen u.natAbs:Nat):Int)=m1))(H2:Hid (((bitLen v.natAbs:Nat):Int)=m2))(HR:Hid ((if m2 >m1 then m2 else m1)=r))(HB:Hid (¬r >4096)):Calls prog 138 #[x,y] w (Ret w (IsKn (k+1) u v false)):=by
 obtain⟨s1,a1,n1,c1,s2,a2,n2,c2,rfl,h1,h2⟩:=hx;obtain⟨s3,a3,n3,c3,s4,a4,n4,c4,rfl,h3,h4⟩:=hy
 obtain⟨W,hW,E,B1,B2,B3⟩:∃W,W=((w.alloc (.cells #[.bool s1,.slice a1 n1 c1,.bool s2,.slice a2 n2 c2,.bool f1] 176)).alloc (.cells #[.bool s3,.slice a3 n3 c3,.bool s4,.slice a4 n4 c4,.bool f2] 176)).alloc (.cells #[.bool false,.slice none 0 0,.bool false,.slice none 0 0,.bool false] 176)/\Ext w W/\Bk W w.heap.size [.bool s1,.slice a1 n1 c1,.bool s2,.slice a2 n2 c2,.bool f1]/\Bk W (w.heap.size+1) [.bool s3,.slice a3 n3 c3,.bool s4,.slice a4 n4 c4,.bool f2]/\Bk W (w.heap.size+2) [.bool false,.slice none 0 0,.bool false,.slice none 0 0,.bool false]:=
  ⟨_,rfl,(((Ext.refl w).alloc _).alloc _).alloc _,(Bk.new w _ _).ext (((Ext.refl _).alloc _).alloc _),(Bk.newE _ _ (by simp) _ _).ext ((Ext.refl _).alloc _),Bk.newE _ _ (by simp) _ _⟩
 replace h1:=h1.ext E;replace h2:=h2.ext E;replace h3:=h3.ext E;replace h4:=h4.ext E;go_enter func138,ntmps138;go_upto_region 1 with fail;rw[<-hW];clear hW;refine rg 12 (dR 5 12) [IsP (w.heap.size) 0,IsI k l1,IsP (w.heap.size+1) 0,IsI k l2,IsI (k+1) u,IsP (w.heap.size) 2,IsI k u1,IsP (w.heap.size+1) 2,IsI k u2,IsI (k+1) v,IsKn (k+1) u v false,IsKn (k+1) u v false] [] 1 ?_ ?_
 ·refine Rc zp ?_;refine Rc xx ?_;refine Rc zj ?_;refine Rc zaw ?_;refine Rc zbz ?_;refine Rc zq ?_;refine Rc xo ?_;refine Rc zk ?_;refine Rc (lvI 2 B2 h4 qF (qA 7 12)) ?_;refine Rc zbx ?_;refine Rc yz ?_;refine Rc zb4 ?_;exact rn0
 intro v W1 e1 hZ _;replace E:=E.trans e1;replace B3:=B3.ext e1;obtain⟨s5,a5,n5,c5,s6,a6,n6,c6,hv,g1,g2⟩:=hZ 11 dcx;simp only[lxE,Nat.reduceAdd];rw[hv];clear hv hZ e1 B1 B2 h1 h2 h3 h4;refine stA 12 (h:=λK hK=>?_);refine stV (us:= [.bool s5,.slice a5 n5 c5,.bool s6,.slice a6 n6 c6,.bool false]) B3 xP rfl rfl nw5 E (by omega) (λW1a B4 E2 G2 _ _=>hK _ _ ?_);refine jR za ?_ _;have d0:=B4.c 0 _ rfl;have d1:=B4.c 1 _ rfl;have d2:=B4.c 2 _ rfl;have d3:=B4.c 3 _ rfl;have d4:=B4.c 4 _ rfl;go_wp2_with fail;exact jK (v:=.agg #[.bool s5,.slice a5 n5 c5,.bool s6,.slice a6 n6 c6,.bool false]) (by simp[results,results138,go_sem,d0,d1,d2,d3,d4]) rfl ⟨_,rfl,E2,_,_,_,_,_,_,_,_,rfl,IsI.gstb _ _ _ _ _ G2 g1,IsI.gstb _ _ _ _ _ G2 g2⟩
theorem opA_n{k:Nat}{l1 u1 l2 u2 u v m1 m2 r:Int}{f1 f2:Bool}{x y:Value}{w:World}(hx:IsKn k l1 u1 f1 x w)(hy:IsKn k l2 u2 f2 y w)(HK:Hid (k<=1000))(HU:Hid (l1+l2=u))(HV:Hid (u1+u2=v))(H1:Hid (((bitLen u.natAbs:Nat):Int)=m1))(H2:Hid (((bitLen v.natAbs:Nat):Int)=m2))(HR:Hid ((if m2 >m1 then m2 else m1)=r))(HB:Hid (r >4096)):Calls prog 138 #[x,y] w (λe w'=>e=.panicked (pan 2)/\Ext w w'):=by
 obtain⟨s1,a1,n1,c1,s2,a2,n2,c2,rfl,h1,h2⟩:=hx;obtain⟨s3,a3,n3,c3,s4,a4,n4,c4,rfl,h3,h4⟩:=hy
 obtain⟨W,hW,E,B1,B2,B3⟩:∃W,W=((w.alloc (.cells #[.bool s1,.slice a1 n1 c1,.bool s2,.slice a2 n2 c2,.bool f1] 176)).alloc (.cells #[.bool s3,.slice a3 n3 c3,.bool s4,.slice a4 n4 c4,.bool f2] 176)).alloc (.cells #[.bool false,.slice none 0 0,.bool false,.slice none 0 0,.bool false] 176)/\Ext w W/\Bk W w.heap.size [.bool s1,.slice a1 n1 c1,.bool s2,.slice a2 n2 c2,.bool f1]/\Bk W (w.heap.size+1) [.bool s3,.slice a3 n3 c3,.bool s4,.slice a4 n4 c4,.bool f2]/\Bk W (w.heap.size+2) [.bool false,.slice none 0 0,.bool false,.slice none 0 0,.bool false]:=
  ⟨_,rfl,(((Ext.refl w).alloc _).alloc _).alloc _,(Bk.new w _ _).ext (((Ext.refl _).alloc _).alloc _),(Bk.newE _ _ (by simp) _ _).ext ((Ext.refl _).alloc _),Bk.newE _ _ (by simp) _ _⟩
 replace h1:=h1.ext E;replace h2:=h2.ext E;replace h3:=h3.ext E;replace h4:=h4.ext E;go_enter func138,ntmps138;go_upto_region 1 with fail;rw[<-hW];clear hW;refine rg 12 (dR 5 12) [IsP (w.heap.size) 0,IsI k l1,IsP (w.heap.size+1) 0,IsI k l2,IsI (k+1) u,IsP (w.heap.size) 2,IsI k u1,IsP (w.heap.size+1) 2,IsI k u2,IsI (k+1) v,IsKn (k+1) u v false,λ_ _=>False] [] 1 ?_ ?_ (hst:=by repeat' (first|exact trivial|exact(λ_ _ _ _ h=>h)|exact IsV.stb _|exact IsKn.stb _ _ _ _|exact IsI.stb _ _|apply jO))
 ·refine Rc zp ?_;refine Rc xx ?_;refine Rc zj ?_;refine Rc zaw ?_;refine Rc zbz ?_;refine Rc zq ?_;refine Rc xo ?_;refine Rc zk ?_;refine Rc (lvI 2 B2 h4 qF (qA 7 12)) ?_;refine Rc zbx ?_;refine Rc yz ?_;refine RcP (en func139) (qA (fP:=IsKn (k+1) u v false) 10 15) (λx0 w' hE d0=>jJ (short_n d0 (hid zc) H1 H2 HR HB) λ_ _ h=>⟨_,h.1,λ_ hd=>⟨hd,rfl,(E.trans hE).trans h.2⟩⟩) ?_;exact rn0
 intro v W1 e1 hZ _;exact(hZ 11 dcx:False).elim
theorem opS_y{k:Nat}{l1 u1 l2 u2 u v m1 m2 r:Int}{f1 f2:Bool}{x y:Value}{w:World}(hx:IsKn k l1 u1 f1 x w)(hy:IsKn k l2 u2 f2 y w)(HK:Hid (k<=1000))(HU:Hid (l1-u2=u))(HV:Hid (u1-l2=v))(H1:Hid (((bitLen u.natAbs:Nat):Int)=m1))(H2:Hid (((bitLen v.natAbs:Nat):Int)=m2))(HR:Hid ((if m2 >m1 then m2 else m1)=r))(HB:Hid (¬r >4096)):Calls prog 141 #[x,y] w (Ret w (IsKn (k+1) u v false)):=by
 obtain⟨s1,a1,n1,c1,s2,a2,n2,c2,rfl,h1,h2⟩:=hx;obtain⟨s3,a3,n3,c3,s4,a4,n4,c4,rfl,h3,h4⟩:=hy
 obtain⟨W,hW,E,B1,B2,B3⟩:∃W,W=((w.alloc (.cells #[.bool s1,.slice a1 n1 c1,.bool s2,.slice a2 n2 c2,.bool f1] 176)).alloc (.cells #[.bool s3,.slice a3 n3 c3,.bool s4,.slice a4 n4 c4,.bool f2] 176)).alloc (.cells #[.bool false,.slice none 0 0,.bool false,.slice none 0 0,.bool false] 176)/\Ext w W/\Bk W w.heap.size [.bool s1,.slice a1 n1 c1,.bool s2,.slice a2 n2 c2,.bool f1]/\Bk W (w.heap.size+1) [.bool s3,.slice a3 n3 c3,.bool s4,.slice a4 n4 c4,.bool f2]/\Bk W (w.heap.size+2) [.bool false,.slice none 0 0,.bool false,.slice none 0 0,.bool false]:=
  ⟨_,rfl,(((Ext.refl w).alloc _).alloc _).alloc _,(Bk.new w _ _).ext (((Ext.refl _).alloc _).alloc _),(Bk.newE _ _ (by simp) _ _).ext ((Ext.refl _).alloc _),Bk.newE _ _ (by simp) _ _⟩
 replace h1:=h1.ext E;replace h2:=h2.ext E;replace h3:=h3.ext E;replace h4:=h4.ext E;go_enter func141,ntmps141;go_upto_region 1 with fail;rw[<-hW];clear hW;refine rg 12 (dR 5 12) [IsP (w.heap.size) 0,IsI k l1,IsP (w.heap.size+1) 2,IsI k u2,IsI (k+1) u,IsP (w.heap.size) 2,IsI k u1,IsP (w.heap.size+1) 0,IsI k l2,IsI (k+1) v,IsKn (k+1) u v false,IsKn (k+1) u v false] [] 1 ?_ ?_
 ·refine Rc zp ?_;refine Rc xx ?_;refine Rc zk ?_;refine Rc (lvI 2 B2 h4 qF (qA 2 7)) ?_;refine Rc zb0 ?_;refine Rc zq ?_;refine Rc xo ?_;refine Rc zj ?_;refine Rc (lvI 0 B2 h3 qF (qA 7 12)) ?_;refine Rc zby ?_;refine Rc yz ?_;refine Rc zb4 ?_;exact rn0
 intro v W1 e1 hZ _;replace E:=E.trans e1;replace B3:=B3.ext e1;obtain⟨s5,a5,n5,c5,s6,a6,n6,c6,hv,g1,g2⟩:=hZ 11 dcx;simp only[lxE,Nat.reduceAdd];rw[hv];clear hv hZ e1 B1 B2 h1 h2 h3 h4;refine stA 12 (h:=λK hK=>?_);refine stV (us:= [.bool s5,.slice a5 n5 c5,.bool s6,.slice a6 n6 c6,.bool false]) B3 xP rfl rfl nw5 E (by omega) (λW1a B4 E2 G2 _ _=>hK _ _ ?_);refine jR za ?_ _;have d0:=B4.c 0 _ rfl;have d1:=B4.c 1 _ rfl;have d2:=B4.c 2 _ rfl;have d3:=B4.c 3 _ rfl;have d4:=B4.c 4 _ rfl;go_wp2_with fail;exact jK (v:=.agg #[.bool s5,.slice a5 n5 c5,.bool s6,.slice a6 n6 c6,.bool false]) (by simp[results,results141,go_sem,d0,d1,d2,d3,d4]) rfl ⟨_,rfl,E2,_,_,_,_,_,_,_,_,rfl,IsI.gstb _ _ _ _ _ G2 g1,IsI.gstb _ _ _ _ _ G2 g2⟩
theorem opS_n{k:Nat}{l1 u1 l2 u2 u v m1 m2 r:Int}{f1 f2:Bool}{x y:Value}{w:World}(hx:IsKn k l1 u1 f1 x w)(hy:IsKn k l2 u2 f2 y w)(HK:Hid (k<=1000))(HU:Hid (l1-u2=u))(HV:Hid (u1-l2=v))(H1:Hid (((bitLen u.natAbs:Nat):Int)=m1))(H2:Hid (((bitLen v.natAbs:Nat):Int)=m2))(HR:Hid ((if m2 >m1 then m2 else m1)=r))(HB:Hid (r >4096)):Calls prog 141 #[x,y] w (λe w'=>e=.panicked (pan 2)/\Ext w w'):=by
 obtain⟨s1,a1,n1,c1,s2,a2,n2,c2,rfl,h1,h2⟩:=hx;obtain⟨s3,a3,n3,c3,s4,a4,n4,c4,rfl,h3,h4⟩:=hy
 obtain⟨W,hW,E,B1,B2,B3⟩:∃W,W=((w.alloc (.cells #[.bool s1,.slice a1 n1 c1,.bool s2,.slice a2 n2 c2,.bool f1] 176)).alloc (.cells #[.bool s3,.slice a3 n3 c3,.bool s4,.slice a4 n4 c4,.bool f2] 176)).alloc (.cells #[.bool false,.slice none 0 0,.bool false,.slice none 0 0,.bool false] 176)/\Ext w W/\Bk W w.heap.size [.bool s1,.slice a1 n1 c1,.bool s2,.slice a2 n2 c2,.bool f1]/\Bk W (w.heap.size+1) [.bool s3,.slice a3 n3 c3,.bool s4,.slice a4 n4 c4,.bool f2]/\Bk W (w.heap.size+2) [.bool false,.slice none 0 0,.bool false,.slice none 0 0,.bool false]:=
  ⟨_,rfl,(((Ext.refl w).alloc _).alloc _).alloc _,(Bk.new w _ _).ext (((Ext.refl _).alloc _).alloc _),(Bk.newE _ _ (by simp) _ _).ext ((Ext.refl _).alloc _),Bk.newE _ _ (by simp) _ _⟩
 replace h1:=h1.ext E;replace h2:=h2.ext E;replace h3:=h3.ext E;replace h4:=h4.ext E;go_enter func141,ntmps141;go_upto_region 1 with fail;rw[<-hW];clear hW;refine rg 12 (dR 5 12) [IsP (w.heap.size) 0,IsI k l1,IsP (w.heap.size+1) 2,IsI k u2,IsI (k+1) u,IsP (w.heap.size) 2,IsI k u1,IsP (w.heap.size+1) 0,IsI k l2,IsI (k+1) v,IsKn (k+1) u v false,λ_ _=>False] [] 1 ?_ ?_ (hst:=by repeat' (first|exact trivial|exact(λ_ _ _ _ h=>h)|exact IsV.stb _|exact IsKn.stb _ _ _ _|exact IsI.stb _ _|apply jO))
 ·refine Rc zp ?_;refine Rc xx ?_;refine Rc zk ?_;refine Rc (lvI 2 B2 h4 qF (qA 2 7)) ?_;refine Rc zb0 ?_;refine Rc zq ?_;refine Rc xo ?_;refine Rc zj ?_;refine Rc (lvI 0 B2 h3 qF (qA 7 12)) ?_;refine Rc zby ?_;refine Rc yz ?_;refine RcP (en func139) (qA (fP:=IsKn (k+1) u v false) 10 15) (λx0 w' hE d0=>jJ (short_n d0 (hid zc) H1 H2 HR HB) λ_ _ h=>⟨_,h.1,λ_ hd=>⟨hd,rfl,(E.trans hE).trans h.2⟩⟩) ?_;exact rn0
 intro v W1 e1 hZ _;exact(hZ 11 dcx:False).elim
theorem opL_f{k:Nat}{l1 u1 l2 u2:Int}{f1 f2:Bool}{x y:Value}{w:World}(hx:IsKn k l1 u1 f1 x w)(hy:IsKn k l2 u2 f2 y w)(HK:Hid (k<=1000)):Calls prog 146 #[x,y] w (Ret w (IsKn k (min l1 l2) (min u1 u2) false)):=by
 obtain⟨s1,a1,n1,c1,s2,a2,n2,c2,rfl,h1,h2⟩:=hx;obtain⟨s3,a3,n3,c3,s4,a4,n4,c4,rfl,h3,h4⟩:=hy
 obtain⟨W,hW,E,B1,B2,B3⟩:∃W,W=((w.alloc (.cells #[.bool s1,.slice a1 n1 c1,.bool s2,.slice a2 n2 c2,.bool f1] 176)).alloc (.cells #[.bool s3,.slice a3 n3 c3,.bool s4,.slice a4 n4 c4,.bool f2] 176)).alloc (.cells #[.bool false,.slice none 0 0,.bool false,.slice none 0 0,.bool false] 176)/\Ext w W/\Bk W w.heap.size [.bool s1,.slice a1 n1 c1,.bool s2,.slice a2 n2 c2,.bool f1]/\Bk W (w.heap.size+1) [.bool s3,.slice a3 n3 c3,.bool s4,.slice a4 n4 c4,.bool f2]/\Bk W (w.heap.size+2) [.bool false,.slice none 0 0,.bool false,.slice none 0 0,.bool false]:=
  ⟨_,rfl,(((Ext.refl w).alloc _).alloc _).alloc _,(Bk.new w _ _).ext (((Ext.refl _).alloc _).alloc _),(Bk.newE _ _ (by simp) _ _).ext ((Ext.refl _).alloc _),Bk.newE _ _ (by simp) _ _⟩
 replace h1:=h1.ext E;replace h2:=h2.ext E;replace h3:=h3.ext E;replace h4:=h4.ext E;go_enter func146,ntmps146;go_upto_region 1 with fail;rw[<-hW];clear hW;refine rg 11 (dR 5 11) [IsP (w.heap.size) 0,IsI k l1,IsP (w.heap.size+1) 0,IsI k l2,IsI k (min l1 l2),IsP (w.heap.size) 2,IsI k u1,IsP (w.heap.size+1) 2,IsI k u2,IsI k (min u1 u2),IsKn k (min l1 l2) (min u1 u2) false] [] 1 ?_ ?_
 ·refine Rc zp ?_;refine Rc xx ?_;refine Rc zj ?_;refine Rc zaw ?_;refine Rc (cl2 (en func144) (qA (fP:=IsI k l1) 1 6) (qA (fP:=IsI k l2) 3 8) (λx0 x1 w' hE d0 d1=>lessv_f d0 d1 zc)) ?_;refine Rc zq ?_;refine Rc xo ?_;refine Rc zk ?_;refine Rc (lvI 2 B2 h4 qF (qA 7 12)) ?_;refine Rc (cl2 (en func144) (qA (fP:=IsI k u1) 6 11) (qA (fP:=IsI k u2) 8 13) (λx0 x1 w' hE d0 d1=>lessv_f d0 d1 zc)) ?_;refine Rc yz ?_;exact rn0
 intro v W1 e1 hZ _;replace E:=E.trans e1;replace B3:=B3.ext e1;obtain⟨s5,a5,n5,c5,s6,a6,n6,c6,hv,g1,g2⟩:=hZ 10 dcx;simp only[lxE,Nat.reduceAdd];rw[hv];clear hv hZ e1 B1 B2 h1 h2 h3 h4;refine stA 11 (h:=λK hK=>?_);refine stV (us:= [.bool s5,.slice a5 n5 c5,.bool s6,.slice a6 n6 c6,.bool false]) B3 xP rfl rfl nw5 E (by omega) (λW1a B4 E2 G2 _ _=>hK _ _ ?_);refine jR za ?_ _;have d0:=B4.c 0 _ rfl;have d1:=B4.c 1 _ rfl;have d2:=B4.c 2 _ rfl;have d3:=B4.c 3 _ rfl;have d4:=B4.c 4 _ rfl;go_wp2_with fail;exact jK (v:=.agg #[.bool s5,.slice a5 n5 c5,.bool s6,.slice a6 n6 c6,.bool false]) (by simp[results,results146,go_sem,d0,d1,d2,d3,d4]) rfl ⟨_,rfl,E2,_,_,_,_,_,_,_,_,rfl,IsI.gstb _ _ _ _ _ G2 g1,IsI.gstb _ _ _ _ _ G2 g2⟩
theorem opG_f{k:Nat}{l1 u1 l2 u2:Int}{f1 f2:Bool}{x y:Value}{w:World}(hx:IsKn k l1 u1 f1 x w)(hy:IsKn k l2 u2 f2 y w)(HK:Hid (k<=1000)):Calls prog 147 #[x,y] w (Ret w (IsKn k (max l1 l2) (max u1 u2) false)):=by
 obtain⟨s1,a1,n1,c1,s2,a2,n2,c2,rfl,h1,h2⟩:=hx;obtain⟨s3,a3,n3,c3,s4,a4,n4,c4,rfl,h3,h4⟩:=hy
 obtain⟨W,hW,E,B1,B2,B3⟩:∃W,W=((w.alloc (.cells #[.bool s1,.slice a1 n1 c1,.bool s2,.slice a2 n2 c2,.bool f1] 176)).alloc (.cells #[.bool s3,.slice a3 n3 c3,.bool s4,.slice a4 n4 c4,.bool f2] 176)).alloc (.cells #[.bool false,.slice none 0 0,.bool false,.slice none 0 0,.bool false] 176)/\Ext w W/\Bk W w.heap.size [.bool s1,.slice a1 n1 c1,.bool s2,.slice a2 n2 c2,.bool f1]/\Bk W (w.heap.size+1) [.bool s3,.slice a3 n3 c3,.bool s4,.slice a4 n4 c4,.bool f2]/\Bk W (w.heap.size+2) [.bool false,.slice none 0 0,.bool false,.slice none 0 0,.bool false]:=
  ⟨_,rfl,(((Ext.refl w).alloc _).alloc _).alloc _,(Bk.new w _ _).ext (((Ext.refl _).alloc _).alloc _),(Bk.newE _ _ (by simp) _ _).ext ((Ext.refl _).alloc _),Bk.newE _ _ (by simp) _ _⟩
 replace h1:=h1.ext E;replace h2:=h2.ext E;replace h3:=h3.ext E;replace h4:=h4.ext E;go_enter func147,ntmps147;go_upto_region 1 with fail;rw[<-hW];clear hW;refine rg 11 (dR 5 11) [IsP (w.heap.size) 0,IsI k l1,IsP (w.heap.size+1) 0,IsI k l2,IsI k (max l1 l2),IsP (w.heap.size) 2,IsI k u1,IsP (w.heap.size+1) 2,IsI k u2,IsI k (max u1 u2),IsKn k (max l1 l2) (max u1 u2) false] [] 1 ?_ ?_
 ·refine Rc zp ?_;refine Rc xx ?_;refine Rc zj ?_;refine Rc zaw ?_;refine Rc (cl2 (en func145) (qA (fP:=IsI k l1) 1 6) (qA (fP:=IsI k l2) 3 8) (λx0 x1 w' hE d0 d1=>greaterv_f d0 d1 zc)) ?_;refine Rc zq ?_;refine Rc xo ?_;refine Rc zk ?_;refine Rc (lvI 2 B2 h4 qF (qA 7 12)) ?_;refine Rc (cl2 (en func145) (qA (fP:=IsI k u1) 6 11) (qA (fP:=IsI k u2) 8 13) (λx0 x1 w' hE d0 d1=>greaterv_f d0 d1 zc)) ?_;refine Rc yz ?_;exact rn0
 intro v W1 e1 hZ _;replace E:=E.trans e1;replace B3:=B3.ext e1;obtain⟨s5,a5,n5,c5,s6,a6,n6,c6,hv,g1,g2⟩:=hZ 10 dcx;simp only[lxE,Nat.reduceAdd];rw[hv];clear hv hZ e1 B1 B2 h1 h2 h3 h4;refine stA 11 (h:=λK hK=>?_);refine stV (us:= [.bool s5,.slice a5 n5 c5,.bool s6,.slice a6 n6 c6,.bool false]) B3 xP rfl rfl nw5 E (by omega) (λW1a B4 E2 G2 _ _=>hK _ _ ?_);refine jR za ?_ _;have d0:=B4.c 0 _ rfl;have d1:=B4.c 1 _ rfl;have d2:=B4.c 2 _ rfl;have d3:=B4.c 3 _ rfl;have d4:=B4.c 4 _ rfl;go_wp2_with fail;exact jK (v:=.agg #[.bool s5,.slice a5 n5 c5,.bool s6,.slice a6 n6 c6,.bool false]) (by simp[results,results147,go_sem,d0,d1,d2,d3,d4]) rfl ⟨_,rfl,E2,_,_,_,_,_,_,_,_,rfl,IsI.gstb _ _ _ _ _ G2 g1,IsI.gstb _ _ _ _ _ G2 g2⟩
theorem opLess_f{k:Nat}{l1 u1 l2 u2 c1' c2':Int}{f1 f2:Bool}{x y:Value}{w:World}(hx:IsKn k l1 u1 f1 x w)(hy:IsKn k l2 u2 f2 y w)(HK:Hid (k<=1000)){b1 b2:Bool}(HC1:Hid (qM u1 l2=c1'))(HC2:Hid (qM l1 u2=c2'))(HB1:Hid (decide (c1'<0)=b1))(HB2:Hid (decide (0<=c2')=b2)):Calls prog 148 #[x,y] w (Ret w (IsK 2 (xI b1 b2))):=by
 obtain⟨s1,a1,n1,c1,s2,a2,n2,c2,rfl,h1,h2⟩:=hx;obtain⟨s3,a3,n3,c3,s4,a4,n4,c4,rfl,h3,h4⟩:=hy
 obtain⟨W,hW,E,B1,B2,B3⟩:∃W,W=((w.alloc (.cells #[.bool s1,.slice a1 n1 c1,.bool s2,.slice a2 n2 c2,.bool f1] 176)).alloc (.cells #[.bool s3,.slice a3 n3 c3,.bool s4,.slice a4 n4 c4,.bool f2] 176)).alloc (.cells #[.bool false,.slice none 0 0,.bool false,.slice none 0 0,.bool false] 176)/\Ext w W/\Bk W w.heap.size [.bool s1,.slice a1 n1 c1,.bool s2,.slice a2 n2 c2,.bool f1]/\Bk W (w.heap.size+1) [.bool s3,.slice a3 n3 c3,.bool s4,.slice a4 n4 c4,.bool f2]/\Bk W (w.heap.size+2) [.bool false,.slice none 0 0,.bool false,.slice none 0 0,.bool false]:=
  ⟨_,rfl,(((Ext.refl w).alloc _).alloc _).alloc _,(Bk.new w _ _).ext (((Ext.refl _).alloc _).alloc _),(Bk.newE _ _ (by simp) _ _).ext ((Ext.refl _).alloc _),Bk.newE _ _ (by simp) _ _⟩
 replace h1:=h1.ext E;replace h2:=h2.ext E;replace h3:=h3.ext E;replace h4:=h4.ext E;go_enter func148,ntmps148;go_upto_region 1 with fail;rw[<-hW];clear hW;refine rg 13 (dR 5 13) [IsP (w.heap.size) 2,IsI k u1,IsP (w.heap.size+1) 0,IsI k l2,iV c1',IsV (.bool b1),IsP (w.heap.size) 0,IsI k l1,IsP (w.heap.size+1) 2,IsI k u2,iV c2',IsV (.bool b2),IsK 2 (xI b1 b2)] [] 1 ?_ ?_
 ·refine Rc zq ?_;refine Rc (lvI 2 B1 h2 qF (qA 0 5)) ?_;refine Rc zj ?_;refine Rc zaw ?_;refine Rc (cl2 (en func150) (qA (fP:=IsI k u1) 1 6) (qA (fP:=IsI k l2) 3 8) (λx0 x1 w' hE d0 d1=>jJ (Cmp_f d0 d1 zc zc) λ_ _ h=>h.int HC1.out)) ?_;refine Rc (bn (r:=.bool b1) (qC 4 9) qE (hr:=λw=>by have hx9:=HB1.out;go_simp)) ?_;refine Rc zp ?_;refine Rc (lvI 0 B1 h1 qF (qA 6 11)) ?_;refine Rc zk ?_;refine Rc (lvI 2 B2 h4 qF (qA 8 13)) ?_;refine Rc (cl2 (en func150) (qA (fP:=IsI k l1) 7 12) (qA (fP:=IsI k u2) 9 14) (λx0 x1 w' hE d0 d1=>jJ (Cmp_f d0 d1 zc zc) λ_ _ h=>h.int HC2.out)) ?_;refine Rc (bn (r:=.bool b2) (qC 10 15) qE (hr:=λw=>by have hx9:=HB2.out;go_simp)) ?_;refine Rc (cl2 (en func149) (qA (fP:=IsV (.bool b1)) 5 10) (qA (fP:=IsV (.bool b2)) 11 16) (λx0 x1 w' hE d0 d1=>by{obtain rfl:x0=.bool b1:=d0;obtain rfl:x1=.bool b2:=d1;exact truth_f w' b1 b2})) ?_;exact rn0
 intro v W1 e1 hZ _;replace E:=E.trans e1;replace B3:=B3.ext e1;obtain⟨s5,a5,n5,c5,s6,a6,n6,c6,hv,g1,g2⟩:=hZ 12 dcx;simp only[lxE,Nat.reduceAdd];rw[hv];clear hv hZ e1 B1 B2 h1 h2 h3 h4;refine stA 13 (h:=λK hK=>?_);refine stV (us:= [.bool s5,.slice a5 n5 c5,.bool s6,.slice a6 n6 c6,.bool (xI b1 b2).fin]) B3 xP rfl rfl nw5 E (by omega) (λW1a B4 E2 G2 _ _=>hK _ _ ?_);refine jR za ?_ _;have d0:=B4.c 0 _ rfl;have d1:=B4.c 1 _ rfl;have d2:=B4.c 2 _ rfl;have d3:=B4.c 3 _ rfl;have d4:=B4.c 4 _ rfl;go_wp2_with fail;exact jK (v:=.agg #[.bool s5,.slice a5 n5 c5,.bool s6,.slice a6 n6 c6,.bool (xI b1 b2).fin]) (by simp[results,results148,go_sem,d0,d1,d2,d3,d4]) rfl ⟨_,rfl,E2,_,_,_,_,_,_,_,_,rfl,IsI.gstb _ _ _ _ _ G2 g1,IsI.gstb _ _ _ _ _ G2 g2⟩
theorem opEq_tt{k:Nat}{l1 u1 l2 u2 c1' _c2' c3' c4':Int}{f1 f2:Bool}{x y:Value}{w:World}(hx:IsKn k l1 u1 f1 x w)(hy:IsKn k l2 u2 f2 y w)(HK:Hid (k<=1000)){_b2 b4:Bool}(HC1:Hid (qM u1 l2=c1'))(HB1:Hid (decide (c1'<0)=true))(HC3:Hid (qM l1 u2=c3'))(HB3:Hid (c3'=0))(HC4:Hid (qM l2 u1=c4'))(HB4:Hid ((c4'==0)=b4)):Calls prog 151 #[x,y] w (Ret w (IsK 2 (xI b4 true))):=by
 obtain⟨s1,a1,n1,c1,s2,a2,n2,c2,rfl,h1,h2⟩:=hx;obtain⟨s3,a3,n3,c3,s4,a4,n4,c4,rfl,h3,h4⟩:=hy
 obtain⟨W,hW,E,B1,B2,B3⟩:∃W,W=((w.alloc (.cells #[.bool s1,.slice a1 n1 c1,.bool s2,.slice a2 n2 c2,.bool f1] 176)).alloc (.cells #[.bool s3,.slice a3 n3 c3,.bool s4,.slice a4 n4 c4,.bool f2] 176)).alloc (.cells #[.bool false,.slice none 0 0,.bool false,.slice none 0 0,.bool false] 176)/\Ext w W/\Bk W w.heap.size [.bool s1,.slice a1 n1 c1,.bool s2,.slice a2 n2 c2,.bool f1]/\Bk W (w.heap.size+1) [.bool s3,.slice a3 n3 c3,.bool s4,.slice a4 n4 c4,.bool f2]/\Bk W (w.heap.size+2) [.bool false,.slice none 0 0,.bool false,.slice none 0 0,.bool false]:=
  ⟨_,rfl,(((Ext.refl w).alloc _).alloc _).alloc _,(Bk.new w _ _).ext (((Ext.refl _).alloc _).alloc _),(Bk.newE _ _ (by simp) _ _).ext ((Ext.refl _).alloc _),Bk.newE _ _ (by simp) _ _⟩
 replace h1:=h1.ext E;replace h2:=h2.ext E;replace h3:=h3.ext E;replace h4:=h4.ext E;go_enter func151,ntmps151;go_upto_region 1 with fail;rw[<-hW];clear hW;refine rgs 15 [some 6,some 7,some 8,some 9,some 10,some 11,some 12,some 13,some 14,some 15,some 16,some 17,some 18,some 19,some 5] [IsP (w.heap.size) 2,IsI k u1,IsP (w.heap.size+1) 0,IsI k l2,iV c1',IsV (.bool true),IsV (.bool true),IsV undef,IsV undef,IsV undef,IsV undef,IsV undef,IsV undef,IsV (.bool true),IsV (.bool true)] [] ?_ ?_
 ·refine Rc zq ?_;refine Rc (lvI 2 B1 h2 qF (qA 0 6)) ?_;refine Rc zj ?_;refine Rc (lvI 0 B2 h3 qF (qA 2 8)) ?_;refine Rc zbk ?_;refine Rc (bn (r:=.bool true) (qC 4 10) qE (hr:=λw=>by have hx9:=HB1.out;go_simp)) ?_;refine Rc (mv (qA 5 11)) ?_;refine RcN 6 12 true ?_;refine RcN 6 12 true ?_;refine RcN 6 12 true ?_;refine RcN 6 12 true ?_;refine RcN 6 12 true ?_;refine RcN 6 12 true ?_;refine Rc (pk (qC 6 12) qE) ?_;refine Rc (mv (qA 13 19)) ?_;exact rn0
 intro v W1 e1 hZ _;replace E:=E.trans e1;replace B1:=B1.ext e1;replace B2:=B2.ext e1;replace B3:=B3.ext e1;replace h1:=h1.ext e1;replace h2:=h2.ext e1;replace h3:=h3.ext e1;replace h4:=h4.ext e1;simp only[lxE,Nat.reduceAdd];rw[show v 14=.bool true from hZ 14 dcx];clear hZ e1;refine jL ?_;go_upto_region 2 with fail;refine rgs 16 (dR 20 16) [IsP (w.heap.size) 0,IsI k l1,IsP (w.heap.size+1) 2,IsI k u2,iV c3',IsV (.bool true),IsV (.bool true),IsP (w.heap.size+1) 0,IsI k l2,IsP (w.heap.size) 2,IsI k u1,iV c4',IsV (.bool b4),IsV (.bool b4),IsV (.bool true),IsK 2 (xI b4 true)] [] ?_ ?_
 ·refine Rc zp ?_;refine Rc (lvI 0 B1 h1 qF (qA 0 20)) ?_;refine Rc zk ?_;refine Rc (lvI 2 B2 h4 qF (qA 2 22)) ?_;refine Rc zbj ?_;refine Rc (bn (r:=.bool true) (qC 4 24) qE (hr:=λw=>by have hx9:=HB3.out;go_simp)) ?_;refine Rc (mv (qA 5 25)) ?_;refine RcG 6 26 true zj ?_;refine RcG 6 26 true (lvI 0 B2 h3 qF (qA 7 27)) ?_;refine RcG 6 26 true zq ?_;refine RcG 6 26 true (lvI 2 B1 h2 qF (qA 9 29)) ?_;refine RcG 6 26 true zb1 ?_;refine RcG 6 26 true (bn (r:=.bool b4) (qC 11 31) qE (hr:=λw=>by have hx9:=HB4.out;go_simp)) ?_;refine Rc (pk (qC 6 26) (qA 12 32)) ?_;refine Rc (mv (qB 5)) ?_;refine Rc (cl2 (en func149) (qA (fP:=IsV (.bool b4)) 13 33) (qA (fP:=IsV (.bool true)) 14 34) (λx0 x1 w' hE d0 d1=>by{obtain rfl:x0=.bool b4:=d0;obtain rfl:x1=.bool true:=d1;exact truth_f w' b4 true})) ?_;exact rn0
 intro v W1 e1 hZ _;replace E:=E.trans e1;replace B3:=B3.ext e1;obtain⟨s5,a5,n5,c5,s6,a6,n6,c6,hv,g1,g2⟩:=hZ 15 dcx;simp only[lxE,Nat.reduceAdd];rw[hv];clear hv hZ e1 B1 B2 h1 h2 h3 h4;refine stL (λK hK=>?_);refine stV (us:= [.bool s5,.slice a5 n5 c5,.bool s6,.slice a6 n6 c6,.bool (xI b4 true).fin]) B3 xP rfl rfl nw5 E (by omega) (λW2 B4 E2 G2 _ _=>hK _ _ ?_);refine jL ?_;have d0:=B4.c 0 _ rfl;have d1:=B4.c 1 _ rfl;have d2:=B4.c 2 _ rfl;have d3:=B4.c 3 _ rfl;have d4:=B4.c 4 _ rfl;go_wp2_with fail;exact jK (v:=.agg #[.bool s5,.slice a5 n5 c5,.bool s6,.slice a6 n6 c6,.bool (xI b4 true).fin]) yk rfl ⟨_,rfl,E2,_,_,_,_,_,_,_,_,rfl,IsI.gstb _ _ _ _ _ G2 g1,IsI.gstb _ _ _ _ _ G2 g2⟩
theorem opEq_tf{k:Nat}{l1 u1 l2 u2 c1' _c2' c3' _c4':Int}{f1 f2:Bool}{x y:Value}{w:World}(hx:IsKn k l1 u1 f1 x w)(hy:IsKn k l2 u2 f2 y w)(HK:Hid (k<=1000)){_b2 _b4:Bool}(HC1:Hid (qM u1 l2=c1'))(HB1:Hid (decide (c1'<0)=true))(HC3:Hid (qM l1 u2=c3'))(HB3:Hid (¬c3'=0)):Calls prog 151 #[x,y] w (Ret w (IsK 2 (xI false true))):=by
 obtain⟨s1,a1,n1,c1,s2,a2,n2,c2,rfl,h1,h2⟩:=hx;obtain⟨s3,a3,n3,c3,s4,a4,n4,c4,rfl,h3,h4⟩:=hy
 obtain⟨W,hW,E,B1,B2,B3⟩:∃W,W=((w.alloc (.cells #[.bool s1,.slice a1 n1 c1,.bool s2,.slice a2 n2 c2,.bool f1] 176)).alloc (.cells #[.bool s3,.slice a3 n3 c3,.bool s4,.slice a4 n4 c4,.bool f2] 176)).alloc (.cells #[.bool false,.slice none 0 0,.bool false,.slice none 0 0,.bool false] 176)/\Ext w W/\Bk W w.heap.size [.bool s1,.slice a1 n1 c1,.bool s2,.slice a2 n2 c2,.bool f1]/\Bk W (w.heap.size+1) [.bool s3,.slice a3 n3 c3,.bool s4,.slice a4 n4 c4,.bool f2]/\Bk W (w.heap.size+2) [.bool false,.slice none 0 0,.bool false,.slice none 0 0,.bool false]:=
  ⟨_,rfl,(((Ext.refl w).alloc _).alloc _).alloc _,(Bk.new w _ _).ext (((Ext.refl _).alloc _).alloc _),(Bk.newE _ _ (by simp) _ _).ext ((Ext.refl _).alloc _),Bk.newE _ _ (by simp) _ _⟩
 replace h1:=h1.ext E;replace h2:=h2.ext E;replace h3:=h3.ext E;replace h4:=h4.ext E;go_enter func151,ntmps151;go_upto_region 1 with fail;rw[<-hW];clear hW;refine rgs 15 [some 6,some 7,some 8,some 9,some 10,some 11,some 12,some 13,some 14,some 15,some 16,some 17,some 18,some 19,some 5] [IsP (w.heap.size) 2,IsI k u1,IsP (w.heap.size+1) 0,IsI k l2,iV c1',IsV (.bool true),IsV (.bool true),IsV undef,IsV undef,IsV undef,IsV undef,IsV undef,IsV undef,IsV (.bool true),IsV (.bool true)] [] ?_ ?_
 ·refine Rc zq ?_;refine Rc (lvI 2 B1 h2 qF (qA 0 6)) ?_;refine Rc zj ?_;refine Rc (lvI 0 B2 h3 qF (qA 2 8)) ?_;refine Rc zbk ?_;refine Rc (bn (r:=.bool true) (qC 4 10) qE (hr:=λw=>by have hx9:=HB1.out;go_simp)) ?_;refine Rc (mv (qA 5 11)) ?_;refine RcN 6 12 true ?_;refine RcN 6 12 true ?_;refine RcN 6 12 true ?_;refine RcN 6 12 true ?_;refine RcN 6 12 true ?_;refine RcN 6 12 true ?_;refine Rc (pk (qC 6 12) qE) ?_;refine Rc (mv (qA 13 19)) ?_;exact rn0
 intro v W1 e1 hZ _;replace E:=E.trans e1;replace B1:=B1.ext e1;replace B2:=B2.ext e1;replace B3:=B3.ext e1;replace h1:=h1.ext e1;replace h2:=h2.ext e1;replace h3:=h3.ext e1;replace h4:=h4.ext e1;simp only[lxE,Nat.reduceAdd];rw[show v 14=.bool true from hZ 14 dcx];clear hZ e1;refine jL ?_;go_upto_region 2 with fail;refine rgs 16 (dR 20 16) [IsP (w.heap.size) 0,IsI k l1,IsP (w.heap.size+1) 2,IsI k u2,iV c3',IsV (.bool false),IsV (.bool false),IsV undef,IsV undef,IsV undef,IsV undef,IsV undef,IsV undef,IsV (.bool false),IsV (.bool true),IsK 2 (xI false true)] [] ?_ ?_
 ·refine Rc zp ?_;refine Rc (lvI 0 B1 h1 qF (qA 0 20)) ?_;refine Rc zk ?_;refine Rc (lvI 2 B2 h4 qF (qA 2 22)) ?_;refine Rc zbj ?_;refine Rc (bn (r:=.bool false) (qC 4 24) qE (hr:=λw=>by have hx9:=HB3.out;go_simp)) ?_;refine Rc (mv (qA 5 25)) ?_;refine RcN 6 26 false ?_;refine RcN 6 26 false ?_;refine RcN 6 26 false ?_;refine RcN 6 26 false ?_;refine RcN 6 26 false ?_;refine RcN 6 26 false ?_;refine Rc (pk (qC 6 26) qE) ?_;refine Rc (mv (qB 5)) ?_;refine Rc (cl2 (en func149) (qA (fP:=IsV (.bool false)) 13 33) (qA (fP:=IsV (.bool true)) 14 34) (λx0 x1 w' hE d0 d1=>by{obtain rfl:x0=.bool false:=d0;obtain rfl:x1=.bool true:=d1;exact truth_f w' false true})) ?_;exact rn0
 intro v W1 e1 hZ _;replace E:=E.trans e1;replace B3:=B3.ext e1;obtain⟨s5,a5,n5,c5,s6,a6,n6,c6,hv,g1,g2⟩:=hZ 15 dcx;simp only[lxE,Nat.reduceAdd];rw[hv];clear hv hZ e1 B1 B2 h1 h2 h3 h4;refine stL (λK hK=>?_);refine stV (us:= [.bool s5,.slice a5 n5 c5,.bool s6,.slice a6 n6 c6,.bool (xI false true).fin]) B3 xP rfl rfl nw5 E (by omega) (λW2 B4 E2 G2 _ _=>hK _ _ ?_);refine jL ?_;have d0:=B4.c 0 _ rfl;have d1:=B4.c 1 _ rfl;have d2:=B4.c 2 _ rfl;have d3:=B4.c 3 _ rfl;have d4:=B4.c 4 _ rfl;go_wp2_with fail;exact jK (v:=.agg #[.bool s5,.slice a5 n5 c5,.bool s6,.slice a6 n6 c6,.bool (xI false true).fin]) yk rfl ⟨_,rfl,E2,_,_,_,_,_,_,_,_,rfl,IsI.gstb _ _ _ _ _ G2 g1,IsI.gstb _ _ _ _ _ G2 g2⟩
theorem opEq_ft{k:Nat}{l1 u1 l2 u2 c1' c2' c3' c4':Int}{f1 f2:Bool}{x y:Value}{w:World}(hx:IsKn k l1 u1 f1 x w)(hy:IsKn k l2 u2 f2 y w)(HK:Hid (k<=1000)){b2 b4:Bool}(HC1:Hid (qM u1 l2=c1'))(HB1:Hid (decide (c1'<0)=false))(HC2:Hid (qM u2 l1=c2'))(HB2:Hid (decide (c2'<0)=b2))(HC3:Hid (qM l1 u2=c3'))(HB3:Hid (c3'=0))(HC4:Hid (qM l2 u1=c4'))(HB4:Hid ((c4'==0)=b4)):Calls prog 151 #[x,y] w (Ret w (IsK 2 (xI b4 b2))):=by
 obtain⟨s1,a1,n1,c1,s2,a2,n2,c2,rfl,h1,h2⟩:=hx;obtain⟨s3,a3,n3,c3,s4,a4,n4,c4,rfl,h3,h4⟩:=hy
 obtain⟨W,hW,E,B1,B2,B3⟩:∃W,W=((w.alloc (.cells #[.bool s1,.slice a1 n1 c1,.bool s2,.slice a2 n2 c2,.bool f1] 176)).alloc (.cells #[.bool s3,.slice a3 n3 c3,.bool s4,.slice a4 n4 c4,.bool f2] 176)).alloc (.cells #[.bool false,.slice none 0 0,.bool false,.slice none 0 0,.bool false] 176)/\Ext w W/\Bk W w.heap.size [.bool s1,.slice a1 n1 c1,.bool s2,.slice a2 n2 c2,.bool f1]/\Bk W (w.heap.size+1) [.bool s3,.slice a3 n3 c3,.bool s4,.slice a4 n4 c4,.bool f2]/\Bk W (w.heap.size+2) [.bool false,.slice none 0 0,.bool false,.slice none 0 0,.bool false]:=
  ⟨_,rfl,(((Ext.refl w).alloc _).alloc _).alloc _,(Bk.new w _ _).ext (((Ext.refl _).alloc _).alloc _),(Bk.newE _ _ (by simp) _ _).ext ((Ext.refl _).alloc _),Bk.newE _ _ (by simp) _ _⟩
 replace h1:=h1.ext E;replace h2:=h2.ext E;replace h3:=h3.ext E;replace h4:=h4.ext E;go_enter func151,ntmps151;go_upto_region 1 with fail;rw[<-hW];clear hW;refine rgs 15 [some 6,some 7,some 8,some 9,some 10,some 11,some 12,some 13,some 14,some 15,some 16,some 17,some 18,some 19,some 5] [IsP (w.heap.size) 2,IsI k u1,IsP (w.heap.size+1) 0,IsI k l2,iV c1',IsV (.bool false),IsV (.bool false),IsP (w.heap.size+1) 2,IsI k u2,IsP (w.heap.size) 0,IsI k l1,iV c2',IsV (.bool b2),IsV (.bool b2),IsV (.bool b2)] [] ?_ ?_
 ·refine Rc zq ?_;refine Rc (lvI 2 B1 h2 qF (qA 0 6)) ?_;refine Rc zj ?_;refine Rc (lvI 0 B2 h3 qF (qA 2 8)) ?_;refine Rc zbk ?_;refine Rc (bn (r:=.bool false) (qC 4 10) qE (hr:=λw=>by have hx9:=HB1.out;go_simp)) ?_;refine Rc (mv (qA 5 11)) ?_;refine RcG 6 12 false zk ?_;refine RcG 6 12 false (lvI 2 B2 h4 qF (qA 7 13)) ?_;refine RcG 6 12 false zp ?_;refine RcG 6 12 false (lvI 0 B1 h1 qF (qA 9 15)) ?_;refine RcG 6 12 false zb2 ?_;refine RcG 6 12 false (bn (r:=.bool b2) (qC 11 17) qE (hr:=λw=>by have hx9:=HB2.out;go_simp)) ?_;refine Rc (pk (qC 6 12) (qA 12 18)) ?_;refine Rc (mv (qA 13 19)) ?_;exact rn0
 intro v W1 e1 hZ _;replace E:=E.trans e1;replace B1:=B1.ext e1;replace B2:=B2.ext e1;replace B3:=B3.ext e1;replace h1:=h1.ext e1;replace h2:=h2.ext e1;replace h3:=h3.ext e1;replace h4:=h4.ext e1;simp only[lxE,Nat.reduceAdd];rw[show v 14=.bool b2 from hZ 14 dcx];clear hZ e1;refine jL ?_;go_upto_region 2 with fail;refine rgs 16 (dR 20 16) [IsP (w.heap.size) 0,IsI k l1,IsP (w.heap.size+1) 2,IsI k u2,iV c3',IsV (.bool true),IsV (.bool true),IsP (w.heap.size+1) 0,IsI k l2,IsP (w.heap.size) 2,IsI k u1,iV c4',IsV (.bool b4),IsV (.bool b4),IsV (.bool b2),IsK 2 (xI b4 b2)] [] ?_ ?_
 ·refine Rc zp ?_;refine Rc (lvI 0 B1 h1 qF (qA 0 20)) ?_;refine Rc zk ?_;refine Rc (lvI 2 B2 h4 qF (qA 2 22)) ?_;refine Rc zbj ?_;refine Rc (bn (r:=.bool true) (qC 4 24) qE (hr:=λw=>by have hx9:=HB3.out;go_simp)) ?_;refine Rc (mv (qA 5 25)) ?_;refine RcG 6 26 true zj ?_;refine RcG 6 26 true (lvI 0 B2 h3 qF (qA 7 27)) ?_;refine RcG 6 26 true zq ?_;refine RcG 6 26 true (lvI 2 B1 h2 qF (qA 9 29)) ?_;refine RcG 6 26 true zb1 ?_;refine RcG 6 26 true (bn (r:=.bool b4) (qC 11 31) qE (hr:=λw=>by have hx9:=HB4.out;go_simp)) ?_;refine Rc (pk (qC 6 26) (qA 12 32)) ?_;refine Rc (mv (qB 5)) ?_;refine Rc (cl2 (en func149) (qA (fP:=IsV (.bool b4)) 13 33) (qA (fP:=IsV (.bool b2)) 14 34) (λx0 x1 w' hE d0 d1=>by{obtain rfl:x0=.bool b4:=d0;obtain rfl:x1=.bool b2:=d1;exact truth_f w' b4 b2})) ?_;exact rn0
 intro v W1 e1 hZ _;replace E:=E.trans e1;replace B3:=B3.ext e1;obtain⟨s5,a5,n5,c5,s6,a6,n6,c6,hv,g1,g2⟩:=hZ 15 dcx;simp only[lxE,Nat.reduceAdd];rw[hv];clear hv hZ e1 B1 B2 h1 h2 h3 h4;refine stL (λK hK=>?_);refine stV (us:= [.bool s5,.slice a5 n5 c5,.bool s6,.slice a6 n6 c6,.bool (xI b4 b2).fin]) B3 xP rfl rfl nw5 E (by omega) (λW2 B4 E2 G2 _ _=>hK _ _ ?_);refine jL ?_;have d0:=B4.c 0 _ rfl;have d1:=B4.c 1 _ rfl;have d2:=B4.c 2 _ rfl;have d3:=B4.c 3 _ rfl;have d4:=B4.c 4 _ rfl;go_wp2_with fail;exact jK (v:=.agg #[.bool s5,.slice a5 n5 c5,.bool s6,.slice a6 n6 c6,.bool (xI b4 b2).fin]) yk rfl ⟨_,rfl,E2,_,_,_,_,_,_,_,_,rfl,IsI.gstb _ _ _ _ _ G2 g1,IsI.gstb _ _ _ _ _ G2 g2⟩
theorem opEq_ff{k:Nat}{l1 u1 l2 u2 c1' c2' c3' _c4':Int}{f1 f2:Bool}{x y:Value}{w:World}(hx:IsKn k l1 u1 f1 x w)(hy:IsKn k l2 u2 f2 y w)(HK:Hid (k<=1000)){b2 _b4:Bool}(HC1:Hid (qM u1 l2=c1'))(HB1:Hid (decide (c1'<0)=false))(HC2:Hid (qM u2 l1=c2'))(HB2:Hid (decide (c2'<0)=b2))(HC3:Hid (qM l1 u2=c3'))(HB3:Hid (¬c3'=0)):Calls prog 151 #[x,y] w (Ret w (IsK 2 (xI false b2))):=by
 obtain⟨s1,a1,n1,c1,s2,a2,n2,c2,rfl,h1,h2⟩:=hx;obtain⟨s3,a3,n3,c3,s4,a4,n4,c4,rfl,h3,h4⟩:=hy
 obtain⟨W,hW,E,B1,B2,B3⟩:∃W,W=((w.alloc (.cells #[.bool s1,.slice a1 n1 c1,.bool s2,.slice a2 n2 c2,.bool f1] 176)).alloc (.cells #[.bool s3,.slice a3 n3 c3,.bool s4,.slice a4 n4 c4,.bool f2] 176)).alloc (.cells #[.bool false,.slice none 0 0,.bool false,.slice none 0 0,.bool false] 176)/\Ext w W/\Bk W w.heap.size [.bool s1,.slice a1 n1 c1,.bool s2,.slice a2 n2 c2,.bool f1]/\Bk W (w.heap.size+1) [.bool s3,.slice a3 n3 c3,.bool s4,.slice a4 n4 c4,.bool f2]/\Bk W (w.heap.size+2) [.bool false,.slice none 0 0,.bool false,.slice none 0 0,.bool false]:=
  ⟨_,rfl,(((Ext.refl w).alloc _).alloc _).alloc _,(Bk.new w _ _).ext (((Ext.refl _).alloc _).alloc _),(Bk.newE _ _ (by simp) _ _).ext ((Ext.refl _).alloc _),Bk.newE _ _ (by simp) _ _⟩
 replace h1:=h1.ext E;replace h2:=h2.ext E;replace h3:=h3.ext E;replace h4:=h4.ext E;go_enter func151,ntmps151;go_upto_region 1 with fail;rw[<-hW];clear hW;refine rgs 15 [some 6,some 7,some 8,some 9,some 10,some 11,some 12,some 13,some 14,some 15,some 16,some 17,some 18,some 19,some 5] [IsP (w.heap.size) 2,IsI k u1,IsP (w.heap.size+1) 0,IsI k l2,iV c1',IsV (.bool false),IsV (.bool false),IsP (w.heap.size+1) 2,IsI k u2,IsP (w.heap.size) 0,IsI k l1,iV c2',IsV (.bool b2),IsV (.bool b2),IsV (.bool b2)] [] ?_ ?_
 ·refine Rc zq ?_;refine Rc (lvI 2 B1 h2 qF (qA 0 6)) ?_;refine Rc zj ?_;refine Rc (lvI 0 B2 h3 qF (qA 2 8)) ?_;refine Rc zbk ?_;refine Rc (bn (r:=.bool false) (qC 4 10) qE (hr:=λw=>by have hx9:=HB1.out;go_simp)) ?_;refine Rc (mv (qA 5 11)) ?_;refine RcG 6 12 false zk ?_;refine RcG 6 12 false (lvI 2 B2 h4 qF (qA 7 13)) ?_;refine RcG 6 12 false zp ?_;refine RcG 6 12 false (lvI 0 B1 h1 qF (qA 9 15)) ?_;refine RcG 6 12 false zb2 ?_;refine RcG 6 12 false (bn (r:=.bool b2) (qC 11 17) qE (hr:=λw=>by have hx9:=HB2.out;go_simp)) ?_;refine Rc (pk (qC 6 12) (qA 12 18)) ?_;refine Rc (mv (qA 13 19)) ?_;exact rn0
 intro v W1 e1 hZ _;replace E:=E.trans e1;replace B1:=B1.ext e1;replace B2:=B2.ext e1;replace B3:=B3.ext e1;replace h1:=h1.ext e1;replace h2:=h2.ext e1;replace h3:=h3.ext e1;replace h4:=h4.ext e1;simp only[lxE,Nat.reduceAdd];rw[show v 14=.bool b2 from hZ 14 dcx];clear hZ e1;refine jL ?_;go_upto_region 2 with fail;refine rgs 16 (dR 20 16) [IsP (w.heap.size) 0,IsI k l1,IsP (w.heap.size+1) 2,IsI k u2,iV c3',IsV (.bool false),IsV (.bool false),IsV undef,IsV undef,IsV undef,IsV undef,IsV undef,IsV undef,IsV (.bool false),IsV (.bool b2),IsK 2 (xI false b2)] [] ?_ ?_
 ·refine Rc zp ?_;refine Rc (lvI 0 B1 h1 qF (qA 0 20)) ?_;refine Rc zk ?_;refine Rc (lvI 2 B2 h4 qF (qA 2 22)) ?_;refine Rc zbj ?_;refine Rc (bn (r:=.bool false) (qC 4 24) qE (hr:=λw=>by have hx9:=HB3.out;go_simp)) ?_;refine Rc (mv (qA 5 25)) ?_;refine RcN 6 26 false ?_;refine RcN 6 26 false ?_;refine RcN 6 26 false ?_;refine RcN 6 26 false ?_;refine RcN 6 26 false ?_;refine RcN 6 26 false ?_;refine Rc (pk (qC 6 26) qE) ?_;refine Rc (mv (qB 5)) ?_;refine Rc (cl2 (en func149) (qA (fP:=IsV (.bool false)) 13 33) (qA (fP:=IsV (.bool b2)) 14 34) (λx0 x1 w' hE d0 d1=>by{obtain rfl:x0=.bool false:=d0;obtain rfl:x1=.bool b2:=d1;exact truth_f w' false b2})) ?_;exact rn0
 intro v W1 e1 hZ _;replace E:=E.trans e1;replace B3:=B3.ext e1;obtain⟨s5,a5,n5,c5,s6,a6,n6,c6,hv,g1,g2⟩:=hZ 15 dcx;simp only[lxE,Nat.reduceAdd];rw[hv];clear hv hZ e1 B1 B2 h1 h2 h3 h4;refine stL (λK hK=>?_);refine stV (us:= [.bool s5,.slice a5 n5 c5,.bool s6,.slice a6 n6 c6,.bool (xI false b2).fin]) B3 xP rfl rfl nw5 E (by omega) (λW2 B4 E2 G2 _ _=>hK _ _ ?_);refine jL ?_;have d0:=B4.c 0 _ rfl;have d1:=B4.c 1 _ rfl;have d2:=B4.c 2 _ rfl;have d3:=B4.c 3 _ rfl;have d4:=B4.c 4 _ rfl;go_wp2_with fail;exact jK (v:=.agg #[.bool s5,.slice a5 n5 c5,.bool s6,.slice a6 n6 c6,.bool (xI false b2).fin]) yk rfl ⟨_,rfl,E2,_,_,_,_,_,_,_,_,rfl,IsI.gstb _ _ _ _ _ G2 g1,IsI.gstb _ _ _ _ _ G2 g2⟩
end
section
open Go Go.RowKit
section
variable {P:Program} {md:Region.Mode} {ops:Array Oper} {Q:Exit->Act->World->Prop}
theorem rgC_main(n:Nat)(L:Nat->Value->World->Prop)(Rel:World->World->Prop)(fS:Value->World->Prop){a0:Act}{w0:World}
  (hsz:ops.size=n+3) (hap:qO ops (n+2)=true) (hnd:∀i,i<n->∀e∈qS md ops i,e<i) (hnA:qS md ops (n+1)= [])
  (hnC:∀i,i<n->(ups md ops n).contains i=true) (hnC2:∀e∈qS md ops n,e<n) (hnS:∀i,i<n+2->(ups md ops (n+2)).contains i=true)
  (hst:∀i,i<n->Stb (L i)) (hstA:Stb (L (n+1))) (hstP:Stb fS) (hRA:∀x w w',Rel w w'->L (n+1) x w->L (n+1) x w')
  (hop:∀i,i<n->∀o,ops[i]? =some o->∀(v:Nat->Value) (w:World),Ext w0 w->(∀j,(ups md ops i).contains j=true->L j (v j) w)->∀K:Act->World->Prop,
   (∀x w',Ext w w'->L i x w'->K ((qT ops v a0 (n+2)).put o.dst x) w')->if Region.wanted o (yielded ops (qT ops v a0 (n+2)).tmps)=true then Oper.wp P o (qT ops v a0 (n+2)) w K Q else K ((qT ops v a0 (n+2)).put o.dst undef) w)
  (hal:∀o,ops[n+1]? =some o->∀(v:Nat->Value) (w:World),w0.heap.size<=w.heap.size->∀K:Act->World->Prop,
   (∀x w',Ext w w'->L (n+1) x w'->K ((qT ops v a0 (n+2)).put o.dst x) w')->if Region.wanted o (yielded ops (qT ops v a0 (n+2)).tmps)=true then Oper.wp P o (qT ops v a0 (n+2)) w K Q else K ((qT ops v a0 (n+2)).put o.dst undef) w)
  (hRs:∀w w',Rel w w'->w.heap.size<=w'.heap.size)
  (hcall:∀o,ops[n]? =some o->∀(v:Nat->Value) (w:World),Ext w0 w->(∀j,j<n->L j (v j) w)->∀K:Act->World->Prop,
   (∀x w',Rel w w'->fS x w'->K ((qT ops v a0 (n+2)).put o.dst x) w')->if Region.wanted o (yielded ops (qT ops v a0 (n+2)).tmps)=true then Oper.wp P o (qT ops v a0 (n+2)) w K Q else K ((qT ops v a0 (n+2)).put o.dst undef) w)
  (hend:∀v w,fS (v n) w->L (n+1) (v (n+1)) w->wpAny P md ops Q 1 (qG ops.size (n+2)) (qT ops v a0 (n+2)) w):
  ∀ (fuel:Nat) (listed:Array Bool) (v:Nat->Value) (w:World),listed.size=ops.size->listed.getD n false=false->listed.getD (n+2) false=false->
   fuel+qU listed (n+2)=n+3->(∀i,listed.getD i false=true->∀e∈qS md ops i,listed.getD e false=true)->Ext w0 w->
   (∀i,i<n->listed.getD i false=true->L i (v i) w)->(listed.getD (n+1) false=true->L (n+1) (v (n+1)) w)->
   wpAny P md ops Q fuel listed (qT ops v a0 (n+2)) w:=by
 have hput:∀(v:Nat->Value) (i:Nat) (x:Value),i<n+2->(qT ops v a0 (n+2)).put (qP ops i) x=qT ops (xW v i x) a0 (n+2):=λv i x hi=>layN_put a0 v i x (n+2) hi (λj k hj hk hjk=>xM hap hj hk hjk)
 have hfirst:∀(m:Nat) (listed:Array Bool),listed.size=ops.size->(∀i,i<m->listed.getD i false=true)->(∀i,m<=i->listed.getD i false=false)->listed=qG ops.size m:=by
  intro m listed h1 h2 h3;apply Array.ext (by simp[qG,h1]);intro i g1 g2;have h4:listed[i]=listed.getD i false:=by simp[g1]
  rw[h4];rcases jU i m with h|h
  ·rw[h2 i h];simp[qG,h]
  ·rw[h3 i h];simp[qG];omega
 intro fuel
 induction fuel with
 | zero=>
  intro listed v w hs hn hS hcnt hcl hR hZ hA;have h1:=doneN_lt (n:=n+2) (i:=n) (by omega) hn;omega
 | succ fuel ih=>
  intro listed v w hs hn hS hcnt hcl hR hZ hA;have hout:∀j,n+3<=j->listed.getD j false=false:=λj hj=>by simp[Array.getElem?_eq_none (show listed.size<=j by omega)]
  have hne:Region.ready md ops listed≠ []:=by
   by_cases hall:∀i,i<n->listed.getD i false=true
   ·have:n∈Region.ready md ops listed:=xG (by simpa [show n<listed.size by omega]using hn) (by omega) (λe he=>hall e (hnC2 e he));intro h;rw[h]at this;cases this
   ·have hex:∃i,i<n/\(!listed.getD i false)=true:=by
     rcases Classical.em (∃i,i<n/\(!listed.getD i false)=true)with h|h
     ·exact h
     ·exact absurd (λi hi=>by
       cases h':listed.getD i false
       ·exact absurd ⟨i,hi,by simp[h']⟩ h
       ·rfl) hall
    obtain⟨i,hi,h0,hmin⟩:=xX (λi=> !listed.getD i false) n hex
    have:i∈Region.ready md ops listed:=xG (by simpa [show i<listed.size by omega]using h0) (by omega) (λe he=>by
     have:=hmin e (hnd i hi e he)
     simpa using this)
    intro h;rw[h]at this;cases this
  refine⟨λh=>absurd h hne,λi hi=>?_⟩;obtain⟨hun,o,ho,_⟩:=mem_ready.1 hi;have his:i<ops.size:=(Array.getElem?_eq_some_iff.1 ho).1;have hil:i<listed.size:=by omega
  have hdst:o.dst=qP ops i:=by simp[qP,ho]
  have hups:∀j,(ups md ops i).contains j=true->listed.getD j false=true:=λj hj=>qK hcl i (qS md ops i) (qL hi) j (List.contains_iff_mem.1 hj)
  have hcl':∀j,(listed.setIfInBounds i true).getD j false=true->∀e∈qS md ops j,(listed.setIfInBounds i true).getD e false=true:=λj hj e he=>by
   by_cases hij:i=j
   ·subst hij;exact getD_set_true (qL hi e he)
   ·rw[getD_set_ne false hij]at hj;exact getD_set_true (hcl j hj e he)
  have hi2:i≠n+2:=λh=>by
   subst h;have:=hups n (hnS n (by omega));rw[hn]at this;cases this
  have hdn:=doneN_set _ _ hun (n+2);refine wpOp_step ho λK hK=>?_
  by_cases hin:i=n
  ·-- the call
   subst hin;have hall:∀j,j<i->listed.getD j false=true:=λj hj=>hups j (hnC j hj)
   refine hcall o ho v w hR (λj hj=>hZ j hj (hall j hj)) K (λx w' hRel hG=>hK _ _ ?_);rw[hdst,hput v i x (by omega)];rw[if_pos (by omega)]at hdn;cases hA1:listed.getD (i+1) false with
   | true=>
    have hl:listed.setIfInBounds i true=qG ops.size (i+2):=hfirst (i+2) _ (by simp[hs]) (λj hj=>by
     by_cases hij:i=j
     ·subst hij;simp[hil]
     ·rw[getD_set_ne false hij];rcases jU j i with h|h
      ·exact hall j h
      ·obtain rfl:j=i+1:=by omega
       exact hA1) (λj hj=>by
     rw[getD_set_ne false (by omega)];rcases jU j (i+3)with h|h
     ·obtain rfl:j=i+2:=by omega
      exact hS
     ·exact hout j h)
    have hfu:fuel=1:=by
     have:qU listed (i+2)=i+1:=by
      have h2:=doneN_all (listed:=listed.setIfInBounds i true) (i+2) (λj hj=>by
       by_cases hij:i=j
       ·subst hij;simp[hil]
       ·rw[getD_set_ne false hij];rcases jU j i with h|h
        ·exact hall j h
        ·obtain rfl:j=i+1:=by omega
         exact hA1)
      omega
     omega
    rw[hl,hfu];refine hend _ _ (by simpa only[xW,if_true]using hG) ?_;simp only[xW];rw[if_neg (by omega)];exact hRA _ _ _ hRel (hA hA1)
   | false=>
    have hl:listed.setIfInBounds i true=qG ops.size (i+1):=hfirst (i+1) _ (by simp[hs]) (λj hj=>by
     by_cases hij:i=j
     ·subst hij;simp[hil]
     ·rw[getD_set_ne false hij];exact hall j (by omega)) (λj hj=>by
     rw[getD_set_ne false (by omega)];rcases jU j (i+3)with h|h
     ·rcases(show j=i+1\/j=i+2 by omega)with rfl|rfl
      ·exact hA1
      ·exact hS
     ·exact hout j h)
    have hfu:fuel=2:=by
     have h3:qU (listed.setIfInBounds i true) (i+2)=i+1:=by
      have h4:=doneN_all (listed:=listed.setIfInBounds i true) (i+1) (λj hj=>by
       by_cases hij:i=j
       ·subst hij;simp[hil]
       ·rw[getD_set_ne false hij];exact hall j (by omega))
      have h5:(listed.setIfInBounds i true).getD (i+1) false=false:=by rw[getD_set_ne false (by omega)];exact hA1
      unfold qU at h4 ⊢;rw[List.range_succ,List.countP_append,h4];simp only[List.countP_cons,List.countP_nil,h5];simp
     omega
    rw[hl,hfu];have hA0:i+1<(qG ops.size (i+1)).size:=by rw[<-hl];simp[hs];omega
    have hg:∀j,(qG ops.size (i+1)).getD j false=(listed.setIfInBounds i true).getD j false:=λj=>by rw[hl]
    have hr1:i+1∈Region.ready md ops (qG ops.size (i+1)):=xG (by
     have:=hg (i+1);rw[getD_set_ne false (by omega),hA1]at this
     simpa [hA0]using this) (by omega) (λe he=>by rw[hnA]at he;cases he)
    refine⟨λh=>(by rw[h]at hr1;cases hr1),λk hk=>?_⟩;obtain⟨hun2,o2,ho2,_⟩:=mem_ready.1 hk;have hks:k<ops.size:=(Array.getElem?_eq_some_iff.1 ho2).1;have hkl:k<(qG ops.size (i+1)).size:=by rw[<-hl];simp[hs];omega
    have hkf:(qG ops.size (i+1)).getD k false=false:=by simp[hkl]at hun2 ⊢;exact hun2
    have hk1:k=i+1:=by
     rcases jU k (i+1)with h|h
     ·rw[hg]at hkf;by_cases hik:i=k
      ·subst hik;simp[hil]at hkf
      ·rw[getD_set_ne false hik,hall k (by omega)]at hkf;cases hkf
     ·rcases(show k=i+1\/k=i+2 by omega)with h1|h1
      ·exact h1
      ·subst h1;exfalso;have h6:=qK (listed:=qG ops.size (i+1)) (λj hj e he=>by rw[hg]at hj ⊢;exact hcl' j hj e he) (i+2) (qS md ops (i+2)) (qL hk) (i+1) (List.contains_iff_mem.1 (hnS (i+1) (by omega)));rw[hg,getD_set_ne false (by omega),hA1]at h6;cases h6
    subst hk1;have hdst2:o2.dst=qP ops (i+1):=by simp[qP,ho2]
    refine wpOp_step ho2 λK2 hK2=>?_
    refine hal o2 ho2 _ w' (jQ hR.size (hRs _ _ hRel)) K2 (λy w2 hE2 hy=>hK2 _ _ ?_);rw[hdst2,hput _ (i+1) y (by omega)]
    have hl2:(qG ops.size (i+1)).setIfInBounds (i+1) true=qG ops.size (i+2):=hfirst (i+2) _ (by rw[<-hl];simp[hs]) (λj hj=>by
     by_cases hij:i+1=j
     ·subst hij;simp[hA0]
     ·rw[getD_set_ne false hij,hg];by_cases hij2:i=j
      ·subst hij2;simp[hil]
      ·rw[getD_set_ne false hij2];exact hall j (by omega)) (λj hj=>by
     rw[getD_set_ne false (by omega),hg,getD_set_ne false (by omega)];rcases jU j (i+3)with h|h
     ·obtain rfl:j=i+2:=by omega
      exact hS
     ·exact hout j h)
    rw[hl2];refine hend _ _ ?_ (by simpa only[xW,if_true]using hy);simp only[xW];rw[if_neg (by omega)];exact hstP _ _ _ hE2 (by simpa only[xW,if_true]using hG)
  ·have hnext:∀x w',Ext w w'->L i x w'->K ((qT ops v a0 (n+2)).put o.dst x) w':=λx w' hE hx=>hK _ _ (by
    rw[hdst,hput v i x (by omega)];rw[if_pos (show i<n+2 by omega)]at hdn;refine ih _ _ _ (by simp[hs]) (by rw[getD_set_ne false hin];exact hn) (by rw[getD_set_ne false hi2];exact hS) (by omega) hcl' (hR.trans hE) (λj hj hlj=>?_) (λhlj=>?_)
    ·by_cases hij:j=i
     ·subst hij;simpa only[xW,if_true]using hx
     ·rw[getD_set_ne false (Ne.symm hij)]at hlj;simp only[xW];rw[if_neg hij];exact hst j hj _ _ _ hE (hZ j hj hlj)
    ·by_cases hij:n+1=i
     ·rw[<-hij]at hx;simpa only[xW,<-hij,if_true]using hx
     ·rw[getD_set_ne false (Ne.symm hij)]at hlj;simp only[xW];rw[if_neg hij]
      exact hstA _ _ _ hE (hA hlj))
   rcases(show i<n\/i=n+1 by omega)with hin'|hin'
   ·refine hop i hin' o ho v w hR (λj hj=>?_) K hnext;have hjl:=hups j hj;rcases jU j n with h|h
    ·exact hZ j h hjl
    ·rcases(show j=n\/j=n+1\/j=n+2\/n+3<=j by omega)with rfl|rfl|rfl|h1
     ·rw[hn]at hjl;cases hjl
     ·exact hA hjl
     ·rw[hS]at hjl;cases hjl
     ·rw[hout j h1]at hjl;cases hjl
   ·subst hin';exact hal o ho v w hR.size K hnext
theorem rgC(n:Nat)(ds:List (Option Tmp))(L:List (Value->World->Prop))(Rel:World->World->Prop)(fS:Value->World->Prop){a0:Act}{w0:World}{id:Nat}{oc oa:Oper}
  (hop:RgAll P .any ops Q ds a0 w0 L [] 0 n ops.toList)
  (hcall:∀(v:Nat->Value) (w:World),Ext w0 w->(∀j,j<n->L.getD j (λ_ _=>True) (v j) w)->∀K:Act->World->Prop,Shut (∀x w',Rel w w'->fS x w'->K ((qW v a0 0 ds).put oc.dst x) w')->Oper.wp P oc (qW v a0 0 ds) w K Q)
  (hal:∀w,w0.heap.size<=w.heap.size->Ok P ops Q ds a0 w L [] (n+1) oa)
  (hend:∀v w,fS (v n) w->L.getD (n+1) (λ_ _=>True) (v (n+1)) w->wpAny P .any ops Q 1 (qG ops.size (n+2)) (qW v a0 0 ds) w)
  (hstP:Stb fS) (hRA:∀x w w',Rel w w'->L.getD (n+1) (λ_ _=>True) x w->L.getD (n+1) (λ_ _=>True) x w') (hRs:∀w w',Rel w w'->w.heap.size<=w'.heap.size)
  (hst:AllStb L)
  (hoc:ops[n]? =some oc:=by rfl) (hoa:ops[n+1]? =some oa:=by rfl) (hgc:oc.guard=none:=by rfl) (hga:oa.guard=none:=by rfl)
  (hm:P.follows .mixedOrders=true:=by kernel_rfl) (hsz:ops.size=n+3:=by kernel_rfl) (hds:(List.range (n+2)).map (qP ops)=ds:=by kernel_rfl) (hap:qO ops (n+2)=true:=by kernel_rfl)
  (hnd:(List.range n).all (λi=>(qS .any ops i).all λe=>decide (e<i))=true:=by kernel_rfl) (hnA:qS .any ops (n+1)= []:=by kernel_rfl)
  (hnC:(List.range n).all (λi=>(ups .any ops n).contains i)=true:=by kernel_rfl) (hnC2:(qS .any ops n).all (λe=>decide (e<n))=true:=by kernel_rfl) (hnS:(List.range (n+2)).all (λi=>(ups .any ops (n+2)).contains i)=true:=by kernel_rfl):
  (Code.region id ops true).wp P Q a0 w0:=by
 simp only[List.all_eq_true,List.mem_range,jY]at hnd hnC hnC2 hnS;refine wp_region_any hm ?_;have hlay:∀v,qT ops v a0 (n+2)=qW v a0 0 ds:=λv=>qY v a0 (n+2) ds hds
 have hD:∀m,qU (Array.replicate ops.size false) m=0:=λm=>by
  unfold qU;rw[List.countP_eq_zero.2];intro i _;simp[qH]
 have hLF:∀i,(Array.replicate ops.size false).getD i false=false:=λi=>by simpa using qH ops.size i
 have:=rgC_main (P:=P) (md:=.any) (ops:=ops) (Q:=Q) n (λi=>L.getD i (λ_ _=>True)) Rel fS (a0:=a0) (w0:=w0) hsz hap hnd hnA hnC hnC2 hnS (λi _=>hst.get i) (hst.get _) hstP hRA
  (fun i hi o ho v w hE hd K hK=>by
   have h1:=RgAll.get n 0 ops.toList hop i hi o jt;rw[Nat.zero_add]at h1;rw[hlay]
   exact h1 v w hE hd K (λx w' hE' hx _=>by have:=hK x w' hE' hx;rwa [hlay]at this))
  (fun o ho v w hw K hK=>by
   rw[hoa]at ho;obtain rfl:=Option.some.inj ho;rw[hlay,if_pos (by simp[Region.wanted,hga])]
   exact(hal w hw).out v _ w (Ext.refl w) (λj hj=>by
    have:qS .any ops (n+1)= []:=hnA
    have h2:ups .any ops (n+1)= []:=by
     unfold ups;rw[this]
     have:∀k,sweep .any ops k []= []:=λk=>by
      induction k with
      |zero=>rfl
      |succ k ih=>unfold sweep;simpa using ih
     exact this _
    rw[h2]at hj;cases hj) (Fr.of ds a0 v) K (λx w' hE' hx _=>by have:=hK x w' hE' hx;rwa [hlay]at this))
  hRs
  (fun o ho v w hE hd K hK=>by
   rw[hoc]at ho;obtain rfl:=Option.some.inj ho;rw[hlay,if_pos (by simp[Region.wanted,hgc])]
   exact hcall v w hE hd K (λx w' hR hx=>by have:=hK x w' hR hx;rwa [hlay]at this))
  (λv w h1 h2=>by rw[hlay];exact hend v w h1 h2)
  (n+3) (Array.replicate ops.size false) (xT ops a0) w0.drew (by simp) (hLF _) (hLF _) (by rw[hD]) (λi hi=>by rw[hLF]at hi;cases hi) (Ext.refl w0).drew (λi _ hi=>by rw[hLF]at hi;cases hi) (λhi=>by rw[hLF]at hi;cases hi)
 have hself:qT ops (xT ops a0) a0 (n+2)=a0:=layN_self a0 (n+2);rw[hself]at this;rw[hsz]at this ⊢;exact this
end
def IsNb(B:Nat)(vs:List Value):Value->World->Prop:=λx w=>∃g,x=.pointer (some ⟨g,0,none⟩)/\B<=g/\Bk w g vs
theorem IsNb.stb(B:Nat)(vs:List Value):Stb (IsNb B vs):=λ_ _ _ e ⟨g,h1,h2,h3⟩=>⟨g,h1,h2,h3.ext e⟩
instance (B:Nat) (vs:List Value):StbC (IsNb B vs):=⟨IsNb.stb B vs⟩
section
variable {P:Program} {ops:Array Oper} {Q:Exit->Act->World->Prop} {ds:List (Option Tmp)} {a0:Act} {w0:World} {L:List (Value->World->Prop)} {boxes:List Nat} {i k:Nat} {o:Oper} {os:List Oper}
theorem alB{T:Nat}{B:Nat}{vs:List Value}(hr:∀w,(Instr.alloc T true (.tuple #[])).run P w=.ok (.pointer (some ⟨w.heap.size,0,none⟩)) (w.alloc (.cells vs.toArray T)))(hB:B<=w0.heap.size)(ho:o.op=.alloc T:=by rfl)(hi:L.getD i (λ_ _=>True)=IsNb B vs:=by kernel_rfl)(hb:boxes.contains i=false:=by kernel_rfl):Ok P ops Q ds a0 w0 L boxes i o:=
 ⟨fun v a w hE hd hf K hK=>by
  have hrun:(execOp a.eval o).run P w=.ok (.value (.pointer (some ⟨w.heap.size,0,none⟩))) (w.alloc (.cells vs.toArray T)):=by
   unfold execOp;rw[ho];dsimp only;simp[hr w]
  unfold Oper.wp;rw[hrun]
  exact hK.out _ _ ((Ext.refl w).alloc _) (by rw[hi];exact⟨_,rfl,jQ hB hE.size,Bk.new w vs.toArray T⟩) (FreshIf.no hb)⟩
end
theorem al_Kn(w:World):(Instr.alloc 176 true (.tuple #[])).run Tryz.prog w=.ok (.pointer (some ⟨w.heap.size,0,none⟩)) (w.alloc (.cells [.bool false,.slice none 0 0,.bool false,.slice none 0 0,.bool false].toArray 176)):=by go_simp
end
section
open Go Go.RowKit
/-! ### What is computed -/
inductive Ex where
 |num (z:Int)
 |var (s:ByteArray)
 |cell (s:ByteArray)
 |val (s:ByteArray) (n:Int)
 |loop (fst:Bool) (s:ByteArray) (lo hi:Int) (b:Ex)
 |bin (op:Int) (a b:Ex)
abbrev Env:=List (ByteArray×Int)
def look:Env ->ByteArray ->Int
 | [],_ =>0
 | (_y,k) ::t,x =>if t.any (λp =>p.1 ==x)then look t x else k
structure Tr where
 sure:Int
 opn:Int
 first:Int
 last:Int
 next:Int
 fin:Bool
abbrev Res(α:Type):=Except Int α
def Tr.step(fst:Bool)(t:Tr)(q:Kn):Tr×Bool:=
 if q.lo =0/\q.hi =0 then(⟨t.sure,t.opn,t.first,t.last,t.next + 1,t.fin && q.fin⟩,false)
 else if q.lo <=0/\0 <=q.hi then(⟨t.sure,t.opn + 1,min t.first t.next,t.last,t.next + 1,t.fin && q.fin⟩,false)
 else if fst then(⟨t.sure + 1,t.opn,min t.first t.next,t.next,t.next,t.fin && q.fin⟩,true)
 else(⟨t.sure + 1,t.opn,min t.first t.next,t.last,t.next + 1,t.fin && q.fin⟩,false)
def Tr.stop(hi:Int)(t:Tr):Tr:=⟨t.sure,t.opn,min t.first t.next,t.last,t.next,t.fin && decide (hi < t.next)⟩
section
variable {σ:Type}
abbrev Mst(σ:Type):=Nat×σ
def xQ(f:Int ->Mst σ ->Res Kn×Mst σ)(fst:Bool)(hi:Int):Nat ->Tr ->Mst σ ->Res Tr×Mst σ
 |0,t,st =>(.ok (t.stop hi),st)
 | k + 1,t,st =>
  if t.next <=hi/\0 < st.1 then
   match f t.next (st.1 - 1,st.2)with
   | (.error n,st') =>(.error n,st')
   | (.ok q,st') =>match t.step fst q with
    | (t',true) =>(.ok t',st')
    | (t',false) =>xQ f fst hi k t' st'
  else(.ok (t.stop hi),st)
def xU(q:Kn):Res Kn:=if 4096 < max (bitLen q.lo.natAbs) (bitLen q.hi.natAbs)then .error 2 else .ok q
def mul4(a b:Kn):Kn:=⟨min (min (min (a.lo * b.lo) (a.lo * b.hi)) (a.hi * b.lo)) (a.hi * b.hi),max (max (max (a.lo * b.lo) (a.lo * b.hi)) (a.hi * b.lo)) (a.hi * b.hi),false⟩
def opV(op:Int)(a b:Kn):Res Kn:=
 if op =4 then xU ⟨a.lo + b.lo,a.hi + b.hi,false⟩
 else if op =5 then xU ⟨a.lo - b.hi,a.hi - b.lo,false⟩
 else if op =6 then xU (mul4 a b)
 else if op =7 then .ok ⟨min a.lo b.lo,min a.hi b.hi,false⟩
 else if op =8 then .ok ⟨max a.lo b.lo,max a.hi b.hi,false⟩
 else if op =12 then .ok (xI (decide (a.hi < b.lo)) (decide (b.hi <=a.lo)))
 else .ok (xI (decide (a.lo =b.hi) && decide (b.lo =a.hi)) (decide (a.hi < b.lo) || decide (b.hi < a.lo)))
structure Mem (σ:Type) where
 cl:ByteArray ->σ ->Res Kn×σ
 vl:ByteArray ->Int ->Env ->σ ->Res Kn×σ
def ev(M:Mem σ):Ex ->Env ->Mst σ ->Res Kn×Mst σ
 | .num z,_,st =>(.ok ⟨z,z,true⟩,st)
 | .var x,env,st =>(.ok ⟨look env x,look env x,true⟩,st)
 | .cell x,_,st =>((M.cl x st.2).1,(st.1,(M.cl x st.2).2))
 | .val x n,env,st =>((M.vl x n env st.2).1,(st.1,(M.vl x n env st.2).2))
 | .loop fst x lo hi b,env,st =>
  match xQ (λn st =>ev M b (env ++ [(x,n)]) st) fst hi (hi + 1 - lo).toNat ⟨0,0,hi + 1,hi + 1,lo,true⟩ st with
  | (.error n,st') =>(.error n,st')
  | (.ok t,st') =>(.ok (if fst then⟨t.first,t.last,t.fin⟩else⟨t.sure,t.sure + t.opn + hi + 1 - t.next,t.fin⟩),st')
 | .bin op a b,env,st =>
  match ev M a env st with
  | (.error n,st') =>(.error n,st')
  | (.ok p,st') =>match ev M b env st' with
   | (.error n,st2) =>(.error n,st2)
   | (.ok q,st2) =>match opV op p q with
    | .error n =>(.error n,st2)
    | .ok r =>(.ok ⟨r.lo,r.hi,p.fin && q.fin⟩,st2)
end
def wfE(C:ByteArray ->Prop)(V:ByteArray ->Int ->Env ->Prop):Ex ->Env ->Prop
 | .num z,_ =>z.natAbs < 4294967296 ^ 128
 | .var x,env =>env.any (λp =>p.1 ==x)=true/\ -9223372036854775808 <=look env x/\look env x <=9223372036854775807
 | .cell x,_ =>C x
 | .val x n,env =>V x n env
 | .loop _ x lo hi b,env =>env.length < 1000000/\ -1099511627776 <=lo/\lo <=hi + 1/\hi <=1099511627776/\∀n,lo <=n ->n <=hi ->wfE C V b (env ++ [(x,n)])
 | .bin op a b,env =>(op =4\/op =5\/op =6\/op =7\/op =8\/op =12\/op =13)/\wfE C V a env/\wfE C V b env
/-! ### The machine in memory -/
structure Rm (h:Nat) (w w':World):Prop where
 os:w'.os =w.os
 tape:w'.tape =w.tape
 output:w'.output =w.output
 size:w.heap.size <=w'.heap.size
 block:∀k,k < w.heap.size ->(k < h\/h + 3 <=k) ->w'.heap[k]? =w.heap[k]?
 gr:Gr w w'
theorem Rm.refl(h:Nat)(w:World):Rm h w w:=⟨rfl,rfl,rfl,jP _,λ_ _ _ =>rfl,Gr.refl w⟩
theorem Rm.trans{h:Nat}{a b c:World}(x:Rm h a b)(y:Rm h b c):Rm h a c:=
 ⟨y.os.trans x.os,y.tape.trans x.tape,y.output.trans x.output,jQ x.size y.size,λk hk hh =>(y.block k (Nat.lt_of_lt_of_le hk x.size) hh).trans (x.block k hk hh),x.gr.trans y.gr⟩
theorem Rm.ext{h:Nat}{w w':World}(e:Ext w w'):Rm h w w':=⟨e.os,e.tape,e.output,e.size,λk hk _ =>e.block k hk,e.gr⟩
theorem Rm.bk{h:Nat}{w w':World}(r:Rm h w w'){g:Nat}{vs:List Value}(B:Bk w g vs)(hg:g < h\/h + 3 <=g):Bk w' g vs:=by
 have hb:=r.block g B.lt hg
 exact⟨λj v hj =>(World.cell?_of_block (w:=w) (a:=⟨g,j,none⟩) hb).trans (B.c j v hj),λj =>(World.frozen?_of_block (w:=w) (a:=⟨g,j,none⟩) hb).trans (B.f j),Nat.lt_of_lt_of_le B.lt r.size⟩
theorem Rm.cell{h:Nat}{w w':World}(r:Rm h w w'){p:Addr}{v:Value}(hc:World.cell? w p =some v)(hg:p.block < h\/h + 3 <=p.block):World.cell? w' p =some v:=
 (World.cell?_of_block (w:=w) (r.block p.block (World.block_lt_of_cell? w p hc) hg)).trans hc
structure Mc where
 h:Nat
 cs:Value
 vs:Value
 sv:Value
 gs:Value
def Mc.cells(m:Mc)(left:Nat):List Value:= [m.cs,m.vs,m.sv,m.gs,.int .i64 (left:Int),.map (some m.h),.map (some (m.h + 1))]
structure MAt (m:Mc) (left:Nat) (w:World):Prop where
 bk:Bk w (m.h + 2) (m.cells left)
 fit:left <=100000
theorem MAt.ext{m:Mc}{left:Nat}{w w':World}(x:MAt m left w)(e:Ext w w'):MAt m left w':=⟨x.bk.ext e,x.fit⟩
def MapInv{σ:Type}(h:Nat)(J:σ ->World ->Prop):Prop:=∀s w w',J s w ->Below h w w' ->w'.heap[h]? =w.heap[h]? ->w'.heap[h + 1]? =w.heap[h + 1]? ->J s w'
def EvP{σ:Type}(m:Mc)(J:σ ->World ->Prop)(w:World)(r:Res Kn×Mst σ):Ending ->World ->Prop:=λe w' =>
 Rm m.h w w'/\MAt m r.2.1 w'/\J r.2.2 w'/\match r.1 with
  | .ok q =>∃v,e =.returned v/\IsK 128 q v w'
  | .error n =>e =.panicked (pan n)
/-! ### Expressions and bound variables in memory -/
def IsNd(h:Nat):Ex ->List Value ->World ->Prop
 | .num z,us,w =>∃(nm:ByteArray) (k:Int) (s:Bool) (a:Option Addr) (n c:Nat) (lo hi:Int) (A:Value),us = [.int .i64 1,.string nm,.int .i64 k,.bool s,.slice a n c,.int .i64 lo,.int .i64 hi,A]/\IsI 128 z (.agg #[.bool s,.slice a n c]) w
 | .var x,us,_ =>∃(k:Int) (s:Bool) (a:Option Addr) (n c:Nat) (lo hi:Int) (A:Value),us = [.int .i64 11,.string x,.int .i64 k,.bool s,.slice a n c,.int .i64 lo,.int .i64 hi,A]
 | .cell x,us,_ =>∃(k:Int) (s:Bool) (a:Option Addr) (n c:Nat) (lo hi:Int) (A:Value),us = [.int .i64 2,.string x,.int .i64 k,.bool s,.slice a n c,.int .i64 lo,.int .i64 hi,A]
 | .val x j,us,_ =>∃(s:Bool) (a:Option Addr) (n c:Nat) (lo hi:Int) (A:Value),us = [.int .i64 3,.string x,.int .i64 j,.bool s,.slice a n c,.int .i64 lo,.int .i64 hi,A]
 | .loop fst x lo hi b,us,w =>∃(k:Int) (s:Bool) (a:Option Addr) (n c:Nat) (g o m cp:Nat),us = [.int .i64 (if fst then 10 else 9),.string x,.int .i64 k,.bool s,.slice a n c,.int .i64 lo,.int .i64 hi,.slice (some ⟨g,o,none⟩) m cp]/\1 <=m/\m <=9223372036854775807/\g < h/\
   ∃vs:List Value,vs.length =8/\ (∀j v,vs[j]? =some v ->World.cell? w ⟨g,o + j,none⟩=some v)/\IsNd h b vs w
 | .bin op p q,us,w =>∃(x:ByteArray) (k:Int) (s:Bool) (a:Option Addr) (n c:Nat) (lo hi:Int) (g o m cp:Nat),us = [.int .i64 op,.string x,.int .i64 k,.bool s,.slice a n c,.int .i64 lo,.int .i64 hi,.slice (some ⟨g,o,none⟩) m cp]/\2 <=m/\m <=9223372036854775807/\g < h/\
   (∃vs:List Value,vs.length =8/\ (∀j v,vs[j]? =some v ->World.cell? w ⟨g,o + j,none⟩=some v)/\IsNd h p vs w)/\
   ∃vs:List Value,vs.length =8/\ (∀j v,vs[j]? =some v ->World.cell? w ⟨g,o + 8 + j,none⟩=some v)/\IsNd h q vs w
theorem IsNd.rm{h:Nat}{w w':World}(r:Rm h w w'):∀ {e:Ex} {us:List Value},IsNd h e us w ->IsNd h e us w'
 | .num _z,_us,⟨nm,k,s,a,n,c,lo,hi,A,h1,h2⟩ =>⟨nm,k,s,a,n,c,lo,hi,A,h1,IsI.gstb _ _ _ _ _ r.gr h2⟩
 | .var _x,_us,H =>H
 | .cell _x,_us,H =>H
 | .val _x _j,_us,H =>H
 | .loop _fst _x _lo _hi _b,_us,⟨k,s,a,n,c,g,o,m,cp,h1,h2,h3,h4,vs,h5,h6,h7⟩ =>⟨k,s,a,n,c,g,o,m,cp,h1,h2,h3,h4,vs,h5,λj v hj =>r.cell (h6 j v hj) (.inl h4),IsNd.rm r h7⟩
 | .bin _op _p _q,_us,⟨x,k,s,a,n,c,lo,hi,g,o,m,cp,h1,h2,h3,h4,⟨vs,h5,h6,h7⟩,vs',h5',h6',h7'⟩ =>
  ⟨x,k,s,a,n,c,lo,hi,g,o,m,cp,h1,h2,h3,h4,⟨vs,h5,λj v hj =>r.cell (h6 j v hj) (.inl h4),IsNd.rm r h7⟩,vs',h5',λj v hj =>r.cell (h6' j v hj) (.inl h4),IsNd.rm r h7'⟩
theorem IsNd.len{h:Nat}{e:Ex}{us:List Value}{w:World}(H:IsNd h e us w):us.length =8:=by
 cases e <;> simp only[IsNd]at H
 ·obtain⟨_,_,_,_,_,_,_,_,_,rfl,_⟩ :=H;rfl
 ·obtain⟨_,_,_,_,_,_,_,_,rfl⟩ :=H;rfl
 ·obtain⟨_,_,_,_,_,_,_,_,rfl⟩ :=H;rfl
 ·obtain⟨_,_,_,_,_,_,_,rfl⟩ :=H;rfl
 ·obtain⟨_,_,_,_,_,_,_,_,_,rfl,_⟩ :=H;rfl
 ·obtain⟨_,_,_,_,_,_,_,_,_,_,_,_,rfl,_⟩ :=H;rfl
def IsEnv(h:Nat)(env:Env):Value ->World ->Prop:=λx w =>env.length <=1000000/\∃ao cp,x =.slice ao env.length cp/\cp <=9223372036854775807/\env.length <=cp/\ (env = [] ->ao =none/\cp =0)/\
 (env≠ [] ->∃g,ao =some ⟨g,0,none⟩/\h + 3 <=g/\g < w.heap.size/\∀i y k,env[i]? =some (y,k) ->World.cell? w ⟨g,2 * i,none⟩=some (.string y)/\World.cell? w ⟨g,2 * i + 1,none⟩=some (.int .i64 k))
theorem IsEnv.rm{h:Nat}{env:Env}{x:Value}{w w':World}(H:IsEnv h env x w)(r:Rm h w w'):IsEnv h env x w':=by
 obtain⟨h0,ao,cp,h1,h2,h3,h4,h5⟩ :=H
 refine⟨h0,ao,cp,h1,h2,h3,h4,λhne =>?_⟩
 obtain⟨g,g1,g2,g3,g4⟩ :=h5 hne
 exact⟨g,g1,g2,Nat.lt_of_lt_of_le g3 r.size,λi y k hi =>⟨r.cell (g4 i y k hi).1 (.inr g2),r.cell (g4 i y k hi).2 (.inr g2)⟩⟩
instance (h:Nat) (env:Env):StbC (IsEnv h env) :=⟨λ_ _ _ e H =>IsEnv.rm H (Rm.ext e)⟩
theorem IsEnv.nil(h:Nat)(w:World):IsEnv h [] (.slice none 0 0) w:=⟨by decide,none,0,rfl,by decide,by decide,λ_ =>⟨rfl,rfl⟩,λh =>absurd rfl h⟩
end
section
open Go Go.RowKit
open Go.Proofs.Tryz
theorem ja{P:Prop}(h:P:=by go_simp):P:=h
theorem xf{P:Prop}(h:P:=by simp[Value.oneCell']):P:=h
structure OnlyB (g:Nat) (w w':World):Prop where
 os:w'.os=w.os
 tape:w'.tape=w.tape
 output:w'.output=w.output
 size:w'.heap.size=w.heap.size
 block:∀k,k≠g->w'.heap[k]? =w.heap[k]?
 gr:Gr w w'
theorem OnlyB.ext{g:Nat}{b w w':World}(h:OnlyB g w w')(E:Ext b w)(hg:b.heap.size<=g):Ext b w':=
 ⟨h.os.trans E.os,h.tape.trans E.tape,h.output.trans E.output,by rw[h.size];exact E.size,λk hk=>(h.block k (by omega)).trans (E.block k hk)⟩
theorem OnlyB.rm{g m:Nat}{b w w':World}(h:OnlyB g w w')(R:Rm m b w)(hg:b.heap.size<=g):Rm m b w':=
 ⟨h.os.trans R.os,h.tape.trans R.tape,h.output.trans R.output,by rw[h.size];exact R.size,λk hk hm=>(h.block k (by omega)).trans (R.block k hk hm),R.gr.trans h.gr⟩
theorem OnlyB.own{m:Nat}{w w':World}(h:OnlyB (m+2) w w'):Rm m w w':=
 ⟨h.os,h.tape,h.output,by rw[h.size];exact jP _,λk _ hm=>h.block k (by omega),h.gr⟩
theorem OnlyB.bk{g g':Nat}{w w':World}{vs:List Value}(h:OnlyB g w w')(B:Bk w g' vs)(hg:g'≠g):Bk w' g' vs:=by
 have hb:=h.block g' hg;exact⟨λj v hj=>(World.cell?_of_block (w:=w) (a:=⟨g',j,none⟩) hb).trans (B.c j v hj),λj=>(World.frozen?_of_block (w:=w) (a:=⟨g',j,none⟩) hb).trans (B.f j),by rw[h.size];exact B.lt⟩
theorem Bk.setO{w:World}{g:Nat}{vs:List Value}(B:Bk w g vs)(j:Nat)(hj:j<vs.length)(u:Value)(hn:NoWord (vs[j])):OnlyB g w (w.setCell ⟨g,j,none⟩ u)/\Bk (w.setCell ⟨g,j,none⟩ u) g (vs.set j u):=by
 obtain⟨W',h1,h2,_,h4,_,h6⟩:=B.set1 j hj u hn (jS 0 w |> λh=>(show Ext ⟨#[],w.tape,w.drawn,w.os,w.output⟩ w from⟨h.os,h.tape,h.output,Nat.zero_le _,λk hk=>absurd hk (Nat.not_lt_zero _)⟩)) (Nat.zero_le _);subst h1;exact⟨⟨rfl,rfl,rfl,h6,λk hk=>Below.heap_setCell w ⟨g,j,none⟩ u k hk,h4⟩,h2⟩
theorem setL_block:∀(us:List Value) (W:World) (g j k:Nat),k≠g->(xJ W g j us).heap[k]? =W.heap[k]?
 | [],_,_,_,_,_=>rfl
 | u ::us,W,g,j,k,hk=>by
  unfold xJ;rw[setL_block us _ g (j+1) k hk];exact Below.heap_setCell W ⟨g,j,none⟩ u k hk
theorem setL_same:∀(us:List Value) (W:World) (g j:Nat),(xJ W g j us).os=W.os/\(xJ W g j us).tape=W.tape/\(xJ W g j us).output=W.output
 | [],_,_,_=>⟨rfl,rfl,rfl⟩
 | u ::us,W,g,j=>by
  unfold xJ;exact setL_same us _ g (j+1)
theorem Bk.putO{w:World}{g:Nat}{vs us:List Value}(B:Bk w g vs)(hl:us.length=vs.length)(hn:∀v∈vs,NoWord v):OnlyB g w (xJ w g 0 us)/\Bk (xJ w g 0 us) g us:=by
 obtain⟨W',h1,h2,_,h4,_,h6⟩:=B.put hl hn (show Ext ⟨#[],w.tape,w.drawn,w.os,w.output⟩ w from⟨rfl,rfl,rfl,Nat.zero_le _,λk hk=>absurd hk (Nat.not_lt_zero _)⟩) (Nat.zero_le _);subst h1;obtain⟨s1,s2,s3⟩:=setL_same us w g 0;exact⟨⟨s1,s2,s3,h6,λk hk=>setL_block us w g 0 k hk,h4⟩,h2⟩
theorem NoWord.int64(z:Int):NoWord (.int .i64 z):=λx=>by simp
theorem NoWord.string(s:ByteArray):NoWord (.string s):=λx=>by simp
section
variable {P:Program} {ops:Array Oper} {Q:Exit->Act->World->Prop} {ds:List (Option Tmp)} {a0:Act} {w0:World} {L:List (Value->World->Prop)} {boxes:List Nat} {i k:Nat} {o:Oper} {os:List Oper}
theorem qZ{W:World}{g m:Nat}{vs us:List Value}{a:Act}{K:Act->World->Prop}{T:Nat}{x y:Operand}(B:Bk W g vs)(hT:StV P T m)(hl:vs.length=m)(hl':us.length=m)(hn:∀v∈vs,NoWord v)
  (h:∀W',Bk W' g us->OnlyB g W W'->K a W')
  (ho:o.op=.store T x y:=by rfl) (hd:o.dst=none:=by rfl) (hx:a.eval x=.pointer (some ⟨g,0,none⟩):=by kernel_rfl) (hy:a.eval y=.agg us.toArray:=by kernel_rfl) (ho1:us.all (λu=>u.oneCell')=true:=by rfl):Oper.wp P o a W K Q:=by
 obtain⟨h1,h2⟩:=B.putO (us:=us) (by omega) hn;refine st_wp ho hx hy (hT W g vs us hl hl' ho1 B) ?_;rw[hd];exact h _ h2 h1
def StC1(P:Program)(T:TypeId)(u:Value):Prop:=∀(w:World) (a:Addr) (v:Value),w.cell? a=some v->w.frozen? a=false->(Instr.storeAt T (.pointer (some a)) u).run P w=.ok () (w.setCell a u)
theorem stCO{W:World}{g:Nat}(j:Nat){vs:List Value}{u v:Value}{a:Act}{K:Act->World->Prop}{T:Nat}{x y:Operand}(B:Bk W g vs)(hT:StC1 P T u)(hv:vs[j]? =some v)(hn:NoWord v)
  (h:∀W',Bk W' g (vs.set j u)->OnlyB g W W'->K a W')
  (ho:o.op=.store T x y:=by rfl) (hd:o.dst=none:=by rfl) (hx:a.eval x=.pointer (some ⟨g,j,none⟩):=by kernel_rfl) (hy:a.eval y=u:=by kernel_rfl):Oper.wp P o a W K Q:=by
 have hj:j<vs.length:=(List.getElem?_eq_some_iff.1 hv).1;have hvj:vs[j]=v:=(List.getElem?_eq_some_iff.1 hv).2;obtain⟨h1,h2⟩:=B.setO j hj u (by rw[hvj];exact hn);refine st_wp ho hx hy (hT W _ v (B.c j v hv) (B.f j)) ?_;rw[hd];exact h _ h2 h1
theorem nc{x:Operand}{p:Addr}(hx:Od ops ds a0 w0 L i x (IsV (.pointer (some p))))(ho:o.op=.nilCheck x:=by rfl)(hi:L.getD i (λ_ _=>True)=IsV (.pointer (some p)):=by kernel_rfl)(hb:boxes.contains i=false:=by kernel_rfl):Ok P ops Q ds a0 w0 L boxes i o:=
 Ok.of hb λv a w hE hd hf=>by
  have h1:a.eval x=_:=hx.out v a w hE hd hf;refine⟨_,?_,by rw[hi];exact rfl⟩;unfold execOp;rw[ho];dsimp only;rw[h1]
  go_simp
theorem ixq{x y:Operand}{T:Nat}{p u r:Value}(hr:∀w,(Instr.indexAt T p u).run P w=.ok r w)(hx:Od ops ds a0 w0 L i x (IsV p))(hy:Od ops ds a0 w0 L i y (IsV u))(ho:o.op=.indexAddr T x y:=by rfl)(hi:L.getD i (λ_ _=>True)=IsV r:=by kernel_rfl)(hb:boxes.contains i=false:=by kernel_rfl):Ok P ops Q ds a0 w0 L boxes i o:=
 Ok.of hb λv a w hE hd hf=>by
  have h1:a.eval x=p:=hx.out v a w hE hd hf;have h2:a.eval y=u:=hy.out v a w hE hd hf;refine⟨r,?_,by rw[hi];exact rfl⟩;have:=hr w;unfold execOp;rw[ho];dsimp only;rw[h1,h2];simp[this]
end
set_option maxRecDepth 100000
section
variable {ops:Array Oper} {Q:Exit->Act->World->Prop} {ds:List (Option Tmp)} {a0:Act} {w0:World} {L:List (Value->World->Prop)} {boxes:List Nat} {i k:Nat} {o:Oper} {os:List Oper}
theorem lenV{ao:Option Addr}{n c:Nat}{x:Operand}(hx:Od ops ds a0 w0 L i x (IsV (.slice ao n c)))(ho:o.op=.call {callee:=.builtin .len,args:= #[x],argTypes:= #[197]} :=by rfl)(hi:L.getD i (λ_ _=>True)=iV (n:Int):=by kernel_rfl)(hb:boxes.contains i=false:=by kernel_rfl):Ok prog ops Q ds a0 w0 L boxes i o:=
 Ok.of hb λv a w hE hd hf=>by
  have h1:a.eval x=_:=hx.out v a w hE hd hf;refine⟨_,?_,by rw[hi];exact rfl⟩;unfold execOp;rw[ho];dsimp only;unfold resolve;simp only[List.map_toArray,List.map_cons,List.map_nil,h1]
  go_simp
theorem slV{ao:Option Addr}{n c:Nat}{x y z:Operand}(hao:ao=none->n=0/\c=0)(hnc:n<=c)(hc:c<=9223372036854775807)(hx:Od ops ds a0 w0 L i x (IsV (.slice ao n c)))(hy:Od ops ds a0 w0 L i y (iV (n:Int)))(hz:Od ops ds a0 w0 L i z (iV (n:Int)))(ho:o.op=.slice 197 x none (some y) (some z):=by rfl)(hi:L.getD i (λ_ _=>True)=IsV (.slice ao n n):=by kernel_rfl)(hb:boxes.contains i=false:=by kernel_rfl):Ok prog ops Q ds a0 w0 L boxes i o:=
 Ok.of hb λv a w hE hd hf=>by
  have h1:a.eval x=_:=hx.out v a w hE hd hf;have h2:a.eval y=_:=hy.out v a w hE hd hf;have h3:a.eval z=_:=hz.out v a w hE hd hf;refine⟨_,?_,by rw[hi];exact rfl⟩;unfold execOp;rw[ho];dsimp only;rw[h1];simp only[Option.map_some,h2,h3];cases ao with
  | none=>
   obtain⟨rfl,rfl⟩:=hao rfl
   go_simp
  | some p=>
   have e1:(n:Int)<=(c:Int):=by omega
   have e2:(0:Int)<=(n:Int):=by omega
   go_simp
theorem bdV{x y:Operand}{s:ByteArray}{z:Int}(hx:Od ops ds a0 w0 L i x (IsV (.string s)))(hy:Od ops ds a0 w0 L i y (iV z))(ho:o.op=.build 200 #[(0,x),(1,y)]:=by rfl)(hi:L.getD i (λ_ _=>True)=IsV (.agg #[.string s,.int .i64 z]):=by kernel_rfl)(hb:boxes.contains i=false:=by kernel_rfl):Ok prog ops Q ds a0 w0 L boxes i o:=
 Ok.of hb λv a w hE hd hf=>⟨.agg #[.string s,.int .i64 z],bd_run ho (hx.out v a w hE hd hf) (hy.out v a w hE hd hf) ja,by rw[hi];exact rfl⟩
def IsOne(s:ByteArray)(z:Int):Value->World->Prop:=λx w=>∃g,x=.slice (some ⟨g,0,none⟩) 1 1/\World.cell? w ⟨g,0,none⟩=some (.string s)/\World.cell? w ⟨g,1,none⟩=some (.int .i64 z)
theorem IsOne.stb(s:ByteArray)(z:Int):Stb (IsOne s z):=λ_ _ _ e ⟨g,h1,h2,h3⟩=>⟨g,h1,e.cell h2,e.cell h3⟩
instance (s:ByteArray) (z:Int):StbC (IsOne s z):=⟨IsOne.stb s z⟩
theorem bsV{x:Operand}{s:ByteArray}{z:Int}(hx:Od ops ds a0 w0 L i x (IsV (.agg #[.string s,.int .i64 z])))(ho:o.op=.buildSlice 197 1 #[(0,x)]:=by rfl)(hi:L.getD i (λ_ _=>True)=IsOne s z:=by kernel_rfl)(hb:boxes.contains i=false:=by kernel_rfl):Ok prog ops Q ds a0 w0 L boxes i o:=
 ⟨fun v a w hE hd hf K hK=>by
  have h1:a.eval x=_:=hx.out v a w hE hd hf;have hr:(Instr.buildSlice 197 1 #[(0,.agg #[.string s,.int .i64 z])]).run prog w=.ok (.slice (some ⟨w.heap.size,0,none⟩) 1 1) (w.alloc (.cells #[.string s,.int .i64 z] 200)):=ja
  have hrun:(execOp a.eval o).run prog w=.ok (.value (.slice (some ⟨w.heap.size,0,none⟩) 1 1)) (w.alloc (.cells #[.string s,.int .i64 z] 200)):=by
   unfold execOp;rw[ho];dsimp only;simp only[List.map_toArray,List.map_cons,List.map_nil];rw[h1];simp[hr]
  unfold Oper.wp;rw[hrun];refine hK.out _ _ ((Ext.refl _).alloc _) ?_ (FreshIf.no hb);rw[hi]
  exact⟨_,rfl,by simp,by simp⟩⟩
end
def envL:Env->List Value
 | []=> []
 | (y,k) ::t=> .string y :: .int .i64 k ::envL t
theorem envL_len:∀env:Env,(envL env).length=env.length*2
 | []=>rfl
 | (y,k) ::t=>by simp only[envL,List.length_cons,envL_len t];omega
theorem envL_snoc(s:ByteArray)(z:Int):∀env:Env,envL (env++ [(s,z)])=envL env++ [.string s,.int .i64 z]
 | []=>rfl
 | (y,k) ::t=>by simp only[List.cons_append,envL,envL_snoc s z t]
theorem envL_get:∀(env:Env) (i:Nat) (y:ByteArray) (k:Int),env[i]? =some (y,k)->(envL env)[2*i]? =some (.string y)/\(envL env)[2*i+1]? =some (.int .i64 k)
 | (y',k') ::t,0,y,k,h=>by
  simp only[List.getElem?_cons_zero,Option.some.injEq,Prod.mk.injEq]at h;obtain⟨rfl,rfl⟩:=h;exact⟨rfl,rfl⟩
 | (y',k') ::t,i+1,y,k,h=>by
  have:=envL_get t i y k yw;rw[show 2*(i+1)=2*i+1+1 by omega]
  simpa only[envL,List.getElem?_cons_succ]using this
theorem envL_at:∀(env:Env) (j:Nat) (u:Value),(envL env)[j]? =some u->∃i y k,env[i]? =some (y,k)/\((j=2*i/\u=.string y)\/(j=2*i+1/\u=.int .i64 k))
 | (y',k') ::t,0,u,h=>⟨0,y',k',rfl,.inl ⟨rfl,by simpa [envL]using h.symm⟩⟩
 | (y',k') ::t,1,u,h=>⟨0,y',k',rfl,.inr ⟨rfl,by simpa [envL]using h.symm⟩⟩
 | (y',k') ::t,j+2,u,h=>by
  obtain⟨i,y,k,h1,h2⟩:=envL_at t j u (by simpa [envL]using h);exact⟨i+1,y,k,by simpa using h1,h2.imp (λh=>⟨by omega,h.2⟩) (λh=>⟨by omega,h.2⟩)⟩
theorem ext_of_grown{w w':World}(h:w.grownBy w' none):Ext w w':=(jS w.heap.size w).grown h (jP _) (λk hk=>by cases hk)
theorem apV_run{w:World}{h:Nat}{env:Env}{ao:Option Addr}{s:ByteArray}{z:Int}{g:Nat}{ty:TypeId}(hh:h+3<=w.heap.size)(henv:IsEnv h env (.slice ao env.length env.length) w)(hlen:env.length<1000000)(c0:World.cell? w ⟨g,0,none⟩=some (.string s))(c1:World.cell? w ⟨g,1,none⟩=some (.int .i64 z)):
  ∃v' w',(Builtin.append_ #[197,197] ty #[.slice ao env.length env.length,.slice (some ⟨g,0,none⟩) 1 1]).run prog w=.ok v' w'/\Ext w w'/\IsEnv h (env++ [(s,z)]) v' w':=by
 obtain⟨i,hi,hz0,hz1,hz2⟩:=info_parts (P:=prog) (e:=200) (z:=.agg #[.string ⟨#[]⟩,.int .i64 0]) (size:=2) (bytes:=24) za;have ht:prog.underlying 197=some (.slice 200):=za
 have hnews:∀j u, [Value.string s,.int .i64 z][j]? =some u->World.cell? w ((⟨g,0,none⟩:Addr).add j)=some u:=by
  intro j u hj;rcases j with _|_|j
  ·obtain rfl:Value.string s=u:=by simpa using hj
   simpa [Addr.add]using c0
  ·obtain rfl:Value.int .i64 z=u:=by simpa using hj
   simpa [Addr.add]using c1
  ·simp at hj
 have key:∃v' w',(Builtin.append_ #[197,197] ty #[.slice ao env.length env.length,.slice (some ⟨g,0,none⟩) 1 1]).run prog w=.ok v' w'/\w'.ownsRow w.heap.size 200 2 v' (env.length+1) (envL env++ [.string s,.int .i64 z])/\w.grownBy w' none:=by
  obtain⟨_,ao',cp,e1,_,_,e4,e5⟩:=henv;injection e1 with e1 _ e3;subst e1;cases env with
  | nil=>
   obtain⟨rfl,_⟩:=e4 rfl;obtain⟨v',w',hrun,r1,r2,_⟩:=run_append_own (P:=prog) w w.heap.size 197 ty 200 i _ 2 24 ht hi hz0 hz1 hz2 zb6 dcx (.slice none 0 0) 0 [] (World.ownsRow_nil w _ _ _) ⟨g,0,none⟩ 1 1 [.string s,.int .i64 z] rfl hnews xf dcx dcx (jP _);exact⟨v',w',hrun,r1,r2⟩
  | cons p t=>
   obtain⟨g',rfl,_,_,hc⟩:=e5 (by simp)
   obtain⟨v',w',hrun,r1,r2⟩:=run_append_arg_grows (P:=prog) w 197 ty 200 i _ 2 24 ht hi hz0 hz1 hz2 zb6 dcx ⟨g',0,none⟩ (p ::t).length (p ::t).length (envL (p ::t)) (envL_len _) (λj u hj=>by
     obtain⟨i,y,k,h1,h2⟩:=envL_at _ j u hj;have hci:=hc i y k h1;rcases h2 with⟨rfl,rfl⟩| ⟨rfl,rfl⟩
     ·rw[Addr.add_lit,Nat.zero_add];exact hci.1
     ·rw[Addr.add_lit,Nat.zero_add];exact hci.2) ⟨g,0,none⟩ 1 1 [.string s,.int .i64 z] rfl hnews (by omega) yl (by omega)
   exact⟨v',w',hrun,r1,r2⟩
 obtain⟨v',w',hrun,r1,r2⟩:=key;refine⟨v',w',hrun,ext_of_grown r2,by rw[jT];simp only[List.length_cons,List.length_nil];omega,?_⟩;obtain⟨ao2,cp,hv,hn,hc,hl,hcells⟩:=Rwg.shape (e:=200) (k:=2) r1;refine⟨ao2,cp,by rw[hv,jT];rfl,hc,by rw[jT];simpa using hn,λhe=>by simp at he,λ_=>?_⟩;obtain⟨g2,q1,q2,q3,q4⟩:=hcells (by simp);refine⟨g2,q1,by omega,q3,λi y k hik=>?_⟩;have:=envL_get _ i y k hik;rw[envL_snoc]at this;exact⟨q4 _ _ this.1,q4 _ _ this.2⟩
section
variable {ops:Array Oper} {Q:Exit->Act->World->Prop} {ds:List (Option Tmp)} {a0:Act} {w0:World} {L:List (Value->World->Prop)} {boxes:List Nat} {i k:Nat} {o:Oper} {os:List Oper}
theorem apV{h:Nat}{env:Env}{ao:Option Addr}{s:ByteArray}{z:Int}{x y:Operand}(hh:h+3<=w0.heap.size)(henv:IsEnv h env (.slice ao env.length env.length) w0)(hlen:env.length<1000000)(hx:Od ops ds a0 w0 L i x (IsV (.slice ao env.length env.length)))(hy:Od ops ds a0 w0 L i y (IsOne s z))
  (ho:o.op=.call {callee:=.builtin .append,args:= #[x,y],argTypes:= #[197,197]} :=by rfl) (hi:L.getD i (λ_ _=>True)=IsEnv h (env++ [(s,z)]):=by kernel_rfl) (hb:boxes.contains i=false:=by kernel_rfl):Ok prog ops Q ds a0 w0 L boxes i o:=
 ⟨fun v a w hE hd hf K hK=>by
  have h1:a.eval x=_:=hx.out v a w hE hd hf;obtain⟨g1,h2,c0,c1⟩:=hy.out v a w hE hd hf;obtain⟨v',w',hrun,hE',henv'⟩:=apV_run (ty:=o.type) (jQ hh hE.size) (henv.rm (Rm.ext hE)) hlen c0 c1;unfold Oper.wp;simp[execOp,ho,resolve,invoke,builtin,h1,h2,hrun,Result.andThen]
  exact hK.out _ _ hE' (by rw[hi];exact henv') (FreshIf.no hb)⟩
end
theorem ld_str:LdC1 prog 9:=λw a v h=>by go_simp
theorem xE:LdC1 prog 3:=λw a v h=>by go_simp
theorem ld_b:LdC1 prog 4:=λw a v h=>by go_simp
theorem ld_Nds:LdC1 prog 29:=λw a v h=>by go_simp
theorem st_i(z:Int):StC1 prog 3 (.int .i64 z):=λw a v h2 h3=>by go_simp
theorem st_b(z:Bool):StC1 prog 4 (.bool z):=λw a v h2 h3=>by go_simp
end
section
open Go Go.RowKit
open Go.Proofs.Tryz
theorem jx{P:Prop}(h:P:=by exact fa (jE g7) (qB 7)):P:=h
theorem jy{P:Prop}(h:P:=by exact lv (.agg vs.toArray) (λX e=>ld_Nd HV.out.1 (λj v hj=>(S.rm.trans (Rm.ext e)).cell (HV.out.2.1 j v hj) (.inl HM.out.2.2))) (fP:=IsV (.agg vs.toArray)) (qA 3 46) (λ_ _=>rfl)):P:=h
theorem ye{P:Prop}(h:P:=by exact bn (r:=.int .i64 (next+1)) (qC 1 33) qE (hr:=λw=>by have hx9:=HNW.out;go_simp)):P:=h
theorem yj{P:Prop}(h:P:=by exact mv (qB 2)):P:=h
theorem yv{P:Prop}(h:P:=by exact ixq (p:=.slice (some ⟨g,o,none⟩) mm cp) (u:=.int .i64 0) (r:=.pointer (some ⟨g,o,none⟩)) (λw=>ia_Nd0 HM.out.1 w) (qA 2 45) qE):P:=h
theorem xk{P:Prop}(h:P:=by exact fa (fa_Nd5 w.heap.size) (qB 4)):P:=h
theorem xl{P:Prop}(h:P:=by exact fa (fa_Nd1 w.heap.size) (qB 4)):P:=h
theorem zax{P:Prop}(h:P:=by exact fa (fa_Nd6 w.heap.size) (qB 4)):P:=h
theorem zbb{P:Prop}(h:P:=by exact bn (r:=.bool b1) (qC 1 21) (qC 3 23) (hr:=λw=>by have hx9:=HB1.out;go_simp)):P:=h
set_option maxRecDepth 100000
set_option maxHeartbeats 16000000
def IsIf(b:Bool)(fP:Value->World->Prop):Value->World->Prop:=λx w=>bif b then fP x w else x=undef
theorem IsIf.stb{b:Bool}{fP:Value->World->Prop}(h:Stb fP):Stb (IsIf b fP):=λx w w' e k=>by
 cases b
 ·exact k
 ·exact h x w w' e k
instance {b:Bool} {fP:Value->World->Prop} [StbC fP]:StbC (IsIf b fP):=⟨IsIf.stb StbC.out⟩
section
variable {P:Program} {ops:Array Oper} {Q:Exit->Act->World->Prop} {ds:List (Option Tmp)} {a0:Act} {w0:World} {L:List (Value->World->Prop)} {boxes:List Nat} {i k:Nat} {o:Oper} {os:List Oper}
theorem RcB(g t:Nat)(b pol:Bool)(h:b=pol->Ok P ops Q ds a0 w0 L boxes i o)(hs:RgAll P .any ops Q ds a0 w0 L boxes (i+1) k os)(hg:o.guard=some (g,pol):=by rfl)(hdst:qP ops g=some t:=by kernel_rfl)(h1:ds[g]? =some (some t):=by kernel_rfl)(h2:(ds.drop (g+1)).contains (some t)=false:=by kernel_rfl)(h3:decide (t<a0.tmps.size)=true:=by kernel_rfl)(hu:(ups .any ops i).contains g=true:=by kernel_rfl)
  (hL:L.getD g (λ_ _=>True)=IsV (.bool b):=by kernel_rfl) (hb:boxes.contains i=false:=by kernel_rfl) (hi:b=(!pol)->L.getD i (λ_ _=>True)=IsV undef:=by intro h;subst h;kernel_rfl):RgAll P .any ops Q ds a0 w0 L boxes i (k+1) (o ::os):=by
 refine⟨?_,hs⟩;by_cases hbp:b=pol
 ·have hL':L.getD g (λ_ _=>True)=IsV (.bool pol):=by rw[hL,hbp]
  exact RgL.mkG g t pol hg hdst h1 h2 h3 hu (λ_ _ h=>by rw[hL']at h;exact h) (h hbp).out
 ·have hbn:b= !pol:=by cases b <;> cases pol <;> simp_all
  have hL':L.getD g (λ_ _=>True)=IsV (.bool (!pol)):=by rw[hL,hbn]
  exact RgL.mkN g t (!pol) (by rw[hg,Bool.not_not]) hdst h1 h2 h3 hu (λ_ _ h=>by rw[hL']at h;exact h) hb (λ_=>by rw[hi hbn];exact rfl)
theorem un{x:Operand}{u:UnOp}{T:Nat}{p r:Value}(hx:Od ops ds a0 w0 L i x (IsV p))(ho:o.op=.unOp u T x:=by rfl)(hr:∀w,Sem.run P (Op.unary u p) w=.ok r w)(hi:L.getD i (λ_ _=>True)=IsV r:=by kernel_rfl)(hb:boxes.contains i=false:=by kernel_rfl):Ok P ops Q ds a0 w0 L boxes i o:=
 Ok.of hb λv a w hE hd hf=>by
  have h1:a.eval x=p:=hx.out v a w hE hd hf;refine⟨r,?_,by rw[hi];exact rfl⟩;have:=hr w;unfold execOp;rw[ho];dsimp only;rw[h1];simp[this]
theorem pkA{c y:Operand}{b b2 r:Bool}(hc:Od ops ds a0 w0 L i c (IsV (.bool b)))(hy:b=true->Od ops ds a0 w0 L i y (IsV (.bool b2)))(hr:(b&&b2)=r)(ho:o.op=.pick c y (.const (.bool false)):=by rfl)(hi:L.getD i (λ_ _=>True)=IsV (.bool r):=by kernel_rfl)(hb:boxes.contains i=false:=by kernel_rfl):Ok P ops Q ds a0 w0 L boxes i o:=
 Ok.of hb λv a w hE hd hf=>by
  have h1:a.eval c=.bool b:=hc.out v a w hE hd hf;refine⟨.bool r,?_,by rw[hi];exact rfl⟩;unfold execOp;rw[ho];dsimp only;rw[h1];cases b
  ·subst hr;simp[asBool];rfl
  ·have h2:a.eval y=.bool b2:=(hy rfl).out v a w hE hd hf;rw[h2];subst hr;simp[asBool]
end
set_option maxRecDepth 100000
theorem st_Tr:StV prog 205 6:=by
 intro w g vs us h1 h2 hs B
 match vs,h1 with
 | [v0,v1,v2,v3,v4,v5],_=>
  match us,h2 with
  | [u0,u1,u2,u3,u4,u5],_=>
   simp only[List.all_cons,List.all_nil,Bool.and_true,Bool.and_eq_true]at hs;obtain⟨s0,s1,s2,s3,s4,s5⟩:=hs;have r0:=λw a m=>run_store prog w a u0 m s0;have r1:=λw a m=>run_store prog w a u1 m s1;have r2:=λw a m=>run_store prog w a u2 m s2;have r3:=λw a m=>run_store prog w a u3 m s3;have r4:=λw a m=>run_store prog w a u4 m s4;have r5:=λw a m=>run_store prog w a u5 m s5
   have c0:=B.c 0 _ rfl;have c1:=B.c 1 _ rfl;have c2:=B.c 2 _ rfl;have c3:=B.c 3 _ rfl;have c4:=B.c 4 _ rfl;have c5:=B.c 5 _ rfl;have f0:=B.f 0;have f1:=B.f 1;have f2:=B.f 2;have f3:=B.f 3;have f4:=B.f 4;have f5:=B.f 5;clear B s0 s1 s2 s3 s4 s5;simp only[xJ]
   go_simp
theorem ld_Tr:LdV prog 205 6:=by
 intro w g vs h1 B
 match vs,h1 with
 | [v0,v1,v2,v3,v4,v5],_=>
  have c0:=B.c 0 _ rfl;have c1:=B.c 1 _ rfl;have c2:=B.c 2 _ rfl;have c3:=B.c 3 _ rfl;have c4:=B.c 4 _ rfl;have c5:=B.c 5 _ rfl;clear B
  go_simp
theorem ld_Nd{w:World}{g o:Nat}{vs:List Value}(hl:vs.length=8)(hc:∀j v,vs[j]? =some v->World.cell? w ⟨g,o+j,none⟩=some v):(Instr.loadAt 31 (.pointer (some ⟨g,o,none⟩))).run prog w=.ok (.agg vs.toArray) w:=by
 match vs,hl with
 | [v0,v1,v2,v3,v4,v5,v6,v7],_=>
  have c0:=hc 0 _ rfl;have c1:=hc 1 _ rfl;have c2:=hc 2 _ rfl;have c3:=hc 3 _ rfl;have c4:=hc 4 _ rfl;have c5:=hc 5 _ rfl;have c6:=hc 6 _ rfl;have c7:=hc 7 _ rfl;clear hc;rw[Nat.add_zero]at c0
  go_simp
theorem nwT{a b c d e:Int}{f:Bool}:∀v∈ [Value.int .i64 a,.int .i64 b,.int .i64 c,.int .i64 d,.int .i64 e,.bool f],NoWord v:=by
 intro v hv;simp only[List.mem_cons,List.not_mem_nil,or_false]at hv;rcases hv with rfl|rfl|rfl|rfl|rfl|rfl
 ·exact NoWord.int64 _
 ·exact NoWord.int64 _
 ·exact NoWord.int64 _
 ·exact NoWord.int64 _
 ·exact NoWord.int64 _
 ·exact NoWord.bool _
theorem fa_Nd0(g:Nat)(w:World):(Instr.fieldAt 31 (.pointer (some ⟨g,0,none⟩)) 0).run prog w=.ok (.pointer (some ⟨g,0,none⟩)) w:=by go_simp
theorem fa_Nd1(g:Nat)(w:World):(Instr.fieldAt 31 (.pointer (some ⟨g,0,none⟩)) 1).run prog w=.ok (.pointer (some ⟨g,1,none⟩)) w:=by go_simp
theorem fa_Nd2(g:Nat)(w:World):(Instr.fieldAt 31 (.pointer (some ⟨g,0,none⟩)) 2).run prog w=.ok (.pointer (some ⟨g,2,none⟩)) w:=by go_simp
theorem fa_Nd3(g:Nat)(w:World):(Instr.fieldAt 31 (.pointer (some ⟨g,0,none⟩)) 3).run prog w=.ok (.pointer (some ⟨g,3,none⟩)) w:=by go_simp
theorem fa_Nd4(g:Nat)(w:World):(Instr.fieldAt 31 (.pointer (some ⟨g,0,none⟩)) 4).run prog w=.ok (.pointer (some ⟨g,5,none⟩)) w:=by go_simp
theorem fa_Nd5(g:Nat)(w:World):(Instr.fieldAt 31 (.pointer (some ⟨g,0,none⟩)) 5).run prog w=.ok (.pointer (some ⟨g,6,none⟩)) w:=by go_simp
theorem fa_Nd6(g:Nat)(w:World):(Instr.fieldAt 31 (.pointer (some ⟨g,0,none⟩)) 6).run prog w=.ok (.pointer (some ⟨g,7,none⟩)) w:=by go_simp
theorem fa_Tr0(g:Nat)(w:World):(Instr.fieldAt 205 (.pointer (some ⟨g,0,none⟩)) 0).run prog w=.ok (.pointer (some ⟨g,0,none⟩)) w:=by go_simp
theorem fa_Tr1(g:Nat)(w:World):(Instr.fieldAt 205 (.pointer (some ⟨g,0,none⟩)) 1).run prog w=.ok (.pointer (some ⟨g,1,none⟩)) w:=by go_simp
theorem fa_Tr2(g:Nat)(w:World):(Instr.fieldAt 205 (.pointer (some ⟨g,0,none⟩)) 2).run prog w=.ok (.pointer (some ⟨g,2,none⟩)) w:=by go_simp
theorem fa_Tr3(g:Nat)(w:World):(Instr.fieldAt 205 (.pointer (some ⟨g,0,none⟩)) 3).run prog w=.ok (.pointer (some ⟨g,3,none⟩)) w:=by go_simp
theorem jE(g:Nat)(w:World):(Instr.fieldAt 205 (.pointer (some ⟨g,0,none⟩)) 4).run prog w=.ok (.pointer (some ⟨g,4,none⟩)) w:=by go_simp
theorem fa_Tr5(g:Nat)(w:World):(Instr.fieldAt 205 (.pointer (some ⟨g,0,none⟩)) 5).run prog w=.ok (.pointer (some ⟨g,5,none⟩)) w:=by go_simp
theorem fa_Mc4(g:Nat)(w:World):(Instr.fieldAt 154 (.pointer (some ⟨g,0,none⟩)) 4).run prog w=.ok (.pointer (some ⟨g,4,none⟩)) w:=by go_simp
theorem al_Tr(w:World):(Instr.alloc 205 true (.tuple #[])).run prog w=.ok (.pointer (some ⟨w.heap.size,0,none⟩)) (w.alloc (.cells [.int .i64 0,.int .i64 0,.int .i64 0,.int .i64 0,.int .i64 0,.bool false].toArray 205)):=by go_simp
section
variable {ops:Array Oper} {Q:Exit->Act->World->Prop} {ds:List (Option Tmp)} {a0:Act} {w0:World} {L:List (Value->World->Prop)} {boxes:List Nat} {i k:Nat} {o:Oper} {os:List Oper}
theorem bdT{x y z:Operand}{p q r:Int}(hx:Od ops ds a0 w0 L i x (iV p))(hy:Od ops ds a0 w0 L i y (iV q))(hz:Od ops ds a0 w0 L i z (iV r))(ho:o.op=.build 205 #[(2,x),(3,y),(4,z),(5,.const (.bool true))]:=by rfl)
  (hi:L.getD i (λ_ _=>True)=IsV (.agg #[.int .i64 0,.int .i64 0,.int .i64 p,.int .i64 q,.int .i64 r,.bool true]):=by kernel_rfl) (hb:boxes.contains i=false:=by kernel_rfl):Ok prog ops Q ds a0 w0 L boxes i o:=
 Ok.of hb λv a w hE hd hf=>by
  have h1:a.eval x=_:=hx.out v a w hE hd hf;have h2:a.eval y=_:=hy.out v a w hE hd hf;have h3:a.eval z=_:=hz.out v a w hE hd hf;have hr:(Instr.build 205 #[(2,.int .i64 p),(3,.int .i64 q),(4,.int .i64 r),(5,.bool true)]).run prog w=.ok (.agg #[.int .i64 0,.int .i64 0,.int .i64 p,.int .i64 q,.int .i64 r,.bool true]) w:=ja
  refine⟨_,?_,by rw[hi];exact rfl⟩;unfold execOp;rw[ho];dsimp only;simp only[List.map_toArray,List.map_cons,List.map_nil];rw[h1,h2,h3,show a.eval (.const (.bool true))=.bool true from rfl];simp[hr]
end
structure SIv {σ:Type} (m:Mc) (J:σ->World->Prop) (w:World) (us cs:List Value) (g7:Nat) (st:Mst σ) (W:World):Prop where
 rm:Rm m.h w W
 mat:MAt m st.1 W
 j:J st.2 W
 b4:Bk W w.heap.size us
 b6:Bk W (w.heap.size+1) [.int .i64 0,.int .i64 0,.int .i64 0,.int .i64 0,.int .i64 0,.bool false]
 b7:cs= []\/Bk W g7 cs
 h7:cs= []\/w.heap.size+2<=g7
 hh:m.h+3<=w.heap.size
theorem MapInv.ext{σ:Type}{h:Nat}{J:σ->World->Prop}(hJ:MapInv h J){s:σ}{w w':World}(hj:J s w)(e:Ext w w')(hh:h+3<=w.heap.size):J s w':=hJ s w w' hj (Below.mono e (by omega)) (e.block h (by omega)) (e.block (h+1) (by omega))
theorem MapInv.only{σ:Type}{h g:Nat}{J:σ->World->Prop}(hJ:MapInv h J){s:σ}{w w':World}(hj:J s w)(e:OnlyB g w w')(hg:h+2<=g):J s w':=hJ s w w' hj ⟨e.os,e.tape,e.output,by rw[e.size];exact jP _,λk hk=>e.block k (by omega)⟩ (e.block h (by omega)) (e.block (h+1) (by omega))
section
variable {σ:Type} {m:Mc} {J:σ->World->Prop} {w:World} {us cs:List Value} {g7:Nat} {st:Mst σ} {W W':World}
theorem SIv.ext(S:SIv m J w us cs g7 st W)(hJ:MapInv m.h J)(e:Ext W W'):SIv m J w us cs g7 st W':=
 ⟨S.rm.trans (Rm.ext e),S.mat.ext e,hJ.ext S.j e (jQ S.hh S.rm.size),S.b4.ext e,S.b6.ext e,S.b7.imp id (λb=>b.ext e),S.h7,S.hh⟩
theorem SIv.only(S:SIv m J w us [] 0 st W)(hJ:MapInv m.h J)(hh:m.h+3<=w.heap.size){g:Nat}(O:OnlyB g W W')(hg:w.heap.size+2<=g):SIv m J w us [] 0 st W':=
 ⟨O.rm S.rm (by omega),⟨O.bk S.mat.bk (by omega),S.mat.fit⟩,hJ.only S.j O (by omega),O.bk S.b4 (by omega),O.bk S.b6 (by omega),.inl rfl,.inl rfl,hh⟩
theorem SIv.with7(S:SIv m J w us [] 0 st W)(hg:w.heap.size+2<=g7)(B:Bk W g7 cs):SIv m J w us cs g7 st W:=⟨S.rm,S.mat,S.j,S.b4,S.b6,.inr B,.inr hg,S.hh⟩
theorem SIv.start(hJ:MapInv m.h J)(hh:m.h+3<=w.heap.size)(hM:MAt m st.1 w)(hj:J st.2 w)(us:Array Value)(T T':TypeId):
  SIv m J w us.toList [] 0 st ((w.alloc (.cells us T)).alloc (.cells #[.int .i64 0,.int .i64 0,.int .i64 0,.int .i64 0,.int .i64 0,.bool false] T')):=by
 have e:Ext w ((w.alloc (.cells us T)).alloc (.cells #[.int .i64 0,.int .i64 0,.int .i64 0,.int .i64 0,.int .i64 0,.bool false] T')):=((Ext.refl w).alloc _).alloc _;exact⟨Rm.ext e,hM.ext e,hJ.ext hj e hh,(Bk.new w us T).ext ((Ext.refl _).alloc _),Bk.newE _ _ (by simp) _ _,.inl rfl,.inl rfl,hh⟩
end
section
variable {σ:Type} {m:Mc} {J:σ->World->Prop} {w:World} {us cs cs':List Value} {u:Value} {g7 g8 l:Nat} {s:σ} {st st':Mst σ} {W W':World}
theorem SIv.k7(S:SIv m J w us (u ::cs) g7 st W):Bk W g7 (u ::cs):=S.b7.resolve_left (by simp)
theorem SIv.p7(S:SIv m J w us (u ::cs) g7 st W):w.heap.size+2<=g7:=S.h7.resolve_left (by simp)
theorem SIv.upd7(S:SIv m J w us (u ::cs) g7 st W)(hJ:MapInv m.h J)(B:Bk W' g7 cs')(O:OnlyB g7 W W'):SIv m J w us cs' g7 st W':=by
 have h7:=S.p7;have hh:=S.hh;exact⟨O.rm S.rm (by omega),⟨O.bk S.mat.bk (by omega),S.mat.fit⟩,hJ.only S.j O (by omega),O.bk S.b4 (by omega),O.bk S.b6 (by omega),.inr B,.inr h7,hh⟩
theorem SIv.updM(S:SIv m J w us (u ::cs) g7 (l+1,s) W)(hJ:MapInv m.h J)(B:Bk W' (m.h+2) (m.cells l))(O:OnlyB (m.h+2) W W'):SIv m J w us (u ::cs) g7 (l,s) W':=by
 have h7:=S.p7;have hh:=S.hh;have hf:=S.mat.fit;exact⟨S.rm.trans O.own,⟨B,by simp only at hf ⊢;omega⟩,hJ.only S.j O (by omega),O.bk S.b4 (by omega),O.bk S.b6 (by omega),.inr (O.bk S.k7 (by omega)),.inr h7,hh⟩
theorem SIv.other(S:SIv m J w us (u ::cs) g7 st W)(hJ:MapInv m.h J)(O:OnlyB g8 W W')(h1:w.heap.size+2<=g8)(h2:g7≠g8):SIv m J w us (u ::cs) g7 st W':=by
 have h7:=S.p7;have hh:=S.hh;exact⟨O.rm S.rm (by omega),⟨O.bk S.mat.bk (by omega),S.mat.fit⟩,hJ.only S.j O (by omega),O.bk S.b4 (by omega),O.bk S.b6 (by omega),.inr (O.bk S.k7 h2),.inr h7,hh⟩
theorem SIv.call(S:SIv m J w us (u ::cs) g7 st W)(R:Rm m.h W W')(M:MAt m st'.1 W')(j:J st'.2 W'):SIv m J w us (u ::cs) g7 st' W':=by
 have h7:=S.p7;have hh:=S.hh;exact⟨S.rm.trans R,M,j,R.bk S.b4 (by omega),R.bk S.b6 (by omega),.inr (R.bk S.k7 (by omega)),.inr h7,hh⟩
theorem SIv.last(S:SIv m J w us (u ::cs) g7 st W)(hJ:MapInv m.h J)(O:OnlyB (w.heap.size+1) W W'):Rm m.h w W'/\MAt m st.1 W'/\J st.2 W':=by
 have hh:=S.hh;exact⟨O.rm S.rm (by omega),⟨O.bk S.mat.bk (by omega),S.mat.fit⟩,hJ.only S.j O (by omega)⟩
end
theorem srch_stop{σ:Type}{f:Int->Mst σ->Res Kn×Mst σ}{fst:Bool}{hi:Int}{t:Tr}{st:Mst σ}:∀ {k:Nat},¬(t.next<=hi/\0<st.1)->xQ f fst hi k t st=(.ok (t.stop hi),st)
 |0,_=>rfl
 |k+1,h=>by simp only[xQ];rw[if_neg h]
theorem ia_Nd0{g o n c:Nat}(h:1<=n)(w:World):(Instr.indexAt 29 (.slice (some ⟨g,o,none⟩) n c) (.int .i64 0)).run prog w=.ok (.pointer (some ⟨g,o,none⟩)) w:=by
 have h2:(0:Int)<(n:Int):=by omega
 have h3:¬n=0:=by omega
 go_simp
theorem ia_Nd1{g o n c:Nat}(h:2<=n)(w:World):(Instr.indexAt 29 (.slice (some ⟨g,o,none⟩) n c) (.int .i64 1)).run prog w=.ok (.pointer (some ⟨g,o+8,none⟩)) w:=by
 have h2:(1:Int)<(n:Int):=by omega
 go_simp
theorem IsEnv.clip{h:Nat}{env:Env}{ao:Option Addr}{c:Nat}{w:World}(H:IsEnv h env (.slice ao env.length c) w):IsEnv h env (.slice ao env.length env.length) w:=by
 obtain⟨h0,ao',cp,e1,h2,h3,h4,h5⟩:=H;injection e1 with e1 e2 e3;subst e1;exact⟨h0,ao,_,rfl,by omega,jP _,λhe=>by subst he;exact⟨(h4 rfl).1,rfl⟩,h5⟩
theorem ev_at{v:Nat->Value}{ds:List (Option Tmp)}{a0:Act}(j t:Nat){x:Value}(hv:v j=x)(h1:ds[j]? =some (some t):=by kernel_rfl)(h2:(ds.drop (j+1)).contains (some t)=false:=by kernel_rfl)(h3:decide (t<a0.tmps.size)=true:=by kernel_rfl):(qW v a0 0 ds).eval (.tmp t)=x:=by
 rw[eval_tmp];exact(Fr.of ds a0 v).val j t x hv h1 h2 h3
theorem wp_call3{P:Program}{Q:Exit->Act->World->Prop}{o:Oper}{f:FuncId}{c:Call}{x y z:Operand}{u1 u2 u3:Value}{a:Act}{w:World}{K:Act->World->Prop}{R:Ending->World->Prop}(he:∀args w,(callFunc f args).run P w=.ok (.enter f args) w)(hx:a.eval x=u1)(hy:a.eval y=u2)(hz:a.eval z=u3)
  (h:Calls P f #[u1,u2,u3] w R) (h1:∀v w',R (.returned v) w'->K (a.put o.dst v) w') (h2:∀ch w',R (.panicked ch) w'->Q (.panic ch) a w') (h3:∀w',¬R .outgrown w')
  (ho:o.op=.call c:=by rfl) (hc:c.callee=.value (.func f):=by rfl) (ha:c.args= #[x,y,z]:=by rfl):Oper.wp P o a w K Q:=by
 have hr:(execOp a.eval o).run P w=.ok (.enter f (c.args.map a.eval)) w:=by
  unfold execOp;rw[ho];dsimp only;unfold resolve;rw[hc];simp[invoke,he,Deferred.ofValue,show a.eval (.func f)=.func (.func f) #[] #[]from rfl]
 unfold Oper.wp;rw[hr,Oper.upon_enter,ha,show(#[x,y,z]:Array Operand).map a.eval= #[a.eval x,a.eval y,a.eval z]by simp,hx,hy,hz];refine jJ h ?_;intro e w2 hR;cases e with
 |returned v=>exact h1 v w2 hR
 |panicked ch=>exact h2 ch w2 hR
 |outgrown=>exact absurd hR (h3 w2)
def SrP{σ:Type}(m:Mc)(J:σ->World->Prop)(w:World)(r:Res Tr×Mst σ):Ending->World->Prop:=λe w'=>
 Rm m.h w w'/\MAt m r.2.1 w'/\J r.2.2 w'/\match r.1 with
  | .ok t=>e=.returned (.agg #[.int .i64 t.sure,.int .i64 t.opn,.int .i64 t.first,.int .i64 t.last,.int .i64 t.next,.bool t.fin])
  | .error n=>e=.panicked (pan n)
theorem search_f{σ:Type}(M:Mem σ)(m:Mc)(J:σ->World->Prop)(hJ:MapInv m.h J)(fst:Bool)(x:ByteArray)(lo hi:Int)(b:Ex)(env:Env)(opc kk:Int)(s0:Bool)(a0:Option Addr)(n0 c0 g o mm cp:Nat)(vs:List Value)(st0:Mst σ)(ve:Value)(w:World)(R:Res Tr×Mst σ)
  (HF:Hid ((opc==10)=fst)) (HBD:Hid (-1099511627776<=lo/\lo<=hi+1/\hi<=1099511627776)) (HL:Hid (env.length<1000000)) (HM:Hid (1<=mm/\mm<=9223372036854775807/\g<m.h)) (HV:Hid (vs.length=8/\(∀j v,vs[j]? =some v->World.cell? w ⟨g,o+j,none⟩=some v)/\IsNd m.h b vs w)) (HE:Hid (IsEnv m.h env ve w))
  (HC:Hid (∀(nx:Int) (st:Mst σ) (ve:Value) (w:World),lo<=nx->nx<=hi->IsEnv m.h (env++ [(x,nx)]) ve w->IsNd m.h b vs w->MAt m st.1 w->J st.2 w->m.h+3<=w.heap.size->Calls prog 84 #[.pointer (some ⟨m.h+2,0,none⟩),.agg vs.toArray,ve] w (EvP m J w (ev M b (env++ [(x,nx)]) st))))
  (hM:MAt m st0.1 w) (hj:J st0.2 w) (hh:m.h+3<=w.heap.size) (HR:Hid (xQ (λn st=>ev M b (env++ [(x,n)]) st) fst hi (hi+1-lo).toNat ⟨0,0,hi+1,hi+1,lo,true⟩ st0=R)):
  Calls prog 113 #[.pointer (some ⟨m.h+2,0,none⟩),.agg #[.int .i64 opc,.string x,.int .i64 kk,.bool s0,.slice a0 n0 c0,.int .i64 lo,.int .i64 hi,.slice (some ⟨g,o,none⟩) mm cp],ve] w (SrP m J w R):=by
 have HW1:=hid (show IntKind.i64.wrap (hi+1)=hi+1 by have:=HBD.out;simp only[IntKind.wrap_i64];omega);obtain⟨W,hW,S⟩:∃W,W=(w.alloc (.cells #[.int .i64 opc,.string x,.int .i64 kk,.bool s0,.slice a0 n0 c0,.int .i64 lo,.int .i64 hi,.slice (some ⟨g,o,none⟩) mm cp] 31)).alloc (.cells #[.int .i64 0,.int .i64 0,.int .i64 0,.int .i64 0,.int .i64 0,.bool false] 205)/\SIv m J w [.int .i64 opc,.string x,.int .i64 kk,.bool s0,.slice a0 n0 c0,.int .i64 lo,.int .i64 hi,.slice (some ⟨g,o,none⟩) mm cp] [] 0 st0 W:=⟨_,rfl,SIv.start hJ hh hM hj _ _ _⟩;have hWs:=S.b6.lt;go_enter func113,ntmps113;go_upto_region 1 with fail;rw[<-hW];clear hW;refine rgs 10 [some 11,some 12,some 13,some 14,some 15,some 16,some 17,some 18,some 19,some 7] [IsP (w.heap.size) 6,iV hi,iV (hi+1),IsP (w.heap.size) 6,iV hi,iV (hi+1),IsP (w.heap.size) 5,iV lo,IsV (.agg #[.int .i64 0,.int .i64 0,.int .i64 (hi+1),.int .i64 (hi+1),.int .i64 lo,.bool true]),IsNb W.heap.size [.int .i64 0,.int .i64 0,.int .i64 0,.int .i64 0,.int .i64 0,.bool false]] [] ?_ ?_
 ·refine Rc xk ?_;refine Rc (lvC 6 S.b4 xE (qA 0 11)) ?_;refine Rc (bn (r:=.int .i64 (hi+1)) (qC 1 12) qE (hr:=λw=>by have hx9:=HW1.out;go_simp)) ?_;refine Rc xk ?_;refine Rc (lvC 6 S.b4 xE (qA 3 14)) ?_;refine Rc (bn (r:=.int .i64 (hi+1)) (qC 4 15) qE (hr:=λw=>by have hx9:=HW1.out;go_simp)) ?_;refine Rc (fa (fa_Nd4 w.heap.size) (qB 4)) ?_;refine Rc (lvC 5 S.b4 xE (qA 6 17)) ?_;refine Rc (bdT (qC 2 13) (qC 5 16) (qC 7 18)) ?_;refine Rc (alB al_Tr (jP _)) ?_;exact rn0
 intro v X1 e1 hZ _;replace S:=S.ext hJ e1;obtain⟨g7,hv9,hg7,B7⟩:=hZ 9 dcx;simp only[lxE,Nat.reduceAdd];rw[hv9,show v 8=.agg #[.int .i64 0,.int .i64 0,.int .i64 (hi+1),.int .i64 (hi+1),.int .i64 lo,.bool true]from hZ 8 dcx];clear hZ e1;clear hv9;refine stL (λK hK=>?_);refine qZ (us:= [.int .i64 0,.int .i64 0,.int .i64 (hi+1),.int .i64 (hi+1),.int .i64 lo,.bool true]) B7 st_Tr rfl rfl nwT (λX2 B7' O=>hK _ _ ?_);refine jL ?_;have hw7:w.heap.size+2<=g7:=by omega
 replace S:=S.only hJ hh O hw7;replace S:=S.with7 hw7 B7';clear B7 B7' O;go_wp2_with fail;have S0:=hid S;clear S;obtain⟨f0,hf0⟩:∃f,(hi+1-lo).toNat=f:=⟨_,rfl⟩
 go_loopg [] f0 (λgk wr=>∃(t:Tr) (st:Mst σ),t.next+gk=hi+1/\lo<=t.next/\(0<=t.sure/\0<=t.opn/\t.sure+t.opn<=t.next-lo/\lo<=t.first/\t.first<=hi+1/\t.last=hi+1)/\Hid (xQ (λn st=>ev M b (env++ [(x,n)]) st) fst hi gk t st=R)/\Hid (SIv m J w [.int .i64 opc,.string x,.int .i64 kk,.bool s0,.slice a0 n0 c0,.int .i64 lo,.int .i64 hi,.slice (some ⟨g,o,none⟩) mm cp] [.int .i64 t.sure,.int .i64 t.opn,.int .i64 t.first,.int .i64 t.last,.int .i64 t.next,.bool t.fin] g7 st wr))
 case atStart=>exact⟨⟨0,0,hi+1,hi+1,lo,true⟩,st0,by show lo+_=_;have:=HBD.out;omega,Int.le_refl _,by have:=HBD.out;refine⟨?_,?_,?_,?_,?_,rfl⟩ <;>(show _<=_) <;> simp <;> omega,by rw[<-hf0];exact HR,S0⟩
 case round=>
  clear S0;obtain⟨t,st,hgk,hlo,hbd,HS,S⟩:=hrel;have S:=S.out;obtain⟨sure,opn,first,last,next,fin⟩:=t;obtain⟨left,s⟩:=st;simp only at hgk hlo hbd S;have HBB:=hid (jO hgk (jO hlo hbd));clear hgk hlo hbd;obtain⟨b1,hb1⟩:∃b,decide (next<=hi)=b:=⟨_,rfl⟩;have HB1:=hid hb1;obtain⟨b2,hb2⟩:∃b,decide (0<left)=b:=⟨_,rfl⟩;have HB2:=hid hb2;by_cases hgo:next<=hi/\0<left
  ·have HBR:=hid (show(b1&&b2)=true by rw[<-hb1,<-hb2,Bool.and_eq_true];simp only[jY];exact hgo);obtain⟨l,rfl⟩:∃l,left=l+1:=⟨left-1,by omega⟩;obtain⟨k,rfl⟩:∃k,gk=k+1:=⟨gk-1,by have:=HBB.out;omega⟩;have hS:=HS.out;simp only[xQ]at hS;rw[if_pos hgo,Nat.add_sub_cancel]at hS;have HGO:=hid hgo.1;have HWL:=hid (show IntKind.i64.wrap (l:Int)=(l:Int)by have:=S.mat.fit;simp only[IntKind.wrap_i64]at this ⊢;omega);have HNW:=hid (show IntKind.i64.wrap (next+1)=next+1 by have:=HBD.out;have:=HBB.out;simp only[IntKind.wrap_i64];omega);have HOW:=hid (show IntKind.i64.wrap (opn+1)=opn+1 by have:=HBD.out;have:=HBB.out;simp only[IntKind.wrap_i64];omega);have HUW:=hid (show IntKind.i64.wrap (sure+1)=sure+1 by have:=HBD.out;have:=HBB.out;simp only[IntKind.wrap_i64];omega);have HMN:=hid (show(if next<first then next else first)=min first next by rw[Int.min_def];split <;> split <;> omega);obtain⟨⟨res,l2,s2⟩,hres⟩:∃r,ev M b (env++ [(x,next)]) (l,s)=r:=⟨_,rfl⟩;rw[hres]at hS;have HRES:=hid hres;obtain rfl:b2=true:=by rw[<-hb2];exact decide_eq_true (by omega)
   clear hb1 hb2 hgo hres HS;go_upto_region 2 with fail;refine rgs 12 (dR 20 12) [IsP g7 4,iV next,IsP (w.heap.size) 6,iV hi,IsV (.bool b1),IsV (.bool b1),IsIf b1 (IsP (m.h+2) 0),IsIf b1 (IsP (m.h+2) 0),IsIf b1 (IsP (m.h+2) 4),IsIf b1 (iV (((l+1:Nat)):Int)),IsIf b1 (IsV (.bool true)),IsV (.bool true)] [] ?_ ?_
   ·refine Rc jx ?_;refine Rc (lvC 4 S.k7 xE (qA 0 20)) ?_;refine Rc xk ?_;refine Rc (lvC 6 S.b4 xE (qA 2 22)) ?_;refine Rc zbb ?_;refine Rc (mv (qA 4 24)) ?_;refine RcB 5 25 b1 true (λhb=>by subst hb;exact mv (qB 0)) ?_;refine RcB 5 25 b1 true (λhb=>by subst hb;exact nc (p:=⟨m.h+2,0,none⟩) (qA 6 26)) ?_;refine RcB 5 25 b1 true (λhb=>by subst hb;exact fa (fa_Mc4 (m.h+2)) (qA 7 27)) ?_;refine RcB 5 25 b1 true (λhb=>by subst hb;exact lvC 4 S.mat.bk xE (qA 8 28)) ?_;refine RcB 5 25 b1 true (λhb=>by subst hb;exact bn (r:=.bool true) (qA (fP:=iV (((l+1:Nat)):Int)) 9 29) qE (hr:=λw=>by have hx9:=HB2.out;go_simp)) ?_;refine Rc (pkA (b2:=true) (qC 5 25) (λhb=>by subst hb;exact qA 10 30) HBR.out) ?_;exact rn0
   intro v X2 e1 hZ _;replace S:=S.ext hJ e1;simp only[lxE,Nat.reduceAdd];rw[show v 11=.bool true from hZ 11 dcx];clear hZ e1;refine jL ?_;go_upto_region 4 with fail;refine rgs 7 (dR 36 7) [IsP (m.h+2) 0,IsP (m.h+2) 0,IsP (m.h+2) 4,iV ((l+1:Nat):Int),iV (l:Int),IsP (m.h+2) 0,IsP (m.h+2) 4] [] ?_ ?_
   ·refine Rc zv ?_;refine Rc (nc (p:=⟨m.h+2,0,none⟩) (qA 0 36)) ?_;refine Rc (fa (fa_Mc4 (m.h+2)) (qA 1 37)) ?_;refine Rc (lvC 4 S.mat.bk xE (qA 2 38)) ?_;refine Rc (bn (r:=.int .i64 (l:Int)) (qC 3 39) qE (hr:=λw=>by have hx9:=HWL.out;go_simp)) ?_;refine Rc (nc (p:=⟨m.h+2,0,none⟩) (qA 0 36)) ?_;refine Rc (fa (fa_Mc4 (m.h+2)) (qA 5 41)) ?_;exact rn0
   intro v X3 e1 hZ _;replace S:=S.ext hJ e1;simp only[lxE,Nat.reduceAdd];rw[show v 4=.int .i64 (l:Int)from hZ 4 dcx,show v 6=.pointer (some ⟨m.h+2,4,none⟩)from hZ 6 dcx];clear hZ e1;refine stL (λK hK=>?_);refine stCO 4 S.mat.bk (st_i (l:Int)) rfl (NoWord.int64 _) (λX_ BM O=>hK _ _ ?_);replace S:=S.updM hJ BM O;clear BM O hK K;refine jL ?_;go_upto_region 5 with fail;have hve:=HE.out;obtain⟨_,ao,cpe,rfl,he1,he2,he3,_⟩:=id hve;have HEC:=hid ((IsEnv.clip hve).rm S.rm)
   have HN0:=hid (λh:ao=none=>show env.length=0/\cpe=0 by
    by_cases hne:env= []
    ·exact⟨by rw[hne];rfl,(he3 hne).2⟩
    ·rename_i h5
     obtain⟨g',hg',_⟩:=h5 hne
     rw[h]at hg';cases hg')
   have hl7:=S.k7.lt;have h7:=S.p7;have hXm:=S.rm.size;obtain⟨B5,hB5⟩:∃n,X_.heap.size=n:=⟨_,rfl⟩;cases res with
   | error n=>
    refine rgC 18 [some 43,some 44,some 45,some 46,some 47,some 48,some 49,some 50,some 51,some 52,some 53,some 54,some 55,some 56,some 57,some 58,some 59,some 60,some 61,some 8] [IsP (m.h+2) 0,IsP (w.heap.size) 7,IsV (.slice (some ⟨g,o,none⟩) mm cp),IsP g o,IsV (.agg vs.toArray),IsV (.slice ao env.length cpe),IsV (.slice ao env.length cpe),iV ((env.length:Nat):Int),IsV (.slice ao env.length cpe),iV ((env.length:Nat):Int),IsV (.slice ao env.length env.length),IsP (w.heap.size) 1,IsV (.string x),IsP g7 4,iV next,IsV (.agg #[.string x,.int .i64 next]),IsOne x next,IsEnv m.h (env++ [(x,next)]),(λ_ _=>True),IsNb B5 [.bool false,.slice none 0 0,.bool false,.slice none 0 0,.bool false]] (Rm m.h) (λ_ _=>False) ?_ ?_ ?_ ?_ ?_ ?_ ?_ ?_
    ·refine Rc zv ?_;refine Rc zax ?_;refine Rc (lvC 7 S.b4 ld_Nds (qA 1 44)) ?_;refine Rc yv ?_;refine Rc jy ?_;refine Rc yj ?_;refine Rc yj ?_;refine Rc (lenV (qA (fP:=IsV (.slice ao env.length cpe)) 6 49)) ?_;refine Rc yj ?_;refine Rc (lenV (qA (fP:=IsV (.slice ao env.length cpe)) 8 51)) ?_;refine Rc (slV HN0.out he2 he1 (qA 5 48) (qA 7 50) (qA 9 52)) ?_;refine Rc xl ?_;refine Rc (lvC 1 S.b4 ld_str (qA 11 54)) ?_;refine Rc jx ?_;refine Rc (lvC 4 S.k7 xE (qA 13 56)) ?_;refine Rc (bdV (qC 12 55) (qC 14 57)) ?_;refine Rc (bsV (qC 15 58)) ?_;refine Rc (apV (by have:=S.hh;omega) HEC.out HL.out (qC 10 53) (qC 16 59)) ?_;exact rn0
    ·intro v X hE hd K hK;have h17:IsEnv m.h (env++ [(x,next)]) (v 17) X:=hd 17 dcx;have SX:=S.ext hJ hE
     refine wp_call3 (en func84) (u1:=.pointer (some ⟨m.h+2,0,none⟩)) (u2:=.agg vs.toArray) (u3:=v 17) (ev_at 0 43 (hd 0 dcx)) (ev_at 4 47 (hd 4 dcx)) (ev_at 17 60 rfl)
      (HC.out next (l,s) (v 17) X HBB.out.2.1 HGO.out h17 (HV.out.2.2.rm SX.rm) SX.mat SX.j (jQ S.hh SX.rm.size)) ?_ ?_ ?_
     ·intro y X2 hR;rw[HRES.out]at hR;have he:=hR.2.2.2;cases he
     ·intro ch X2 hR;rw[HRES.out]at hR;obtain⟨r1,r2,r3,he⟩:=hR;have hS':(Except.error n,l2,s2)=R:=hS;subst hS';obtain rfl:ch=pan n:=by injection he
      exact⟨layL_defers _ _ _ _,SX.rm.trans r1,r2,r3,rfl⟩
     ·intro X2 hR;obtain⟨_,_,_,he⟩:=hR;rw[HRES.out]at he;cases he
    ·exact λX hX=>alB (B:=B5) al_Kn (by rw[<-hB5];exact hX)
    ·exact λv X h _=>h.elim
    ·exact λ_ _ _ _ h=>h
    ·exact λy X X' hR ⟨g8,q1,q2,q3⟩=>⟨g8,q1,q2,hR.bk q3 (by have:=S.hh;omega)⟩
    ·exact λX X' h=>h.size
    ·repeat' (first|exact trivial|exact IsV.stb _|exact IsNb.stb _ _|exact IsOne.stb _ _|exact(λ_ _ _ e H=>IsEnv.rm H (Rm.ext e))|exact(λ_ _ _ _ h=>h)|apply jO)
   | ok q=>
    refine rgC 18 [some 43,some 44,some 45,some 46,some 47,some 48,some 49,some 50,some 51,some 52,some 53,some 54,some 55,some 56,some 57,some 58,some 59,some 60,some 61,some 8] [IsP (m.h+2) 0,IsP (w.heap.size) 7,IsV (.slice (some ⟨g,o,none⟩) mm cp),IsP g o,IsV (.agg vs.toArray),IsV (.slice ao env.length cpe),IsV (.slice ao env.length cpe),iV ((env.length:Nat):Int),IsV (.slice ao env.length cpe),iV ((env.length:Nat):Int),IsV (.slice ao env.length env.length),IsP (w.heap.size) 1,IsV (.string x),IsP g7 4,iV next,IsV (.agg #[.string x,.int .i64 next]),IsOne x next,IsEnv m.h (env++ [(x,next)]),(λ_ _=>True),IsNb B5 [.bool false,.slice none 0 0,.bool false,.slice none 0 0,.bool false]] (Rm m.h) (λy X=>IsK 128 q y X/\SIv m J w [.int .i64 opc,.string x,.int .i64 kk,.bool s0,.slice a0 n0 c0,.int .i64 lo,.int .i64 hi,.slice (some ⟨g,o,none⟩) mm cp] [.int .i64 sure,.int .i64 opn,.int .i64 first,.int .i64 last,.int .i64 next,.bool fin] g7 (l2,s2) X) ?_ ?_ ?_ ?_ ?_ ?_ ?_ ?_
    ·refine Rc zv ?_;refine Rc zax ?_;refine Rc (lvC 7 S.b4 ld_Nds (qA 1 44)) ?_;refine Rc yv ?_;refine Rc jy ?_;refine Rc yj ?_;refine Rc yj ?_;refine Rc (lenV (qA (fP:=IsV (.slice ao env.length cpe)) 6 49)) ?_;refine Rc yj ?_;refine Rc (lenV (qA (fP:=IsV (.slice ao env.length cpe)) 8 51)) ?_;refine Rc (slV HN0.out he2 he1 (qA 5 48) (qA 7 50) (qA 9 52)) ?_;refine Rc xl ?_;refine Rc (lvC 1 S.b4 ld_str (qA 11 54)) ?_;refine Rc jx ?_;refine Rc (lvC 4 S.k7 xE (qA 13 56)) ?_;refine Rc (bdV (qC 12 55) (qC 14 57)) ?_;refine Rc (bsV (qC 15 58)) ?_;refine Rc (apV (by have:=S.hh;omega) HEC.out HL.out (qC 10 53) (qC 16 59)) ?_;exact rn0
    ·intro v X hE hd K hK;have h17:IsEnv m.h (env++ [(x,next)]) (v 17) X:=hd 17 dcx;have SX:=S.ext hJ hE
     refine wp_call3 (en func84) (u1:=.pointer (some ⟨m.h+2,0,none⟩)) (u2:=.agg vs.toArray) (u3:=v 17) (ev_at 0 43 (hd 0 dcx)) (ev_at 4 47 (hd 4 dcx)) (ev_at 17 60 rfl)
      (HC.out next (l,s) (v 17) X HBB.out.2.1 HGO.out h17 (HV.out.2.2.rm SX.rm) SX.mat SX.j (jQ S.hh SX.rm.size)) ?_ ?_ ?_
     ·intro y X2 hR;rw[HRES.out]at hR;obtain⟨r1,r2,r3,y',he,hk⟩:=hR;obtain rfl:y=y':=by injection he
      exact hK _ _ r1 ⟨hk,SX.call r1 r2 r3⟩
     ·intro ch X2 hR;rw[HRES.out]at hR;obtain⟨_,_,_,y',he,_⟩:=hR;cases he
     ·intro X2 hR;rw[HRES.out]at hR;obtain⟨_,_,_,y',he,_⟩:=hR;cases he
    ·exact λX hX=>alB (B:=B5) al_Kn (by rw[<-hB5];exact hX)
    ·intro v X hP hA;clear S;obtain⟨⟨s5,a5,n5,c5,s6,a6,n6,c6,hv18,g1,g2⟩,S⟩:=hP;obtain⟨g8,hv19,hg8,B8⟩:=(hA:IsNb B5 _ (v 19) X);simp only[lxE,Nat.reduceAdd];rw[hv18,hv19];clear hv18 hv19;refine stA 20 (h:=λK hK=>?_);refine qZ (us:= [.bool s5,.slice a5 n5 c5,.bool s6,.slice a6 n6 c6,.bool q.fin]) B8 xP rfl rfl nw5 (λY B8' O=>hK _ _ ?_);replace S:=S.other hJ O (by omega) (by omega);replace g1:=IsI.gstb _ _ _ _ _ O.gr g1;replace g2:=IsI.gstb _ _ _ _ _ O.gr g2;have hg87:g7≠g8:=by omega
     replace B8:=B8';clear B8' O hK K;refine jR za ?_ _;simp only at hS;obtain⟨r3,hr3⟩:∃b,(fin&&q.fin)=b:=⟨_,rfl⟩;have HR3:=hid hr3;obtain⟨sl,hsl⟩:∃z,q.lo.sign=z:=⟨_,rfl⟩;obtain⟨sh,hsh⟩:∃z,q.hi.sign=z:=⟨_,rfl⟩;obtain⟨c1,hc1⟩:∃b,(sl==0)=b:=⟨_,rfl⟩;obtain⟨c2,hc2⟩:∃b,(sh==0)=b:=⟨_,rfl⟩;obtain⟨d1,hd1⟩:∃b,decide (sl<=0)=b:=⟨_,rfl⟩;obtain⟨d2,hd2⟩:∃b,decide (0<=sh)=b:=⟨_,rfl⟩;have HSL:=hid hsl;have HSH:=hid hsh;have HC1:=hid hc1;have HC2:=hid hc2;have HD1:=hid hd1;have HD2:=hid hd2;have HA:=hid (show(c1&&c2)=decide (q.lo=0/\q.hi=0)by rw[<-hc1,<-hc2,<-hsl,<-hsh,Bool.eq_iff_iff];simp only[Bool.and_eq_true,beq_iff_eq,Int.sign_eq_zero_iff_zero,jY]);have HBq:=hid (show(d1&&d2)=decide (q.lo<=0/\0<=q.hi)by rw[<-hd1,<-hd2,<-hsl,<-hsh,Bool.eq_iff_iff];simp only[Bool.and_eq_true,jY,Int.sign_nonpos_iff,Int.sign_nonneg_iff]);clear hr3 hsl hsh hc1 hc2 hd1 hd2;go_upto_region 6 with fail;refine rgs 7 (dR 62 7) [IsP g7 5,IsV (.bool fin),IsV (.bool fin),IsIf fin (IsP g8 4),IsIf fin (IsV (.bool q.fin)),IsV (.bool r3),IsP g7 5] [] ?_ ?_
     ·refine Rc (fa (fa_Tr5 g7) (qB 7)) ?_;refine Rc (lvC 5 S.k7 ld_b (qA 0 62)) ?_;refine Rc (mv (qA 1 63)) ?_;refine RcB 2 64 fin true (λhb=>by subst hb;exact fa (fa_Kn2 g8 0) (qB 8)) ?_;refine RcB 2 64 fin true (λhb=>by subst hb;exact lvC 4 B8 ld_b (qA 3 65)) ?_;refine Rc (pkA (b2:=q.fin) (qC 2 64) (λhb=>by subst hb;exact qA 4 66) HR3.out) ?_;refine Rc (fa (fa_Tr5 g7) (qB 7)) ?_;exact rn0
     intro v X4 e1 hZ _;replace S:=S.ext hJ e1;replace B8:=B8.ext e1;replace g1:=g1.ext e1;replace g2:=g2.ext e1;simp only[lxE,Nat.reduceAdd];rw[show v 5=.bool r3 from hZ 5 dcx,show v 6=.pointer (some ⟨g7,5,none⟩)from hZ 6 dcx];clear hZ e1;refine stL (λK hK=>?_);refine stCO 5 S.k7 (st_b r3) rfl (NoWord.bool _) (λX_ B7 O=>hK _ _ ?_);replace S:=S.upd7 hJ B7 O;simp only[u0x,u1x]at S;replace B8:=O.bk B8 (Ne.symm hg87);replace g1:=IsI.gstb _ _ _ _ _ O.gr g1;replace g2:=IsI.gstb _ _ _ _ _ O.gr g2;clear B7 O hK K;refine jL ?_;go_upto_region 7 with fail;refine rg 8 [some 69,some 70,some 71,some 72,some 73,some 74,some 9,some 10] [IsP g8 0,IsI 128 q.lo,iV sl,IsP g8 2,IsI 128 q.hi,iV sh,iV sl,iV sh] [] 0 ?_ ?_
     ·refine Rc (fa (qR g8 0) (qB 8)) ?_;refine Rc (lvI 0 B8 g1 qF (qA 0 69)) ?_;refine Rc (cl1 (en func127) (qA (fP:=IsI 128 q.lo) 1 70) (λx0 w' hE d0=>jJ (Sign_f d0) λ_ _ h=>h.int HSL.out)) ?_;refine Rc (fa (qQ g8 0) (qB 8)) ?_;refine Rc (lvI 2 B8 g2 qF (qA 3 72)) ?_;refine Rc (cl1 (en func127) (qA (fP:=IsI 128 q.hi) 4 73) (λx0 w' hE d0=>jJ (Sign_f d0) λ_ _ h=>h.int HSH.out)) ?_;refine Rc (mv (qA 2 71)) ?_;refine Rc (mv (qA 5 74)) ?_;exact rn0
     intro v X5 e1 hZ _;replace S:=S.ext hJ e1;replace B8:=B8.ext e1;replace g1:=g1.ext e1;replace g2:=g2.ext e1;simp only[lxE,Nat.reduceAdd];rw[show v 6=.int .i64 sl from hZ 6 dcx,show v 7=.int .i64 sh from hZ 7 dcx];clear hZ e1;refine jR za ?_ _;clear B8 g1 g2;have B8:=trivial;have g1:=trivial;have g2:=trivial;by_cases hA:q.lo=0/\q.hi=0
     ·have HA2:=hid (show(c1&&c2)=true by rw[HA.out];exact decide_eq_true hA);simp only[Tr.step]at hS;rw[if_pos hA]at hS;simp only at hS;rw[HR3.out]at hS;go_upto_region 8 with fail;refine rgs 6 (dR 75 6) [iV sl,IsV (.bool c1),IsV (.bool c1),IsIf c1 (iV sh),IsIf c1 (IsV (.bool c2)),IsV (.bool true)] [] ?_ ?_
      ·refine Rc (mv (qB 9)) ?_;refine Rc (bn (r:=.bool c1) (qC 0 75) qE (hr:=λw=>by have hx9:=HC1.out;go_simp)) ?_;refine Rc (mv (qA 1 76)) ?_;refine RcB 2 77 c1 true (λhb=>by subst hb;exact mv (qB 10)) ?_;refine RcB 2 77 c1 true (λhb=>by subst hb;exact bn (r:=.bool c2) (qA (fP:=iV sh) 3 78) qE (hr:=λw=>by have hx9:=HC2.out;go_simp)) ?_;refine Rc (pkA (b2:=c2) (qC 2 77) (λhb=>by subst hb;exact qA 4 79) HA2.out) ?_;exact rn0
      intro v X6 e1 hZ _;replace S:=S.ext hJ e1;simp only[lxE,Nat.reduceAdd];rw[show v 5=.bool true from hZ 5 dcx];clear hZ e1;refine jL ?_;go_upto_region 3 with fail;refine rgs 4 (dR 32 4) [IsP g7 4,iV next,iV (next+1),IsP g7 4] [] ?_ ?_
      ·refine Rc jx ?_;refine Rc (lvC 4 S.k7 xE (qA 0 32)) ?_;refine Rc ye ?_;refine Rc jx ?_;exact rn0
      intro v X7 e1 hZ _;replace S:=S.ext hJ e1;simp only[lxE,Nat.reduceAdd];rw[show v 2=.int .i64 (next+1)from hZ 2 dcx,show v 3=.pointer (some ⟨g7,4,none⟩)from hZ 3 dcx];clear hZ e1;refine stL (λK hK=>?_);refine stCO 4 S.k7 (st_i (next+1)) rfl (NoWord.int64 _) (λX7_ B7 O=>hK _ _ ?_);replace S:=S.upd7 hJ B7 O;simp only[u0x,u1x]at S;clear B7 O hK K;refine jL ?_;have S':=hid S;clear S;have HS':=hid hS;clear hS g1 g2 B8;go_wp2_with fail
      go_roundg k
      case measure=>omega
      case rel=>exact⟨⟨sure,opn,first,last,next+1,r3⟩,(l2,s2),by have:=HBB.out;simp only;omega,by have:=HBB.out;simp only;omega,by have:=HBB.out;have:=HGO.out;simp only;omega,HS',S'⟩
     ·have HA2:=hid (show(c1&&c2)=false by rw[HA.out];exact decide_eq_false hA);simp only[Tr.step]at hS;rw[if_neg hA]at hS;go_upto_region 8 with fail;refine rgs 6 (dR 75 6) [iV sl,IsV (.bool c1),IsV (.bool c1),IsIf c1 (iV sh),IsIf c1 (IsV (.bool c2)),IsV (.bool false)] [] ?_ ?_
      ·refine Rc (mv (qB 9)) ?_;refine Rc (bn (r:=.bool c1) (qC 0 75) qE (hr:=λw=>by have hx9:=HC1.out;go_simp)) ?_;refine Rc (mv (qA 1 76)) ?_;refine RcB 2 77 c1 true (λhb=>by subst hb;exact mv (qB 10)) ?_;refine RcB 2 77 c1 true (λhb=>by subst hb;exact bn (r:=.bool c2) (qA (fP:=iV sh) 3 78) qE (hr:=λw=>by have hx9:=HC2.out;go_simp)) ?_;refine Rc (pkA (b2:=c2) (qC 2 77) (λhb=>by subst hb;exact qA 4 79) HA2.out) ?_;exact rn0
      intro v X8 e1 hZ _;replace S:=S.ext hJ e1;simp only[lxE,Nat.reduceAdd];rw[show v 5=.bool false from hZ 5 dcx];clear hZ e1;refine jL ?_;go_upto_region 9 with fail;refine rgs 6 (dR 81 6) [IsP g7 2,iV first,IsP g7 4,iV next,iV (min first next),IsP g7 2] [] ?_ ?_
      ·refine Rc (fa (fa_Tr2 g7) (qB 7)) ?_;refine Rc (lvC 2 S.k7 xE (qA 0 81)) ?_;refine Rc jx ?_;refine Rc (lvC 4 S.k7 xE (qA 2 83)) ?_;refine Rc (ok2 (qC 1 82) (qC 3 84) (λa w h1 h2=>by rw[min_run h1 h2 rfl,HMN.out])) ?_;refine Rc (fa (fa_Tr2 g7) (qB 7)) ?_;exact rn0
      intro v X9 e1 hZ _;replace S:=S.ext hJ e1;simp only[lxE,Nat.reduceAdd];rw[show v 4=.int .i64 (min first next)from hZ 4 dcx,show v 5=.pointer (some ⟨g7,2,none⟩)from hZ 5 dcx];clear hZ e1;refine stL (λK hK=>?_);refine stCO 2 S.k7 (st_i (min first next)) rfl (NoWord.int64 _) (λX9_ B7 O=>hK _ _ ?_);replace S:=S.upd7 hJ B7 O;simp only[u0x,u1x]at S;clear B7 O hK K;refine jL ?_;by_cases hB:q.lo<=0/\0<=q.hi
      ·have HB3:=hid (show(d1&&d2)=true by rw[HBq.out];exact decide_eq_true hB);rw[if_pos hB]at hS;simp only at hS;rw[HR3.out]at hS;go_upto_region 10 with fail;refine rgs 6 (dR 87 6) [iV sl,IsV (.bool d1),IsV (.bool d1),IsIf d1 (iV sh),IsIf d1 (IsV (.bool d2)),IsV (.bool true)] [] ?_ ?_
       ·refine Rc (mv (qB 9)) ?_;refine Rc (bn (r:=.bool d1) (qC 0 87) qE (hr:=λw=>by have hx9:=HD1.out;go_simp)) ?_;refine Rc (mv (qA 1 88)) ?_;refine RcB 2 89 d1 true (λhb=>by subst hb;exact mv (qB 10)) ?_;refine RcB 2 89 d1 true (λhb=>by subst hb;exact bn (r:=.bool d2) (qA (fP:=iV sh) 3 90) qE (hr:=λw=>by have hx9:=HD2.out;go_simp)) ?_;refine Rc (pkA (b2:=d2) (qC 2 89) (λhb=>by subst hb;exact qA 4 91) HB3.out) ?_;exact rn0
       intro v X10 e1 hZ _;replace S:=S.ext hJ e1;simp only[lxE,Nat.reduceAdd];rw[show v 5=.bool true from hZ 5 dcx];clear hZ e1;refine jL ?_;go_upto_region 11 with fail;refine rgs 4 (dR 93 4) [IsP g7 1,iV opn,iV (opn+1),IsP g7 1] [] ?_ ?_
       ·refine Rc (fa (fa_Tr1 g7) (qB 7)) ?_;refine Rc (lvC 1 S.k7 xE (qA 0 93)) ?_;refine Rc (bn (r:=.int .i64 (opn+1)) (qC 1 94) qE (hr:=λw=>by have hx9:=HOW.out;go_simp)) ?_;refine Rc (fa (fa_Tr1 g7) (qB 7)) ?_;exact rn0
       intro v X11 e1 hZ _;replace S:=S.ext hJ e1;simp only[lxE,Nat.reduceAdd];rw[show v 2=.int .i64 (opn+1)from hZ 2 dcx,show v 3=.pointer (some ⟨g7,1,none⟩)from hZ 3 dcx];clear hZ e1;refine stL (λK hK=>?_);refine stCO 1 S.k7 (st_i (opn+1)) rfl (NoWord.int64 _) (λX11_ B7 O=>hK _ _ ?_);replace S:=S.upd7 hJ B7 O;simp only[u0x,u1x]at S;clear B7 O hK K;refine jL ?_;go_upto_region 3 with fail;refine rgs 4 (dR 32 4) [IsP g7 4,iV next,iV (next+1),IsP g7 4] [] ?_ ?_
       ·refine Rc jx ?_;refine Rc (lvC 4 S.k7 xE (qA 0 32)) ?_;refine Rc ye ?_;refine Rc jx ?_;exact rn0
       intro v X12 e1 hZ _;replace S:=S.ext hJ e1;simp only[lxE,Nat.reduceAdd];rw[show v 2=.int .i64 (next+1)from hZ 2 dcx,show v 3=.pointer (some ⟨g7,4,none⟩)from hZ 3 dcx];clear hZ e1;refine stL (λK hK=>?_);refine stCO 4 S.k7 (st_i (next+1)) rfl (NoWord.int64 _) (λX12_ B7 O=>hK _ _ ?_);replace S:=S.upd7 hJ B7 O;simp only[u0x,u1x]at S;clear B7 O hK K;refine jL ?_;have S':=hid S;clear S;have HS':=hid hS;clear hS g1 g2 B8;go_wp2_with fail
       go_roundg k
       case measure=>omega
       case rel=>exact⟨⟨sure,opn+1,min first next,last,next+1,r3⟩,(l2,s2),by have:=HBB.out;simp only;omega,by have:=HBB.out;simp only;omega,by have:=HBB.out;have:=HGO.out;simp only;omega,HS',S'⟩
      ·have HB3:=hid (show(d1&&d2)=false by rw[HBq.out];exact decide_eq_false hB);rw[if_neg hB]at hS;go_upto_region 10 with fail;refine rgs 6 (dR 87 6) [iV sl,IsV (.bool d1),IsV (.bool d1),IsIf d1 (iV sh),IsIf d1 (IsV (.bool d2)),IsV (.bool false)] [] ?_ ?_
       ·refine Rc (mv (qB 9)) ?_;refine Rc (bn (r:=.bool d1) (qC 0 87) qE (hr:=λw=>by have hx9:=HD1.out;go_simp)) ?_;refine Rc (mv (qA 1 88)) ?_;refine RcB 2 89 d1 true (λhb=>by subst hb;exact mv (qB 10)) ?_;refine RcB 2 89 d1 true (λhb=>by subst hb;exact bn (r:=.bool d2) (qA (fP:=iV sh) 3 90) qE (hr:=λw=>by have hx9:=HD2.out;go_simp)) ?_;refine Rc (pkA (b2:=d2) (qC 2 89) (λhb=>by subst hb;exact qA 4 91) HB3.out) ?_;exact rn0
       intro v X13 e1 hZ _;replace S:=S.ext hJ e1;simp only[lxE,Nat.reduceAdd];rw[show v 5=.bool false from hZ 5 dcx];clear hZ e1;refine jL ?_;go_upto_region 12 with fail;refine rgs 4 (dR 97 4) [IsP g7 0,iV sure,iV (sure+1),IsP g7 0] [] ?_ ?_
       ·refine Rc (fa (fa_Tr0 g7) (qB 7)) ?_;refine Rc (lvC 0 S.k7 xE (qA 0 97)) ?_;refine Rc (bn (r:=.int .i64 (sure+1)) (qC 1 98) qE (hr:=λw=>by have hx9:=HUW.out;go_simp)) ?_;refine Rc (fa (fa_Tr0 g7) (qB 7)) ?_;exact rn0
       intro v X14 e1 hZ _;replace S:=S.ext hJ e1;simp only[lxE,Nat.reduceAdd];rw[show v 2=.int .i64 (sure+1)from hZ 2 dcx,show v 3=.pointer (some ⟨g7,0,none⟩)from hZ 3 dcx];clear hZ e1;refine stL (λK hK=>?_);refine stCO 0 S.k7 (st_i (sure+1)) rfl (NoWord.int64 _) (λX14_ B7 O=>hK _ _ ?_);replace S:=S.upd7 hJ B7 O;simp only[u0x]at S;clear B7 O hK K;refine jL ?_;go_upto_region 13 with fail;refine rgs 3 (dR 101 3) [IsP (w.heap.size) 0,iV opc,IsV (.bool fst)] [] ?_ ?_
       ·refine Rc (fa (fa_Nd0 w.heap.size) (qB 4)) ?_;refine Rc (lvC 0 S.b4 xE (qA 0 101)) ?_;refine Rc (bn (r:=.bool fst) (qC 1 102) qE (hr:=λw=>by have hx9:=HF.out;go_simp)) ?_;exact rn0
       intro v X15 e1 hZ _;replace S:=S.ext hJ e1;simp only[lxE,Nat.reduceAdd];rw[show v 2=.bool fst from hZ 2 dcx];clear hZ e1;refine jL ?_;cases fst with
       | true=>
        simp only[if_true]at hS;rw[HR3.out]at hS;go_upto_region 14 with fail;refine rgs 3 (dR 104 3) [IsP g7 4,iV next,IsP g7 3] [] ?_ ?_
        ·refine Rc jx ?_;refine Rc (lvC 4 S.k7 xE (qA 0 104)) ?_;refine Rc (fa (fa_Tr3 g7) (qB 7)) ?_;exact rn0
        intro v X16 e1 hZ _;replace S:=S.ext hJ e1;simp only[lxE,Nat.reduceAdd];rw[show v 1=.int .i64 next from hZ 1 dcx,show v 2=.pointer (some ⟨g7,3,none⟩)from hZ 2 dcx];clear hZ e1;refine stL (λK hK=>?_);refine stCO 3 S.k7 (st_i next) rfl (NoWord.int64 _) (λX16_ B7 O=>hK _ _ ?_);replace S:=S.upd7 hJ B7 O;simp only[u0x,u1x]at S;clear B7 O hK K;refine jL ?_;have HS:=hid hS;clear hS;go_upto_region 15 with fail;refine rgs 1 [some 107] [IsV (.agg #[.int .i64 (sure+1),.int .i64 opn,.int .i64 (min first next),.int .i64 next,.int .i64 next,.bool r3])] [] ?_ ?_
        ·refine Rc (lvV S.k7 ld_Tr (qB 7)) ?_;exact rn0
        intro v X17 e1 hZ _;replace S:=S.ext hJ e1;simp only[lxE];rw[show v 0=.agg #[.int .i64 (sure+1),.int .i64 opn,.int .i64 (min first next),.int .i64 next,.int .i64 next,.bool r3]from hZ 0 dcx];clear hZ e1;refine stL (λK hK=>?_);refine qZ (us:= [.int .i64 (sure+1),.int .i64 opn,.int .i64 (min first next),.int .i64 next,.int .i64 next,.bool r3]) S.b6 st_Tr rfl rfl nwT (λX9 B9 O=>hK _ _ ?_);obtain⟨f1,f2,f3⟩:=S.last hJ O;refine jL ?_;have d0:=B9.c 0 _ rfl;have d1:=B9.c 1 _ rfl;have d2:=B9.c 2 _ rfl;have d3:=B9.c 3 _ rfl;have d4:=B9.c 4 _ rfl;have d5:=B9.c 5 _ rfl;clear hK K O B9 S;go_wp2_with fail;exact jK (v:=.agg #[.int .i64 (sure+1),.int .i64 opn,.int .i64 (min first next),.int .i64 next,.int .i64 next,.bool r3]) (by simp[results,results113,go_sem,d0,d1,d2,d3,d4,d5]) rfl (by rw[<-HS.out];exact⟨f1,f2,f3,rfl⟩)
       | false=>
        simp only[Bool.false_eq_true,if_false]at hS;rw[HR3.out]at hS;go_upto_region 3 with fail;refine rgs 4 (dR 32 4) [IsP g7 4,iV next,iV (next+1),IsP g7 4] [] ?_ ?_
        ·refine Rc jx ?_;refine Rc (lvC 4 S.k7 xE (qA 0 32)) ?_;refine Rc ye ?_;refine Rc jx ?_;exact rn0
        intro v X18 e1 hZ _;replace S:=S.ext hJ e1;simp only[lxE,Nat.reduceAdd];rw[show v 2=.int .i64 (next+1)from hZ 2 dcx,show v 3=.pointer (some ⟨g7,4,none⟩)from hZ 3 dcx];clear hZ e1;refine stL (λK hK=>?_);refine stCO 4 S.k7 (st_i (next+1)) rfl (NoWord.int64 _) (λX18_ B7 O=>hK _ _ ?_);replace S:=S.upd7 hJ B7 O;simp only[u0x,u1x]at S;clear B7 O hK K;refine jL ?_;have S':=hid S;clear S;have HS':=hid hS;clear hS g1 g2 B8;go_wp2_with fail
        go_roundg k
        case measure=>omega
        case rel=>exact⟨⟨sure+1,opn,min first next,last,next+1,r3⟩,(l2,s2),by have:=HBB.out;simp only;omega,by have:=HBB.out;simp only;omega,by have:=HBB.out;have:=HGO.out;simp only;omega,HS',S'⟩
    ·exact λy X X' e h=>⟨IsKn.stb _ _ _ _ _ _ _ e h.1,h.2.ext hJ e⟩
    ·exact λy X X' hR ⟨g8,q1,q2,q3⟩=>⟨g8,q1,q2,hR.bk q3 (by have:=S.hh;omega)⟩
    ·exact λX X' h=>h.size
    ·repeat' (first|exact trivial|exact IsV.stb _|exact IsNb.stb _ _|exact IsOne.stb _ _|exact(λ_ _ _ e H=>IsEnv.rm H (Rm.ext e))|exact(λ_ _ _ _ h=>h)|apply jO)
  ·have HBR:=hid (show(b1&&b2)=false by rw[<-hb1,<-hb2,Bool.and_eq_false_iff];simp only[decide_eq_false_iff_not];omega);have HST:=hid hgo;clear hb1 hb2 hgo;go_upto_region 2 with fail;refine rgs 12 (dR 20 12) [IsP g7 4,iV next,IsP (w.heap.size) 6,iV hi,IsV (.bool b1),IsV (.bool b1),IsIf b1 (IsP (m.h+2) 0),IsIf b1 (IsP (m.h+2) 0),IsIf b1 (IsP (m.h+2) 4),IsIf b1 (iV (left:Int)),IsIf b1 (IsV (.bool b2)),IsV (.bool false)] [] ?_ ?_
   ·refine Rc jx ?_;refine Rc (lvC 4 S.k7 xE (qA 0 20)) ?_;refine Rc xk ?_;refine Rc (lvC 6 S.b4 xE (qA 2 22)) ?_;refine Rc zbb ?_;refine Rc (mv (qA 4 24)) ?_;refine RcB 5 25 b1 true (λhb=>by subst hb;exact mv (qB 0)) ?_;refine RcB 5 25 b1 true (λhb=>by subst hb;exact nc (p:=⟨m.h+2,0,none⟩) (qA 6 26)) ?_;refine RcB 5 25 b1 true (λhb=>by subst hb;exact fa (fa_Mc4 (m.h+2)) (qA 7 27)) ?_;refine RcB 5 25 b1 true (λhb=>by subst hb;exact lvC 4 S.mat.bk xE (qA 8 28)) ?_;refine RcB 5 25 b1 true (λhb=>by subst hb;exact bn (r:=.bool b2) (qA (fP:=iV (left:Int)) 9 29) qE (hr:=λw=>by have hx9:=HB2.out;go_simp)) ?_;refine Rc (pkA (b2:=b2) (qC 5 25) (λhb=>by subst hb;exact qA 10 30) HBR.out) ?_;exact rn0
   intro v X19 e1 hZ _;replace S:=S.ext hJ e1;simp only[lxE,Nat.reduceAdd];rw[show v 11=.bool false from hZ 11 dcx];clear hZ e1;refine jL ?_;go_upto_region 16 with fail;have HMN:=hid (show(if next<first then next else first)=min first next by rw[Int.min_def];split <;> split <;> omega);refine rgs 6 (dR 108 6) [IsP g7 2,iV first,IsP g7 4,iV next,iV (min first next),IsP g7 2] [] ?_ ?_
   ·refine Rc (fa (fa_Tr2 g7) (qB 7)) ?_;refine Rc (lvC 2 S.k7 xE (qA 0 108)) ?_;refine Rc jx ?_;refine Rc (lvC 4 S.k7 xE (qA 2 110)) ?_;refine Rc (ok2 (qC 1 109) (qC 3 111) (λa w h1 h2=>by rw[min_run h1 h2 rfl,HMN.out])) ?_;refine Rc (fa (fa_Tr2 g7) (qB 7)) ?_;exact rn0
   intro v X20 e1 hZ _;replace S:=S.ext hJ e1;simp only[lxE,Nat.reduceAdd];rw[show v 4=.int .i64 (min first next)from hZ 4 dcx,show v 5=.pointer (some ⟨g7,2,none⟩)from hZ 5 dcx];clear hZ e1;refine stL (λK hK=>?_);refine stCO 2 S.k7 (st_i (min first next)) rfl (NoWord.int64 _) (λX20_ B7 O=>hK _ _ ?_);replace S:=S.upd7 hJ B7 O;simp only[u0x,u1x]at S;clear B7 O hK K;refine jL ?_;go_upto_region 17 with fail;obtain⟨bg,hbg⟩:∃b,decide (hi<next)=b:=⟨_,rfl⟩;have HBG:=hid hbg;obtain⟨r2,hr2⟩:∃b,(fin&&bg)=b:=⟨_,rfl⟩;have HR2:=hid hr2;clear hbg hr2;refine rgs 10 (dR 114 10) [IsP g7 5,IsV (.bool fin),IsV (.bool fin),IsIf fin (IsP g7 4),IsIf fin (iV next),IsIf fin (IsP (w.heap.size) 6),IsIf fin (iV hi),IsIf fin (IsV (.bool bg)),IsV (.bool r2),IsP g7 5] [] ?_ ?_
   ·refine Rc (fa (fa_Tr5 g7) (qB 7)) ?_;refine Rc (lvC 5 S.k7 ld_b (qA 0 114)) ?_;refine Rc (mv (qA 1 115)) ?_;refine RcB 2 116 fin true (λhb=>by subst hb;exact fa (jE g7) (qB 7)) ?_;refine RcB 2 116 fin true (λhb=>by subst hb;exact lvC 4 S.k7 xE (qA 3 117)) ?_;refine RcB 2 116 fin true (λhb=>by subst hb;exact fa (fa_Nd5 w.heap.size) (qB 4)) ?_;refine RcB 2 116 fin true (λhb=>by subst hb;exact lvC 6 S.b4 xE (qA 5 119)) ?_;refine RcB 2 116 fin true (λhb=>by subst hb;exact bn (r:=.bool bg) (qA (fP:=iV next) 4 118) (qA (fP:=iV hi) 6 120) (hr:=λw=>by have hx9:=HBG.out;go_simp)) ?_;refine Rc (pkA (b2:=bg) (qC 2 116) (λhb=>by subst hb;exact qA 7 121) HR2.out) ?_;refine Rc (fa (fa_Tr5 g7) (qB 7)) ?_;exact rn0
   intro v X21 e1 hZ _;replace S:=S.ext hJ e1;simp only[lxE,Nat.reduceAdd];rw[show v 8=.bool r2 from hZ 8 dcx,show v 9=.pointer (some ⟨g7,5,none⟩)from hZ 9 dcx];clear hZ e1;refine stL (λK hK=>?_);refine stCO 5 S.k7 (st_b r2) rfl (NoWord.bool _) (λX21_ B7 O=>hK _ _ ?_);replace S:=S.upd7 hJ B7 O;simp only[u0x,u1x]at S;clear B7 O hK K;refine jL ?_;go_upto_region 18 with fail;refine rgs 1 [some 124] [IsV (.agg #[.int .i64 sure,.int .i64 opn,.int .i64 (min first next),.int .i64 last,.int .i64 next,.bool r2])] [] ?_ ?_
   ·refine Rc (lvV S.k7 ld_Tr (qB 7)) ?_;exact rn0
   intro v X22 e1 hZ _;replace S:=S.ext hJ e1;simp only[lxE];rw[show v 0=.agg #[.int .i64 sure,.int .i64 opn,.int .i64 (min first next),.int .i64 last,.int .i64 next,.bool r2]from hZ 0 dcx];clear hZ e1;refine stL (λK hK=>?_);refine qZ (us:= [.int .i64 sure,.int .i64 opn,.int .i64 (min first next),.int .i64 last,.int .i64 next,.bool r2]) S.b6 st_Tr rfl rfl nwT (λX9 B9 O=>hK _ _ ?_);obtain⟨f1,f2,f3⟩:=S.last hJ O;refine jL ?_;have d0:=B9.c 0 _ rfl;have d1:=B9.c 1 _ rfl;have d2:=B9.c 2 _ rfl;have d3:=B9.c 3 _ rfl;have d4:=B9.c 4 _ rfl;have d5:=B9.c 5 _ rfl;clear hK K O B9 S;go_wp2_with fail;have hR:=HS.out;rw[srch_stop HST.out]at hR;subst hR;exact jK (v:=.agg #[.int .i64 sure,.int .i64 opn,.int .i64 (min first next),.int .i64 last,.int .i64 next,.bool r2]) (by simp[results,results113,go_sem,d0,d1,d2,d3,d4,d5]) rfl ⟨f1,f2,f3,by simp only[Tr.stop];rw[HBG.out,HR2.out]⟩
end
section
open Go Go.RowKit
section
variable {P:Program} {ops:Array Oper} {Q:Exit->Act->World->Prop}
def StbR(R:World->World->Prop)(p:Value->World->Prop):Prop:=∀x w w',R w w'->p x w->p x w'
def AllStbR(R:World->World->Prop):List (Value->World->Prop)->Prop
 | []=>True
 |p ::ps=>StbR R p/\AllStbR R ps
theorem AllStbR.get{R:World->World->Prop}:∀ {L:List (Value->World->Prop)},AllStbR R L->∀i,StbR R (L.getD i (λ_ _=>True))
 | [],_,i=>λ_ _ _ _ _=>by simp
 |p ::ps,h,0=>by simpa using h.1
 |p ::ps,h,i+1=>by simpa using AllStbR.get h.2 i
def RgLx(P:Program)(ops:Array Oper)(Q:Exit->Act->World->Prop)(R:World->World->Prop)(ds:List (Option Tmp))(a0:Act)(w0:World)(L:List (Value->World->Prop))(i:Nat)(o:Oper):Prop:=
 ∀ (v:Nat->Value) (w:World),R w0 w->(∀j,(ups .any ops i).contains j=true->L.getD j (λ_ _=>True) (v j) w)->
  ∀K:Act->World->Prop,Shut (∀x w',R w w'->L.getD i (λ_ _=>True) x w'->K ((qW v a0 0 ds).put o.dst x) w')->
  if Region.wanted o (yielded ops (qW v a0 0 ds).tmps)=true then Oper.wp P o (qW v a0 0 ds) w K Q else K ((qW v a0 0 ds).put o.dst undef) w
def RgAllx(P:Program)(ops:Array Oper)(Q:Exit->Act->World->Prop)(R:World->World->Prop)(ds:List (Option Tmp))(a0:Act)(w0:World)(L:List (Value->World->Prop)):Nat->Nat->List Oper->Prop
 |_,0,_=>True
 |_,_+1, []=>True
 |i,k+1,o ::os=>RgLx P ops Q R ds a0 w0 L i o/\RgAllx P ops Q R ds a0 w0 L (i+1) k os
variable {R:World->World->Prop} {ds:List (Option Tmp)} {a0:Act} {w0:World} {L:List (Value->World->Prop)} {i:Nat} {o:Oper}
theorem RgAllx.get:∀(k i:Nat) (os:List Oper),RgAllx P ops Q R ds a0 w0 L i k os->∀j,j<k->∀o,os[j]? =some o->RgLx P ops Q R ds a0 w0 L (i+j) o
 |0,_,_,_,j,h,_,_=>by omega
 |_+1,_, [],_,_,_,_,ho=>by simp at ho
 |k+1,i,o ::os,h,0,_,o',ho=>by simp at ho;subst ho;exact h.1
 | k+1,i,o ::os,h,j+1,hj,o',ho=>by
  have:=RgAllx.get k (i+1) os h.2 j (by omega) o' jt
  rwa [show i+(j+1)=i+1+j by omega]
theorem RgAllx.nil{os:List Oper}:RgAllx P ops Q R ds a0 w0 L i 0 os:=by cases os <;> trivial
theorem RgAllx.cons{k:Nat}{os:List Oper}(h:RgLx P ops Q R ds a0 w0 L i o)(hs:RgAllx P ops Q R ds a0 w0 L (i+1) k os):RgAllx P ops Q R ds a0 w0 L i (k+1) (o ::os):=⟨h,hs⟩
theorem RgLx.mk(hg:o.guard=none)
  (h:∀(v:Nat->Value) (a:Act) (w:World),R w0 w->(∀j,(ups .any ops i).contains j=true->L.getD j (λ_ _=>True) (v j) w)->Fr ds a0 v a->
   ∀K:Act->World->Prop,Shut (∀x w',R w w'->L.getD i (λ_ _=>True) x w'->K (a.put o.dst x) w')->Oper.wp P o a w K Q):RgLx P ops Q R ds a0 w0 L i o:=by
 intro v w hE hd K hK;rw[if_pos (by simp[Region.wanted,hg])];exact h v _ w hE hd (Fr.of ds a0 v) K hK
theorem wp_region_rgx(R:World->World->Prop)(n:Nat)(ds:List (Option Tmp))(L:List (Value->World->Prop)){id:Nat}
  (hm:P.follows .mixedOrders=true) (hn:decide (n<=ops.size)=true) (hds:(List.range n).map (qP ops)=ds) (hap:qO ops n=true) (htp:xD .any ops n []=true) (hns:Region.noSelect ops=true)
  (hRt:∀ {a b c},R a b->R b c->R a c) (hRe:∀ {a b},Ext a b->R a b)
  (hst:AllStbR R L)
  (hop:RgAllx P ops Q R ds a0 w0 L 0 n ops.toList)
  (hend:∀v w,R w0 w->(∀i,i<n->L.getD i (λ_ _=>True) (v i) w)->wpAny P .any ops Q (ops.size-n) (qG ops.size n) (qW v a0 0 ds) w):
  (Code.region id ops true).wp P Q a0 w0:=by
 refine wp_region_any hm ?_;have hE:R w0 w0.drew:=hRe (Ext.refl w0).drew
 have hD:∀m,qU (Array.replicate ops.size false) m=0:=λm=>by
  unfold qU;rw[List.countP_eq_zero.2];intro i _;simp[qH]
 have key:∀m,m<=n->AllOps (λi=>∀o,ops[i]? =some o->RgOp P .any ops Q n a0 w0.drew R (λi=>L.getD i (λ_ _=>True)) [] i o) m:=by
  intro m
  induction m with
  |zero=>intro _;trivial
  | succ m ih=>
   intro hm;refine⟨ih (by omega),λo ho v w hR hd K hK=>?_⟩;have:=RgAllx.get n 0 ops.toList hop m (by omega) o jt;rw[Nat.zero_add]at this;have:=this v w (hRt hE hR) hd K;rw[<-qY v a0 n ds hds]at this;exact this (λx w' hR hL=>Shut.out hK x w' hR hL (λh=>by simp at h))
 have:=rg_main n [] [] R (λi=>L.getD i (λ_ _=>True)) [] (w0:=w0.drew) (a0:=a0) (of_decide_eq_true hn) hap htp (by simp[optOk,hns])
  (by simp) hRt (λi _=>hst.get i) (λi _ hi=>by simp at hi) (key n (jP _))
  (fun v w hR hZ _=>by
   rw[qY v a0 n ds hds]
   exact hend v w (hRt hE hR) hZ)
  ops.size (Array.replicate ops.size false) (xT ops a0) w0.drew (by simp) (λj _=>by simp[qH]) (by rw[hD];rfl)
  (λi hi=>by simp[qH]at hi) (hRe (Ext.refl _)) (by simp) (λi hi h=>by simp[qH]at h) (λi j _ _ _ h=>by simp at h)
 have hlay:qT ops (xT ops a0) a0 n=a0:=layN_self a0 n
 rwa [hlay]at this
end
end
end Go.Proofs.YtkeikfekkdplgaaGreatDoor
