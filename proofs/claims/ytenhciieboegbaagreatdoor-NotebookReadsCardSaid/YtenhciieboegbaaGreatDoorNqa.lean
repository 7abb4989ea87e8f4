/-
  The reference's reader: binding. (Printed by wip/gen/nqa.py.)
-/
import Derived.Test.YtenhciieboegbaaGreatDoorNq9
namespace Go.Proofs.YtenhciieboegbaaGreatDoor
open Go Go.RowKit Go.Maps
open Go.Proofs.Tryz
structure Jh (X:World) (b:Sc) (nm:List UInt8) (l:Array Bool) (v:Nat->Value) (w:World):Prop where
  j4:l.getD 3 false=true->l.getD 5 false=false->∃g,v 3=.slice (some ⟨g,0,none⟩) 0 0/\RwS X.heap.size [] (v 3) w/\(l.getD 7 false=true->v 7≠ .slice (some ⟨g,0,none⟩) 1 1)
  j9:l.getD 7 false=true->∃g,v 7=.slice (some ⟨g,0,none⟩) 1 1/\g<w.heap.size/\(l.getD 8 false=false->World.cell? w ⟨g,0,none⟩=some (qB nm))
  j6:l.getD 5 false=true->l.getD 8 false=false->RwS X.heap.size b (v 5) w
  j10:l.getD 8 false=true->l.getD 5 false=true/\RwS X.heap.size (b++ [nm]) (v 8) w
theorem Jh.start(X:World)(b:Sc)(nm:List UInt8)(n:Nat)(v:Nat->Value)(w:World):Jh X b nm (Array.replicate n false) v w:=by
  have h:∀k,(Array.replicate n false).getD k false=false:=λk=>by
    rw[Array.getD_eq_getD_getElem?,Array.getElem?_replicate];split <;> rfl
  constructor
  ·intro q;rw[h]at q;cases q
  ·intro q;rw[h]at q;cases q
  ·intro q;rw[h]at q;cases q
  ·intro q;rw[h]at q;cases q
theorem Jh.plain{X:World}{b:Sc}{nm:List UInt8}{l:Array Bool}{v:Nat->Value}{w w':World}{i:Nat}(x:Value)(h:Jh X b nm l v w)(e:Ext w w')(h4:i≠3)(h6:i≠5)(h9:i≠7)(h10:i≠8):Jh X b nm (l.setIfInBounds i true) (jD v i x) w':=by
  constructor
  · rw[qE h4,qE h6,qE h9,qS x h4.symm,qS x h9.symm]
    exact λq1 q2=>let ⟨g,r1,r2,r3⟩:=h.j4 q1 q2;⟨g,r1,r2.ext e,r3⟩
  · rw[qE h9,qE h10,qS x h9.symm]
    exact λq1=>let ⟨g,r1,r2,r3⟩:=h.j9 q1;⟨g,r1,Nat.lt_of_lt_of_le r2 e.size,λq=>e.cell (r3 q)⟩
  · rw[qE h6,qE h10,qS x h6.symm]
    exact λq1 q2=>(h.j6 q1 q2).ext e
  · rw[qE h6,qE h10,qS x h10.symm]
    exact λq1=>⟨(h.j10 q1).1,(h.j10 q1).2.ext e⟩
theorem Jh.s4{X:World}{b:Sc}{nm:List UInt8}{l:Array Bool}{v:Nat->Value}{w:World}(h:Jh X b nm l v w)(hX:X.heap.size<=w.heap.size):Jh X b nm (l.setIfInBounds 3 true) (jD v 3 (.slice (some ⟨w.heap.size,0,none⟩) 0 0)) (w.alloc (.cells #[] 9)):=by
  have e:Ext w (w.alloc (.cells #[] 9)):=(Ext.refl w).alloc _;constructor
  · rw[qE (show(3:Nat)≠5 by decide),qE (show(3:Nat)≠7 by decide),jX,qS _ (show(7:Nat)≠3 by decide)]
    refine λ_ _=>⟨_,rfl,RwS.zero w hX,λq=>?_⟩
    obtain⟨g,r1,r2,-⟩:=h.j9 q;rw[r1];intro q2;injection q2 with q2;injection q2 with q2;injection q2 with q2;omega
  · rw[qE (show(3:Nat)≠7 by decide),qE (show(3:Nat)≠8 by decide),qS _ (show(7:Nat)≠3 by decide)]
    exact λq1=>let ⟨g,r1,r2,r3⟩:=h.j9 q1;⟨g,r1,Nat.lt_of_lt_of_le r2 e.size,λq=>e.cell (r3 q)⟩
  · rw[qE (show(3:Nat)≠5 by decide),qE (show(3:Nat)≠8 by decide),qS _ (show(5:Nat)≠3 by decide)]
    exact λq1 q2=>(h.j6 q1 q2).ext e
  · rw[qE (show(3:Nat)≠5 by decide),qE (show(3:Nat)≠8 by decide),qS _ (show(8:Nat)≠3 by decide)]
    exact λq1=>⟨(h.j10 q1).1,(h.j10 q1).2.ext e⟩
theorem Jh.s9{X:World}{b:Sc}{nm:List UInt8}{l:Array Bool}{v:Nat->Value}{w:World}(h:Jh X b nm l v w):Jh X b nm (l.setIfInBounds 7 true) (jD v 7 (.slice (some ⟨w.heap.size,0,none⟩) 1 1)) (w.alloc (.cells #[qB nm] 9)):=by
  have e:Ext w (w.alloc (.cells #[qB nm] 9)):=(Ext.refl w).alloc _;constructor
  · rw[qE (show(7:Nat)≠5 by decide),qE (show(7:Nat)≠3 by decide),jX,qS _ (show(3:Nat)≠7 by decide)]
    refine λq1 q2=>?_
    obtain⟨g,r1,r2,-⟩:=h.j4 q1 q2;refine⟨g,r1,r2.ext e,λ_ q3=>?_⟩;have hlt:=((World.ownsRow.lt r2.1) g (by rw[r1];rfl)).2;injection q3 with q3;injection q3 with q3;injection q3 with q3;omega
  · rw[qE (show(7:Nat)≠8 by decide),jX]
    exact λ_=>⟨_,rfl,by simp,λ_=>by have:=(Bk.new w #[qB nm] 9).c 0 (qB nm) rfl;exact this⟩
  · rw[qE (show(7:Nat)≠5 by decide),qE (show(7:Nat)≠8 by decide),qS _ (show(5:Nat)≠7 by decide)]
    exact λq1 q2=>(h.j6 q1 q2).ext e
  · rw[qE (show(7:Nat)≠5 by decide),qE (show(7:Nat)≠8 by decide),qS _ (show(8:Nat)≠7 by decide)]
    exact λq1=>⟨(h.j10 q1).1,(h.j10 q1).2.ext e⟩
theorem Jh.s6{X:World}{b:Sc}{nm:List UInt8}{l:Array Bool}{v:Nat->Value}{w w':World}{x:Value}(h:Jh X b nm l v w)(h4:l.getD 3 false=true)(h6:l.getD 5 false=false)(hs:5<l.size)(hx:RwS X.heap.size b x w')(hg:w.grownBy w' (v 3).ownBlock):Jh X b nm (l.setIfInBounds 5 true) (jD v 5 x) w':=by
  have t6:(l.setIfInBounds 5 true).getD 5 false=true:=set_sm hs
  have h10:l.getD 8 false=false:=by
    cases q:l.getD 8 false
    ·rfl
    ·have:=(h.j10 q).1;rw[h6]at this;cases this
  constructor
  ·rw[t6];intro _ q;cases q
  · rw[qE (show(5:Nat)≠7 by decide),qE (show(5:Nat)≠8 by decide),qS _ (show(7:Nat)≠5 by decide)]
    intro q1;obtain⟨g,r1,r2,r3⟩:=h.j9 q1;obtain⟨g4,k1,-,k3⟩:=h.j4 h4 h6;refine⟨g,r1,Nat.lt_of_lt_of_le r2 hg.size,λq=>?_⟩;have hne:g≠g4:=λe=>k3 q1 (by rw[r1,e])
    exact(World.cell?_of_block (w:=w) (hg.block g r2 (λe=>hne (by rw[k1]at e;exact Option.some.inj e)))).trans (r3 q)
  ·rw[jX];exact λ_ _=>hx
  ·rw[qE (show(5:Nat)≠8 by decide),h10];intro q;cases q
theorem Jh.s10{X:World}{b:Sc}{nm:List UInt8}{l:Array Bool}{v:Nat->Value}{w w':World}{x:Value}(h:Jh X b nm l v w)(h6:l.getD 5 false=true)(hs:8<l.size)(hsz:w.heap.size<=w'.heap.size)(hx:RwS X.heap.size (b++ [nm]) x w'):Jh X b nm (l.setIfInBounds 8 true) (jD v 8 x) w':=by
  have t10:(l.setIfInBounds 8 true).getD 8 false=true:=set_sm hs;constructor
  ·rw[qE (show(8:Nat)≠5 by decide),h6];intro _ q;cases q
  · rw[qE (show(8:Nat)≠7 by decide),t10,qS _ (show(7:Nat)≠8 by decide)]
    intro q1;obtain⟨g,r1,r2,-⟩:=h.j9 q1;exact⟨g,r1,Nat.lt_of_lt_of_le r2 hsz,λq=>by cases q⟩
  ·rw[t10];intro _ q;cases q
  ·rw[qE (show(8:Nat)≠5 by decide),jX];exact λ_=>⟨h6,hx⟩
theorem own_ne{base:Nat}{b:Sc}{v:Value}{w:World}{g:Nat}{cs:Array Value}{T:TypeId}{fz:Nat×Nat}(h:RwS base b v w)(hz:w.heap[g]? =some (.cells cs T fz))(hT:T≠9):v.ownBlock≠some g:=by
  obtain⟨⟨-,⟨h2,-⟩| ⟨g',cap,cur,hv,hb,hg,-⟩⟩,-⟩:=h
  ·rw[h2];exact λe=>by cases e
  · rw[hv]
    intro e;obtain rfl:g'=g:=Option.some.inj e;rw[hz]at hg;have hg:=Option.some.inj hg;injection hg with h1 h2;exact hT h2
structure Jr (X:World) (b:Sc) (nm:List UInt8) (fP:Value->World->Prop) (l:Array Bool) (v:Nat->Value) (w:World):Prop where
  h:Jh X b nm l v w
  c:l.getD 11 false=true->l.getD 8 false=true/\fP (v 11) w
  x:l.getD 12 false=true->∃g,v 12=.pointer (some ⟨g,0,none⟩)/\X.heap.size<=g/\w.heap[g]? =some (.cells zRd.toArray 82)/\Bk w g zRd
section
variable {X:World} {b:Sc} {nm:List UInt8} {fP:Value->World->Prop} {l:Array Bool} {v:Nat->Value} {w w':World}
theorem Jr.start(X:World)(b:Sc)(nm:List UInt8)(fP:Value->World->Prop)(n:Nat)(v:Nat->Value)(w:World):Jr X b nm fP (Array.replicate n false) v w:=by
  have h:∀k,(Array.replicate n false).getD k false=false:=λk=>by
    rw[Array.getD_eq_getD_getElem?,Array.getElem?_replicate];split <;> rfl
  refine⟨Jh.start _ _ _ _ _ _,?_,?_⟩
  ·intro q;rw[h]at q;cases q
  ·intro q;rw[h]at q;cases q
theorem bx_kept{g:Nat}(hz:w.heap[g]? =some (.cells zRd.toArray 82)/\Bk w g zRd)(e:Ext w w'):w'.heap[g]? =some (.cells zRd.toArray 82)/\Bk w' g zRd:=⟨Ext.heap' e hz.1,hz.2.ext e⟩
theorem Jr.keep{i:Nat}{x:Value}(h:Jr X b nm fP l v w)(hs:Stb fP)(e:Ext w w')(hj:Jh X b nm (l.setIfInBounds i true) (jD v i x) w')(h8:i≠8)(h11:i≠11)(h12:i≠12):Jr X b nm fP (l.setIfInBounds i true) (jD v i x) w':=by
  refine⟨hj,?_,?_⟩
  · rw[qE h11,qE h8,qS x h11.symm]
    exact λq=>⟨(h.c q).1,hs _ _ _ e (h.c q).2⟩
  · rw[qE h12,qS x h12.symm]
    exact λq=>let ⟨g,q1,q2,q3⟩:=h.x q;⟨g,q1,q2,bx_kept q3 e⟩
theorem Jr.plain{i:Nat}(x:Value)(h:Jr X b nm fP l v w)(hs:Stb fP)(e:Ext w w')(h3:i≠3)(h5:i≠5)(h7:i≠7)(h8:i≠8)(h11:i≠11)(h12:i≠12):Jr X b nm fP (l.setIfInBounds i true) (jD v i x) w':=
  h.keep hs e (h.h.plain x e h3 h5 h7 h8) h8 h11 h12
theorem Jr.call(x:Value)(h:Jr X b nm fP l v w)(e:Ext w w')(h8:l.getD 8 false=true)(hx:fP x w'):Jr X b nm fP (l.setIfInBounds 11 true) (jD v 11 x) w':=by
  refine⟨h.h.plain x e dcx dcx dcx dcx,?_,?_⟩
  · rw[qE (show(11:Nat)≠8 by decide),jX]
    exact λ_=>⟨h8,hx⟩
  · rw[qE (show(11:Nat)≠12 by decide),qS x (show(12:Nat)≠11 by decide)]
    exact λq=>let ⟨g,q1,q2,q3⟩:=h.x q;⟨g,q1,q2,bx_kept q3 e⟩
theorem Jr.box(h:Jr X b nm fP l v w)(hs:Stb fP)(hX:X.heap.size<=w.heap.size):Jr X b nm fP (l.setIfInBounds 12 true) (jD v 12 (.pointer (some ⟨w.heap.size,0,none⟩))) (w.alloc (.cells zRd.toArray 82)):=by
  have e:Ext w (w.alloc (.cells zRd.toArray 82)):=(Ext.refl w).alloc _;refine⟨h.h.plain _ e dcx dcx dcx dcx,?_,?_⟩
  · rw[qE (show(12:Nat)≠11 by decide),qE (show(12:Nat)≠8 by decide),qS _ (show(11:Nat)≠12 by decide)]
    exact λq=>⟨(h.c q).1,hs _ _ _ e (h.c q).2⟩
  · rw[jX]
    exact λ_=>⟨_,rfl,hX,World.alloc_heap_new _ _,by simpa using Bk.new w zRd.toArray 82⟩
theorem Jr.grown{i:Nat}{x r:Value}{base:Nat}{b':Sc}(h:Jr X b nm fP l v w)(hj:Jh X b nm (l.setIfInBounds i true) (jD v i x) w')(hr:RwS base b' r w)(hg:w.grownBy w' r.ownBlock)(h8:l.getD 8 false=false)(h11:i≠11)(h12:i≠12):Jr X b nm fP (l.setIfInBounds i true) (jD v i x) w':=by
  refine⟨hj,?_,?_⟩
  · rw[qE h11]
    intro q;have:=(h.c q).1;rw[h8]at this;cases this
  · rw[qE h12,qS x h12.symm]
    intro q;obtain⟨g,q1,q2,q3,q4⟩:=h.x q;have hne:=own_ne hr q3 dcx;exact⟨g,q1,q2,(hg.block g q4.lt (λe=>hne e.symm)).trans q3,jO q4 hg hne⟩
end
section
set_option maxRecDepth 100000
set_option maxHeartbeats 16000000
theorem tNqa_1{P:Prop}(h:P:=by
  go_upto_region 12 with(go_at_call 43;go_must (refine zG (HA1.out _) ?_;rintro e w1 ⟨rfl,rfl⟩));refine wp_region_lit (lca [] (en func81) (none_r _) (λv W12 e8 hv=>?_));obtain rfl:v=.agg noV.toArray:=hv;refine lst noV (HB9.out.ext e8) xO rfl rfl zB rfl (λW9 B9 O=>zI ?_);go_wp2_with fail;exact zH (jU results86 zc (lvM zc zc rfl B9)) rfl ⟨_,rfl,O.ext (HE9.out.trans e8) (zN _),jP HR.out⟩
  ):P:=h
theorem tNqa_2{P:Prop}(h:P:=by
  go_upto_region 5 with(go_at_call 43;go_must (refine zG (HA0.out _) ?_;rintro e w1 ⟨rfl,rfl⟩));refine wp_region_lit (lca [] (en func81) (none_r _) (λv W5 e8 hv=>?_));obtain rfl:v=.agg noV.toArray:=hv;refine lst noV (HB3.out.ext e8) xO rfl rfl zB rfl (λW5a B9 O=>zI ?_);go_wp2_with fail;exact zH (jU results86 zc (lvM zc zc rfl B9)) rfl ⟨_,rfl,O.ext (HE3.out.trans e8) (zN _),jP HR.out⟩
  ):P:=h
theorem binding_f{k:Nat}(HC:ExC k){b:Sc}{s:List UInt8}{op:Int}{v:Value}{w:World}(a:Nat)(hv:IsSg b v w)(hb:b.length+(k+1)<=900000)(hs:s.length<=1000000)(ha:a<=s.length)(ho: -9223372036854775808<=op/\op<=9223372036854775807):
    Calls prog 86 #[qB s,.int .i64 (a:Int),.int .i64 op,v,.int .i64 ((k+1:Nat):Int)] w (Ret w (IsRd w.heap.size s (bndR (exR k) b op (s.drop a)))):=by
  obtain⟨sb,hsb⟩:∃y:ByteArray,(⟨s.toArray⟩:ByteArray)=y:=⟨_,rfl⟩;obtain⟨d,hd⟩:∃d:Int,((k+1:Nat):Int)=d:=⟨_,rfl⟩;have HDW:=hid (show IntKind.i64.wrap (d-1)=(k:Int)by simp only[IntKind.wrap_i64];omega);have HS:=hid (zL hsb hs);have HV:=hid (zL hv hb);have HO:=hid ho;have HCC:=hid HC;obtain⟨T,hT⟩:∃T,runI s a=T:=⟨_,rfl⟩;have HRU:=hid (λw'=>run_f s a w' hs ha);rw[qB,hsb,hT]at HRU;obtain⟨nm,hnm⟩:∃l,(s.drop a).takeWhile qH=l:=⟨_,rfl⟩;have hrp:=run_parts hT;have hTl:=runI_le ha;rw[hT]at hTl;have hsz:sb.size=s.length:=by rw[<-hsb];rfl
  have hex:sb.extract a T=⟨nm.toArray⟩:=by rw[<-hsb,ba_ex,hrp.1,hnm]
  have hTa:(a:Int)<=(T:Int):=ze
  have hTn:(T:Int)<=(sb.size:Int):=by rw[hsz];omega
  have HTL:=hid hTl;have HNM:=hid (show nm.length<=1000000 by rw[<-hnm];have:=(xR qH (s.drop a)).1;rw[List.length_drop]at this;omega);have HBR:=hid (show bndR (exR k) b op (s.drop a)=(qG [44,32] (s.drop T)).bind λs3=>(nbP [44,32] s3).bind λl=>(nbP [44,32] l.2).bind λh=>(exR k (b++ [nm]) h.2).bind λq=>(qG [41] q.2).bind λt=>some (⟨op,nm,0,0,l.1,h.1, [q.1]⟩,t)by rw[bndR,hrp.2,hnm]);obtain⟨q0,hq0⟩:∃q,aftI s (T:Int) [44,32]=q:=⟨_,rfl⟩;have HA0:=hid (jS hsb (xb:=⟨#[44,32]⟩) rfl hq0 hs dcx ze ze);have HA0r:=hid (after_r hsb (xb:=⟨#[44,32]⟩) rfl hq0 hs dcx ze ze);have HAT:=hid (jW hTl.2 [44,32]);have HQ0:=hid hq0;rw[qB,hsb,hd];obtain⟨W,hW,E,B⟩:∃W,W=w.alloc (.cells zRd.toArray 82)/\Ext w W/\Bk W w.heap.size zRd:=zg;unfold zRd zNd at hW;simp only[List.cons_append,List.nil_append]at hW;have HB:=hid B;have HE:=hid E;clear B E hsb hs hv hb ha ho HC hT hnm hrp hTl hsz hq0;go_enter func86,ntmps86;go_upto_region 1 with fail;rw[<-hW];clear hW;go_upto_region 2 with(go_at_call 41;go_must (refine zG (HRU.out _) ?_;rintro e w1 ⟨rfl,rfl⟩));refine wp_region_lit (lmv (lmv (lmv (lsl hex (lmv (zI ?_)) hTa hTn))));clear hex hTa hTn
  try go_simp
  rcases HAT.out with⟨k1,k2⟩| ⟨k1,k2,k3⟩
  · obtain rfl:q0= -1:=by rw[<-HQ0.out,k2]
    have HR:=hid (show bndR (exR k) b op (s.drop a)=none by rw[HBR.out,k1];rfl);have HN1:=hid (λw'=>numbered_f s [44,32] 0 w' HS.out.2 dcx (Nat.zero_le _));rw[qB,HS.out.1]at HN1;clear k1 k2;go_upto_region 3 with fail;refine wp_region_lit (lmv (lmv (lmv (lca [.string sb,.int .i64 (T:Int),.string ⟨#[44,32]⟩] (en func43) (HA0r.out _) (λv W3 e1 hv=>?_)))));obtain rfl:v=.int .i64 (-1):=hv;refine lmx (show max (-1:Int) 0=((0:Nat):Int)from rfl) ?_;refine lca [.string sb,.int .i64 ((0:Nat):Int),.string ⟨#[44,32]⟩] (en func117) (HN1.out _) (λv W3a e2 hv=>?_);obtain⟨lo,plo,rfl,hl1,hl2,hp⟩:=hv;refine lbx [.int .i64 lo,.int .i64 plo] al_Sm st_Sm rfl rfl nwSm rfl (λg13 W3b hg13 B13 e3=>zI ?_);have HE3:=hid (((HE.out.trans e1).trans e2).trans e3);have HB3:=hid (((HB.out.ext e1).ext e2).ext e3);have HB13:=hid B13;have c13:=B13.c 1 _ rfl;clear e1 e2 e3 HE HB hg13 B13
    try go_simp
    exact tNqa_2
  obtain⟨m,hm⟩:∃m,T+([44,32]:List UInt8).length=m:=⟨_,rfl⟩;rw[hm]at k1 k2 k3;obtain rfl:q0=(m:Int):=by rw[<-HQ0.out,k2]
  have hm0:¬((m:Int)<0):=ze
  have hmx:max (m:Int) 0=(m:Int):=ze
  have HBR2:=hid (show bndR (exR k) b op (s.drop a)=(nbP [44,32] (s.drop m)).bind λl=>(nbP [44,32] l.2).bind λh=>(exR k (b++ [nm]) h.2).bind λq=>(qG [41] q.2).bind λt=>some (⟨op,nm,0,0,l.1,h.1, [q.1]⟩,t)by rw[HBR.out,k1];rfl);have HN1:=hid (λw'=>numbered_f s [44,32] m w' HS.out.2 dcx k3);rw[qB,HS.out.1]at HN1;clear k1 k2 k3 hm HBR HAT;go_upto_region 3 with fail;refine wp_region_lit (lmv (lmv (lmv (lca [.string sb,.int .i64 (T:Int),.string ⟨#[44,32]⟩] (en func43) (HA0r.out _) (λv W3 e1 hv=>?_)))));obtain rfl:v=.int .i64 (m:Int):=hv;refine lmx hmx ?_;refine lca [.string sb,.int .i64 (m:Int),.string ⟨#[44,32]⟩] (en func117) (HN1.out _) (λv W3a e2 hv=>?_);obtain⟨lo,plo,rfl,hl1,hl2,hp⟩:=hv;refine lbx [.int .i64 lo,.int .i64 plo] al_Sm st_Sm rfl rfl nwSm rfl (λg13 W3b hg13 B13 e3=>zI ?_);have HE3:=hid (((HE.out.trans e1).trans e2).trans e3);have HB3:=hid (((HB.out.ext e1).ext e2).ext e3);have HB13:=hid B13;have c13:=B13.c 1 _ rfl;clear e1 e2 e3 HE HB hg13 B13
  try go_simp
  rcases hp with⟨hn,rfl⟩| ⟨a2,rfl,hal,ho⟩
  · have HR:=hid (show bndR (exR k) b op (s.drop a)=none by rw[HBR2.out,hn];rfl)
    clear hn;exact tNqa_2
  have HBR3:=hid (show bndR (exR k) b op (s.drop a)=(nbP [44,32] (s.drop a2)).bind λh=>(exR k (b++ [nm]) h.2).bind λq=>(qG [41] q.2).bind λt=>some (⟨op,nm,0,0,lo,h.1, [q.1]⟩,t)by rw[HBR2.out,ho];rfl);have HN2:=hid (λw'=>numbered_f s [44,32] a2 w' HS.out.2 dcx hal);rw[qB,HS.out.1]at HN2;have hp2:¬((a2:Int)<0):=ze
  clear ho hal HBR2;go_upto_region 6 with(go_at_call 43;go_must (refine zG (HA0.out _) ?_;rintro e w1 ⟨rfl,rfl⟩));clear hm0 hp2 c13;refine wp_region_lit (lmv (lfa (fa_Sm 1 g13 (.inr rfl) _) (lld (xL _ _ _ (HB13.out.c 1 _ rfl)) ?_)));refine lca [.string sb,.int .i64 (a2:Int),.string ⟨#[44,32]⟩] (en func117) (HN2.out _) (λv W6 e4 hv=>?_);obtain⟨hi,phi,rfl,hi1,hi2,hp⟩:=hv;refine lbx [.int .i64 hi,.int .i64 phi] al_Sm st_Sm rfl rfl nwSm rfl (λg14 W6a hg14 B14 e5=>zI ?_);have HE5:=hid ((HE3.out.trans e4).trans e5);have HB5:=hid ((HB3.out.ext e4).ext e5);have HB135:=hid ((HB13.out.ext e4).ext e5);have HB14:=hid B14;have c14:=B14.c 1 _ rfl;clear e4 e5 HE3 HB3 HB13 hg14 B14
  try go_simp
  rcases hp with⟨hn,rfl⟩| ⟨a3,rfl,hal,ho⟩
  · have HR:=hid (show bndR (exR k) b op (s.drop a)=none by rw[HBR3.out,hn];rfl)
    clear hn;go_upto_region 8 with fail;refine wp_region_lit (lca [] (en func81) (none_r _) (λv W8 e8 hv=>?_));obtain rfl:v=.agg noV.toArray:=hv;refine lst noV (HB5.out.ext e8) xO rfl rfl zB rfl (λW8a B9 O=>zI ?_);go_wp2_with fail;exact zH (jU results86 zc (lvM zc zc rfl B9)) rfl ⟨_,rfl,O.ext (HE5.out.trans e8) (zN _),jP HR.out⟩
  have HBR4:=hid (show bndR (exR k) b op (s.drop a)=(exR k (b++ [nm]) (s.drop a3)).bind λq=>(qG [41] q.2).bind λt=>some (⟨op,nm,0,0,lo,hi, [q.1]⟩,t)by rw[HBR3.out,ho];rfl);have hp3:¬((a3:Int)<0):=ze
  obtain⟨U,hU⟩:∃U,exR k (b++ [nm]) (s.drop a3)=U:=⟨_,rfl⟩;have HEX:=hid (λw' vv (hs:IsSg (b++ [nm]) vv w')=>HCC.out (b++ [nm]) s a3 vv w' hs (by have:=HV.out.2;rw[zQ];simp;omega) HS.out.2 hal);rw[qB,HS.out.1,hU]at HEX;have HU:=hid hU;have HVS:=hid (show IsSg b v W6a/\b.length<=900000 from⟨HV.out.1.ext HE5.out,by have:=HV.out.2;omega⟩);clear ho hal hU HBR3;go_upto_region 9 with fail;clear hp3 c14;have HST:=hid (IsRd.stb W6a.heap.size s U)
  refine wp_region_rgj (Jr W6a b nm (IsRd W6a.heap.size s U)) (λa b=>Ext W6a a->Ext W6a b) 13 [some 48,some 49,some 50,some 51,some 52,some 53,some 54,some 55,some 56,some 57,some 58,some 59,some 15]
    [IsV (.string sb),IsP g14 1,iV (a3:Int),TT,IsV v,TT,IsV (qB nm),TT,TT,iV d,iV ((k:Nat):Int),TT,TT] zc zc zc zc zc (λh k e=>k (h e)) (λe h=>h.trans e) ?_ ?_ (λv=>Jr.start _ _ _ _ _ _ _) ?_
  ·exact⟨λ_ _ _ _ h=>h,λ_ _ _ _ h=>h,λ_ _ _ _ h=>h,λ_ _ _ _ h=>h,λ_ _ _ _ h=>h,λ_ _ _ _ h=>h,λ_ _ _ _ h=>h,λ_ _ _ _ h=>h,λ_ _ _ _ h=>h,λ_ _ _ _ h=>h,λ_ _ _ _ h=>h,λ_ _ _ _ h=>h,λ_ _ _ _ h=>h,trivial⟩
  · intro i o' hi ho
    match i,hi,ho with
    | 0,_,ho=>
      obtain rfl:_=o':=Option.some.inj ho;exact⟨rfl,RgSj.ok (λe h=>h.trans e) (λlisted v a b x h e _ _=>h.plain x HST.out e dcx dcx dcx dcx dcx dcx) (λw' q=>mv (qC (x:=.string sb) 0))⟩
    | 1,_,ho=>
      obtain rfl:_=o':=Option.some.inj ho;exact⟨rfl,RgSj.ok (λe h=>h.trans e) (λlisted v a b x h e _ _=>h.plain x HST.out e dcx dcx dcx dcx dcx dcx) (λw' q=>fa (fa_Sm 1 g14 (.inr rfl)) (qC 14))⟩
    | 2,_,ho=>
      obtain rfl:_=o':=Option.some.inj ho;exact⟨rfl,RgSj.ok (λe h=>h.trans e) (λlisted v a b x h e _ _=>h.plain x HST.out e dcx dcx dcx dcx dcx dcx) (λw' q=>lvC 1 (HB14.out.ext (q (Ext.refl _))) xL (qA 1 49))⟩
    | 3,_,ho=>
      obtain rfl:_=o':=Option.some.inj ho;refine⟨rfl,⟨λlisted v' w' hs hj hR hun hne hd hf K hK=>?_⟩⟩;have hr:(Instr.buildSlice 53 0 #[]).run prog w'=.ok (.slice (some ⟨w'.heap.size,0,none⟩) 0 0) (w'.alloc (.cells #[] 9)):=xh
      have h2:=hK.out (.slice (some ⟨w'.heap.size,0,none⟩) 0 0) (w'.alloc (.cells #[] 9)) (λh=>h.trans ((Ext.refl _).alloc _)) (hj.keep HST.out ((Ext.refl _).alloc _) (hj.h.s4 (hR (Ext.refl _)).size) dcx dcx dcx) trivial
      have hrun:∀(f:Operand->Value) (o2:Oper),o2.op=.buildSlice 53 0 #[]->(execOp f o2).run prog w'=.ok (.value (.slice (some ⟨w'.heap.size,0,none⟩) 0 0)) (w'.alloc (.cells #[] 9)):=λf o2 ho2=>by
        unfold execOp;rw[ho2];dsimp only;simp[hr]
      unfold Oper.wp;rw[hrun _ _ rfl];exact h2
    | 4,_,ho=>
      obtain rfl:_=o':=Option.some.inj ho;exact⟨rfl,RgSj.ok (λe h=>h.trans e) (λlisted v a b x h e _ _=>h.plain x HST.out e dcx dcx dcx dcx dcx dcx) (λw' q=>mv (qC (x:=v) 3))⟩
    | 5,_,ho=>
      obtain rfl:_=o':=Option.some.inj ho;refine⟨rfl,⟨λlisted v' w' hs hj hR hun hne hd hf K hK=>?_⟩⟩;have h4:listed.getD 3 false=true:=hne 3 (List.contains_iff_mem.1 zc);obtain⟨g4,k1,k2,-⟩:=hj.h.j4 h4 hun;have e3:=(xB _ _).trans (hf.val 3 51 _ rfl zc zc zc);have e4:=(xB _ _).trans (hf.val 4 52 _ (hd 4 zc) zc zc zc)
      have h8:listed.getD 8 false=false:=by
        cases q:listed.getD 8 false
        ·rfl
        ·have:=(hj.h.j10 q).1;rw[hun]at this;cases this
      refine wp_sx (.tmp 51) (.tmp 52) rfl W6a.heap.size [] b (v' 3) v e3 e4 k2 (HVS.out.1.ext (hR (Ext.refl _))).src xk (hR (Ext.refl _)).size (λx w2 q1 q2 q3 q4=>?_);exact hK.out x w2 (λh=>Below.grown h q2 h.size (λj hj2=>((World.ownsRow.lt k2.1) j hj2).1)) (hj.grown (hj.h.s6 h4 hun zas (by simpa using q1) q2) k2 q2 h8 dcx dcx) trivial
    | 6,_,ho=>
      obtain rfl:_=o':=Option.some.inj ho;exact⟨rfl,RgSj.ok (λe h=>h.trans e) (λlisted v a b x h e _ _=>h.plain x HST.out e dcx dcx dcx dcx dcx dcx) (λw' q=>mv (qC (x:=qB nm) 12))⟩
    | 7,_,ho=>
      obtain rfl:_=o':=Option.some.inj ho;refine⟨rfl,⟨λlisted v' w' hs hj hR hun hne hd hf K hK=>?_⟩⟩;have e6:=(xB _ _).trans (hf.val 6 54 _ (hd 6 zc) zc zc zc);have hr:(Instr.buildSlice 53 1 #[(0,qB nm)]).run prog w'=.ok (.slice (some ⟨w'.heap.size,0,none⟩) 1 1) (w'.alloc (.cells #[qB nm] 9)):=by rw[qB];go_simp
      have h2:=hK.out (.slice (some ⟨w'.heap.size,0,none⟩) 1 1) (w'.alloc (.cells #[qB nm] 9)) (λh=>h.trans ((Ext.refl _).alloc _)) (hj.keep HST.out ((Ext.refl _).alloc _) hj.h.s9 dcx dcx dcx) trivial
      have hrun:∀(f:Operand->Value) (o2:Oper),o2.op=.buildSlice 53 1 #[(0,.tmp 54)]->f (.tmp 54)=qB nm->(execOp f o2).run prog w'=.ok (.value (.slice (some ⟨w'.heap.size,0,none⟩) 1 1)) (w'.alloc (.cells #[qB nm] 9)):=λf o2 ho2 hf2=>by
        unfold execOp;rw[ho2];dsimp only;simp only[List.map_toArray,List.map_cons,List.map_nil];rw[hf2];simp[hr]
      unfold Oper.wp;rw[hrun _ _ rfl e6];exact h2
    | 8,_,ho=>
      obtain rfl:_=o':=Option.some.inj ho;refine⟨rfl,⟨λlisted v' w' hs hj hR hun hne hd hf K hK=>?_⟩⟩;have h6:listed.getD 5 false=true:=hne 5 (List.contains_iff_mem.1 zc);have h9:listed.getD 7 false=true:=hne 7 (List.contains_iff_mem.1 zc);have k2:=hj.h.j6 h6 hun;obtain⟨g9,m1,-,m3⟩:=hj.h.j9 h9;have e5:=(xB _ _).trans (hf.val 5 53 _ rfl zc zc zc);have e7:=(xB _ _).trans (hf.val 7 55 _ rfl zc zc zc);refine wp_sx (.tmp 53) (.tmp 55) rfl W6a.heap.size b [nm] (v' 5) (v' 7) e5 e7 k2 (.inr ⟨g9,0,1,m1,λj u hj2=>?_⟩) xk (hR (Ext.refl _)).size (λx w2 q1 q2 q3 q4=>?_)
      · cases j with
        | zero=>
          obtain rfl:qB nm=u:=by simpa using hj2
          exact m3 hun
        |succ j=>simp at hj2
      ·exact hK.out x w2 (λh=>Below.grown h q2 h.size (λj hj2=>((World.ownsRow.lt k2.1) j hj2).1)) (hj.grown (hj.h.s10 h6 zas q2.size q1) k2 q2 hun dcx dcx) trivial
    | 9,_,ho=>
      obtain rfl:_=o':=Option.some.inj ho;exact⟨rfl,RgSj.ok (λe h=>h.trans e) (λlisted v a b x h e _ _=>h.plain x HST.out e dcx dcx dcx dcx dcx dcx) (λw' q=>mv (qC (x:=.int .i64 d) 4))⟩
    | 10,_,ho=>
      obtain rfl:_=o':=Option.some.inj ho;exact⟨rfl,RgSj.ok (λe h=>h.trans e) (λlisted v a b x h e _ _=>h.plain x HST.out e dcx dcx dcx dcx dcx dcx) (λw' q=>bn (p:=.int .i64 d) (r:=.int .i64 (k:Int)) (qA 9 57) qD (hr:=λw=>by have hx9:=HDW.out;go_simp))⟩
    | 11,_,ho=>
      obtain rfl:_=o':=Option.some.inj ho;refine⟨rfl,⟨λlisted v' w' hs hj hR hun hne hd hf K hK=>?_⟩⟩;have h10:listed.getD 8 false=true:=hne 8 (List.contains_iff_mem.1 zc);have k2:=(hj.h.j10 h10).2.sg zo;have e0:=(xB _ _).trans (hf.val 0 48 _ (hd 0 zc) zc zc zc);have e2:=(xB _ _).trans (hf.val 2 50 _ (hd 2 zc) zc zc zc);have e8:=(xB _ _).trans (hf.val 8 56 _ rfl zc zc zc);have e10:=(xB _ _).trans (hf.val 10 58 _ (hd 10 zc) zc zc zc);refine qM (xs:= [.tmp 48,.tmp 50,.tmp 56,.tmp 58]) (us:= [.string sb,.int .i64 (a3:Int),v' 8,.int .i64 (k:Int)]) (en func42) (by simp only[List.map_cons,List.map_nil];rw[e0,e2,e8,e10]) (HEX.out w' (v' 8) k2) (λx w2 h=>?_) (λch X2 h=>by{obtain⟨_,hx,_⟩:=h;cases hx}) (λX2 h=>by{obtain⟨_,hx,_⟩:=h;cases hx});obtain⟨x',hx,e9,hr⟩:=h;obtain rfl:x=x':=by injection hx
      exact hK.out _ w2 (λh=>h.trans e9) (hj.call _ e9 h10 (hr.low (hR (Ext.refl _)).size)) trivial
    | 12,_,ho=>
      obtain rfl:_=o':=Option.some.inj ho;refine⟨rfl,⟨λlisted v' w' hs hj hR hun hne hd hf K hK=>?_⟩⟩;exact jJ (vs:=zRd) al_Rd (λBn e3=>hK.out _ _ (λh=>h.trans e3) (hj.box HST.out (hR (Ext.refl _)).size) trivial)
    |n+13,hi,_=>omega
  intro u X6 q hΦ hJ;have E6:=q (Ext.refl _);obtain⟨x,us,p,e11,hx,hp⟩:=(hJ.c zc).2;obtain⟨g15,e12,hge,hh,B15⟩:=hJ.x zc;simp only[lxE,Nat.reduceAdd];rw[e11,e12];clear hΦ hJ q e11 e12;refine stA 13 rfl (λK hK=>zE (us:=us++ [Value.int .i64 p]) B15 xO rfl (jT hx.len) zB (λW9 B9 O=>hK _ _ ?_) (ho1:=one_fit hx.nw.2));clear hK K;refine zP zc ?_ _;have E9:=O.ext E6 hge;have HE9:=hid (HE5.out.trans E9);have HB9:=hid (HB5.out.ext E9);have HB139:=hid (HB135.out.ext E9);have HB149:=hid (HB14.out.ext E9);have HB15:=hid B9;have HXL:=hid (zL hx.len (zL hx.nw.2 HB5.out.lt));have HNX:=hid (show ∀t,U=some (x,t)->NdC W6a.heap.size W9 x us from λt h=>nd_zr hh O x (exR_nz k (b++ [nm]) (HU.out.trans h)).2 _ us hx);have c8:=B9.c 8 (.int .i64 p) jk;clear E6 E9 hh hge O B15 B9 hx HE5 HB5 HB135 HB14 HEX HVS
  try go_simp
  rcases hp with⟨hn,rfl⟩| ⟨a',rfl,hal,ho⟩
  · have HR:=hid (show bndR (exR k) b op (s.drop a)=none by rw[HBR4.out,HU.out,hn];rfl)
    have HA1:=hid (jS HS.out.1 (xb:=⟨#[41]⟩) rfl (show aftI s (-1) [41]= -1 from rfl) HS.out.2 dcx dcx ze);clear hn;exact tNqa_1
  obtain⟨q1,hq1⟩:∃q,aftI s (a':Int) [41]=q:=⟨_,rfl⟩;have HA1:=hid (jS HS.out.1 (xb:=⟨#[41]⟩) rfl hq1 HS.out.2 dcx ze ze);rcases jW hal [41]with⟨k1,k2⟩| ⟨k1,k2,k3⟩
  · obtain rfl:q1= -1:=by rw[<-hq1,k2]
    have HR:=hid (show bndR (exR k) b op (s.drop a)=none by rw[HBR4.out,HU.out,ho];show(qG [41] (s.drop a')).bind _=_;rw[k1];rfl);clear hq1 k1 k2 ho hal;exact tNqa_1
  obtain⟨m9,hm⟩:∃m,a'+([41]:List UInt8).length=m:=⟨_,rfl⟩;rw[hm]at k1 k2 k3;obtain rfl:q1=(m9:Int):=by rw[<-hq1,k2]
  have hm0:¬((m9:Int)<0):=ze
  have HR:=hid (show bndR (exR k) b op (s.drop a)=some (⟨op,nm,0,0,lo,hi, [x]⟩,s.drop m9)by rw[HBR4.out,HU.out,ho];show(qG [41] (s.drop a')).bind _=_;rw[k1];rfl);have HX:=hid (HNX.out _ ho);have HM:=hid k3;clear hq1 k1 k2 k3 ho hal hm;go_upto_region 13 with(go_at_call 43;go_must (refine zG (HA1.out _) ?_;rintro e w1 ⟨rfl,rfl⟩));clear hm0 c8;refine wp_region_lit (lmv (lmv (lfa (fa_Sm 0 g13 (.inl rfl) _) (lld (xL _ _ _ (HB139.out.c 0 _ rfl)) (lfa (fa_Sm 0 g14 (.inl rfl) _) (lld (xL _ _ _ (HB149.out.c 0 _ rfl)) (lfa (fa_Rd0 _ g15) (lld (ld_N HB15.out HXL.out.1) ?_))))))));refine lbs1 HXL.out.1 HXL.out.2.1 (λg75 Y1 hg75 B75 e75=>?_);refine lb5 (.agg (bndU op ⟨nm.toArray⟩ lo hi g75).toArray) bd_Bnd (lmv (lb2 (.agg (bndU op ⟨nm.toArray⟩ lo hi g75++ [Value.int .i64 (m9:Int)]).toArray) (bd_Rd rfl) ?_));refine lst (bndU op ⟨nm.toArray⟩ lo hi g75++ [Value.int .i64 (m9:Int)]) (HB9.out.ext e75) xO rfl rfl zB rfl (λY9 B9 O=>zI ?_);go_wp2_with fail;have hlt:=HB9.out.lt;exact zH (jU results86 zc (lvM zc zc rfl B9)) rfl ⟨_,rfl,O.ext (HE9.out.trans e75) (zN _),⟨op,nm,0,0,lo,hi, [x]⟩,bndU op ⟨nm.toArray⟩ lo hi g75,_,rfl,nd_bnd (by have:=HNM.out;omega) HO.out ze (O.bk B75 ze) (NdC.low (Nat.le_of_lt HXL.out.2.2) _ _ ((HX.out.ext e75).ob (Ob.only O) HXL.out.2.2)),.inr ⟨m9,rfl,HM.out,HR.out⟩⟩
end
end Go.Proofs.YtenhciieboegbaaGreatDoor
