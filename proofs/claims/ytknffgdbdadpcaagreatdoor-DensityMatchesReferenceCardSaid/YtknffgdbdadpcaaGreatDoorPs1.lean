/-
 An array of two descriptions of integers, and an integer of 64 bits, as arguments: how they read; what the listed table of lowest bits gives. No condition.
 Forms: structs of three integers, their values and boxes. No condition on the program but its type api.Form.
 disc of the laws of package density: the discriminant of a description. (Printed by wip/gen/den9.py.)
 Package count: the greatest common divisor of two words, by Euclid's loop. (Printed by wip/gen/cnt.py.)
 The iterator of density.powers: it ranges over pw, the factors of n; its n lies in a box of its own.
-/
import Derived.Test.YtknffgdbdadpcaaGreatDoorPw
import Derived.Test.YtknffgdbdadpcaaGreatDoorPri4
import Derived.Test.YtknffgdbdadpcaaGreatDoorMod2
import Derived.Test.YtknffgdbdadpcaaGreatDoorPrt
import Derived.Test.YtknffgdbdadpcaaGreatDoorAdd
import Derived.RangeFuncLeaves
import Derived.Shelf.Abstract
import Derived.WalkKit
import Derived.OwnWalkIn
import Derived.TacticsInMore
import Derived.LoopNIn
import Derived.LoopIn
import Derived.RangeFuncBox
import Derived.Test.YtknffgdbdadpcaaGreatDoorProg
namespace Go.Proofs.YtknffgdbdadpcaaGreatDoor
open Go Go.RowKit Go.ChangeShapes Go.WideShapes Go.ChangeAt Go.Joins
open Go.Proofs.Tryz
theorem zax{P:Prop}(h:P:=by intro g;rw[zH]at hh;exact hh (by exact_mod_cast g)):P:=h
set_option maxRecDepth 100000
set_option maxHeartbeats 4000000
set_option maxRecDepth 100000
section
variable {H:Type} {enc:TypeId×Value->H}
def Cells2(P:Program)(enc:TypeId×Value->H)(t:TypeId):Prop:=∀(W:World) (n:Nat) (cs:List Value) (y:DataW H×List MemPlace),DataW.trod enc P W 0 (λ_=>true) true n t cs=some y->
 ∃s ao m cap xs,cs= [.bool s,.slice ao m cap]/\Wd W ao m cap xs/\∀(W':World) (sp:Nat->Bool),Below W.heap.size W W'->(∀q∈y.2,sp q.block=true)->∃k,DataW.trod enc P W' 0 sp true k t cs=some y
theorem cells2_of{t:TypeId}{f0 f1:Field}(ht:prog.underlying t=some (.struct #[f0,f1]))(hb:f0.type=4)(hw:prog.underlying f1.type=some (.slice 100))(h0:f0.offset=0)(h1:f1.offset=1)(c0:prog.cellsOf f0.type=1)(c1:prog.cellsOf f1.type=1)(hC:prog.cellsOf t=2):Cells2 prog enc t:=by
 intro W n cs y h;obtain⟨y0,y1,m,rfl,hl,k0,k1⟩:=trod_struct2 ht h;rw[hC]at hl
 match cs,hl with
 | [v0,v1],_=>
  simp only[h0,h1,c0,c1,List.drop_zero,List.take_succ_cons,List.take_zero,List.drop_succ_cons]at k0 k1;rw[hb]at k0;obtain⟨s,hs,rfl⟩:=DataW.trod_bool za k0;simp only[List.cons.injEq,and_true]at hs;subst hs;obtain⟨ao,l,cap,xs,rfl,hwd,hr⟩:=words_open hw k1;refine⟨s,ao,l,cap,xs,rfl,hwd,λW' sp hbel hsp=>?_⟩;obtain⟨n1,t1⟩:=hr W' sp hbel (λq hq=>hsp q (by simpa using hq));refine⟨max 1 n1+1,trod_struct2_mk (n:=max 1 n1) ht (by rw[hC];rfl) ?_ ?_⟩
  ·simp only[h0,c0,List.drop_zero,List.take_succ_cons,List.take_zero];rw[hb];exact DataW.trod_le (Nat.le_max_left 1 n1) (by simp[DataW.trod,show prog.underlying 4=some .bool by kernel_rfl])
  ·simp only[h1,c1,List.take_succ_cons,List.take_zero,List.drop_succ_cons,List.drop_zero];exact DataW.trod_le (Nat.le_max_right 1 n1) t1
theorem cells2_Raw:Cells2 prog enc 29:=cells2_of underlying29 rfl za rfl rfl za za za
theorem trod_array2{P:Program}{w:World}{base:Nat}{sp:Nat->Bool}{held:Bool}{fuel:Nat}{t e:TypeId}{cs:List Value}{x:DataW H×List MemPlace}(ht:P.underlying t=some (.array 2 e))(h:DataW.trod enc P w base sp held fuel t cs=some x):
  ∃y0 y1 m,x=(.agg [y0.1,y1.1],y0.2++y1.2)/\cs.length=P.cellsOf t/\DataW.trod enc P w base sp held m e (cs.take (P.cellsOf e))=some y0/\DataW.trod enc P w base sp held m e ((cs.drop (P.cellsOf e)).take (P.cellsOf e))=some y1:=by
 obtain⟨xs,m,_,rfl,hl,hlen,hf⟩:=DataW.trod_array ht h
 match xs,hlen with
 | [y0,y1],_=>exact⟨y0,y1,m,by simp,hl,by simpa using hf 0 dcx,by simpa using hf 1 dcx⟩
theorem trod_array2_mk{P:Program}{w:World}{base:Nat}{sp:Nat->Bool}{held:Bool}{n:Nat}{t e:TypeId}{cs:List Value}{y0 y1:DataW H×List MemPlace}(ht:P.underlying t=some (.array 2 e))(hl:cs.length=P.cellsOf t)
  (h0:DataW.trod enc P w base sp held n e (cs.take (P.cellsOf e))=some y0) (h1:DataW.trod enc P w base sp held n e ((cs.drop (P.cellsOf e)).take (P.cellsOf e))=some y1):DataW.trod enc P w base sp held (n+1) t cs=some (.agg [y0.1,y1.1],y0.2++y1.2):=by
 unfold DataW.trod;rw[ht];simp[hl,List.range_succ,h0,h1]
theorem okWide_array{P:Program}{w:World}{r:Reach}{base:Nat}{t e:TypeId}{n:Nat}{v:Value}(ht:P.underlying t=some (.array n e))(h:Value.okWide P w r base t v):∃cs,v=.agg cs/\cs.size=P.cellsOf t:=by
 simp only[Value.okWide,ht]at h;obtain⟨cs,h1,h2,_⟩:=h;exact⟨cs,h1,h2⟩
theorem rawa_open{W:World}{b0:Nat}{r:Reach}{v:Value}{d:DataW H}{p:List MemPlace}(hv:Value.okWide prog W r b0 30 v)(h:DataW.Trod enc prog W 0 (λ_=>true) true 30 v d p):
  ∃s ao n cap xs s' ao' n' cap' xs',v=.agg #[.bool s,.slice ao n cap,.bool s',.slice ao' n' cap']/\Wd W ao n cap xs/\Wd W ao' n' cap' xs'/\Reads enc W 30 v d p:=by
 have ht:prog.underlying 30=some (.array 2 29):=za
 have hC:prog.cellsOf 30=4:=za
 have hE:prog.cellsOf 29=2:=za
 obtain⟨cs,rfl,hsz⟩:=okWide_array ht hv;obtain⟨n,hn⟩:=h;obtain⟨cl⟩:=cs;obtain⟨y0,y1,m,hy,hl,k0,k1⟩:=trod_array2 ht hn;simp only[Value.cells]at hl k0 k1;rw[hC]at hl;rw[hE]at k0 k1
 match cl,hl with
 | [v0,v1,v2,v3],_=>
  simp only[List.take_succ_cons,List.take_zero,List.drop_succ_cons,List.drop_zero]at k0 k1;obtain⟨s,ao,l,cap,xs,he,hwd,hr⟩:=cells2_Raw W _ _ _ k0;obtain⟨s2,ao2,l2,cap2,xs2,he2,hwd2,hr2⟩:=cells2_Raw W _ _ _ k1;simp only[List.cons.injEq,and_true]at he he2;obtain⟨rfl,rfl⟩:=he;obtain⟨rfl,rfl⟩:=he2;refine⟨s,ao,l,cap,xs,s2,ao2,l2,cap2,xs2,rfl,hwd,hwd2,λW' sp hb hsp=>?_⟩;simp only[Prod.mk.injEq]at hy;obtain⟨rfl,rfl⟩:=hy;obtain⟨n0,t0⟩:=hr W' sp hb (λq hq=>hsp q (by simp[hq]));obtain⟨n1,t1⟩:=hr2 W' sp hb (λq hq=>hsp q (by simp[hq]));refine⟨max n0 n1+1,trod_array2_mk (n:=max n0 n1) ht (by rw[hC];rfl) ?_ ?_⟩
  ·rw[hE];exact DataW.trod_le (Nat.le_max_left n0 n1) t0
  ·rw[hE];exact DataW.trod_le (Nat.le_max_right n0 n1) t1
end
theorem wf_i64(n:Int)(h:(Lit.int .i64 n).wf=true): -9223372036854775808<=n/\n<=9223372036854775807:=by
 simp only[Lit.wf,Bool.and_eq_true,zU]at h;have h1:IntKind.min .i64= -9223372036854775808:=rfl;have h2:IntKind.max .i64=9223372036854775807:=rfl;rw[h1,h2]at h;exact h
theorem tzt_of_laid{W:World}(h:laidMetH prog laid4 W):Tzt W:=by
 rw[MakeChecks.laidMetH_plain _ _ _ (by kernel_rfl)]at h;obtain⟨ps,⟨g0,t0,cs0,f0,p0,q0,hg0,ht0,hv0,hd0,⟨g1,t1,cs1,f1,p1,q1,hg1,ht1,hv1,hd1,_⟩,_⟩,_,_⟩:=h;have hty:(prog.globals[g1]?).map (·.type)=some t1:=ht1;have hg:prog.globalNamed "math/bits.deBruijn64tab" =some 2:=za
 obtain rfl:=Option.some.inj (hg.symm.trans hg1);have ht:(prog.globals[2]?).map (·.type)=some 222:=za
 obtain rfl:=Option.some.inj (ht.symm.trans ht1)
 have hT:Lib.TabIs prog W "math/bits.deBruijn64tab" .u8 (tzT.map Int.ofNat):=by
  unfold Lib.TabIs;rw[hv1,<-Lib.cells_of_tab (n:=64) (k:=.u8) (e:=5) (zs:=tzT.map Int.ofNat) (by kernel_rfl) (by kernel_rfl) (by kernel_rfl) (by kernel_rfl) hd1]
 intro i hi;have hc:=hT.cell hg i (by simpa [tzT]using hi);rw[hc];exact congrArg (λz=>some (Value.int .u8 z)) ((show ∀i,i<64->(tzT.map Int.ofNat).getD i 0=((tzT.getD i 0:Nat):Int)by decide) i hi)
open Go Go.RowKit
def IsF(fP fR fQ:Value->World->Prop):Value->World->Prop:=λx w=>∃s a n c s' a' n' c' s2 a2 n2 c2,
 x=.agg #[.bool s,.slice a n c,.bool s',.slice a' n' c',.bool s2,.slice a2 n2 c2]/\fP (.agg #[.bool s,.slice a n c]) w/\fR (.agg #[.bool s',.slice a' n' c']) w/\fQ (.agg #[.bool s2,.slice a2 n2 c2]) w
theorem IsF.stb{fP fR fQ:Value->World->Prop}(h:Stb fP)(k:Stb fR)(l:Stb fQ):Stb (IsF fP fR fQ):=
 λ_ _ _ e ⟨s,a,n,c,s',a',n',c',s2,a2,n2,c2,h1,h2,h3,h4⟩=>⟨s,a,n,c,s',a',n',c',s2,a2,n2,c2,h1,h _ _ _ e h2,k _ _ _ e h3,l _ _ _ e h4⟩
section
variable {P:Program} {ops:Array Oper} {Q:Exit->Act->World->Prop} {ds:List (Option Tmp)} {a0:Act} {w0:World} {L:List (Value->World->Prop)} {boxes:List Nat} {i k:Nat} {o:Oper} {os:List Oper}
end
section
variable {ops:Array Oper} {Q:Exit->Act->World->Prop} {ds:List (Option Tmp)} {a0:Act} {w0:World} {L:List (Value->World->Prop)} {boxes:List Nat} {i:Nat} {o:Oper}
theorem ldRaw{b:Addr}{r:Value}{x:Operand}(hr:∀w,Ext w0 w->(Instr.loadAt 26 (.pointer (some b))).run prog w=.ok r w)(hx:Od ops ds a0 w0 L i x (IsV (.pointer (some b))))(ho:o.op=.load 26 x:=by rfl)(hi:L.getD i (λ_ _=>True)=IsV r:=by kernel_rfl)(hb:boxes.contains i=false:=by kernel_rfl):Ok prog ops Q ds a0 w0 L boxes i o:=
 Ok.of hb λv' a w hE hd hf=>by
  have h:a.eval x=_:=hx.out v' a w hE hd hf;exact⟨_,ld_run ho h (hr w hE),by rw[hi];exact rfl⟩
end
theorem raw_run{w0:World}{g:Nat}{d:Nat}{v1 v2 v3 v4 v5 v6 v7 v8:Value}(h:World.cell? w0 ⟨g,0,none⟩=some (.int .u16 (d:Int))/\World.cell? w0 ⟨g,1,none⟩=some v1/\World.cell? w0 ⟨g,2,none⟩=some v2/\World.cell? w0 ⟨g,3,none⟩=some v3/\World.cell? w0 ⟨g,4,none⟩=some v4/\World.cell? w0 ⟨g,5,none⟩=some v5/\World.cell? w0 ⟨g,6,none⟩=some v6/\World.cell? w0 ⟨g,7,none⟩=some v7/\World.cell? w0 ⟨g,8,none⟩=some v8)(w:World)(e:Ext w0 w):
  (Instr.loadAt 26 (.pointer (some ⟨g,0,none⟩))).run prog w=.ok (.agg #[.int .u16 (d:Int),v1,v2,v3,v4,v5,v6,v7,v8]) w:=by
 obtain⟨h0,h1,h2,h3,h4,h5,h6,h7,h8⟩:=h;have h0:=e.cell h0;have h1:=e.cell h1;have h2:=e.cell h2;have h3:=e.cell h3;have h4:=e.cell h4;have h5:=e.cell h5;have h6:=e.cell h6;have h7:=e.cell h7;have h8:=e.cell h8
 go_simp
theorem disc_f(w:World)(d:Nat)(v1 v2 v3 v4 v5 v6 v7 v8:Value)(hd:d<65536):Calls prog 8 #[.agg #[.int .u16 (d:Int),v1,v2,v3,v4,v5,v6,v7,v8]] w (Ret w (IsI 2 (-((dsz d:Nat):Int)))):=by
 obtain⟨T,hT⟩:∃t,dsz d=t:=⟨_,rfl⟩;have HD:=hid hd;have HT:=hid hT;have hb:=dsz_ok d;rw[hT]at hb;have HW:=hid (show IntKind.i64.wrap (-(T:Int))= -(T:Int)by simp only[IntKind.wrap_i64];omega);have HO:=hid (show -9223372036854775808<= -(T:Int)/\ -(T:Int)<=9223372036854775807 by omega);clear hd hT hb;obtain⟨W,hW,S,cB0,cB1,cB2,cB3,cB4,cB5,cB6,cB7,cB8⟩:∃W,W=(w.alloc (.cells #[.int .u16 (d:Int),v1,v2,v3,v4,v5,v6,v7,v8] 26)).alloc (.cells #[.bool false,.slice none 0 0] 33)/\Sto w W [((w.heap.size+1,0),IsI 0 0)]/\World.cell? W ⟨w.heap.size,0,none⟩=some (.int .u16 (d:Int))/\World.cell? W ⟨w.heap.size,1,none⟩=some (v1)/\World.cell? W ⟨w.heap.size,2,none⟩=some (v2)/\World.cell? W ⟨w.heap.size,3,none⟩=some (v3)/\World.cell? W ⟨w.heap.size,4,none⟩=some (v4)/\World.cell? W ⟨w.heap.size,5,none⟩=some (v5)/\World.cell? W ⟨w.heap.size,6,none⟩=some (v6)/\World.cell? W ⟨w.heap.size,7,none⟩=some (v7)/\World.cell? W ⟨w.heap.size,8,none⟩=some (v8):=⟨_,rfl,(((Sto.start w).mono ((Ext.refl _).alloc _)).new1 (w.heap.size+1) zh false none 0 0 33 (IsI 0 0) (IsI.gstb _ _) (IsI.nil _ _)),((Ext.refl _).alloc _).cell (qH _ _ zh _ _ _ _ rfl),((Ext.refl _).alloc _).cell (qH _ _ zh _ _ _ _ rfl),((Ext.refl _).alloc _).cell (qH _ _ zh _ _ _ _ rfl),((Ext.refl _).alloc _).cell (qH _ _ zh _ _ _ _ rfl),((Ext.refl _).alloc _).cell (qH _ _ zh _ _ _ _ rfl),((Ext.refl _).alloc _).cell (qH _ _ zh _ _ _ _ rfl),((Ext.refl _).alloc _).cell (qH _ _ zh _ _ _ _ rfl),((Ext.refl _).alloc _).cell (qH _ _ zh _ _ _ _ rfl),((Ext.refl _).alloc _).cell (qH _ _ zh _ _ _ _ rfl)⟩;go_enter func8,ntmps8;go_upto_region 1 with fail;rw[<-hW];clear hW;refine rgs 4 [some 3,some 4,some 5,some 6] [IsV (.agg #[.int .u16 (d:Int),v1,v2,v3,v4,v5,v6,v7,v8]),iV (T:Int),iV (-(T:Int)),IsI 2 (-(T:Int))] [] ?_ ?_
 ·refine Rc (ldRaw (raw_run ⟨cB0,cB1,cB2,cB3,cB4,cB5,cB6,cB7,cB8⟩) (qD 1)) ?_;refine Rc (cl1 (en func37) (qA (fP:=IsV (.agg #[.int .u16 (d:Int),v1,v2,v3,v4,v5,v6,v7,v8])) 0 3) (λx0 w' hE d0=>by{obtain rfl:x0=.agg #[.int .u16 (d:Int),v1,v2,v3,v4,v5,v6,v7,v8]:=d0;exact(by have hh:=Size_f w' d v1 v2 v3 v4 v5 v6 v7 v8 HD.out;rw[HT.out]at hh;exact hh)})) ?_;refine Rc (un (r:=.int .i64 (-(T:Int))) (qC 1 4) (hr:=λw=>by have hx9:=HW.out;go_simp)) ?_;refine Rc (cl1 (en func22) (qA (fP:=iV (-(T:Int))) 2 5) (λx0 w' hE d0=>by{obtain rfl:x0=.int .i64 (-(T:Int)):=d0;exact qL _ (-(T:Int)) HO.out.1 HO.out.2})) ?_;exact rn0
 intro v W1 e1 hH _;replace S:=S.mono e1;have h6:=hH 3 dcx;simp only[lxE,Nat.reduceAdd];clear hH e1
 try simp only[dxE]
 (with_reducible refine stL ?_ zfe);intro KK hKK;refine stI S 0 (w.heap.size+1) 0 h6 qJ (λW1a S2 G2=>hKK _ _ ?_) rfl
 replace S:=S2;clear S2 G2 hKK KK h6;simp only[u0x]at S;refine zF ?_;go_wp2_with fail;obtain⟨s90x,a90x,n90x,c90x,b90x,h90x⟩:=S.at 0 (w.heap.size+1) 0 (IsI 2 (-(T:Int))) rfl;have L90xa:World.cell? W1a ⟨w.heap.size+1,0,none⟩=some (.bool s90x):=b90x.c0;have L90xb:World.cell? W1a ⟨w.heap.size+1,1,none⟩=some (.slice a90x n90x c90x):=b90x.c1;exact zD (v:=.agg #[.bool s90x,.slice a90x n90x c90x]) (by simp[results,results8,go_sem,L90xa,L90xb]) rfl (⟨_,rfl,S.ext,HT.out▸h90x⟩)
theorem qT{z:Int}(h: -9223372036854775808<=z)(h':z<=9223372036854775807):IntKind.i64.wrap z=z:=by simp only[IntKind.wrap_i64];omega
open Go Go.RowKit Go.Shelf
attribute [local go_sem] Oper.semAt_some
theorem wrapN(z:Nat)(h:z<=9223372036854775807):wrap64 (z:Int)=(z:Int):=by simp only[wrap64];omega
theorem sq_small{q r:Nat}(h:q*q<=r)(hr:r<=4611686018427387904):q<=2147483648:=by
 rcases zQ 2147483648 q with g|g
 ·have g':2147483649<=q:=by omega
  have:=Nat.mul_le_mul g' g';omega
 ·exact g
theorem pw_one(f p:Nat):pw f p 1= []:=by cases f <;> simp[pw]
theorem vl_step{q n:Nat}(hq:2<=q)(hn:0<n)(h:n%q=0):vl q n=vl q (n/q)+1:=by
 obtain⟨m,rfl⟩:=Nat.dvd_of_mod_eq_zero h;have hm:0<m:=Nat.pos_of_ne_zero λk=>by subst k;simp at hn
 rw[Nat.mul_div_cancel_left m (by omega)];obtain⟨r,e,h1,h2⟩:=xS hq hm;refine vl_uniq hq h2 ?_ h1
 conv=>lhs;rw[e]
 rw[Nat.pow_succ,Nat.mul_assoc,Nat.mul_left_comm]
theorem ps_div{d r r2 k0:Nat}(hd:2<=d)(h20:0<r2)(hmod:r2%d=0)(hr:r2<=r)(hk:k0+r2<=r+1)(hb:r<=4611686018427387904)(hvl:vl d r=vl d r2+k0)(hrr:d^k0*r2=r):
  ∃m2:Nat,wrap64 ((r2:Int)/(d:Int))=(m2:Int)/\0<m2/\m2<=r/\k0+1<=r/\k0+1+m2<=r+1/\vl d r=vl d m2+(k0+1)/\d^(k0+1)*m2=r/\m2<r2:=by
 have hst:=vl_step hd h20 hmod;obtain⟨m2,rfl⟩:=Nat.dvd_of_mod_eq_zero hmod;have hm20:0<m2:=Nat.pos_of_ne_zero λg=>by subst g;exact absurd h20 zh
 have h2m:=Nat.mul_le_mul_right m2 hd;have hdiv:d*m2/d=m2:=Nat.mul_div_cancel_left m2 zb;rw[hdiv]at hst;generalize hx:d*m2=x at*;refine⟨m2,?_,hm20,by omega,by omega,by omega,by omega,?_,by omega⟩
 ·rw[<-Int.natCast_ediv,hdiv];exact wrapN _ zb
 ·rw[<-hrr,<-hx,Nat.pow_succ,Nat.mul_assoc]
theorem ps_out{d r r2 k0:Nat}(hd:2<=d)(h20:0<r2)(hmod:¬r2%d=0)(hvl:vl d r=vl d r2+k0)(hrr:d^k0*r2=r):vl d r=k0/\r/d^vl d r=r2:=by
 have h0:vl d r2=0:=xL hd h20 λh=>hmod (Nat.mod_eq_zero_of_dvd h)
 have h1:vl d r=k0:=zb
 refine⟨h1,?_⟩;rw[h1,<-hrr];exact Nat.mul_div_cancel_left _ (Nat.pow_pos zb)
theorem ps_last{r r2 k0:Nat}(hd:2<=r)(h1:vl r r=k0)(hrr:r^k0*r2=r):r2=1:=by
 rw[vl_self hd]at h1;subst h1;rw[Nat.pow_one]at hrr;exact Nat.eq_of_mul_eq_mul_left (show 0<r by omega) (by rw[hrr,Nat.mul_one])
theorem ps_cell{A B:World}{c:Nat}{v:Value}(h:B.heap[c]? =A.heap[c]?)(hc:A.cell? ⟨c,0,none⟩=some v):B.cell? ⟨c,0,none⟩=some v:=by
 unfold World.cell? at hc ⊢;rw[h];exact hc
theorem ps_frozen{A B:World}{c:Nat}(h:B.heap[c]? =A.heap[c]?)(hc:A.frozen? ⟨c,0,none⟩=false):B.frozen? ⟨c,0,none⟩=false:=by
 unfold World.frozen? at hc ⊢;rw[h];exact hc
theorem tPs1_1{P:Prop}(h:P:=by
  rw[hwd]at hnew ⊢;exact⟨k0+1,m2,rfl,hnew,by rw[World.frozen?_setCell];exact hf2,hm20,hm2r,hkr',hkr2',hvl',hrr',hJ _ _ _ hJ2 (grownBy_setCell' _ _ _)⟩
  ):P:=h
theorem powers1_in(F:Fence)(n:Nat)(h6:F.fn 89)(hro:F.round=none)(hn:1<=n)(w:World)(c:Nat)(m:Nat)(hm:0<m)(hb:m<=4611686018427387904)
  (hc:w.cell? ⟨c,0,none⟩=some (.int .i64 (m:Int))) (hf:w.frozen? ⟨c,0,none⟩=false):
  SeqBox F n prog 89 #[.pointer (some ⟨c,0,none⟩)] (λx:Nat×Nat=> #[.int .i64 (x.1:Int),.int .i64 (x.2:Int)]) c (λxs=>xs=pw m 2 m) (λpre=>pre <+:pw m 2 m) w:=λl J Jx W hBel hJ hJx hY h0=>by
 have hcl:=World.block_lt_of_cell? w _ hc;have hcW:=(hBel.cell hcl).trans hc;have hfW:=(hBel.frozen hcl).trans hf;clear hc hf;obtain⟨T,hT⟩:∃T,pw m 2 m=T:=⟨_,rfl⟩;rw[hT]at hY ⊢;refine callsIn_of_wp func89 rfl h6 ?_ hro;simp only[ntmps89,List.size_toArray,List.length_cons,List.length_nil,Nat.reduceAdd,Nat.reduceSub,Array.replicate_succ,Array.replicate_zero,List.push_toArray,List.append_toArray,List.nil_append,List.cons_append]
 gi_wp2
 gi_loopw [3] (λp wr=>∃(pre:List (Nat×Nat)) (q f r:Nat),p=.int .i64 (q:Int)/\wr.cell? ⟨c,0,none⟩=some (.int .i64 (r:Int))/\wr.frozen? ⟨c,0,none⟩=false/\
   pre++pw f q r=T/\2<=q/\q<=m+1/\0<r/\r<=m/\(r=1\/(q<=2147483649/\f+q=m+2))/\J pre wr)
  (λp wr=>match p,wr.cell? ⟨c,0,none⟩with| .int _ z,some (.int _ y)=>if y=1 then 0 else(m+3-z).toNat|_,_=>0)
 case atStart=>
  exact⟨[],2,m,m,rfl,hcW,hfW,hT,by omega,by omega,hm,zL _,.inr zb,h0⟩
 case round=>
  obtain⟨pre,q,f,r,rfl,hcell,hfr,hpw,hq2,hqm,hr0,hrm,hor,hJs⟩:=hrel;by_cases hr1:r=1
  ·subst hr1
   gi_wp2
   go_end0
   exact⟨⟨_,rfl⟩,.inl (by rw[pw_one,List.append_nil]at hpw;rwa [<-hpw])⟩
  ·obtain⟨hq3,hfq⟩:=hor.resolve_left hr1;have hd:decide ((r:Int) >1)=true:=by simp;omega
   have hsq:q*q<=2147483649*2147483649:=Nat.mul_le_mul hq3 hq3;have hw:wrap64 ((q:Int)*(q:Int))=((q*q:Nat):Int):=by rw[<-Int.natCast_mul];exact wrapN _ zb
   obtain⟨f,rfl⟩:∃g,f=g+1:=⟨f-1,by omega⟩;rw[pw,if_neg (by omega)]at hpw
   gi_wp2
   ·rename_i K1 hK1 hle K2 hK2
    have hle':r<q*q:=by have h':=hle;norm_cast at h';all_goals omega
    rw[if_pos hle']at hpw;have hd2:2<=r:=zb
    have hrb:r<=4611686018427387904:=zN hrm hb;clear hsq hw
    gi_loopw [4] (λk wr2=>∃(k0 r2:Nat),k=.int .i64 (k0:Int)/\wr2.cell? ⟨c,0,none⟩=some (.int .i64 (r2:Int))/\wr2.frozen? ⟨c,0,none⟩=false/\0<r2/\r2<=r/\k0<=r/\
      k0+r2<=r+1/\vl r r=vl r r2+k0/\r^k0*r2=r/\J pre wr2)
     (λ_ wr2=>match wr2.cell? ⟨c,0,none⟩with|some (.int _ z)=>z.toNat|_=>0)
    case atStart=>exact⟨0,r,rfl,hcell,hfr,hr0,zL _,by omega,by omega,by omega,by simp,hJs⟩
    case round=>
     obtain⟨k0,r2,rfl,hc2,hf2,h20,h2r,hkr,hkr2,hvl,hrr,hJ2⟩:=hrel
     gi_wp2
     ·rename_i hh
      have hmod:r2%r=0:=by have h':=beq_iff_eq.1 hh;exact_mod_cast h'
      obtain⟨m2,hwd,hm20,hm2r,hkr',hkr2',hvl',hrr',hlt⟩:=ps_div hd2 h20 hmod h2r hkr2 hrb hvl hrr;have hnew:=World.cell?_setCell_same' wr ⟨c,0,none⟩ (.int .i64 (m2:Int)) (by rw[hc2];rfl);rw[<-hwd]at hnew
      go_roundw
      case rel=>
       exact tPs1_1
      case measure=>
       rw[hwd]at hnew ⊢;simp only[hnew,hc2,Int.toNat_natCast];exact hlt
     ·rename_i hh K3 hK3 hk0 K4 hK4
      have hmod:¬r2%r=0:=zax
      obtain⟨hv1,hv2⟩:=ps_out hd2 h20 hmod hvl hrr;have hk0':0<k0:=zb
      rw[hv2,hv1,if_pos hk0']at hpw;obtain⟨fn,tmps,assign,body,hy,hR⟩:=hY pre (r,k0) wr hJ2 ⟨_,by rw[List.append_assoc];exact hpw⟩;dsimp only at hy;rw[hy,Oper.uponIn_round];refine⟨λ_=>hn,hR.mono ?_⟩;rintro e W0 (⟨rfl,hJ3,hk3⟩| ⟨rfl,hJx3⟩)
      ·gi_wp2
       go_roundw
       case rel=>exact⟨pre++ [(r,k0)],r+1,f,r2,rfl,ps_cell hk3 hc2,ps_frozen hk3 hf2,by rw[<-hpw];simp,by omega,by omega,h20,by omega,.inl (ps_last hd2 hv1 hrr),hJ3⟩
       case measure=>simp only[ps_cell hk3 hc2,hcell];rw[if_neg (show ¬(r:Int)=1 by omega)];have hr2:=ps_last hd2 hv1 hrr;split <;> omega
      ·gi_wp2
       refine zD (results_none rfl _ _ _) rfl ?_;exact⟨⟨_,rfl⟩,.inr ⟨_,⟨_,by rw[List.append_assoc];exact hpw⟩,hJx3⟩⟩
     ·rename_i hh K3 hK3 hk0 K4 hK4 x0 x1 x2 hx
      have hmod:¬r2%r=0:=zax
      obtain⟨hv1,hv2⟩:=ps_out hd2 h20 hmod hvl hrr;have hk0':¬0<k0:=zb
      rw[hv2,hv1,if_neg hk0',List.nil_append]at hpw;refine⟨λf hf=>(by cases hf),hK4 _ _ ?_⟩
      gi_wp2
      go_roundw
      case rel=>exact⟨pre,r+1,f,r2,rfl,hc2,hf2,hpw,by omega,by omega,h20,by omega,.inl (ps_last hd2 hv1 hrr),hJ2⟩
      case measure=>simp only[hc2,hcell];rw[if_neg (show ¬(r:Int)=1 by omega)];have hr2:=ps_last hd2 hv1 hrr;split <;> omega
   ·rename_i K1 hK1 hle K2 hK2
    have hle':q*q<=r:=by have h':=hle;norm_cast at h';all_goals omega
    rw[if_neg (show ¬r<q*q by omega)]at hpw;have hqr:q<=r:=zN (Nat.le_mul_self q) hle';have hq4:q<=2147483648:=sq_small hle' zb;have hd2:=hq2;have hrb:r<=4611686018427387904:=zN hrm hb;clear hsq hw
    gi_loopw [4] (λk wr2=>∃(k0 r2:Nat),k=.int .i64 (k0:Int)/\wr2.cell? ⟨c,0,none⟩=some (.int .i64 (r2:Int))/\wr2.frozen? ⟨c,0,none⟩=false/\0<r2/\r2<=r/\k0<=r/\
      k0+r2<=r+1/\vl q r=vl q r2+k0/\q^k0*r2=r/\J pre wr2)
     (λ_ wr2=>match wr2.cell? ⟨c,0,none⟩with|some (.int _ z)=>z.toNat|_=>0)
    case atStart=>exact⟨0,r,rfl,hcell,hfr,hr0,zL _,by omega,by omega,by omega,by simp,hJs⟩
    case round=>
     obtain⟨k0,r2,rfl,hc2,hf2,h20,h2r,hkr,hkr2,hvl,hrr,hJ2⟩:=hrel
     gi_wp2
     ·rename_i hh
      have hmod:r2%q=0:=by have h':=beq_iff_eq.1 hh;exact_mod_cast h'
      obtain⟨m2,hwd,hm20,hm2r,hkr',hkr2',hvl',hrr',hlt⟩:=ps_div hd2 h20 hmod h2r hkr2 hrb hvl hrr;have hnew:=World.cell?_setCell_same' wr ⟨c,0,none⟩ (.int .i64 (m2:Int)) (by rw[hc2];rfl);rw[<-hwd]at hnew
      go_roundw
      case rel=>
       exact tPs1_1
      case measure=>
       rw[hwd]at hnew ⊢;simp only[hnew,hc2,Int.toNat_natCast];exact hlt
     ·rename_i hh K3 hK3 hk0 K4 hK4
      have hmod:¬r2%q=0:=zax
      obtain⟨hv1,hv2⟩:=ps_out hd2 h20 hmod hvl hrr;have hk0':0<k0:=zb
      rw[hv2,hv1,if_pos hk0']at hpw;obtain⟨fn,tmps,assign,body,hy,hR⟩:=hY pre (q,k0) wr hJ2 ⟨_,by rw[List.append_assoc];exact hpw⟩;dsimp only at hy;rw[hy,Oper.uponIn_round];refine⟨λ_=>hn,hR.mono ?_⟩;rintro e W0 (⟨rfl,hJ3,hk3⟩| ⟨rfl,hJx3⟩)
      ·gi_wp2
       go_roundw
       case rel=>exact⟨pre++ [(q,k0)],q+1,f,r2,rfl,ps_cell hk3 hc2,ps_frozen hk3 hf2,by rw[<-hpw];simp,by omega,by omega,h20,by omega,.inr ⟨by omega,by omega⟩,hJ3⟩
       case measure=>simp only[ps_cell hk3 hc2,hcell];rw[if_neg (show ¬(r:Int)=1 by omega)];split <;> omega
      ·gi_wp2
       refine zD (results_none rfl _ _ _) rfl ?_;exact⟨⟨_,rfl⟩,.inr ⟨_,⟨_,by rw[List.append_assoc];exact hpw⟩,hJx3⟩⟩
     ·rename_i hh K3 hK3 hk0 K4 hK4 x0 x1 x2 hx
      have hmod:¬r2%q=0:=zax
      obtain⟨hv1,hv2⟩:=ps_out hd2 h20 hmod hvl hrr;have hk0':¬0<k0:=zb
      rw[hv2,hv1,if_neg hk0',List.nil_append]at hpw;refine⟨λf hf=>(by cases hf),hK4 _ _ ?_⟩
      gi_wp2
      go_roundw
      case rel=>exact⟨pre,q+1,f,r2,rfl,hc2,hf2,hpw,by omega,by omega,h20,by omega,.inr ⟨by omega,by omega⟩,hJ2⟩
      case measure=>simp only[hc2,hcell];rw[if_neg (show ¬(r:Int)=1 by omega)];split <;> omega
end Go.Proofs.YtknffgdbdadpcaaGreatDoor
