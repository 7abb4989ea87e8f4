/- Lemmas. -/
import Derived.Test.YtkeikfekkdplgaaGreatDoorBst4
import Derived.Test.YtkeikfekkdplgaaGreatDoorWrd
import Derived.Test.YtkeikfekkdplgaaGreatDoorAdd0
import Derived.Test.YtkeikfekkdplgaaGreatDoorTre
namespace Go.Proofs.YtkeikfekkdplgaaGreatDoor
section
open Go Go.RowKit Go.Maps Go.Shelf
theorem bestH_gr{hy:List Value->List Int}{gs:List Int}{L:List (List Value)}{x:ByteArray}{vs:List Value}(h:xY hy gs L x=some vs):∀z∈hy vs,z∈gs:=by
 unfold xY at h;obtain⟨M,hM⟩:∃M,(L.filter (λvs=>decide (xH vs=x))).filter (λvs=> !(hy vs).any (λh=> !gs.any (λy=>decide (y=h))))=M:=⟨_,rfl⟩;rw[hM]at h
 have hs:∀v∈M,∀z∈hy v,z∈gs:=λv hv=>by
  rw[<-hM]at hv;have h2:=(List.mem_filter.1 hv).2;intro z hz;simp only[Bool.not_eq_true',List.any_eq_false,jY]at h2;exact Classical.byContradiction λhn=>h2 z hz (λx hx e=>hn (e▸hx))
 cases M with
 |nil=>simp[bestL]at h
 | cons hd t=>
  simp only[bestL,Option.some.injEq]at h;rw[<-h];rcases minL_mem (λvs=>(hy vs).length) t hd with e|e
  ·rw[e];exact hs _ List.mem_cons_self
  ·exact hs _ (List.mem_cons_of_mem _ e)
theorem bsG_gr{L:List (List Value)}{dat:List Value->EnD}{gs:List Int}{y:List UInt8}{d:EnD}(h:bsG L dat gs y=some d):∀z∈d.hyps,z∈gs:=by
 obtain⟨vs,hv,rfl⟩:=Option.map_eq_some_iff.1 h;exact bestH_gr hv
theorem hyps_R{cs:List qJ}{L:List (List Value)}{dat:List Value->EnD}{gs:List Int}(hc:cellOk [3] cs)(e:Ex)(s0:Nat):∀h∈(evR cs L dat gs e s0).2.2.2,h=3\/h∈gs:=
 ev_hyps cs _ _ (λh=>h=3\/h∈gs) (λc hcm h hh=> .inl (by have:=(hc c hcm).2.2 h hh;simpa using this)) (λx d hx h hh=> .inr (bsG_gr hx h hh)) e [] _ _ _ rfl (λh hh=>absurd hh List.not_mem_nil)
theorem zs_lt(l:List Int):(zsL l).Pairwise (· < ·):=by
 have h1:=List.pairwise_mergeSort (le:=leI') (λa b c h k=>by simp only[jY]at *;omega) (λa b=>by simp only[Bool.or_eq_true,jY];omega) (intKeys (dI l));exact(List.Pairwise.and h1 (zs_nd l)).imp (λ{a b} h=>by have:=h.1;have:=h.2;simp only[jY]at *;omega)
theorem hyps_zs{cs:List qJ}{L:List (List Value)}{dat:List Value->EnD}{gs:List Int}(hc:cellOk [3] cs)(e:Ex)(s0:Nat):∀h∈zsL (evR cs L dat gs e s0).2.2.2,h=3\/h∈gs:=λh hh=>hyps_R hc e s0 h ((mem_zsL _ h).1 hh)
end
section
open Go Go.RowKit Go.Maps Go.Shelf
open Go.Proofs.Tryz
theorem zx{P:Prop}(h:P:=by exact cl2 (en func27) (qA (fP:=IrR [z]) 18 81) (qA (fP:=IsV (.slice ga gs.length gc)) 19 82) (λx0 x1 w' hE d0 d1=>by{obtain rfl:x1=.slice ga gs.length gc:=d1;exact by have h:=within_f (gs:=gs) d0 ((HGR.out.2.ext (E6.trans (hE1.out.trans hE)))) (by simp) zbw;rw[all1 (HZG.out.resolve_left HD.out)]at h;exact h})):P:=h
theorem yg{P:Prop}(h:P:=by exact mv (qB (x:=.int .i64 z) 16)):P:=h
theorem yq{P:Prop}(h:P:=by exact lv (fP:=IsV (.slice pa1 n pc1)) _ (λw' e=>ld_aIn w' _ _ (e.cell c9w)) (qA (fP:=IsP g13 9) 4 67) (λ_ _=>rfl)):P:=h
theorem yu{P:Prop}(h:P:=by exact pk (qC 13 76) (qA (fP:=IsV (.bool false)) 22 85)):P:=h
theorem xh{P:Prop}(h:P:=by exact fa (xO (g13)) (qB (x:=.pointer (some ⟨g13,0,none⟩)) 13)):P:=h
theorem zaa{P:Prop}(h:P:=by exact mv (qA (fP:=IsV (.bool false)) 12 75)):P:=h
theorem zai{P:Prop}(h:P:=by exact ixq (ix_rI pa1 gz oz pc1 n j EZ.out (by have:=HG.out.2.1;have:=HJI.out;omega)) (qA 5 68) (qA 7 70)):P:=h
theorem zan{P:Prop}(h:P:=by exact bn (r:=.bool false) (qC 0 63) qE (hr:=λw=>by have h9:=HI0.out.1;have h8:=HI0.out.2;go_simp)):P:=h
theorem zao{P:Prop}(h:P:=by exact bn (r:=.bool true) (qC 0 63) qE (hr:=λw=>by have h9:=HI0.out.1;have h8:=HI0.out.2;go_simp)):P:=h
theorem za4{P:Prop}(h:P:=by exact bn (r:=.bool false) (qC 9 72) (qC 10 73) (hr:=λw=>by have h9:=HJ.out.2;go_simp)):P:=h
theorem zba{P:Prop}(h:P:=by exact bn (r:=.int .i64 (j:Int)) (qC 6 69) qE (hr:=λw=>by have h9:=HJ.out.1;go_simp)):P:=h
set_option maxRecDepth 100000
set_option maxHeartbeats 16000000
attribute [local go_sem] Oper.semAt_some
theorem IsRw.ir{B:Nat}{l:List Int}{v:Value}{w:World}(h:IsRw B (l.map (Value.int .i64)) v w):IrR l v w:=by
 obtain⟨ao,c,rfl,h2⟩:=h;rw[List.length_map];refine⟨ao,c,rfl,λhne=>?_⟩;obtain⟨g,rfl,-,k⟩:=h2 (by simpa using hne);exact⟨g,0,rfl,λj x hj=>by rw[Nat.zero_add];exact k j _ (by rw[List.getElem?_map,hj];rfl)⟩
theorem ld_aIn:LdC1 prog 41:=λw a v h=>by go_simp
def anyI(x:Int)(l:List Int):Bool:=l.any (λy=>decide (y=x))
def allI(gs xs:List Int):Bool:=xs.all (λx=>anyI x gs)
theorem anyI_take{x y:Int}{l:List Int}{k:Nat}(h:l[k]? =some y):anyI x (l.take (k+1))=(anyI x (l.take k)||decide (y=x)):=by
 unfold anyI;rw[List.take_add_one,List.any_append,h];simp
theorem allI_take{gs l:List Int}{k:Nat}{y:Int}(h:l[k]? =some y):allI gs (l.take (k+1))=(allI gs (l.take k)&&anyI y gs):=by
 unfold allI;rw[List.take_add_one,List.all_append,h];simp
theorem allI_no{gs l:List Int}{k:Nat}{y:Int}(h:l[k]? =some y)(hy:anyI y gs=false):allI gs l=false:=by
 unfold allI;rw[List.all_eq_false];exact⟨y,List.mem_of_getElem? h,by simp[hy]⟩
theorem within_f{w:World}{xs gs:List Int}{a b:Value}(ha:IrR xs a w)(hb:IrR gs b w)(la:xs.length<=1000000)(lb:gs.length<=1000000):Calls prog 27 #[a,b] w (Ret w (IsV (.bool (allI gs xs)))):=by
 obtain⟨ao,ca,rfl,h1⟩:=ha;obtain⟨bo,cb,rfl,h2⟩:=hb;obtain⟨n,hn⟩:∃n,xs.length=n:=⟨_,rfl⟩;obtain⟨m,hm⟩:∃n,gs.length=n:=⟨_,rfl⟩;have F:=hid (jO hn (jO hm (jO la lb)));have H12:=hid (jO h1 h2);obtain⟨r,hr⟩:∃r,allI gs xs=r:=⟨_,rfl⟩;have HR:=hid hr;rw[hn,hm,hr];clear h1 h2 hn hm hr la lb;go_enter func27,ntmps27
 go_wp2
 go_loopg [5] n (λgk v5 wr=>∃i:Nat,v5=.int .i64 (i:Int)/\i+gk=n/\Hid (allI gs (xs.take i)=true/\Ext w wr))
 case atStart=>exact⟨0,rfl,by omega,hid ⟨rfl,Ext.refl w⟩⟩
 case round=>
  obtain⟨i,rfl,hg,S⟩:=hrel;by_cases hi:i<n
  ·have hil:(i:Int)<(n:Int):=by omega
   have hiw:IntKind.i64.wrap ((i:Int)+1)=((i+1:Nat):Int):=by have:=F.out;simp only[IntKind.wrap_i64];omega
   obtain⟨x,hx⟩:∃x,xs[i]? =some x:=⟨_,List.getElem?_eq_getElem (by have:=F.out.1;omega)⟩;obtain⟨G,rfl⟩:∃G,G=gk:=⟨_,rfl⟩;have HG:=hid (jO hg (jO hi hx));clear hg hi hx;go_wp2_with fail;clear hil
   go_loopg [6,7] m (λgk v6 v7 wr=>∃(k:Nat) (f:Bool),v6=.bool f/\v7=.int .i64 (k:Int)/\k+gk=m/\Hid (anyI x (gs.take k)=f/\Ext w wr))
   case atStart=>exact⟨0,false,rfl,rfl,by omega,hid ⟨rfl,S.out.2⟩⟩
   case round=>
    obtain⟨k,f,rfl,rfl,hg2,T⟩:=hrel;by_cases hk:k<m
    ·have hkl:(k:Int)<(m:Int):=by omega
     have hkw:IntKind.i64.wrap ((k:Int)+1)=((k+1:Nat):Int):=by have:=F.out;simp only[IntKind.wrap_i64];omega
     obtain⟨y,hy⟩:∃x,gs[k]? =some x:=⟨_,List.getElem?_eq_getElem (by have:=F.out.2.1;omega)⟩;have HK:=hid (jO hg2 (jO hk hy));clear hg2 hk hy;cases f with
     | true=>
      go_upto_region 8 with fail;refine rg 12 (dR 20 12) [IsV (.bool true),IsV (.bool true),IsV (undef),IsV (undef),IsV (undef),IsV (undef),IsV (undef),IsV (undef),IsV (undef),IsV (undef),IsV (undef),IsV (.bool true)] [] 1 ?_ ?_
      ·refine Rc (mv (qB (x:=.bool true) 6)) ?_;refine Rc (mv (qA (fP:=IsV (.bool true)) 0 20)) ?_;refine RcN 1 21 true ?_;refine RcN 1 21 true ?_;refine RcN 1 21 true ?_;refine RcN 1 21 true ?_;refine RcN 1 21 true ?_;refine RcN 1 21 true ?_;refine RcN 1 21 true ?_;refine RcN 1 21 true ?_;refine RcN 1 21 true ?_;refine Rc (pk (qC 1 21) qE) ?_;exact rn0
      intro v X e1 hZ _;simp only[lxE,Nat.reduceAdd];rw[show v 11=.bool true from hZ 11 dcx];have S1:=hid (T.out.2.trans e1);clear hZ e1;refine asA 12 6 (.tmp 31) (.bool true) rfl ?_;simp only[Act.put,uAx,u0x,u1x];refine jR za ?_ _;go_wp2_with fail
      go_roundg (gk-1)
      case measure=>have:=HK.out;omega
      case rel=>exact⟨k+1,true,rfl,rfl,by have:=HK.out;omega,hid ⟨by rw[anyI_take HK.out.2.2,T.out.1];rfl,S1.out⟩⟩
     | false=>
      obtain⟨g2,o2,eb,kb⟩:=H12.out.2 (λh=>by have h2:=HK.out.2.2;rw[h]at h2;cases h2);obtain⟨g1,o1,ea,ka⟩:=H12.out.1 (λh=>by have h2:=HG.out.2.2;rw[h]at h2;cases h2);have cy:World.cell? wr ⟨g2,o2+k,none⟩=some (.int .i64 y):=T.out.2.cell (kb k _ HK.out.2.2);have cx:World.cell? wr ⟨g1,o1+i,none⟩=some (.int .i64 x):=T.out.2.cell (ka i _ HG.out.2.2);clear ka kb;go_upto_region 8 with fail;by_cases hxy:y=x
      ·subst hxy;refine rg 12 (dR 20 12) [IsV (.bool false),IsV (.bool false),IsV (.slice bo m cb),iV (k:Int),IsP g2 (o2+k),iV y,IsV (.slice ao n ca),iV (i:Int),IsP g1 (o1+i),iV y,IsV (.bool true),IsV (.bool true)] [] 1 ?_ ?_
       ·refine Rc (mv (qB (x:=.bool false) 6)) ?_;refine Rc (mv (qA (fP:=IsV (.bool false)) 0 20)) ?_;refine RcG 1 21 false (mv (qB (x:=.slice bo m cb) 1)) ?_;refine RcG 1 21 false (mv (qB (x:=.int .i64 (k:Int)) 7)) ?_;refine RcG 1 21 false (ixq (ix_rI bo g2 o2 cb m k eb HK.out.2.1) (qA 2 22) (qA 3 23)) ?_;refine RcG 1 21 false (lv (fP:=iV y) _ (λw' e=>xE w' _ _ (e.cell cy)) (qA 4 24) (λ_ _=>rfl)) ?_;refine RcG 1 21 false (mv (qB (x:=.slice ao n ca) 0)) ?_;refine RcG 1 21 false zt ?_;refine RcG 1 21 false (ixq (ix_rI ao g1 o1 ca n i ea HG.out.2.1) (qA 6 26) (qA 7 27)) ?_;refine RcG 1 21 false (lv (fP:=iV y) _ (λw' e=>xE w' _ _ (e.cell cx)) (qA 8 28) (λ_ _=>rfl)) ?_;refine RcG 1 21 false (bn (r:=.bool true) (qC 5 25) (qC 9 29) (hr:=λw=>by go_simp)) ?_;refine Rc (pk (qC 1 21) (qA (fP:=IsV (.bool true)) 10 30)) ?_;exact rn0
       intro v X e1 hZ _;simp only[lxE,Nat.reduceAdd];rw[show v 11=.bool true from hZ 11 dcx];clear cx cy ea eb;have S1:=hid (T.out.2.trans e1);clear hZ e1;refine asA 12 6 (.tmp 31) (.bool true) rfl ?_;simp only[Act.put,uAx,u0x,u1x];refine jR za ?_ _;go_wp2_with fail
       go_roundg (gk-1)
       case measure=>have:=HK.out;omega
       case rel=>exact⟨k+1,true,rfl,rfl,by have:=HK.out;omega,hid ⟨by rw[anyI_take HK.out.2.2,T.out.1];simp,S1.out⟩⟩
      ·have HD:=hid hxy;refine rg 12 (dR 20 12) [IsV (.bool false),IsV (.bool false),IsV (.slice bo m cb),iV (k:Int),IsP g2 (o2+k),iV y,IsV (.slice ao n ca),iV (i:Int),IsP g1 (o1+i),iV x,IsV (.bool false),IsV (.bool false)] [] 1 ?_ ?_
       ·refine Rc (mv (qB (x:=.bool false) 6)) ?_;refine Rc (mv (qA (fP:=IsV (.bool false)) 0 20)) ?_;refine RcG 1 21 false (mv (qB (x:=.slice bo m cb) 1)) ?_;refine RcG 1 21 false (mv (qB (x:=.int .i64 (k:Int)) 7)) ?_;refine RcG 1 21 false (ixq (ix_rI bo g2 o2 cb m k eb HK.out.2.1) (qA 2 22) (qA 3 23)) ?_;refine RcG 1 21 false (lv (fP:=iV y) _ (λw' e=>xE w' _ _ (e.cell cy)) (qA 4 24) (λ_ _=>rfl)) ?_;refine RcG 1 21 false (mv (qB (x:=.slice ao n ca) 0)) ?_;refine RcG 1 21 false zt ?_;refine RcG 1 21 false (ixq (ix_rI ao g1 o1 ca n i ea HG.out.2.1) (qA 6 26) (qA 7 27)) ?_;refine RcG 1 21 false (lv (fP:=iV x) _ (λw' e=>xE w' _ _ (e.cell cx)) (qA 8 28) (λ_ _=>rfl)) ?_;refine RcG 1 21 false (bn (r:=.bool false) (qC 5 25) (qC 9 29) (hr:=λw=>by go_simp)) ?_;refine Rc (pk (qC 1 21) (qA (fP:=IsV (.bool false)) 10 30)) ?_;exact rn0
       intro v X e1 hZ _;simp only[lxE,Nat.reduceAdd];rw[show v 11=.bool false from hZ 11 dcx];clear cx cy ea eb hxy;have S1:=hid (T.out.2.trans e1);clear hZ e1;refine asA 12 6 (.tmp 31) (.bool false) rfl ?_;simp only[Act.put,uAx,u0x,u1x];refine jR za ?_ _;go_wp2_with fail
       go_roundg (gk-1)
       case measure=>have:=HK.out;omega
       case rel=>exact⟨k+1,false,rfl,rfl,by have:=HK.out;omega,hid ⟨by rw[anyI_take HK.out.2.2,T.out.1];simp[HD.out],S1.out⟩⟩
    ·have hkl:¬((k:Int)<(m:Int)):=by omega
     have hf:anyI x gs=f:=by rw[<-T.out.1,List.take_of_length_le (by have:=F.out;omega)]
     have HF:=hid hf;have S1:=hid T.out.2;clear hf T hg2 hk;cases f with
     | true=>
      go_wp2_with fail
      go_roundg (G-1)
      case measure=>have:=HG.out;omega
      case rel=>exact⟨i+1,rfl,by have:=HG.out;omega,hid ⟨by rw[allI_take HG.out.2.2,S.out.1,HF.out];rfl,S1.out⟩⟩
     | false=>
      go_wp2_with fail
      go_ret
      exact⟨_,rfl,S1.out,by rw[<-HR.out,allI_no HG.out.2.2 HF.out];rfl⟩
  ·have hil:¬((i:Int)<(n:Int)):=by omega
   have hr:r=true:=by rw[<-HR.out,<-S.out.1,List.take_of_length_le (by have:=F.out;omega)]
   subst hr
   go_wp2
   go_ret
   exact⟨_,rfl,S.out.2,rfl⟩
section
variable {ops:Array Oper} {Q:Exit->Act->World->Prop} {ds:List (Option Tmp)} {a0:Act} {w0:World} {L:List (Value->World->Prop)} {boxes:List Nat} {i k:Nat} {o:Oper} {os:List Oper}
theorem bsIr1{z:Int}{x:Operand}(hx:Od ops ds a0 w0 L i x (iV z))(ho:o.op=.buildSlice 41 1 #[(0,x)]:=by rfl)(hi:L.getD i (λ_ _=>True)=IrR [z]:=by kernel_rfl)(hb:boxes.contains i=false:=by kernel_rfl):Ok prog ops Q ds a0 w0 L boxes i o:=
 xZ hb λv a w hE hd hf=>by
  have h1:a.eval x=_:=hx.out v a w hE hd hf;have hr:(Instr.buildSlice 41 1 #[(0,.int .i64 z)]).run prog w=.ok (.slice (some ⟨w.heap.size,0,none⟩) 1 1) (w.alloc (.cells #[.int .i64 z] 3)):=ja
  have B:=Bk.new w #[.int .i64 z] 3
  exact⟨_,_,jH ho yh,(Ext.refl w).alloc _,by rw[hi];exact⟨_,_,rfl,λ_=>⟨_,0,rfl,λj y hj=>by
   match j with
   |0=>cases hj;exact B.c 0 _ rfl
   |j+1=>simp at hj⟩⟩⟩
end
set_option maxRecDepth 100000
theorem OutX.hyp{res:Res Kn}{left:Nat}{rs hs:List Value}{g:Nat}{W:World}(h:OutX res left rs hs g W):∃a n c,World.cell? W ⟨g,9,none⟩=some (.slice a n c)/\IsRw 0 hs (.slice a n c) W:=by
 obtain⟨⟨vl,ha,hn,hc,h1,h2,h3,h4⟩,_,_⟩:=h;refine⟨ha,hn,hc,h2 9 _ ?_,h4⟩;cases res with
 | error m=>
  have e:=Value.agg.inj h3;have e:vl=_:=congrArg Array.toList e;rw[e];rfl
 | ok q=>
  obtain⟨s1,a1,n1,c1,s2,a2,n2,c2,s3,a3,n3,c3,s4,a4,n4,c4,e,k1,k2⟩:=h3;have e:=Value.agg.inj e;have e:vl=_:=congrArg Array.toList e;rw[e];rfl
theorem OutX.hyI{res:Res Kn}{left:Nat}{rs:List Value}{hs:List Int}{g:Nat}{W:World}(h:OutX res left rs (hs.map (Value.int .i64)) g W):∃a c,World.cell? W ⟨g,9,none⟩=some (.slice a hs.length c)/\IrR hs (.slice a hs.length c) W:=by
 obtain⟨a,n,c,h1,h2⟩:=h.hyp;obtain⟨a',c',h3,-⟩:=h2.ir;cases h3;exact⟨_,_,h1,h2.ir⟩
theorem all3{l gs:List Int}(h:∀z∈l,z=3\/z∈gs)(hg:gs= []):allI [3] l=true:=by
 subst hg;unfold allI;rw[List.all_eq_true];intro z hz;rcases h z hz with rfl|h
 ·rfl
 ·cases h
theorem all1{z:Int}{gs:List Int}(h:z∈gs):allI gs [z]=true:=by
 unfold allI anyI;simpa using h
theorem not1{z:Int}{l gs rest:List Int}(h:∀x∈l,x=3\/x∈rest)(h3:z≠3)(hr:rest=gs.filter (λx=> !decide (x=z))):allI l [z]=false:=by
 have hz:z∉l:=λhm=>by
  rcases h z hm with e|e
  ·exact h3 e
  ·rw[hr]at e;have:=(List.mem_filter.1 e).2;simp at this
 unfold allI anyI;simp only[List.all_cons,List.all_nil,Bool.and_true,List.any_eq_false,jY];intro x hx e;exact hz (e▸hx)
theorem filz_take{z y:Int}{gs:List Int}{k:Nat}(h:gs[k]? =some y):(gs.take (k+1)).filter (λx=> !decide (x=z))=(gs.take k).filter (λx=> !decide (x=z))++(if y=z then []else [y]):=by
 rw[List.take_add_one,List.filter_append,h];by_cases e:y=z <;> simp[e]
theorem tHypW_1{P:Prop}(h:P:=by
  obtain⟨k,rest,rv,rfl,rfl,hg2,S⟩:=hrel;by_cases hk:k<gs.length
  ·have hkl:(k:Int)<(gs.length:Int):=by omega
   have hkw:IntKind.i64.wrap ((k:Int)+1)=((k+1:Nat):Int):=by have:=HGR.out.1;simp only[IntKind.wrap_i64];omega
   obtain⟨y,hy⟩:∃x,gs[k]? =some x:=⟨_,List.getElem?_eq_getElem hk⟩;have hrl:rest.length<=3:=by rw[S.out.1];have h1:=List.length_filter_le (λx=> !decide (x=z)) (gs.take k);have h2:=HGR.out.1;rw[List.length_take]at h1;omega
   have eW:Ext X12 wr:=S.out.2.2
   obtain⟨gg,og,eg,kg⟩:∃gg og,ga=some ⟨gg,og,none⟩/\World.cell? wr ⟨gg,og+k,none⟩=some (.int .i64 y):=by
    obtain⟨ao,cc,hx,k2⟩:=HGR.out.2;cases hx;obtain⟨gg,og,h1,h2⟩:=k2 (λh=>by rw[h]at hy;cases hy);exact⟨gg,og,h1,eW.cell (hE2.out.cell (E6.cell (h2 k y hy)))⟩
   have HK:=hid (jO hg2 (jO hk (jO hy hrl)));have HW:=hid (show X12.heap.size<=wr.heap.size from S.out.2.2.size);have EG:=hid eg;clear hg2 hk hy hrl eW eg;go_upto_region 21 with fail;by_cases hyz:y=z
   ·subst hyz;refine rgs 6 (dR 96 6) [IsV (.slice ga gs.length gc),iV (k:Int),IsP gg (og+k),iV y,iV y,IsV (.bool false)] [] ?_ ?_
    ·refine Rc jk ?_;refine Rc (mv (qB (x:=.int .i64 (k:Int)) 18)) ?_;refine Rc (ixq (ix_rI ga gg og gc gs.length k EG.out HK.out.2.1) (qA 0 96) (qA 1 97)) ?_;refine Rc (lv (fP:=iV y) _ (λw' e=>xE w' _ _ (e.cell kg)) (qA 2 98) (λ_ _=>rfl)) ?_;refine Rc (mv (qB (x:=.int .i64 y) 16)) ?_;refine Rc (bn (r:=.bool false) (qC 3 99) (qC 4 100) (hr:=λw=>by go_simp)) ?_;exact rn0
    intro v X13 e1 hZ _;simp only[lxE,Nat.reduceAdd];rw[show v 5=.bool false from hZ 5 dcx];have e12:Below X12.heap.size X12 X13:=Below.ext S.out.2.2 (e1.mono HW.out) (jP _);have S1:=hid (jO (S.out.2.1.ext e1) e12);clear e1 hZ kg e12;refine jL ?_;go_wp2_with fail
    go_roundg (gk-1)
    case measure=>have:=HK.out;omega
    case rel=>exact⟨k+1,rest,rv,rfl,rfl,by have:=HK.out;omega,hid ⟨by rw[filz_take HK.out.2.2.1,if_pos rfl,List.append_nil];exact S.out.1,S1.out.1,S1.out.2⟩⟩
   ·have HY:=hid hyz;refine rgs 6 (dR 96 6) [IsV (.slice ga gs.length gc),iV (k:Int),IsP gg (og+k),iV y,iV z,IsV (.bool true)] [] ?_ ?_
    ·refine Rc jk ?_;refine Rc (mv (qB (x:=.int .i64 (k:Int)) 18)) ?_;refine Rc (ixq (ix_rI ga gg og gc gs.length k EG.out HK.out.2.1) (qA 0 96) (qA 1 97)) ?_;refine Rc (lv (fP:=iV y) _ (λw' e=>xE w' _ _ (e.cell kg)) (qA 2 98) (λ_ _=>rfl)) ?_;refine Rc yg ?_;refine Rc (bn (r:=.bool true) (qC 3 99) (qC 4 100) (hr:=λw=>by have h9:=HD.out;have h8:=hyz;go_simp)) ?_;exact rn0
    intro v X13 e1 hZ _;simp only[lxE,Nat.reduceAdd];rw[show v 5=.bool true from hZ 5 dcx];have e12:Below X12.heap.size X12 X13:=Below.ext S.out.2.2 (e1.mono HW.out) (jP _);have S1:=hid (jO (S.out.2.1.ext e1) e12);have HW1:=hid (jQ HW.out e1.size);have kg1:=e1.cell kg;clear e1 hZ kg hyz e12;refine jL ?_;go_upto_region 22 with fail;refine rgs 5 (dR 102 5) [IsV (rv),IsV (.slice ga gs.length gc),iV (k:Int),IsP gg (og+k),iV y] [] ?_ ?_
    ·refine Rc (mv (qB (x:=rv) 17)) ?_;refine Rc jk ?_;refine Rc (mv (qB (x:=.int .i64 (k:Int)) 18)) ?_;refine Rc (ixq (ix_rI ga gg og gc gs.length k EG.out HK.out.2.1) (qA 1 103) (qA 2 104)) ?_;refine Rc (lv (fP:=iV y) _ (λw' e=>xE w' _ _ (e.cell kg1)) (qA 3 105) (λ_ _=>rfl)) ?_;exact rn0
    intro v X17 e1 hZ _;simp only[lxE,Nat.reduceAdd];rw[show v 0=rv from hZ 0 dcx,show v 4=.int .i64 y from hZ 4 dcx];have S2:=hid (jO (S1.out.1.ext e1) (Below.ext S1.out.2 (e1.mono HW1.out) (jP _)));have HW2:=hid (jQ HW1.out e1.size);clear e1 hZ kg1;go_wp2_with (at_builtin;go_must (refine wpl_rwg rfl _ _ 41 rfl X12.heap.size 3 (.int .i64 0) 1 8 za infI rfl dcx _ _ _ rfl (S2.out.1.ext ((Ext.refl _).alloc _)) _ 1 _ [.int .i64 y] rfl rfl (cells_newE _ _ _ _ (by simp)) xf (by have:=HK.out.2.2.2;omega) (by have:=HK.out.2.2.2;omega) (by have h1:=HW2.out;simp;omega) ?_;intro v9 w10 hr9 hg9 hb9))
    have hx:=hid (jO hr9 (Below.trans S2.out.2 ((jS _ _).alloc HW2.out _ |>.trans hb9)));clear hr9 hg9 hb9
    go_roundg (gk-1)
    case measure=>have:=HK.out;omega
    case rel=>
     refine⟨k+1,rest++ [y],_,rfl,rfl,by have:=HK.out;omega,hid ⟨by rw[filz_take HK.out.2.2.1,if_neg HY.out,S.out.1],?_,hx.out.2⟩⟩;have:=hx.out.1;simpa using this
  ·have hkl:¬((k:Int)<(gs.length:Int)):=by omega
   have hrest:rest=gs.filter (λx=> !decide (x=z)):=by rw[S.out.1,List.take_of_length_le (by omega)]
   have hrl:rest.length<=3:=by rw[hrest];have:=List.length_filter_le (λx=> !decide (x=z)) gs;have:=HGR.out.1;omega
   have eW:Ext X12 wr:=S.out.2.2;have hIr:IrR rest rv wr:=IrR.of S.out.2.1 rfl;have HRS:=hid (jO hrest (jO hrl hIr));have B8w:=B8.ext (hE2.out.trans eW);have B11w:=B11.ext (hE2.out.trans eW);have hE3:=hid (hE2.out.trans eW);clear hrest hrl hIr eW S hg2 hk;go_upto_region 23 with fail;clear hkl;refine rgs 7 (dR 109 7) [IsV (.agg us.toArray),IsV (.slice ca1 cs'.length cc1),IsV (.slice va1 cs'.length vc1),IsV (.agg #[.slice sa sn sc]),IsV (rv),IsV (.int .u16 (st:Int)),iV (st:Int)] [] ?_ ?_
   ·refine Rc (lvV B8w xN (qB 8) hlu) ?_;refine Rc (mv (qB 9)) ?_;refine Rc (mv (qB 10)) ?_;refine Rc (lvV B11w ld_Sh1 (qB 11)) ?_;refine Rc (mv (qB 17)) ?_;refine Rc yj ?_;refine Rc (cvy (S:=62) (T:=3) (r:=.int .i64 (st:Int)) (qC 5 114) (hr:=λw=>by have h9:=HWX.out;go_simp)) ?_;exact rn0
   intro v X8 e1 hZ _;simp only[lxE,Nat.reduceAdd];rw[show v 0=_ from hZ 0 dcx,show v 1=_ from hZ 1 dcx,show v 2=_ from hZ 2 dcx,show v 3=_ from hZ 3 dcx,show v 4=_ from hZ 4 dcx,show v 6=_ from hZ 6 dcx];clear hZ;refine stL (λK hK=>?_);refine xB (us:= [.agg us.toArray,.slice ca1 cs'.length cc1,.slice va1 cs'.length vc1,.agg #[.slice sa sn sc],rv,.int .i64 (st:Int)]) (en func16) za (HRUN.out rest _ _ HRS.out.2.1 (HRS.out.2.2.ext e1) (E6.trans (hE3.out.trans e1))) (λv2 X2 h=>hK _ _ ?_) (λch X2 h=>by{obtain⟨_,hx,_⟩:=h;cases hx}) (λX2 h=>by{obtain⟨_,hx,_⟩:=h;cases hx});obtain⟨_,hx,e2,hO⟩:=h;cases hx;clear hK K
   go_simp
   refine stL (λK hK=>?_);refine xF (vs:=zOut) al_Out (λBn e3=>hK _ _ ?_);obtain⟨gn,hgn⟩:∃g,X2.heap.size=g:=⟨_,rfl⟩;rw[hgn]at Bn ⊢;replace hO:=IsOutX.stb _ _ _ _ _ _ _ e3 hO;generalize X2.alloc (.cells zOut.toArray 53)=X3 at Bn e3 hO ⊢;clear hK K
   go_simp
   refine stL (λK hK=>?_);refine stOut Bn hO (noB_k _) (noB_z _) (λX14 OC O=>hK _ _ ?_);have e4:=(e1.trans e2).trans (O.ext e3 (Nat.le_of_eq hgn));obtain⟨g19,hg15⟩:∃g,gn=g:=⟨_,rfl⟩;rw[hg15]at OC ⊢;clear hK K O e1 e2 e3 hO Bn hgn hg15;refine jL ?_;have hE4:=hid (hE3.out.trans e4);obtain⟨pd1,pdc,d9,kD⟩:=OC.hyI;obtain⟨ls,hls⟩:∃l,zsL (FR rest).2.2.2=l:=⟨_,rfl⟩;have hl1:=(HZ.out rest).1 HRS.out.2.1;have hl2:=(HZ.out rest).2;rw[hls]at d9 kD hl1 hl2;obtain⟨m,hm⟩:∃m,ls.length=m:=⟨_,rfl⟩;rw[hm]at d9 kD;have HL:=hid (jO kD (jO hl1 hl2));clear e4 hls kD hl1 hl2 hm OC B8w B11w;go_upto_region 24 with fail;refine rgs 6 (dR 117 6) [iV z,IrR [z],IsP g19 0,IsP g19 9,IsV (.slice pd1 m pdc),IsV (.bool false)] [] ?_ ?_
   ·refine Rc yg ?_;refine Rc (bsIr1 (qA (fP:=iV z) 0 117)) ?_;refine Rc (fa (xO (g19)) (qB (x:=.pointer (some ⟨g19,0,none⟩)) 19)) ?_;refine Rc (fa (fa_Vl2 (g19)) (qA (fP:=IsP g19 0) 2 119)) ?_;refine Rc (lv (fP:=IsV (.slice pd1 m pdc)) _ (λw' e=>ld_aIn w' _ _ (e.cell d9)) (qA (fP:=IsP g19 9) 3 120) (λ_ _=>rfl)) ?_;refine Rc (cl2 (en func27) (qA (fP:=IrR [z]) 1 118) (qA (fP:=IsV (.slice pd1 m pdc)) 4 121) (λx0 x1 w' hE d0 d1=>by{obtain rfl:x1=.slice pd1 m pdc:=d1;exact by have h:=within_f (gs:=ls) d0 (HL.out.1.ext hE) (by simp) (by have:=HL.out.2.1;omega);rw[not1 HL.out.2.2 HD.out HRS.out.1]at h;exact h})) ?_;exact rn0
   intro v X15 e1 hZ _;simp only[lxE,Nat.reduceAdd];rw[show v 5=.bool false from hZ 5 dcx];have hE5:=hid (hE4.out.trans e1);clear e1 hZ d9;refine jL ?_;go_wp2_with fail
   go_roundg (G-1)
   case measure=>have:=HG.out;omega
   case rel=>exact⟨i+1,rfl,by have:=HG.out;omega,hE5⟩
  ):P:=h
theorem Hyps_w{w:World}{l:Value}{ca ea:Option Addr}{cn cc en' ec g:Nat}{st:Nat}(hT:TabM w)(HEX:Hid (∀w',Ext w w'->Calls prog 10 #[] w' (Ret w' (IsV (.bool true)))))(b1:IsBy l w)(b2:IsBy (.slice ca cn cc) w)(b3:IsBy (.slice ea en' ec) w)(hg:g<=255)(hst:st<=65535):
  Calls prog 7 #[l,.agg #[.slice ca cn cc,.slice ea en' ec,.int .u8 (g:Int)],.int .u16 (st:Int)] w (Ret w (IsV (.bool true))):=by
 obtain⟨W,hW,E,B4⟩:∃W,W=w.alloc (.cells #[.slice ca cn cc,.slice ea en' ec,.int .u8 (g:Int)] 24)/\Ext w W/\Bk W w.heap.size [.slice ca cn cc,.slice ea en' ec,.int .u8 (g:Int)]:=
  ⟨_,rfl,(Ext.refl w).alloc _,Bk.new w _ _⟩
 obtain⟨b,hbb⟩:∃b,w.heap.size=b:=⟨_,rfl⟩;rw[hbb]at B4;have HT:=hid hT;have HB1:=hid b1;have HB2:=hid b2;have HB3:=hid b3;have HN:=hid (jO hg hst);clear hT b1 b2 b3 hg hst;go_enter func7,ntmps7;go_upto_region 4 with(go_at_call 10;go_must (refine jJ (HEX.out _ (by rw[<-hW];exact E)) ?_;rintro e w1 ⟨_,rfl,e1,rfl⟩));rw[<-hW]at e1;replace B4:=B4.ext e1;replace E:=E.trans e1;clear hW e1 HEX;refine rgs 2 [some 23,some 24] [IsV l,IsTr] [] ?_ ?_
 ·refine Rc zv ?_;refine Rc (cl1 (en func11) (qA (fP:=IsV l) 0 23) (λx0 w' hE d0=>by{obtain rfl:x0=l:=d0;exact Tree_f (HB1.out.ext (E.trans hE))})) ?_;exact rn0
 intro v X1 e1 hZ _;obtain⟨u,hu⟩:∃u,v 1=u:=⟨_,rfl⟩;obtain⟨e,hwf,hO⟩:IsTr u X1:=jl
 simp only[lxE,Nat.reduceAdd];rw[hu];clear hZ hu;obtain⟨us,hus,hl1,hone,hnw,_⟩:=id hO;subst hus;refine stL (λK hK=>?_);refine xF (vs:=zNd) al_Nd (λBn e3=>hK _ _ ?_);obtain⟨g8,hg8⟩:∃g,X1.heap.size=g:=⟨_,rfl⟩;rw[hg8]at Bn ⊢;generalize X1.alloc (.cells zNd.toArray 31)=Y2 at Bn e3 ⊢;clear hK K
 go_simp
 refine stL (λK hK=>?_);refine qZ (us:=us) Bn st_Nd rfl hl1 nwZN (λX2 B8 O=>hK _ _ ?_) (ho1:=hone);have e4:=O.ext e3 (Nat.le_of_eq hg8);have HNe:=hid (IsNe.stb _ _ _ _ e4 hO);have e2:=e1.trans e4;replace E:=E.trans e2;replace B4:=B4.ext e2;have HWF:=hid (jO hwf hl1);clear hK K O e1 e2 e3 e4 Bn hone hnw hO hg8 hwf hl1;refine jL ?_;go_upto_region 5 with fail;refine rgs 2 [some 26,some 27] [IsV (.agg #[.slice ca cn cc,.slice ea en' ec,.int .u8 (g:Int)]),IsCls] [] ?_ ?_
 ·refine Rc zaq ?_;refine Rc (cl2 (en func12) (qA (fP:=IsV (.agg #[.slice ca cn cc,.slice ea en' ec,.int .u8 (g:Int)])) 0 26) qE (λx0 x1 w' hE d0 d1=>by{obtain rfl:x0=_:=d0;obtain rfl:x1=.bool true:=d1;exact cells_f (HB2.out.ext (E.trans hE))})) ?_;exact rn0
 intro v X3 e1 hZ _;obtain⟨cs,cv,vv,hcv,hcs⟩:=hZ 1 dcx;simp only[lxE,Nat.reduceAdd];rw[hcv];have HCS:=hid hcs;replace B4:=B4.ext e1;replace B8:=B8.ext e1;replace E:=E.trans e1;replace HNe:=hid (IsNe.stb _ _ _ _ e1 HNe.out);clear hZ hcv hcs e1;go_upto_region 6 with fail;refine rgs 2 [some 30,some 31] [IsV (.agg #[.slice ca cn cc,.slice ea en' ec,.int .u8 (g:Int)]),IsShl] [] ?_ ?_
 ·refine Rc zaq ?_;refine Rc (cl1 (en func13) (qA (fP:=IsV (.agg #[.slice ca cn cc,.slice ea en' ec,.int .u8 (g:Int)])) 0 30) (λx0 w' hE d0=>by{obtain rfl:x0=_:=d0;exact shelf_f (HB3.out.ext (E.trans hE))})) ?_;exact rn0
 intro v X4 e1 hZ _;obtain⟨sv,L,hsv,hs1,hs2,hs3⟩:=hZ 1 dcx;simp only[lxE,Nat.reduceAdd];rw[hsv];clear hZ hsv
 obtain⟨sa,sn,sc,hsl⟩:∃a n c,sv=.slice a n c:=by
  rcases hs1 with⟨-,h⟩| ⟨g9,c9,h,-,-⟩
  ·exact⟨_,_,_,h⟩
  ·exact⟨_,_,_,h⟩
 subst hsl;refine stL (λK hK=>?_);refine xF (vs:= [.slice none 0 0]) al_ShN (λBn e3=>hK _ _ ?_);obtain⟨g11,hg11⟩:∃g,X4.heap.size=g:=⟨_,rfl⟩;rw[hg11]at Bn ⊢;generalize X4.alloc (.cells [Value.slice none 0 0].toArray 39)=Y5 at Bn e3 ⊢;clear hK K
 go_simp
 refine stL (λK hK=>?_);refine qZ (us:= [.slice sa sn sc]) Bn st_Sh rfl rfl nwNilS (λX5 B11 O=>hK _ _ ?_);have e4:=O.ext e3 (Nat.le_of_eq hg11);have e2:=e1.trans e4;have HSH:=hid (jO (hs1.ext e4) (jO hs2 (λvs h=>(hs3 vs h).ext e4)));replace B4:=B4.ext e2;replace B8:=B8.ext e2;replace E:=E.trans e2;replace HNe:=hid (IsNe.stb _ _ _ _ e2 HNe.out);replace HCS:=hid (IsCls.stb _ _ _ e2 ⟨cs,cv,vv,rfl,HCS.out⟩);clear hK K O e1 e2 e3 e4 Bn hs1 hs2 hs3 hg11;refine jL ?_;go_upto_region 7 with fail;refine rgs 2 [some 32,some 33] [IsV (.agg #[.slice ca cn cc,.slice ea en' ec,.int .u8 (g:Int)]),IsGr] [] ?_ ?_
 ·refine Rc zaq ?_;refine Rc (cl1 (en func14) (qA (fP:=IsV (.agg #[.slice ca cn cc,.slice ea en' ec,.int .u8 (g:Int)])) 0 32) (λx0 w' hE d0=>by{obtain rfl:x0=_:=d0;exact granted_f (by omega) (by have:=HN.out.1;omega)})) ?_;exact rn0
 intro v X6 e1 hZ _;obtain⟨u,hu⟩:∃u,v 1=u:=⟨_,rfl⟩;obtain⟨gs,hgl,hgb,hgr⟩:IsGr u X6:=jl
 obtain⟨ga,gc,rfl,-⟩:=id hgr;simp only[lxE,Nat.reduceAdd];rw[hu];have HGR:=hid (jO hgl hgr);replace B8:=B8.ext e1;replace B11:=B11.ext e1;replace E:=E.trans e1;replace HNe:=hid (IsNe.stb _ _ _ _ e1 HNe.out);replace HCS:=hid (IsCls.stb _ _ _ e1 HCS.out);replace HSH:=hid (jO (HSH.out.1.ext e1) (jO HSH.out.2.1 (λvs h=>(HSH.out.2.2 vs h).ext e1)));clear hZ hu e1 hgl hgb hgr B4;go_upto_region 8 with fail;obtain⟨cs',cv',vv',hcv',hcl,hck,hch,hcr,hvr⟩:=HCS.out;cases hcv';clear HCS;obtain⟨ca1,cc1,rfl,-⟩:=id hcr;obtain⟨va1,vc1,rfl,-⟩:=id hvr;have hSM:=shpM_of (HT.out.ext E) hcr hvr HSH.out.1.hds (λvs h=>⟨_,HSH.out.2.2 vs h⟩) HGR.out.2;have hOK:∀gs':List Int,gs'.length<=1000->ShpMOk [1,2,3] cs' L (datW X6) gs':=λgs' h=>shpOk_of hcl hck hch (by have:=HSH.out.2.1;omega) (λvs h=>⟨_,HSH.out.2.2 vs h⟩) (gs:=gs') h
 have hNd:=HNe.out;have hWF:=HWF.out.1;have hlu:=HWF.out.2;obtain⟨FR,hFR⟩:∃F:List Int->Res Kn×Mst Lg,F=λgs'=>evR cs' L (datW X6) gs' e st:=⟨_,rfl⟩
 have HRUN:=hid (show ∀(gs':List Int) (gv:Value) (w':World),gs'.length<=3->IrR gs' gv w'->Ext X6 w'->Calls prog 16 #[.agg us.toArray,.slice ca1 cs'.length cc1,.slice va1 cs'.length vc1,.agg #[.slice sa sn sc],gv,.int .i64 (st:Int)] w' (Ret w' (IsOutX (FR gs').1 (FR gs').2.1 (ksV (FR gs').2.2.1) ((zsL (FR gs').2.2.2).map (Value.int .i64))))from by
  rw[hFR];intro gs' gv w' h1 h2 hE;obtain⟨us',hu',_,_,_,hn'⟩:=IsNe.stb _ _ _ _ hE hNd;cases hu';obtain⟨ga',gc',rfl,-⟩:=id h2;have S:=hSM.ext hE
  exact run_T ⟨S.tm,S.cr,S.vr,S.sr,h2,S.ent,S.hy⟩ (hOK gs' (by omega)) dcx (by have:=HN.out.2;omega) hWF hn')
 have HZ:=hid (show ∀gs':List Int,(gs'.length<=3->(zsL (FR gs').2.2.2).length<=3)/\∀h∈zsL (FR gs').2.2.2,h=3\/h∈gs' from by
  rw[hFR];exact λgs'=>⟨λh=>(lens_R (hOK gs' (by omega)) hWF st).2,hyps_zs hck e st⟩)
 have HWX:=hid (show IntKind.i64.wrap (st:Int)=(st:Int)from by have:=HN.out.2;simp only[IntKind.wrap_i64];omega);clear hFR hSM hOK hNd hWF hcl hck hch hcr hvr HSH HNe HWF;refine rgs 7 (dR 34 7) [IsV (.agg us.toArray),IsV (.slice ca1 cs'.length cc1),IsV (.slice va1 cs'.length vc1),IsV (.agg #[.slice sa sn sc]),IsV (.slice ga gs.length gc),IsV (.int .u16 (st:Int)),iV (st:Int)] [] ?_ ?_
 ·refine Rc zar ?_;refine Rc (mv (qB 9)) ?_;refine Rc (mv (qB 10)) ?_;refine Rc (lvV B11 ld_Sh1 (qB 11)) ?_;refine Rc (mv (qB 12)) ?_;refine Rc yj ?_;refine Rc (cvy (S:=62) (T:=3) (r:=.int .i64 (st:Int)) (qC 5 39) (hr:=λw=>by have h9:=HWX.out;go_simp)) ?_;exact rn0
 intro v X8 e1 hZ _;simp only[lxE,Nat.reduceAdd];rw[show v 0=_ from hZ 0 dcx,show v 1=_ from hZ 1 dcx,show v 2=_ from hZ 2 dcx,show v 3=_ from hZ 3 dcx,show v 4=_ from hZ 4 dcx,show v 6=_ from hZ 6 dcx];clear hZ;refine stL (λK hK=>?_);refine xB (us:= [.agg us.toArray,.slice ca1 cs'.length cc1,.slice va1 cs'.length vc1,.agg #[.slice sa sn sc],.slice ga gs.length gc,.int .i64 (st:Int)]) (en func16) za (HRUN.out gs _ _ HGR.out.1 (HGR.out.2.ext e1) e1) (λv2 X2 h=>hK _ _ ?_) (λch X2 h=>by{obtain⟨_,hx,_⟩:=h;cases hx}) (λX2 h=>by{obtain⟨_,hx,_⟩:=h;cases hx});obtain⟨_,hx,e2,hO⟩:=h;cases hx;clear hK K
 go_simp
 refine stL (λK hK=>?_);refine xF (vs:=zOut) al_Out (λBn e3=>hK _ _ ?_);obtain⟨gn,hgn⟩:∃g,X2.heap.size=g:=⟨_,rfl⟩;rw[hgn]at Bn ⊢;replace hO:=IsOutX.stb _ _ _ _ _ _ _ e3 hO;generalize X2.alloc (.cells zOut.toArray 53)=X3 at Bn e3 hO ⊢;clear hK K
 go_simp
 refine stL (λK hK=>?_);refine stOut Bn hO (noB_k _) (noB_z _) (λX9 OA O=>hK _ _ ?_);have e4:=(e1.trans e2).trans (O.ext e3 (Nat.le_of_eq hgn));obtain⟨g13,hg15⟩:∃g,gn=g:=⟨_,rfl⟩;rw[hg15]at OA ⊢;clear hK K O e1 e2 e3 hO Bn hgn hg15;refine jL ?_;replace B8:=B8.ext e4;replace B11:=B11.ext e4;replace E:=E.trans e4;have E6:=e4;clear e4;go_upto_region 9 with fail;refine rgs 6 (dR 42 6) [IsV (.agg us.toArray),IsV (.slice ca1 cs'.length cc1),IsV (.slice va1 cs'.length vc1),IsV (.agg #[.slice sa sn sc]),IsV (.int .u16 (st:Int)),iV (st:Int)] [] ?_ ?_
 ·refine Rc zar ?_;refine Rc (mv (qB 9)) ?_;refine Rc (mv (qB 10)) ?_;refine Rc (lvV B11 ld_Sh1 (qB 11)) ?_;refine Rc yj ?_;refine Rc (cvy (S:=62) (T:=3) (r:=.int .i64 (st:Int)) (qC 4 46) (hr:=λw=>by have h9:=HWX.out;go_simp)) ?_;exact rn0
 intro v X8 e1 hZ _;simp only[lxE,Nat.reduceAdd];rw[show v 0=_ from hZ 0 dcx,show v 1=_ from hZ 1 dcx,show v 2=_ from hZ 2 dcx,show v 3=_ from hZ 3 dcx,show v 5=_ from hZ 5 dcx];clear hZ;refine stL (λK hK=>?_);refine xB (us:= [.agg us.toArray,.slice ca1 cs'.length cc1,.slice va1 cs'.length vc1,.agg #[.slice sa sn sc],.slice none 0 0,.int .i64 (st:Int)]) (en func16) za (HRUN.out [] _ _ dcx ⟨none,0,rfl,λh=>absurd rfl h⟩ (E6.trans e1)) (λv2 X2 h=>hK _ _ ?_) (λch X2 h=>by{obtain⟨_,hx,_⟩:=h;cases hx}) (λX2 h=>by{obtain⟨_,hx,_⟩:=h;cases hx});obtain⟨_,hx,e2,hO⟩:=h;cases hx;clear hK K
 go_simp
 refine stL (λK hK=>?_);refine xF (vs:=zOut) al_Out (λBn e3=>hK _ _ ?_);obtain⟨gn,hgn⟩:∃g,X2.heap.size=g:=⟨_,rfl⟩;rw[hgn]at Bn ⊢;replace hO:=IsOutX.stb _ _ _ _ _ _ _ e3 hO;generalize X2.alloc (.cells zOut.toArray 53)=X3 at Bn e3 hO ⊢;clear hK K
 go_simp
 refine stL (λK hK=>?_);refine stOut Bn hO (noB_k _) (noB_z _) (λX10 OB O=>hK _ _ ?_);have e4:=(e1.trans e2).trans (O.ext e3 (Nat.le_of_eq hgn));obtain⟨g14,hg15⟩:∃g,gn=g:=⟨_,rfl⟩;rw[hg15]at OB ⊢;clear hK K O e1 e2 e3 hO Bn hgn hg15;refine jL ?_;replace B8:=B8.ext e4;replace B11:=B11.ext e4;replace E:=E.trans e4;replace OA:=OA.ext e4;replace E6:=E6.trans e4;clear e4;obtain⟨zs,hzs⟩:∃l,zsL (FR gs).2.2.2=l:=⟨_,rfl⟩;have hs1:=(HZ.out gs).1 HGR.out.1;have hs2:=(HZ.out gs).2;have hs3:=zs_lt (FR gs).2.2.2;rw[hzs]at OA hs1 hs2 hs3;obtain⟨pa1,pc1,c9,kA⟩:=OA.hyI;obtain⟨n,hn⟩:∃n,zs.length=n:=⟨_,rfl⟩;rw[hn]at c9 kA;have HS:=hid (jO hn (jO (by omega:n<=3) (jO hs2 hs3)))
 have KA:=hid (show zs≠ []->∃g o,pa1=some ⟨g,o,none⟩/\∀j x,zs[j]? =some x->World.cell? X10 ⟨g,o+j,none⟩=some (.int .i64 x)from by
  obtain⟨ao,cc,hx,k⟩:=kA
  cases hx;exact k)
 have hn3:n<=3:=by omega
 obtain⟨pb1,pc2,d9,kB⟩:=OB.hyI;have KB:=hid (jO d9 kB);clear hzs hs1 hs2 hs3 hn kA d9 kB OB OA;go_wp2_with fail
 go_loopg [15] n (λgk v15 wr=>∃i:Nat,v15=.int .i64 (i:Int)/\i+gk=n/\Hid (Ext X10 wr))
 case atStart=>exact⟨0,rfl,by omega,hid (Ext.refl _)⟩
 case round=>
  obtain⟨i,rfl,hg,hE⟩:=hrel;have c9w:=hE.out.cell c9;by_cases hi:i<n
  ·have hil:(i:Int)<(n:Int):=by omega
   have hiw:IntKind.i64.wrap ((i:Int)+1)=((i+1:Nat):Int):=jz
   obtain⟨z,hz⟩:∃x,zs[i]? =some x:=⟨_,List.getElem?_eq_getElem (by have:=HS.out.1;omega)⟩;obtain⟨gz,oz,ez,kz⟩:=KA.out (λh=>by rw[h]at hz;cases hz);have cz:=hE.out.cell (kz i z hz);have hzg:=HS.out.2.2.1 z (List.mem_of_getElem? hz);obtain⟨G,rfl⟩:∃G,G=gk:=⟨_,rfl⟩;have HG:=hid (jO hg (jO hi hz));have HZG:=hid hzg;have EZ:=hid ez;clear hg hi hz hzg ez;go_upto_region 13 with fail;clear hil;refine rgs 7 [some 57,some 58,some 59,some 60,some 61,some 62,some 16] [IsP g13 0,IsP g13 9,IsV (.slice pa1 n pc1),iV (i:Int),IsP gz (oz+i),iV z,iV z] [] ?_ ?_
   ·refine Rc xh ?_;refine Rc (fa (fa_Vl2 (g13)) (qA (fP:=IsP g13 0) 0 57)) ?_;refine Rc (lv (fP:=IsV (.slice pa1 n pc1)) _ (λw' e=>ld_aIn w' _ _ (e.cell c9w)) (qA (fP:=IsP g13 9) 1 58) (λ_ _=>rfl)) ?_;refine Rc jb ?_;refine Rc (ixq (ix_rI pa1 gz oz pc1 n i EZ.out HG.out.2.1) (qA 2 59) (qA 3 60)) ?_;refine Rc (lv (fP:=iV z) _ (λw' e=>xE w' _ _ (e.cell cz)) (qA 4 61) (λ_ _=>rfl)) ?_;refine Rc (mv (qA (fP:=iV z) 5 62)) ?_;exact rn0
   intro v X e1 hZ _;simp only[lxE,Nat.reduceAdd];rw[show v 6=.int .i64 z from hZ 6 dcx];have hE1:=hid (hE.out.trans e1);replace c9w:=e1.cell c9w;clear e1 hZ cz;refine jL ?_;go_upto_region 14 with fail;rcases jN i with h0|h0
   ·have HI0:=hid (jO (show ¬(0:Int)<(i:Int)by omega) (show ¬0<i by omega));clear h0;by_cases h3:z=3
    ·subst h3;refine rgs 24 (dR 63 24) [iV (i:Int),IsV (.bool false),IsV (.bool false),IsV (undef),IsV (undef),IsV (undef),IsV (undef),IsV (undef),IsV (undef),IsV (undef),IsV (undef),IsV (undef),IsV (.bool false),IsV (.bool false),iV 3,IsV (.bool false),IsV (.bool false),IsV (undef),IsV (undef),IsV (undef),IsV (undef),IsV (undef),IsV (.bool false),IsV (.bool false)] [] ?_ ?_
     ·refine Rc jb ?_;refine Rc zan ?_;refine Rc (mv (qA (fP:=IsV (.bool false)) 1 64)) ?_;refine RcN 2 65 false ?_;refine RcN 2 65 false ?_;refine RcN 2 65 false ?_;refine RcN 2 65 false ?_;refine RcN 2 65 false ?_;refine RcN 2 65 false ?_;refine RcN 2 65 false ?_;refine RcN 2 65 false ?_;refine RcN 2 65 false ?_;refine Rc (pk (qC 2 65) qE) ?_;refine Rc zaa ?_;refine RcG 13 76 false (mv (qB (x:=.int .i64 3) 16)) ?_;refine RcG 13 76 false (bn (r:=.bool false) (qC 14 77) qE (hr:=λw=>by go_simp)) ?_;refine RcG 13 76 false (mv (qA (fP:=IsV (.bool false)) 15 78)) ?_;refine RcN 16 79 false ?_;refine RcN 16 79 false ?_;refine RcN 16 79 false ?_;refine RcN 16 79 false ?_;refine RcN 16 79 false ?_;refine RcG 13 76 false (pk (qC 16 79) qE) ?_;refine Rc yu ?_;exact rn0
     intro v X12 e1 hZ _;simp only[lxE,Nat.reduceAdd];rw[show v 23=.bool false from hZ 23 dcx];have hE2:=hid (hE1.out.trans e1);clear e1 hZ;refine jL ?_;go_wp2_with fail
     go_roundg (G-1)
     case measure=>have:=HG.out;omega
     case rel=>exact⟨i+1,rfl,by have:=HG.out;omega,hE2⟩
    ·have HD:=hid h3;refine rgs 24 (dR 63 24) [iV (i:Int),IsV (.bool false),IsV (.bool false),IsV (undef),IsV (undef),IsV (undef),IsV (undef),IsV (undef),IsV (undef),IsV (undef),IsV (undef),IsV (undef),IsV (.bool false),IsV (.bool false),iV z,IsV (.bool true),IsV (.bool true),iV z,IrR [z],IsV (.slice ga gs.length gc),IsV (.bool true),IsV (.bool false),IsV (.bool false),IsV (.bool false)] [] ?_ ?_
     ·refine Rc jb ?_;refine Rc zan ?_;refine Rc (mv (qA (fP:=IsV (.bool false)) 1 64)) ?_;refine RcN 2 65 false ?_;refine RcN 2 65 false ?_;refine RcN 2 65 false ?_;refine RcN 2 65 false ?_;refine RcN 2 65 false ?_;refine RcN 2 65 false ?_;refine RcN 2 65 false ?_;refine RcN 2 65 false ?_;refine RcN 2 65 false ?_;refine Rc (pk (qC 2 65) qE) ?_;refine Rc zaa ?_;refine RcG 13 76 false yg ?_;refine RcG 13 76 false (bn (r:=.bool true) (qC 14 77) qE (hr:=λw=>by go_simp)) ?_;refine RcG 13 76 false (mv (qA (fP:=IsV (.bool true)) 15 78)) ?_;refine RcG 16 79 true yg ?_;refine RcG 16 79 true (bsIr1 (qA (fP:=iV z) 17 80)) ?_;refine RcG 16 79 true jk ?_;refine RcG 16 79 true zx ?_;refine RcG 16 79 true (un (r:=.bool false) (qC 20 83) zb6 (hr:=λw=>by go_simp)) ?_;refine RcG 13 76 false (pk (qC 16 79) (qA (fP:=IsV (.bool false)) 21 84)) ?_;refine Rc yu ?_;exact rn0
     intro v X12 e1 hZ _;simp only[lxE,Nat.reduceAdd];rw[show v 23=.bool false from hZ 23 dcx];have hE2:=hid (hE1.out.trans e1);clear e1 hZ;refine jL ?_;go_upto_region 16 with fail;have hq:=rwz_run;go_wp2_with fail;clear hq
     go_loopg [17,18] gs.length (λgk v17 v18 wr=>∃(k:Nat) (rest:List Int) (rv:Value),rv=v17/\v18=.int .i64 (k:Int)/\k+gk=gs.length/\Hid (rest=(gs.take k).filter (λx=> !decide (x=z))/\Rwg 3 1 X12.heap.size wr rv rest.length (rest.map (λz=>Value.int .i64 z))/\Below X12.heap.size X12 wr))
     case atStart=>exact⟨0, [],_,rfl,rfl,by omega,hid ⟨rfl,Rwg.zero X12 (jP _),(jS _ _).alloc (jP _) _⟩⟩
     case round=>
      exact tHypW_1
   ·obtain⟨j,hj⟩:∃j,i=j+1:=⟨i-1,by omega⟩;obtain⟨z0,hz0⟩:∃x,zs[j]? =some x:=⟨_,List.getElem?_eq_getElem (by have:=HS.out.1;have:=HG.out;omega)⟩;have cz0:=hE1.out.cell (kz j z0 hz0);have HI0:=hid (jO (show(0:Int)<(i:Int)by omega) h0)
    have HJ:=hid (show IntKind.i64.wrap ((i:Int)-1)=(j:Int)/\¬z<=z0 from by
     refine⟨by have:=HG.out;have:=HS.out.2.1;simp only[IntKind.wrap_i64];omega,?_⟩;obtain⟨q1,q2⟩:=List.getElem?_eq_some_iff.1 hz0;obtain⟨q3,q4⟩:=List.getElem?_eq_some_iff.1 HG.out.2.2;have:=List.pairwise_iff_getElem.1 HS.out.2.2.2 j i q1 q3 (by omega)
     rw[q2,q4]at this;omega)
    have HJI:=hid hj;clear hz0 hj h0;by_cases h3:z=3
    ·subst h3;refine rgs 24 (dR 63 24) [iV (i:Int),IsV (.bool true),IsV (.bool true),IsP g13 0,IsP g13 9,IsV (.slice pa1 n pc1),iV (i:Int),iV (j:Int),IsP gz (oz+j),iV z0,iV 3,IsV (.bool false),IsV (.bool false),IsV (.bool false),iV 3,IsV (.bool false),IsV (.bool false),IsV (undef),IsV (undef),IsV (undef),IsV (undef),IsV (undef),IsV (.bool false),IsV (.bool false)] [] ?_ ?_
     ·refine Rc jb ?_;refine Rc zao ?_;refine Rc (mv (qA (fP:=IsV (.bool true)) 1 64)) ?_;refine RcG 2 65 true xh ?_;refine RcG 2 65 true (fa (fa_Vl2 (g13)) (qA (fP:=IsP g13 0) 3 66)) ?_;refine RcG 2 65 true yq ?_;refine RcG 2 65 true jb ?_;refine RcG 2 65 true zba ?_;refine RcG 2 65 true zai ?_;refine RcG 2 65 true (lv (fP:=iV z0) _ (λw' e=>xE w' _ _ (e.cell cz0)) (qA 8 71) (λ_ _=>rfl)) ?_;refine RcG 2 65 true (mv (qB (x:=.int .i64 3) 16)) ?_;refine RcG 2 65 true za4 ?_;refine Rc (pk (qC 2 65) (qA (fP:=IsV (.bool false)) 11 74)) ?_;refine Rc zaa ?_;refine RcG 13 76 false (mv (qB (x:=.int .i64 3) 16)) ?_;refine RcG 13 76 false (bn (r:=.bool false) (qC 14 77) qE (hr:=λw=>by go_simp)) ?_;refine RcG 13 76 false (mv (qA (fP:=IsV (.bool false)) 15 78)) ?_;refine RcN 16 79 false ?_;refine RcN 16 79 false ?_;refine RcN 16 79 false ?_;refine RcN 16 79 false ?_;refine RcN 16 79 false ?_;refine RcG 13 76 false (pk (qC 16 79) qE) ?_;refine Rc yu ?_;exact rn0
     intro v X12 e1 hZ _;simp only[lxE,Nat.reduceAdd];rw[show v 23=.bool false from hZ 23 dcx];have hE2:=hid (hE1.out.trans e1);clear e1 hZ;refine jL ?_;go_wp2_with fail
     go_roundg (G-1)
     case measure=>have:=HG.out;omega
     case rel=>exact⟨i+1,rfl,by have:=HG.out;omega,hE2⟩
    ·have HD:=hid h3;refine rgs 24 (dR 63 24) [iV (i:Int),IsV (.bool true),IsV (.bool true),IsP g13 0,IsP g13 9,IsV (.slice pa1 n pc1),iV (i:Int),iV (j:Int),IsP gz (oz+j),iV z0,iV z,IsV (.bool false),IsV (.bool false),IsV (.bool false),iV z,IsV (.bool true),IsV (.bool true),iV z,IrR [z],IsV (.slice ga gs.length gc),IsV (.bool true),IsV (.bool false),IsV (.bool false),IsV (.bool false)] [] ?_ ?_
     ·refine Rc jb ?_;refine Rc zao ?_;refine Rc (mv (qA (fP:=IsV (.bool true)) 1 64)) ?_;refine RcG 2 65 true xh ?_;refine RcG 2 65 true (fa (fa_Vl2 (g13)) (qA (fP:=IsP g13 0) 3 66)) ?_;refine RcG 2 65 true yq ?_;refine RcG 2 65 true jb ?_;refine RcG 2 65 true zba ?_;refine RcG 2 65 true zai ?_;refine RcG 2 65 true (lv (fP:=iV z0) _ (λw' e=>xE w' _ _ (e.cell cz0)) (qA 8 71) (λ_ _=>rfl)) ?_;refine RcG 2 65 true yg ?_;refine RcG 2 65 true za4 ?_;refine Rc (pk (qC 2 65) (qA (fP:=IsV (.bool false)) 11 74)) ?_;refine Rc zaa ?_;refine RcG 13 76 false yg ?_;refine RcG 13 76 false (bn (r:=.bool true) (qC 14 77) qE (hr:=λw=>by go_simp)) ?_;refine RcG 13 76 false (mv (qA (fP:=IsV (.bool true)) 15 78)) ?_;refine RcG 16 79 true yg ?_;refine RcG 16 79 true (bsIr1 (qA (fP:=iV z) 17 80)) ?_;refine RcG 16 79 true jk ?_;refine RcG 16 79 true zx ?_;refine RcG 16 79 true (un (r:=.bool false) (qC 20 83) zb6 (hr:=λw=>by go_simp)) ?_;refine RcG 13 76 false (pk (qC 16 79) (qA (fP:=IsV (.bool false)) 21 84)) ?_;refine Rc yu ?_;exact rn0
     intro v X12 e1 hZ _;simp only[lxE,Nat.reduceAdd];rw[show v 23=.bool false from hZ 23 dcx];have hE2:=hid (hE1.out.trans e1);clear e1 hZ;refine jL ?_;go_upto_region 16 with fail;have hq:=rwz_run;go_wp2_with fail;clear hq
     go_loopg [17,18] gs.length (λgk v17 v18 wr=>∃(k:Nat) (rest:List Int) (rv:Value),rv=v17/\v18=.int .i64 (k:Int)/\k+gk=gs.length/\Hid (rest=(gs.take k).filter (λx=> !decide (x=z))/\Rwg 3 1 X12.heap.size wr rv rest.length (rest.map (λz=>Value.int .i64 z))/\Below X12.heap.size X12 wr))
     case atStart=>exact⟨0, [],_,rfl,rfl,by omega,hid ⟨rfl,Rwg.zero X12 (jP _),(jS _ _).alloc (jP _) _⟩⟩
     case round=>
      exact tHypW_1
  ·have hil:¬((i:Int)<(n:Int)):=by omega
   have d9:=hE.out.cell KB.out.1;have E9:=hE;go_upto_region 26 with fail;clear hil c9w;refine rgs 8 (dR 123 8) [IsV (.bool true),IsV (.bool true),IsP g14 0,IsP g14 9,IsV (.slice pb1 (zsL (FR []).2.2.2).length pc2),IrR [3],IsV (.bool true),IsV (.bool true)] [] ?_ ?_
   ·refine Rc (mv (qB (x:=.bool true) 7)) ?_;refine Rc (mv (qA (fP:=IsV (.bool true)) 0 123)) ?_;refine RcG 1 124 true (fa (xO (g14)) (qB (x:=.pointer (some ⟨g14,0,none⟩)) 14)) ?_;refine RcG 1 124 true (fa (fa_Vl2 (g14)) (qA (fP:=IsP g14 0) 2 125)) ?_;refine RcG 1 124 true (lv (fP:=IsV (.slice pb1 (zsL (FR []).2.2.2).length pc2)) _ (λw' e=>ld_aIn w' _ _ (e.cell d9)) (qA (fP:=IsP g14 9) 3 126) (λ_ _=>rfl)) ?_;refine RcG 1 124 true (bsIr1 qE) ?_;refine RcG 1 124 true (cl2 (en func27) (qA (fP:=IsV (.slice pb1 (zsL (FR []).2.2.2).length pc2)) 4 127) (qA (fP:=IrR [3]) 5 128) (λx0 x1 w' hE d0 d1=>by{obtain rfl:x0=.slice pb1 (zsL (FR []).2.2.2).length pc2:=d0;exact by have h:=within_f (xs:=zsL (FR []).2.2.2) (KB.out.2.ext (E9.out.trans hE)) d1 (jQ ((HZ.out []).1 dcx) dcx) (by simp);rw[all3 (HZ.out []).2 rfl]at h;exact h})) ?_;refine Rc (pk (qC 1 124) (qA (fP:=IsV (.bool true)) 6 129)) ?_;exact rn0
   intro v X16 e1 hZ _;simp only[lxE,Nat.reduceAdd];rw[show v 7=.bool true from hZ 7 dcx];replace E:=E.trans (E9.out.trans e1);clear e1 hZ;go_wp2_with fail
   go_ret
   exact⟨_,rfl,E,rfl⟩
end
end Go.Proofs.YtkeikfekkdplgaaGreatDoor
