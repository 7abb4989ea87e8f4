/-
  Package notebook: the reader: take and word.
  Package notebook: the reader: number. (Printed by wip/gen/nnu.py.)
-/
import Derived.Test.YtenhciieboegbaaGreatDoorNpr
import Derived.Test.YtenhciieboegbaaGreatDoorNvl
import Derived.Test.YtenhciieboegbaaGreatDoorParse
namespace Go.Proofs.YtenhciieboegbaaGreatDoor
open Go Go.RowKit
open Go.Proofs.Tryz
theorem zg{P:Prop}(h:P:=by exact⟨_,rfl,(Ext.refl w).alloc _,Bk.new w _ _⟩):P:=h
theorem zy{P:Prop}(h:P:=by have:=HN.out;simp only[IntKind.wrap_i64];omega):P:=h
theorem jp{P:Prop}(h:P:=by rw[<-hsb,<-hn];rfl):P:=h
theorem yt{P:Prop}(h:P:=by rw[<-HSB.out,ba_ex,<-hdw,List.take_of_length_le (by rw[List.length_drop,HN.out.1];exact zN _)]):P:=h
def wrongV:Value:=.iface 127 (.agg #[])
def pwr:List PanicEntry:= [{v:=wrongV,recovered:=false}]
def RdP{α:Type}(R:Nat)(w:World)(fP:α->Value->World->Prop)(o:Option (α×List UInt8))(e:Ending)(w':World):Prop:=
  Ob R w w'/\match o with
  |some (x,t)=>Bk w' R [qB t]/\∃v,e=.returned v/\fP x v w'
  |none=>e=.panicked pwr
def UnitP:Unit->Value->World->Prop:=λ_ v _=>v=.tuple #[]
theorem Bk.set0{w:World}{R:Nat}{s:List UInt8}(B:Bk w R [qB s])(t:List UInt8):Ob R w (w.setCell ⟨R,0,none⟩ (qB t))/\Bk (w.setCell ⟨R,0,none⟩ (qB t)) R [qB t]:=by
  obtain⟨h1,h2⟩:=B.setO 0 zo (qB t) (NoWord.string _);exact⟨Ob.only h1,h2⟩
theorem stC_str(w:World)(R:Nat)(v:Value)(t:List UInt8)(c0:w.cell? ⟨R,0,none⟩=some v)(f0:w.frozen? ⟨R,0,none⟩=false):(storeCells ⟨R,0,none⟩ [qB t]).run prog w=.ok () (w.setCell ⟨R,0,none⟩ (qB t)):=by
  unfold qB
  go_simp
section
set_option maxRecDepth 100000
set_option maxHeartbeats 4000000
theorem jZ{R:Nat}{s x:List UInt8}{w:World}(B:Bk w R [qB s]):Calls prog 77 #[.pointer (some ⟨R,0,none⟩),qB x] w (RdP R w UnitP ((qG x s).map λt=>((),t))):=by
  have HC:=hid (cutPre_f w s x);obtain⟨y,hy⟩:∃y,qB x=y:=⟨_,rfl⟩;obtain⟨p,hp⟩:∃p,x.isPrefixOf s=p:=⟨_,rfl⟩;rw[hy,hp]at HC;have HC:Hid (Calls prog 111 #[qB s,y] w (λe w'=>w'=w/\e=.returned (.tuple #[qB (if p=true then s.drop x.length else s),.bool p]))):=HC;rw[hy];have c0:=B.c 0 _ rfl;have f0:=B.f 0;have HP:=hid hp;have HB:=hid B;clear B hy hp;cases p with
  | false=>
    have HR:=hid (show qG x s=none by rw[qG,HP.out];rfl);go_enter func77,ntmps77;go_wp2_with (go_at_call 111;refine zG HC.out ?_;rintro e w1 ⟨rfl,rfl⟩)
    rw[HR.out];exact⟨rfl,Ob.of (Ext.refl _),rfl⟩
  | true=>
    have HR:=hid (show qG x s=some (s.drop x.length)by rw[qG,HP.out];rfl);obtain⟨t,ht⟩:∃t,s.drop x.length=t:=⟨_,rfl⟩;have HO:=hid (HB.out.set0 t);have hsc:=hid (stC_str w R _ t c0 f0);have HT:=hid ht;simp only[if_true]at HC;have HC:Hid (Calls prog 111 #[qB s,y] w (λe w'=>w'=w/\e=.returned (.tuple #[qB t,.bool true]))):=by rw[<-ht];exact HC
    clear ht;go_enter func77,ntmps77;go_wp2_with (go_at_call 111;refine zG HC.out ?_;rintro e w1 ⟨rfl,rfl⟩)
    rw[hsc.out];go_wp2_with fail
    go_end0
    rw[HR.out,HT.out];exact⟨HO.out.1,HO.out.2,_,rfl,rfl⟩
theorem tw_at{p:UInt8->Bool}{s:List UInt8}{i:Nat}(h1:(s.take i).all p=true)(h2:∀c,s[i]? =some c->p c=false):s.takeWhile p=s.take i/\s.dropWhile p=s.drop i:=by
  have h:=tw_app (p:=p) (s.take i) (s.drop i) h1 (λc t e=>h2 c (by
    have:(s.drop i)[0]? =some c:=by rw[e];rfl
    rwa [List.getElem?_drop,Nat.add_zero]at this))
  rw[List.take_append_drop]at h;exact h
theorem word_f{R:Nat}{s:List UInt8}{w:World}(B:Bk w R [qB s])(hl:s.length<=1000000):Calls prog 76 #[.pointer (some ⟨R,0,none⟩)] w (RdP R w (λ(x:List UInt8) v _=>v=qB x) (some (s.takeWhile qH,s.dropWhile qH))):=by
  have c0:=B.c 0 _ rfl;have f0:=B.f 0;have HB:=hid B;obtain⟨n,hn⟩:∃n,s.length=n:=⟨_,rfl⟩;have HN:=hid (zL hn hl);obtain⟨sb,hsb⟩:∃y,(⟨s.toArray⟩:ByteArray)=y:=⟨_,rfl⟩;have hsz:sb.size=n:=jp
  have HSB:=hid hsb;rw[qB,hsb]at c0;clear B hn hl hsb;go_enter func76,ntmps76
  go_wp2
  go_loopg [3] n (λgk v3 wr=>∃i:Nat,v3=.int .i64 (i:Int)/\i+gk=n/\wr=w/\Hid ((s.take i).all qH=true))
  case atStart=>exact⟨0,rfl,by omega,rfl,hid zo⟩
  case round=>
    obtain⟨i,rfl,hg,rfl,S⟩:=hrel;have HX:=λ(h2:∀c,s[i]? =some c->qH c=false)=>tw_at S.out h2
    have HX:=hid HX;by_cases hi:i<n
    · have hil:(i:Int)<(n:Int):=by omega
      obtain⟨c,hc⟩:∃c,s[i]? =some c:=⟨_,List.getElem?_eq_getElem (by have:=HN.out.1;omega)⟩
      have hbi:∀h,sb[i]'h=c:=λh=>by
        subst hsz;have:=HSB.out;subst this;have h3:=List.getElem?_eq_some_iff.1 hc;obtain⟨_,h4⟩:=h3;exact h4
      have hiw:IntKind.i64.wrap ((i:Int)+1)=((i+1:Nat):Int):=zy
      have HG:=hid (zL hg (zL hi hc));obtain⟨q,hq⟩:∃q,qH c=q:=⟨_,rfl⟩;have HQ:=hid hq;have HW:=hid (inWord_f c wr);rw[hq]at HW;have HW:Hid (Calls prog 60 #[bV c] wr (RSame wr (.bool q))):=HW;clear hq hg hi hc;cases q with
      | true=>
        have S':=hid (show(s.take (i+1)).all qH=true by rw[List.take_add_one,HG.out.2.2];simp[S.out,HQ.out]);clear S HX;go_wp2_with (go_at_call 60;refine zG HW.out ?_;rintro e w1 ⟨rfl,rfl⟩)
        go_roundg (gk-1)
        case measure=>have:=HG.out;omega
        case rel=>exact⟨i+1,rfl,by have:=HG.out;omega,rfl,S'⟩
      | false=>
        have HEND:=hid (HX.out (λd hd=>by rw[HG.out.2.2]at hd;cases hd;exact HQ.out));have hi:=HG.out.2.1;have hi1:(i:Int)<=(n:Int):=ze
        have hi0:(0:Int)<=(i:Int):=ze
        obtain⟨tw,htw⟩:∃y,s.take i=y:=⟨_,rfl⟩;obtain⟨dw,hdw⟩:∃y,s.drop i=y:=⟨_,rfl⟩;have hw1:sb.extract 0 i=⟨tw.toArray⟩:=by rw[<-HSB.out,ba_ex,<-htw];simp
        have hw2:sb.extract i n=⟨dw.toArray⟩:=yt
        have HR:=hid (show s.takeWhile qH=tw/\s.dropWhile qH=dw from⟨by rw[HEND.out.1,htw],by rw[HEND.out.2,hdw]⟩);have HO:=hid (HB.out.set0 dw);have hsc:=hid (stC_str wr R _ dw (HB.out.c 0 _ rfl) f0);clear htw hdw S HX HEND;clear hi;go_wp2_with (go_at_call 60;refine zG HW.out ?_;rintro e w1 ⟨rfl,rfl⟩)
        go_ret
        rw[HR.out.1,HR.out.2];exact⟨HO.out.1,HO.out.2,_,rfl,rfl⟩
    · have hil:¬((i:Int)<(n:Int)):=by omega
      have HEND:=hid (HX.out (λd hd=>by have:=(List.getElem?_eq_some_iff.1 hd).1;have:=HN.out.1;omega));have hin:i=n:=ze
      have hi1:(i:Int)<=(n:Int):=ze
      have hi0:(0:Int)<=(i:Int):=ze
      obtain⟨tw,htw⟩:∃y,s.take i=y:=⟨_,rfl⟩;obtain⟨dw,hdw⟩:∃y,s.drop i=y:=⟨_,rfl⟩;have hw1:sb.extract 0 i=⟨tw.toArray⟩:=by rw[<-HSB.out,ba_ex,<-htw];simp
      have hw2:sb.extract i n=⟨dw.toArray⟩:=yt
      have HR:=hid (show s.takeWhile qH=tw/\s.dropWhile qH=dw from⟨by rw[HEND.out.1,htw],by rw[HEND.out.2,hdw]⟩);have HO:=hid (HB.out.set0 dw);have hsc:=hid (stC_str wr R _ dw (HB.out.c 0 _ rfl) f0);clear htw hdw S HX HEND;clear hin;go_wp2_with fail
      go_ret
      rw[HR.out.1,HR.out.2];exact⟨HO.out.1,HO.out.2,_,rfl,rfl⟩
end
theorem Ob.new{R G:Nat}{w w1 w2:World}(h:Ob R w w1)(O:OnlyB G w1 w2)(hG:w.heap.size<=G):Ob R w w2:=
  ⟨O.os.trans h.os,O.tape.trans h.tape,O.output.trans h.output,by rw[O.size];exact h.size,λk hk hR=>(O.block k ze).trans (h.block k hk hR),h.gr.trans O.gr⟩
theorem Ob.then{R:Nat}{w w1 w2:World}(h:Ob R w w1)(e:Ext w1 w2):Ob R w w2:=h.trans (Ob.of e)
def zInt:List Value:= [.bool false,.slice none 0 0]
theorem al_In(w:World):(Instr.alloc 29 true (.tuple #[])).run prog w=.ok (.pointer (some ⟨w.heap.size,0,none⟩)) (w.alloc (.cells zInt.toArray 29)):=by unfold zInt;go_simp
theorem nwZI:∀v∈zInt,NoWord v:=nw2
theorem ld_InV:LdV prog 29 2:=λw g vs hl B=>ldM zc zc hl (λj v hj=>by rw[Nat.zero_add];exact B.c j v hj)
theorem cat_bin{P:Program}(s t:List UInt8)(T:Nat)(h:s.length+t.length<=4611686018427387904)(w:World):(binOp .add T (qB s) (qB t)).run P w=.ok (qB (s++t)) w:=by
  have h1:¬(9223372036854775807:Int)<(((⟨s.toArray⟩:ByteArray).size+(⟨t.toArray⟩:ByteArray).size:Nat):Int):=by
    have e1:(⟨s.toArray⟩:ByteArray).size=s.length:=by simp[ByteArray.size]
    have e2:(⟨t.toArray⟩:ByteArray).size=t.length:=by simp[ByteArray.size]
    omega
  unfold qB;rw[<-encS_cat]
  go_simp
  omega
def IntP:Int->Value->World->Prop:=λz v w=>IsI 136 z v w
section
set_option maxRecDepth 100000
set_option maxHeartbeats 8000000
theorem tNnu_1{P:Prop}(h:P:=by
  have HCAT:=hid hcat2;have HXB:=hid (zL hxb hm);clear hx hcat hcat2 hxb hm;go_wp2_with (go_at_call 76;refine zG HWD.out ?_;rintro e w2 ⟨o2,b2,v2,rfl,hv2⟩;obtain rfl:v2=qB tw:=hv2)
  rw[HCAT.out];go_upto_region 6 with fail;have HO2:=hid (HO1.out.trans o2);have HB2:=hid b2;have HG2:=hid (o2.bk HG0.out (Ne.symm HG.out.2));clear o2 b2 HCAT HWD;obtain⟨z,hz⟩:∃z,xI x=z:=⟨_,rfl⟩;obtain⟨er,her⟩:∃z,qW x=z:=⟨_,rfl⟩;have HPA:=hid (λw'=>Parse_f w' xb);rw[<-HXB.out.1]at HPA;have HPA:Hid (∀w',Calls prog 136 #[.string xb] w' (Ret w' (IsT2 (IsI 136 z) (iV er)))):=hid (by have hq:=HPA.out;rw[show(⟨x.toArray⟩:ByteArray).data.toList=x by simp,hz,her,HXB.out.1]at hq;exact hq);rw[hz,her]at HNU;have HNU:Hid (numP s=if 100<x.length\/er≠0 then none else some (z,dw)):=HNU;clear hz her;refine rgs 5 [some 19,some 20,some 18,some 21,some 22] [IsV (.string xb),IsT2 (IsI 136 z) (iV er),IsT2 (IsI 136 z) (iV er),IsI 136 z,iV er] [] ?_ ?_
  · refine Rc (mv (qC 4)) ?_
    refine Rc (cl1 (fQ:=IsT2 (IsI 136 z) (iV er)) (en func136) (qA (fP:=IsV (.string xb)) 0 19) (λx0 w' hE d0=>by{obtain rfl:x0=.string xb:=d0;exact HPA.out w'})) ?_;refine Rc (mv (qA (fP:=IsT2 (IsI 136 z) (iV er)) 1 20)) ?_;refine Rc (ex (fP:=IsT2 (IsI 136 z) (iV er)) (fQ:=IsI 136 z) (qA 2 18) t20) ?_;refine Rc (ex (fP:=IsT2 (IsI 136 z) (iV er)) (fQ:=iV er) (qA 2 18) t21) ?_;exact rn0
  intro u X3 e3 hΦ _;obtain⟨v3,hv3⟩:∃y,u 3=y:=⟨_,rfl⟩;have q3:IsI 136 z v3 X3:=by rw[<-hv3];exact hΦ 3 dcx
  have q4:u 4=.int .i64 er:=hΦ 4 dcx;simp only[lxE,Nat.reduceAdd];rw[hv3,q4];clear hΦ q4 hv3;obtain⟨sg,a,ln,c,rfl,hI⟩:=id q3;have HI3:=hid q3;have HO3:=hid (HO2.out.then e3);have HB3:=hid (HB2.out.ext e3);have HG3:=hid (HG2.out.ext e3);clear q3 hI e3;refine stL (λK hK=>?_);refine jJ (vs:=zInt) al_In (λBn e4=>hK _ _ ?_);obtain⟨g7,hg7⟩:∃g,X3.heap.size=g:=⟨_,rfl⟩;rw[hg7]at Bn ⊢;generalize X3.alloc (.cells zInt.toArray 29)=Y1 at Bn e4 ⊢;clear hK K
  go_simp
  refine stL (λK hK=>?_);refine zE (us:= [.bool sg,.slice a ln c]) Bn st_In rfl rfl nwZI (λX5 B7 O=>hK _ _ ?_);have hw3:w.heap.size<=g7:=by rw[<-hg7];exact HO3.out.size
  have HO5:=hid ((HO3.out.then e4).new O hw3);have hgn:R<g7/\G<g7:=by rw[<-hg7];exact⟨HB3.out.lt,HG3.out.lt⟩
  have HB5:=hid (O.bk (HB3.out.ext e4) ze);have HG5:=hid (O.bk (HG3.out.ext e4) ze);have HI5:=hid (IsI.gstb _ _ _ _ _ O.gr (HI3.out.ext e4));clear hK K O Bn e4 hw3 hgn hg7;by_cases h1:100<m
  · have h2:(100:Int)<(m:Int):=by omega
    have HR:=hid (show numP s=none by rw[HNU.out,HXB.out.2,if_pos (.inl h1)]);clear h1;go_wp2_with fail;rw[HR.out];exact⟨rfl,HO5.out,rfl⟩
  · have h2:¬(100:Int)<(m:Int):=by omega
    by_cases h3:er=0
    · have HR:=hid (show numP s=some (z,dw)by rw[HNU.out,HXB.out.2,if_neg (λh=>h.elim h1 (λh=>h h3))])
      subst h3;clear h1;go_upto_region 9 with fail;refine rgs 1 [some 32] [IsV (.agg #[.bool sg,.slice a ln c])] [] ?_ ?_
      · refine Rc (lvV B7 ld_InV (qC 5)) ?_
        exact rn0
      intro u X6 e6 hΦ _;simp only[lxE];rw[show u 0=.agg #[.bool sg,.slice a ln c]from hΦ 0 dcx];have HO6:=hid (HO5.out.then e6);have HB6:=hid (HB5.out.ext e6);have HG6:=hid (HG5.out.ext e6);have HI6:=hid (HI5.out.ext e6);clear hΦ e6 B7;refine stL (λK hK=>?_);refine zE (us:= [.bool sg,.slice a ln c]) HG6.out st_In rfl rfl nwZI (λX7 B8 O=>hK _ _ ?_);have HO7:=hid (HO6.out.new O (Nat.le_of_eq HG.out.1));have HB7:=hid (O.bk HB6.out HG.out.2);have HI7:=hid (IsI.gstb _ _ _ _ _ O.gr HI6.out);have d0:=B8.c 0 _ rfl;have d1:=B8.c 1 _ rfl;clear hK K O;refine zI ?_;go_wp2_with fail;refine zH (v:=.agg #[.bool sg,.slice a ln c]) (by simp[results,results113,go_sem,d0,d1]) rfl ?_;rw[HR.out];exact⟨HO7.out,HB7.out,_,rfl,HI7.out⟩
    · have h4:(er==0)=false:=by simpa using h3
      have HR:=hid (show numP s=none by rw[HNU.out,if_pos (.inr h3)]);clear h1 h3;go_wp2_with fail;rw[HR.out];exact⟨rfl,HO5.out,rfl⟩
  ):P:=h
theorem number_f{R:Nat}{s:List UInt8}{w:World}(B:Bk w R [qB s])(hl:s.length<=1000000):Calls prog 113 #[.pointer (some ⟨R,0,none⟩)] w (RdP R w IntP (numP s)):=by
  obtain⟨W,hW,E,B0⟩:∃W,W=w.alloc (.cells zInt.toArray 29)/\Ext w W/\Bk W w.heap.size zInt:=zg;unfold zInt at hW;have hR:R≠w.heap.size:=Nat.ne_of_lt B.lt;have BR:=B.ext E;have c0:=BR.c 0 _ rfl;obtain⟨G,hG⟩:∃G,w.heap.size=G:=⟨_,rfl⟩;rw[hG]at B0 hR;have HG:=hid (zL hG hR);have HS:=hid hl;have HP:=hid (hasPre_f W s [45]);obtain⟨p,hp⟩:∃p, [45].isPrefixOf s=p:=⟨_,rfl⟩;rw[hp]at HP;have HP:Hid (Calls prog 112 #[qB s,.string ⟨#[45]⟩] W (RSame W (.bool p))):=HP;have HB0:=hid B0;have HE:=hid E;have HBR:=hid BR;have HPP:=hid hp;clear B hR hG hl B0 BR E hp;cases p with
  | false=>
    have HM:=hid (show xE s= []by rw[xE,HPP.out];rfl);go_enter func113,ntmps113;go_upto_region 1 with fail;rw[HG.out.1,<-hW];clear hW;go_upto_region 5 with(go_at_call 112;refine zG HP.out ?_;rintro e w1 ⟨rfl,rfl⟩);have HO1:=hid (show Ob R w W from Ob.of HE.out);have HB1:=hid HBR.out;have HG0:=hid HB0.out;have HMM:=hid (show([]:List UInt8)=xE s/\s=s.drop (xE s).length from⟨HM.out.symm,by rw[HM.out];rfl⟩);clear HP c0;have HWD:=hid (word_f HB1.out (by have:=HS.out;exact this));obtain⟨tw,htw⟩:∃y,(s).takeWhile qH=y:=⟨_,rfl⟩;obtain⟨dw,hdw⟩:∃y,(s).dropWhile qH=y:=⟨_,rfl⟩
    have HTW:=hid (show tw.length<=1000000 by
      rw[<-htw];have h1:=(List.takeWhile_prefix (p:=qH) (l:=s)).length_le;have:=HS.out;have h2:(s).length<=s.length:=by exact zN _
      omega)
    have HNU:numP s=if 100<([]++tw).length\/qW ([]++tw)≠0 then none else some (xI ([]++tw),dw):=by
      rw[numP,<-HMM.out.2,<-HMM.out.1,htw,hdw]
    rw[htw,hdw]at HWD;have HWD:Hid (Calls prog 76 #[.pointer (some ⟨R,0,none⟩)] W (RdP R W (λ(x:List UInt8) v _=>v=qB x) (some (tw,dw)))):=HWD;replace HNU:=hid HNU;clear htw hdw;obtain⟨x,hx⟩:∃y, []++tw=y:=⟨_,rfl⟩;have hcat:=cat_bin (P:=prog) [] tw 9 (by have:=HTW.out;simp;omega);rw[hx]at HNU hcat;have HXL:=hid (show x.length<=1000001 by rw[<-hx];have:=HTW.out;simp;omega);obtain⟨xb,hxb⟩:∃y,(⟨x.toArray⟩:ByteArray)=y:=⟨_,rfl⟩;obtain⟨m,hm⟩:∃m,x.length=m:=⟨_,rfl⟩;have hsz:xb.size=m:=by rw[<-hxb,<-hm];rfl
    have hcat2:∀w',(binOp .add 9 (.string ⟨#[]⟩) (qB tw)).run prog w'=.ok (.string xb) w':=λw'=>by rw[<-hxb];exact hcat w'
    exact tNnu_1
  | true=>
    have HM:=hid (show xE s= [45]/\qG [45] s=some (s.drop 1)from⟨by rw[xE,if_pos HPP.out],by rw[qG,if_pos HPP.out];rfl⟩);have HTK:=hid (jZ (x:= [45]) HBR.out);rw[HM.out.2]at HTK;have HTK:Hid (Calls prog 77 #[.pointer (some ⟨R,0,none⟩),.string ⟨#[45]⟩] W (RdP R W UnitP (some ((),s.drop 1)))):=HTK;go_enter func113,ntmps113;go_upto_region 1 with fail;rw[HG.out.1,<-hW];clear hW;go_upto_region 5 with(first| (go_at_call 112;refine zG HP.out ?_;rintro e w1 ⟨rfl,rfl⟩)| (go_at_call 77;refine zG HTK.out ?_;rintro e w1 ⟨o1,b1,v1,rfl,hv1⟩;obtain rfl:v1=.tuple #[]:=hv1));have HO1:=hid (show Ob R w w1 from(Ob.of HE.out).trans o1);have HB1:=hid b1;have HG0:=hid (show Bk w1 G zInt from o1.bk HB0.out (Ne.symm HG.out.2));have HMM:=hid (show [45]=xE s/\s.drop 1=s.drop (xE s).length from⟨HM.out.1.symm,by rw[HM.out.1];rfl⟩);clear o1 b1 HTK HP c0;have HWD:=hid (word_f HB1.out zaa);obtain⟨tw,htw⟩:∃y,(s.drop 1).takeWhile qH=y:=⟨_,rfl⟩;obtain⟨dw,hdw⟩:∃y,(s.drop 1).dropWhile qH=y:=⟨_,rfl⟩
    have HTW:=hid (show tw.length<=1000000 by
      rw[<-htw];have h1:=(List.takeWhile_prefix (p:=qH) (l:=s.drop 1)).length_le;have:=HS.out;have h2:(s.drop 1).length<=s.length:=zo
      omega)
    have HNU:numP s=if 100<([45]++tw).length\/qW ([45]++tw)≠0 then none else some (xI ([45]++tw),dw):=by
      rw[numP,<-HMM.out.2,<-HMM.out.1,htw,hdw]
    rw[htw,hdw]at HWD;have HWD:Hid (Calls prog 76 #[.pointer (some ⟨R,0,none⟩)] w1 (RdP R w1 (λ(x:List UInt8) v _=>v=qB x) (some (tw,dw)))):=HWD;replace HNU:=hid HNU;clear htw hdw;obtain⟨x,hx⟩:∃y, [45]++tw=y:=⟨_,rfl⟩;have hcat:=cat_bin (P:=prog) [45] tw 9 (by have:=HTW.out;simp;omega);rw[hx]at HNU hcat;have HXL:=hid (show x.length<=1000001 by rw[<-hx];have:=HTW.out;simp;omega);obtain⟨xb,hxb⟩:∃y,(⟨x.toArray⟩:ByteArray)=y:=⟨_,rfl⟩;obtain⟨m,hm⟩:∃m,x.length=m:=⟨_,rfl⟩;have hsz:xb.size=m:=by rw[<-hxb,<-hm];rfl
    have hcat2:∀w',(binOp .add 9 (.string ⟨#[45]⟩) (qB tw)).run prog w'=.ok (.string xb) w':=λw'=>by rw[<-hxb];exact hcat w'
    exact tNnu_1
end
end Go.Proofs.YtenhciieboegbaaGreatDoor
