/-
  The laws' helpers: what is printed, what is parsed.
  The reference: when expressions, and lists of cells, are the same. (Printed by wip/gen/nsn.py.)
  When lists of cells, and of texts, are the same. (Printed by wip/gen/nsa.py.)
-/
import Derived.Test.YtenhciieboegbaaGreatDoorNpa
namespace Go.Proofs.YtenhciieboegbaaGreatDoor
open Go Go.RowKit
open Go.Proofs.Tryz
theorem je{P:Prop}(h:P:=by exact mv (qC (x:=.int .i64 (i:Int)) 5)):P:=h
theorem yc{P:Prop}(h:P:=by simpa using h2):P:=h
theorem yj{P:Prop}(h:P:=by simpa using h1):P:=h
theorem ym{P:Prop}(h:P:=by exact lv (fP:=IsV (.string sb')) _ (λw' e=>qP w' _ _ ((S.out.1.trans e).cell HC0.out.2)) (qA 8 25) (λ_ _=>rfl)):P:=h
theorem yo{P:Prop}(h:P:=by exact lv (fP:=IsV (.string sb)) _ (λw' e=>qP w' _ _ ((S.out.1.trans e).cell HC0.out.1)) (qA 3 20) (λ_ _=>rfl)):P:=h
def IsTx(s:List UInt8)(z:Int):Value->World->Prop:=λv _=>v=.agg #[qB s,.int .i64 z]
def IsPa(B:Nat)(l:List Cl)(z:Int):Value->World->Prop:=λv w=>∃u,v=.agg #[u,.int .i64 z]/\IsCs B l u w
theorem IsPa.stb(B:Nat)(l:List Cl)(z:Int):Stb (IsPa B l z):=λ_ _ _ e ⟨u,h1,h2⟩=>⟨u,h1,h2.ext e⟩
instance (B:Nat) (l:List Cl) (z:Int):StbC (IsPa B l z):=⟨IsPa.stb B l z⟩
section
set_option maxRecDepth 100000
set_option maxHeartbeats 4000000
theorem printed_f{l:List Cl}{v:Value}{w:World}(hl:IsCs 0 l v w)(hn:l.length<=1000000)(hm:NmOk l)(ht:Tab w):Calls prog 14 #[v] w (Ret w (IsTx (prS l) (prE l))):=by
  obtain⟨W,hW,E⟩:∃W,W=w.alloc (.cells #[.string ⟨#[]⟩,.int .i64 0] 40)/\Ext w W:=⟨_,rfl,(Ext.refl w).alloc _⟩;obtain⟨pb,hpb⟩:∃y,(⟨(prS l).toArray⟩:ByteArray)=y:=⟨_,rfl⟩;obtain⟨pe,hpe⟩:∃y,prE l=y:=⟨_,rfl⟩;have B:=Bk.new w #[.string ⟨#[]⟩,.int .i64 0] 40;rw[<-hW]at B;have HPR:=hid (print_f (hl.ext E) hn hm (ht.ext E));unfold PrP at HPR;rw[show qB (prS l)=.string pb by rw[qB,hpb],hpe]at HPR;have HB:=hid B;have HE:=hid E;have HPB:=hid (zL hpb hpe);clear hl hn hm ht hpb hpe B E;go_enter func14,ntmps14;go_upto_region 1 with fail;rw[<-hW];clear hW;go_upto_region 2 with(go_at_call 37;refine zG HPR.out ?_;rintro e w1 ⟨rfl,e1⟩);have c0:=(HB.out.ext e1).c 0 _ rfl;have c1:=(HB.out.ext e1).c 1 _ rfl;have f0:=(HB.out.ext e1).f 0;have f1:=(HB.out.ext e1).f 1;have E1:=hid (HE.out.trans e1);clear e1 HPR;go_wp2_with fail;refine zH (v:=.agg #[.string pb,.int .i64 pe]) (by simp[results,results14,go_sem,c0,c1]) rfl ?_;exact⟨_,rfl,(E1.out.set (zN _) _).set (zN _) _,by rw[IsTx,qB,HPB.out.1,HPB.out.2]⟩
theorem parsed_f{s:List UInt8}{w:World}(hl:s.length<=4611686018427387904)(ht:Tab w):Calls prog 19 #[qB s] w (Ret w (IsPa w.heap.size (paE s).1 (paE s).2)):=by
  obtain⟨W,hW,E⟩:∃W,W=w.alloc (.cells #[.slice none 0 0,.int .i64 0] 47)/\Ext w W:=⟨_,rfl,(Ext.refl w).alloc _⟩;obtain⟨x,hx⟩:∃x,qB s=x:=⟨_,rfl⟩;obtain⟨pe,hpe⟩:∃y,(paE s).2=y:=⟨_,rfl⟩;have B:=Bk.new w #[.slice none 0 0,.int .i64 0] 47;rw[<-hW]at B;have HPR:=hid (ParseN_f hl (ht.ext E));unfold PaR at HPR;rw[hx,hpe]at HPR;rw[hx];have HB:=hid B;have HE:=hid E;have HPB:=hid (zL hx hpe);clear hl ht hpe hx B E;go_enter func19,ntmps19;go_upto_region 1 with fail;rw[<-hW];clear hW;go_upto_region 2 with(go_at_call 40;refine zG HPR.out ?_;rintro e w1 ⟨e1,u,rfl,hu⟩;obtain⟨ao,n,c,rfl⟩:∃ao n c,u=.slice ao n c:=let ⟨ao,c,h,_⟩:=hu;⟨ao,_,c,h⟩;have hu:=hid hu);have B1:=HB.out.ext e1;have c0:=B1.c 0 _ rfl;have c1:=B1.c 1 _ rfl;have f0:=B1.f 0;have f1:=B1.f 1;have E1:=hid (HE.out.trans e1);have HB1:=hid B1;clear e1 HPR B1;go_wp2_with fail;refine zH (v:=.agg #[.slice ao n c,.int .i64 pe]) (by simp[results,results19,go_sem,c0,c1]) rfl ?_;obtain⟨O1,B2⟩:=HB1.out.setO 0 zo (.slice ao n c) (nwSl _ _ _);obtain⟨O2,-⟩:=B2.setO 1 zo (.int .i64 pe) (NoWord.int64 _);have hlt:w.heap.size<W.heap.size:=HB.out.lt;exact⟨_,rfl,(E1.out.set (zN _) _).set (zN _) _,_,by rw[HPB.out.2],((hu.out.ob (Ob.only O1) hlt).ob (Ob.only O2) hlt).low (Nat.le_of_lt hlt)⟩
end
theorem Nd.ind{P:Nd->Prop}(h:∀op nm n v lo hi ps,(∀a∈ps,P a)->P (.mk op nm n v lo hi ps)):∀x,P x
  | .mk op nm n v lo hi ps=>h op nm n v lo hi ps λa _=>Nd.ind h a
mutual
def eqN:Nd->Nd->Bool
  | .mk o s n v l h ps,.mk o' s' n' v' l' h' ps'=>decide (o=o')&&(decide (s=s')&&(decide (n=n')&&(decide (v=v')&&(decide (l=l')&&(decide (h=h')&&(decide (ps.length=ps'.length)&&eqL ps ps'))))))
def eqL:List Nd->List Nd->Bool
  |a ::s,b ::t=>eqN a b&&eqL s t
  |_,_=>true
end
theorem eqL_cons(a b:Nd)(s t:List Nd):eqL (a ::s) (b ::t)=(eqN a b&&eqL s t):=by rw[eqL]
theorem eqL_nil(t:List Nd):eqL [] t=true:=by cases t <;> rw[eqL] <;> simp
theorem tNsa_5{P:Prop}(h:P:=by
  constructor
  ·rintro⟨h1,h2,h3⟩;exact⟨h2,ih.1 ⟨h1,h3⟩⟩
  ·rintro⟨h1,h2⟩;exact⟨(ih.2 h2).1,h1,(ih.2 h2).2⟩
  ):P:=h
theorem eqL_iff:∀(l:List Nd),(∀a∈l,∀b,eqN a b=true↔a=b)->∀t:List Nd,(decide (l.length=t.length)&&eqL l t)=true↔l=t
  | [],_,t=>by rw[eqL_nil];cases t <;> simp
  |a ::s,h, []=>by simp
  | a ::s,h,b ::t=>by
    have ih:=eqL_iff s (λc hc=>h c (by simp[hc])) t;have ha:=h a zo b;rw[eqL_cons];simp only[Bool.and_eq_true,zS,List.length_cons,Nat.add_right_cancel_iff,List.cons.injEq]at ih ⊢;rw[ha];exact tNsa_5
theorem eqN_iff:∀x y:Nd,eqN x y=true↔x=y:=Nd.ind λo s n v l h ps ih=>by
  rintro⟨o',s',n',v',l',h',ps'⟩;rw[eqN];have hi:=eqL_iff ps ih ps';simp only[Bool.and_eq_true,zS,Nd.mk.injEq]at hi ⊢;rw[hi]
theorem eqN_dec(x y:Nd)[Decidable (x=y)]:eqN x y=decide (x=y):=by rw[Bool.eq_iff_iff,eqN_iff];simp
theorem eqL_take:∀(s t:List Nd) (i:Nat) (a b:Nd),s[i]? =some a->t[i]? =some b->eqL (s.take i) (t.take i)=true->eqN a b=true->eqL (s.take (i+1)) (t.take (i+1))=true
  | x ::s,y ::t,0,a,b,h1,h2,_,h4=>by
    obtain rfl:x=a:=yj
    obtain rfl:y=b:=yc
    simp[eqL_cons,h4,eqL_nil]
  | x ::s,y ::t,i+1,a,b,h1,h2,h3,h4=>by
    simp only[List.take_succ_cons,eqL_cons,Bool.and_eq_true]at h3 ⊢;exact⟨h3.1,eqL_take s t i a b yj yc h3.2 h4⟩
  | [],_,_,_,_,h1,_,_,_=>by simp at h1
  |_ ::_, [],_,_,_,_,h2,_,_=>by simp at h2
theorem eqL_no:∀(s t:List Nd) (i:Nat) (a b:Nd),s[i]? =some a->t[i]? =some b->eqN a b=false->eqL s t=false
  | x ::s,y ::t,0,a,b,h1,h2,h4=>by
    obtain rfl:x=a:=yj
    obtain rfl:y=b:=yc
    rw[eqL_cons,h4];rfl
  | x ::s,y ::t,i+1,a,b,h1,h2,h4=>by
    rw[eqL_cons,eqL_no s t i a b (by simpa using h1) (by simpa using h2) h4,Bool.and_false]
  | [],_,_,_,_,h1,_,_=>by simp at h1
  |_ ::_, [],_,_,_,_,h2,_=>by simp at h2
theorem nd_two_blocks(w:World)(us vs:List Value):∃W,W=(w.alloc (.cells us.toArray 32)).alloc (.cells vs.toArray 32)/\Ext w W/\Bk W w.heap.size us/\Bk W (w.heap.size+1) vs:=
  ⟨_,rfl,((Ext.refl w).alloc _).alloc _,(by simpa using(Bk.new w us.toArray 32).ext ((Ext.refl _).alloc (.cells vs.toArray 32))),(by simpa using Bk.newE (w.alloc (.cells us.toArray 32)) (w.heap.size+1) zo vs.toArray 32)⟩
section
set_option maxRecDepth 100000
set_option maxHeartbeats 16000000
theorem tNsa_1{P:Prop}(h:P:=by
  clear hn;go_wp2_with (go_at_call 48;refine zG HSM.out ?_;rintro e w1 ⟨u1,rfl,e1,hu1⟩;obtain rfl:u1=.bool (decide (v=v')):=hu1;rw[hvd];have j5:=(HB2.out.ext e1).c 5 _ rfl;have j6:=(HB2.out.ext e1).c 6 _ rfl;have j7:=(HB2.out.ext e1).c 7 _ rfl;have m5:=(HB3.out.ext e1).c 5 _ rfl;have m6:=(HB3.out.ext e1).c 6 _ rfl;have m7:=(HB3.out.ext e1).c 7 _ rfl)
  go_ret
  exact⟨_,rfl,HE.out.trans e1,by rw[eqN];simp[HN.out,HVV.out];rfl⟩
  ):P:=h
theorem tNsa_2{P:Prop}(h:P:=by
  have HN:=hid hn;clear hn;go_wp2_with fail
  go_ret
  exact⟨_,rfl,HE.out,by rw[eqN];simp[HN.out];rfl⟩
  ):P:=h
theorem tNsa_3{P:Prop}(h:P:=by
  go_wp2_with fail
  go_roundg (gk-1)
  case measure=>have:=HG.out;omega
  case rel=>exact⟨i+1,rfl,by have:=HG.out;omega,hid ⟨E4.out,HT.out⟩⟩
  ):P:=h
theorem SameNode_f:∀ (x y:Nd) (B B':Nat) (us vs:List Value) (w:World),NdC B w x us->NdC B' w y vs->Calls prog 25 #[.agg us.toArray,.agg vs.toArray] w (Ret w (IsV (.bool (eqN x y)))):=Nd.ind λop nm n v lo hi ps IH=>by
  rintro⟨op',nm',n',v',lo',hi',ps'⟩ B B' us vs w hx hy;have HIH:=hid IH;have HX0:=hid hx;have HY0:=hid hy;obtain⟨s,a,m,c,ao,cp,rfl,hI,hlp,hcp,hP⟩:=hx.out;obtain⟨s',a',m',c',ao',cp',rfl,hI',hlp',hcp',hP'⟩:=hy.out;simp only[Nd.op,Nd.nm,Nd.n,Nd.v,Nd.lo,Nd.hi,Nd.ps]at*;obtain⟨W,hW,E,B2,B3⟩:=nd_two_blocks w [.int .i64 op,qB nm,.int .i64 n,.bool s,.slice a m c,.int .i64 lo,.int .i64 hi,.slice ao ps.length cp] [.int .i64 op',qB nm',.int .i64 n',.bool s',.slice a' m' c',.int .i64 lo',.int .i64 hi',.slice ao' ps'.length cp'];obtain⟨l,hl⟩:∃l,ps.length=l:=⟨_,rfl⟩;obtain⟨l',hl'⟩:∃l',ps'.length=l':=⟨_,rfl⟩;obtain⟨sb,hsb⟩:∃y,(⟨nm.toArray⟩:ByteArray)=y:=⟨_,rfl⟩;obtain⟨sb',hsb'⟩:∃y,(⟨nm'.toArray⟩:ByteArray)=y:=⟨_,rfl⟩;have HSM:=hid (Same_f (IsI.gstb _ _ _ _ _ E.gr hI) (IsI.gstb _ _ _ _ _ E.gr hI') dcx);have hse:qB nm=.string sb:=xl
  have hse':qB nm'=.string sb':=by rw[qB,hsb']
  simp only[hse,hse',hl,hl']at hW B2 B3 ⊢;have HL:=hid (zL (zL hl hl') (zL (zL hlp hcp) (zL hlp' hcp')));have HP:=hid (zL hP hP');have HSB:=hid (zL hsb hsb');have HE:=hid E;have HB2:=hid B2;have HB3:=hid B3;have g0:=B2.c 0 _ rfl;have g1:=B2.c 1 _ rfl;have g2:=B2.c 2 _ rfl;have g3:=B2.c 3 _ rfl;have g4:=B2.c 4 _ rfl;have g5:=B2.c 5 _ rfl;have g6:=B2.c 6 _ rfl;have g7:=B2.c 7 _ rfl;have k0:=B3.c 0 _ rfl;have k1:=B3.c 1 _ rfl;have k2:=B3.c 2 _ rfl;have k3:=B3.c 3 _ rfl;have k4:=B3.c 4 _ rfl;have k5:=B3.c 5 _ rfl;have k6:=B3.c 6 _ rfl;have k7:=B3.c 7 _ rfl;clear IH hx hy hI hI' hlp hcp hlp' hcp' hP hP' hl hl' hsb hsb' hse hse' E B2 B3;go_enter func25,ntmps25;go_upto_region 1 with fail
  try simp only[Nat.add_zero]
  rw[<-hW];clear hW;by_cases hn:op=op'
  · subst hn
    by_cases hn:nm=nm'
    · subst hn
      obtain rfl:sb=sb':=HSB.out.1.symm.trans HSB.out.2;by_cases hn:n=n'
      · subst hn
        by_cases hn:v=v'
        · have hvd:decide (v=v')=true:=decide_eq_true hn
          have HVV:=hid hn;clear hn;by_cases hn:lo=lo'
          · subst hn
            by_cases hn:hi=hi'
            · subst hn
              by_cases hn:l=l'
              · subst hn
                go_upto_region 3 with(go_at_call 48;refine zG HSM.out ?_;rintro e w1 ⟨u1,rfl,e1,hu1⟩;obtain rfl:u1=.bool (decide (v=v')):=hu1;rw[hvd];have j5:=(HB2.out.ext e1).c 5 _ rfl;have j6:=(HB2.out.ext e1).c 6 _ rfl;have j7:=(HB2.out.ext e1).c 7 _ rfl;have m5:=(HB3.out.ext e1).c 5 _ rfl;have m6:=(HB3.out.ext e1).c 6 _ rfl;have m7:=(HB3.out.ext e1).c 7 _ rfl);have E1:=hid (HE.out.trans e1);have HC2:=hid (HB2.out.ext e1);have HC3:=hid (HB3.out.ext e1);clear g0 g1 g2 g3 g4 g5 g6 g7 k0 k1 k2 k3 k4 k5 k6 k7 j5 j6 m5 m6 m7 e1 HSM hvd HB2 HB3;go_wp2_with fail
                go_loopg [5] l (λgk v5 wr=>∃i:Nat,v5=.int .i64 (i:Int)/\i+gk=l/\Hid (Ext w1 wr/\eqL (ps.take i) (ps'.take i)=true))
                case atStart=>exact⟨0,rfl,by omega,hid ⟨Ext.refl _,by simp[eqL_nil]⟩⟩
                case round=>
                  obtain⟨i,rfl,hg,S⟩:=hrel;have HRES:=hid (show eqN (.mk op nm n v lo hi ps) (.mk op nm n v' lo hi ps')=eqL ps ps' by rw[eqN];simp[HVV.out,HL.out.1.1,HL.out.1.2]);have q2:=(HC2.out.ext S.out.1).c 7 _ rfl;by_cases hi2:i<l
                  · have hil:(i:Int)<(l:Int):=by omega
                    have hiw:IntKind.i64.wrap ((i:Int)+1)=((i+1:Nat):Int):=by have:=HL.out.2;have:=HL.out.1;simp only[IntKind.wrap_i64];omega
                    obtain⟨y,hy⟩:∃y,ps[i]? =some y:=⟨_,List.getElem?_eq_getElem (by rw[HL.out.1.1];exact hi2)⟩;obtain⟨z,hz⟩:∃z,ps'[i]? =some z:=⟨_,List.getElem?_eq_getElem (by rw[HL.out.1.2];exact hi2)⟩;obtain⟨g,o,rfl,-,hR⟩:=HP.out.1 (λe=>by rw[e]at hy;cases hy);obtain⟨g',o',rfl,-,hR'⟩:=HP.out.2 (λe=>by rw[e]at hz;cases hz);obtain⟨us,hl8,hcs,hy2⟩:=hR.get hy;obtain⟨vs,hl9,hds,hz2⟩:=hR'.get hz;have HG:=hid (zL hg hi2);have HC:=hid (zL (zL hl8 hcs) (zL hl9 hds));have HY:=hid (zL hy2 hz2);have HI:=hid (zL hy hz);have ER:=hid (E1.out.trans S.out.1);have HCC:=hid (HIH.out y (List.mem_of_getElem? hy) z B B' us vs);obtain⟨q,hq⟩:∃q,eqN y z=q:=⟨_,rfl⟩;rw[hq]at HCC;have HQ:=hid hq;have HCC:Hid (∀w',NdC B w' y us->NdC B' w' z vs->Calls prog 25 #[.agg us.toArray,.agg vs.toArray] w' (Ret w' (IsV (.bool q)))):=HCC;clear hg hi2 hR hR' hl8 hcs hy2 hy hl9 hds hz2 hz hq;go_upto_region 6 with fail;clear q2;refine rg 12 (dR 63 12) [IsP (w.heap.size) 7,IsV (.slice (some ⟨g,o,none⟩) l cp),iV (i:Int),IsP g (o+8*i),IsV (.agg us.toArray),IsP (w.heap.size+1) 7,IsV (.slice (some ⟨g',o',none⟩) l cp'),iV (i:Int),IsP g' (o'+8*i),IsV (.agg vs.toArray),IsV (.bool q),IsV (.bool (!q))] [] 0 ?_ ?_
                    · refine Rc (fa (qN w.heap.size) (qC 2)) ?_
                      refine Rc (lvC 7 (HC2.out.ext S.out.1) qQ (qA 0 63)) ?_;refine Rc je ?_;refine Rc (ixq (xC g o cp l i HG.out.2) (qA 1 64) (qA (fP:=iV (i:Int)) 2 65)) ?_;refine Rc (lv (fP:=IsV (.agg us.toArray)) _ (λw' e=>ldM zc zc HC.out.1.1 (λj v hj=>(ER.out.trans e).cell (HC.out.1.2 j v hj))) (qA 3 66) (λ_ _=>rfl)) ?_;refine Rc (fa (qN (w.heap.size+1)) (qC 3)) ?_;refine Rc (lvC 7 (HC3.out.ext S.out.1) qQ (qA 5 68)) ?_;refine Rc je ?_;refine Rc (ixq (xC g' o' cp' l i HG.out.2) (qA 6 69) (qA (fP:=iV (i:Int)) 7 70)) ?_;refine Rc (lv (fP:=IsV (.agg vs.toArray)) _ (λw' e=>ldM zc zc HC.out.2.1 (λj v hj=>(ER.out.trans e).cell (HC.out.2.2 j v hj))) (qA 8 71) (λ_ _=>rfl)) ?_;refine Rc (cl2 (fP:=IsV (.agg us.toArray)) (fR:=IsV (.agg vs.toArray)) (fQ:=IsV (.bool q)) (en func25) (qA 4 67) (qA 9 72) (λx0 y0 w' hE d0 d1=>by{obtain rfl:x0=.agg us.toArray:=d0;obtain rfl:y0=.agg vs.toArray:=d1;exact HCC.out w' (HY.out.1.ext (ER.out.trans hE)) (HY.out.2.ext (ER.out.trans hE))})) ?_;refine Rc (un (p:=.bool q) (r:=.bool (!q)) (qA 10 73) rfl (λw=>by go_simp)) ?_;exact rn0
                    intro u X4 e4 hΦ _;simp only[lxE,Nat.reduceAdd];rw[show u 11=.bool (!q)from hΦ 11 dcx];have E4:=hid (S.out.1.trans e4);have S2:=hid S.out.2;clear hΦ S e4;refine zP zc ?_ _;cases q with
                    | true=>
                      have HT:=hid (eqL_take ps ps' i y z HI.out.1 HI.out.2 S2.out HQ.out);exact tNsa_3
                    | false=>
                      have HT:=hid (eqL_no ps ps' i y z HI.out.1 HI.out.2 HQ.out);go_wp2_with fail
                      go_ret
                      exact⟨_,rfl,E1.out.trans E4.out,by rw[HRES.out,HT.out];rfl⟩
                  · have hil:¬((i:Int)<(l:Int)):=by omega
                    have HT:=hid (show eqL ps ps'=true by have:=S.out.2;rwa [List.take_of_length_le (by rw[HL.out.1.1];omega),List.take_of_length_le (by rw[HL.out.1.2];omega)]at this);have E4:=hid S.out.1;clear S hg hi2;go_wp2_with fail
                    go_ret
                    exact⟨_,rfl,E1.out.trans E4.out,by rw[HRES.out,HT.out];rfl⟩
              · have hq:((l:Int) !=(l':Int))=true:=by simp;omega
                have HN:=hid (show ¬ps.length=ps'.length by rw[HL.out.1.1,HL.out.1.2];exact hn);exact tNsa_1
            · have hq:(hi !=hi')=true:=by simpa using hn
              have HN:=hid hn;exact tNsa_1
          · have hq:(lo !=lo')=true:=by simpa using hn
            have HN:=hid hn;exact tNsa_1
        · have hvd:decide (v=v')=false:=decide_eq_false hn
          have HN:=hid hn;clear hn;go_wp2_with (go_at_call 48;refine zG HSM.out ?_;rintro e w1 ⟨u1,rfl,e1,hu1⟩;obtain rfl:u1=.bool (decide (v=v')):=hu1;rw[hvd];have j5:=(HB2.out.ext e1).c 5 _ rfl;have j6:=(HB2.out.ext e1).c 6 _ rfl;have j7:=(HB2.out.ext e1).c 7 _ rfl;have m5:=(HB3.out.ext e1).c 5 _ rfl;have m6:=(HB3.out.ext e1).c 6 _ rfl;have m7:=(HB3.out.ext e1).c 7 _ rfl)
          go_ret
          exact⟨_,rfl,HE.out.trans e1,by rw[eqN];simp[HN.out];rfl⟩
      · have hq:(n !=n')=true:=by simpa using hn
        exact tNsa_2
    · have hq:¬sb.toList=sb'.toList:=λh=>hn (by have q:=jM nm nm';rw[HSB.out.1,HSB.out.2,h,beq_self_eq_true]at q;exact of_decide_eq_true q.symm)
      exact tNsa_2
  · have hq:(op !=op')=true:=by simpa using hn
    exact tNsa_2
end
def eqCs:List Cl->List Cl->Bool
  |a ::s,b ::t=>(decide (a.nm=b.nm)&&eqN a.e b.e)&&eqCs s t
  |_,_=>true
def sameB(s t:List Cl):Bool:=decide (s.length=t.length)&&eqCs s t
theorem sameB_iff:∀s t:List Cl,sameB s t=true↔s=t
  | [],t=>by cases t <;> simp[sameB,eqCs]
  |a ::s, []=>by simp[sameB]
  | a ::s,b ::t=>by
    have ih:=sameB_iff s t;obtain⟨n,e⟩:=a;obtain⟨n',e'⟩:=b;simp only[sameB,eqCs,Bool.and_eq_true,zS,List.length_cons,Nat.add_right_cancel_iff,List.cons.injEq,Cl.mk.injEq,eqN_iff]at ih ⊢;exact tNsa_5
theorem eqCs_take:∀(s t:List Cl) (i:Nat) (a b:Cl),s[i]? =some a->t[i]? =some b->eqCs (s.take i) (t.take i)=true->a.nm=b.nm->eqN a.e b.e=true->eqCs (s.take (i+1)) (t.take (i+1))=true
  | x ::s,y ::t,0,a,b,h1,h2,_,h4,h5=>by
    obtain rfl:x=a:=yj
    obtain rfl:y=b:=yc
    simp[eqCs,h4,h5]
  | x ::s,y ::t,i+1,a,b,h1,h2,h3,h4,h5=>by
    simp only[List.take_succ_cons,eqCs,Bool.and_eq_true]at h3 ⊢;exact⟨h3.1,by simpa using eqCs_take s t i a b yj yc h3.2 h4 h5⟩
  | [],_,_,_,_,h1,_,_,_,_=>by simp at h1
  |_ ::_, [],_,_,_,_,h2,_,_,_=>by simp at h2
theorem eqCs_no:∀(s t:List Cl) (i:Nat) (a b:Cl),s[i]? =some a->t[i]? =some b->(a.nm=b.nm->eqN a.e b.e=false)->eqCs s t=false
  | x ::s,y ::t,0,a,b,h1,h2,h4=>by
    obtain rfl:x=a:=yj
    obtain rfl:y=b:=yc
    rw[eqCs];by_cases h:x.nm=y.nm
    ·rw[h4 h];simp
    ·simp[h]
  | x ::s,y ::t,i+1,a,b,h1,h2,h4=>by
    rw[eqCs,eqCs_no s t i a b (by simpa using h1) (by simpa using h2) h4,Bool.and_false]
  | [],_,_,_,_,h1,_,_=>by simp at h1
  |_ ::_, [],_,_,_,_,h2,_=>by simp at h2
section
set_option maxRecDepth 100000
set_option maxHeartbeats 16000000
theorem tNsa_4{P:Prop}(h:P:=by
  go_wp2_with fail
  go_ret
  exact⟨_,rfl,E4.out,by rw[HRES.out,HT.out];rfl⟩
  ):P:=h
theorem Same42_f{l l':List Cl}{u v:Value}{w:World}(hu:IsCs 0 l u w)(hv:IsCs 0 l' v w)(hl:l.length<=1000000000):Calls prog 21 #[u,v] w (Ret w (IsV (.bool (sameB l l')))):=by
  obtain⟨n,hn⟩:∃n,l.length=n:=⟨_,rfl⟩;obtain⟨m,hm⟩:∃n,l'.length=n:=⟨_,rfl⟩;obtain⟨ao,cp,h1,-⟩:=id hu;obtain⟨ao',cp',h2,-⟩:=id hv;rw[hn]at h1;rw[hm]at h2;have HU:=hid hu;have HV:=hid hv;have HN:=hid (zL (zL hn hm) hl);by_cases he:n=m
  · subst he
    subst h1 h2;clear hu hv hn hm hl;go_enter func21,ntmps21;go_wp2_with fail
    go_loopg [5] n (λgk v5 wr=>∃i:Nat,v5=.int .i64 (i:Int)/\i+gk=n/\Hid (Ext w wr/\eqCs (l.take i) (l'.take i)=true))
    case atStart=>exact⟨0,rfl,by omega,hid ⟨Ext.refl _,by simp[eqCs]⟩⟩
    case round=>
      obtain⟨i,rfl,hg,S⟩:=hrel;have HRES:=hid (show sameB l l'=eqCs l l' by rw[sameB,HN.out.1.1,HN.out.1.2];simp);by_cases hi2:i<n
      · have hil:(i:Int)<(n:Int):=by omega
        have hiw:IntKind.i64.wrap ((i:Int)+1)=((i+1:Nat):Int):=zy
        obtain⟨y,hy⟩:∃y,l[i]? =some y:=⟨_,List.getElem?_eq_getElem (by rw[HN.out.1.1];exact hi2)⟩;obtain⟨z,hz⟩:∃z,l'[i]? =some z:=⟨_,List.getElem?_eq_getElem (by rw[HN.out.1.2];exact hi2)⟩;obtain⟨g,o,c1,us,e1,-,hl8,hcs,hy2⟩:=HU.out.get hy;obtain⟨g',o',c2,vs,e2,-,hl9,hds,hz2⟩:=HV.out.get hz;obtain⟨rfl,-,rfl⟩:ao=some ⟨g,o,none⟩/\n=l.length/\cp=c1:=by injection e1 with q1 q2 q3;exact⟨q1,q2,q3⟩
        obtain⟨rfl,-,rfl⟩:ao'=some ⟨g',o',none⟩/\n=l'.length/\cp'=c2:=by injection e2 with q1 q2 q3;exact⟨q1,q2,q3⟩
        obtain⟨sb,hsb⟩:∃y',(⟨y.nm.toArray⟩:ByteArray)=y':=⟨_,rfl⟩;obtain⟨sb',hsb'⟩:∃y',(⟨z.nm.toArray⟩:ByteArray)=y':=⟨_,rfl⟩;have HC0:=hid (zL (show World.cell? w ⟨g,o+9*i,none⟩=some (.string sb)by rw[<-hsb];exact hcs 0 _ rfl) (show World.cell? w ⟨g',o'+9*i,none⟩=some (.string sb')by rw[<-hsb'];exact hds 0 _ rfl));have HSB:=hid (zL hsb hsb');have HG:=hid (zL hg hi2);have HC:=hid (zL (zL hl8 hcs) (zL hl9 hds));have HY:=hid (zL hy2 hz2);have HI:=hid (zL hy hz);have HCC:=hid (λw'=>SameNode_f y.e z.e 0 0 us vs w');obtain⟨q,hq⟩:∃q,eqN y.e z.e=q:=⟨_,rfl⟩;rw[hq]at HCC;have HQ:=hid hq;obtain⟨r,hr⟩:∃r:Bool,(!decide (y.nm=z.nm))=r:=⟨_,rfl⟩;have HR:=hid hr
        have hbn:∀w',Sem.run prog (do eqGuard .neq 9 (.tmp 21) (.tmp 26) (.string sb) (.string sb');binOp .neq 9 (.string sb) (.string sb')) w'=.ok (.bool r) w':=λw'=>by
          have h9:=jM y.nm z.nm;rw[hsb,hsb']at h9;rw[<-hr,<-h9]
          go_simp
        have HBN:=hid hbn;clear hg hi2 e1 e2 hl8 hcs hy2 hy hl9 hds hz2 hz hq hsb hsb' hr hbn;go_upto_region 6 with fail;cases r with
        | true=>
          refine rg 25 (dR 17 25) [IsV (.slice (some ⟨g,o,none⟩) n cp),iV (i:Int),IsP g (o+9*i),IsP g (o+9*i),IsV (.string sb),IsV (.slice (some ⟨g',o',none⟩) n cp'),iV (i:Int),IsP g' (o'+9*i),IsP g' (o'+9*i),IsV (.string sb'),IsV (.bool true),IsV (.bool true),IsV undef,IsV undef,IsV undef,IsV undef,IsV undef,IsV undef,IsV undef,IsV undef,IsV undef,IsV undef,IsV undef,IsV undef,IsV (.bool true)] [] 0 ?_ ?_
          · refine Rc xa ?_
            refine Rc je ?_;refine Rc (ixq (ix_Cl g o cp n i HG.out.2) (qA 0 17) (qA (fP:=iV (i:Int)) 1 18)) ?_;refine Rc (fa (fa_Cl0 g (o+9*i)) (qA 2 19)) ?_;refine Rc yo ?_;refine Rc xu ?_;refine Rc je ?_;refine Rc (ixq (ix_Cl g' o' cp' n i HG.out.2) (qA 5 22) (qA (fP:=iV (i:Int)) 6 23)) ?_;refine Rc (fa (fa_Cl0 g' (o'+9*i)) (qA 7 24)) ?_;refine Rc ym ?_;refine Rc (bn (r:=.bool true) (qA (fP:=IsV (.string sb)) 4 21) (qA (fP:=IsV (.string sb')) 9 26) (hr:=HBN.out)) ?_;refine Rc (mv (qA (fP:=IsV (.bool true)) 10 27)) ?_;refine RcN 11 28 true ?_;refine RcN 11 28 true ?_;refine RcN 11 28 true ?_;refine RcN 11 28 true ?_;refine RcN 11 28 true ?_;refine RcN 11 28 true ?_;refine RcN 11 28 true ?_;refine RcN 11 28 true ?_;refine RcN 11 28 true ?_;refine RcN 11 28 true ?_;refine RcN 11 28 true ?_;refine RcN 11 28 true ?_;refine Rc (pk (b:=true) (qA 11 28) (qD (x:=.bool true))) ?_;exact rn0
          intro u X4 e4 hΦ _;simp only[lxE,Nat.reduceAdd];rw[show u 24=(.bool true)from hΦ 24 dcx];have E4:=hid (S.out.1.trans e4);have S2:=hid S.out.2;clear hΦ S e4;refine zP zc ?_ _;have HT:=hid (eqCs_no l l' i y z HI.out.1 HI.out.2 (λe=>by have:=HR.out;rw[decide_eq_true e]at this;cases this));exact tNsa_4
        | false=>
          refine rg 25 (dR 17 25) [IsV (.slice (some ⟨g,o,none⟩) n cp),iV (i:Int),IsP g (o+9*i),IsP g (o+9*i),IsV (.string sb),IsV (.slice (some ⟨g',o',none⟩) n cp'),iV (i:Int),IsP g' (o'+9*i),IsP g' (o'+9*i),IsV (.string sb'),IsV (.bool false),IsV (.bool false),IsV (.slice (some ⟨g,o,none⟩) n cp),iV (i:Int),IsP g (o+9*i),IsP g (o+9*i+1),IsV (.agg us.toArray),IsV (.slice (some ⟨g',o',none⟩) n cp'),iV (i:Int),IsP g' (o'+9*i),IsP g' (o'+9*i+1),IsV (.agg vs.toArray),IsV (.bool q),IsV (.bool (!q)),IsV (.bool (!q))] [] 0 ?_ ?_
          · refine Rc xa ?_
            refine Rc je ?_;refine Rc (ixq (ix_Cl g o cp n i HG.out.2) (qA 0 17) (qA (fP:=iV (i:Int)) 1 18)) ?_;refine Rc (fa (fa_Cl0 g (o+9*i)) (qA 2 19)) ?_;refine Rc yo ?_;refine Rc xu ?_;refine Rc je ?_;refine Rc (ixq (ix_Cl g' o' cp' n i HG.out.2) (qA 5 22) (qA (fP:=iV (i:Int)) 6 23)) ?_;refine Rc (fa (fa_Cl0 g' (o'+9*i)) (qA 7 24)) ?_;refine Rc ym ?_;refine Rc (bn (r:=.bool false) (qA (fP:=IsV (.string sb)) 4 21) (qA (fP:=IsV (.string sb')) 9 26) (hr:=HBN.out)) ?_;refine Rc (mv (qA (fP:=IsV (.bool false)) 10 27)) ?_;refine RcG 11 28 false xa ?_;refine RcG 11 28 false je ?_;refine RcG 11 28 false (ixq (ix_Cl g o cp n i HG.out.2) (qA 12 29) (qA (fP:=iV (i:Int)) 13 30)) ?_;refine RcG 11 28 false (fa (fa_Cl1 g (o+9*i)) (qA 14 31)) ?_;refine RcG 11 28 false (lv (fP:=IsV (.agg us.toArray)) _ (λw' e=>ldM zc zc HC.out.1.1 (λj v hj=>(S.out.1.trans e).cell (by have:=HC.out.1.2 (j+1) v ja;rwa [show o+9*i+1+j=o+9*i+(j+1)by omega]))) (qA 15 32) (λ_ _=>rfl)) ?_;refine RcG 11 28 false xu ?_;refine RcG 11 28 false je ?_;refine RcG 11 28 false (ixq (ix_Cl g' o' cp' n i HG.out.2) (qA 17 34) (qA (fP:=iV (i:Int)) 18 35)) ?_;refine RcG 11 28 false (fa (fa_Cl1 g' (o'+9*i)) (qA 19 36)) ?_;refine RcG 11 28 false (lv (fP:=IsV (.agg vs.toArray)) _ (λw' e=>ldM zc zc HC.out.2.1 (λj v hj=>(S.out.1.trans e).cell (by have:=HC.out.2.2 (j+1) v ja;rwa [show o'+9*i+1+j=o'+9*i+(j+1)by omega]))) (qA 20 37) (λ_ _=>rfl)) ?_;refine RcG 11 28 false (cl2 (fP:=IsV (.agg us.toArray)) (fR:=IsV (.agg vs.toArray)) (fQ:=IsV (.bool q)) (en func25) (qA 16 33) (qA 21 38) (λx0 y0 w' hE d0 d1=>by{obtain rfl:x0=.agg us.toArray:=d0;obtain rfl:y0=.agg vs.toArray:=d1;exact HCC.out w' (NdC.low (Nat.zero_le _) _ _ (HY.out.1.ext (S.out.1.trans hE))) (NdC.low (Nat.zero_le _) _ _ (HY.out.2.ext (S.out.1.trans hE)))})) ?_;refine RcG 11 28 false (un (p:=.bool q) (r:=.bool (!q)) (qA 22 39) rfl (λw=>by go_simp)) ?_;refine Rc (pk (b:=false) (qA 11 28) (qA (fP:=IsV (.bool (!q))) 23 40)) ?_;exact rn0
          intro u X4 e4 hΦ _;simp only[lxE,Nat.reduceAdd];rw[show u 24=(.bool (!q))from hΦ 24 dcx];have E4:=hid (S.out.1.trans e4);have S2:=hid S.out.2;clear hΦ S e4;refine zP zc ?_ _;have HNE:=hid (show y.nm=z.nm by have:=HR.out;simpa using this);cases q with
          | true=>
            have HT:=hid (eqCs_take l l' i y z HI.out.1 HI.out.2 S2.out HNE.out HQ.out);exact tNsa_3
          | false=>
            have HT:=hid (eqCs_no l l' i y z HI.out.1 HI.out.2 (λ_=>HQ.out));exact tNsa_4
      · have hil:¬((i:Int)<(n:Int)):=by omega
        have HT:=hid (show eqCs l l'=true by have:=S.out.2;rwa [List.take_of_length_le (by rw[HN.out.1.1];omega),List.take_of_length_le (by rw[HN.out.1.2];omega)]at this);have E4:=hid S.out.1;clear S hg hi2;exact tNsa_4
  · have hq:((n:Int) !=(m:Int))=true:=by simp;omega
    have HR:=hid (show sameB l l'=false by rw[sameB,hn,hm];simp[he]);subst h1 h2;clear hu hv hn hm hl he;go_enter func21,ntmps21;go_wp2_with fail
    go_ret
    exact⟨_,rfl,Ext.refl _,by rw[HR.out];rfl⟩
end
end Go.Proofs.YtenhciieboegbaaGreatDoor
