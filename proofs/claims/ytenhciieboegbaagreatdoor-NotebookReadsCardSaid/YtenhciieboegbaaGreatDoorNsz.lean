/-
  Package notebook: the number of the nodes of a right expression.
-/
import Derived.Test.YtenhciieboegbaaGreatDoorNjx
import Derived.Test.YtenhciieboegbaaGreatDoorNjw
namespace Go.Proofs.YtenhciieboegbaaGreatDoor
open Go Go.RowKit
open Go.Proofs.Tryz
abbrev zI:=@wpList_nil
theorem xN{k:TypeId}{R:Value->Option (DU×List MemPlace)}{w w':World}{b n:Nat}{D:DU}(h:w.ownsMap prog k R b n D)(e:Ext w w'):w'.ownsMap prog k R b n D:=by
  have hlt:=h.lt;obtain⟨es,clock,hb,F,hs,hD⟩:=h;exact⟨es,clock,(e.block b hlt).trans hb,F,hs,hD⟩
def IsMc:Value->World->Prop:=λx w=>∃b,x=.map (some b)/\w.ownsMap (H:=Unit) prog 3 RF b 13 cD
theorem IsMc.stb:Stb IsMc:=λ_ _ _ e ⟨b,h1,h2⟩=>⟨b,h1,xN h2 e⟩
instance:StbC IsMc:=⟨IsMc.stb⟩
theorem checks_c(w:World):Calls prog 61 #[] w (Ret w IsMc):=zG (checks_f w) λ_e _w' ⟨b,h1,h2,_,h4⟩=>⟨_,h1,h2,b,rfl,h4⟩
def IsT2f:Value->World->Prop:=λx _=>∃v,x=.tuple #[v,.bool false]
theorem IsT2f.stb:Stb IsT2f:=λ_ _ _ _ h=>h
instance:StbC IsT2f:=⟨IsT2f.stb⟩
def AnyV:Value->World->Prop:=λ_ _=>True
theorem AnyV.stb:Stb AnyV:=λ_ _ _ _ h=>h
instance:StbC AnyV:=⟨AnyV.stb⟩
section
variable {P:Program} {ops:Array Oper} {Q:Exit->Act->World->Prop} {ds:List (Option Tmp)} {a0:Act} {w0:World} {L:List (Value->World->Prop)} {boxes:List Nat} {i k:Nat} {o:Oper} {os:List Oper}
theorem lkM{x y:Operand}{T:Nat}{c:Bool}{fP fQ:Value->World->Prop}{u:Value}(hx:Od ops ds a0 w0 L i x fP)(hy:Od ops ds a0 w0 L i y (IsV u))(h:∀m w,fP m w->∃r,(Instr.lookup T m u c).run P w=.ok r w/\fQ r w)
    (ho:o.op=.lookup T x y c:=by rfl) (hi:L.getD i (λ_ _=>True)=fQ:=by kernel_rfl) (hb:boxes.contains i=false:=by kernel_rfl):Ok P ops Q ds a0 w0 L boxes i o:=
  Ok.of hb λv a w hE hd hf=>by
    have h2:a.eval y=u:=hy.out v a w hE hd hf;obtain⟨r,h3,h4⟩:=h _ _ (hx.out v a w hE hd hf);refine⟨r,?_,by rw[hi];exact h4⟩;unfold execOp;rw[ho];dsimp only;rw[h2];simp[h3]
end
theorem cKeys_iff{op:Int}:op∈cKeys↔op=1\/op=2\/op=11\/op=3\/qZ op=true\/xM op=true:=by
  simp only[cKeys,List.mem_cons,List.not_mem_nil,or_false,qZ,xM,Bool.or_eq_true,zS];omega
theorem okN_keys{b:Sc}{x:Nd}(h:x.op∉cKeys):okN b x=false:=by
  rw[cKeys_iff]at h;simp only[not_or]at h;obtain⟨h1,h2,h3,h4,h5,h6⟩:=h;unfold okN okF;rw[if_neg h1,if_neg h2,if_neg h3,if_neg h4,if_neg h5,if_neg h6]
theorem check_any{b:Sc}{x:Nd}{us:List Value}{v:Value}{w:World}(hv:IsSc 0 b v w)(hb:b.length<=1000000)(hx:NdC 0 w x us)(hm:x.op∈cKeys):(∀args w,(callFunc (chF x.op).toNat args).run prog w=.ok (.enter (chF x.op).toNat args) w)/\Calls prog (chF x.op).toNat #[v,.agg us.toArray] w (CkP b x w):=by
  have hl:=hx.bd.1;have hb':b.length<=4611686018427387904:=zO hb dcx;by_cases h1:x.op=1
  · rw[show(chF x.op).toNat=98 by rw[h1];rfl]
    exact⟨en func98,check1_f hv hb' hx hl h1⟩
  by_cases h2:x.op=2
  · rw[show(chF x.op).toNat=101 by rw[h2];rfl]
    exact⟨en func101,check2_f hv hb' hx hl h2⟩
  by_cases h3:x.op=11
  · rw[show(chF x.op).toNat=103 by rw[h3];rfl]
    exact⟨en func103,check3_f hv hb' hx hl h3⟩
  by_cases h4:x.op=3
  · rw[show(chF x.op).toNat=104 by rw[h4];rfl]
    exact⟨en func104,check4_f hv hb' hx hl h4⟩
  by_cases h5:qZ x.op=true
  · have h6:x.op=9\/x.op=10:=by simpa [qZ]using h5
    rw[show(chF x.op).toNat=106 by unfold chF;rw[if_neg h1,if_neg h2,if_neg h3,if_neg h4,if_pos h6];rfl];exact⟨en func106,binds_f hv hb hx hl h5⟩
  · have h6:¬(x.op=9\/x.op=10):=by simpa [qZ]using h5
    rw[show(chF x.op).toNat=107 by unfold chF;rw[if_neg h1,if_neg h2,if_neg h3,if_neg h4,if_neg h6];rfl]
    exact⟨en func107,joins_f hv hx (by
      rcases cKeys_iff.1 hm with h|h|h|h|h|h
      ·exact absurd h h1
      ·exact absurd h h2
      ·exact absurd h h3
      ·exact absurd h h4
      ·exact absurd h h5
      ·exact h)⟩
def IsCk(b:Sc)(x:Nd):Value->World->Prop:=λu w=>∃v',u=.tuple #[v',.bool (okN b x)]/\(okN b x=true->IsSc 0 (inS b x) v' w)
theorem IsCk.stb(b:Sc)(x:Nd):Stb (IsCk b x):=λ_ _ _ e ⟨v,h1,h2⟩=>⟨v,h1,λh=>(h2 h).ext e⟩
instance (b:Sc) (x:Nd):StbC (IsCk b x):=⟨IsCk.stb b x⟩
def IsSc?(r:Bool)(b:Sc):Value->World->Prop:=λu w=>r=true->IsSc 0 b u w
theorem IsSc?.stb(r:Bool)(b:Sc):Stb (IsSc? r b):=λ_ _ _ e h hr=>(h hr).ext e
instance (r:Bool) (b:Sc):StbC (IsSc? r b):=⟨IsSc?.stb r b⟩
theorem ck_c{b:Sc}{x:Nd}{f:FuncId}{a:Array Value}{w:World}(h:Calls prog f a w (CkP b x w)):Calls prog f a w (Ret w (IsCk b x)):=zG h λ_e _w' ⟨h1,v',h2,h3⟩=>⟨_,h2,h1,v',rfl,h3⟩
theorem xC(g o c n j:Nat)(h:j<n)(w:World):(Instr.indexAt 30 (.slice (some ⟨g,o,none⟩) n c) (.int .i64 (j:Int))).run prog w=.ok (.pointer (some ⟨g,o+8*j,none⟩)) w:=by
  have h2:(j:Int)<(n:Int):=ze
  have h3:o+j*8=o+8*j:=ze
  go_simp
theorem szN_no{k:Nat}{b:Sc}{x:Nd}(h:okN b x=false):szN k b x=0:=by
  cases k with
  |zero=>rfl
  |succ k=>rw[szN,h];rfl
theorem szL_le{f:Nd->Nat}:∀(l:List Nd) (m:Nat),m<=200->szL f m l<=200
  | [],m,h=>h
  | a ::t,m,h=>by
    rw[szL]
    split
    ·exact Nat.zero_le _
    ·exact szL_le t _ ze
theorem szN_le(k:Nat)(b:Sc)(x:Nd):szN k b x<=200:=by
  cases k with
  |zero=>exact Nat.zero_le _
  | succ k=>
    rw[szN]
    split
    ·exact szL_le _ _ dcx
    ·exact Nat.zero_le _
section
set_option maxRecDepth 100000
set_option maxHeartbeats 8000000
theorem size_f:∀(k:Nat) {b:Sc} {x:Nd} {us:List Value} {v:Value} {w:World},IsSc 0 b v w->b.length+k<=900000->NdC 0 w x us->Calls prog 33 #[v,.agg us.toArray,.int .i64 (21-(k:Int))] w (RVal w (.int .i64 ((szN k b x:Nat):Int))):=by
  intro k
  induction k using Nat.strongRecOn with
  |ind k0 ih=>
  intro b x us v w hv hb hx;obtain⟨d,hd⟩:∃d:Int,21-(k0:Int)=d:=⟨_,rfl⟩;have hdw:IntKind.i64.wrap (d+1)=d+1:=zh
  have IH0:=hid ih;have HD:=hid hd;rw[hd];have HB:=hid hb;have HV:=hid hv;have HX:=hid hx;obtain⟨s,a,m,c,ao,cp,hus,-,hc1,hc2,hps⟩:=hx.out;have HP:=hid hps;obtain⟨op,hop⟩:∃y,x.op=y:=⟨_,rfl⟩;obtain⟨sb,hsb⟩:∃y,(⟨x.nm.toArray⟩:ByteArray)=y:=⟨_,rfl⟩;have hx1:qB x.nm=.string sb:=xl
  obtain⟨xn,hxn⟩:∃y,x.n=y:=⟨_,rfl⟩;obtain⟨lo,hlo⟩:∃y,x.lo=y:=⟨_,rfl⟩;obtain⟨hi,hhi⟩:∃y,x.hi=y:=⟨_,rfl⟩;obtain⟨n,hn⟩:∃y,x.ps.length=y:=⟨_,rfl⟩;rw[hop,hx1,hxn,hlo,hhi,hn]at hus;subst hus;have HN:=hid hn;have HBD:=hid (show(Lit.int .i64 op).wf=true by have:=hx.bd.2;rw[hop]at this;exact(show(decide ((-9223372036854775808:Int)<=op)&&decide (op<=(9223372036854775807:Int)))=true by simp;omega));have HOP:=hid hop;clear ih hd hb hv hx hps hop hsb hx1 hxn hlo hhi hn hc1 hc2
  obtain⟨W,hW,E,B⟩:∃W,W=w.alloc (.cells #[.int .i64 op,.string sb,.int .i64 xn,.bool s,.slice a m c,.int .i64 lo,.int .i64 hi,.slice ao n cp] 32)/\Ext w W/\Bk W w.heap.size [.int .i64 op,.string sb,.int .i64 xn,.bool s,.slice a m c,.int .i64 lo,.int .i64 hi,.slice ao n cp]:=
    ⟨_,rfl,(Ext.refl w).alloc _,Bk.new w _ _⟩
  go_enter func33,ntmps33;go_upto_region 1 with fail;rw[<-hW];clear hW;by_cases hm:op∈cKeys
  · obtain ⟨F,hF⟩:∃F,Value.func (.func (chF op).toNat) #[] #[]=F:=⟨_,rfl⟩
    have HF:=hid hF;have HM:=hid hm;clear hF hm;refine rg 9 [some 15,some 16,some 17,some 18,some 14,some 19,some 20,some 7,some 8] [IsMc,IsP (w.heap.size) 0,iV op,IsV (.tuple #[F,.bool true]),IsV (.tuple #[F,.bool true]),IsV F,IsV (.bool true),IsV F,IsV (.bool true)] [] 0 ?_ ?_
    · refine Rc (cl0 (fQ:=IsMc) (en func61) (λw' hE=>checks_c w')) ?_
      refine Rc (fa (jI w.heap.size) (qC 4)) ?_;refine Rc (lvC 0 B xL (qA 1 16)) ?_;refine Rc (lkM (fP:=IsMc) (fQ:=IsV (.tuple #[F,.bool true])) (u:=.int .i64 op) (qA 0 15) (qA 2 17) (λm w' ⟨b',h1,h2⟩=>⟨.tuple #[F,.bool true],by rw[h1,<-HF.out];exact checks_yes h2 HBD.out HM.out,rfl⟩)) ?_;refine Rc (mv (qA (fP:=IsV (.tuple #[F,.bool true])) 3 18)) ?_;refine Rc (ex (fP:=IsV (.tuple #[F,.bool true])) (fQ:=IsV F) (qA 4 14) (λu w' h=>⟨_,h,F,rfl,rfl⟩)) ?_;refine Rc (ex (fP:=IsV (.tuple #[F,.bool true])) (fQ:=IsV (.bool true)) (qA 4 14) (λu w' h=>⟨_,h,.bool true,rfl,rfl⟩)) ?_;refine Rc (mv (qA (fP:=IsV F) 5 19)) ?_;refine Rc (mv (qA (fP:=IsV (.bool true)) 6 20)) ?_;exact rn0
    intro u X1 e1 hΦ _;have q5:u 7=F:=hΦ 7 dcx;have q6:u 8=.bool true:=hΦ 8 dcx;simp only[lxE,Nat.reduceAdd];rw[q5,q6];clear hΦ q5 q6;have B1:=B.ext e1;have E1:=E.trans e1;clear B E e1;refine zP zc ?_ _;rcases k0 with _|k
    · have hd1:20<d:=by have:=HD.out;omega
      go_wp2_with fail
      go_ret
      exact⟨rfl,E1⟩
    have hd1:d<=20:=by have:=HD.out;omega
    have ih':∀(b:Sc) (x:Nd) (us:List Value) (v:Value) (w:World),IsSc 0 b v w->b.length+k<=900000->NdC 0 w x us->Calls prog 33 #[v,.agg us.toArray,.int .i64 (d+1)] w (RVal w (.int .i64 ((szN k b x:Nat):Int))):=λ_ _ _ _ _ h1 h2 h3=>by rw[show d+1=21-(k:Int)by have:=HD.out;omega];exact IH0.out k (Nat.lt_succ_self k) h1 h2 h3
    have IH:=hid ih';clear ih' IH0;go_upto_region 4 with fail;obtain⟨r,hr⟩:∃r,okN b x=r:=⟨_,rfl⟩;have HR:=hid hr;have HCK:=hid (λw' (e:Ext w w')=>check_any (HV.out.ext e) (by have:=HB.out;omega) (HX.out.ext e) (by rw[HOP.out];exact HM.out));have HEN:=hid (show ∀args w,(callFunc (chF op).toNat args).run prog w=.ok (.enter (chF op).toNat args) w by rw[<-HOP.out];exact(HCK.out w (Ext.refl w)).1);refine rgs 9 [some 28,some 29,some 30,some 31,some 27,some 32,some 33,some 9,some 8] [IsV F,IsV v,IsV (.agg #[.int .i64 op,.string sb,.int .i64 xn,.bool s,.slice a m c,.int .i64 lo,.int .i64 hi,.slice ao n cp]),IsCk b x,IsCk b x,IsSc? r (inS b x),IsV (.bool r),IsSc? r (inS b x),IsV (.bool r)] [] ?_ ?_
    · refine Rc (mv (qC 7)) ?_
      refine Rc xa ?_;refine Rc (lvV B1 ld_Nd (qC 4)) ?_;refine Rc (cv2 (f:=(chF op).toNat) (caps:= []) (fQ:=IsCk b x) HEN.out (by rw[HF.out];exact qA 0 28) (qA (fP:=IsV v) 1 29) (qA (fP:=IsV (.agg #[.int .i64 op,.string sb,.int .i64 xn,.bool s,.slice a m c,.int .i64 lo,.int .i64 hi,.slice ao n cp])) 2 30) (λx0 y0 w' hE d0 d1=>by{obtain rfl:x0=v:=d0;obtain rfl:y0=.agg #[.int .i64 op,.string sb,.int .i64 xn,.bool s,.slice a m c,.int .i64 lo,.int .i64 hi,.slice ao n cp]:=d1;have hq:=(HCK.out w' (E1.trans hE)).2;rw[HOP.out]at hq;exact ck_c hq})) ?_;refine Rc (mv (qA (fP:=IsCk b x) 3 31)) ?_;refine Rc (ex (fP:=IsCk b x) (fQ:=IsSc? r (inS b x)) (qA 4 27) (λu w' ⟨v',h1,h2⟩=>⟨_,h1,v',rfl,(show IsSc? r (inS b x) v' w' from by rw[<-HR.out];exact h2)⟩)) ?_;refine Rc (ex (fP:=IsCk b x) (fQ:=IsV (.bool r)) (qA 4 27) (λu w' ⟨v',h1,h2⟩=>⟨_,h1,.bool (okN b x),rfl,(show Value.bool (okN b x)=.bool r from by rw[HR.out])⟩)) ?_;refine Rc (mv (qA (fP:=IsSc? r (inS b x)) 5 32)) ?_;refine Rc (mv (qA (fP:=IsV (.bool r)) 6 33)) ?_;exact rn0
    intro u X2 e2 hΦ _;obtain⟨v9,hv9⟩:∃y,u 7=y:=⟨_,rfl⟩;have q5:IsSc? r (inS b x) v9 X2:=by rw[<-hv9];exact hΦ 7 dcx
    have q6:u 8=.bool r:=hΦ 8 dcx;simp only[lxE,Nat.reduceAdd];rw[hv9,q6];clear hΦ q6 hv9;have B2:=B1.ext e2;have E2:=E1.trans e2;clear B1 E1 e2 HCK HEN hr;refine zI ?_;cases r with
    | false=>
      go_wp2_with fail
      go_ret
      exact⟨by rw[szN_no HR.out];rfl,E2⟩
    | true=>
      have HS:=hid (q5 rfl);clear q5;have c7:=B2.c 7 _ rfl;obtain⟨f,hf⟩:∃f,szN k (inS b x)=f:=⟨_,rfl⟩;have HZ:=hid (show szN (k+1) b x=szL f 1 x.ps by rw[szN,HR.out,hf];rfl);have HFf:=hid hf;clear hf;have HE2:=hid E2;have HB2:=hid B2;clear E2 B2;go_wp2_with fail;clear c7
      go_loopg [10,12,13,39] n (λgk v10 v12 v13 v39 wr=>∃(i m':Nat),v39=.int .i64 (i:Int)/\v10=.int .i64 (m':Int)/\i+gk=n/\Hid (Ext w wr/\szL f 1 x.ps=szL f m' (x.ps.drop i)/\m'<=200/\IsSc 0 (inS b x) v9 wr))
      case atStart=>exact⟨0,1,rfl,rfl,by omega,hid ⟨HE2.out,rfl,by decide,HS.out⟩⟩
      case round=>
        obtain⟨i,m',rfl,rfl,hg,S⟩:=hrel;by_cases hi:i<n
        · obtain⟨y,hy⟩:∃y,x.ps[i]? =some y:=⟨_,List.getElem?_eq_getElem (by have:=HN.out;omega)⟩
          obtain⟨g,o,rfl,-,hR⟩:=HP.out (λe=>by rw[e]at hy;cases hy);obtain⟨us,hl8,hcs,hy2⟩:=hR.get hy;have hil:(i:Int)<(n:Int):=ze
          have hiw:IntKind.i64.wrap ((i:Int)+1)=((i+1:Nat):Int):=by have:=HX.out.out;obtain⟨_,_,_,_,_,_,_,_,q1,q2,_⟩:=this;have:=HN.out;simp only[IntKind.wrap_i64];omega
          have HG:=hid (zL hg hi);have HC:=hid (zL hl8 hcs);have HY:=hid hy2;have HI:=hid hy;obtain⟨E3,S2,S3,S4⟩:=S.out;have HS4:=hid S4;have HS2:=hid (zL S2 S3);clear hg hi hR hl8 hcs hy2 hy S S2 S3 S4;go_upto_region 10 with fail;refine rgs 2 [some 41,some 42] [IsP g (o+8*i),IsV (.agg us.toArray)] [] ?_ ?_
          · refine Rc (ixq (xC g o cp n i HG.out.2) (qC 37) (qC (x:=.int .i64 (i:Int)) 39)) ?_
            refine Rc (lv (fP:=IsV (.agg us.toArray)) _ (λw' e=>ldM zc zc HC.out.1 (λj v hj=>(E3.trans e).cell (HC.out.2 j v hj))) (qA 0 41) (λ_ _=>rfl)) ?_;exact rn0
          intro u4 X4 e4 hΦ _;simp only[lxE,Nat.reduceAdd];rw[show u4 1=.agg us.toArray from hΦ 1 dcx];clear hΦ;replace E3:=E3.trans e4;refine stL (λK hK=>?_);refine jJ (vs:=zNd) al_Nd (λBn e3=>hK _ _ ?_);obtain⟨g7,hg7⟩:∃g,X4.heap.size=g:=⟨_,rfl⟩;rw[hg7]at Bn ⊢;generalize X4.alloc (.cells zNd.toArray 32)=Y1 at Bn e3 ⊢;clear hK K
          go_simp
          refine stL (λK hK=>?_);refine zE (us:=us) Bn st_Nd rfl HC.out.1 nwZN (λX5 B7 O=>hK _ _ ?_) (ho1:=HY.out.nw.2);have e5:=e4.trans (O.ext e3 (Nat.le_of_eq hg7));have E5:=E3.trans (O.ext e3 (Nat.le_of_eq hg7));have HS5:=hid (HS4.out.ext e5);clear hK K O Bn e3 e4 e5 E3 hg7 HS4;refine zI ?_;go_upto_region 11 with fail;obtain⟨z,hz⟩:∃z,f y=z:=⟨_,rfl⟩;have HZ2:=hid hz;clear hz;have HIB:=hid (show(inS b x).length+k<=900000 by have:=HB.out;unfold inS;split <;> simp <;> omega);refine rgs 6 [some 43,some 44,some 45,some 46,some 47,some 13] [IsV v9,IsV (.agg us.toArray),iV d,iV (d+1),iV (z:Int),iV (z:Int)] [] ?_ ?_
          · refine Rc (mv (qC 9)) ?_
            refine Rc (lvV B7 ld_Nd (qC 12) HC.out.1) ?_;refine Rc (mv (qC 2)) ?_;refine Rc (bn (r:=.int .i64 (d+1)) (qA (fP:=iV d) 2 45) qD (hr:=λw=>by go_simp)) ?_;refine Rc (cl3 (fQ:=iV (z:Int)) (en func33) (qA (fP:=IsV v9) 0 43) (qA (fP:=IsV (.agg us.toArray)) 1 44) (qA (fP:=iV (d+1)) 3 46) (λx0 y0 z0 w' hE d0 d1 d2=>by{obtain rfl:x0=v9:=d0;obtain rfl:y0=.agg us.toArray:=d1;obtain rfl:z0=.int .i64 (d+1):=d2;have hq:=IH.out _ _ _ _ _ (HS5.out.ext hE) HIB.out (HY.out.ext (E5.trans hE));rw[HFf.out,HZ2.out]at hq;exact zG hq (λe w2 h=>⟨_,h.1,h.2,rfl⟩)})) ?_;refine Rc (mv (qA (fP:=iV (z:Int)) 4 47)) ?_;exact rn0
          intro u6 X6 e6 hΦ _;simp only[lxE,Nat.reduceAdd];rw[show u6 5=.int .i64 (z:Int)from hΦ 5 dcx];have E6:=hid (E5.trans e6);have HS6:=hid (HS5.out.ext e6)
          have HSZ:=hid (show szL f 1 x.ps=if z=0\/200<m'+z then 0 else szL f (m'+z) (x.ps.drop (i+1))by
            rw[HS2.out.1,List.drop_eq_getElem_cons (by have:=HG.out;have:=HN.out;omega),(List.getElem?_eq_some_iff.1 HI.out).2,szL,HZ2.out])
          clear hΦ HS5 e6 E5 B7;refine zI ?_;have hm1:=HS2.out.2;have hm2:z<=200:=by rw[<-HZ2.out,<-HFf.out];exact szN_le _ _ _
          have hw2:IntKind.i64.wrap ((m':Int)+(z:Int))=((m'+z:Nat):Int):=zh
          by_cases hz0:z=0
          · have hz1:(z:Int)=0:=by omega
            have HR2:=hid (show szN (k+1) b x=0 by rw[HZ.out,HSZ.out,if_pos (.inl hz0)]);subst hz0;clear hm1 hm2 hw2;go_wp2_with fail
            go_ret
            exact⟨by rw[HR2.out];rfl,E6.out⟩
          · have hz1:((z:Int)==0)=false:=by simp;omega
            by_cases hs:200<m'+z
            · have hs1:(200:Int)<((m'+z:Nat):Int):=by omega
              have HR2:=hid (show szN (k+1) b x=0 by rw[HZ.out,HSZ.out,if_pos (.inr hs)]);clear hz0 hs hm1 hm2;go_wp2_with fail
              go_ret
              exact⟨by rw[HR2.out];rfl,E6.out⟩
            · have hs1:¬(200:Int)<((m'+z:Nat):Int):=by omega
              have HR2:=hid (show szL f 1 x.ps=szL f (m'+z) (x.ps.drop (i+1))by rw[HSZ.out,if_neg (by omega)]);have HM2:=hid (show m'+z<=200 by omega);clear hz0 hs hm1 hm2;go_wp2_with fail
              go_roundg (gk-1)
              case measure=>have:=HG.out;omega
              case rel=>exact⟨i+1,m'+z,rfl,rfl,by have:=HG.out;omega,hid ⟨E6.out,HR2.out,HM2.out,HS6.out⟩⟩
        · have hil:¬((i:Int)<(n:Int)):=by omega
          have hE:=hid S.out.1
          have HR2:=hid (show m'=szN (k+1) b x by
            rw[HZ.out,S.out.2.1,List.drop_of_length_le (by have:=HN.out;omega)];rfl)
          clear S;go_wp2_with fail
          go_ret
          exact⟨by rw[<-HR2.out];rfl,hE.out⟩
  · have HM:=hid hm
    clear hm;refine rg 9 [some 15,some 16,some 17,some 18,some 14,some 19,some 20,some 7,some 8] [IsMc,IsP (w.heap.size) 0,iV op,IsT2f,IsT2f,AnyV,IsV (.bool false),AnyV,IsV (.bool false)] [] 0 ?_ ?_
    · refine Rc (cl0 (fQ:=IsMc) (en func61) (λw' hE=>checks_c w')) ?_
      refine Rc (fa (jI w.heap.size) (qC 4)) ?_;refine Rc (lvC 0 B xL (qA 1 16)) ?_;refine Rc (lkM (fP:=IsMc) (fQ:=IsT2f) (u:=.int .i64 op) (qA 0 15) (qA 2 17) (λm w' ⟨b',h1,h2⟩=>by obtain⟨v',h3⟩:=checks_no h2 HBD.out HM.out;exact⟨_,by rw[h1];exact h3,v',rfl⟩)) ?_;refine Rc (mv (qA (fP:=IsT2f) 3 18)) ?_;refine Rc (ex (fP:=IsT2f) (fQ:=AnyV) (qA 4 14) (λu w' ⟨v',h⟩=>⟨_,h,v',rfl,trivial⟩)) ?_;refine Rc (ex (fP:=IsT2f) (fQ:=IsV (.bool false)) (qA 4 14) (λu w' ⟨v',h⟩=>⟨_,h,.bool false,rfl,rfl⟩)) ?_;refine Rc (mv (qA (fP:=AnyV) 5 19)) ?_;refine Rc (mv (qA (fP:=IsV (.bool false)) 6 20)) ?_;exact rn0
    intro u X1 e1 hΦ _;obtain⟨v9,hv9⟩:∃y,u 7=y:=⟨_,rfl⟩;have q6:u 8=.bool false:=hΦ 8 dcx;simp only[lxE,Nat.reduceAdd];rw[hv9,q6];clear hΦ q6 hv9;have E1:=E.trans e1;refine zP zc ?_ _;go_wp2_with fail
    go_ret
    exact⟨by rw[szN_no (okN_keys (by rw[HOP.out];exact HM.out))];rfl,E1⟩
end
end Go.Proofs.YtenhciieboegbaaGreatDoor
