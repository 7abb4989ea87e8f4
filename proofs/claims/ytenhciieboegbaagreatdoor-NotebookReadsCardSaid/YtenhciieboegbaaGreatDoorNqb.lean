/-
  The reference's reader: expression, every level. (Printed by wip/gen/nqb.py.)
-/
import Derived.Test.YtenhciieboegbaaGreatDoorNqa
import Derived.Test.YtenhciieboegbaaGreatDoorNr1
namespace Go.Proofs.YtenhciieboegbaaGreatDoor
open Go Go.RowKit Go.Maps
open Go.Proofs.Tryz
def namU(op:Int)(nm:List UInt8):List Value:= [.int .i64 op,qB nm,.int .i64 0,.bool false,.slice none 0 0,.int .i64 0,.int .i64 0,.slice none 0 0]
set_option maxRecDepth 100000 in
theorem bd_Nam{w:World}{nm:List UInt8}:(Instr.build 32 #[(0,.int .i64 2),(1,qB nm)]).run prog w=.ok (.agg (namU 2 nm).toArray) w:=by unfold namU;rw[qB];go_simp
theorem seq_run{P:Program}{T:Nat}{x y:Operand}(a b:ByteArray)(r:Bool)(hr:(a.toList==b.toList)=r)(w:World):Sem.run P (do eqGuard .eql T x y (.string a) (.string b);binOp .eql T (.string a) (.string b)) w=.ok (.bool r) w:=by rw[<-hr];go_simp
section
set_option maxRecDepth 100000
set_option maxHeartbeats 16000000
theorem tNqb_1{P:Prop}(h:P:=by
  refine wp_region_lit (lmv (lmv (lmv (lsl hex (lb2 (p:=.int .i64 2) (q:=.string nb) (.agg (namU 2 nm).toArray) (by rw[<-HNBx.out];exact bd_Nam) ?_) hTa hTn))));refine lbx (namU 2 nm) al_Nd st_Nd rfl rfl nwZN rfl (λg12 W20 hg12 B12 e2=>zI ?_);clear hex hTa hTn;have HE2:=hid (HE.out.trans e2);have HB2:=hid (HB.out.ext e2);have HB12:=hid B12;have HLT:=hid (show w.heap.size<g12 by rw[hg12];exact HB.out.lt);clear e2 hg12 B12
  try go_simp
  go_upto_region 21 with fail;refine wp_region_lit (lmv (lfa (xS g12 _) (lld (qP _ _ _ (HB12.out.c 1 _ rfl)) (lca [v,qB nm] (en func26) (HHS.out _ HE2.out) (λv W21 e3 hv=>zI ?_)))));obtain rfl:v=.bool bo:=hv;have HE3:=hid (HE2.out.trans e3);have HB3:=hid (HB2.out.ext e3);have HB123:=hid (HB12.out.ext e3);clear e3 HE2 HB2 HB12
  try go_simp
  cases bo with
  | true=>
    go_upto_region 22 with fail;refine wp_region_lit (lfa (jI g12 _) (stL (λK hK=>stCO 0 (u:=.int .i64 11) (v:=.int .i64 2) HB123.out (st_i _) rfl (NoWord.int64 _) (λX2 BB O=>hK _ _ (zI ?_)))));have EB:=O.ext HE3.out (Nat.le_of_lt HLT.out);have HB4:=hid (O.bk HB3.out (by have:=HLT.out;omega));have HE4:=hid EB;have HBB:=hid (show Bk X2 g12 (namU 11 nm)from BB);clear hK K EB O BB;go_upto_region 23 with fail;refine wp_region_lit (lld (ldM (vs:=namU 11 nm) (m:=8) zc zc rfl (λj v hj=>by rw[Nat.zero_add];exact HBB.out.c j v hj)) (lmv (lb2 (.agg (namU 11 nm++ [Value.int .i64 (T:Int)]).toArray) (bd_Rd rfl) ?_)));refine lst (namU 11 nm++ [Value.int .i64 (T:Int)]) HB4.out xO rfl rfl zB rfl (λW6a B9 O=>zI ?_);go_wp2_with fail;exact zH (jU results42 zc (lvM zc zc rfl B9)) rfl ⟨_,rfl,O.ext HE4.out (zN _),⟨11,nm,0,0,0,0, []⟩,namU 11 nm,_,rfl,nd_leaf ⟨by have:=HNB.out.2.2;omega,by decide,by decide⟩,.inr ⟨T,rfl,HTB.out,HT2.out⟩⟩
  | false=>
    go_upto_region 23 with fail;refine wp_region_lit (lld (ldM (vs:=namU 2 nm) (m:=8) zc zc rfl (λj v hj=>by rw[Nat.zero_add];exact HB123.out.c j v hj)) (lmv (lb2 (.agg (namU 2 nm++ [Value.int .i64 (T:Int)]).toArray) (bd_Rd rfl) ?_)));refine lst (namU 2 nm++ [Value.int .i64 (T:Int)]) HB3.out xO rfl rfl zB rfl (λW6a B9 O=>zI ?_);go_wp2_with fail;exact zH (jU results42 zc (lvM zc zc rfl B9)) rfl ⟨_,rfl,O.ext HE3.out (zN _),⟨2,nm,0,0,0,0, []⟩,namU 2 nm,_,rfl,nd_leaf ⟨by have:=HNB.out.2.2;omega,by decide,by decide⟩,.inr ⟨T,rfl,HTB.out,HT2.out⟩⟩
  ):P:=h
theorem tNqb_2{P:Prop}(h:P:=by
  go_enter func42,ntmps42;go_upto_region 1 with fail;rw[<-hW];clear hW;go_upto_region 2 with fail;refine wp_region_lit (lca [] (en func81) (none_r _) (λv W2 e8 hv=>?_));obtain rfl:v=.agg noV.toArray:=hv;refine lst noV (HB.out.ext e8) xO rfl rfl zB rfl (λW2a B9 O=>zI ?_);go_wp2_with fail;exact zH (jU results42 zc (lvM zc zc rfl B9)) rfl ⟨_,rfl,O.ext (HE.out.trans e8) (zN _),jP HR.out⟩
  ):P:=h
theorem tNqb_3{P:Prop}(h:P:=by
  go_wp2_with fail;refine zH (jU results42 zc (lvM zc zc (jT hz.len) B9)) rfl ⟨_,rfl,O.ext (HE.out.trans e1) (zN _),z,zs,p3,rfl,NdC.low (Nat.le_of_lt (HB.out).lt) _ _ (hz.ob (Ob.only O) (HB.out).lt),?_⟩;rw[HT.out];exact hzp
  ):P:=h
theorem tNqb_4{P:Prop}(h:P:=by
  obtain⟨z,zs,p3,rfl,hz,hzp⟩:=hv;refine lst (zs++ [Value.int .i64 p3]) ((HB.out.ext HEr.out).ext e1) xO rfl (jT hz.len) zB (one_fit hz.nw.2) (λW6a B9 O=>zI ?_);go_wp2_with fail;refine zH (jU results42 zc (lvM zc zc (jT hz.len) B9)) rfl ⟨_,rfl,O.ext ((HE.out.trans HEr.out).trans e1) (zN _),z,zs,p3,rfl,NdC.low (Nat.le_of_lt ((HB.out.ext HEr.out)).lt) _ _ (hz.ob (Ob.only O) ((HB.out.ext HEr.out)).lt),?_⟩;rw[HT.out];exact hzp
  ):P:=h
theorem tNqb_5{P:Prop}(h:P:=by
  obtain⟨z,zs,p3,rfl,hz,hzp⟩:=hv;refine lst (zs++ [Value.int .i64 p3]) (HB.out.ext e1) xO rfl (jT hz.len) zB (one_fit hz.nw.2) (λW6a B9 O=>zI ?_);exact tNqb_3
  ):P:=h
theorem ex_all:∀ k,ExC k:=by
  intro k
  induction k with
  | zero=>
    intro b s a v w hv hb hs ha;obtain⟨n,hn⟩:∃n,s.length=n:=⟨_,rfl⟩;obtain⟨sb,hsb⟩:∃y:ByteArray,(⟨s.toArray⟩:ByteArray)=y:=⟨_,rfl⟩;have hsz:sb.size=n:=jp
    have hp0:¬((a:Int)<0):=ze
    obtain⟨W,hW,E,B⟩:∃W,W=w.alloc (.cells zRd.toArray 82)/\Ext w W/\Bk W w.heap.size zRd:=zg;unfold zRd zNd at hW;simp only[List.cons_append,List.nil_append]at hW;have HB:=hid B;have HE:=hid E;clear B E;obtain⟨d,hd⟩:∃d:Int,((0:Nat):Int)=d:=⟨_,rfl⟩;have hd1:d<1:=ze
    have HR:=hid (exR_0 b (s.drop a));rw[qB,hsb,hd];clear hsb hd hs hv hb ha;by_cases h1:a<n
    · have h2:¬((n:Int)<=(a:Int)):=by omega
      clear h1;exact tNqb_2
    · have h2:(n:Int)<=(a:Int):=by omega
      clear h1;exact tNqb_2
  | succ k ih=>
    intro b s a v w hv hb hs ha;obtain⟨n,hn⟩:∃n,s.length=n:=⟨_,rfl⟩;obtain⟨sb,hsb⟩:∃y:ByteArray,(⟨s.toArray⟩:ByteArray)=y:=⟨_,rfl⟩;have hsz:sb.size=n:=jp
    have hp0:¬((a:Int)<0):=ze
    obtain⟨W,hW,E,B⟩:∃W,W=w.alloc (.cells zRd.toArray 82)/\Ext w W/\Bk W w.heap.size zRd:=zg;unfold zRd zNd at hW;simp only[List.cons_append,List.nil_append]at hW;have HB:=hid B;have HE:=hid E;clear B E;obtain⟨d,hd⟩:∃d:Int,((k+1:Nat):Int)=d:=⟨_,rfl⟩;have hd1:¬d<1:=ze
    have HD:=hid hd;have HV:=hid (zL hv hb);have IH:=hid ih;have HA:=hid ha;have HS:=hid (zL hsb (zL hn hs));rw[qB,hsb,hd];by_cases h1:a<n
    case neg=>
      have h2:(n:Int)<=(a:Int):=ze
      have HR:=hid (show exR (k+1) b (s.drop a)=none by rw[List.drop_of_length_le (by omega),exR_nil]);clear h1 hsb hd hs hv hb ha hn ih;exact tNqb_2
    have h2:¬((n:Int)<=(a:Int)):=ze
    have ha0:(0:Int)<=(a:Int):=ze
    have han:(a:Int)<(n:Int):=ze
    have haw:IntKind.i64.wrap ((a:Int)+1)=((a+1:Nat):Int):=zh
    obtain⟨c,hc⟩:∃c,s[a]? =some c:=⟨_,List.getElem?_eq_getElem (by rw[hn];exact h1)⟩;have hdr:s.drop a=c ::s.drop (a+1):=yq
    obtain⟨hj,-⟩:=ba_at hsb hc;have hct:=ba_atn hsb hc hj;have HDR:=hid hdr;have H1:=hid h1;clear hdr hsb hd hs hv hb ha hn ih h1 hc;by_cases h40:c=40
    · subst h40
      have hct:((sb[a]'hj).toNat:Int)=40:=hct;have HT:=hid (show exR (k+1) b (s.drop a)=infR (exR k b) (s.drop (a+1))by rw[HDR.out,exR_inf]);have HI:=hid (λw' (e:Ext w w')=>infix_f IH.out (a+1) (HV.out.1.ext e) HV.out.2 HS.out.2.2 (by have:=H1.out;rw[HS.out.2.1];omega));rw[qB,HS.out.1,HD.out]at HI;go_enter func42,ntmps42;go_upto_region 1 with fail;rw[<-hW];clear hW;go_upto_region 4 with fail;refine wp_region_lit (lmv (lmv (lbn (b:=.add) (T:=3) (.int .i64 (a:Int)) (.int .i64 1) (r:=.int .i64 ((a+1:Nat):Int)) (by have hx9:=haw;go_simp) (lmv (lmv ?_)))));refine lca [.string sb,.int .i64 ((a+1:Nat):Int),v,.int .i64 d] (en func82) (HI.out W HE.out) (λv W4 e1 hv=>?_);obtain⟨z,zs,p3,rfl,hz,hzp⟩:=hv;refine lst (zs++ [Value.int .i64 p3]) (HB.out.ext e1) xO rfl (jT hz.len) zB (one_fit hz.nw.2) (λW4a B9 O=>zI ?_);exact tNqb_3
    obtain⟨p1,hp1⟩:∃p,xP c=p:=⟨_,rfl⟩
    have d40:(((c.toNat:Nat):Int)==40)=false:=by
      rw[zJ];intro e;exact h40 (UInt8.toNat_inj.1 (show c.toNat=(40:UInt8).toNat by have:(40:UInt8).toNat=40:=rfl;omega))
    have HL:=hid (λw=>letter_f c w);rw[hp1]at HL;simp only[bV]at HL;have HC:=hid (zL h40 hp1);clear h40 hp1;cases p1 with
    | false=>
      have HT:=hid (show exR (k+1) b (s.drop a)=(numP (s.drop a)).map mkN by rw[HDR.out,exR_num HC.out.1 HC.out.2]);have HI:=hid (λw'=>whole_f s a w' HS.out.2.2 HA.out);rw[qB,HS.out.1]at HI;generalize c.toNat=kc at hct d40 HL;go_enter func42,ntmps42;go_upto_region 1 with fail;rw[<-hW];clear hW;go_upto_region 6 with(go_at_call 79;go_must (refine zG (HL.out _) ?_;rintro e w1 ⟨rfl,rfl⟩));refine wp_region_lit (lmv (lmv ?_));refine lca [.string sb,.int .i64 (a:Int)] (en func83) (HI.out W) (λv W6 e1 hv=>?_);exact tNqb_5
    | true=>
      obtain⟨T,hT⟩:∃T,runI s a=T:=⟨_,rfl⟩;have HRU:=hid (λw'=>run_f s a w' HS.out.2.2 HA.out);rw[qB,HS.out.1,hT]at HRU;obtain⟨nm,hnm⟩:∃l,(s.drop a).takeWhile qH=l:=⟨_,rfl⟩;have hrp:=run_parts hT;rw[hnm]at hrp;have hTl:=runI_le HA.out;rw[hT,HS.out.2.1]at hTl;obtain⟨nb,hnb⟩:∃y:ByteArray,(⟨nm.toArray⟩:ByteArray)=y:=⟨_,rfl⟩;have hex:sb.extract a T=nb:=by rw[<-HS.out.1,ba_ex,hrp.1,hnb]
      have hTa:(a:Int)<=(T:Int):=ze
      have hTn:(T:Int)<=(sb.size:Int):=by rw[hsz];omega
      have HNB:=hid (zL hnb (show nm≠ []/\nm.length<=1000000 by
        rw[<-hnm];refine⟨?_,by have:=(xR qH (s.drop a)).1;rw[List.length_drop]at this;have:=HS.out.2.1;have:=HS.out.2.2;omega⟩;rw[HDR.out,List.takeWhile_cons,if_pos (by simp[qH,HC.out.2])]
        exact λe=>by cases e))
      have HTL:=hid hTl;have HNM:=hid (zL hnm hrp.2)
      have HCS:=hid (show ∀s2,qG [40] (s.drop T)=some s2->exR (k+1) b (s.drop a)=calR (exR k) b nm s2 from λs2 h=>by
        rw[<-hrp.2,HDR.out]at h
        rw[HDR.out,exR_call HC.out.1 HC.out.2 h,<-HDR.out,hnm])
      have HNS:=hid (show qG [40] (s.drop T)=none->exR (k+1) b (s.drop a)=some (namR b nm (s.drop T))from λh=>by
        rw[<-hrp.2,HDR.out]at h
        rw[HDR.out,exR_name HC.out.1 HC.out.2 h,<-HDR.out,hnm,hrp.2])
      generalize c.toNat=kc at hct d40 HL;clear hT hnm hrp hTl hnb;by_cases hTq:s[T]? =some 40
      · have hTlt:T<n:=by rw[<-HS.out.2.1];exact(List.getElem?_eq_some_iff.1 hTq).1
        have hTi:(T:Int)<(n:Int):=ze
        have hT0:(0:Int)<=(T:Int):=ze
        have hTw:IntKind.i64.wrap ((T:Int)+1)=((T+1:Nat):Int):=by have:=HS.out.2.1;have:=HS.out.2.2;simp only[IntKind.wrap_i64];omega
        obtain⟨hj2,-⟩:=ba_at HS.out.1 hTq;have hct2:((sb[T]'hj2).toNat:Int)=40:=ba_atn HS.out.1 hTq hj2
        have HCS2:=hid (HCS.out _ (show qG [40] (s.drop T)=some (s.drop (T+1))by
          rw[List.drop_eq_getElem_cons (List.getElem?_eq_some_iff.1 hTq).1,(List.getElem?_eq_some_iff.1 hTq).2]
          exact takeP_ap [40] _))
        have HT1:=hid (show T+1<=s.length by rw[HS.out.2.1];omega);clear hTq hTlt HCS HNS;go_enter func42,ntmps42;go_upto_region 1 with fail;rw[<-hW];clear hW;go_upto_region 9 with(first| (go_at_call 79;go_must (refine zG (HL.out _) ?_;rintro e w1 ⟨rfl,rfl⟩))| (go_at_call 41;go_must (refine zG (HRU.out _) ?_;rintro e w1 ⟨rfl,rfl⟩)));clear hct2 hct d40 h2 hTi;refine wp_region_lit (lmv (lmv (lmv (lsl hex (lmv (zI ?_)) hTa hTn))));clear hex hTa hTn
        try go_simp
        by_cases hv0:nm=wVal
        · have hve:(nb.toList==(⟨#[118,97,108,117,101]⟩:ByteArray).toList)=true:=by rw[<-HNB.out.1,show(⟨#[118,97,108,117,101]⟩:ByteArray)=⟨wVal.toArray⟩from rfl,jM];exact decide_eq_true hv0
          have HT:=hid (show exR (k+1) b (s.drop a)=valR (s.drop (T+1))by rw[HCS2.out,calR,if_pos hv0]);have HI:=hid (λw'=>value_f s (T+1) w' HS.out.2.2 HT1.out);rw[qB,HS.out.1]at HI;clear hv0;go_upto_region 10 with fail;refine wp_region_lit (lmv (lbn (b:=.eql) (T:=9) (.string nb) (.string ⟨#[118,97,108,117,101]⟩) (r:=.bool true) (seq_run nb _ true hve _) (zI ?_)));clear hve;go_upto_region 11 with fail;refine wp_region_lit (lmv (lmv (lbn (b:=.add) (T:=3) (.int .i64 (T:Int)) (.int .i64 1) (r:=.int .i64 ((T+1:Nat):Int)) (by have hx9:=hTw;go_simp) ?_)));refine lca [.string sb,.int .i64 ((T+1:Nat):Int)] (en func84) (HI.out W) (λv W6 e1 hv=>?_);exact tNqb_5
        have hve:(nb.toList==(⟨#[118,97,108,117,101]⟩:ByteArray).toList)=false:=by rw[<-HNB.out.1,show(⟨#[118,97,108,117,101]⟩:ByteArray)=⟨wVal.toArray⟩from rfl,jM];exact decide_eq_false hv0
        have HV0:=hid hv0;clear hv0;go_upto_region 10 with fail;refine wp_region_lit (lmv (lbn (b:=.eql) (T:=9) (.string nb) (.string ⟨#[118,97,108,117,101]⟩) (r:=.bool false) (seq_run nb _ false hve _) (zI ?_)));clear hve
        try go_simp
        go_wp2_with fail
        go_loopg [11] 8 (λgk v11 wr=>∃o:Nat,v11=.int .i64 (o:Int)/\gk+o=15/\Hid (Ext W wr)/\Hid (7<=o/\∀j:Nat,7<=j->j<o->opW (j:Int)≠nm))
        case atStart=>exact⟨7,rfl,rfl,hid (Ext.refl _),hid ⟨by decide,λj h1 h2=>by omega⟩⟩
        case round=>
          obtain⟨o,rfl,hg,HEr,S⟩:=hrel;by_cases ho:o<=13
          · have hil:(o:Int)<=13:=by omega
            have hiw:IntKind.i64.wrap ((o:Int)+1)=((o+1:Nat):Int):=zh
            obtain⟨wb,hwb⟩:∃y:ByteArray,(⟨(opW (o:Int)).toArray⟩:ByteArray)=y:=⟨_,rfl⟩;have HWD:=hid (λw'=>word_j (j:=o) (by have:=S.out.1;omega) ho w');rw[qB,hwb]at HWD;have HTW:=hid (two_f (o:Int));have HBI:=hid (bind_f (o:Int));have HOO:=hid (zL hg ho);by_cases he:opW (o:Int)=nm
            · have hee:(wb.toList==nb.toList)=true:=by rw[<-hwb,<-HNB.out.1,jM];exact decide_eq_true he
              obtain⟨hco,hcs⟩:=callO_at HNB.out.2.1 S.out.1 ho he S.out.2;have hc0:¬jE nm=0:=by rw[hco];omega
              clear hg ho hwb he;by_cases hjo:xM (o:Int)=true
              · rw [hjo]at HTW
                have hbo:¬qZ (jE nm)=true:=by
                  rw[hco];rcases hcs with rfl|rfl|rfl|rfl|rfl|rfl <;> first|decide|exact absurd hjo dcx
                have HT:=hid (show exR (k+1) b (s.drop a)=pairR (exR k b) (o:Int) (s.drop (T+1))by rw[HCS2.out,calR,if_neg HV0.out,if_neg hc0,if_neg hbo,hco]);have HI:=hid (λw' (e:Ext w w')=>pair_f IH.out (op:=(o:Int)) (T+1) (HV.out.1.ext e) HV.out.2 HS.out.2.2 HT1.out (by have:=HOO.out.2;omega));rw[qB,HS.out.1,HD.out]at HI;clear hco hcs hc0 hjo hbo;go_upto_region 16 with(first| (go_at_call 73;go_must (refine zG (HWD.out _) ?_;rintro e w5 ⟨rfl,e5⟩;replace HEr:=hid (HEr.out.trans e5);clear e5))| (go_at_call 63;go_must (refine zG (HTW.out _) ?_;rintro e w6 ⟨rfl,rfl⟩))| (go_at_call 65;go_must (refine zG (HBI.out _) ?_;rintro e w6 ⟨rfl,rfl⟩)));clear hil hiw hee S HOO HTW HBI HWD;refine wp_region_lit (lmv (lmv (lbn (b:=.add) (T:=3) (.int .i64 (T:Int)) (.int .i64 1) (r:=.int .i64 ((T+1:Nat):Int)) (by have hx9:=hTw;go_simp) (lmv (lmv (lmv ?_))))));refine lca [.string sb,.int .i64 ((T+1:Nat):Int),.int .i64 (o:Int),v,.int .i64 d] (en func85) (HI.out _ (HE.out.trans HEr.out)) (λv W6 e1 hv=>?_);exact tNqb_4
              · have hbo:qZ (o:Int)=true:=by
                  rcases hcs with rfl|rfl|rfl|rfl|rfl|rfl <;> first|rfl|exact absurd rfl hjo
                rw[show xM (o:Int)=false by simpa using hjo]at HTW;rw[hbo]at HBI;have HT:=hid (show exR (k+1) b (s.drop a)=bndR (exR k) b (o:Int) (s.drop (T+1))by rw[HCS2.out,calR,if_neg HV0.out,if_neg hc0,hco,if_pos hbo]);have HI:=hid (λw' (e:Ext w w')=>binding_f IH.out (op:=(o:Int)) (T+1) (HV.out.1.ext e) HV.out.2 HS.out.2.2 HT1.out (by have:=HOO.out.2;omega));rw[qB,HS.out.1,HD.out]at HI;clear hco hcs hc0 hjo hbo;go_upto_region 18 with(first| (go_at_call 73;go_must (refine zG (HWD.out _) ?_;rintro e w5 ⟨rfl,e5⟩;replace HEr:=hid (HEr.out.trans e5);clear e5))| (go_at_call 63;go_must (refine zG (HTW.out _) ?_;rintro e w6 ⟨rfl,rfl⟩))| (go_at_call 65;go_must (refine zG (HBI.out _) ?_;rintro e w6 ⟨rfl,rfl⟩)));clear hil hiw hee S HOO HTW HBI HWD;refine wp_region_lit (lmv (lmv (lbn (b:=.add) (T:=3) (.int .i64 (T:Int)) (.int .i64 1) (r:=.int .i64 ((T+1:Nat):Int)) (by have hx9:=hTw;go_simp) (lmv (lmv (lmv ?_))))));refine lca [.string sb,.int .i64 ((T+1:Nat):Int),.int .i64 (o:Int),v,.int .i64 d] (en func86) (HI.out _ (HE.out.trans HEr.out)) (λv W6 e1 hv=>?_);exact tNqb_4
            · have hee:(wb.toList==nb.toList)=false:=by rw[<-hwb,<-HNB.out.1,jM];exact decide_eq_false he
              have HNE:=hid (show ∀j:Nat,7<=j->j<o+1->opW (j:Int)≠nm from λj h1 h2=>by
                rcases zR j o with h|h
                ·exact S.out.2 j h1 h
                · obtain rfl:j=o:=by omega
                  exact he)
              have HO7:=hid S.out.1;clear hg ho hwb he S;go_wp2_with (first| (go_at_call 73;go_must (refine zG (HWD.out _) ?_;rintro e w5 ⟨rfl,e5⟩;replace HEr:=hid (HEr.out.trans e5);clear e5))| (go_at_call 63;go_must (refine zG (HTW.out _) ?_;rintro e w6 ⟨rfl,rfl⟩))| (go_at_call 65;go_must (refine zG (HBI.out _) ?_;rintro e w6 ⟨rfl,rfl⟩)))
              go_roundg (gk-1)
              case measure=>have:=HOO.out.1;have:=HOO.out.2;omega
              case rel=>exact⟨o+1,rfl,by have:=HOO.out.1;have:=HOO.out.2;omega,HEr,hid ⟨by have:=HO7.out;omega,HNE.out⟩⟩
          · have hil:¬((o:Int)<=13):=by omega
            have HR:=hid (show exR (k+1) b (s.drop a)=none by
              rw[HCS2.out,calR,if_neg HV0.out,if_pos (callO_no (λj h1 h2=>S.out.2 j h1 (by omega)))])
            have HB3:=hid (HB.out.ext HEr.out);have HE3:=hid (HE.out.trans HEr.out);clear hg S ho;go_upto_region 19 with fail;refine wp_region_lit (lca [] (en func81) (none_r _) (λv W19 e8 hv=>?_));obtain rfl:v=.agg noV.toArray:=hv;refine lst noV (HB3.out.ext e8) xO rfl rfl zB rfl (λW6a B9 O=>zI ?_);go_wp2_with fail;exact zH (jU results42 zc (lvM zc zc rfl B9)) rfl ⟨_,rfl,O.ext (HE3.out.trans e8) (zN _),jP HR.out⟩
      · have HT:=hid (HNS.out (by
          rw[takeP_pre,if_neg];rintro⟨t,ht⟩;apply hTq;have:=congrArg (λl=>l[0]?) ht;simp only[List.getElem?_drop,Nat.add_zero]at this
          rw[<-this];rfl))
        have HHS:=hid (λw' (e:Ext w w')=>Has_f (s:=nm) ((HV.out.1.ext e).sr jt) jt);have hbc:b.contains nm=decide (nm∈b):=by by_cases h:nm∈b <;> simp[h]
        have HT2:=hid (show exR (k+1) b (s.drop a)=some (⟨if decide (nm∈b)=true then 11 else 2,nm,0,0,0,0, []⟩,s.drop T)by rw[HT.out,namR,hbc]);obtain⟨bo,hbo⟩:∃r,decide (nm∈b)=r:=⟨_,rfl⟩;rw[hbo]at HHS HT2;clear HT HCS HNS hbo hbc;have HTB:=hid (show T<=s.length by rw[HS.out.2.1];exact HTL.out.2);have HNBx:=hid (show qB nm=.string nb by rw[qB,HNB.out.1]);by_cases hTlt:T<n
        · have hTi:(T:Int)<(n:Int):=by omega
          have hT0:(0:Int)<=(T:Int):=ze
          obtain⟨c2,hc2⟩:∃c,s[T]? =some c:=⟨_,List.getElem?_eq_getElem (by rw[HS.out.2.1];exact hTlt)⟩;obtain⟨hj2,-⟩:=ba_at HS.out.1 hc2;have hct2:=ba_atn HS.out.1 hc2 hj2
          have d402:(((c2.toNat:Nat):Int)==40)=false:=by
            rw[zJ];intro e;apply hTq;rw[hc2,UInt8.toNat_inj.1 (show c2.toNat=(40:UInt8).toNat by have:(40:UInt8).toNat=40:=rfl;omega)]
          generalize c2.toNat=kc2 at hct2 d402;clear hTq hTlt hc2;go_enter func42,ntmps42;go_upto_region 1 with fail;rw[<-hW];clear hW;go_upto_region 20 with(first| (go_at_call 79;go_must (refine zG (HL.out _) ?_;rintro e w1 ⟨rfl,rfl⟩))| (go_at_call 41;go_must (refine zG (HRU.out _) ?_;rintro e w1 ⟨rfl,rfl⟩)));clear hct2 d402 hct d40 h2 hTi;exact tNqb_1
        · have hTi:¬((T:Int)<(n:Int)):=by omega
          clear hTq hTlt;go_enter func42,ntmps42;go_upto_region 1 with fail;rw[<-hW];clear hW;go_upto_region 20 with(first| (go_at_call 79;go_must (refine zG (HL.out _) ?_;rintro e w1 ⟨rfl,rfl⟩))| (go_at_call 41;go_must (refine zG (HRU.out _) ?_;rintro e w1 ⟨rfl,rfl⟩)));clear hct d40 h2 hTi;exact tNqb_1
end
end Go.Proofs.YtenhciieboegbaaGreatDoor
