/-
  The reference: zero values, words of operations, sizes, patterns.
  The reference: patterns.
-/
import Derived.Test.YtenhciieboegbaaGreatDoorNr1
namespace Go.Proofs.YtenhciieboegbaaGreatDoor
open Go Go.RowKit Go.Maps
open Go.Proofs.Tryz
theorem yk{P:Prop}(h:P:=by exact⟨_,List.getElem?_eq_getElem (by rw[HN.out.1];exact hi)⟩):P:=h
theorem yq{P:Prop}(h:P:=by rw[List.drop_eq_getElem_cons (List.getElem?_eq_some_iff.1 hc).1,(List.getElem?_eq_some_iff.1 hc).2]):P:=h
theorem nd_block(w:World)(us:List Value):∃W,W=w.alloc (.cells us.toArray 32)/\Ext w W/\Bk W w.heap.size us:=⟨_,rfl,(Ext.refl w).alloc _,by simpa using Bk.new w us.toArray 32⟩
section
set_option maxRecDepth 100000
set_option maxHeartbeats 8000000
theorem zero_f{B:Nat}{x:Nd}{us:List Value}{w:World}(hx:NdC B w x us):Calls prog 64 #[.agg us.toArray] w (RVal w (.bool (decide (x.v=0)))):=by
  obtain⟨s,a,m,c,ao,cp,rfl,hI,-⟩:=hx.out;obtain⟨r,hr⟩:∃r,decide (x.v=0)=r:=⟨_,rfl⟩;have HR:=hid (show r=decide (m=0/\s=false)from by rw[<-hr];exact decide_eq_decide.2 hI.zr.symm);rw[hr];obtain⟨W,hW,E,B⟩:=nd_block w [.int .i64 x.op,qB x.nm,.int .i64 x.n,.bool s,.slice a m c,.int .i64 x.lo,.int .i64 x.hi,.slice ao x.ps.length cp];have c3:=B.c 3 _ rfl;have c4:=B.c 4 _ rfl;have HE:=hid E;clear hx hI hr E B;go_enter func64,ntmps64;go_upto_region 1 with fail;rw[<-hW];clear hW;cases s with
  | true=>
    obtain rfl:r=false:=by rw[HR.out];simp
    go_wp2_with fail
    go_ret
    exact⟨rfl,HE.out⟩
  | false=>
    by_cases hm:m=0
    · subst hm
      obtain rfl:r=true:=by rw[HR.out];simp
      go_wp2_with fail
      go_ret
      exact⟨rfl,HE.out⟩
    · obtain rfl:r=false:=by rw[HR.out];simp[hm]
      have hm2:((m:Int)==0)=false:=by simpa using hm
      clear hm;go_wp2_with fail
      go_ret
      exact⟨rfl,HE.out⟩
def nm14V:List Value:= [.string ⟨#[]⟩,.string ⟨#[]⟩,.string ⟨#[]⟩,.string ⟨#[]⟩,.string ⟨#[43]⟩,.string ⟨#[45]⟩,.string ⟨#[42]⟩,.string ⟨#[109,105,110]⟩,.string ⟨#[109,97,120]⟩,.string ⟨#[99,111,117,110,116]⟩,.string ⟨#[102,105,114,115,116]⟩,.string ⟨#[]⟩,.string ⟨#[108,101,115,115]⟩,.string ⟨#[101,113,117,97,108]⟩]
theorem nm14_of{op:Int}(h:xM op=true\/qZ op=true):∃j:Nat,op=(j:Int)/\j<14/\nm14V[j]? =some (qB (opW op)):=by
  simp only[xM,qZ,Bool.or_eq_true,zS]at h;rcases(by omega:op=4\/op=5\/op=6\/op=7\/op=8\/op=9\/op=10\/op=12\/op=13)with rfl|rfl|rfl|rfl|rfl|rfl|rfl|rfl|rfl
  ·exact⟨4,rfl,by decide,rfl⟩
  ·exact⟨5,rfl,by decide,rfl⟩
  ·exact⟨6,rfl,by decide,rfl⟩
  ·exact⟨7,rfl,by decide,rfl⟩
  ·exact⟨8,rfl,by decide,rfl⟩
  ·exact⟨9,rfl,by decide,rfl⟩
  ·exact⟨10,rfl,by decide,rfl⟩
  ·exact⟨12,rfl,by decide,rfl⟩
  ·exact⟨13,rfl,by decide,rfl⟩
theorem word42_v{j:Nat}(hj:j<14)(hv:nm14V[j]? =some (qB (opW (j:Int))))(w:World):Calls prog 73 #[.int .i64 (j:Int)] w (RVal w (qB (opW (j:Int)))):=by
  obtain⟨sb,hsb⟩:∃y:ByteArray,(⟨(opW (j:Int)).toArray⟩:ByteArray)=y:=⟨_,rfl⟩;rw[qB,hsb]at hv;rw[qB,hsb];have HV:=hid hv;clear hsb hv;go_enter func73,ntmps73;go_upto_region 1 with fail;refine rgs 2 [some 4,some 3] [IsRw 0 nm14V,IsRw 0 nm14V] [] ?_ ?_
  · refine Rc (bsC (xs:=nm14V) (hr:=λa w=>⟨9,by unfold nm14V;go_simp⟩)) ?_
    refine Rc (mv (qA (fP:=IsRw 0 nm14V) 0 4)) ?_;exact rn0
  intro x W1 e1 hΦ _;obtain⟨a1,c1,hv1,hnm⟩:=hΦ 1 dcx;rw[show nm14V.length=14 from rfl]at hv1;simp only[lxE,Nat.reduceAdd];rw[hv1];obtain⟨gn,rfl,-,hcells⟩:=hnm (by simp[nm14V]);have c0:World.cell? W1 ⟨gn,j,none⟩=some (.string sb):=hcells j _ HV.out;have hil:(j:Int)<(14:Int):=ze
  have hi0:(0:Int)<=(j:Int):=ze
  have HE:=hid e1;clear hΦ hv1 hnm hcells e1;refine zI ?_;go_wp2_with fail
  go_ret
  exact⟨rfl,HE.out⟩
theorem word42_f{op:Int}(h:xM op=true\/qZ op=true)(w:World):Calls prog 73 #[.int .i64 op] w (RVal w (qB (opW op))):=by
  obtain⟨j,rfl,hj,hv⟩:=nm14_of h;exact word42_v hj hv w
theorem Size_f:∀(k:Nat) (x:Nd) (us:List Value) (w:World),k<=1000000->hgN k x->NdC 0 w x us->Calls prog 35 #[.agg us.toArray] w (RVal w (.int .i64 ((cntN x:Nat):Int))):=by
  intro k
  induction k with
  |zero=>intro x us w _ h;exact h.elim
  | succ k ih=>
    intro x us w hk hh hx;obtain⟨s,a,m,c,ao,cp,rfl,-,hc1,hc2,hps⟩:=hx.out;have IH:=hid ih;have HH:=hid hh;have HX:=hid hx;have HP:=hid hps;have HK:=hid hk;obtain⟨sb,hsb⟩:∃y,qB x.nm=y:=⟨_,rfl⟩;obtain⟨n,hn⟩:∃n,x.ps.length=n:=⟨_,rfl⟩;rw[hsb,hn];obtain⟨W,hW,E,B⟩:=nd_block w [.int .i64 x.op,sb,.int .i64 x.n,.bool s,.slice a m c,.int .i64 x.lo,.int .i64 x.hi,.slice ao n cp];have HN:=hid (show x.ps.length=n/\n<=cp/\cp<=9223372036854775807 from⟨hn,hn▸hc1,hc2⟩);have c7:=B.c 7 _ rfl;have HB:=hid B;have HE:=hid E;obtain⟨z,hz⟩:∃z,cntN x=z:=⟨_,rfl⟩;have HZ:=hid (show cntL 1 x.ps=z by rw[<-hz,cntN_ps]);rw[hz];generalize x.op=op at*;generalize x.n=xn at*;generalize x.lo=lo at*;generalize x.hi=hi at*;clear ih hk hh hx hps hsb hn E B hc1 hc2 hz;go_enter func35,ntmps35;go_upto_region 1 with fail;rw[<-hW];clear hW;go_wp2_with fail;clear c7
    go_loopg [3,4] n (λgk v3 v4 wr=>∃(i m':Nat),v4=.int .i64 (i:Int)/\v3=.int .i64 (m':Int)/\i+gk=n/\Hid (Ext W wr/\z=cntL m' (x.ps.drop i)/\m'<=200*(k+1)))
    case atStart=>exact⟨0,1,rfl,rfl,by omega,hid ⟨Ext.refl _,by rw[List.drop_zero];exact HZ.out.symm,by omega⟩⟩
    case round=>
      obtain⟨i,m',rfl,rfl,hg,S⟩:=hrel;have c7:=(HB.out.ext S.out.1).c 7 _ rfl;by_cases hi:i<n
      · have hil:(i:Int)<(n:Int):=by omega
        by_cases hm:m'<=200
        · have hm2:(m':Int)<=200:=by omega
          obtain⟨y,hy⟩:∃y,x.ps[i]? =some y:=yk;obtain⟨g,o,rfl,-,hR⟩:=HP.out (λe=>by rw[e]at hy;cases hy);obtain⟨us,hl8,hcs,hy2⟩:=hR.get hy;have hiw:IntKind.i64.wrap ((i:Int)+1)=((i+1:Nat):Int):=zy
          have hhy:hgN k y:=HH.out y (List.mem_of_getElem? hy);obtain⟨q,hq⟩:∃q,cntN y=q:=⟨_,rfl⟩;have hql:q<=200*k:=by rw[<-hq];exact hg_cnt k y hhy
          have hmw:IntKind.i64.wrap ((m':Int)+(q:Int))=((m'+q:Nat):Int):=by have:=HK.out;simp only[IntKind.wrap_i64];omega
          have HS2:=hid (show z=cntL (m'+q) (x.ps.drop (i+1))/\m'+q<=200*(k+1)from⟨by rw[S.out.2.1,cntL_drop hy hm,hq],by omega⟩);have ER:=hid (HE.out.trans S.out.1);have HCC:=hid (λw' (e:Ext w w')=>IH.out y us w' (by have:=HK.out;omega) hhy (hy2.ext e));rw[hq]at HCC;have HCC:Hid (∀w',Ext w w'->Calls prog 35 #[.agg us.toArray] w' (RVal w' (.int .i64 (q:Int)))):=HCC;have HC:=hid (zL hl8 hcs);have HG:=hid (zL hg hi);clear hg hi hm hR hl8 hcs hy2 hy hq hql hhy;go_upto_region 5 with fail;clear c7;refine rgs 8 (dR 16 8) [iV (m':Int),IsP (w.heap.size) 7,IsV (.slice (some ⟨g,o,none⟩) n cp),iV (i:Int),IsP g (o+8*i),IsV (.agg us.toArray),iV (q:Int),iV ((m'+q:Nat):Int)] [] ?_ ?_
          · refine Rc (mv (qC (x:=.int .i64 (m':Int)) 3)) ?_
            refine Rc (fa (qN w.heap.size) (qC 1)) ?_;refine Rc (lvC 7 (HB.out.ext S.out.1) qQ (qA 1 17)) ?_;refine Rc jl ?_;refine Rc (ixq (xC g o cp n i HG.out.2) (qA 2 18) (qA (fP:=iV (i:Int)) 3 19)) ?_;refine Rc (lv (fP:=IsV (.agg us.toArray)) _ (λw' e=>ldM zc zc HC.out.1 (λj v hj=>(ER.out.trans e).cell (HC.out.2 j v hj))) (qA 4 20) (λ_ _=>rfl)) ?_;refine Rc (cl1 (fP:=IsV (.agg us.toArray)) (fQ:=iV (q:Int)) (en func35) (qA 5 21) (λx0 w' hE d0=>by{obtain rfl:x0=.agg us.toArray:=d0;exact zG (HCC.out w' (ER.out.trans hE)) (λe w2 h=>⟨_,h.1,h.2,rfl⟩)})) ?_;refine Rc (bn (p:=.int .i64 (m':Int)) (q:=.int .i64 (q:Int)) (r:=.int .i64 ((m'+q:Nat):Int)) (qA 0 16) (qA 6 22) rfl (λw=>by have hx9:=hmw;go_simp)) ?_;exact rn0
          intro u X4 e4 hΦ _;simp only[lxE,Nat.reduceAdd];rw[show u 7=.int .i64 ((m'+q:Nat):Int)from hΦ 7 dcx];have E4:=hid (S.out.1.trans e4);clear hΦ e4 S;refine stL (λK hK=>qV (hK _ _ ?_));clear hK K
          go_simp
          refine zI ?_;go_wp2_with fail
          go_roundg (gk-1)
          case measure=>have:=HG.out;omega
          case rel=>exact⟨i+1,m'+q,rfl,rfl,by have:=HG.out;omega,hid ⟨E4.out,HS2.out⟩⟩
        · have hm2:¬(m':Int)<=200:=by omega
          have HZ2:=hid (show z=m' by rw[S.out.2.1,cntL_at (by omega)]);clear hm hg hi;go_wp2_with fail
          go_ret
          exact⟨by rw[HZ2.out];rfl,HE.out.trans S.out.1⟩
      · have hil:¬((i:Int)<(n:Int)):=by omega
        have HZ2:=hid (show z=m' by rw[S.out.2.1,List.drop_of_length_le (by rw[HN.out.1];omega),cntL_nil]);clear hg hi;go_wp2_with fail
        go_ret
        exact⟨by rw[HZ2.out];rfl,HE.out.trans S.out.1⟩
end
theorem clsZ_at{s:List UInt8}{i:Nat}{c:UInt8}(h:s[i]? =some c)(hc:c=123):clsZ s i=if (125:UInt8)∈s.drop (i+1)then((i+1+((s.drop (i+1)).takeWhile (· !=125)).length:Nat):Int)else -1:=by
  rw[clsZ_step h,if_neg (by rw[hc];decide)];rfl
section
set_option maxRecDepth 100000
set_option maxHeartbeats 8000000
theorem tNr3_1{P:Prop}(h:P:=by
  cases p1 <;> cases p2
  all_goals
    go_wp2_with (first| (go_at_call 79;go_must (refine zG (HL.out _) ?_;rintro e w1 ⟨rfl,rfl⟩))| (go_at_call 80;go_must (refine zG (HD.out _) ?_;rintro e w1 ⟨rfl,rfl⟩)))
    go_roundg (n-(i+1))
    case measure=>have:=HG.out;omega
    case rel=>exact⟨i+1,rfl,rfl,hid ⟨HI1.out,HE.out,HY.out⟩⟩
  ):P:=h
theorem rpat_f {b:Sc}{v:Value}{w:World}(h:IsSr b v w)(hb:b.length<=1000000000)(s:List UInt8):Calls prog 68 #[qB s,v] w (RVal w (.bool (patB b s))):=by
  obtain⟨n,hn⟩:∃n,s.length=n:=⟨_,rfl⟩;obtain⟨q,hq⟩:∃r,patB b s=r:=⟨_,rfl⟩;obtain⟨sb,hsb⟩:∃y:ByteArray,(⟨s.toArray⟩:ByteArray)=y:=⟨_,rfl⟩;have hsz:sb.size=n:=jp
  have HQ:=hid hq;have HS:=hid (zL hsb hn);have HV:=hid (zL h hb);rw[qB,hsb,hq];clear hq hsb hn h hb;by_cases h0:n=0
  · subst h0
    obtain rfl:q=false:=by rw[<-HQ.out,List.length_eq_zero_iff.1 HS.out.2];rfl
    go_enter func68,ntmps68;go_wp2_with fail
    go_ret
    exact⟨rfl,Ext.refl _⟩
  by_cases h60:60<n
  · have hle:(60:Int)<(n:Int):=by omega
    have hle2:¬(n:Int)<1:=ze
    obtain rfl:q=false:=by rw[<-HQ.out,patB,decide_eq_false (show ¬s.length<=60 by rw[HS.out.2];omega)];simp
    go_enter func68,ntmps68;go_wp2_with fail
    go_ret
    exact⟨rfl,Ext.refl _⟩
  have hle:¬(60:Int)<(n:Int):=ze
  have hle2:¬(n:Int)<1:=ze
  have HP:=hid (show patL b s.length s=q by
    rw[<-HQ.out,patB,decide_eq_true (show s≠ []from λe=>h0 (by rw[<-HS.out.2,e];rfl)),decide_eq_true (show s.length<=60 by rw[HS.out.2];omega)];simp)
  have HN:=hid (show n<=60 by omega);clear h0 h60;go_enter func68,ntmps68;go_wp2_with fail;clear hle hle2
  go_loopg [5,6,7] n (λgk v5 v6 v7 wr=>∃i:Nat,v5=.int .i64 (i:Int)/\gk=n-i/\Hid (i<=n/\Ext w wr/\patL b (s.drop i).length (s.drop i)=q))
  case atStart=>exact⟨0,rfl,rfl,hid ⟨Nat.zero_le _,Ext.refl _,by rw[List.drop_zero];exact HP.out⟩⟩
  case round=>
    obtain⟨i,rfl,hg,S⟩:=hrel;by_cases hi:i<n
    · have hil:(i:Int)<(n:Int):=by omega
      have hi0:(0:Int)<=(i:Int):=ze
      have hiw:IntKind.i64.wrap ((i:Int)+1)=((i+1:Nat):Int):=zy
      obtain⟨c,hc⟩:∃c,s[i]? =some c:=⟨_,List.getElem?_eq_getElem (by rw[HS.out.2];exact hi)⟩;obtain⟨hj,-⟩:=ba_at HS.out.1 hc;have hct:=ba_atn HS.out.1 hc hj;have hd:s.drop i=c ::s.drop (i+1):=yq
      have hP:=S.out.2.2;rw[hd,pat_cons]at hP;have HE:=hid S.out.2.1;have HG:=hid (zL hg hi);by_cases h3:c=123
      · have hz:=clsZ_at hc h3
        rw[if_pos h3]at hP;have k3:c.toNat=123:=by rw[h3];rfl
        rw[k3]at hct;have hcl:=closing_f s i wr (by rw[HS.out.2];have:=HN.out;omega);rw[hz]at hcl;obtain⟨t,ht⟩:∃t,s.drop (i+1)=t:=⟨_,rfl⟩;have htl:t.length=n-(i+1):=by rw[<-ht,List.length_drop,HS.out.2]
        have htw:=tw_take 125 t;rw[ht]at hcl hP;obtain⟨nm,hnm⟩:∃x,t.takeWhile (· !=125)=x:=⟨_,rfl⟩;obtain⟨rs,hrs⟩:∃x,(t.dropWhile (· !=125)).drop 1=x:=⟨_,rfl⟩;rw[hnm,hrs]at htw hP;rw[hnm]at hcl;have hnl:nm.length<=t.length:=by rw[<-hnm];exact(List.takeWhile_prefix _).length_le
        by_cases hm:(125:UInt8)∈t
        · have hnl2:nm.length<t.length:=by
            rcases zR nm.length t.length with h|h
            ·exact h
            · have h2:t.takeWhile (· !=125)=t:=by
                have h3:=(List.takeWhile_prefix (l:=t) (· !=(125:UInt8))).eq_of_length (by rw[hnm];omega);exact h3
              have:=List.all_eq_true.1 (List.all_takeWhile (l:=t) (p:=(· !=(125:UInt8)))) 125 (by rw[h2];exact hm);simp at this
          rw[if_pos hm]at hcl;rw[decide_eq_true hm,Bool.true_and]at hP;obtain⟨T,hT⟩:∃T,i+1+nm.length=T:=⟨_,rfl⟩;rw[hT]at hcl
          have hx:sb.extract (i+1) T=⟨nm.toArray⟩:=by
            rw[<-HS.out.1,ba_ex,ht,show T-(i+1)=nm.length by omega,htw.1]
          have hrT:s.drop (T+1)=rs:=by rw[<-htw.2,<-ht,List.drop_drop];congr 1;omega
          obtain⟨nb,hnb⟩:∃y:ByteArray,(⟨nm.toArray⟩:ByteArray)=y:=⟨_,rfl⟩;rw[hnb]at hx;have hTn:T<n:=ze
          have hTi:(i:Int)+1<=(T:Int):=ze
          have hTi2:((i+1:Nat):Int)<=(T:Int):=ze
          have hTn2:(T:Int)<=(n:Int):=ze
          have hT0:¬(T:Int)<0:=ze
          have hT1:(0:Int)<=(T:Int):=ze
          have hTw:IntKind.i64.wrap ((T:Int)+1)=((T+1:Nat):Int):=zy
          have hi1:(0:Int)<=((i+1:Nat):Int):=ze
          have hi2:i+1<=T:=ze
          have hi3:T<=n:=ze
          have hN:=λw=>Name_f nm w
          have hB:=λw' (e:Ext w w')=>Has_f (s:=nm) (HV.out.1.ext e) HV.out.2
          obtain⟨r1,hr1⟩:∃x,qT nm=x:=⟨_,rfl⟩;obtain⟨r2,hr2⟩:∃x,b.contains nm=x:=⟨_,rfl⟩;have hr3:decide (nm∈b)=r2:=by rw[<-hr2,Bool.eq_iff_iff];simp
          rw[hr1,hr2]at hP;simp only[hr1,hr3,qB,hnb]at hN hB;have HCL:=hid hcl;have HN2:=hid hN;have HB2:=hid hB;have HR:=hid (show(r1&&(r2&&patL b rs.length rs))=q from hP);have HT:=hid (zL hTn hrT);clear hcl hN hB hP hr1 hr2 hr3 hnb hrT htw hnm hrs hm hnl hnl2 ht hz hd hc h3 hg hi hTn hT htl S;rw[qB,HS.out.1]at HCL;cases r1 with
          | false=>
            obtain rfl:q=false:=HR.out.symm;go_wp2_with (first| (go_at_call 108;go_must (refine zG HCL.out ?_;rintro e w1 ⟨rfl,rfl⟩))| (go_at_call 34;go_must (refine zG (HN2.out _) ?_;rintro e w2 ⟨rfl,e2⟩)))
            go_ret
            exact⟨rfl,HE.out.trans e2⟩
          | true=>
            cases r2 with
            | false=>
              obtain rfl:q=false:=HR.out.symm;go_wp2_with (first| (go_at_call 108;go_must (refine zG HCL.out ?_;rintro e w1 ⟨rfl,rfl⟩))| (go_at_call 34;go_must (refine zG (HN2.out _) ?_;rintro e w2 ⟨rfl,e2⟩))| (go_at_call 26;go_must (refine zG (HB2.out _ (HE.out.trans e2)) ?_;rintro e w3 ⟨x,rfl,e3,hx3⟩;obtain rfl:x=.bool false:=hx3)))
              go_ret
              exact⟨rfl,(HE.out.trans e2).trans e3⟩
            | true=>
              go_wp2_with (first| (go_at_call 108;go_must (refine zG HCL.out ?_;rintro e w1 ⟨rfl,rfl⟩))| (go_at_call 34;go_must (refine zG (HN2.out _) ?_;rintro e w2 ⟨rfl,e2⟩))| (go_at_call 26;go_must (refine zG (HB2.out _ (HE.out.trans e2)) ?_;rintro e w3 ⟨x,rfl,e3,hx3⟩;obtain rfl:x=.bool true:=hx3)))
              go_roundg (n-(T+1))
              case measure=>have:=HG.out;have:=HT.out.1;omega
              case rel=>exact⟨T+1,rfl,rfl,hid ⟨by have:=HT.out.1;omega,(HE.out.trans e2).trans e3,by rw[HT.out.2];exact HR.out⟩⟩
        · rw[if_neg hm]at hcl
          rw[decide_eq_false hm,Bool.false_and]at hP;subst hP;rw[qB,HS.out.1]at hcl;have HCL:=hid hcl;clear hcl htw hnm hrs hm hnl ht hz hd hc h3 hg hi htl S;go_wp2_with (go_at_call 108;go_must (refine zG HCL.out ?_;rintro e w1 ⟨rfl,rfl⟩))
          go_ret
          exact⟨rfl,HE.out⟩
      · rw [if_neg h3]at hP
        have HI1:=hid (show i+1<=n by omega);have hk3:¬c.toNat=123:=λe=>h3 (UInt8.toNat_inj.1 e)
        rw[show decide (c=58)=decide (c.toNat=58)from decide_eq_decide.2 (by rw[<-UInt8.toNat_inj];exact Iff.rfl),show decide (c=45)=decide (c.toNat=45)from decide_eq_decide.2 (by rw[<-UInt8.toNat_inj];exact Iff.rfl)]at hP;have hL:=λw=>letter_f c w
        have hD:=λw=>digit_f c w
        obtain⟨p1,hp1⟩:∃p,xP c=p:=⟨_,rfl⟩;obtain⟨p2,hp2⟩:∃p,cDig c=p:=⟨_,rfl⟩;rw[hp1,hp2]at hP;simp only[hp1,hp2,bV]at hL hD;generalize c.toNat=k at hct hL hD hP hk3;have k3:((k:Int)==123)=false:=jh
        have HL:=hid hL;have HD:=hid hD;have HR:=hid (show((p1||p2||decide (k=58)||decide (k=45))&&patL b (s.drop (i+1)).length (s.drop (i+1)))=q from hP);clear hL hD hP hp1 hp2 hk3 hc hd h3 hg hi S;by_cases h58:k=58
        · have d58:((k:Int) !=58)=false:=by simp;omega
          have HY:=hid (show patL b (s.drop (i+1)).length (s.drop (i+1))=q by rw[<-HR.out,decide_eq_true h58];simp);clear h58;exact tNr3_1
        · have d58:((k:Int) !=58)=true:=by simp;omega
          by_cases h45:k=45
          · have d45:((k:Int) !=45)=false:=by simp;omega
            have HY:=hid (show patL b (s.drop (i+1)).length (s.drop (i+1))=q by rw[<-HR.out,decide_eq_true h45];simp);clear h58 h45;exact tNr3_1
          · have d45:((k:Int) !=45)=true:=by simp;omega
            have HY:=hid (show((p1||p2)&&patL b (s.drop (i+1)).length (s.drop (i+1)))=q by rw[<-HR.out,decide_eq_false h58,decide_eq_false h45];simp);clear h58 h45;cases p1 <;> cases p2
            all_goals
              go_wp2_with (first| (go_at_call 79;go_must (refine zG (HL.out _) ?_;rintro e w1 ⟨rfl,rfl⟩))| (go_at_call 80;go_must (refine zG (HD.out _) ?_;rintro e w1 ⟨rfl,rfl⟩)))
              first
              | (go_ret
                 exact⟨by rw[<-HY.out];rfl,HE.out⟩)
              | (go_roundg (n-(i+1))
                 case measure=>have:=HG.out;omega
                 case rel=>exact⟨i+1,rfl,rfl,hid ⟨HI1.out,HE.out,HY.out⟩⟩)
    · have hil:¬((i:Int)<(n:Int)):=by omega
      obtain rfl:q=true:=by
        have h:=S.out.2.2;rw[List.drop_of_length_le (by rw[HS.out.2];omega)]at h;rw[<-h];rfl
      go_wp2_with fail
      go_ret
      exact⟨rfl,S.out.2.1⟩
end
end Go.Proofs.YtenhciieboegbaaGreatDoor
