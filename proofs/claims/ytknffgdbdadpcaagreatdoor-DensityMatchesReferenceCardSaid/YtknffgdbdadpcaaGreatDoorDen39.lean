/-
 The reference of genus: the names of the characters of a discriminant.
-/
import Derived.Test.YtknffgdbdadpcaaGreatDoorDen12
import Derived.Test.YtknffgdbdadpcaaGreatDoorRwz
import Derived.Test.YtknffgdbdadpcaaGreatDoorDen36
namespace Go.Proofs.YtknffgdbdadpcaaGreatDoor
open Go Go.RowKit
open Go.Proofs.Tryz
theorem zi{P:Prop}(h:P:=by have:=HLE.out;(try simp only[zP,List.length_singleton]);omega):P:=h
theorem zu{P:Prop}(h:P:=by simp[results,results103,go_sem];rfl):P:=h
theorem zz{P:Prop}(h:P:=by have h1:=HC.out.2.size;simp;omega):P:=h
set_option maxRecDepth 100000
set_option maxHeartbeats 8000000
theorem chO_end{f q r:Nat}(h:r<q*q)(hr:1<r):chO (f+1) q r= [(r:Int)]:=by
 unfold chO;rw[if_neg (by omega)];dsimp only;rw[if_pos h,Nat.mod_self,if_pos rfl,vl_self (by omega),Nat.pow_one,Nat.div_self (by omega),chO_one];rfl
theorem IR.add{base:Nat}{W:World}{v:Value}{xs:List Int}{c:Int}(h:Rwg 3 1 base W v (xs.length+1) ((xs.map λx=>Value.int .i64 x)++ [.int .i64 c])):IR base W v (xs++ [c]):=by
 unfold IR;rw[zP,List.map_append];exact h
theorem IR.zero(w:World){base:Nat}(hb:base<=w.heap.size):IR base (w.alloc (.cells #[] 3)) (.slice (some ⟨w.heap.size,0,none⟩) 0 0) []:=Rwg.zero w hb
theorem rchars_f(w:World)(n:Nat)(hn:1<=n/\n<=4194304):Calls prog 103 #[.int .i64 (-(n:Int))] w (Ret w (λv W'=>IR w.heap.size W' v (chN n))):=by
 have HN:=hid hn;have hw1:IntKind.i64.wrap (-(-(n:Int)))=(n:Int):=zo
 go_enter func103,ntmps103;go_upto_region 3 with fail;clear hw1;obtain⟨w0,hw0⟩:∃w0,w.alloc (.cells #[] 3)=w0:=⟨_,rfl⟩;have HC0:=hid (show IR w.heap.size w0 (.slice (some ⟨w.heap.size,0,none⟩) 0 0) []/\Ext w w0 from⟨hw0▸IR.zero w (zL _),hw0▸(Ext.refl _).alloc _⟩);rw[hw0];clear hw0;generalize hv0:Value.slice (some ⟨w.heap.size,0,none⟩) 0 0=v0 at*;clear hv0;obtain⟨N,hN⟩:∃N,n/2^vl 2 n=N:=⟨_,rfl⟩;have HNN:=hid hN
 have hNb:0<N/\N<=n:=by
  have h1:=Nat.div_le_self n (2^vl 2 n);obtain⟨m,e,hm,m0⟩:=xS (p:=2) dcx hn.1
  have:n/2^vl 2 n=m:=by
   conv=>lhs;lhs;rw[e]
   exact Nat.mul_div_cancel_left m (Nat.pow_pos dcx)
  omega
 have HNB:=hid hNb
 go_loopg [4] n (λgk v4 wr=>v4=.int .i64 ((gk:Nat):Int)/\w0=wr/\0<gk/\gk<=n/\gk/2^vl 2 gk=N)
 case atStart=>exact⟨rfl,rfl,hn.1,zL _,hN⟩
 case round=>
  obtain⟨rfl,rfl,hg0,hgn,hgv⟩:=hrel;by_cases hpar:gk%2=0
  ·obtain⟨m,hm⟩:∃m,gk/2=m:=⟨_,rfl⟩;have hx1:(gk:Int).tmod 2=0:=by rw[zG (by omega)];omega
   have hx2:(gk:Int)%2=0:=zb
   have hx3:(gk:Int).tdiv 2=(m:Int):=zac
   have hx4:(gk:Int)/2=(m:Int):=zb
   have hx5:IntKind.i64.wrap (m:Int)=(m:Int):=zo
   have HV:=hid (show m/2^vl 2 m=N by rw[<-hm,vl_down dcx hg0 hpar];exact hgv);have HG:=hid (show 0<m/\m<gk/\m<=n by omega);clear hg0 hgn hgv hpar hm hn hN hNb;go_wp2_with fail
   go_roundg m
   case measure=>exact HG.out.2.1
   case rel=>exact⟨rfl,rfl,HG.out.1,HG.out.2.2,HV.out⟩
  ·have hgN:gk=N:=by rw[<-hgv,xL dcx hg0 (λh=>hpar (Nat.mod_eq_zero_of_dvd h))];simp
   subst hgN;have hx1:(gk:Int).tmod 2=1:=zab
   have hx2:(gk:Int)%2=1:=zb
   clear hg0 hgn hgv hpar hn hN hNb;go_upto_region 6 with fail;clear hx1 hx2;obtain⟨T,hT⟩:∃T,chO n 3 gk=T:=⟨_,rfl⟩;have HT:=hid hT;obtain⟨G,hG⟩:∃G,G=gk:=⟨_,rfl⟩;subst hG
   go_loopg [3,4,5] n (λgk2 v3 v4 v5 wr2=>∃(pre:List Int) (q r:Nat),v4=.int .i64 (r:Int)/\v5=.int .i64 (q:Int)/\pre++chO gk2 q r=T/\(r=1\/(q<=n+2/\n+3<=gk2+q))/\0<r/\r<=n/\3<=q/\q<=n+2/\pre.length+gk2<=n/\Hid (IR w.heap.size wr2 v3 pre/\Ext w wr2))
   case atStart=>exact⟨[],3,G,rfl,rfl,hT,.inr zda,HNB.out.1,HNB.out.2,zL _,by have:=HN.out;omega,by simp,HC0⟩
   case round=>
    clear hT;obtain⟨pre,q,r,rfl,rfl,hpre,hor,hr0,hrn,hq3,hqn,hlen,HC⟩:=hrel;have hn22:=HN.out.2;have hqq:q*q<=4194306*4194306:=Nat.mul_le_mul zb zb;have hw:IntKind.i64.wrap ((q:Int)*(q:Int))=(q:Int)*(q:Int):=by rw[<-Int.natCast_mul];simp only[IntKind.wrap_i64];omega
    by_cases hs:r<q*q
    ·have hs':decide ((q:Int)*(q:Int)<=(r:Int))=false:=by rw[<-Int.natCast_mul];simp only[zK];omega
     have HLE:=hid (show pre.length<=4194304 by omega);by_cases hr1:r=1
     ·subst hr1;have hs1:decide ((q:Int)*(q:Int)<=1)=false:=by rw[<-Int.natCast_mul];simp only[zK];omega
      rw[chO_one,List.append_nil]at hpre;have HCH:=hid (show chN n=pre++ch2 n by unfold chN;rw[HNN.out,HT.out,hpre]);clear hpre hor hr0 hrn hq3 hqn hlen hs hqq hn22;go_upto_region 14 with fail;clear hw hs' hs1;obtain⟨pp,rfl⟩:∃l,l=pre:=⟨_,rfl⟩;obtain⟨c,hc⟩:∃c,n%4=c:=⟨_,rfl⟩;have hc4:c<4:=by rw[<-hc];exact zR _ dcx
      have hx1:(n:Int).tmod 4=(c:Int):=zab
      have hx2:(-(n:Int)).tmod 4= -(c:Int):=by rw[Int.neg_tmod,hx1]
      have hx3:IntKind.i64.wrap (-(c:Int))= -(c:Int):=zo
      have HCC:=hid hc;by_cases hc0:c=0
      ·subst hc0;obtain⟨k,hk⟩:∃k,n/4=k:=⟨_,rfl⟩;obtain⟨e,he⟩:∃e,k%8=e:=⟨_,rfl⟩;have hnn:=HN.out;have hy1:IntKind.i64.wrap (-(-(n:Int)))=(n:Int):=by simp only[IntKind.wrap_i64];omega
       have hy0:IntKind.i64.wrap (n:Int)=(n:Int):=zo
       have hy2:(n:Int).tdiv 4=(k:Int):=zac
       have hy3:(n:Int)/4=(k:Int):=zb
       have hy4:IntKind.i64.wrap (k:Int)=(k:Int):=zo
       have HC8:=hid (show ¬(n%4≠0)/\n/4%8=e from⟨λh=>h hc,by rw[hk];exact he⟩);have he8:e<8:=by rw[<-he];exact zR _ dcx
       obtain⟨ez,hez⟩:∃ez:Int,ez=(e:Int):=⟨_,rfl⟩;obtain⟨fz,hfz⟩:∃fz:Int,fz=((e%4:Nat):Int):=⟨_,rfl⟩;have hy5:(k:Int).tmod 8=ez:=by rw[hez,zG (by omega)];omega
       have hy6:(k:Int)%8=ez:=by rw[hez];omega
       have hy7:(k:Int).tmod 4=fz:=by rw[hfz,zG (by omega)];omega
       have hy8:(k:Int)%4=fz:=by rw[hfz];omega
       clear hc hk he hnn hc4;rcases(show e=0\/e=1\/e=2\/e=3\/e=4\/e=5\/e=6\/e=7 by omega)with rfl|rfl|rfl|rfl|rfl|rfl|rfl|rfl
       all_goals
        simp at hez hfz;subst hez;subst hfz;clear he8
       ·have HB:=hid (show chN n=pp++ [-4,8]by rw[HCH.out];unfold ch2;rw[if_neg HC8.out.1,HC8.out.2];simp);go_wp2_with (at_builtin;go_must (refine qX rfl _ _ 41 rfl w.heap.size 3 (.int .i64 0) 1 8 za xV rfl dcx _ _ _ rfl (HC.out.1.ext ((Ext.refl _).alloc _)) _ 1 _ _ rfl rfl (qP _ _ _ _ zh) zx zi zi zz ?_;intro v9 w9 hr9 hg9 hb9;replace HC:=hid (zJ (IR.add hr9) (Below.ext (HC.out.2.alloc _) hb9 (zL _)));clear hr9 hg9 hb9))
        exact zD (v:=_) zu rfl ⟨_,rfl,HC.out.2,by rw[HB.out];have h7:=HC.out.1;rw[List.append_assoc]at h7;exact h7⟩
       ·have HB:=hid (show chN n=pp++ [-4]by rw[HCH.out];unfold ch2;rw[if_neg HC8.out.1,HC8.out.2];simp);go_wp2_with (at_builtin;go_must (refine qX rfl _ _ 41 rfl w.heap.size 3 (.int .i64 0) 1 8 za xV rfl dcx _ _ _ rfl (HC.out.1.ext ((Ext.refl _).alloc _)) _ 1 _ _ rfl rfl (qP _ _ _ _ zh) zx zi zi zz ?_;intro v9 w9 hr9 hg9 hb9;replace HC:=hid (zJ (IR.add hr9) (Below.ext (HC.out.2.alloc _) hb9 (zL _)));clear hr9 hg9 hb9))
        exact zD (v:=_) zu rfl ⟨_,rfl,HC.out.2,by rw[HB.out];exact HC.out.1⟩
       ·have HB:=hid (show chN n=pp++ [-8]by rw[HCH.out];unfold ch2;rw[if_neg HC8.out.1,HC8.out.2];simp);go_wp2_with (at_builtin;go_must (refine qX rfl _ _ 41 rfl w.heap.size 3 (.int .i64 0) 1 8 za xV rfl dcx _ _ _ rfl (HC.out.1.ext ((Ext.refl _).alloc _)) _ 1 _ _ rfl rfl (qP _ _ _ _ zh) zx zi zi zz ?_;intro v9 w9 hr9 hg9 hb9;replace HC:=hid (zJ (IR.add hr9) (Below.ext (HC.out.2.alloc _) hb9 (zL _)));clear hr9 hg9 hb9))
        exact zD (v:=_) zu rfl ⟨_,rfl,HC.out.2,by rw[HB.out];exact HC.out.1⟩
       ·have HB:=hid (show chN n=pp++ []by rw[HCH.out];unfold ch2;rw[if_neg HC8.out.1,HC8.out.2];simp);go_wp2_with (fail)
        exact zD (v:=_) zu rfl ⟨_,rfl,HC.out.2,by rw[HB.out,List.append_nil];exact HC.out.1⟩
       ·have HB:=hid (show chN n=pp++ [-4]by rw[HCH.out];unfold ch2;rw[if_neg HC8.out.1,HC8.out.2];simp);go_wp2_with (at_builtin;go_must (refine qX rfl _ _ 41 rfl w.heap.size 3 (.int .i64 0) 1 8 za xV rfl dcx _ _ _ rfl (HC.out.1.ext ((Ext.refl _).alloc _)) _ 1 _ _ rfl rfl (qP _ _ _ _ zh) zx zi zi zz ?_;intro v9 w9 hr9 hg9 hb9;replace HC:=hid (zJ (IR.add hr9) (Below.ext (HC.out.2.alloc _) hb9 (zL _)));clear hr9 hg9 hb9))
        exact zD (v:=_) zu rfl ⟨_,rfl,HC.out.2,by rw[HB.out];exact HC.out.1⟩
       ·have HB:=hid (show chN n=pp++ [-4]by rw[HCH.out];unfold ch2;rw[if_neg HC8.out.1,HC8.out.2];simp);go_wp2_with (at_builtin;go_must (refine qX rfl _ _ 41 rfl w.heap.size 3 (.int .i64 0) 1 8 za xV rfl dcx _ _ _ rfl (HC.out.1.ext ((Ext.refl _).alloc _)) _ 1 _ _ rfl rfl (qP _ _ _ _ zh) zx zi zi zz ?_;intro v9 w9 hr9 hg9 hb9;replace HC:=hid (zJ (IR.add hr9) (Below.ext (HC.out.2.alloc _) hb9 (zL _)));clear hr9 hg9 hb9))
        exact zD (v:=_) zu rfl ⟨_,rfl,HC.out.2,by rw[HB.out];exact HC.out.1⟩
       ·have HB:=hid (show chN n=pp++ [8]by rw[HCH.out];unfold ch2;rw[if_neg HC8.out.1,HC8.out.2];simp);go_wp2_with (at_builtin;go_must (refine qX rfl _ _ 41 rfl w.heap.size 3 (.int .i64 0) 1 8 za xV rfl dcx _ _ _ rfl (HC.out.1.ext ((Ext.refl _).alloc _)) _ 1 _ _ rfl rfl (qP _ _ _ _ zh) zx zi zi zz ?_;intro v9 w9 hr9 hg9 hb9;replace HC:=hid (zJ (IR.add hr9) (Below.ext (HC.out.2.alloc _) hb9 (zL _)));clear hr9 hg9 hb9))
        exact zD (v:=_) zu rfl ⟨_,rfl,HC.out.2,by rw[HB.out];exact HC.out.1⟩
       ·have HB:=hid (show chN n=pp++ []by rw[HCH.out];unfold ch2;rw[if_neg HC8.out.1,HC8.out.2];simp);go_wp2_with (fail)
        exact zD (v:=_) zu rfl ⟨_,rfl,HC.out.2,by rw[HB.out,List.append_nil];exact HC.out.1⟩
      ·have hne:((-(c:Int)) !=0)=true:=by simp only[bne_iff_ne,ne_eq];omega
       have HB:=hid (show chN n=pp by rw[HCH.out];unfold ch2;rw[if_pos (by rw[HCC.out];exact hc0),List.append_nil]);clear hc hc0 hc4;go_wp2_with fail;exact zD (v:=_) zu rfl ⟨_,rfl,HC.out.2,by rw[HB.out];exact HC.out.1⟩
     ·obtain⟨_,hfq⟩:=hor.resolve_left hr1;obtain⟨f,rfl⟩:∃f,gk=f+1:=⟨gk-1,by omega⟩;rw[chO_end hs (by omega)]at hpre;have HCH:=hid (show chN n=(pre++ [(r:Int)])++ch2 n by unfold chN;rw[HNN.out,HT.out,hpre]);have hr2:decide ((1:Int)<(r:Int))=true:=by simp;omega
      clear hpre hor hr0 hrn hq3 hqn hlen hs hqq hn22 hr1 hfq;go_upto_region 14 with(at_builtin;go_must (refine qX rfl _ _ 41 rfl w.heap.size 3 (.int .i64 0) 1 8 za xV rfl dcx _ _ _ rfl (HC.out.1.ext ((Ext.refl _).alloc _)) _ 1 _ _ rfl rfl (qP _ _ _ _ zh) zx zi zi zz ?_;intro v9 w9 hr9 hg9 hb9;replace HC:=hid (zJ (IR.add hr9) (Below.ext (HC.out.2.alloc _) hb9 (zL _)));clear hr9 hg9 hb9));clear hw hs' hr2;replace HLE:=hid (show(pre++ [(r:Int)]).length<=4194305 by have:=HLE.out;rw[zP,List.length_singleton];omega);generalize pre++ [(r:Int)]=pp at*;obtain⟨c,hc⟩:∃c,n%4=c:=⟨_,rfl⟩;have hc4:c<4:=by rw[<-hc];exact zR _ dcx
      have hx1:(n:Int).tmod 4=(c:Int):=zab
      have hx2:(-(n:Int)).tmod 4= -(c:Int):=by rw[Int.neg_tmod,hx1]
      have hx3:IntKind.i64.wrap (-(c:Int))= -(c:Int):=zo
      have HCC:=hid hc;by_cases hc0:c=0
      ·subst hc0;obtain⟨k,hk⟩:∃k,n/4=k:=⟨_,rfl⟩;obtain⟨e,he⟩:∃e,k%8=e:=⟨_,rfl⟩;have hnn:=HN.out;have hy1:IntKind.i64.wrap (-(-(n:Int)))=(n:Int):=by simp only[IntKind.wrap_i64];omega
       have hy0:IntKind.i64.wrap (n:Int)=(n:Int):=zo
       have hy2:(n:Int).tdiv 4=(k:Int):=zac
       have hy3:(n:Int)/4=(k:Int):=zb
       have hy4:IntKind.i64.wrap (k:Int)=(k:Int):=zo
       have HC8:=hid (show ¬(n%4≠0)/\n/4%8=e from⟨λh=>h hc,by rw[hk];exact he⟩);have he8:e<8:=by rw[<-he];exact zR _ dcx
       obtain⟨ez,hez⟩:∃ez:Int,ez=(e:Int):=⟨_,rfl⟩;obtain⟨fz,hfz⟩:∃fz:Int,fz=((e%4:Nat):Int):=⟨_,rfl⟩;have hy5:(k:Int).tmod 8=ez:=by rw[hez,zG (by omega)];omega
       have hy6:(k:Int)%8=ez:=by rw[hez];omega
       have hy7:(k:Int).tmod 4=fz:=by rw[hfz,zG (by omega)];omega
       have hy8:(k:Int)%4=fz:=by rw[hfz];omega
       clear hc hk he hnn hc4;rcases(show e=0\/e=1\/e=2\/e=3\/e=4\/e=5\/e=6\/e=7 by omega)with rfl|rfl|rfl|rfl|rfl|rfl|rfl|rfl
       all_goals
        simp at hez hfz;subst hez;subst hfz;clear he8
       ·have HB:=hid (show chN n=pp++ [-4,8]by rw[HCH.out];unfold ch2;rw[if_neg HC8.out.1,HC8.out.2];simp);go_wp2_with (at_builtin;go_must (refine qX rfl _ _ 41 rfl w.heap.size 3 (.int .i64 0) 1 8 za xV rfl dcx _ _ _ rfl (HC.out.1.ext ((Ext.refl _).alloc _)) _ 1 _ _ rfl rfl (qP _ _ _ _ zh) zx zi zi zz ?_;intro v9 w9 hr9 hg9 hb9;replace HC:=hid (zJ (IR.add hr9) (Below.ext (HC.out.2.alloc _) hb9 (zL _)));clear hr9 hg9 hb9))
        exact zD (v:=_) zu rfl ⟨_,rfl,HC.out.2,by rw[HB.out];have h7:=HC.out.1;rw[List.append_assoc]at h7;exact h7⟩
       ·have HB:=hid (show chN n=pp++ [-4]by rw[HCH.out];unfold ch2;rw[if_neg HC8.out.1,HC8.out.2];simp);go_wp2_with (at_builtin;go_must (refine qX rfl _ _ 41 rfl w.heap.size 3 (.int .i64 0) 1 8 za xV rfl dcx _ _ _ rfl (HC.out.1.ext ((Ext.refl _).alloc _)) _ 1 _ _ rfl rfl (qP _ _ _ _ zh) zx zi zi zz ?_;intro v9 w9 hr9 hg9 hb9;replace HC:=hid (zJ (IR.add hr9) (Below.ext (HC.out.2.alloc _) hb9 (zL _)));clear hr9 hg9 hb9))
        exact zD (v:=_) zu rfl ⟨_,rfl,HC.out.2,by rw[HB.out];exact HC.out.1⟩
       ·have HB:=hid (show chN n=pp++ [-8]by rw[HCH.out];unfold ch2;rw[if_neg HC8.out.1,HC8.out.2];simp);go_wp2_with (at_builtin;go_must (refine qX rfl _ _ 41 rfl w.heap.size 3 (.int .i64 0) 1 8 za xV rfl dcx _ _ _ rfl (HC.out.1.ext ((Ext.refl _).alloc _)) _ 1 _ _ rfl rfl (qP _ _ _ _ zh) zx zi zi zz ?_;intro v9 w9 hr9 hg9 hb9;replace HC:=hid (zJ (IR.add hr9) (Below.ext (HC.out.2.alloc _) hb9 (zL _)));clear hr9 hg9 hb9))
        exact zD (v:=_) zu rfl ⟨_,rfl,HC.out.2,by rw[HB.out];exact HC.out.1⟩
       ·have HB:=hid (show chN n=pp++ []by rw[HCH.out];unfold ch2;rw[if_neg HC8.out.1,HC8.out.2];simp);go_wp2_with (fail)
        exact zD (v:=_) zu rfl ⟨_,rfl,HC.out.2,by rw[HB.out,List.append_nil];exact HC.out.1⟩
       ·have HB:=hid (show chN n=pp++ [-4]by rw[HCH.out];unfold ch2;rw[if_neg HC8.out.1,HC8.out.2];simp);go_wp2_with (at_builtin;go_must (refine qX rfl _ _ 41 rfl w.heap.size 3 (.int .i64 0) 1 8 za xV rfl dcx _ _ _ rfl (HC.out.1.ext ((Ext.refl _).alloc _)) _ 1 _ _ rfl rfl (qP _ _ _ _ zh) zx zi zi zz ?_;intro v9 w9 hr9 hg9 hb9;replace HC:=hid (zJ (IR.add hr9) (Below.ext (HC.out.2.alloc _) hb9 (zL _)));clear hr9 hg9 hb9))
        exact zD (v:=_) zu rfl ⟨_,rfl,HC.out.2,by rw[HB.out];exact HC.out.1⟩
       ·have HB:=hid (show chN n=pp++ [-4]by rw[HCH.out];unfold ch2;rw[if_neg HC8.out.1,HC8.out.2];simp);go_wp2_with (at_builtin;go_must (refine qX rfl _ _ 41 rfl w.heap.size 3 (.int .i64 0) 1 8 za xV rfl dcx _ _ _ rfl (HC.out.1.ext ((Ext.refl _).alloc _)) _ 1 _ _ rfl rfl (qP _ _ _ _ zh) zx zi zi zz ?_;intro v9 w9 hr9 hg9 hb9;replace HC:=hid (zJ (IR.add hr9) (Below.ext (HC.out.2.alloc _) hb9 (zL _)));clear hr9 hg9 hb9))
        exact zD (v:=_) zu rfl ⟨_,rfl,HC.out.2,by rw[HB.out];exact HC.out.1⟩
       ·have HB:=hid (show chN n=pp++ [8]by rw[HCH.out];unfold ch2;rw[if_neg HC8.out.1,HC8.out.2];simp);go_wp2_with (at_builtin;go_must (refine qX rfl _ _ 41 rfl w.heap.size 3 (.int .i64 0) 1 8 za xV rfl dcx _ _ _ rfl (HC.out.1.ext ((Ext.refl _).alloc _)) _ 1 _ _ rfl rfl (qP _ _ _ _ zh) zx zi zi zz ?_;intro v9 w9 hr9 hg9 hb9;replace HC:=hid (zJ (IR.add hr9) (Below.ext (HC.out.2.alloc _) hb9 (zL _)));clear hr9 hg9 hb9))
        exact zD (v:=_) zu rfl ⟨_,rfl,HC.out.2,by rw[HB.out];exact HC.out.1⟩
       ·have HB:=hid (show chN n=pp++ []by rw[HCH.out];unfold ch2;rw[if_neg HC8.out.1,HC8.out.2];simp);go_wp2_with (fail)
        exact zD (v:=_) zu rfl ⟨_,rfl,HC.out.2,by rw[HB.out,List.append_nil];exact HC.out.1⟩
      ·have hne:((-(c:Int)) !=0)=true:=by simp only[bne_iff_ne,ne_eq];omega
       have HB:=hid (show chN n=pp by rw[HCH.out];unfold ch2;rw[if_pos (by rw[HCC.out];exact hc0),List.append_nil]);clear hc hc0 hc4;go_wp2_with fail;exact zD (v:=_) zu rfl ⟨_,rfl,HC.out.2,by rw[HB.out];exact HC.out.1⟩
    ·have hs':decide ((q:Int)*(q:Int)<=(r:Int))=true:=by rw[<-Int.natCast_mul];simp only[zU];omega
     have hq9:3*3<=q*q:=Nat.mul_le_mul hq3 hq3;have hr1:r≠1:=zb
     obtain⟨_,hfq⟩:=hor.resolve_left hr1;obtain⟨f,rfl⟩:∃f,gk=f+1:=⟨gk-1,by omega⟩;obtain⟨R,hR,hch,hR0,hRr,hRor,hp2,hpn,_⟩:=chO_step hr1 hr0 hrn hq3 hfq q (by rw[if_neg hs]);rw[hch,<-List.append_assoc]at hpre;have hpw:IntKind.i64.wrap ((q:Int)+2)=(q:Int)+2:=zo
     have HF:=hid (zJ hpre (zJ hR (zJ hR0 (zJ hRr (zJ hRor (zJ hp2 (zJ hpn hlen)))))));have HLE:=hid (show pre.length<=4194304 by omega);have HR:=hid (zJ hr0 hrn);have HP:=hid hpw;have hz:¬(q:Int)=0:=zb
     have hzb:((q:Int)==0)=false:=zdh
     clear hch hor hfq hpre hR hR0 hRr hRor hpn hlen hpw;by_cases hd:r%q=0
     ·have HRP:=hid hd;have hx1:(r:Int).tmod (q:Int)=0:=by rw[zG (by omega),<-zM,hd];rfl
      have hx2:(r:Int)%(q:Int)=0:=by rw[<-zM,hd];rfl
      clear hs hr0 hrn hq3 hqn hr1 hqq hn22 hq9 hd hp2;go_upto_region 10 with(at_builtin;go_must (refine qX rfl _ _ 41 rfl w.heap.size 3 (.int .i64 0) 1 8 za xV rfl dcx _ _ _ rfl (HC.out.1.ext ((Ext.refl _).alloc _)) _ 1 _ _ rfl rfl (qP _ _ _ _ zh) zx zi zi zz ?_;intro v9 w9 hr9 hg9 hb9;replace HC:=hid (zJ (IR.add hr9) (Below.ext (HC.out.2.alloc _) hb9 (zL _)));clear hr9 hg9 hb9));clear hw hs' hx1 hx2;obtain⟨gf,hgf⟩:∃gf,gf=f:=⟨_,rfl⟩
      go_loopg [4] r (λgk3 v4 wr3=>v4=.int .i64 ((gk3:Nat):Int)/\w9=wr3/\0<gk3/\gk3<=n/\gk3/q^vl q gk3=R)
      case atStart=>exact⟨rfl,rfl,HR.out.1,HR.out.2,HF.out.2.1⟩
      case round=>
       obtain⟨rfl,rfl,hg0,hgn,hgv⟩:=hrel;have hp2:=HF.out.2.2.2.2.2.1;have hnn:=HN.out.2;have hz:¬(q:Int)=0:=zb
       have hzb:((q:Int)==0)=false:=zdh
       by_cases hd3:gk%q=0
       ·obtain⟨m,hm⟩:∃m,gk/q=m:=⟨_,rfl⟩;have hmd:q*m=gk:=by rw[<-hm];exact Nat.mul_div_cancel' (Nat.dvd_of_mod_eq_zero hd3)
        have hm0:0<m:=Nat.pos_of_ne_zero λh=>by rw[h]at hmd;omega
        have hmg:m<gk:=zbp
        have hx1:(gk:Int).tmod (q:Int)=0:=zch
        have hx2:(gk:Int)%(q:Int)=0:=by rw[<-zM,hd3];rfl
        have hx3:(gk:Int).tdiv (q:Int)=(m:Int):=xt
        have hx4:(gk:Int)/(q:Int)=(m:Int):=zdd
        have hx5:IntKind.i64.wrap (m:Int)=(m:Int):=zo
        have HV:=hid (show m/q^vl q m=R by rw[<-hm,vl_down hp2 hg0 hd3];exact hgv);have HG3:=hid (show 0<m/\m<gk/\m<=n by omega);clear hg0 hgn hgv hd3 hm hmd hm0 hmg hp2 hnn;go_wp2_with fail
        go_roundg m
        case measure=>exact HG3.out.2.1
        case rel=>exact⟨rfl,rfl,HG3.out.1,HG3.out.2.2,HV.out⟩
       ·have hgR:gk=R:=by rw[<-hgv,xL hp2 hg0 (λh=>hd3 (Nat.mod_eq_zero_of_dvd h))];simp
        obtain rfl:=hgR;obtain⟨rm,hrm⟩:∃m,gk%q=m:=⟨_,rfl⟩;have hx1:(gk:Int).tmod (q:Int)=(rm:Int):=zbr
        have hx2:(gk:Int)%(q:Int)=(rm:Int):=by rw[<-zM,hrm]
        have hx3:((rm:Int)==0)=false:=jk
        have hx4:IntKind.i64.wrap (rm:Int)=(rm:Int):=by
         have h1:=zR gk (show q >0 by omega);rw[hrm]at h1;have h7:=HF.out.2.2.2.2.2.2.1;simp only[IntKind.wrap_i64];omega
        have hpw:=HP.out;clear hg0 hgn hgv hd3 hrm hp2 hnn;go_wp2_with fail
        go_roundg gf
        case measure=>omega
        case rel=>
         obtain⟨h1,h2,h3,h4,h5,h6,h7,h8⟩:=HF.out;subst hgf;exact⟨pre++ [(q:Int)],q+2,gk,rfl,by rw[zV];rfl,by rw[if_pos HRP.out]at h1;exact h1,h5,h3,by have:=HR.out;omega,by omega,by omega,by(try rw[zP]);(try simp);omega,HC⟩
     ·have HRP:=hid hd;obtain⟨rm,hrm⟩:∃m,r%q=m:=⟨_,rfl⟩;have hx1:(r:Int).tmod (q:Int)=(rm:Int):=by rw[zG (by omega),<-zM,hrm]
      have hx2:(r:Int)%(q:Int)=(rm:Int):=by rw[<-zM,hrm]
      have hx3:((rm:Int)==0)=false:=jk
      have hx4:IntKind.i64.wrap (rm:Int)=(rm:Int):=by
       have h1:=zR r (show q >0 by omega);rw[hrm]at h1;simp only[IntKind.wrap_i64];omega
      clear hs hr0 hrn hq3 hqn hr1 hqq hn22 hq9 hd hrm hp2;go_upto_region 10 with fail;clear hw hs' hx1 hx2 hx3 hx4;obtain⟨w9,hw9⟩:∃w9,wr=w9:=⟨_,rfl⟩;rw[hw9]at HC ⊢;clear hw9;obtain⟨gf,hgf⟩:∃gf,gf=f:=⟨_,rfl⟩
      go_loopg [4] r (λgk3 v4 wr3=>v4=.int .i64 ((gk3:Nat):Int)/\w9=wr3/\0<gk3/\gk3<=n/\gk3/q^vl q gk3=R)
      case atStart=>exact⟨rfl,rfl,HR.out.1,HR.out.2,HF.out.2.1⟩
      case round=>
       obtain⟨rfl,rfl,hg0,hgn,hgv⟩:=hrel;have hp2:=HF.out.2.2.2.2.2.1;have hnn:=HN.out.2;have hz:¬(q:Int)=0:=zb
       have hzb:((q:Int)==0)=false:=zdh
       by_cases hd3:gk%q=0
       ·obtain⟨m,hm⟩:∃m,gk/q=m:=⟨_,rfl⟩;have hmd:q*m=gk:=by rw[<-hm];exact Nat.mul_div_cancel' (Nat.dvd_of_mod_eq_zero hd3)
        have hm0:0<m:=Nat.pos_of_ne_zero λh=>by rw[h]at hmd;omega
        have hmg:m<gk:=zbp
        have hx1:(gk:Int).tmod (q:Int)=0:=zch
        have hx2:(gk:Int)%(q:Int)=0:=by rw[<-zM,hd3];rfl
        have hx3:(gk:Int).tdiv (q:Int)=(m:Int):=xt
        have hx4:(gk:Int)/(q:Int)=(m:Int):=zdd
        have hx5:IntKind.i64.wrap (m:Int)=(m:Int):=zo
        have HV:=hid (show m/q^vl q m=R by rw[<-hm,vl_down hp2 hg0 hd3];exact hgv);have HG3:=hid (show 0<m/\m<gk/\m<=n by omega);clear hg0 hgn hgv hd3 hm hmd hm0 hmg hp2 hnn;go_wp2_with fail
        go_roundg m
        case measure=>exact HG3.out.2.1
        case rel=>exact⟨rfl,rfl,HG3.out.1,HG3.out.2.2,HV.out⟩
       ·have hgR:gk=R:=by rw[<-hgv,xL hp2 hg0 (λh=>hd3 (Nat.mod_eq_zero_of_dvd h))];simp
        obtain rfl:=hgR;obtain⟨rm,hrm⟩:∃m,gk%q=m:=⟨_,rfl⟩;have hx1:(gk:Int).tmod (q:Int)=(rm:Int):=zbr
        have hx2:(gk:Int)%(q:Int)=(rm:Int):=by rw[<-zM,hrm]
        have hx3:((rm:Int)==0)=false:=jk
        have hx4:IntKind.i64.wrap (rm:Int)=(rm:Int):=by
         have h1:=zR gk (show q >0 by omega);rw[hrm]at h1;have h7:=HF.out.2.2.2.2.2.2.1;simp only[IntKind.wrap_i64];omega
        have hpw:=HP.out;clear hg0 hgn hgv hd3 hrm hp2 hnn;go_wp2_with fail
        go_roundg gf
        case measure=>omega
        case rel=>
         obtain⟨h1,h2,h3,h4,h5,h6,h7,h8⟩:=HF.out;subst hgf;exact⟨pre,q+2,gk,rfl,by rw[zV];rfl,by rw[if_neg HRP.out,List.append_nil]at h1;exact h1,h5,h3,by have:=HR.out;omega,by omega,by omega,by(try rw[zP]);(try simp);omega,HC⟩
end Go.Proofs.YtknffgdbdadpcaaGreatDoor
