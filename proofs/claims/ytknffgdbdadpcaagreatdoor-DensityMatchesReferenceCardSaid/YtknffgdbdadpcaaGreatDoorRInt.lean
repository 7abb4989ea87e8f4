/-
 The reference package: plus, minus, left: every slices of words of at most 2^30 words.
 The reference package: Neg, Abs, Add, Sub, Sign, Cmp, Bits. Every two integers of at most 2^28 words.
-/
import Derived.Test.YtknffgdbdadpcaaGreatDoorRWord
namespace Go.Proofs.YtknffgdbdadpcaaGreatDoor
open Go Go.RowKit
open Go.Proofs.Tryz
theorem xd{P:Prop}(h:P:=by have:=HLen.out;rw[qI];omega):P:=h
theorem zbq{P:Prop}(h:P:=by have:=HS.out;(try simp);(try omega)):P:=h
theorem zdr{P:Prop}(h:P:=by(try simp);(try omega)):P:=h
set_option maxRecDepth 100000
set_option maxHeartbeats 2000000
def PlI(w:World)(A B:List Nat)(N gk:Nat)(v5 v6 v7:Value)(wr:World):Prop:=
 ∃(xs:List Nat) (k c:Nat),v6=.int .u64 (c:Int)/\v7=.int .i64 (k:Int)/\k+gk=N/\Rw wr w.heap.size v5 xs/\PlusS A B xs k c/\Ext w wr
theorem row_next{wr:World}{base:Nat}{v:Value}{xs:List Nat}{u:Nat}{y:Int}(hr:RowOf 100 isU32 wr base v (qO xs++ [.int .u32 y]))(hx:∀i,xs.getD i 0<4294967296)(hy:y=(u:Int))(hu:u<4294967296):Rw wr base v (xs++ [u]):=by
 subst hy;rw[wcells_snoc]at hr;exact⟨hr,snoc_lt hx hu⟩
theorem plus_wd(w:World)(a1 a2:Option Addr)(n1 n2 c1 c2:Nat)(A B:List Nat)(h1:Wd w a1 n1 c1 A)(h2:Wd w a2 n2 c2 B)(s1:n1<=1073741824)(s2:n2<=1073741824):
  Calls prog 160 #[.slice a1 n1 c1,.slice a2 n2 c2] w (Ret w (IsWk (max n1 n2+1) (qF A+qF B))):=by
 have HA:=hid h1.lt;have HB:=hid h2.lt;have HW1:=hid h1;have HW2:=hid h2;obtain⟨N,hN⟩:∃N,N=max n1 n2:=⟨_,rfl⟩;have hlA:A.length<=N:=by rw[h1.len];omega
 have hlB:B.length<=N:=by rw[h2.len];omega
 have hNs:N<=1073741824:=zb
 have HF:=hid (zJ hlA hlB);rw[<-hN];obtain⟨W,hW⟩:∃W,W=w.alloc (.cells #[] 100):=⟨_,rfl⟩;have I0:Hid (PlI w A B N N (.slice (some ⟨w.heap.size,0,none⟩) 0 0) (.int .u64 0) (.int .i64 0) W):=hid ⟨[],0,0,rfl,rfl,by omega,hW▸Rw.start w _ (zL _),PlusS.start A B,by rw[hW];exact(Ext.refl w).alloc _⟩;have hmx:∀k:Nat,k<=N->((k<n1\/k<n2)↔k<N):=λk hk=>by omega
 have Hm:=hid hmx;have hNi:(N:Int)=max (n1:Int) (n2:Int):=zb
 clear h1 h2 hlA hlB hN hmx;go_enter func160,ntmps160;go_wp2_with fail;rw[<-hW];clear hW
 go_loopg [5,6,7] N (λgk v5 v6 v7 wr=>Hid (PlI w A B N gk v5 v6 v7 wr))
 case atStart=>exact I0
 case round=>
  clear I0;obtain⟨xs,k,c,rfl,rfl,hk,hr,hs,E⟩:=hrel.out;clear hrel;have hc1:=hs.2.2.2;have HLen:Hid (xs.length<=1073741824):=by have h0:=hs.1;exact hid zb
  have HS:Hid (w.heap.size<=wr.heap.size):=hid E.size;have HR:=hid hr;have HST:=hid hs;have HE:=hid E;clear hr hs E;by_cases hkN:k<N
  ·have W0:=hid (jQ wr a1 n1 c1 A (HW1.out.ext HE.out) k zb);have W0a:=hid (jQ wr a2 n2 c2 B (HW2.out.ext HE.out) k zb);have hst:=HST.out.step HA.out HB.out;have hx:=HA.out k;have hy:=HB.out k;generalize A.getD k 0=x at*;generalize B.getD k 0=y at*;have Hst:=hid hst;have hdec:decide ((k:Int)<max (n1:Int) (n2:Int))=true:=by simp;omega
   have hj:¬((k:Int)<(n1:Int))->(k:Int)<(n2:Int):=zb
   clear hst;obtain⟨u,hu⟩:∃u:Nat,(c+(x+y))%4294967296=u:=⟨_,rfl⟩;rw[hu]at Hst;have hul:u<4294967296:=zb
   go_wp2_with fail
   all_goals
    refine zC W0.out ?_;rintro e w1 ⟨rfl,rfl⟩;go_wp2_with fail;refine zC W0a.out ?_;rintro e w1 ⟨rfl,rfl⟩;go_wp2_with (at_builtin;go_must (refine wpl_row rfl _ _ 27 100 rfl isU32 (.int .u32 0) 4 za Tryz.infoU32 rfl ⟨0,rfl⟩ (w.heap.size) _ _ rfl (HR.out.1.ext ((Ext.refl _).alloc _)) _ _ (.int .u32 (u:Int)) rfl zdr rfl ⟨_,rfl⟩ xd xd zbq ?_;intro v9 w9 hr9 hb9 hg9))
    have J':Hid (PlI w A B N (gk-1) v9 (.int .u64 (((c+(x+y))/4294967296:Nat):Int)) (.int .i64 ((k:Int)+1)) w9):=hid ⟨_,k+1,_,rfl,rfl,by omega,row_next hr9 HST.out.2.1 rfl hul,Hst.out,Below.ext (HE.out.alloc _) hb9 (zL _)⟩
    go_roundg (gk-1)
    case measure=>omega
    case rel=>exact J'
  ·obtain rfl:k=N:=by omega
   have hfin:=HST.out.fin HF.out.1 HF.out.2;have Hfin:=hid hfin;have hdec:decide ((k:Int)<max (n1:Int) (n2:Int))=false:=jl
   have hj1:¬k<n1:=zb
   have hj2:¬k<n2:=zb
   clear hfin;go_wp2_with (at_builtin;go_must (refine wpl_row rfl _ _ 27 100 rfl isU32 (.int .u32 0) 4 za Tryz.infoU32 rfl ⟨0,rfl⟩ (w.heap.size) _ _ rfl (HR.out.1.ext ((Ext.refl _).alloc _)) _ _ (.int .u32 (c:Int)) rfl zdr rfl ⟨_,rfl⟩ xd xd zbq ?_;intro v9 w9 hr9 hb9 hg9))
   go_ret
   exact⟨_,rfl,Below.ext (HE.out.alloc _) hb9 (zL _),Rw.isWk (xs:=xs++ [c]) ⟨by rw[wcells_snoc]at hr9;exact hr9,Hfin.out.2⟩ (by have:=HST.out.1;simp;omega) Hfin.out.1⟩
def MiI(w:World)(A B:List Nat)(N gk:Nat)(v5 v6 v7:Value)(wr:World):Prop:=
 ∃(xs:List Nat) (k c:Nat),v6=.int .u64 (c:Int)/\v7=.int .i64 (k:Int)/\k+gk=N/\Rw wr w.heap.size v5 xs/\MinusS A B xs k c/\Ext w wr
theorem minus_wd(w:World)(a1 a2:Option Addr)(n1 n2 c1 c2:Nat)(A B:List Nat)(h1:Wd w a1 n1 c1 A)(h2:Wd w a2 n2 c2 B)(s1:n1<=1073741824)(hle:qF B<=qF A):
  Calls prog 161 #[.slice a1 n1 c1,.slice a2 n2 c2] w (Ret w (IsWk n1 (qF A-qF B))):=by
 have HA:=hid h1.lt;have HB:=hid h2.lt;have HW1:=hid h1;have HW2:=hid h2;have HF:=hid h1.len;have HLe:=hid hle;obtain⟨W,hW⟩:∃W,W=w.alloc (.cells #[] 100):=⟨_,rfl⟩;have I0:Hid (MiI w A B n1 n1 (.slice (some ⟨w.heap.size,0,none⟩) 0 0) (.int .u64 0) (.int .i64 0) W):=hid ⟨[],0,0,rfl,rfl,by omega,hW▸Rw.start w _ (zL _),MinusS.start A B,by rw[hW];exact(Ext.refl w).alloc _⟩;clear h1 h2 hle;go_enter func161,ntmps161;go_wp2_with fail;rw[<-hW];clear hW
 go_loopg [5,6,7] n1 (λgk v5 v6 v7 wr=>Hid (MiI w A B n1 gk v5 v6 v7 wr))
 case atStart=>exact I0
 case round=>
  clear I0;obtain⟨xs,k,c,rfl,rfl,hk,hr,hs,E⟩:=hrel.out;clear hrel;have hc1:=hs.2.2.2;have HLen:Hid (xs.length<=1073741824):=by have h0:=hs.1;exact hid zb
  have HS:Hid (w.heap.size<=wr.heap.size):=hid E.size;have HR:=hid hr;have HST:=hid hs;have HE:=hid E;clear hr hs E;by_cases hkN:k<n1
  ·have W0:=hid (jQ wr a1 n1 c1 A (HW1.out.ext HE.out) k zb);have W0a:=hid (jQ wr a2 n2 c2 B (HW2.out.ext HE.out) k zb);have hst:=HST.out.step HA.out HB.out;have hx:=HA.out k;have hy:=HB.out k;generalize A.getD k 0=x at*;generalize B.getD k 0=y at*;have Hst:=hid hst;clear hst;obtain⟨t,ht⟩:∃t,t=4294967296+x-y-c:=⟨_,rfl⟩;have ht1:(4294967296:Int)+(x:Int)-(y:Int)-(c:Int)=(t:Int):=by omega
   have ht2:t<8589934592:=zb
   have ht3:((t:Int)/4294967296)<=1:=zb
   rw[<-ht]at Hst;obtain⟨u,hu⟩:∃u:Nat,t%4294967296=u:=⟨_,rfl⟩;rw[hu]at Hst;have hul:u<4294967296:=zb
   clear ht;go_wp2_with fail;refine zC W0.out ?_;rintro e w1 ⟨rfl,rfl⟩;go_wp2_with fail;refine zC W0a.out ?_;rintro e w1 ⟨rfl,rfl⟩;go_wp2_with (at_builtin;go_must (refine wpl_row rfl _ _ 27 100 rfl isU32 (.int .u32 0) 4 za Tryz.infoU32 rfl ⟨0,rfl⟩ (w.heap.size) _ _ rfl (HR.out.1.ext ((Ext.refl _).alloc _)) _ _ (.int .u32 (u:Int)) rfl zdr rfl ⟨_,rfl⟩ xd xd zbq ?_;intro v9 w9 hr9 hb9 hg9))
   have J':Hid (MiI w A B n1 (gk-1) v9 (.int .u64 (1-(t:Int)/4294967296)) (.int .i64 ((k:Int)+1)) w9):=hid ⟨_,k+1,1-t/4294967296,congrArg (Value.int .u64) zb,rfl,by omega,row_next hr9 HST.out.2.1 rfl hul,Hst.out,Below.ext (HE.out.alloc _) hb9 (zL _)⟩
   go_roundg (gk-1)
   case measure=>omega
   case rel=>exact J'
  ·obtain rfl:k=n1:=by omega
   have hfin:=HST.out.fin HA.out (by rw[HF.out];exact zL _) HLe.out;have Hfin:=hid hfin;clear hfin;go_wp2_with fail
   go_ret
   exact⟨_,rfl,HE.out,HR.out.isWk (by have:=HST.out.1;omega) Hfin.out⟩
theorem left_math(x y r:Nat)(hr:r<32)(hx:x<4294967296)(hy:y<4294967296)(X Y:Nat)(hX:X=x*2^r)(hY:Y=y*2^r):
  X<9223372036854775808/\Y<9223372036854775808/\X|||(Y/4294967296)=X+Y/4294967296/\X%4294967296+Y/4294967296<4294967296/\(X+Y/4294967296)%4294967296=X%4294967296+Y/4294967296:=by
 obtain⟨a1,a2,_⟩:=shl_top x r hr hx;obtain⟨b1,b2,_⟩:=shl_top y r hr hy;have c2:=(shl_word x r (y*2^r/4294967296) hr b1).2;rw[<-hX]at a1 a2 c2;rw[<-hY]at b1 b2 c2;refine⟨a2,b2,nat_join r _ _ (by rw[hX];exact Nat.mul_mod_left _ _) b1,by omega,by omega⟩
def LfI(w:World)(A:List Nat)(n1 q R gk:Nat)(v5 v7:Value)(wr:World):Prop:=
 ∃(xs:List Nat) (i:Nat),v7=.int .i64 (i:Int)/\i+gk=n1+1/\Rw wr w.heap.size v5 xs/\LeftS A xs q R i/\Ext w wr
theorem left_wd(w:World)(a1:Option Addr)(n1 c1 s:Nat)(A:List Nat)(h1:Wd w a1 n1 c1 A)(s1:n1<=1073741824)(s2:s<=17179869184):
  Calls prog 198 #[.slice a1 n1 c1,.int .i64 (s:Int)] w (Ret w (λv w'=>∃xs,Rw w' w.heap.size v xs/\qF xs=2^s*qF A/\xs.length=s/32+n1+1)):=by
 have HA:=hid h1.lt;have HlA:=hid h1.len;have HW1:=hid h1;obtain⟨q,hq⟩:∃q,q=s/32:=⟨_,rfl⟩;obtain⟨r,hr⟩:∃r,r=s%32:=⟨_,rfl⟩;have hqi:(s:Int)/32=(q:Int):=zb
 have hri:(s:Int)%32=(r:Int):=zb
 have hr32:r<32:=zb
 have hq2:q<=536870912:=zb
 have HP:Hid (2^s=4294967296^q*2^r):=by
  show _=_;rw[show(4294967296:Nat)=2^32 from rfl,<-Nat.pow_mul,<-Nat.pow_add,hq,hr,Nat.div_add_mod]
 rw[<-hq];clear h1 hq hr;go_enter func198,ntmps198;go_wp2_with (at_make;refine jJ rfl _ _ _ rfl za _ _ q rfl rfl (by first|exact hqi|omega) (by first|exact hqi|omega) zb ?_;intro w1 e1 z1 o1)
 have I0:Hid (LfI w A n1 q (2^r) (n1+1) (.slice (some ⟨w.heap.size,0,none⟩) q q) (.int .i64 0) w1):=hid ⟨_,0,rfl,by omega,by
  have h:=Rw.own (base:=w.heap.size) o1 (zL _) (λi=>by rw[qZ];omega) jl
  simpa using h,LeftS.start A q _,e1⟩
 clear o1 e1 z1;rw[hri];clear hri hqi
 go_loopg [5,7] (n1+1) (λgk v5 v7 wr=>Hid (LfI w A n1 q (2^r) gk v5 v7 wr))
 case atStart=>exact I0
 case round=>
  clear I0;obtain⟨xs,i,rfl,hi,hr,hs,E⟩:=hrel.out;clear hrel;have HLen:Hid (xs.length<=2147483648):=by have h0:=hs.1;exact hid zb
  have HS:Hid (w.heap.size<=wr.heap.size):=hid E.size;have HR:=hid hr;have HST:=hid hs;have HE:=hid E;clear hr hs E;by_cases hin:i<=n1
  ·have W0:=hid (jQ wr a1 n1 c1 A (HW1.out.ext HE.out) i zb);obtain⟨y,hyd⟩:∃y,y=if i=0 then 0 else A.getD (i-1) 0:=⟨_,rfl⟩
   have W0a:Hid (Calls prog 90 #[.slice a1 n1 c1,.int .i64 ((i:Int)-1)] wr (RSame wr (.int .u64 (y:Int)))):=by
    show Calls _ _ _ _ _;rcases zI i with h0|h0
    ·subst h0;rw[hyd,if_pos rfl];exact word_neg wr a1 n1 c1
    ·rw[hyd,if_neg (by omega),show((i:Int)-1)=((i-1:Nat):Int)by omega];exact jQ wr a1 n1 c1 A (HW1.out.ext HE.out) (i-1) zb
   have hyl:y<4294967296:=by
    rw[hyd];split
    ·omega
    ·exact HA.out _
   have hst:=HST.out.step (y*2^r/4294967296) (by rw[hyd]);have hxl:=HA.out i;generalize A.getD i 0=x at*;obtain⟨X,hX⟩:∃X,X=x*2^r:=⟨_,rfl⟩;obtain⟨Y,hY⟩:∃Y,Y=y*2^r:=⟨_,rfl⟩;obtain⟨m1,m2,m3,m4,m5⟩:=left_math x y r hr32 hxl hyl X Y hX hY;have Hst:=hid (hst (by rw[<-hX,<-hY];exact m4));rw[<-hX,<-hY]at Hst;clear hst hyd
   have hX2:IntKind.u64.wrap ((x:Int)*2^r)=(X:Int):=by
    have e:(x:Int)*2^r=((x*2^r:Nat):Int):=zc9
    rw[IntKind.wrap_u64,e,<-hX];omega
   have hY2:IntKind.u64.wrap ((y:Int)*2^r)=(Y:Int):=by
    have e:(y:Int)*2^r=((y*2^r:Nat):Int):=zc9
    rw[IntKind.wrap_u64,e,<-hY];omega
   have hor:bits .or .u64 (X:Int) ((Y:Int)/4294967296)=((X+Y/4294967296:Nat):Int):=by
    have h:=u64_or_nat X (Y/4294967296) zb zb;rw[m3]at h;rw[<-h];simp
   clear hX hY m3;obtain⟨u,hu⟩:∃u:Nat,X%4294967296+Y/4294967296=u:=⟨_,rfl⟩;rw[hu]at Hst m4 m5;go_wp2_with fail;refine zC W0.out ?_;rintro e w1 ⟨rfl,rfl⟩;go_wp2_with fail;refine zC W0a.out ?_;rintro e w1 ⟨rfl,rfl⟩;go_wp2_with (at_builtin;go_must (refine wpl_row rfl _ _ 27 100 rfl isU32 (.int .u32 0) 4 za Tryz.infoU32 rfl ⟨0,rfl⟩ (w.heap.size) _ _ rfl (HR.out.1.ext ((Ext.refl _).alloc _)) _ _ (.int .u32 (u:Int)) rfl zdr rfl ⟨_,rfl⟩ xd xd zbq ?_;intro v9 w9 hr9 hb9 hg9))
   have J':Hid (LfI w A n1 q (2^r) (gk-1) v9 (.int .i64 ((i:Int)+1)) w9):=hid ⟨_,i+1,rfl,by omega,row_next hr9 HST.out.2.1 rfl m4,Hst.out,Below.ext (HE.out.alloc _) hb9 (zL _)⟩
   go_roundg (gk-1)
   case measure=>omega
   case rel=>exact J'
  ·obtain rfl:i=n1+1:=by omega
   have hs2:=HST.out;rw[<-HlA.out]at hs2;have hfin:=hs2.fin;rw[<-HP.out]at hfin;have Hfin:=hid hfin;clear hfin hs2;go_wp2_with fail
   go_ret
   exact⟨_,rfl,HE.out,xs,HR.out,Hfin.out,by have:=HST.out.1;omega⟩
theorem plus_c(w:World)(a1 a2:Option Addr)(n1 n2 c1 c2 k1 k2 x y:Nat)(h1:NatAt w k1 a1 n1 c1 x)(h2:NatAt w k2 a2 n2 c2 y)(s1:k1<=1073741824)(s2:k2<=1073741824):
  Calls prog 160 #[.slice a1 n1 c1,.slice a2 n2 c2] w (Ret w (IsWk (max k1 k2+1) (x+y))):=by
 obtain⟨xs,h1,l1,_,rfl⟩:=h1;obtain⟨ys,h2,l2,_,rfl⟩:=h2;refine(plus_wd w a1 a2 n1 n2 c1 c2 xs ys h1 h2 zb zb).mono ?_;rintro e w' ⟨x,rfl,e1,a,n,c,zs,rfl,h,hk,hv⟩;exact⟨_,rfl,e1,a,n,c,zs,rfl,h,by omega,hv⟩
theorem minus_c(w:World)(a1 a2:Option Addr)(n1 n2 c1 c2 k1 k2 x y:Nat)(h1:NatAt w k1 a1 n1 c1 x)(h2:NatAt w k2 a2 n2 c2 y)(s1:k1<=1073741824)(hle:y<=x):
  Calls prog 161 #[.slice a1 n1 c1,.slice a2 n2 c2] w (Ret w (IsWk k1 (x-y))):=by
 obtain⟨xs,h1,l1,_,rfl⟩:=h1;obtain⟨ys,h2,l2,_,rfl⟩:=h2;refine(minus_wd w a1 a2 n1 n2 c1 c2 xs ys h1 h2 zb hle).mono ?_;rintro e w' ⟨x,rfl,e1,a,n,c,zs,rfl,h,hk,hv⟩;exact⟨_,rfl,e1,a,n,c,zs,rfl,h,by omega,hv⟩
theorem RNeg_c(w:World)(s1:Bool)(a1:Option Addr)(n1 c1 k1:Nat)(z1:Int)(h1:IntAt w k1 s1 a1 n1 c1 z1):Calls prog 154 #[.agg #[.bool s1,.slice a1 n1 c1]] w (RInt w k1 (-z1)):=by
 obtain⟨m,⟨xs,hw,hk,_,hm⟩,hs,hz⟩:=h1;have hz': -z1=if (!s1)then -(qF xs:Int)else qF xs:=by rw[hz,hm];cases s1 <;> simp
 have Hz:=hid hz';clear hz hz' hm hs;obtain⟨W,hW,K0⟩:=kp1 w s1 a1 n1 c1;have q0:=K0.cell 0 0 [.bool s1,.slice a1 n1 c1] _ zh rfl;have q1:=K0.cell 0 1 [.bool s1,.slice a1 n1 c1] _ zh rfl;have hnot:∀(x:Bool) (w:World),(Op.unary .not (.bool x)).run prog w=.ok (.bool (!x)) w:=λ_ _=>rfl
 go_enter func154,ntmps154;go_wp2_with fail;rw[<-hW];refine zC (rmade_c _ (!s1) _ _ _ xs (-z1) (hw.ext K0.ext) Hz.out) ?_;clear hW;rintro e w1 ⟨s3,a3,n3,c3,rfl,e1,h3⟩;have KF:=K0.after e1;obtain⟨⟨_,r0,_⟩,f0⟩:=Kp.res KF 1 2 zh 0 zb;obtain⟨⟨_,r1,_⟩,f1⟩:=Kp.res KF 1 2 zh 1 zb;have h3:=h3.mono hk;clear q0 q1 hnot;go_wp2_with fail;refine zD (v:=.agg #[.bool s3,.slice a3 n3 c3]) (by simp[results,results154,go_sem,r0,r1]) rfl (Kp.fin KF 1 zh zh h3)
theorem RAbs_c(w:World)(s:Bool)(ao:Option Addr)(n cap k:Nat)(z:Int)(h:IntAt w k s ao n cap z):
  Calls prog 70 #[.agg #[.bool s,.slice ao n cap]] w (RInt w k z.natAbs):=by
 obtain⟨m,⟨xs,hw,hk,_,hm⟩,hs,hz⟩:=h;have hz':(z.natAbs:Int)=qF xs:=by rw[hz,hm];cases s <;> simp
 have Hw:=hid hw;have Hz:=hid hz';clear hw hz hz' hm;obtain⟨W,hW,e0,b0,b1⟩:=pro1 w s ao n cap;go_enter func70,ntmps70;go_wp2_with fail;refine zC (rmade_c _ false _ _ _ xs z.natAbs (hW▸Hw.out.ext e0) (by rw[Hz.out];simp)) ?_;rw[<-hW];clear hW;rintro e w1 ⟨s1,a1,n1,c1,rfl,e1,h1⟩;have b1:=b1.ext e1;have q0:=b1.c0;have q1:=b1.c1;have r0:=b1.f 0;have r1:=b1.f 1;have B1:=hid b1;clear b0 b1;go_wp2_with fail;refine zD (v:=.agg #[.bool s1,.slice a1 n1 c1]) (by simp[results,results70,go_sem,q0,q1]) rfl ?_;exact⟨_,_,_,_,rfl,(e0.trans e1).put (Nat.le_succ _),(h1.put B1.out).mono hk⟩
theorem RSign_c(w:World)(s:Bool)(ao:Option Addr)(n cap k:Nat)(z:Int)(h:IntAt w k s ao n cap z):
  Calls prog 65 #[.agg #[.bool s,.slice ao n cap]] w (RVal w (.int .i64 z.sign)):=by
 obtain⟨m,hm,hs,hz⟩:=h;have hz0:=hm.zero;rcases zI n with h0|h0
 ·have:z.sign=0:=by
   rw[hz,hz0.2 h0];cases s <;> rfl
  rw[this];subst h0;clear hm hs hz hz0 this;go_enter func65,ntmps65
  go_wp2
  go_ret
  exact⟨rfl,(Ext.refl w).alloc _⟩
 ·have hm0:m≠0:=λh=>by have:=hz0.1 h;omega
  have h1:((n:Int)==0)=false:=jk
  cases s
  ·have:z.sign=1:=by rw[hz];exact Int.sign_eq_one_of_pos jl
   rw[this];clear hm hs hz hz0 this hm0 h0;go_enter func65,ntmps65
   go_wp2
   go_ret
   exact⟨rfl,(Ext.refl w).alloc _⟩
  ·have:z.sign= -1:=by rw[hz];exact Int.sign_eq_neg_one_of_neg jl
   rw[this];clear hm hs hz hz0 this hm0 h0;go_enter func65,ntmps65
   go_wp2
   go_ret
   exact⟨rfl,(Ext.refl w).alloc _⟩
theorem tRInt_1{P:Prop}(h:P:=by
  go_wp2_with fail;refine zD (v:=.agg #[.bool s3,.slice a3 n3 c3]) (by simp[results,results124,go_sem,r0,r1]) rfl (Kp.fin KF 2 zh zh h3)
  ):P:=h
theorem RAdd_c(w:World)(s1 s2:Bool)(a1 a2:Option Addr)(n1 n2 c1 c2 k1 k2:Nat)(z1 z2:Int)(h1:IntAt w k1 s1 a1 n1 c1 z1)(h2:IntAt w k2 s2 a2 n2 c2 z2)(l1:k1<=268435456)(l2:k2<=268435456):
  Calls prog 124 #[.agg #[.bool s1,.slice a1 n1 c1],.agg #[.bool s2,.slice a2 n2 c2]] w (RInt w (max k1 k2+1) (z1+z2)):=by
 obtain⟨m1,h1,_,hz1⟩:=h1;obtain⟨m2,h2,_,hz2⟩:=h2;obtain⟨W,hW,K0⟩:=kp2 w s1 s2 a1 a2 n1 n2 c1 c2;have Hz1:=hid hz1;have Hz2:=hid hz2;clear hz1 hz2;have KC:=hid (kc2 w s1 s2 a1 a2 n1 n2 c1 c2);have hcm:Hid (∀W',Ext w W'->Calls prog 71 #[.slice a1 n1 c1,.slice a2 n2 c2] W' (RVal W' (.int .i64 (qK m1 m2)))):=λW' e=>rsize_c W' a1 a2 n1 n2 c1 c2 k1 k2 m1 m2 (h1.ext e) (h2.ext e) zb
 by_cases hs:s1=s2
 ·have Hz:Hid (z1+z2=if s1 then -((m1+m2:Nat):Int)else(m1+m2:Nat)):=by
   show _=_;subst hs;rw[Hz1.out,Hz2.out];cases s1 <;> simp <;> omega
  have hb:(s1==s2)=true:=by simp[hs]
  clear hs;obtain⟨_,q1,q2,q3,q4⟩:=KC.out _ K0;go_enter func124,ntmps124;go_wp2_with fail;rw[<-hW];clear hW
  go_region_held3 (λw'=>Kp w w' [(1, [.bool s2,.slice a2 n2 c2]),(0, [.bool s1,.slice a1 n1 c1])] [(2,2)]/\w'.cell? ⟨w.heap.size,0,none⟩=some (.bool s1)/\w'.cell? ⟨w.heap.size,1,none⟩=some (.slice a1 n1 c1)/\w'.cell? ⟨w.heap.size+1,0,none⟩=some (.bool s2)/\w'.cell? ⟨w.heap.size+1,1,none⟩=some (.slice a2 n2 c2)) ((go_split_ands;refine KC.out _ ?_;first|assumption|exact Kp.drew zp|exact Kp.drew (Kp.drewN zp _)|exact Kp.after zp zp|exact(Kp.put2 zp 2 zh _ _ _ _ zh).1))
   (first
    | (go_at_call 160;go_must (go_split_ands;(with_reducible refine zC (plus_c _ _ _ _ _ _ _ k1 k2 m1 m2 ?_ ?_ zb zb) ?_);exact h1.ext (Kp.ext zp);exact h2.ext (Kp.ext zp);rintro e w1 ⟨x0,rfl,e1,ao,n,cap,xs,rfl,hm,hk,hv⟩;have Hv:=hid hv;clear hv))
    | (go_at_call 38;go_must (go_split_ands;(with_reducible refine zC (rmade_c _ _ _ _ _ xs (z1+z2) hm ?_) ?_);rw[Hv.out];exact Hz.out;rintro e w2 ⟨s3,a3,n3,c3,rfl,e2,h3⟩;have KF:=Kp.after zp e2;obtain⟨⟨_,r0,_⟩,f0⟩:=Kp.res KF 2 2 zh 0 zb;obtain⟨⟨_,r1,_⟩,f1⟩:=Kp.res KF 2 2 zh 1 zb)))
  have h3:=h3.mono hk;exact tRInt_1
 ·have hb:(s1==s2)=false:=by simp[hs]
  have hss:Hid (s1= !s2):=by show _=_;cases s1 <;> cases s2 <;> simp at hs ⊢
  clear hs;by_cases hlt:m1<m2
  ·have hv:qK (m1:Int) (m2:Int)= -1:=jW zb;rw[hv]at hcm
   have Hz:Hid (z1+z2=if s2 then -((m2-m1:Nat):Int)else(m2-m1:Nat)):=by
    show _=_;rw[Hz1.out,Hz2.out,hss.out];cases s2 <;> simp <;> omega
   clear hv;obtain⟨_,q1,q2,q3,q4⟩:=KC.out _ K0;go_enter func124,ntmps124;go_wp2_with fail;rw[<-hW];clear hW;refine zC (hcm.out _ K0.ext) ?_;rintro e w0 ⟨rfl,e0⟩;have K1:=K0.after e0;clear q1 q2 q3 q4;obtain⟨_,q1,q2,q3,q4⟩:=KC.out _ K1;go_wp2_with fail
   go_region_held3 (λw'=>Kp w w' [(1, [.bool s2,.slice a2 n2 c2]),(0, [.bool s1,.slice a1 n1 c1])] [(2,2)]/\w'.cell? ⟨w.heap.size,0,none⟩=some (.bool s1)/\w'.cell? ⟨w.heap.size,1,none⟩=some (.slice a1 n1 c1)/\w'.cell? ⟨w.heap.size+1,0,none⟩=some (.bool s2)/\w'.cell? ⟨w.heap.size+1,1,none⟩=some (.slice a2 n2 c2)) ((go_split_ands;refine KC.out _ ?_;first|assumption|exact Kp.drew zp|exact Kp.drew (Kp.drewN zp _)|exact Kp.after zp zp|exact(Kp.put2 zp 2 zh _ _ _ _ zh).1))
    (first
     | (go_at_call 161;go_must (go_split_ands;(with_reducible refine zC (minus_c _ _ _ _ _ _ _ k2 k1 m2 m1 ?_ ?_ zb zb) ?_);exact h2.ext (Kp.ext zp);exact h1.ext (Kp.ext zp);rintro e w1 ⟨x0,rfl,e1,ao,n,cap,xs,rfl,hm,hk,hv⟩;have Hv:=hid hv;clear hv))
     | (go_at_call 38;go_must (go_split_ands;(with_reducible refine zC (rmade_c _ _ _ _ _ xs (z1+z2) hm ?_) ?_);rw[Hv.out];exact Hz.out;rintro e w2 ⟨s3,a3,n3,c3,rfl,e2,h3⟩;have KF:=Kp.after zp e2;obtain⟨⟨_,r0,_⟩,f0⟩:=Kp.res KF 2 2 zh 0 zb;obtain⟨⟨_,r1,_⟩,f1⟩:=Kp.res KF 2 2 zh 1 zb)))
   have h3:=h3.mono (show n<=max k1 k2+1 by omega);go_wp2_with fail;refine zD (v:=.agg #[.bool s3,.slice a3 n3 c3]) (by simp[results,results124,go_sem,r0,r1]) rfl (Kp.fin KF 2 zh zh h3)
  ·have hv:∃c:Int,qK (m1:Int) (m2:Int)=c/\0<=c:=by
    rcases Nat.eq_or_lt_of_le (show m2<=m1 by omega)with h|h
    ·exact⟨0,cmpI_eq zb,by omega⟩
    ·exact⟨1,jD zb,by omega⟩
   obtain⟨c,hv,hc0⟩:=hv;rw[hv]at hcm
   have Hz:Hid (z1+z2=if s1 then -((m1-m2:Nat):Int)else(m1-m2:Nat)):=by
    show _=_;rw[Hz1.out,Hz2.out,hss.out];cases s2 <;> simp <;> omega
   clear hv;obtain⟨_,q1,q2,q3,q4⟩:=KC.out _ K0;go_enter func124,ntmps124;go_wp2_with fail;rw[<-hW];clear hW;refine zC (hcm.out _ K0.ext) ?_;rintro e w0 ⟨rfl,e0⟩;have K1:=K0.after e0;clear q1 q2 q3 q4;obtain⟨_,q1,q2,q3,q4⟩:=KC.out _ K1;go_wp2_with fail
   go_region_held3 (λw'=>Kp w w' [(1, [.bool s2,.slice a2 n2 c2]),(0, [.bool s1,.slice a1 n1 c1])] [(2,2)]/\w'.cell? ⟨w.heap.size,0,none⟩=some (.bool s1)/\w'.cell? ⟨w.heap.size,1,none⟩=some (.slice a1 n1 c1)/\w'.cell? ⟨w.heap.size+1,0,none⟩=some (.bool s2)/\w'.cell? ⟨w.heap.size+1,1,none⟩=some (.slice a2 n2 c2)) ((go_split_ands;refine KC.out _ ?_;first|assumption|exact Kp.drew zp|exact Kp.drew (Kp.drewN zp _)|exact Kp.after zp zp|exact(Kp.put2 zp 2 zh _ _ _ _ zh).1))
    (first
     | (go_at_call 161;go_must (go_split_ands;(with_reducible refine zC (minus_c _ _ _ _ _ _ _ k1 k2 m1 m2 ?_ ?_ zb zb) ?_);exact h1.ext (Kp.ext zp);exact h2.ext (Kp.ext zp);rintro e w1 ⟨x0,rfl,e1,ao,n,cap,xs,rfl,hm,hk,hv⟩;have Hv:=hid hv;clear hv))
     | (go_at_call 38;go_must (go_split_ands;(with_reducible refine zC (rmade_c _ _ _ _ _ xs (z1+z2) hm ?_) ?_);rw[Hv.out];exact Hz.out;rintro e w2 ⟨s3,a3,n3,c3,rfl,e2,h3⟩;have KF:=Kp.after zp e2;obtain⟨⟨_,r0,_⟩,f0⟩:=Kp.res KF 2 2 zh 0 zb;obtain⟨⟨_,r1,_⟩,f1⟩:=Kp.res KF 2 2 zh 1 zb)))
   have h3:=h3.mono (show n<=max k1 k2+1 by omega);exact tRInt_1
theorem RSub_c(w:World)(s1 s2:Bool)(a1 a2:Option Addr)(n1 n2 c1 c2 k1 k2:Nat)(z1 z2:Int)(h1:IntAt w k1 s1 a1 n1 c1 z1)(h2:IntAt w k2 s2 a2 n2 c2 z2)(l1:k1<=268435456)(l2:k2<=268435456):
  Calls prog 175 #[.agg #[.bool s1,.slice a1 n1 c1],.agg #[.bool s2,.slice a2 n2 c2]] w (RInt w (max k1 k2+1) (z1-z2)):=by
 obtain⟨W,hW,K0⟩:=kp2 w s1 s2 a1 a2 n1 n2 c1 c2;have KC:=hid (kc2 w s1 s2 a1 a2 n1 n2 c1 c2);go_enter func175,ntmps175;go_wp2_with fail;rw[<-hW];clear hW
 go_region_held3 (λw'=>Kp w w' [(1, [.bool s2,.slice a2 n2 c2]),(0, [.bool s1,.slice a1 n1 c1])] [(2,2)]/\w'.cell? ⟨w.heap.size,0,none⟩=some (.bool s1)/\w'.cell? ⟨w.heap.size,1,none⟩=some (.slice a1 n1 c1)/\w'.cell? ⟨w.heap.size+1,0,none⟩=some (.bool s2)/\w'.cell? ⟨w.heap.size+1,1,none⟩=some (.slice a2 n2 c2)) ((go_split_ands;refine KC.out _ ?_;first|assumption|exact Kp.drew zp|exact Kp.drew (Kp.drewN zp _)|exact Kp.after zp zp|exact(Kp.put2 zp 2 zh _ _ _ _ zh).1))
  (first
   | (go_at_call 154;go_must (go_split_ands;(with_reducible refine zC (RNeg_c _ _ _ _ _ k2 z2 ?_) ?_);exact h2.ext (Kp.ext zp);rintro e w1 ⟨s4,a4,n4,c4,rfl,e1,h4⟩))
   | (go_at_call 124;go_must (go_split_ands;(with_reducible refine zC (RAdd_c _ _ _ _ _ _ _ _ _ k1 k2 z1 (-z2) ?_ ?_ zb zb) ?_);exact h1.ext (Kp.ext zp);exact h4;rintro e w2 ⟨s3,a3,n3,c3,rfl,e2,h3⟩;have KF:=Kp.after zp e2;obtain⟨⟨_,r0,_⟩,f0⟩:=Kp.res KF 2 2 zh 0 zb;obtain⟨⟨_,r1,_⟩,f1⟩:=Kp.res KF 2 2 zh 1 zb)))
 rw[<-Int.sub_eq_add_neg]at h3;go_wp2_with fail;refine zD (v:=.agg #[.bool s3,.slice a3 n3 c3]) (by simp[results,results175,go_sem,r0,r1]) rfl (Kp.fin KF 2 zh zh h3)
theorem rcmp_math(s1 s2:Bool)(m1 m2:Nat)(z1 z2:Int)(h1:z1=if s1 then -(m1:Int)else m1)(h2:z2=if s2 then -(m2:Int)else m2)
  (t1:m1=0->s1=false) (t2:m2=0->s2=false):(s1=true->s2=false->qK z1 z2= -1)/\(s1=false->s2=true->qK z1 z2=1)/\(s1=true->s2=true->qK z1 z2=qK m2 m1)/\(s1=false->s2=false->qK z1 z2=qK m1 m2):=by
 simp only[qK];cases s1 <;> cases s2 <;> simp at h1 h2 t1 t2 ⊢ <;>(repeat' split) <;> omega
theorem RCmp_c(w:World)(s1 s2:Bool)(a1 a2:Option Addr)(n1 n2 c1 c2 k1 k2:Nat)(z1 z2:Int)(h1:IntAt w k1 s1 a1 n1 c1 z1)(h2:IntAt w k2 s2 a2 n2 c2 z2)(l1:k1<=268435456)(l2:k2<=268435456):Calls prog 31 #[.agg #[.bool s1,.slice a1 n1 c1],.agg #[.bool s2,.slice a2 n2 c2]] w (RVal w (.int .i64 (qK z1 z2))):=by
 obtain⟨W,hW,K0⟩:=kq20 w s1 s2 a1 a2 n1 n2 c1 c2;have b2:=K0.bx w.heap.size s1 a1 n1 c1 zh;have b3:=K0.bx (w.heap.size+1) s2 a2 n2 c2 zh;have E:=hid K0.ext;obtain⟨m1,g1,t1,e1⟩:=h1;obtain⟨m2,g2,t2,e2⟩:=h2;have HM:=hid (rcmp_math s1 s2 m1 m2 z1 z2 e1 e2 (λh=>t1 (g1.zero.1 h)) (λh=>t2 (g2.zero.1 h)));have C1:=hid (rsize_c W a1 a2 n1 n2 c1 c2 k1 k2 m1 m2 (g1.ext K0.ext) (g2.ext K0.ext) zb);have C2:=hid (rsize_c W a2 a1 n2 n1 c2 c1 k2 k1 m2 m1 (g2.ext K0.ext) (g1.ext K0.ext) zb);have F1:=b2.c0;have F2:=b2.c1;have F3:=b2.f0;have F4:=b2.f1;have G1:=b3.c0;have G2:=b3.c1;have G3:=b3.f0;have G4:=b3.f1;obtain⟨r,hr⟩:∃r,r=qK z1 z2:=⟨_,rfl⟩;rw[<-hr]at HM ⊢;clear K0 e1 e2 t1 t2 g1 g2 hr b2 b3;cases s1 <;> cases s2
 ·have hr:=hid (HM.out.2.2.2 rfl rfl);go_enter func31,ntmps31;go_wp2_with fail;rw[<-hW];clear hW;go_wp2_with fail;refine zC C1.out ?_;rintro e w1 ⟨rfl,e1⟩;go_wp2_with fail
  go_ret
  exact⟨by rw[hr.out];rfl,E.out.trans e1⟩
 ·have hr:=hid (HM.out.2.1 rfl rfl);go_enter func31,ntmps31;go_wp2_with fail;rw[<-hW];clear hW;go_wp2_with fail
  go_ret
  exact⟨by rw[hr.out];rfl,E.out⟩
 ·have hr:=hid (HM.out.1 rfl rfl);go_enter func31,ntmps31;go_wp2_with fail;rw[<-hW];clear hW;go_wp2_with fail
  go_ret
  exact⟨by rw[hr.out];rfl,E.out⟩
 ·have hr:=hid (HM.out.2.2.1 rfl rfl);go_enter func31,ntmps31;go_wp2_with fail;rw[<-hW];clear hW;go_wp2_with fail;refine zC C2.out ?_;rintro e w1 ⟨rfl,e1⟩;go_wp2_with fail
  go_ret
  exact⟨by rw[hr.out];rfl,E.out.trans e1⟩
theorem bitLen_half(x:Nat)(h:0<x):bitLen x=bitLen (x/2)+1:=by
 obtain⟨k,h1,h2,h3⟩:=xO x zb;rcases zI k with h0|h0
 ·subst h0;have:x=1:=by omega
  subst this;decide
 ·obtain⟨j,rfl⟩:∃j,k=j+1:=⟨k-1,by omega⟩;rw[h1,bitLen_eq (x/2) j (by rw[Nat.pow_succ]at h2;omega) (by rw[Nat.pow_succ]at h3;omega)]
theorem RBits_c(w:World)(s1:Bool)(a1:Option Addr)(n1 c1 k1:Nat)(z1:Int)(h1:IntAt w k1 s1 a1 n1 c1 z1)(l1:k1<=268435456):Calls prog 197 #[.agg #[.bool s1,.slice a1 n1 c1]] w (RVal w (.int .i64 (bitLen z1.natAbs:Nat))):=by
 obtain⟨W,hW,K0⟩:∃W,W=w.alloc (.cells #[.bool s1,.slice a1 n1 c1] 33)/\Kq w W [(w.heap.size, [.bool s1,.slice a1 n1 c1])]:=⟨_,rfl,by simpa using(Kq.start w).alloc [.bool s1,.slice a1 n1 c1] 33⟩;have b2:=K0.bx w.heap.size s1 a1 n1 c1 zh;have E:=hid K0.ext;have F1:=b2.c0;have F2:=b2.c1;have F3:=b2.f0;have F4:=b2.f1;obtain⟨m,⟨xs,hw,hk,htop,hv⟩,hs,hz⟩:=h1;have hz':bitLen z1.natAbs=bitLen m:=by rw[hz];cases s1 <;> simp
 rw[hz'];have hlen:=hw.len;rcases zI n1 with h0|h0
 ·subst h0
  have hm:bitLen m=0:=by
   rw[<-hv,List.eq_nil_of_length_eq_zero hlen];rfl
  rw[hm];clear hw hk htop hv hs hz hz' hlen b2 K0;go_enter func197,ntmps197;go_wp2_with fail;rw[<-hW];clear hW;go_wp2_with fail
  go_ret
  exact⟨rfl,E.out⟩
 ·obtain⟨j,rfl⟩:∃j,n1=j+1:=⟨n1-1,by omega⟩;have hbv:=bitLen_natVal xs j hlen hw.lt (by simpa using htop zb);rw[hv]at hbv;rcases hw.shape with h9| ⟨b,off,rfl,hb⟩
  ·omega
  have hw':=hw.ext K0.ext;have hcell:=hw'.cell j zb;have hcellw:=hw.cell j zb;have hjl:j<268435456:=zb
  have hxl:=hw.lt j;have hcapo:=hw.capo;have hbig:=hw.big;obtain⟨x,hx⟩:∃x,x=xs.getD j 0:=⟨_,rfl⟩;rw[<-hx]at hbv hcell hxl hcellw;have Hbv:=hid hbv;obtain⟨T,hT⟩:∃T,T=bitLen m:=⟨_,rfl⟩;rw[<-hT]at Hbv ⊢
  have hTl:T<=34359738368:=by
   have:=(lib_bitLen x hxl).2;have h2:=Hbv.out;omega
  have hnz:((((j+1:Nat):Int))==0)=false:=jk
  have hje:(((j+1:Nat):Int)-1)=(j:Int):=zb
  clear hw hk htop hv hs hz hz' hlen b2 K0 hw' hbv hT h0 hx;go_enter func197,ntmps197;go_wp2_with fail;rw[<-hW];clear hW;go_wp2_with fail;have I0:=hid (show 32*j+bitLen x=T from Hbv.out.symm);clear Hbv F1 F2 F3 F4 hcell hcellw
  go_loopg [3,4] x (λgk v3 v4 wr=>∃n:Nat,v3=.int .i64 (n:Int)/\v4=.int .u32 (gk:Int)/\gk<4294967296/\Hid (n+bitLen gk=T)/\wr=W)
  case atStart=>exact⟨32*j,by go_must (first|rfl| (congr 1;omega)),rfl,hxl,I0,rfl⟩
  case round=>
   clear I0;obtain⟨n,rfl,rfl,hgl,hn,rfl⟩:=hrel;by_cases hg:0<gk
   ·have hb:=bitLen_half gk hg;have hn2:=hid (show n+1+bitLen (gk/2)=T by have:=hn.out;omega);have hnl:n<=T:=by have:=hn.out;omega
    clear hb hn;go_wp2_with fail
    go_roundg (gk/2)
    case measure=>omega
    case rel=>exact⟨n+1,by go_num,by go_num,by omega,hn2,rfl⟩
   ·obtain rfl:gk=0:=by omega
    have hn2:=hid (show n=T by have:=hn.out;simpa [bitLen]using this);clear hn;go_wp2_with fail
    go_ret
    exact⟨by rw[hn2.out];rfl,E.out⟩
end Go.Proofs.YtknffgdbdadpcaaGreatDoor
