/-
 Package math/bits: trailing zeros of any word, the division of two words by one (that it ends, and how long its rest is).
-/
import Derived.Test.YtknffgdbdadpcaaGreatDoorFact
import Derived.Test.YtknffgdbdadpcaaGreatDoorPrt
import Derived.Lib.ItoaNum
namespace Go.Proofs.YtknffgdbdadpcaaGreatDoor
open Go Go.RowKit
open Go.Proofs.Tryz
theorem xc{P:Prop}(h:P:=by rw[IntKind.wrap_u64];omega):P:=h
theorem zb1{P:Prop}(h:P:=by simp[results,results196,go_sem]):P:=h
set_option maxRecDepth 100000
set_option maxHeartbeats 4000000
def tzT:List Nat:= [0,1,56,2,57,49,28,3,61,58,42,50,38,29,17,4,62,47,59,36,45,43,51,22,53,39,33,30,24,18,12,5,63,55,48,27,60,41,37,16,46,35,44,21,52,32,23,11,54,26,40,15,34,20,31,10,25,14,19,9,13,8,7,6]
def Tzt(w:World):Prop:=∀i,i<64->World.cell? w ⟨2,i,none⟩=some (.int .u8 ((tzT.getD i 0:Nat):Int))
theorem Tzt.ext{w w':World}(h:Tzt w)(e:Ext w w'):Tzt w':=λi hi=>e.cell (h i hi)
theorem tz_at:∀s,s<64->∃V i:Nat,2^s*285870213051353865%18446744073709551616=V/\V/288230376151711744=i/\i<64/\tzT.getD i 0=s:=by
 intro s hs;have h:∀s,s<64->tzT.getD (2^s*285870213051353865%18446744073709551616/288230376151711744) 0=s:=ym
 refine⟨_,_,rfl,rfl,?_,h s hs⟩;omega
theorem tz_g(w:World)(hT:Tzt w)(s d x:Nat)(hx:x=2^s*d)(hd:d%2=1)(hb:x<18446744073709551616):Calls prog 172 #[.int .u64 (x:Int)] w (Ret w (iV (s:Int))):=by
 have hp:0<2^s:=Nat.pow_pos dcx
 have hs:s<64:=by
  rcases zQ s 64 with h1|h1
  ·exact h1
  ·have h2:=Nat.pow_le_pow_right (n:=2) dcx h1;have h3:=Nat.le_mul_of_pos_right (2^s) (show 0<d by omega);omega
 have hx0:0<x:=by rw[hx];exact Nat.mul_pos hp zb
 have hlb:=low_bit s d hd (by rw[<-hx];exact hb);rw[<-hx,show(2:Nat)^64=18446744073709551616 from rfl]at hlb;obtain⟨y,hy⟩:∃y,18446744073709551616-x=y:=⟨_,rfl⟩;have hw1:IntKind.u64.wrap (-(x:Int))=(y:Int):=xc
 obtain⟨q,hq⟩:∃q,2^s=q:=⟨_,rfl⟩;obtain⟨V,i,hV,hi,hi64,ht⟩:=tz_at s hs;rw[hq]at hV hlb
 have hw2:bits .and .u64 (x:Int) (y:Int)=(q:Int):=by
  have h:=bits_and_u64_nat x y hb zb;rw[<-hy,hlb]at h;rw[<-hy];exact h
 have hw3:IntKind.u64.wrap ((q:Int)*285870213051353865)=(V:Int):=by rw[IntKind.wrap_u64,<-hV];omega
 have hw4:(V:Int)/288230376151711744=(i:Int):=zb
 have hc:=hT i hi64;rw[ht]at hc;have hne:((x:Int)==0)=false:=jk
 have hi1:(i:Int)<64:=zb
 have hcv:IntKind.i64.wrap (s:Int)=(s:Int):=zo
 have hs0:IntKind.u8.wrap (s:Int)=(s:Int):=by simp only[IntKind.wrap_u8];omega
 clear hq hV hi ht hlb hy hx hd hb hs hp hT;go_enter func172,ntmps172;go_wp2_with fail;exact zD (v:=.int .i64 (s:Int)) (by simp[results,results172,go_sem]) rfl ⟨_,rfl,Ext.refl _,rfl⟩
theorem lz_f(n:Nat)(hn:n<18446744073709551616):∀w,Calls prog 212 #[.int .u64 (n:Int)] w λe w'=>e=.returned (.int .i64 (64-(Lib.bitLen n:Int)))/\w'=w:=λw=>Tryz.bits_LeadingZeros64 (n:Int) w zb zb
theorem wl(z:Int):∃v:Nat,IntKind.u64.wrap z=(v:Int)/\v<18446744073709551616:=by
 refine⟨(IntKind.u64.wrap z).toNat,?_,?_⟩ <;> rw[IntKind.wrap_u64] <;> omega
theorem tPri4_1{P:Prop}(h:P:=by
  obtain⟨q,r,rfl,rfl,hrg,hg0,rfl⟩:=hrel;have hyy:=Hy1.out;obtain⟨m1,e1,_⟩:=wl ((q:Int)*(y0:Int));obtain⟨m2,e2,_⟩:=wl (4294967296*(r:Int));obtain⟨m3,e3,_⟩:=wl ((m2:Int)+(l0:Int));obtain⟨Z,eZ,_⟩:=wl ((q:Int)-1);have e4:IntKind.u64.wrap ((r:Int)+(y1:Int))=((r+y1:Nat):Int):=xc
  obtain⟨r2,hr2⟩:∃r2,r+y1=r2:=⟨_,rfl⟩;rw[hr2]at e4;rcases zQ q 4294967296 with c1|c1
  ·have c1':decide ((4294967296:Int)<=(q:Int))=false:=by rw[zK];omega
   rcases zQ m3 m1 with c2|c2
   ·have c2':decide ((m3:Int)<(m1:Int))=true:=by rw[zU];omega
    rcases zQ r2 4294967296 with c3|c3
    ·have c3':decide ((4294967296:Int)<=(r2:Int))=false:=by rw[zK];omega
     have HG:=hid (zJ hrg (zJ hg0 (zJ hr2 (zJ hyy c3))));clear hrg hg0 hr2 hyy;go_wp2_with fail
     go_roundg (4294967296-r2)
     case measure=>have:=HG.out;omega
     case rel=>exact⟨Z,r2,rfl,rfl,by have:=HG.out;omega,by have:=HG.out;omega,rfl⟩
    ·have c3':decide ((4294967296:Int)<=(r2:Int))=true:=by rw[zU];omega
     clear hrg hg0 hr2 hyy;obtain⟨x5,j5,_⟩:=wl ((Zp:Int)*4294967296);obtain⟨x6,j6,_⟩:=wl ((x5:Int)+(Z:Int));obtain⟨x7,j7,_⟩:=wl ((un:Int)*4294967296);obtain⟨x8,j8,_⟩:=wl ((x7:Int)+(l0:Int));obtain⟨x9,j9,_⟩:=wl ((Z:Int)*(Y:Int));obtain⟨V,jV,hVb⟩:=wl ((x8:Int)-(x9:Int));obtain⟨R,hRe⟩:∃R,V/2^s=R:=⟨_,rfl⟩;have jR:(V:Int)/2^s=(R:Int):=by rw[<-hRe];simp
     have HRR:=hid (show R<2^t by rw[<-hRe];exact HR.out V hVb);clear hRe hVb;go_wp2_with fail;exact zD (v:=.tuple #[.int .u64 (x6:Int),.int .u64 (R:Int)]) zb1 rfl (⟨_,rfl,Ext.refl _,_,_,rfl,HRR.out⟩)
   ·have c2':decide ((m3:Int)<(m1:Int))=false:=by rw[zK];omega
    clear hrg hg0 hr2 hyy eZ e4;obtain⟨Z,rfl⟩:∃Z:Nat,Z=q:=⟨_,rfl⟩;obtain⟨x5,j5,_⟩:=wl ((Zp:Int)*4294967296);obtain⟨x6,j6,_⟩:=wl ((x5:Int)+(Z:Int));obtain⟨x7,j7,_⟩:=wl ((un:Int)*4294967296);obtain⟨x8,j8,_⟩:=wl ((x7:Int)+(l0:Int));obtain⟨x9,j9,_⟩:=wl ((Z:Int)*(Y:Int));obtain⟨V,jV,hVb⟩:=wl ((x8:Int)-(x9:Int));obtain⟨R,hRe⟩:∃R,V/2^s=R:=⟨_,rfl⟩;have jR:(V:Int)/2^s=(R:Int):=by rw[<-hRe];simp
    have HRR:=hid (show R<2^t by rw[<-hRe];exact HR.out V hVb);clear hRe hVb;go_wp2_with fail;exact zD (v:=.tuple #[.int .u64 (x6:Int),.int .u64 (R:Int)]) zb1 rfl (⟨_,rfl,Ext.refl _,_,_,rfl,HRR.out⟩)
  ·have c1':decide ((4294967296:Int)<=(q:Int))=true:=by rw[zU];omega
   clear e1 e2 e3;rcases zQ r2 4294967296 with c3|c3
   ·have c3':decide ((4294967296:Int)<=(r2:Int))=false:=by rw[zK];omega
    have HG:=hid (zJ hrg (zJ hg0 (zJ hr2 (zJ hyy c3))));clear hrg hg0 hr2 hyy;go_wp2_with fail
    go_roundg (4294967296-r2)
    case measure=>have:=HG.out;omega
    case rel=>exact⟨Z,r2,rfl,rfl,by have:=HG.out;omega,by have:=HG.out;omega,rfl⟩
   ·have c3':decide ((4294967296:Int)<=(r2:Int))=true:=by rw[zU];omega
    clear hrg hg0 hr2 hyy;obtain⟨x5,j5,_⟩:=wl ((Zp:Int)*4294967296);obtain⟨x6,j6,_⟩:=wl ((x5:Int)+(Z:Int));obtain⟨x7,j7,_⟩:=wl ((un:Int)*4294967296);obtain⟨x8,j8,_⟩:=wl ((x7:Int)+(l0:Int));obtain⟨x9,j9,_⟩:=wl ((Z:Int)*(Y:Int));obtain⟨V,jV,hVb⟩:=wl ((x8:Int)-(x9:Int));obtain⟨R,hRe⟩:∃R,V/2^s=R:=⟨_,rfl⟩;have jR:(V:Int)/2^s=(R:Int):=by rw[<-hRe];simp
    have HRR:=hid (show R<2^t by rw[<-hRe];exact HR.out V hVb);clear hRe hVb;go_wp2_with fail;exact zD (v:=.tuple #[.int .u64 (x6:Int),.int .u64 (R:Int)]) zb1 rfl (⟨_,rfl,Ext.refl _,_,_,rfl,HRR.out⟩)
  ):P:=h
theorem Div64_h(w:World)(hi lo n:Nat)(h0:0<hi)(hh:hi<n)(hl:lo<18446744073709551616)(hn:n<9223372036854775808):
  Calls prog 196 #[.int .u64 (hi:Int),.int .u64 (lo:Int),.int .u64 (n:Int)] w (Ret w (λv _=>∃q r:Nat,v=.tuple #[.int .u64 (q:Int),.int .u64 (r:Int)]/\r<2^Lib.bitLen n)):=by
 have hlz:=lz_f n zb;obtain⟨hb1,hb2,hb3⟩:=Lib.bitLenAux_bounds 64 n zb zb;have e64:Lib.bitLenAux 64 n=Lib.bitLen n:=rfl;rw[e64]at hb1 hb2 hb3;clear e64;generalize Lib.bitLen n=t at*
 have ht:t<=63:=by
  rcases zQ 63 t with h|h
  ·have h1:=Nat.pow_le_pow_right (n:=2) dcx (show 63<=t-1 by omega);have:(2:Nat)^63=9223372036854775808:=by decide
   omega
  ·exact h
 obtain⟨s,hs⟩:∃s,64-t=s:=⟨_,rfl⟩;have hs1:(64-(t:Int))=(s:Int):=zb
 have hs2:IntKind.u64.wrap (s:Int)=(s:Int):=xc
 have hs3:IntKind.u64.wrap (64-(s:Int))=(t:Int):=xc
 rw[hs1]at hlz;have f1:((n:Int)==0)=false:=jk
 have f3:((hi:Int)==0)=false:=jk
 have f4:hi<n:=hh;have f5:(s:Int)<64:=zb
 have f6:0<=(s:Int):=zb
 have f7:(t:Int)<64:=zb
 have f8:0<=(t:Int):=zb
 have hp:0<2^s:=Nat.pow_pos dcx
 have hY:9223372036854775808<=n*2^s/\n*2^s<18446744073709551616:=by
  constructor
  ·have h1:=Nat.mul_le_mul_right (2^s) hb2;rw[<-Nat.pow_add,show t-1+s=63 by omega]at h1;exact h1
  ·have h1:=Nat.mul_lt_mul_of_pos_right hb3 hp;rw[<-Nat.pow_add,show t+s=64 by omega]at h1;exact h1
 have HR:=hid (show ∀V:Nat,V<18446744073709551616->V/2^s<2^t from λV hV=>by
  rw[Nat.div_lt_iff_lt_mul hp,<-Nat.pow_add,show t+s=64 by omega]
  exact hV)
 obtain⟨Y,hYe⟩:∃Y,n*2^s=Y:=⟨_,rfl⟩;rw[hYe]at hY
 have w1:IntKind.u64.wrap ((n:Int)*2^s)=(Y:Int):=by
  have:(n:Int)*2^s=(Y:Int):=by rw[<-hYe];simp
  rw[this,IntKind.wrap_u64];omega
 obtain⟨y1,hy1⟩:∃y1,Y/4294967296=y1:=⟨_,rfl⟩;have w2:(Y:Int)/4294967296=(y1:Int):=zb
 have hy1b:2147483648<=y1/\y1<4294967296:=zb
 have hand:∀Z:Nat,Z<18446744073709551616->∃z0:Nat,bits .and .u64 ((Z:Nat):Int) 4294967295=(z0:Int):=λZ hZ=>⟨Z&&&4294967295,bits_and_u64_nat Z 4294967295 hZ zb⟩
 obtain⟨y0,hy0⟩:=hand Y hY.2;obtain⟨A,hA,hAb⟩:=wl ((hi:Int)*2^s);obtain⟨B,hB⟩:∃B,lo/2^t=B:=⟨_,rfl⟩;have w3:(lo:Int)/2^t=(B:Int):=by rw[<-hB];simp
 have hBb:B<=lo:=by rw[<-hB];exact Nat.div_le_self _ _
 obtain⟨U,hU,hUb⟩:∃U:Nat,bits .or .u64 (A:Int) (B:Int)=(U:Int)/\U<18446744073709551616:=
  ⟨A|||B,bits_or_u64_nat A B hAb zb,Nat.or_lt_two_pow (n:=64) hAb zb⟩
 obtain⟨L,hL,hLb⟩:=wl ((lo:Int)*2^s);obtain⟨l1,hl1⟩:∃l1,L/4294967296=l1:=⟨_,rfl⟩;have w4:(L:Int)/4294967296=(l1:Int):=zb
 obtain⟨l0,hl0⟩:=hand L hLb
 have hdiv:∀U:Nat,U<18446744073709551616->∃q P r:Nat,(U:Int).tdiv (y1:Int)=(q:Int)/\(U:Int)/(y1:Int)=(q:Int)/\IntKind.u64.wrap (q:Int)=(q:Int)/\IntKind.u64.wrap ((q:Int)*(y1:Int))=(P:Int)/\IntKind.u64.wrap ((U:Int)-(P:Int))=(r:Int)/\r<4294967296/\q<18446744073709551616:=by
  intro U hU;have h1:=Nat.div_mul_le_self U y1;have h2:=Nat.div_le_self U y1;have h3:=zR U (show y1 >0 by omega);have h4:=Nat.div_add_mod U y1;rw[Nat.mul_comm]at h4;have h5:(U:Int)/(y1:Int)=((U/y1:Nat):Int):=(Int.natCast_ediv _ _).symm;have h6:(U:Int).tdiv (y1:Int)=((U/y1:Nat):Int):=by rw[Int.tdiv_eq_ediv_of_nonneg (by omega)];exact h5
  generalize U/y1=q at*;generalize U%y1=r at*;obtain⟨P,hP⟩:∃P,q*y1=P:=⟨_,rfl⟩;have h7:(q:Int)*(y1:Int)=(P:Int):=by rw[<-hP];simp
  rw[hP]at h1 h4;exact⟨q,P,r,h6,h5,by rw[IntKind.wrap_u64];omega,by rw[h7,IntKind.wrap_u64];omega,by rw[IntKind.wrap_u64];omega,by omega,by omega⟩
 obtain⟨q1,P1,r1,d1,d2,d3,d4,d5,r1b,q1b⟩:=hdiv U hUb;have w5:((y1:Int)==0)=false:=jk
 have w6:¬(y1:Int)=0:=zb
 have w7:¬y1=0:=zb
 have HD:=hid hdiv;have Hy1:=hid hy1b;have HQR:=hid (zJ r1b q1b);clear hs1 hs ht hb1 hb2 hb3 hn hh hl h0 hYe hy1 hy1b hY hand hAb hB hBb hUb hLb hl1 hdiv hp r1b q1b;go_enter func196,ntmps196;go_upto_region 17 with(go_at_call 212;refine zC (hlz _) ?_;rintro e ww ⟨rfl,rfl⟩);clear hlz f1 f3 f4 hs2 hs3 w1 w2 w3 hU hA hL w4 hl0 hy0 d1 d2 d3 d4 d5
 go_loopg [15,16] (4294967296-r1) (λgk vq vr wr=>∃(q r:Nat),vq=.int .u64 (q:Int)/\vr=.int .u64 (r:Int)/\r+gk=4294967296/\0<gk/\ww=wr)
 case atStart=>exact⟨q1,r1,rfl,rfl,by have:=HQR.out;omega,by have:=HQR.out;omega,rfl⟩
 case round=>
  obtain⟨q,r,rfl,rfl,hrg,hg0,rfl⟩:=hrel;have hyy:=Hy1.out;obtain⟨m1,e1,_⟩:=wl ((q:Int)*(y0:Int));obtain⟨m2,e2,_⟩:=wl (4294967296*(r:Int));obtain⟨m3,e3,_⟩:=wl ((m2:Int)+(l1:Int));obtain⟨Z,eZ,_⟩:=wl ((q:Int)-1);have e4:IntKind.u64.wrap ((r:Int)+(y1:Int))=((r+y1:Nat):Int):=xc
  obtain⟨r2,hr2⟩:∃r2,r+y1=r2:=⟨_,rfl⟩;rw[hr2]at e4;rcases zQ q 4294967296 with c1|c1
  ·have c1':decide ((4294967296:Int)<=(q:Int))=false:=by rw[zK];omega
   rcases zQ m3 m1 with c2|c2
   ·have c2':decide ((m3:Int)<(m1:Int))=true:=by rw[zU];omega
    rcases zQ r2 4294967296 with c3|c3
    ·have c3':decide ((4294967296:Int)<=(r2:Int))=false:=by rw[zK];omega
     have HG:=hid (zJ hrg (zJ hg0 (zJ hr2 (zJ hyy c3))));clear hrg hg0 hr2 hyy;go_wp2_with fail
     go_roundg (4294967296-r2)
     case measure=>have:=HG.out;omega
     case rel=>exact⟨Z,r2,rfl,rfl,by have:=HG.out;omega,by have:=HG.out;omega,rfl⟩
    ·have c3':decide ((4294967296:Int)<=(r2:Int))=true:=by rw[zU];omega
     clear hrg hg0 hr2 hyy;obtain⟨x1,i1,_⟩:=wl ((U:Int)*4294967296);obtain⟨x2,i2,_⟩:=wl ((x1:Int)+(l1:Int));obtain⟨x3,i3,_⟩:=wl ((Z:Int)*(Y:Int));obtain⟨un,i4,unb⟩:=wl ((x2:Int)-(x3:Int));obtain⟨q2,P2,rr2,d1,d2,d3,d4,d5,r2b,q2b⟩:=HD.out un unb;have HQ2:=hid (zJ r2b q2b);clear unb r2b q2b;go_upto_region 24 with fail;clear i1 i2 i3 i4 d1 d2 d3 d4 d5
     try clear c1'
     try clear c2'
     try clear c3'
     try clear e1 e2 e3
     try clear eZ
     try clear e4
     try clear c1
     try clear c2
     try clear c3
     obtain⟨Zp,rfl⟩:∃Zp:Nat,Zp=Z:=⟨_,rfl⟩
     go_loopg [18,16] (4294967296-rr2) (λgk vq vr wr=>∃(q r:Nat),vq=.int .u64 (q:Int)/\vr=.int .u64 (r:Int)/\r+gk=4294967296/\0<gk/\ww=wr)
     case atStart=>exact⟨q2,rr2,rfl,rfl,by have:=HQ2.out;omega,by have:=HQ2.out;omega,rfl⟩
     case round=>
      exact tPri4_1
   ·have c2':decide ((m3:Int)<(m1:Int))=false:=by rw[zK];omega
    clear hrg hg0 hr2 hyy eZ e4;obtain⟨Z,rfl⟩:∃Z:Nat,Z=q:=⟨_,rfl⟩;obtain⟨x1,i1,_⟩:=wl ((U:Int)*4294967296);obtain⟨x2,i2,_⟩:=wl ((x1:Int)+(l1:Int));obtain⟨x3,i3,_⟩:=wl ((Z:Int)*(Y:Int));obtain⟨un,i4,unb⟩:=wl ((x2:Int)-(x3:Int));obtain⟨q2,P2,rr2,d1,d2,d3,d4,d5,r2b,q2b⟩:=HD.out un unb;have HQ2:=hid (zJ r2b q2b);clear unb r2b q2b;go_upto_region 24 with fail;clear i1 i2 i3 i4 d1 d2 d3 d4 d5
    try clear c1'
    try clear c2'
    try clear c3'
    try clear e1 e2 e3
    try clear eZ
    try clear e4
    try clear c1
    try clear c2
    try clear c3
    obtain⟨Zp,rfl⟩:∃Zp:Nat,Zp=Z:=⟨_,rfl⟩
    go_loopg [18,16] (4294967296-rr2) (λgk vq vr wr=>∃(q r:Nat),vq=.int .u64 (q:Int)/\vr=.int .u64 (r:Int)/\r+gk=4294967296/\0<gk/\ww=wr)
    case atStart=>exact⟨q2,rr2,rfl,rfl,by have:=HQ2.out;omega,by have:=HQ2.out;omega,rfl⟩
    case round=>
     exact tPri4_1
  ·have c1':decide ((4294967296:Int)<=(q:Int))=true:=by rw[zU];omega
   clear e1 e2 e3;rcases zQ r2 4294967296 with c3|c3
   ·have c3':decide ((4294967296:Int)<=(r2:Int))=false:=by rw[zK];omega
    have HG:=hid (zJ hrg (zJ hg0 (zJ hr2 (zJ hyy c3))));clear hrg hg0 hr2 hyy;go_wp2_with fail
    go_roundg (4294967296-r2)
    case measure=>have:=HG.out;omega
    case rel=>exact⟨Z,r2,rfl,rfl,by have:=HG.out;omega,by have:=HG.out;omega,rfl⟩
   ·have c3':decide ((4294967296:Int)<=(r2:Int))=true:=by rw[zU];omega
    clear hrg hg0 hr2 hyy;obtain⟨x1,i1,_⟩:=wl ((U:Int)*4294967296);obtain⟨x2,i2,_⟩:=wl ((x1:Int)+(l1:Int));obtain⟨x3,i3,_⟩:=wl ((Z:Int)*(Y:Int));obtain⟨un,i4,unb⟩:=wl ((x2:Int)-(x3:Int));obtain⟨q2,P2,rr2,d1,d2,d3,d4,d5,r2b,q2b⟩:=HD.out un unb;have HQ2:=hid (zJ r2b q2b);clear unb r2b q2b;go_upto_region 24 with fail;clear i1 i2 i3 i4 d1 d2 d3 d4 d5
    try clear c1'
    try clear c2'
    try clear c3'
    try clear e1 e2 e3
    try clear eZ
    try clear e4
    try clear c1
    try clear c2
    try clear c3
    obtain⟨Zp,rfl⟩:∃Zp:Nat,Zp=Z:=⟨_,rfl⟩
    go_loopg [18,16] (4294967296-rr2) (λgk vq vr wr=>∃(q r:Nat),vq=.int .u64 (q:Int)/\vr=.int .u64 (r:Int)/\r+gk=4294967296/\0<gk/\ww=wr)
    case atStart=>exact⟨q2,rr2,rfl,rfl,by have:=HQ2.out;omega,by have:=HQ2.out;omega,rfl⟩
    case round=>
     exact tPri4_1
end Go.Proofs.YtknffgdbdadpcaaGreatDoor
