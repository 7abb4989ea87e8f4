/- Lemmas. -/
import Derived.Test.YtkeikfekkdplgaaGreatDoorBase
import Derived.Test.YtkeikfekkdplgaaGreatDoorShelf
import Derived.Deep.LoopGhost
import Derived.Deep.DeepCutAuto
import Derived.Deep.CutBlock
import Derived.Deep.QuietTactic
import Derived.Deep.RegionHeld3
import Derived.BigQuiet
import Derived.WalkSpells
import Derived.Orders
namespace Go.Proofs.YtkeikfekkdplgaaGreatDoor
section
open Go Go.RowKit
set_option maxRecDepth 100000
set_option maxHeartbeats 1000000
def DivInv(w0:World)(g N d:Nat)(A:List Nat)(k r:Nat)(wr:World):Prop:=
  ∃ys,Own wr g ys/\ys.length=N/\(∀i,ys.getD i 0<4294967296)/\d*qD ys+r*4294967296^k+pv A k=qD A/\(∀i,i<k->ys.getD i 0=0)/\Ext w0 wr
theorem DivInv.start{w0 wr:World}{g n d:Nat}{A:List Nat}(h:Own wr g (List.replicate n 0))(he:Ext w0 wr)(hl:A.length=n):DivInv w0 g n d A n 0 wr:=
  ⟨_,h,by simp,λi=>by rw[getD_zeros];omega,by rw[natVal_zeros,xL A n (Nat.le_of_eq hl)];simp,λi _=>getD_zeros _ _,he⟩
theorem DivInv.fin{w0 wr:World}{g N d r:Nat}{A:List Nat}(h:DivInv w0 g N d A 0 r wr)(hN:N<=140737488355328)(hr:r<d):
    (∃ys,Wd wr (some ⟨g,0,none⟩) N N ys/\qD ys=qD A/d)/\r=qD A%d/\Ext w0 wr:=by
  obtain⟨ys,h1,h2,h3,h4,h5,h7⟩:=h;have hw:=h1.wd h3 N (Nat.le_of_eq h2) hN;rw[h2]at hw;simp only[pv,Nat.pow_zero,Nat.mul_one,Nat.add_zero]at h4;refine⟨⟨ys,hw,?_⟩,?_,h7⟩
  ·rw[<-h4,Nat.mul_add_div (by omega),Nat.div_eq_of_lt hr,Nat.add_zero]
  ·rw[<-h4,Nat.mul_add_mod,Nat.mod_eq_of_lt hr]
theorem DivInv.step{w0 wr:World}{g N d k r:Nat}{A:List Nat}(h:DivInv w0 g N d A (k+1) r wr)(hk:k<N)(hg:w0.heap.size<=g)(hr:r<d)(hA:A.getD k 0<4294967296):
    Ext w0 wr/\g<wr.heap.size/\
      ∀ w2,Ext wr w2->(∃o:Nat,w2.cell? ⟨g,k,none⟩=some (.int .u32 o))/\w2.frozen? ⟨g,k,none⟩=false/\
        DivInv w0 g N d A k ((r*4294967296+A.getD k 0)%d) (w2.setCell ⟨g,k,none⟩ (.int .u32 (((r*4294967296+A.getD k 0)/d:Nat):Int))):=by
  obtain⟨ys,h1,h2,h3,h4,h5,h7⟩:=h;refine⟨h7,h1.lt,λw2 e2=>⟨⟨_,(h1.ext e2).cell _ (by omega)⟩,(h1.ext e2).free _,?_⟩⟩;have hq:(r*4294967296+A.getD k 0)/d<4294967296:=Nat.div_lt_of_lt_mul (by have:=Nat.mul_le_mul_right 4294967296 (show r+1<=d from hr);omega);refine⟨_,(h1.ext e2).set _ _,by simpa using h2,λj=>?_,?_,λj hj=>?_,(h7.trans e2).set hg _⟩
  · rw[getD_set _ _ _ _ (by omega)];split
    ·exact hq
    ·exact h3 j
  · have e:=natVal_set ys k ((r*4294967296+A.getD k 0)/d) (by omega)
    rw[h5 k (by omega),Nat.mul_zero,Nat.add_zero]at e;rw[e];have e3:=Nat.div_add_mod (r*4294967296+A.getD k 0) d;rw[pv]at h4;generalize(r*4294967296+A.getD k 0)/d=q at*;generalize(r*4294967296+A.getD k 0)%d=t at*;have e4:4294967296^k*(d*q+t)=4294967296^k*(r*4294967296+A.getD k 0):=by rw[e3]
    rw[Nat.pow_succ]at h4
    grind
  ·rw[getD_set _ _ _ _ (by omega),if_neg (by omega)];exact h5 j (by omega)
def RDivW(w0:World)(k m r:Nat)(e:Ending)(w':World):Prop:=
  ∃ao n cap,e=.returned (.tuple #[.slice ao n cap,.int .u32 (r:Nat)])/\Ext w0 w'/\NatAt w' k ao n cap m
theorem divw_wd(w:World)(a1:Option Addr)(n1 c1 d:Nat)(A:List Nat)(h1:Wd w a1 n1 c1 A)(s1:n1<=1073741824)(hd0:0<d)(hd:d<4294967296):
    Calls Tryz.prog 236 #[.slice a1 n1 c1,.int .u32 d] w (RDivW w n1 (qD A/d) (qD A%d)):=by
  have HA:=hid h1.lt;have HlA:=hid h1.len;have HW1:=hid h1;have sh1:=h1.shape;clear h1;rcases sh1 with sh1| ⟨b1,off1,rfl,hb1⟩
  all_goals
    go_enter Tryz.func236,Tryz.ntmps236;go_wp2_with (at_make;refine wpl_make rfl _ _ _ rfl Tryz.underlying240 _ _ n1 rfl rfl (by omega) (by omega) (by omega) ?_;intro w1 e1 z1 o1)
    have I0:=hid (DivInv.start (d:=d) o1 e1 HlA.out);clear o1 e1 z1
    go_loopw [7,8] (λr i wr=>∃z:Int,∃rr:Nat,-1<=z/\z<n1/\rr<d/\i=.int .i64 z/\r=.int .u32 rr/\Hid (DivInv w w.heap.size n1 d A (z+1).toNat rr wr)) (λ_ i _=>(intOf i+1).toNat)
    case atStart=>exact⟨(n1:Int)-1,0,by omega,by omega,hd0,rfl,rfl,by rw[show((n1:Int)-1+1).toNat=n1 from by omega];exact I0⟩
    case round=>
      clear I0;obtain⟨z,r,hz1,hz2,hr,rfl,rfl,hinv⟩:=hrel;by_cases hz0:0<=z
      · obtain⟨j,rfl⟩:=Int.eq_ofNat_of_zero_le hz0
        first
          | (exfalso;omega)
          | (have hinv':DivInv w w.heap.size n1 d A (j+1) r wr:=hinv.out
             obtain⟨hext,hgl,hst⟩:=hinv'.step (by omega) (jP _) hr (HA.out j);have hcA:=(HW1.out.ext hext).cell j (by omega);have hxl:=HA.out j;have Hst:=hid hst;clear hst hinv hinv';generalize A.getD j 0=x at*;have hmod:=hid (jV (r*4294967296+x) hd0);go_wp2_with (go_at_call 250;refine(div32_c r x d hr hxl hd _).mono ?_;rintro e w2 ⟨rfl,he2⟩;obtain⟨⟨o,ho⟩,hf2,hst2⟩:=Hst.out w2 he2;have hst2:=hid hst2)
             go_roundw
             case rel=>exact⟨(j:Int)-1,_,by omega,by omega,hmod.out,rfl,rfl,by rw[show((j:Int)-1+1).toNat=j from by omega];exact hst2⟩
             case measure=>simp[intOf])
      · obtain rfl:z= -1:=by omega
        have hv:DivInv w w.heap.size n1 d A 0 r wr:=hinv.out;obtain⟨⟨zs,hz1,hz2⟩,hz4,hz3⟩:=hv.fin (by omega) hr;have Hz2:=hid hz2;have Hz4:=hid hz4;clear hinv hv hz2 hz4;go_wp2_with (go_at_call 178;refine(trim_c _ _ _ _ _ hz1).mono ?_;rintro e w3 ⟨ao,n,cap,rfl,he,hn⟩)
        go_ret2
        exact⟨ao,n,cap,by rw[<-Hz4.out];rfl,hz3.trans he,Hz2.out▸hn⟩
theorem divw_c(w:World)(a1:Option Addr)(n1 c1 d k1 x:Nat)(h1:NatAt w k1 a1 n1 c1 x)(s1:k1<=1073741824)(hd0:0<d)(hd:d<4294967296):
    Calls Tryz.prog 236 #[.slice a1 n1 c1,.int .u32 d] w (RDivW w k1 (x/d) (x%d)):=by
  obtain⟨xs,h1,l1,_,rfl⟩:=h1;refine(divw_wd w a1 n1 c1 d xs h1 (by omega) hd0 hd).mono ?_;rintro e w' ⟨ao,n,cap,he,hx,hn⟩;exact⟨ao,n,cap,he,hx,hn.mono (by omega)⟩
def bitLen(m:Nat):Nat:=if m=0 then 0 else m.log2+1
theorem bitLen_eq(x k:Nat)(h1:2^k<=x)(h2:x<2^(k+1)):bitLen x=k+1:=by
  have hp:0<2^k:=Nat.pos_of_ne_zero (by simp);have h0:x≠0:=by omega
  have a:=(Nat.le_log2 h0).2 h1;have b:=(Nat.log2_lt h0).2 h2;simp[bitLen,h0];omega
theorem bitLen_bounds(x:Nat)(h:x≠0):∃k,bitLen x=k+1/\2^k<=x/\x<2^(k+1):=
  ⟨x.log2,by simp[bitLen,h],(Nat.le_log2 h).1 (jP _),(Nat.log2_lt h).1 (Nat.lt_succ_self _)⟩
theorem lib_bitLen(x:Nat)(hx:x<4294967296):Lib.bitLen x=bitLen x/\bitLen x<=32:=by
  have e:Lib.bitLen x=bitLen x:=by
    rcases jN x with h|h
    ·subst h;rfl
    · obtain⟨a,b,c⟩:=Lib.bitLenAux_bounds 64 x (by omega) (by omega)
      obtain⟨k,hk⟩:∃k,Lib.bitLenAux 64 x=k+1:=⟨Lib.bitLenAux 64 x-1,by omega⟩;rw[hk]at b c;rw[bitLen_eq x k b c];exact hk
  exact⟨e,e▸Lib.bitLen_le x 32 (by omega) hx⟩
theorem bitLen_natVal(xs:List Nat)(n:Nat)(hl:xs.length=n+1)(hx:∀i,xs.getD i 0<4294967296)(hz:xs.getD n 0≠0):bitLen (qD xs)=32*n+bitLen (xs.getD n 0):=by
  obtain⟨k,h1,h2,h3⟩:=bitLen_bounds _ hz;have e:=xL xs (n+1) (Nat.le_of_eq hl);have hp:=pv_lt xs hx n;rw[pv]at e;rw[h1,<-e,<-Nat.add_assoc];have eB:4294967296^n=2^(32*n):=by rw[Nat.pow_mul]
  have a1:4294967296^n*2^k<=4294967296^n*xs.getD n 0:=Nat.mul_le_mul_left _ h2;have a2:4294967296^n*(xs.getD n 0+1)<=4294967296^n*2^(k+1):=Nat.mul_le_mul_left _ h3;rw[Nat.mul_add,Nat.mul_one]at a2;apply bitLen_eq
  ·rw[Nat.pow_add,<-eB];omega
  ·rw[Nat.add_assoc,Nat.pow_add,<-eB];omega
theorem bits_c(w:World)(a1:Option Addr)(n1 c1 k1 x:Nat)(h1:NatAt w k1 a1 n1 c1 x)(s1:k1<=1073741824):
    Calls Tryz.prog 221 #[.slice a1 n1 c1] w (RSame w (.int .i64 (bitLen x:Nat))):=by
  obtain⟨xs,h1,l1,hz,rfl⟩:=h1;have hlen:=h1.len;have hlt:=h1.lt;rcases jN n1 with h0|h0
  · have hv:bitLen (qD xs)=0:=by
      have:xs= []:=List.eq_nil_of_length_eq_zero (by omega);subst this;rfl
    rw[hv];subst h0;clear h1 hz hlen hlt hv;go_enter Tryz.func221,Tryz.ntmps221
    go_wp2
    go_ret
    exact⟨rfl,rfl⟩
  · obtain⟨m,rfl⟩:∃m,n1=m+1:=⟨n1-1,by omega⟩
    have hz:=hz (by omega);simp only[Nat.add_sub_cancel]at hz;have hv:=hid (bitLen_natVal xs m hlen hlt hz);rcases h1.shape with h| ⟨b,off,rfl,hb⟩
    ·omega
    have hc:=h1.cell m (by omega);have hx:=hlt m;clear h1 hlen hlt hz;generalize xs.getD m 0=x at*;obtain⟨hL,hbl⟩:=lib_bitLen x hx;go_enter Tryz.func221,Tryz.ntmps221;go_wp2_with (go_at_call 161;refine(Tryz.bits_Len32 _ _ (by omega) (by omega)).mono ?_;rintro e w' ⟨rfl,rfl⟩)
    go_ret
    exact RSame.mk' (by rw[hv.out];simp)
theorem guess_ge(q V W Nu lo P x0 first v1 v2 V0:Nat)(hq:q*(V*W)<=Nu)(hN:Nu=lo+W*P*(x0+4294967296*first))(hlo:lo<W*P)(hx0:x0<4294967296)
    (hV:V=V0+P*(v2+4294967296*v1)):q*v1<=first:=by
  apply Nat.le_of_not_lt;intro h;have h1:W*P*(4294967296*(first+1))<=W*P*(4294967296*(q*v1)):=Nat.mul_le_mul_left _ (by omega);have h2:W*P*(x0+4294967296*first+1)<=W*P*(4294967296*(first+1)):=Nat.mul_le_mul_left _ (by omega);have h3:q*(V*W)=W*(q*V0)+W*P*(q*v2)+W*P*(4294967296*(q*v1)):=by subst hV;grind
  have h4:W*P*(x0+4294967296*first+1)=W*P*(x0+4294967296*first)+W*P:=by rw[Nat.mul_add,Nat.mul_one]
  generalize W*P*(4294967296*(q*v1))=a1 at*;generalize W*P*(4294967296*(first+1))=a2 at*;generalize W*P*(x0+4294967296*first)=a3 at*;omega
theorem guess_dec(q g r V W Nu lo P x0 first v1 v2 V0:Nat)(hq:q*(V*W)<=Nu)(hN:Nu=lo+W*P*(x0+4294967296*first))(hlo:lo<W*P)
    (hV:V=V0+P*(v2+4294967296*v1)) (hqg:q<=g) (hg:g*v1+r=first) (ht:r*4294967296+x0<g*v2):q+1<=g:=by
  rcases jU q g with h|h
  ·exact h
  · exfalso
    obtain rfl:q=g:=by omega
    have h1:q*(V*W)=W*(q*V0)+W*P*(q*v2+4294967296*(q*v1)):=by subst hV;grind
    have h2:x0+4294967296*first+1<=q*v2+4294967296*(q*v1):=by
      generalize q*v1=a at*;generalize q*v2=b at*;omega
    have h3:=Nat.mul_le_mul_left (W*P) h2;rw[Nat.mul_add _ _ 1,Nat.mul_one]at h3;generalize W*P*(q*v2+4294967296*(q*v1))=a1 at*;generalize W*P*(x0+4294967296*first)=a3 at*;omega
theorem digit_lt(q X Nu:Nat)(hq:q*X<=Nu)(hN:Nu<X*4294967296):q<4294967296:=by
  apply Nat.lt_of_not_le;intro h;have:=Nat.mul_le_mul_right X h;rw[Nat.mul_comm 4294967296]at this;omega
theorem guess_le(g r V W Nu lo P x0 first v1 v2 V0:Nat)(hN:Nu=lo+W*P*(x0+4294967296*first))(hV:V=V0+P*(v2+4294967296*v1))(hV0:V0<P)
    (hg:g*v1+r=first) (ht:g*v2<=r*4294967296+x0) (hgB:g<=4294967296) (hv1:0<v1):g*(V*W)<=Nu+V*W:=by
  have h1:g*(V*W)=W*(g*V0)+W*P*(g*v2+4294967296*(g*v1)):=by subst hV;grind
  have h2:g*v2+4294967296*(g*v1)<=x0+4294967296*first:=by
    generalize g*v1=a at*;generalize g*v2=b at*;omega
  have h3:=Nat.mul_le_mul_left (W*P) h2;have h4:W*(g*V0)<=W*(4294967296*P):=Nat.mul_le_mul_left _ (Nat.mul_le_mul hgB (by omega))
  have h5:W*(4294967296*P)<=V*W:=by
    rw[Nat.mul_comm V];apply Nat.mul_le_mul_left;rw[hV,Nat.mul_comm _ P];have:P*4294967296<=P*(v2+4294967296*v1):=Nat.mul_le_mul_left _ (by omega);omega
  generalize W*(g*V0)=a1 at*;generalize W*(4294967296*P)=a2 at*;generalize W*P*(g*v2+4294967296*(g*v1))=a3 at*;generalize W*P*(x0+4294967296*first)=a4 at*;omega
theorem first_le(V W Nu lo P x0 x1 x2 v1 v2 V0:Nat)(hN:Nu=lo+W*P*(x0+4294967296*(x2*4294967296+x1)))(hlt:Nu<V*W*4294967296)(hV:V=V0+P*(v2+4294967296*v1))(hV0:V0<P)
    (hv2:v2<4294967296):x2<=v1:=by
  apply Nat.le_of_not_lt;intro h
  have h1:V<P*(4294967296*(v1+1)):=by
    have:P*(v2+4294967296*v1+1)<=P*(4294967296*(v1+1)):=Nat.mul_le_mul_left _ (by omega);rw[Nat.mul_add _ _ 1,Nat.mul_one]at this;omega
  have h2:V*W*4294967296<=P*(4294967296*(v1+1))*W*4294967296:=Nat.mul_le_mul_right _ (Nat.mul_le_mul_right _ (Nat.le_of_lt h1));have h3:W*P*(4294967296*((v1+1)*4294967296))<=W*P*(x0+4294967296*(x2*4294967296+x1)):=Nat.mul_le_mul_left _ (by omega);have h4:P*(4294967296*(v1+1))*W*4294967296=W*P*(4294967296*((v1+1)*4294967296)):=by grind
  omega
theorem guess_small(g r first v1 x1 x2:Nat)(hg:g*v1+r=first)(hf:first=x2*4294967296+x1)(hx1:x1<4294967296)(hx2:x2<=v1)(hr:4294967296<=r):g<4294967296:=by
  apply Nat.lt_of_not_le;intro h;have h1:4294967296*v1<=g*v1:=Nat.mul_le_mul_right _ h;have h2:x2*4294967296<=v1*4294967296:=Nat.mul_le_mul_right _ hx2;omega
theorem guess_final(g q X Nu:Nat)(h1:g*X<=Nu+X)(h2:Nu<(q+1)*X):g<=q+1:=by
  apply Nat.le_of_not_lt;intro h;have:=Nat.mul_le_mul_right X (show q+2<=g by omega);rw[Nat.add_mul]at*;omega
theorem prod2_lt(g v:Nat)(hg:g<4294967296)(hv:v<4294967296):g*v<=18446744065119617025:=by
  have:=Nat.mul_le_mul (show g<=4294967295 by omega) (show v<=4294967295 by omega);omega
theorem pv_zero_above(xs:List Nat)(k:Nat)(h:∀i,k<=i->xs.getD i 0=0):pv xs k=qD xs:=by
  have key:∀m,pv xs (k+m)=pv xs k:=λm=>by
    induction m with
    |zero=>rfl
    |succ m ih=>rw[<-Nat.add_assoc,pv,ih,h (k+m) (by omega),Nat.mul_zero,Nat.add_zero]
  rw[<-key xs.length,xL xs _ (by omega)]
theorem zero_above(xs:List Nat)(k:Nat)(h:qD xs<4294967296^k):∀i,k<=i->xs.getD i 0=0:=by
  intro i hi;rcases jN (xs.getD i 0)with h0|h0
  ·exact h0
  · exfalso
    have hil:i<xs.length:=by
      rcases jU i xs.length with h1|h1
      ·exact h1
      ·rw[xV xs i h1]at h0;omega
    have e:=natVal_set xs i 0 hil;rw[Nat.mul_zero,Nat.add_zero]at e;have h1:4294967296^i*1<=4294967296^i*xs.getD i 0:=Nat.mul_le_mul_left _ h0;have h2:4294967296^k<=4294967296^i:=Nat.pow_le_pow_right (by omega) hi;rw[Nat.mul_one]at h1;omega
end
section
open Go Go.RowKit
open Go.Proofs.Tryz
theorem zac{P:Prop}(h:P:=by rw[hx,hy];exact h):P:=h
set_option maxRecDepth 100000
set_option maxHeartbeats 1000000
def qM(a b:Int):Int:=if a<b then -1 else if b<a then 1 else 0
theorem jC{a b:Int}(h:a<b):qM a b= -1:=by simp[qM,h]
theorem jD{a b:Int}(h:b<a):qM a b=1:=by
  have:¬a<b:=by omega
  simp[qM,h,this]
theorem cmpI_eq{a b:Int}(h:a=b):qM a b=0:=by subst h;simp[qM]
theorem ret_int{k:IntKind}{a b:Int}(h:a=b):Ending.returned (.int k a)=.returned (.int k b):=by rw[h]
theorem tCmp_2{P:Prop}(h:P:=by
  go_enter func195,ntmps195
  go_wp2
  go_ret
  exact⟨rfl,rfl⟩
  ):P:=h
theorem compare_int_c(a b:Int)(w:World):Calls prog 195 #[.int .i64 a,.int .i64 b] w (RSame w (.int .i64 (qM a b))):=by
  have hn:∀x:Int,(x !=x)=false:=λx=>by simp
  rcases Int.lt_trichotomy a b with h|h|h
  · rw[jC h]
    exact tCmp_2
  · rw[cmpI_eq h]
    subst h;exact tCmp_2
  · rw[jD h]
    have h':¬a<b:=by omega
    exact tCmp_2
theorem tCmp_3{P:Prop}(h:P:=by
  go_enter func223,ntmps223
  go_wp2
  go_ret
  exact⟨rfl,rfl⟩
  ):P:=h
theorem compare_u32_c(a b:Int)(w:World):Calls prog 223 #[.int .u32 a,.int .u32 b] w (RSame w (.int .i64 (qM a b))):=by
  have hn:∀x:Int,(x !=x)=false:=λx=>by simp
  rcases Int.lt_trichotomy a b with h|h|h
  · rw[jC h]
    exact tCmp_3
  · rw[cmpI_eq h]
    subst h;exact tCmp_3
  · rw[jD h]
    have h':¬a<b:=by omega
    exact tCmp_3
theorem pv_lt_of(xs ys:List Nat)(hx:∀i,xs.getD i 0<4294967296)(k:Nat)(h:xs.getD k 0<ys.getD k 0):∀m,k<m->(∀i,k<i->xs.getD i 0=ys.getD i 0)->pv xs m<pv ys m:=by
  intro m
  induction m with
  |zero=>intro h;omega
  | succ m ih=>
    intro hm he;rw[pv,pv];rcases jU k m with h1|h1
    · have:=ih h1 he
      rw[he m h1];omega
    · obtain rfl:m=k:=by omega
      have h2:=pv_lt xs hx m;have h3:4294967296^m*(xs.getD m 0+1)<=4294967296^m*ys.getD m 0:=Nat.mul_le_mul_left _ h;rw[Nat.mul_add,Nat.mul_one]at h3;omega
def SameFrom(A B:List Nat)(k:Nat):Prop:=∀i,k<=i->A.getD i 0=B.getD i 0
theorem SameFrom.step{A B:List Nat}{k:Nat}(h:SameFrom A B (k+1))(he:A.getD k 0=B.getD k 0):SameFrom A B k:=λi hi=>by
  rcases jU k i with h1|h1
  ·exact h i h1
  · obtain rfl:i=k:=by omega
    exact he
theorem SameFrom.lt{A B:List Nat}{k n:Nat}(h:SameFrom A B (k+1))(hA:∀i,A.getD i 0<4294967296)(hk:k<n)(ha:A.length=n)(hb:B.length=n)(hlt:A.getD k 0<B.getD k 0):qD A<qD B:=by
  have:=pv_lt_of A B hA k hlt n hk (λi hi=>h i hi)
  rwa [xL A n (Nat.le_of_eq ha),xL B n (Nat.le_of_eq hb)]at this
theorem SameFrom.symm{A B:List Nat}{k:Nat}(h:SameFrom A B k):SameFrom B A k:=λi hi=>(h i hi).symm
theorem SameFrom.eq{A B:List Nat}{n:Nat}(h:SameFrom A B 0)(ha:A.length=n)(hb:B.length=n):qD A=qD B:=by
  have:=pv_congr (k:=n) (λi _=>h i (Nat.zero_le _))
  rwa [xL A n (Nat.le_of_eq ha),xL B n (Nat.le_of_eq hb)]at this
theorem cmp_same(w:World)(a1 a2:Option Addr)(n c1 c2:Nat)(A B:List Nat)(h1:Wd w a1 n c1 A)(h2:Wd w a2 n c2 B)(s1:n<=1073741824):
    Calls prog 192 #[.slice a1 n c1,.slice a2 n c2] w (RVal w (.int .i64 (qM (qD A) (qD B)))):=by
  have HA:=hid h1.lt;have HB:=hid h2.lt;have HlA:=hid h1.len;have HlB:=hid h2.len;have HW1:=hid h1;have HW2:=hid h2;have sh1:=h1.shape;have sh2:=h2.shape;clear h1 h2;have h00:qM (n:Int) (n:Int)=0:=cmpI_eq rfl;rcases sh1 with sh1| ⟨b1,off1,rfl,hb1⟩ <;> rcases sh2 with sh2| ⟨b2,off2,rfl,hb2⟩
  all_goals
    go_enter func192,ntmps192;go_wp2_with (go_at_call 195;refine(compare_int_c _ _ _).mono ?_;rintro e w' ⟨rfl,rfl⟩)
    clear h00
    go_loopw [6] (λi wr=>∃z:Int,-1<=z/\z<n/\i=.int .i64 z/\Hid (SameFrom A B (z+1).toNat)/\Ext w wr) (λi _=>(intOf i+1).toNat)
    case atStart=>exact⟨(n:Int)-1,by omega,by omega,rfl,λi hi=>by rw[xV _ _ (by rw[HlA.out];omega),xV _ _ (by rw[HlB.out];omega)],Ext.refl _⟩
    case round=>
      obtain⟨z,hz1,hz2,rfl,hsame,hext⟩:=hrel;by_cases hz0:0<=z
      · obtain ⟨j,rfl⟩:=Int.eq_ofNat_of_zero_le hz0
        first
          | (exfalso;omega)
          | (have c1:=(HW1.out.ext hext).cell j (by omega)
             have c2:=(HW2.out.ext hext).cell j (by omega);have hsame':SameFrom A B (j+1):=hsame.out
             have HC:∀x y:Nat,A.getD j 0=x->B.getD j 0=y->(x<y->qD A<qD B)/\(y<x->qD B<qD A)/\(x=y->SameFrom A B j):=λx y hx hy=>
               ⟨λh=>hsame'.lt HA.out (by omega) HlA.out HlB.out zac,λh=>hsame'.symm.lt HB.out (by omega) HlB.out HlA.out zac,λh=>hsame'.step zac⟩
             have HC:=hid (HC _ _ rfl rfl);clear hsame hsame';generalize A.getD j 0=x at c1 HC;generalize B.getD j 0=y at c2 HC;go_wp2_with fail
             go_quiet ((go_at_call 223;exact quiet_same (compare_u32_c _ _ _)))
             rcases Nat.lt_trichotomy x y with h|h|h
             · have hv:qM (x:Int) (y:Int)= -1:=jC (by omega)
               rw[hv];have hg:=hid (HC.out.1 h);clear hv;go_wp2_with fail
               go_ret
               exact⟨ret_int (by rw[jC (by exact_mod_cast hg.out)]),hext.drewN _⟩
             · have hv:qM (x:Int) (y:Int)=0:=cmpI_eq (by omega)
               rw[hv];have hg:=hid (HC.out.2.2 h);clear hv h;go_wp2_with fail
               go_roundw
               case rel=>exact⟨(j:Int)-1,by omega,by omega,rfl,by rw[show((j:Int)-1+1).toNat=j from by omega];exact hg,hext.drewN _⟩
               case measure=>simp[intOf]
             · have hv:qM (x:Int) (y:Int)=1:=jD (by omega)
               rw[hv];have hg:=hid (HC.out.2.1 h);clear hv;go_wp2_with fail
               go_ret
               exact⟨ret_int (by rw[jD (by exact_mod_cast hg.out)]),hext.drewN _⟩)
      · obtain rfl:z= -1:=by omega
        have hv:SameFrom A B 0:=hsame.out;have hg:=hid (hv.eq HlA.out HlB.out);clear hv hsame;go_wp2_with fail
        go_ret
        exact⟨ret_int (cmpI_eq (congrArg (λn:Nat=>(n:Int)) hg.out)).symm,hext⟩
theorem tCmp_1{P:Prop}(h:P:=by
  clear hv h1 h2 e1 e2 z1 z2;go_enter func192,ntmps192;go_wp2_with (go_at_call 195;refine(compare_int_c _ _ _).mono ?_;rintro e w' ⟨rfl,rfl⟩)
  go_ret
  exact⟨rfl,Ext.refl _⟩
  ):P:=h
theorem cmp_c(w:World)(a1 a2:Option Addr)(n1 n2 c1 c2 k1 k2 x y:Nat)(h1:NatAt w k1 a1 n1 c1 x)(h2:NatAt w k2 a2 n2 c2 y)(s1:k1<=1073741824):
    Calls prog 192 #[.slice a1 n1 c1,.slice a2 n2 c2] w (RVal w (.int .i64 (qM x y))):=by
  obtain⟨xs,h1,l1,z1,rfl⟩:=h1;obtain⟨ys,h2,l2,z2,rfl⟩:=h2;have e1:=h1.len;have e2:=h2.len;rcases Nat.lt_trichotomy n1 n2 with h|h|h
  · have hv:qD xs<qD ys:=by
      have a:=xR xs h1.lt;have b:=natVal_ge ys (by omega) (by rw[e2];exact z2 (by omega));have c:4294967296^xs.length<=4294967296^(ys.length-1):=Nat.pow_le_pow_right (by omega) (by omega);omega
    rw[jC (by exact_mod_cast hv)];have hc:qM (n1:Int) (n2:Int)= -1:=jC (by omega);exact tCmp_1
  · subst h
    exact cmp_same w a1 a2 n1 c1 c2 xs ys h1 h2 (by omega)
  · have hv:qD ys<qD xs:=by
      have a:=xR ys h2.lt;have b:=natVal_ge xs (by omega) (by rw[e1];exact z1 (by omega));have c:4294967296^ys.length<=4294967296^(xs.length-1):=Nat.pow_le_pow_right (by omega) (by omega);omega
    rw[jD (by exact_mod_cast hv)];have hc:qM (n1:Int) (n2:Int)=1:=jD (by omega);exact tCmp_1

end
section
open Go Go.RowKit
set_option maxRecDepth 100000
set_option maxHeartbeats 400000
def RDiv(w0:World)(k1 k2 q r:Nat)(e:Ending)(w':World):Prop:=
 ∃ao n cap ao' n' cap',e=.returned (.tuple #[.slice ao n cap,.slice ao' n' cap'])/\Ext w0 w'/\NatAt w' k1 ao n cap q/\NatAt w' k2 ao' n' cap' r
theorem NatAt.lt{w:World}{k n cap m:Nat}{ao:Option Addr}(h:NatAt w k ao n cap m):m<4294967296^n:=by
 obtain⟨xs,h1,h2,h3,h4⟩:=h;have:=xR xs h1.lt;rw[h1.len,h4]at this;exact this
theorem NatAt.ge{w:World}{k n cap m:Nat}{ao:Option Addr}(h:NatAt w k ao n cap m)(hn:0<n):4294967296^(n-1)<=m:=by
 obtain⟨xs,h1,h2,h3,h4⟩:=h;have:=natVal_ge xs (by rw[h1.len];exact hn) (by rw[h1.len];exact h3 hn);rw[h1.len,h4]at this;exact this
theorem NatAt.tight{w:World}{k k' n cap m:Nat}{ao:Option Addr}(h:NatAt w k ao n cap m)(hm:m<4294967296^k'):NatAt w k' ao n cap m:=by
 have hn:n<=k':=by
  rcases jN n with h0|h0
  ·omega
  ·have h1:=h.ge h0;have:=(Nat.pow_lt_pow_iff_right (a:=4294967296) (by omega)).1 (Nat.lt_of_le_of_lt h1 hm);omega
 obtain⟨xs,h1,h2,h3⟩:=h;exact⟨xs,h1,hn,h3⟩
theorem NatAt.zero{w:World}{k n cap m:Nat}{ao:Option Addr}(h:NatAt w k ao n cap m):m=0↔n=0:=by
 constructor
 ·intro hm;rcases jN n with h0|h0
  ·exact h0
  ·have:=h.ge h0;have:0<4294967296^(n-1):=Nat.pos_of_ne_zero (by simp);omega
 ·intro hn;have:=h.lt;rw[hn]at this;simpa using this
theorem div_small(w:World)(a1 a2:Option Addr)(n1 n2 c1 c2 k1 k2 x y:Nat)(h1:NatAt w k1 a1 n1 c1 x)(h2:NatAt w k2 a2 n2 c2 y)(s1:k1<=268435456)(hlt:x<y):
  Calls Tryz.prog 227 #[.slice a1 n1 c1,.slice a2 n2 c2] w (RDiv w k1 k2 (x/y) (x%y)):=by
 have hc:=hid (cmp_c w a1 a2 n1 n2 c1 c2 k1 k2 x y h1 h2 (by omega));have hv:qM (x:Int) (y:Int)= -1:=jC (by omega);have hy:=h2.lt;have hy':y<4294967296^k2:=Nat.lt_of_lt_of_le hy (Nat.pow_le_pow_right (by omega) h2.le);have hr:=hid (h1.tight (Nat.lt_trans hlt hy'));rw[Nat.div_eq_of_lt hlt,Nat.mod_eq_of_lt hlt];rw[hv]at hc;clear h1 h2 hy hy' hv hlt;go_enter Tryz.func227,Tryz.ntmps227;go_wp2_with (go_at_call 192;refine(hc.out).mono ?_;rintro e w' ⟨rfl,he⟩)
 go_ret2
 exact⟨_,_,_,_,_,_,rfl,he,⟨[],wd_nil _ _ _ (by omega),by omega,by omega,rfl⟩,hr.out.ext he⟩
theorem div_word(w:World)(a1 a2:Option Addr)(n1 c1 c2 k1 k2 x y:Nat)(h1:NatAt w k1 a1 n1 c1 x)(h2:NatAt w k2 a2 1 c2 y)(s1:k1<=268435456)(hge:y<=x):
  Calls Tryz.prog 227 #[.slice a1 n1 c1,.slice a2 1 c2] w (RDiv w k1 k2 (x/y) (x%y)):=by
 have hc:=hid (cmp_c w a1 a2 n1 1 c1 c2 k1 k2 x y h1 h2 (by omega))
 have hv:∃c:Int,qM (x:Int) (y:Int)=c/\0<=c:=by
  rcases Nat.eq_or_lt_of_le hge with h|h
  ·exact⟨0,cmpI_eq (by omega),by omega⟩
  ·exact⟨1,jD (by omega),by omega⟩
 obtain⟨c,hv,hc0⟩:=hv;rw[hv]at hc;have hyl:=h2.lt;have hyp:=h2.ge (by omega);have hk2:=h2.le;simp only[Nat.pow_one,Nat.sub_self,Nat.pow_zero]at hyl hyp;obtain⟨ys,h2a,_,_,h2b⟩:=h2
 have hy0:ys.getD 0 0=y:=by
  have:=xL ys 1 (Nat.le_of_eq h2a.len);rw[h2b]at this
  simpa [pv]using this
 have hcell:∃b off,a2=some ⟨b,off,none⟩/\w.cell? ⟨b,off,none⟩=some (.int .u32 (y:Nat)):=by
  rcases h2a.shape with h| ⟨b,off,rfl,hb⟩
  ·omega
  ·exact⟨b,off,rfl,by have:=h2a.cell 0 (by omega);rw[hy0]at this;exact this⟩
 obtain⟨b,off,rfl,hcell⟩:=hcell;have H1:=hid h1;have hrl:x%y<4294967296:=Nat.lt_trans (jV _ hyp) hyl;clear h1 h2a h2b hy0 hv hge;go_enter Tryz.func227,Tryz.ntmps227
 go_wp2_with (first
  | (go_at_call 192;refine(hc.out).mono ?_;rintro e w' ⟨rfl,he⟩;have hcell:=he.cell hcell)
  | (go_at_call 236;refine(divw_c _ _ _ _ _ _ _ (H1.out.ext he) (by omega) hyp hyl).mono ?_;rintro e w2 ⟨ao,n,cap,rfl,he2,hq⟩)
  | (go_at_call 178;refine(trim_c _ _ _ _ [x%y] (wd_new1 _ _ hrl)).mono ?_;rintro e w3 ⟨ao',n',cap',rfl,he3,hr⟩))
 go_ret2
 have he4:=(Ext.refl w2).alloc (.cells #[.int .u32 ((x%y:Nat):Int)] 145);simp only[qD,Nat.mul_zero,Nat.add_zero]at hr;exact⟨_,_,_,_,_,_,rfl,(he.trans he2).trans (he4.trans he3),hq.ext (he4.trans he3),hr.mono hk2⟩
structure Two (w1:World) (gu gq N M:Nat) (us qs:List Nat) (wr:World):Prop where
 ou:Own wr gu us
 oq:Own wr gq qs
 lu:us.length=N
 lq:qs.length=M
 wu:∀i,us.getD i 0<4294967296
 wq:∀i,qs.getD i 0<4294967296
 ne:gu≠gq
 hu:w1.heap.size<=gu
 hq:w1.heap.size<=gq
 ext:Ext w1 wr
end
section
open Go Go.RowKit
def Gs(q g r v1 first:Nat):Prop:=q<=g/\g*v1+r=first
structure Digits (Nu V W q x2 x1 x0 v1 v2 T:Nat):Prop where
 start:Gs q ((x2*4294967296+x1)/v1) ((x2*4294967296+x1)%v1) v1 (x2*4294967296+x1)
 step:∀g r,Gs q g r v1 (x2*4294967296+x1)->(4294967296<=g\/r*4294967296+x0<g*v2)->1<=g/\Gs q (g-1) (r+v1) v1 (x2*4294967296+x1)
 exit:∀g r,Gs q g r v1 (x2*4294967296+x1)->((g<4294967296/\g*v2<=r*4294967296+x0)\/4294967296<=r)->g<4294967296/\q<=g/\g<=q+1
 bound:∀g r,Gs q g r v1 (x2*4294967296+x1)->g<=8589934592
 lo:q*(V*W)<=Nu
 hi:Nu<(q+1)*(V*W)
 lim:Nu<T
theorem digits(us vs:List Nat)(n2 j:Nat)(hn:2<=n2)(huw:∀i,us.getD i 0<4294967296)(hvw:∀i,vs.getD i 0<4294967296)(hvl:vs.length=n2)(htop:2147483648<=vs.getD (n2-1) 0)
  (hlt:qD us<qD vs*4294967296^(j+1)):
  Digits (qD us) (qD vs) (4294967296^j) (qD us/(qD vs*4294967296^j)) (us.getD (j+n2) 0) (us.getD (j+n2-1) 0) (us.getD (j+n2-2) 0) (vs.getD (n2-1) 0) (vs.getD (n2-2) 0) (4294967296^(j+n2+1)):=by
 obtain⟨m,rfl⟩:∃m,n2=m+2:=⟨n2-2,by omega⟩;rw[show j+(m+2)-1=j+m+1 from by omega,show j+(m+2)-2=j+m from by omega,show m+2-1=m+1 from by omega,show m+2-2=m from by omega,show j+(m+2)=j+m+1+1 from by omega]at*;have hVl:=xR vs hvw;rw[hvl]at hVl
 have hlim:qD us<4294967296^(j+m+1+1+1):=by
  have h1:qD vs*4294967296^(j+1)<=4294967296^(m+2)*4294967296^(j+1):=Nat.mul_le_mul_right _ (Nat.le_of_lt hVl);rw[<-Nat.pow_add,show m+2+(j+1)=j+m+1+1+1 from by omega]at h1;omega
 have eu:=pv_zero_above us (j+m+1+1+1) (zero_above us _ hlim);rw[pv,pv,pv]at eu;have ev:=xL vs (m+1+1) (Nat.le_of_eq hvl);rw[pv,pv]at ev;have hlo:=pv_lt us huw (j+m);have hV0:=pv_lt vs hvw m;have hx2:=huw (j+m+1+1);have hx1:=huw (j+m+1);have hx0:=huw (j+m);have hv2:=hvw m;have hv1:=hvw (m+1);rw[Nat.pow_add]at hlo;have hlt2:qD us<qD vs*4294967296^j*4294967296:=by rw[Nat.mul_assoc,<-Nat.pow_succ];exact hlt
 have hW:0<4294967296^j:=Nat.pos_of_ne_zero (by simp);simp only[Nat.pow_succ,Nat.pow_add]at eu ev;generalize us.getD (j+m+1+1) 0=x2 at*;generalize us.getD (j+m+1) 0=x1 at*;generalize us.getD (j+m) 0=x0 at*;generalize vs.getD (m+1) 0=v1 at*;generalize vs.getD m 0=v2 at*;generalize pv us (j+m)=lo at*;generalize pv vs m=V0 at*;generalize qD us=Nu at*;generalize qD vs=V at*;generalize 4294967296^j=W at*;generalize 4294967296^m=P at*;clear hVl hlt;have hN:Nu=lo+W*P*(x0+4294967296*(x2*4294967296+x1)):=by rw[<-eu];grind
 have hV:V=V0+P*(v2+4294967296*v1):=by rw[<-ev];grind
 clear eu ev;have hP:0<P:=by omega
 have hVpos:0<V:=by
  have:P*1<=P*(v2+4294967296*v1):=Nat.mul_le_mul_left _ (by omega);omega
 have hX:0<V*W:=Nat.mul_pos hVpos hW;have hqlo:Nu/(V*W)*(V*W)<=Nu:=Nat.div_mul_le_self _ _
 have hqhi:Nu<(Nu/(V*W)+1)*(V*W):=by
  have:=Nat.div_add_mod Nu (V*W);have:=jV Nu hX;rw[Nat.add_mul,Nat.one_mul,Nat.mul_comm];omega
 have hqB:=digit_lt _ _ _ hqlo hlt2;have hx2v:=first_le V W Nu lo P x0 x1 x2 v1 v2 V0 hN hlt2 hV hV0 hv2;generalize Nu/(V*W)=q at*;have hv1p:0<v1:=by omega
 refine⟨⟨?_,?_⟩,λg r hg ht=>?_,λg r hg ht=>?_,λg r hg=>?_,hqlo,hqhi,hlim⟩
 ·rw[Nat.le_div_iff_mul_le hv1p];exact guess_ge q V W Nu lo P x0 _ v1 v2 V0 hqlo hN hlo hx0 hV
 ·rw[Nat.mul_comm];exact Nat.div_add_mod _ _
 ·obtain⟨h1,h2⟩:=hg
  have h3:q+1<=g:=by
   rcases ht with ht|ht
   ·omega
   ·exact guess_dec q g r V W Nu lo P x0 _ v1 v2 V0 hqlo hN hlo hV h1 h2 ht
  obtain⟨g',rfl⟩:∃g',g=g'+1:=⟨g-1,by omega⟩;refine⟨by omega,by omega,?_⟩;rw[Nat.add_sub_cancel];rw[Nat.add_mul,Nat.one_mul]at h2;omega
 ·obtain⟨h1,h2⟩:=hg
  have h3:g<4294967296:=by
   rcases ht with ht|ht
   ·exact ht.1
   ·exact guess_small g r _ v1 x1 x2 h2 rfl hx1 hx2v ht
  have h4:g*v2<=r*4294967296+x0:=by
   rcases ht with ht|ht
   ·exact ht.2
   ·have:=prod2_lt g v2 h3 hv2;omega
  exact⟨h3,h1,guess_final g q _ Nu (guess_le g r V W Nu lo P x0 _ v1 v2 V0 hN hV hV0 h2 h4 (Nat.le_of_lt h3) hv1p) hqhi⟩
 ·obtain⟨h1,h2⟩:=hg;apply Nat.le_of_not_lt;intro hh;have:=Nat.mul_le_mul (show 8589934593<=g from hh) htop;omega
theorem div_c(w:World)(a1 a2:Option Addr)(n1 n2 c1 c2 k1 k2 x y:Nat)(h1:NatAt w k1 a1 n1 c1 x)(h2:NatAt w k2 a2 n2 c2 y)(s1:k1<=268435456)(hy:0<y)(hy1:y<4294967296):
  Calls Tryz.prog 227 #[.slice a1 n1 c1,.slice a2 n2 c2] w (RDiv w k1 k2 (x/y) (x%y)):=by
 rcases jU x y with h|h
 ·exact div_small w a1 a2 n1 n2 c1 c2 k1 k2 x y h1 h2 s1 h
 ·have hn:n2≠0:=λh0=>by have:=(h2.zero).2 h0;omega
  rcases jU n2 2 with h3|h3
  ·obtain rfl:n2=1:=by omega
   exact div_word w a1 a2 n1 c1 c2 k1 k2 x y h1 h2 s1 h
  ·exact absurd (jQ (Nat.pow_le_pow_right (by decide:0<4294967296) (by omega:1<=n2-1)) (h2.ge (by omega))) (by omega)
end
section
open Go Go.RowKit
open Go.Proofs.Tryz
theorem zf{P:Prop}(h:P:=by assumption):P:=h
theorem yx{P:Prop}(h:P:=by simpa using hj):P:=h
theorem zaf{P:Prop}(h:P:=by simp;omega):P:=h
abbrev jM:=@beq_eq_false_iff_ne
abbrev jK:=@bodyPost_ret
abbrev jJ:=@Calls.mono
set_option maxRecDepth 100000
set_option maxHeartbeats 1000000
theorem IntAt.mk{w:World}{k n cap m:Nat}{ao:Option Addr}(h:NatAt w k ao n cap m)(s:Bool)(h0:n≠0):IntAt w k s ao n cap (if s then -(m:Int)else m):=⟨m,h,λh=>absurd h h0,rfl⟩
theorem IntAt.zero{w:World}:IntAt w 0 false none 0 0 0:=⟨0,⟨[],wd_nil _ _ _ (by omega),by omega,by omega,rfl⟩,λ_=>rfl,rfl⟩
theorem NatAt.back{w0 w:World}{k n n' cap cap' m:Nat}{ao:Option Addr}{xs:List Nat}(h:NatAt w k ao n' cap' m)(h0:Wd w0 ao n cap xs)(e:Ext w0 w)(hn:n'<=n):NatAt w0 k ao n' cap' m:=by
 obtain⟨ys,a,b⟩:=h;refine⟨ys,⟨a.len,a.capo,a.big,a.lt,?_⟩,b⟩;rcases h0.at_ with h1| ⟨b1,off,h1,h2,h3⟩
 ·left;omega
 ·refine .inr ⟨b1,off,h1,h2,λj hj=>?_⟩;subst h1;have c1:=h3 j (by omega);have c2:=a.cell j hj;rw[e.cell c1]at c2;rw[c1,c2]
theorem of_c(w:World)(s:Bool)(ao:Option Addr)(n cap:Nat)(xs:List Nat)(z:Int)(h:Wd w ao n cap xs)(hz:z=if s then -(qD xs:Int)else qD xs):
  Calls prog 131 #[.bool s,.slice ao n cap] w (RInt w n z):=by
 have h1:=hid (trim_wd _ ao n cap xs (h.ext ((Ext.refl w).alloc (.cells #[.bool false,.slice none 0 0] 28))));have Hz:=hid hz;have Hh:=hid h;clear hz h;go_enter func131,ntmps131;go_wp2_with fail;refine(h1.out).mono ?_;rintro e w' ⟨n',rfl,rfl,hn⟩;clear h1;have hle:=hn.le;have hn:=hn.back Hh.out ((Ext.refl w).alloc _) hle;by_cases h0:n'=0
 ·have hm:=(hn.zero).2 h0;have hz0:z=0:=by rw[Hz.out,hm];cases s <;> rfl
  subst h0;go_wp2_with fail;refine jK (v:=.agg #[.bool false,.slice none 0 0]) (by simp[results,results131,go_sem]) rfl ?_;rw[hz0];exact⟨_,_,_,_,rfl,(Ext.refl w).alloc _,IntAt.zero.mono (by omega)⟩
 ·have h0':((n':Int)==0)=false:=by rw[jM];omega
  have h00:=hid h0;clear h0;go_wp2_with fail;refine jK (v:=.agg #[.bool s,.slice ao n' cap]) (by simp[results,results131,go_sem]) rfl ?_;refine⟨_,_,_,_,rfl,(Ext.refl w).alloc _,?_⟩;rw[Hz.out];exact IntAt.mk (hn.ext ((Ext.refl w).alloc _)) s h00.out
def boxed(w:World)(s:Bool)(ao:Option Addr)(n cap:Nat):World:=w.alloc (.cells #[.bool s,.slice ao n cap] 28)
theorem boxed_ext(w:World)(s:Bool)(ao:Option Addr)(n cap:Nat):Ext w (boxed w s ao n cap):=(Ext.refl w).alloc _
theorem Sign_c(w:World)(s:Bool)(ao:Option Addr)(n cap k:Nat)(z:Int)(h:IntAt w k s ao n cap z):
  Calls prog 127 #[.agg #[.bool s,.slice ao n cap]] w (RVal w (.int .i64 z.sign)):=by
 obtain⟨m,hm,hs,hz⟩:=h;have hz0:=hm.zero;rcases jN n with h0|h0
 ·have:z.sign=0:=by
   rw[hz,hz0.2 h0];cases s <;> rfl
  rw[this];subst h0;clear hm hs hz hz0 this;go_enter func127,ntmps127
  go_wp2
  go_ret
  exact⟨rfl,(Ext.refl w).alloc _⟩
 ·have hm0:m≠0:=λh=>by have:=hz0.1 h;omega
  have h1:((n:Int)==0)=false:=by rw[jM];omega
  cases s
  ·have:z.sign=1:=by rw[hz];exact Int.sign_eq_one_of_pos zaf
   rw[this];clear hm hs hz hz0 this hm0 h0;go_enter func127,ntmps127
   go_wp2
   go_ret
   exact⟨rfl,(Ext.refl w).alloc _⟩
  ·have:z.sign= -1:=by rw[hz];exact Int.sign_eq_neg_one_of_neg zaf
   rw[this];clear hm hs hz hz0 this hm0 h0;go_enter func127,ntmps127
   go_wp2
   go_ret
   exact⟨rfl,(Ext.refl w).alloc _⟩
theorem Wd.set{w:World}{ao:Option Addr}{n cap:Nat}{xs:List Nat}(h:Wd w ao n cap xs)(p:Addr){u:Value}(hp:w.cell? p=some u)(hu:∀x,u≠ .int .u32 x)(v:Value):Wd (w.setCell p v) ao n cap xs:=by
 refine⟨h.len,h.capo,h.big,h.lt,h.at_.imp id λ⟨b,off,h1,h2,h3⟩=>⟨b,off,h1,by simpa [World.setCell]using h2,λj hj=>?_⟩⟩;have:=h3 j hj;rw[World.cell?_setCell_other]
 ·exact this
 ·intro he;rw[he,this]at hp;exact hu _ (Option.some.inj hp).symm
theorem NatAt.set{w:World}{k n cap m:Nat}{ao:Option Addr}(h:NatAt w k ao n cap m)(p:Addr){u:Value}(hp:w.cell? p=some u)(hu:∀x,u≠ .int .u32 x)(v:Value):NatAt (w.setCell p v) k ao n cap m:=
 let ⟨xs,h1,h2⟩:=h;⟨xs,h1.set p hp hu v,h2⟩
theorem IntAt.set{w:World}{k n cap:Nat}{s:Bool}{ao:Option Addr}{z:Int}(h:IntAt w k s ao n cap z)(p:Addr){u:Value}(hp:w.cell? p=some u)(hu:∀x,u≠ .int .u32 x)(v:Value):IntAt (w.setCell p v) k s ao n cap z:=
 let ⟨m,h1,h2⟩:=h;⟨m,h1.set p hp hu v,h2⟩
def Blk(w:World)(b:Nat)(s:Bool)(ao:Option Addr)(n cap:Nat):Prop:=w.heap[b]? =some (.cells #[.bool s,.slice ao n cap] 28 (0,0))
theorem Blk.lt{w:World}{b n cap:Nat}{s:Bool}{ao:Option Addr}(h:Blk w b s ao n cap):b<w.heap.size:=by
 rcases jU b w.heap.size with h1|h1
 ·exact h1
 ·unfold Blk at h;simp[Array.getElem?_eq_none h1]at h
theorem Blk.ext{w w':World}{b n cap:Nat}{s:Bool}{ao:Option Addr}(h:Blk w b s ao n cap)(e:Ext w w'):Blk w' b s ao n cap:=by
 have:=Below.block e b h.lt;unfold Blk at*;rw[this];exact h
theorem Blk.c0{w:World}{b n cap:Nat}{s:Bool}{ao:Option Addr}(h:Blk w b s ao n cap):w.cell? ⟨b,0,none⟩=some (.bool s):=by
 simp only[World.cell?];rw[h];simp
theorem Blk.c1{w:World}{b n cap:Nat}{s:Bool}{ao:Option Addr}(h:Blk w b s ao n cap):w.cell? ⟨b,1,none⟩=some (.slice ao n cap):=by
 simp only[World.cell?];rw[h];simp
theorem Blk.f{w:World}{b n cap:Nat}{s:Bool}{ao:Option Addr}(h:Blk w b s ao n cap)(i:Nat):w.frozen? ⟨b,i,none⟩=false:=by
 simp only[World.frozen?];rw[h];simp
theorem Blk.new(w:World)(s:Bool)(ao:Option Addr)(n cap:Nat):Blk (w.alloc (.cells #[.bool s,.slice ao n cap] 28)) w.heap.size s ao n cap:=by
 show(w.heap.push _)[w.heap.size]? =_;simp
def setBlk(w:World)(b:Nat)(s:Bool)(ao:Option Addr)(n cap:Nat):World:=(w.setCell ⟨b,0,none⟩ (.bool s)).setCell ⟨b,1,none⟩ (.slice ao n cap)
theorem IntAt.put{w:World}{k n cap b n1 cap1 n2 cap2:Nat}{s s1 s2:Bool}{ao a1 a2:Option Addr}{z:Int}(h:IntAt w k s ao n cap z)(hb:Blk w b s1 a1 n1 cap1):IntAt (setBlk w b s2 a2 n2 cap2) k s ao n cap z:=by
 refine(h.set ⟨b,0,none⟩ hb.c0 (λx=>by simp) _).set ⟨b,1,none⟩ (u:=.slice a1 n1 cap1) ?_ (λx=>by simp) _;rw[World.cell?_setCell_other]
 ·exact hb.c1
 ·simp
theorem Ext.put{a w:World}(h:Ext a w){b n cap:Nat}{s:Bool}{ao:Option Addr}(hb:a.heap.size<=b):Ext a (setBlk w b s ao n cap):=(h.set hb _).set hb _
theorem pro1(w:World)(s:Bool)(ao:Option Addr)(n cap:Nat):∃W,W=(w.alloc (.cells #[.bool s,.slice ao n cap] 28)).alloc (.cells #[.bool false,.slice none 0 0] 28)/\Ext w W/\
  Blk W w.heap.size s ao n cap/\Blk W (w.heap.size+1) false none 0 0:=by
 refine⟨_,rfl,((Ext.refl w).alloc _).alloc _,(Blk.new w s ao n cap).ext ((Ext.refl _).alloc _),?_⟩;have:=Blk.new (w.alloc (.cells #[.bool s,.slice ao n cap] 28)) false none 0 0
 simpa using this
theorem Abs_c(w:World)(s:Bool)(ao:Option Addr)(n cap k:Nat)(z:Int)(h:IntAt w k s ao n cap z):
  Calls prog 130 #[.agg #[.bool s,.slice ao n cap]] w (RInt w k z.natAbs):=by
 obtain⟨m,⟨xs,hw,hk,_,hm⟩,hs,hz⟩:=h;have hz':(z.natAbs:Int)=qD xs:=by rw[hz,hm];cases s <;> simp
 have Hw:=hid hw;have Hz:=hid hz';clear hw hz hz' hm;obtain⟨W,hW,e0,b0,b1⟩:=pro1 w s ao n cap;go_enter func130,ntmps130;go_wp2_with fail;refine jJ (of_c _ false _ _ _ xs z.natAbs (hW▸Hw.out.ext e0) (by rw[Hz.out];simp)) ?_;rw[<-hW];clear hW;rintro e w1 ⟨s1,a1,n1,c1,rfl,e1,h1⟩;have b1:=b1.ext e1;have q0:=b1.c0;have q1:=b1.c1;have r0:=b1.f 0;have r1:=b1.f 1;have B1:=hid b1;clear b0 b1;go_wp2_with fail;refine jK (v:=.agg #[.bool s1,.slice a1 n1 c1]) (by simp[results,results130,go_sem,q0,q1]) rfl ?_;exact⟨_,_,_,_,rfl,(e0.trans e1).put (Nat.le_succ _),(h1.put B1.out).mono hk⟩
def NoWord(v:Value):Prop:=∀x,v≠ .int .u32 x
theorem NoWord.bool(b:Bool):NoWord (.bool b):=λx=>by simp
theorem NoWord.slice(a:Option Addr)(n c:Nat):NoWord (.slice a n c):=λx=>by simp
structure Kp (w w':World) (L:List (Nat×List Value)) (R:List (Nat×Nat)):Prop where
 ext:Ext w w'
 known:∀e∈L,∃t,w'.heap[w.heap.size+e.1]? =some (.cells e.2.toArray t (0,0))
 free:∀e∈R,∃(c:Array Value) (t:TypeId),c.size=e.2/\(∀(j:Nat) (v:Value),c[j]? =some v->NoWord v)/\w'.heap[w.heap.size+e.1]? =some (.cells c t (0,0))
theorem heap_lt{w:World}{b:Nat}{o:Obj}(h:w.heap[b]? =some o):b<w.heap.size:=by
 rcases jU b w.heap.size with h1|h1
 ·exact h1
 ·simp[Array.getElem?_eq_none h1]at h
theorem Ext.heap{w w':World}{b:Nat}{o:Obj}(e:Ext w w')(h:w.heap[b]? =some o):w'.heap[b]? =some o:=by
 rw[Below.block e b (heap_lt h)];exact h
theorem Kp.after{w w' w'':World}{L:List (Nat×List Value)}{R:List (Nat×Nat)}(h:Kp w w' L R)(e:Ext w' w''):Kp w w'' L R:=
 ⟨h.ext.trans e,λx hx=>let ⟨t,h1⟩:=h.known x hx;⟨t,e.heap h1⟩,λx hx=>let ⟨c,t,h1,h2,h3⟩:=h.free x hx;⟨c,t,h1,h2,e.heap h3⟩⟩
theorem Kp.drew{w w':World}{L:List (Nat×List Value)}{R:List (Nat×Nat)}(h:Kp w w' L R):Kp w w'.drew L R:=h.after (Ext.refl _).drew
theorem Kp.drewN{w w':World}{L:List (Nat×List Value)}{R:List (Nat×Nat)}(h:Kp w w' L R)(n:Nat):Kp w (w'.drewN n) L R:=h.after ((Ext.refl _).drewN n)
theorem Kp.cell{w w':World}{L:List (Nat×List Value)}{R:List (Nat×Nat)}(h:Kp w w' L R)(i j:Nat)(c:List Value)(v:Value)(hi:(i,c)∈L)(hj:c[j]? =some v):w'.cell? ⟨w.heap.size+i,j,none⟩=some v:=by
 obtain⟨t,h1⟩:=h.known _ hi;simp only[World.cell?];rw[h1];simpa using hj
theorem Kp.res{w w':World}{L:List (Nat×List Value)}{R:List (Nat×Nat)}(h:Kp w w' L R)(i n:Nat)(hi:(i,n)∈R)(j:Nat)(hj:j<n):
  (∃v,w'.cell? ⟨w.heap.size+i,j,none⟩=some v/\NoWord v)/\w'.frozen? ⟨w.heap.size+i,j,none⟩=false:=by
 obtain⟨c,t,h1,h2,h3⟩:=h.free _ hi;have hj':j<c.size:=by omega
 refine⟨⟨c[j],?_,h2 j _ (by simp[hj'])⟩,?_⟩
 ·simp only[World.cell?];rw[h3];simp[hj']
 ·simp only[World.frozen?];rw[h3];simp
theorem Kp.set{w w':World}{L:List (Nat×List Value)}{R:List (Nat×Nat)}(h:Kp w w' L R)(i n j:Nat)(v:Value)(_hi:(i,n)∈R)(hv:NoWord v)(hL:∀e∈L,e.1≠i):
  Kp w (w'.setCell ⟨w.heap.size+i,j,none⟩ v) L R:=by
 refine⟨h.ext.set (Nat.le_add_right _ _) _,λx hx=>?_,λx hx=>?_⟩
 ·obtain⟨t,h1⟩:=h.known x hx;refine⟨t,?_⟩;rw[Below.heap_setCell _ _ _ _ (by have:=hL x hx;simp;omega)];exact h1
 ·obtain⟨c,t,h1,h2,h3⟩:=h.free x hx;by_cases hxi:x.1=i
  ·refine⟨c.setIfInBounds j v,t,by simpa using h1,λk u hk=>?_,?_⟩
   ·rw[Array.getElem?_setIfInBounds]at hk
    split at hk
    ·split at hk
     ·cases hk;exact hv
     ·cases hk
    ·exact h2 k u hk
   ·simp only[World.setCell,Array.getElem?_modify];rw[if_pos (by rw[hxi]),h3];simp
  ·refine⟨c,t,h1,h2,?_⟩;rw[Below.heap_setCell _ _ _ _ (by simp;omega)];exact h3
theorem Kp.put2{w w':World}{L:List (Nat×List Value)}{R:List (Nat×Nat)}(h:Kp w w' L R)(i:Nat)(hi:(i,2)∈R)(s:Bool)(a:Option Addr)(n c:Nat)(hL:∀e∈L,e.1≠i):
  Kp w ((w'.setCell ⟨w.heap.size+i,0,none⟩ (.bool s)).setCell ⟨w.heap.size+i,1,none⟩ (.slice a n c)) L R/\
   ∀k s1 a1 n1 c1 z,IntAt w' k s1 a1 n1 c1 z->IntAt ((w'.setCell ⟨w.heap.size+i,0,none⟩ (.bool s)).setCell ⟨w.heap.size+i,1,none⟩ (.slice a n c)) k s1 a1 n1 c1 z:=by
 have h1:=h.set i 2 0 (.bool s) hi (NoWord.bool s) hL;refine⟨h1.set i 2 1 _ hi (NoWord.slice a n c) hL,λk s1 a1 n1 c1 z hz=>?_⟩;obtain⟨⟨v,hv,hw⟩,_⟩:=h.res i 2 hi 0 (by omega);obtain⟨⟨v',hv',hw'⟩,_⟩:=h1.res i 2 hi 1 (by omega);exact(hz.set _ hv hw _).set _ hv' hw' _
theorem Kp.fin{w w':World}{L:List (Nat×List Value)}{R:List (Nat×Nat)}(h:Kp w w' L R)(i:Nat)(hi:(i,2)∈R){s:Bool}{a:Option Addr}{n c k:Nat}{z:Int}(hL:∀e∈L,e.1≠i)(hz:IntAt w' k s a n c z):
  RInt w k z (.returned (.agg #[.bool s,.slice a n c])) ((w'.setCell ⟨w.heap.size+i,0,none⟩ (.bool s)).setCell ⟨w.heap.size+i,1,none⟩ (.slice a n c)):=
 ⟨s,a,n,c,rfl,(h.put2 i hi s a n c hL).1.ext,(h.put2 i hi s a n c hL).2 _ _ _ _ _ _ hz⟩
theorem Kp.start(w:World):Kp w w [] []:=⟨Ext.refl w,(λ_ h=>by cases h),(λ_ h=>by cases h)⟩
theorem Kp.box{w w':World}{L:List (Nat×List Value)}{R:List (Nat×Nat)}(h:Kp w w' L R)(i:Nat)(hi:w'.heap.size=w.heap.size+i)(c:List Value)(t:TypeId):Kp w (w'.alloc (.cells c.toArray t)) ((i,c) ::L) R:=by
 have e:Ext w' (w'.alloc (.cells c.toArray t)):=(Ext.refl _).alloc _;refine⟨(h.after e).ext,λx hx=>?_,(h.after e).free⟩;rcases List.mem_cons.1 hx with rfl|hx
 ·refine⟨t,?_⟩;rw[<-hi];show(w'.heap.push _)[w'.heap.size]? =_;simp
 ·exact(h.after e).known x hx
theorem Kp.out{w w':World}{L:List (Nat×List Value)}{R:List (Nat×Nat)}(h:Kp w w' L R)(i:Nat)(hi:w'.heap.size=w.heap.size+i)(c:List Value)(t:TypeId)(hc:∀v∈c,NoWord v):Kp w (w'.alloc (.cells c.toArray t)) L ((i,c.length) ::R):=by
 have e:Ext w' (w'.alloc (.cells c.toArray t)):=(Ext.refl _).alloc _;refine⟨(h.after e).ext,(h.after e).known,λx hx=>?_⟩;rcases List.mem_cons.1 hx with rfl|hx
 ·refine⟨c.toArray,t,by simp,λj v hj=>hc v ?_,?_⟩
  ·exact List.mem_of_getElem? yx
  ·rw[<-hi];show(w'.heap.push _)[w'.heap.size]? =_;simp
 ·exact(h.after e).free x hx
theorem kp2(w:World)(s1 s2:Bool)(a1 a2:Option Addr)(n1 n2 c1 c2:Nat):
  ∃ W,W=((w.alloc (.cells #[.bool s1,.slice a1 n1 c1] 28)).alloc (.cells #[.bool s2,.slice a2 n2 c2] 28)).alloc (.cells #[.bool false,.slice none 0 0] 28)/\
   Kp w W [(1, [.bool s2,.slice a2 n2 c2]),(0, [.bool s1,.slice a1 n1 c1])] [(2,2)]:=by
 refine⟨_,rfl,?_⟩
 exact(((Kp.start w).box 0 rfl [.bool s1,.slice a1 n1 c1] 28).box 1 (by simp) [.bool s2,.slice a2 n2 c2] 28).out 2 (by simp) [.bool false,.slice none 0 0] 28 (by
  intro v hv;simp at hv;rcases hv with rfl|rfl
  ·exact NoWord.bool _
  ·exact NoWord.slice _ _ _)
theorem kp1(w:World)(s1:Bool)(a1:Option Addr)(n1 c1:Nat):
  ∃W,W=(w.alloc (.cells #[.bool s1,.slice a1 n1 c1] 28)).alloc (.cells #[.bool false,.slice none 0 0] 28)/\Kp w W [(0, [.bool s1,.slice a1 n1 c1])] [(1,2)]:=by
 refine⟨_,rfl,?_⟩
 exact((Kp.start w).box 0 rfl [.bool s1,.slice a1 n1 c1] 28).out 1 (by simp) [.bool false,.slice none 0 0] 28 (by
  intro v hv;simp at hv;rcases hv with rfl|rfl
  ·exact NoWord.bool _
  ·exact NoWord.slice _ _ _)
structure Kq (w w':World) (L:List (Nat×List Value)):Prop where
 ext:Ext w w'
 known:∀e∈L,w.heap.size<=e.1/\∃t,w'.heap[e.1]? =some (.cells e.2.toArray t (0,0))
theorem Kq.after{w w' w'':World}{L:List (Nat×List Value)}(h:Kq w w' L)(e:Ext w' w''):Kq w w'' L:=
 ⟨h.ext.trans e,λx hx=>let ⟨h0,t,h1⟩:=h.known x hx;⟨h0,t,e.heap h1⟩⟩
theorem Kq.cell{w w':World}{L:List (Nat×List Value)}(h:Kq w w' L)(b j:Nat)(c:List Value)(v:Value)(hi:(b,c)∈L)(hj:c[j]? =some v):w'.cell? ⟨b,j,none⟩=some v:=by
 obtain⟨_,t,h1⟩:=h.known _ hi;simp only[World.cell?];rw[h1];simpa using hj
theorem Kq.free{w w':World}{L:List (Nat×List Value)}(h:Kq w w' L)(b j:Nat)(c:List Value)(hi:(b,c)∈L):w'.frozen? ⟨b,j,none⟩=false:=by
 obtain⟨_,t,h1⟩:=h.known _ hi;simp only[World.frozen?];rw[h1];simp
theorem Kq.start(w:World):Kq w w []:=⟨Ext.refl w,(λ_ h=>by cases h)⟩
theorem Kq.alloc{w w':World}{L:List (Nat×List Value)}(h:Kq w w' L)(c:List Value)(t:TypeId):Kq w (w'.alloc (.cells c.toArray t)) ((w'.heap.size,c) ::L):=by
 have e:Ext w' (w'.alloc (.cells c.toArray t)):=(Ext.refl _).alloc _;refine⟨(h.after e).ext,λx hx=>?_⟩;rcases List.mem_cons.1 hx with rfl|hx
 ·exact⟨h.ext.size,t,by show(w'.heap.push _)[w'.heap.size]? =_;simp⟩
 ·exact(h.after e).known x hx
theorem kq22(w:World)(s1 s2:Bool)(a1 a2:Option Addr)(n1 n2 c1 c2:Nat):
  ∃ W,W=(((w.alloc (.cells #[.bool s1,.slice a1 n1 c1] 28)).alloc (.cells #[.bool s2,.slice a2 n2 c2] 28)).alloc (.cells #[.bool false,.slice none 0 0] 28)).alloc (.cells #[.bool false,.slice none 0 0] 28)/\
   Kq w W [(w.heap.size+3, [.bool false,.slice none 0 0]),(w.heap.size+2, [.bool false,.slice none 0 0]),(w.heap.size+1, [.bool s2,.slice a2 n2 c2]),(w.heap.size, [.bool s1,.slice a1 n1 c1])]:=by
 refine⟨_,rfl,?_⟩;have:=((((Kq.start w).alloc [.bool s1,.slice a1 n1 c1] 28).alloc [.bool s2,.slice a2 n2 c2] 28).alloc [.bool false,.slice none 0 0] 28).alloc [.bool false,.slice none 0 0] 28
 simpa using this
theorem neg_mul_val(s1 s2:Bool)(m1 m2:Nat)(z1 z2:Int)(h1:z1=if s1 then -(m1:Int)else m1)(h2:z2=if s2 then -(m2:Int)else m2):z1*z2=if (!(s1==s2))then -((m1*m2:Nat):Int)else(m1*m2:Nat):=by
 subst h1 h2;cases s1 <;> cases s2 <;> simp <;> grind
theorem kc2(w:World)(s1 s2:Bool)(a1 a2:Option Addr)(n1 n2 c1 c2:Nat):∀w',Kp w w' [(1, [.bool s2,.slice a2 n2 c2]),(0, [.bool s1,.slice a1 n1 c1])] [(2,2)]->(λw'=>Kp w w' [(1, [.bool s2,.slice a2 n2 c2]),(0, [.bool s1,.slice a1 n1 c1])] [(2,2)]/\w'.cell? ⟨w.heap.size,0,none⟩=some (.bool s1)/\w'.cell? ⟨w.heap.size,1,none⟩=some (.slice a1 n1 c1)/\w'.cell? ⟨w.heap.size+1,0,none⟩=some (.bool s2)/\w'.cell? ⟨w.heap.size+1,1,none⟩=some (.slice a2 n2 c2)) w':=λw' h=>
  ⟨h,h.cell 0 0 [.bool s1,.slice a1 n1 c1] _ (by simp) rfl,h.cell 0 1 [.bool s1,.slice a1 n1 c1] _ (by simp) rfl,h.cell 1 0 [.bool s2,.slice a2 n2 c2] _ (by simp) rfl,h.cell 1 1 [.bool s2,.slice a2 n2 c2] _ (by simp) rfl⟩
theorem Mul_c(w:World)(s1 s2:Bool)(a1 a2:Option Addr)(n1 n2 c1 c2 k1 k2:Nat)(z1 z2:Int)(h1:IntAt w k1 s1 a1 n1 c1 z1)(h2:IntAt w k2 s2 a2 n2 c2 z2)(l1:k1<=268435456)(l2:k2<=268435456):
  Calls prog 129 #[.agg #[.bool s1,.slice a1 n1 c1],.agg #[.bool s2,.slice a2 n2 c2]] w (RInt w (k1+k2) (z1*z2)):=by
 obtain⟨m1,h1,_,hz1⟩:=h1;obtain⟨m2,h2,_,hz2⟩:=h2;obtain⟨W,hW,K0⟩:=kp2 w s1 s2 a1 a2 n1 n2 c1 c2;have Hz:=hid (neg_mul_val s1 s2 m1 m2 z1 z2 hz1 hz2);clear hz1 hz2;have KC:=hid (kc2 w s1 s2 a1 a2 n1 n2 c1 c2);go_enter func129,ntmps129;go_wp2_with fail;rw[<-hW];clear hW
 go_region_held3 (λw'=>Kp w w' [(1, [.bool s2,.slice a2 n2 c2]),(0, [.bool s1,.slice a1 n1 c1])] [(2,2)]/\w'.cell? ⟨w.heap.size,0,none⟩=some (.bool s1)/\w'.cell? ⟨w.heap.size,1,none⟩=some (.slice a1 n1 c1)/\w'.cell? ⟨w.heap.size+1,0,none⟩=some (.bool s2)/\w'.cell? ⟨w.heap.size+1,1,none⟩=some (.slice a2 n2 c2)) ((go_split_ands;refine KC.out _ ?_;first|assumption|exact Kp.drew zf|exact Kp.drew (Kp.drewN zf _)|exact Kp.after zf zf|exact(Kp.put2 zf 2 (by simp) _ _ _ _ (by simp)).1))
  (first
   | (go_at_call 177;go_must (go_split_ands;(with_reducible refine jJ (mul_c _ _ _ _ _ _ _ k1 k2 m1 m2 ?_ ?_ (by omega) (by omega)) ?_);exact h1.ext (Kp.ext zf);exact h2.ext (Kp.ext zf);rintro e w1 ⟨ao,n,cap,rfl,e1,hm⟩;obtain⟨xs,hm,hk,_,hv⟩:=hm;have Hv:=hid hv;clear hv))
   | (go_at_call 131;go_must (go_split_ands;(with_reducible refine jJ (of_c _ _ _ _ _ xs (z1*z2) hm ?_) ?_);rw[Hv.out];exact Hz.out;rintro e w2 ⟨s3,a3,n3,c3,rfl,e2,h3⟩;have KF:=Kp.after zf e2;obtain⟨⟨_,r0,_⟩,f0⟩:=Kp.res KF 2 2 (by simp) 0 (by omega);obtain⟨⟨_,r1,_⟩,f1⟩:=Kp.res KF 2 2 (by simp) 1 (by omega))))
 have h3:=h3.mono hk;go_wp2_with fail;refine jK (v:=.agg #[.bool s3,.slice a3 n3 c3]) (by simp[results,results129,go_sem,r0,r1]) rfl (Kp.fin KF 2 (by simp) (by simp) h3)
theorem Neg_c(w:World)(s1:Bool)(a1:Option Addr)(n1 c1 k1:Nat)(z1:Int)(h1:IntAt w k1 s1 a1 n1 c1 z1):Calls prog 194 #[.agg #[.bool s1,.slice a1 n1 c1]] w (RInt w k1 (-z1)):=by
 obtain⟨m,⟨xs,hw,hk,_,hm⟩,hs,hz⟩:=h1;have hz': -z1=if (!s1)then -(qD xs:Int)else qD xs:=by rw[hz,hm];cases s1 <;> simp
 have Hz:=hid hz';clear hz hz' hm hs;obtain⟨W,hW,K0⟩:=kp1 w s1 a1 n1 c1;have q0:=K0.cell 0 0 [.bool s1,.slice a1 n1 c1] _ (by simp) rfl;have q1:=K0.cell 0 1 [.bool s1,.slice a1 n1 c1] _ (by simp) rfl;have hnot:∀(x:Bool) (w:World),(Op.unary .not (.bool x)).run prog w=.ok (.bool (!x)) w:=λ_ _=>rfl
 go_enter func194,ntmps194;go_wp2_with fail;rw[<-hW];refine jJ (of_c _ (!s1) _ _ _ xs (-z1) (hw.ext K0.ext) Hz.out) ?_;clear hW;rintro e w1 ⟨s3,a3,n3,c3,rfl,e1,h3⟩;have KF:=K0.after e1;obtain⟨⟨_,r0,_⟩,f0⟩:=Kp.res KF 1 2 (by simp) 0 (by omega);obtain⟨⟨_,r1,_⟩,f1⟩:=Kp.res KF 1 2 (by simp) 1 (by omega);have h3:=h3.mono hk;clear q0 q1 hnot;go_wp2_with fail;refine jK (v:=.agg #[.bool s3,.slice a3 n3 c3]) (by simp[results,results194,go_sem,r0,r1]) rfl (Kp.fin KF 1 (by simp) (by simp) h3)
theorem Bits_c(w:World)(s1:Bool)(a1:Option Addr)(n1 c1 k1:Nat)(z1:Int)(h1:IntAt w k1 s1 a1 n1 c1 z1)(l1:k1<=268435456):Calls prog 190 #[.agg #[.bool s1,.slice a1 n1 c1]] w (RVal w (.int .i64 (bitLen z1.natAbs:Nat))):=by
 obtain⟨m,hm,hs,hz⟩:=h1;have hz':bitLen z1.natAbs=bitLen m:=by rw[hz];cases s1 <;> simp
 have H:=hid (bits_c (boxed w s1 a1 n1 c1) a1 n1 c1 k1 m (hm.ext (boxed_ext w s1 a1 n1 c1)) (by omega));rw[hz'];clear hm hs hz hz';go_enter func190,ntmps190;go_wp2_with fail;refine H.out.mono ?_;rintro e w1 ⟨rfl,rfl⟩;go_wp2_with fail
 go_ret
 exact⟨rfl,boxed_ext w s1 a1 n1 c1⟩
end
section
open Go Go.RowKit
theorem jt{P:Prop}(h:P:=by simpa using ho):P:=h
theorem yl{P:Prop}(h:P:=by unfold maxLen;omega):P:=h
theorem zah{P:Prop}(h:P:=by simpa using htp2 i0 hi0 e he):P:=h
abbrev jO:=@And.intro
def Gr(w w':World):Prop:=w.heap.size <=w'.heap.size/\∀p x,w.cell? p =some (.int .u32 x) ->w'.cell? p =some (.int .u32 x)
theorem Gr.refl(w:World):Gr w w:=⟨jP _,λ_ _ h =>h⟩
theorem Gr.trans{a b c:World}(h:Gr a b)(k:Gr b c):Gr a c:=⟨jQ h.1 k.1,λp x hp =>k.2 p x (h.2 p x hp)⟩
theorem Ext.gr{a b:World}(h:Ext a b):Gr a b:=⟨h.size,λ_ _ hp =>h.cell hp⟩
theorem Gr.set{a b:World}(h:Gr a b){p:Addr}{u:Value}(hp:b.cell? p =some u)(hu:NoWord u)(v:Value):Gr a (b.setCell p v) :=by
 refine h.trans ⟨by simp[World.setCell],λq x hq =>?_⟩
 rw[World.cell?_setCell_other]
 ·exact hq
 ·intro he
  rw[he,hq]at hp
  exact hu _ (Option.some.inj hp).symm
theorem Wd.gr{w w':World}{ao:Option Addr}{n cap:Nat}{xs:List Nat}(h:Wd w ao n cap xs)(e:Gr w w'):Wd w' ao n cap xs:=
 ⟨h.len,h.capo,h.big,h.lt,h.at_.imp id λ⟨b,off,h1,h2,h3⟩ =>⟨b,off,h1,Nat.lt_of_lt_of_le h2 e.1,λj hj =>e.2 _ _ (h3 j hj)⟩⟩
theorem NatAt.gr{w w':World}{k n cap m:Nat}{ao:Option Addr}(h:NatAt w k ao n cap m)(e:Gr w w'):NatAt w' k ao n cap m:=
 let ⟨xs,h1,h2⟩ :=h;⟨xs,h1.gr e,h2⟩
theorem IntAt.gr{w w':World}{k n cap:Nat}{s:Bool}{ao:Option Addr}{z:Int}(h:IntAt w k s ao n cap z)(e:Gr w w'):IntAt w' k s ao n cap z:=
 let ⟨m,h1,h2⟩ :=h;⟨m,h1.gr e,h2⟩
structure Bx (w:World) (g:Nat) (s:Bool) (a:Option Addr) (n c:Nat):Prop where
 c0:w.cell? ⟨g,0,none⟩=some (.bool s)
 c1:w.cell? ⟨g,1,none⟩=some (.slice a n c)
 f0:w.frozen? ⟨g,0,none⟩=false
 f1:w.frozen? ⟨g,1,none⟩=false
theorem Bx.lt{w:World}{g n c:Nat}{s:Bool}{a:Option Addr}(h:Bx w g s a n c):g < w.heap.size:=World.block_lt_of_cell? w ⟨g,0,none⟩ h.c0
theorem Bx.ext{w w':World}{g n c:Nat}{s:Bool}{a:Option Addr}(h:Bx w g s a n c)(e:Ext w w'):Bx w' g s a n c:=
 ⟨e.cell h.c0,e.cell h.c1,(e.frozen h.lt).trans h.f0,(e.frozen h.lt).trans h.f1⟩
theorem Bx.new(w:World)(s:Bool)(a:Option Addr)(n c:Nat):Bx (w.alloc (.cells #[.bool s,.slice a n c] 28)) w.heap.size s a n c:=⟨by simp,by simp,by simp,by simp⟩
section
variable {P:Program} {md:Region.Mode} {ops:Array Oper} {Q:Exit ->Act ->World ->Prop}
def qP(ops:Array Oper)(i:Nat):Option Tmp:=(ops[i]?).bind (·.dst)
def qT(ops:Array Oper)(v:Nat ->Value)(a:Act):Nat ->Act
 |0 =>a
 |n + 1 =>(qT ops v a n).put (qP ops n) (v n)
def qW(v:Nat ->Value):Act ->Nat ->List (Option Tmp) ->Act
 |a,_, [] =>a
 |a,k,d ::ds =>qW v (a.put d (v k)) (k + 1) ds
def dR(m:Nat):Nat->List (Option Tmp)|0=>[]|n+1=>some m ::dR (m+1) n
theorem lxE:(∀(v:Nat->Value) (a:Act) (k:Nat),qW v a k []=a)/\(∀(v:Nat->Value) (a:Act) (k:Nat) (d:Option Tmp) (ds:List (Option Tmp)),qW v a k (d ::ds)=qW v (a.put d (v k)) (k+1) ds)/\(∀(a:Act) (d:Tmp) (v:Value),a.put (some d) v={a with tmps:=a.tmps.setIfInBounds d v})/\(∀(a:Act) (v:Value),a.put none v=a)/\(∀(l:List Value) (i:Nat) (a:Value),l.toArray.setIfInBounds i a=(l.set i a).toArray)/\(∀(a b:Value) (l:List Value),(a ::l).set 0 b=b ::l)/\(∀(a b:Value) (l:List Value) (i:Nat),(a ::l).set (i+1) b=a ::l.set i b)/\(∀(v:Nat->Value) (a:Act) (k m n:Nat),qW v a k (dR m (n+1))=qW v (a.put (some m) (v k)) (k+1) (dR (m+1) n))/\(∀(v:Nat->Value) (a:Act) (k m:Nat),qW v a k (dR m 0)=a):=
  ⟨λ_ _ _=>rfl,λ_ _ _ _ _=>rfl,λ_ _ _=>rfl,λ_ _=>rfl,λ_ _ _=>by simp,λ_ _ _=>rfl,λ_ _ _ _=>rfl,λ_ _ _ _ _=>rfl,λ_ _ _ _=>rfl⟩
theorem dxE{α:Type _}:(∀(a:α) (l:List α) (n:Nat),(a ::l).drop (n+1)=l.drop n)/\(∀l:List α,l.drop 0=l):=⟨λ_ _ _=>rfl,λ_=>rfl⟩
def qO(ops:Array Oper)(n:Nat):Bool:=
 (List.range n).all λi =>(List.range n).all λj =>i ==j || (match qP ops i with|some d =>qP ops j !=some d|none =>true)
def qS(md:Region.Mode)(ops:Array Oper)(i:Nat):List Nat:=
 match ops[i]? with
 |some o =>(o.after.toList.filter (Region.binds md)).map (·.on)
 |none => []
def sweep(md:Region.Mode)(ops:Array Oper):Nat ->List Nat ->List Nat
 |0,s =>s
 |i + 1,s =>sweep md ops i (if s.contains i then s ++qS md ops i else s)
def ups(md:Region.Mode)(ops:Array Oper)(i:Nat):List Nat:=sweep md ops i (qS md ops i)
def xD(md:Region.Mode)(ops:Array Oper)(n:Nat)(T:List Nat):Bool:=
 ((List.range ops.size).all λj =>j < n || (List.range n).all λi =>(ups md ops j).contains i || T.contains i) &&
 (List.range n).all λi =>(qS md ops i).all λe =>e < i
theorem put_put(a:Act)(d:Option Tmp)(x y:Value):(a.put d x).put d y =a.put d y:=by
 cases d
 ·rfl
 ·simp only[Act.put,Array.setIfInBounds_setIfInBounds]
theorem put_swap(a:Act){d e:Option Tmp}(x y:Value)(h:∀t,d =some t ->e≠some t):(a.put d x).put e y =(a.put e y).put d x:=by
 cases d <;> cases e <;> simp only[Act.put]
 rename_i t u
 have:t≠u:=λhe =>h t rfl (by rw[he])
 rw[Array.setIfInBounds_comm _ _ this]
def xW(v:Nat ->Value)(i:Nat)(x:Value):Nat ->Value:=λj =>if j =i then x else v j
theorem layN_congr(a:Act)(u v:Nat ->Value):∀n,(∀i,i < n ->u i =v i) ->qT ops u a n =qT ops v a n:=by
 intro n
 induction n with
 |zero =>intro _;rfl
 |succ n ih =>intro h;rw[qT,qT,ih (λi hi =>h i (by omega)),h n (by omega)]
theorem xM{n:Nat}(h:qO ops n =true){i j:Nat}(hi:i < n)(hj:j < n)(hij:i≠j):∀t,qP ops i =some t ->qP ops j≠some t:=by
 intro t ht hjt
 simp only[qO,List.all_eq_true,List.mem_range,Bool.or_eq_true,beq_iff_eq]at h
 have:=(h i hi j hj).resolve_left hij
 rw[ht]at this
 simp[hjt]at this
theorem layN_put(a:Act)(v:Nat ->Value)(i:Nat)(x:Value):∀n,i < n ->(∀j k,j < n ->k < n ->j≠k ->∀t,qP ops j =some t ->qP ops k≠some t) ->
  (qT ops v a n).put (qP ops i) x =qT ops (xW v i x) a n:=by
 intro n
 induction n with
 |zero =>intro h;omega
 | succ n ih =>
  intro hi hd
  rcases jU i n with h|h
  ·rw[qT,qT,put_swap _ _ _ (hd n i (by omega) (by omega) (by omega)),ih h (λj k hj hk =>hd j k (by omega) (by omega))]
   simp only[xW];rw[if_neg (by omega)]
  ·have:i =n:=by omega
   subst this
   rw[qT,qT,put_put,layN_congr a (xW v i x) v i (λj hj =>by simp only[xW];rw[if_neg (by omega)])]
   simp only[xW,if_true]
theorem put_self(a:Act)(d:Option Tmp):a.put d (match d with|some t =>a.tmps.getD t undef|none =>undef)=a:=by
 cases d with
 |none =>rfl
 | some t =>
  have:a.tmps.setIfInBounds t (a.tmps.getD t undef)=a.tmps:=by
   apply Array.ext (by simp)
   intro i h1 h2
   rw[Array.getElem_setIfInBounds]
   ·split
    ·rename_i h;subst h;simp[h2]
    ·rfl
  simp only[Act.put,this]
theorem layN_self(a:Act):∀n,qT ops (λi =>match qP ops i with|some t =>a.tmps.getD t undef|none =>undef) a n =a:=by
 intro n
 induction n with
 |zero =>rfl
 |succ n ih =>rw[qT,ih];exact put_self a _
theorem qY(v:Nat ->Value)(a:Act):∀n ds,((List.range n).map (qP ops))=ds ->qT ops v a n =qW v a 0 ds:=by
 have key:∀(ds:List (Option Tmp)) (d:Option Tmp) (k:Nat) (b:Act),qW v b k (ds ++ [d])=(qW v b k ds).put d (v (k + ds.length)) :=by
  intro ds
  induction ds with
  |nil =>intro d k b;simp[qW]
  |cons e ds ih =>intro d k b;simp only[List.cons_append,qW,ih,List.length_cons];congr 2;omega
 intro n
 induction n with
 |zero =>intro ds h;subst h;rfl
 | succ n ih =>
  intro ds h
  subst h
  rw[List.range_succ,List.map_append,List.map_cons,List.map_nil,key,qT,ih _ rfl]
  simp
theorem qK{listed:Array Bool}(hc:∀i,listed.getD i false =true ->∀e∈qS md ops i,listed.getD e false =true):
  ∀i s,(∀e∈s,listed.getD e false =true) ->∀e∈sweep md ops i s,listed.getD e false =true:=by
 intro i
 induction i with
 |zero =>intro s h;exact h
 | succ i ih =>
  intro s h
  refine ih _ ?_
  intro e he
  split at he
  ·rename_i hm
   rcases List.mem_append.1 he with h1|h1
   ·exact h e h1
   ·exact hc i (h i (List.contains_iff_mem.1 hm)) e h1
  ·exact h e he
theorem qL{listed:Array Bool}{i:Nat}(h:i∈Region.ready md ops listed):∀e∈qS md ops i,listed.getD e false =true:=by
 obtain⟨_,o,ho,hall⟩ :=mem_ready.1 h
 intro e he
 simp only[qS,ho,List.mem_map,List.mem_filter]at he
 obtain⟨x,⟨hx,hb⟩,rfl⟩ :=he
 exact hall x (by simpa using hx) hb
theorem xG{listed:Array Bool}{i:Nat}(h0:listed.getD i true =false)(hi:i < ops.size)(h:∀e∈qS md ops i,listed.getD e false =true):i∈Region.ready md ops listed:=by
 have ho:ops[i]? =some ops[i] :=by simp[hi]
 refine mem_ready.2 ⟨h0,_,ho,λe he hb =>h _ ?_⟩
 simp only[qS,ho,List.mem_map,List.mem_filter]
 exact⟨e,⟨by simpa using he,hb⟩,rfl⟩
def qU(listed:Array Bool)(n:Nat):Nat:=(List.range n).countP (λi =>listed.getD i false)
theorem doneN_set(listed:Array Bool)(i:Nat)(h:listed.getD i true =false):∀n,qU (listed.setIfInBounds i true) n =qU listed n + if i < n then 1 else 0:=by
 have hi:i < listed.size:=by
  rcases jU i listed.size with h'|h'
  ·exact h'
  ·simp[Array.getElem?_eq_none h']at h
 intro n
 induction n with
 |zero =>rfl
 | succ n ih =>
  unfold qU at *
  rw[List.range_succ,List.countP_append,List.countP_append,ih]
  by_cases hn:i =n
  ·subst hn
   have h2:listed.getD i false =false:=by simp[hi]at h ⊢;exact h
   simp[hi]at h2 ⊢
   simp[h2]
  ·simp only[List.countP_cons,List.countP_nil,getD_set_ne false hn]
   split <;> split <;> first|omega| (split <;> omega)
theorem doneN_all{listed:Array Bool}:∀n,(∀i,i < n ->listed.getD i false =true) ->qU listed n =n:=by
 intro n h
 unfold qU
 rw[List.countP_eq_length.2,List.length_range]
 intro i hi
 exact h i (List.mem_range.1 hi)
theorem doneN_lt{listed:Array Bool}{n i:Nat}(hi:i < n)(h:listed.getD i false =false):qU listed n < n:=by
 unfold qU
 rcases Nat.lt_or_eq_of_le (List.countP_le_length (p:=λi =>listed.getD i false) (l:=List.range n))with h1|h1
 ·simpa using h1
 ·have:=List.countP_eq_length.1 h1 i (List.mem_range.2 hi)
  simp[h]at this
def qG(size n:Nat):Array Bool:=((List.range size).map λi =>decide (i < n)).toArray
theorem xX(p:Nat ->Bool):∀n,(∃i,i < n/\p i =true) ->∃i,i < n/\p i =true/\∀j,j < i ->p j =false:=by
 intro n
 induction n with
 |zero =>rintro⟨i,hi,_⟩;omega
 | succ n ih =>
  rintro⟨i,hi,hp⟩
  by_cases h:∃i,i < n/\p i =true
  ·obtain⟨j,h1,h2,h3⟩ :=ih h
   exact⟨j,by omega,h2,h3⟩
  ·have hin:i =n:=by
    rcases jU i n with h4|h4
    ·exact absurd ⟨i,h4,hp⟩ h
    ·omega
   refine⟨n,by omega,hin ▸ hp,λj hj =>?_⟩
   cases hpj:p j
   ·rfl
   ·exact absurd ⟨j,hj,hpj⟩ h
def RgOp(P:Program)(md:Region.Mode)(ops:Array Oper)(Q:Exit ->Act ->World ->Prop)(n:Nat)(a0:Act)(w0:World)(R:World ->World ->Prop)(fP:Nat ->Value ->World ->Prop)(boxes:List Nat)(i:Nat)(o:Oper):Prop:=
 ∀ (v:Nat ->Value) (w:World),R w0 w ->(∀j,(ups md ops i).contains j =true ->fP j (v j) w) ->
  ∀K:Act ->World ->Prop,Shut (∀x w',R w w' ->fP i x w' ->(boxes.contains i =true ->∃g,x =.pointer (some ⟨g,0,none⟩)/\w.heap.size <=g) ->K ((qT ops v a0 n).put o.dst x) w') ->
  if Region.wanted o (yielded ops (qT ops v a0 n).tmps)=true then Oper.wp P o (qT ops v a0 n) w K Q else K ((qT ops v a0 n).put o.dst undef) w
def AllOps(p:Nat ->Prop):Nat ->Prop
 |0 =>True
 |n + 1 =>AllOps p n/\p n
theorem AllOps.get{p:Nat ->Prop}:∀ {n:Nat},AllOps p n ->∀i,i < n ->p i:=by
 intro n
 induction n with
 |zero =>intro _ i hi;omega
 | succ n ih =>
  intro h i hi
  rcases jU i n with h1|h1
  ·exact ih h.1 i h1
  ·have:i =n:=by omega
   exact this ▸ h.2
def optOk(md:Region.Mode)(ops:Array Oper)(n:Nat)(opt:List Nat):Bool:=
 Region.noSelect ops && opt.all λi =>decide (i < n) && (List.range ops.size).all λj =>j ==i || (decide (j < n) && !opt.contains j) ||
  match ops[i]?,ops[j]? with
  |some oi,some oj =>oj.after.any (λe =>Region.binds md e && e.on ==i) || oi.apart ops oj
  |_,_ =>true
def OptY(P:Program)(md:Region.Mode)(ops:Array Oper)(Q:Exit ->Act ->World ->Prop)(n:Nat)(a0:Act)(w0:World)(R:World ->World ->Prop)(fP:Nat ->Value ->World ->Prop)(boxes:List Nat)(i:Nat):Prop:=
 boxes.contains i =false/\ (∀c a d v w,Q (.panic c) (Act.put a d v) w ->Q (.panic c) a w)/\
 ∀(v:Nat ->Value) (w:World),R w0 w ->(∀j,(ups md ops i).contains j =true ->fP j (v j) w) ->∃x o,ops[i]? =some o/\Yields P ops o x (qT ops v a0 n)/\fP i x w
theorem rg_opt(n:Nat)(opt:List Nat)(R:World ->World ->Prop)(fP:Nat ->Value ->World ->Prop)(boxes:List Nat){a0:Act}{w0:World}
  (hn:n <=ops.size) (hap:qO ops n =true) (htp2:∀i,i < n ->∀e∈qS md ops i,e < i)
  (ho:optOk md ops n opt =true) (hY:∀i∈opt,OptY P md ops Q n a0 w0 R fP boxes i)
  (hend:∀v w,R w0 w ->(∀i,i < n ->fP i (v i) w) ->(∀i j,i < n ->j < n ->i≠j ->boxes.contains i =true ->boxes.contains j =true ->v i≠v j) ->
   wpAny P md ops Q (ops.size - n) (qG ops.size n) (qT ops v a0 n) w) :
  ∀ (m fuel:Nat) (listed:Array Bool) (v:Nat ->Value) (w:World),listed.size =ops.size ->(∀j,n <=j ->listed.getD j false =false) ->
   fuel + qU listed n =ops.size ->qU listed n + m =n ->(∀i,listed.getD i false =true ->∀e∈qS md ops i,listed.getD e false =true) ->R w0 w ->
   (∀i,i < n ->listed.getD i false =true ->fP i (v i) w) ->
   (∀i j,i < n ->j < n ->i≠j ->boxes.contains i =true ->boxes.contains j =true ->listed.getD i false =true ->listed.getD j false =true ->v i≠v j) ->
   (∀i,i < n ->listed.getD i false =false ->i∈opt) ->
   wpAny P md ops Q fuel listed (qT ops v a0 n) w:=by
 intro m
 induction m with
 | zero =>
  intro fuel listed v w hsz hbig hcnt hm hcl hR hZ hdis hopt
  have hall':∀i,i < n ->listed.getD i false =true:=λi hi =>by
   cases h:listed.getD i false
   ·have:=doneN_lt hi h;omega
   ·rfl
  have hl:listed =qG ops.size n:=by
   apply Array.ext (by simp[qG,hsz])
   intro i h1 h2
   have h3:listed[i]=listed.getD i false:=by simp[h1]
   rw[h3]
   rcases jU i n with h|h
   ·rw[hall' i h];simp[qG,h]
   ·rw[hbig i h];simp[qG];omega
  have:=hend v w hR (λi hi =>hZ i hi (hall' i hi)) (λi j hi hj hij hbi hbj =>hdis i j hi hj hij hbi hbj (hall' i hi) (hall' j hj))
  rw[hl]
  rwa [show ops.size - n =fuel by omega]at this
 | succ m ih =>
  intro fuel listed v w hsz hbig hcnt hm hcl hR hZ hdis hopt
  have hex:∃i,i < n/\ (!listed.getD i false)=true:=by
   rcases Classical.em (∃i,i < n/\ (!listed.getD i false)=true)with h|h
   ·exact h
   ·have:=doneN_all n (λi hi =>by
     cases h':listed.getD i false
     ·exact absurd ⟨i,hi,by simp[h']⟩ h
     ·rfl)
    omega
  obtain⟨i,hi,h0,hmin⟩ :=xX (λi => !listed.getD i false) n hex
  have h0':listed.getD i false =false:=by simpa using h0
  have his:i < listed.size:=by omega
  have hun:listed.getD i true =false:=by simp[his]at h0' ⊢;exact h0'
  have hio:=hopt i hi h0'
  have hr:i∈Region.ready md ops listed:=xG hun (by omega) (λe he =>by
   have:=hmin e (htp2 i hi e he)
   simpa using this)
  obtain⟨hb,hQ,hy⟩ :=hY i hio
  obtain⟨x,o,hoi,hyx,hPx⟩ :=hy v w hR (λj hj =>by
   have hjl:=qK hcl i (qS md ops i) (qL hr) j (List.contains_iff_mem.1 hj)
   refine hZ j ?_ hjl
   rcases jU j n with h|h
   ·exact h
   ·rw[hbig j h]at hjl;cases hjl)
  obtain⟨f,rfl⟩:∃f,fuel =f + 1:=⟨fuel - 1,by omega⟩
  simp only[optOk,Bool.and_eq_true,List.all_eq_true,List.mem_range,jY,Bool.or_eq_true,beq_iff_eq,Bool.not_eq_true']at ho
  refine wpAny_first hoi (Region.noSelect_spec ho.1) (λc a w =>hQ c a _ x w) f listed _ _ ?_ hr hyx ?_
  ·intro j oj hoj hji hjun hno
   have hjs:j < ops.size:=(Array.getElem?_eq_some_iff.1 hoj).1
   rcases(ho.2 i hio).2 j hjs with(h1|h1)|h1
   ·exact absurd h1 hji
   ·have hjf:listed.getD j false =false:=by simp[hsz,hjs]at hjun ⊢;exact hjun
    have:=hopt j h1.1 hjf
    have h2:opt.contains j =true:=List.contains_iff_mem.2 this
    rw[h1.2]at h2;cases h2
   ·rw[hoi,hoj]at h1
    simp only[Bool.or_eq_true]at h1
    rcases h1 with h1|h1
    ·obtain⟨e,he,hbb⟩ :=Array.any_eq_true'.1 h1
     simp only[Bool.and_eq_true,beq_iff_eq]at hbb
     exact absurd hbb.2 (hno e he hbb.1)
    ·exact h1
  ·have hdst:o.dst =qP ops i:=by simp[qP,hoi]
   rw[hdst,layN_put a0 v i x n hi (λj k hj hk hjk =>xM hap hj hk hjk)]
   have hdn:=doneN_set _ _ hun n
   rw[if_pos hi]at hdn
   refine ih f _ _ w (by simp[hsz]) (λj hj =>?_) (by omega) (by omega) (λj hj e he =>?_) hR (λj hj hlj =>?_) (λj k hj hk hjk hbj hbk hlj hlk =>?_) (λj hj hlj =>?_)
   ·rw[getD_set_ne false (by omega)];exact hbig j hj
   ·by_cases hij:i =j
    ·subst hij
     exact getD_set_true (qL hr e he)
    ·rw[getD_set_ne false hij]at hj
     exact getD_set_true (hcl j hj e he)
   ·by_cases hij:j =i
    ·subst hij;simpa only[xW,if_true]using hPx
    ·rw[getD_set_ne false (Ne.symm hij)]at hlj
     simp only[xW];rw[if_neg hij]
     exact hZ j hj hlj
   ·simp only[xW]
    have hji:j≠i:=λh =>by rw[h,hb]at hbj;cases hbj
    have hki:k≠i:=λh =>by rw[h,hb]at hbk;cases hbk
    rw[if_neg hji,if_neg hki]
    rw[getD_set_ne false (Ne.symm hji)]at hlj
    rw[getD_set_ne false (Ne.symm hki)]at hlk
    exact hdis j k hj hk hjk hbj hbk hlj hlk
   ·by_cases hij:i =j
    ·subst hij
     have h1:(listed.setIfInBounds i true).getD i false =true:=by simp[his]
     rw[h1]at hlj;cases hlj
    ·rw[getD_set_ne false hij]at hlj
     exact hopt j hj hlj
theorem rg_main(n:Nat)(T opt:List Nat)(R:World ->World ->Prop)(fP:Nat ->Value ->World ->Prop)(boxes:List Nat){a0:Act}{w0:World}
  (hn:n <=ops.size) (hap:qO ops n =true) (htp:xD md ops n (T ++opt)=true) (hoo:optOk md ops n opt =true) (hY:∀i∈opt,OptY P md ops Q n a0 w0 R fP boxes i)
  (hRt:∀ {a b c},R a b ->R b c ->R a c)
  (hst:∀i,i < n ->∀x w w',R w w' ->fP i x w ->fP i x w')
  (hbx:∀i,i < n ->boxes.contains i =true ->∀x w,fP i x w ->∃g,x =.pointer (some ⟨g,0,none⟩)/\g < w.heap.size)
  (hop:AllOps (λi =>∀o,ops[i]? =some o ->RgOp P md ops Q n a0 w0 R fP boxes i o) n)
  (hend:∀v w,R w0 w ->(∀i,i < n ->fP i (v i) w) ->(∀i j,i < n ->j < n ->i≠j ->boxes.contains i =true ->boxes.contains j =true ->v i≠v j) ->
   wpAny P md ops Q (ops.size - n) (qG ops.size n) (qT ops v a0 n) w) :
  ∀ (fuel:Nat) (listed:Array Bool) (v:Nat ->Value) (w:World),listed.size =ops.size ->(∀j,n <=j ->listed.getD j false =false) ->
   fuel + qU listed n =ops.size ->(∀i,listed.getD i false =true ->∀e∈qS md ops i,listed.getD e false =true) ->R w0 w ->(∀i∈T,listed.getD i false =true) ->
   (∀i,i < n ->listed.getD i false =true ->fP i (v i) w) ->
   (∀i j,i < n ->j < n ->i≠j ->boxes.contains i =true ->boxes.contains j =true ->listed.getD i false =true ->listed.getD j false =true ->v i≠v j) ->
   wpAny P md ops Q fuel listed (qT ops v a0 n) w:=by
 simp only[xD,Bool.and_eq_true,List.all_eq_true,List.mem_range,Bool.or_eq_true,jY]at htp
 obtain⟨htp1,htp2⟩ :=htp
 have late:∀(fuel:Nat) (listed:Array Bool) (v:Nat ->Value) (w:World),listed.size =ops.size ->(∀j,n <=j ->listed.getD j false =false) ->
   fuel + qU listed n =ops.size ->(∀i,listed.getD i false =true ->∀e∈qS md ops i,listed.getD e false =true) ->R w0 w ->
   (∀i,i < n ->listed.getD i false =true ->fP i (v i) w) ->
   (∀i j,i < n ->j < n ->i≠j ->boxes.contains i =true ->boxes.contains j =true ->listed.getD i false =true ->listed.getD j false =true ->v i≠v j) ->
   (¬∃i,i < n/\ (!listed.getD i false && !opt.contains i)=true) ->wpAny P md ops Q fuel listed (qT ops v a0 n) w:=by
  intro fuel listed v w hsz hbig hcnt hcl hR hZ hdis hall
  have hle:qU listed n <=n:=by
   have:=List.countP_le_length (p:=λi =>listed.getD i false) (l:=List.range n)
   simpa [qU]using this
  refine rg_opt n opt R fP boxes hn hap (λi hi e he =>by simpa using htp2 i hi e he) hoo hY hend (n - qU listed n) fuel listed v w hsz hbig hcnt (by omega) hcl hR hZ hdis (λi hi h =>?_)
  cases h1:opt.contains i
  ·exact absurd ⟨i,hi,by rw[h,h1];rfl⟩ hall
  ·exact List.contains_iff_mem.1 h1
 intro fuel
 induction fuel with
 | zero =>
  intro listed v w hsz hbig hcnt hcl hR hT hZ hdis
  refine late 0 listed v w hsz hbig hcnt hcl hR hZ hdis ?_
  rintro⟨i,hi,h⟩
  have:=doneN_lt hi (show listed.getD i false =false by simp at h ⊢;exact h.1)
  omega
 | succ fuel ih =>
  intro listed v w hsz hbig hcnt hcl hR hT hZ hdis
  by_cases hall:∃i,i < n/\ (!listed.getD i false && !opt.contains i)=true
  ·obtain⟨i1,hi1,h1⟩ :=hall
   have hu1:listed.getD i1 false =false:=by simp at h1 ⊢;exact h1.1
   have ho1:opt.contains i1 =false:=by simp at h1 ⊢;exact h1.2
   obtain⟨i0,hi0,h0,hmin⟩ :=xX (λi => !listed.getD i false) n ⟨i1,hi1,by rw[hu1];rfl⟩
   have hi0s:i0 < listed.size:=by omega
   have hr0:i0∈Region.ready md ops listed:=xG (by simpa [hi0s]using h0) (by omega) (λe he =>by
    have:=hmin e zah
    simpa using this)
   refine⟨λh =>(by rw[h]at hr0;cases hr0),λi hi =>?_⟩
   have hin:i < n:=by
    rcases jU i n with h|h
    ·exact h
    ·exfalso
     obtain⟨_,o,ho,_⟩ :=mem_ready.1 hi
     have his:i < ops.size:=(Array.getElem?_eq_some_iff.1 ho).1
     rcases(htp1 i his).resolve_left (by omega) i1 hi1 with h2|h2
     ·have h3:=qK hcl i (qS md ops i) (qL hi) i1 (List.contains_iff_mem.1 h2)
      rw[hu1]at h3;cases h3
     ·rcases List.mem_append.1 (List.contains_iff_mem.1 h2)with h4|h4
      ·have h3:=hT i1 h4
       rw[hu1]at h3;cases h3
      ·rw[List.contains_iff_mem.2 h4]at ho1;cases ho1
   obtain⟨hun,o,ho,_⟩ :=mem_ready.1 hi
   have hil:i < listed.size:=by omega
   have hunf:listed.getD i false =false:=by simp[hil]at hun ⊢;exact hun
   refine wpOp_step ho λK hK =>?_
   refine hop.get i hin o ho v w hR (λj hj =>hZ j ?_ ?_) K ?_
   ·have hjl:=qK hcl i (qS md ops i) (qL hi) j (List.contains_iff_mem.1 hj)
    rcases jU j n with h|h
    ·exact h
    ·rw[hbig j h]at hjl;cases hjl
   ·exact qK hcl i (qS md ops i) (qL hi) j (List.contains_iff_mem.1 hj)
   ·intro x w' hRw hx hbx'
    refine hK _ _ ?_
    have hdst:o.dst =qP ops i:=by simp[qP,ho]
    rw[hdst,layN_put a0 v i x n hin (λj k hj hk hjk =>xM hap hj hk hjk)]
    refine ih _ _ _ (by simp[hsz]) (λj hj =>?_) ?_ (λj hj e he =>?_) (hRt hR hRw) (λj hj =>getD_set_true (hT j hj)) (λj hj hlj =>?_) (λj k hj hk hjk hbj hbk hlj hlk =>?_)
    ·rw[getD_set_ne false (by omega)];exact hbig j hj
    ·rw[doneN_set _ _ hun,if_pos hin];omega
    ·by_cases hij:i =j
     ·subst hij
      exact getD_set_true (qL hi e he)
     ·rw[getD_set_ne false hij]at hj
      exact getD_set_true (hcl j hj e he)
    ·by_cases hij:j =i
     ·subst hij;simpa only[xW,if_true]using hx
     ·rw[getD_set_ne false (Ne.symm hij)]at hlj
      simp only[xW];rw[if_neg hij]
      exact hst j hj _ _ _ hRw (hZ j hj hlj)
    ·simp only[xW]
     by_cases hji:j =i
     ·subst hji
      rw[if_pos rfl,if_neg (Ne.symm hjk)]
      rw[getD_set_ne false hjk]at hlk
      obtain⟨g,hg,hlt⟩ :=hbx k hk hbk _ _ (hZ k hk hlk)
      obtain⟨g',hg',hge⟩ :=hbx' hbj
      rw[hg,hg']
      intro h;injection h with h;injection h with h;injection h with h;omega
     ·rw[if_neg hji]
      rw[getD_set_ne false (Ne.symm hji)]at hlj
      by_cases hki:k =i
      ·subst hki
       rw[if_pos rfl]
       obtain⟨g,hg,hlt⟩ :=hbx j hj hbj _ _ (hZ j hj hlj)
       obtain⟨g',hg',hge⟩ :=hbx' hbk
       rw[hg,hg']
       intro h;injection h with h;injection h with h;injection h with h;omega
      ·rw[if_neg hki]
       rw[getD_set_ne false (Ne.symm hki)]at hlk
       exact hdis j k hj hk hjk hbj hbk hlj hlk
  ·exact late (fuel + 1) listed v w hsz hbig hcnt hcl hR hZ hdis hall
theorem qH(size i:Nat):(Array.replicate size false)[i]?.getD false =false:=by
 rcases jU i size with h|h
 ·simp[h]
 ·simp[h]
def xT(ops:Array Oper)(a:Act)(i:Nat):Value:=match qP ops i with|some t =>a.tmps.getD t undef|none =>undef
def startOk(md:Region.Mode)(ops:Array Oper)(n:Nat)(T:List Nat)(fuel:Nat)(listed:Array Bool):Bool:=
 listed.size ==ops.size && ((List.range ops.size).all λj =>j < n || !listed.getD j false) && fuel + qU listed n ==ops.size &&
 ((List.range n).all λi => !listed.getD i false || (T.contains i && (qS md ops i).all λe =>listed.getD e false)) && T.all λi =>listed.getD i false
/-! ### The rule with the facts in a row -/
def Stb(p:Value ->World ->Prop):Prop:=∀x w w',Ext w w' ->p x w ->p x w'
def AllStb:List (Value ->World ->Prop) ->Prop
 | [] =>True
 |p ::ps =>Stb p/\AllStb ps
class StbC (fP:Value ->World ->Prop):Prop where out:Stb fP
class AStb (L:List (Value ->World ->Prop)):Prop where out:AllStb L
instance:AStb [] :=⟨trivial⟩
instance {fP:Value ->World ->Prop} {L:List (Value ->World ->Prop)} [StbC fP] [AStb L]:AStb (fP ::L) :=⟨jO StbC.out AStb.out⟩
theorem AllStb.get:∀ {L:List (Value ->World ->Prop)},AllStb L ->∀i,Stb (L.getD i (λ_ _ =>True))
 | [],_,i =>λ_ _ _ _ _ =>by simp
 |p ::ps,h,0 =>by simpa using h.1
 |p ::ps,h,i + 1 =>by simpa using AllStb.get h.2 i
def IsBox(p:Value ->World ->Prop):Prop:=∀x w,p x w ->∃g,x =.pointer (some ⟨g,0,none⟩)/\g < w.heap.size
def FreshIf(b:Bool)(x:Value)(w:World):Prop:=b =true ->∃g,x =.pointer (some ⟨g,0,none⟩)/\w.heap.size <=g
theorem FreshIf.no{b:Bool}{x:Value}{w:World}(h:b =false):FreshIf b x w:=λh' =>by rw[h]at h';cases h'
theorem FreshIf.yes{b:Bool}{w:World}:FreshIf b (.pointer (some ⟨w.heap.size,0,none⟩)) w:=λ_ =>⟨_,rfl,jP _⟩
def RgL(P:Program)(md:Region.Mode)(ops:Array Oper)(Q:Exit ->Act ->World ->Prop)(ds:List (Option Tmp))(a0:Act)(w0:World)(L:List (Value ->World ->Prop))(boxes:List Nat)(i:Nat)(o:Oper):Prop:=
 ∀ (v:Nat ->Value) (w:World),Ext w0 w ->(∀j,(ups md ops i).contains j =true ->L.getD j (λ_ _ =>True) (v j) w) ->
  ∀K:Act ->World ->Prop,Shut (∀x w',Ext w w' ->L.getD i (λ_ _ =>True) x w' ->FreshIf (boxes.contains i) x w ->K ((qW v a0 0 ds).put o.dst x) w') ->
  if Region.wanted o (yielded ops (qW v a0 0 ds).tmps)=true then Oper.wp P o (qW v a0 0 ds) w K Q else K ((qW v a0 0 ds).put o.dst undef) w
def RgAll(P:Program)(md:Region.Mode)(ops:Array Oper)(Q:Exit ->Act ->World ->Prop)(ds:List (Option Tmp))(a0:Act)(w0:World)(L:List (Value ->World ->Prop))(boxes:List Nat):Nat ->Nat ->List Oper ->Prop
 |_,0,_ =>True
 |_,_ + 1, [] =>True
 |i,k + 1,o ::os =>RgL P md ops Q ds a0 w0 L boxes i o/\RgAll P md ops Q ds a0 w0 L boxes (i + 1) k os
theorem RgAll.get{ds:List (Option Tmp)}{a0:Act}{w0:World}{L:List (Value ->World ->Prop)}{boxes:List Nat}:
  ∀(k i:Nat) (os:List Oper),RgAll P md ops Q ds a0 w0 L boxes i k os ->∀j,j < k ->∀o,os[j]? =some o ->RgL P md ops Q ds a0 w0 L boxes (i + j) o
 |0,_,_,_,j,h,_,_ =>by omega
 |_ + 1,_, [],_,_,_,_,ho =>by simp at ho
 |k + 1,i,o ::os,h,0,_,o',ho =>by simp at ho;subst ho;exact h.1
 | k + 1,i,o ::os,h,j + 1,hj,o',ho =>by
  have:=RgAll.get k (i + 1) os h.2 j (by omega) o' jt
  rwa [show i + (j + 1)=i + 1 + j by omega]
theorem RgAll.nil{ds:List (Option Tmp)}{a0:Act}{w0:World}{L:List (Value ->World ->Prop)}{boxes:List Nat}{i:Nat}{os:List Oper}:RgAll P md ops Q ds a0 w0 L boxes i 0 os:=by
 cases os <;> trivial
theorem rn0{ds:List (Option Tmp)}{a0:Act}{w0:World}{L:List (Value ->World ->Prop)}{boxes:List Nat}{i:Nat}{os:List Oper}:RgAll P md ops Q ds a0 w0 L boxes i 0 os:=RgAll.nil
theorem RgAll.cons{ds:List (Option Tmp)}{a0:Act}{w0:World}{L:List (Value ->World ->Prop)}{boxes:List Nat}{k i:Nat}{o:Oper}{os:List Oper}
  (h:RgL P md ops Q ds a0 w0 L boxes i o) (hs:RgAll P md ops Q ds a0 w0 L boxes (i + 1) k os):RgAll P md ops Q ds a0 w0 L boxes i (k + 1) (o ::os) :=⟨h,hs⟩
theorem wpAny_rgO(n:Nat)(T opt:List Nat)(ds:List (Option Tmp))(L:List (Value ->World ->Prop))(boxes:List Nat)(fuel:Nat){f0:Nat}{listed:Array Bool}{a0:Act}{w0:World}
  (hok:startOk .any ops n T f0 listed =true) (hn:n <=ops.size) (hf:ops.size - n =fuel) (hds:(List.range n).map (qP ops)=ds) (hap:qO ops n =true) (htp:xD .any ops n (T ++opt)=true) (hoo:optOk .any ops n opt =true)
  (hst:AllStb L) (hbx:∀i∈boxes,IsBox (L.getD i (λ_ _ =>True))) (hTb:T.all (λi => !boxes.contains i)=true)
  (hT:∀i∈T,L.getD i (λ_ _ =>True) (xT ops a0 i) w0)
  (hY:∀i∈opt,boxes.contains i =false/\ (∀c a d v w,Q (.panic c) (Act.put a d v) w ->Q (.panic c) a w)/\
   ∀(v:Nat ->Value) (w:World),Ext w0 w ->(∀j,(ups .any ops i).contains j =true ->L.getD j (λ_ _ =>True) (v j) w) ->∃x o,ops[i]? =some o/\Yields P ops o x (qW v a0 0 ds)/\L.getD i (λ_ _ =>True) x w)
  (hop:RgAll P .any ops Q ds a0 w0 L boxes 0 n ops.toList)
  (hend:∀v w,Ext w0 w ->(∀i,i < n ->L.getD i (λ_ _ =>True) (v i) w) ->(∀i j,i∈boxes ->j∈boxes ->i < n ->j < n ->i≠j ->v i≠v j) ->
   wpAny P .any ops Q fuel (qG ops.size n) (qW v a0 0 ds) w) :
  wpAny P .any ops Q f0 listed a0 w0:=by
 simp only[startOk,Bool.and_eq_true,List.all_eq_true,List.mem_range,Bool.or_eq_true,jY,beq_iff_eq,Bool.not_eq_true']at hok
 obtain⟨⟨⟨⟨hsz,hbig⟩,hcnt⟩,hcl⟩,hTl⟩ :=hok
 have hout:∀j,n <=j ->listed.getD j false =false:=λj hj =>by
  rcases jU j ops.size with h|h
  ·exact(hbig j h).resolve_left (by omega)
  ·simp[hsz,h]
 have key:∀m,m <=n ->AllOps (λi =>∀o,ops[i]? =some o ->RgOp P .any ops Q n a0 w0 Ext (λi =>L.getD i (λ_ _ =>True)) boxes i o) m:=by
  intro m
  induction m with
  |zero =>intro _;trivial
  | succ m ih =>
   intro hm
   refine⟨ih (by omega),λo ho v w hR hd K hK =>?_⟩
   have:=RgAll.get n 0 ops.toList hop m (by omega) o jt
   rw[Nat.zero_add]at this
   have:=this v w hR hd K
   rw[<-qY v a0 n ds hds]at this
   exact this hK
 have:=rg_main n T opt Ext (λi =>L.getD i (λ_ _ =>True)) boxes (w0:=w0) (a0:=a0) hn hap htp hoo
  (λi hi =>⟨(hY i hi).1,(hY i hi).2.1,λv w hR hd =>by rw[qY v a0 n ds hds];exact(hY i hi).2.2 v w hR hd⟩) (λh k =>h.trans k) (λi _ =>hst.get i)
  (λi _ hi =>hbx i (List.contains_iff_mem.1 hi)) (key n (jP _))
  (fun v w hR hZ hne =>by
   rw[qY v a0 n ds hds,hf]
   exact hend v w hR hZ (λi j hi hj hin hjn hij =>hne i j hin hjn hij (List.contains_iff_mem.2 hi) (List.contains_iff_mem.2 hj)))
  f0 listed (xT ops a0) w0 hsz hout hcnt
  (fun i hi e he =>by
   rcases jU i n with h|h
   ·rcases hcl i h with h1|h1
    ·rw[hi]at h1;cases h1
    ·exact h1.2 e he
   ·rw[hout i h]at hi;cases hi)
  (Ext.refl _) hTl
  (fun i hi h =>by
   rcases hcl i hi with h1|h1
   ·rw[h]at h1;cases h1
   ·exact hT i (List.contains_iff_mem.1 h1.1))
  (fun i j hi _ _ hbi _ hli _ =>by
   rcases hcl i hi with h1|h1
   ·rw[hli]at h1;cases h1
   ·simp only[List.all_eq_true,Bool.not_eq_true']at hTb
    rw[hTb i (List.contains_iff_mem.1 h1.1)]at hbi;cases hbi)
 have hlay:qT ops (xT ops a0) a0 n =a0:=layN_self a0 n
 rwa [hlay]at this
theorem wpAny_rgT(n:Nat)(T:List Nat)(ds:List (Option Tmp))(L:List (Value ->World ->Prop))(boxes:List Nat)(fuel:Nat){f0:Nat}{listed:Array Bool}{a0:Act}{w0:World}
  (hok:startOk .any ops n T f0 listed =true) (hn:n <=ops.size) (hf:ops.size - n =fuel) (hds:(List.range n).map (qP ops)=ds) (hap:qO ops n =true) (htp:xD .any ops n T =true) (hns:Region.noSelect ops =true)
  (hst:AllStb L) (hbx:∀i∈boxes,IsBox (L.getD i (λ_ _ =>True))) (hTb:T.all (λi => !boxes.contains i)=true)
  (hT:∀i∈T,L.getD i (λ_ _ =>True) (xT ops a0 i) w0)
  (hop:RgAll P .any ops Q ds a0 w0 L boxes 0 n ops.toList)
  (hend:∀v w,Ext w0 w ->(∀i,i < n ->L.getD i (λ_ _ =>True) (v i) w) ->(∀i j,i∈boxes ->j∈boxes ->i < n ->j < n ->i≠j ->v i≠v j) ->
   wpAny P .any ops Q fuel (qG ops.size n) (qW v a0 0 ds) w) :
  wpAny P .any ops Q f0 listed a0 w0:=
 wpAny_rgO n T [] ds L boxes fuel hok hn hf hds hap (by rw[List.append_nil];exact htp) (by simp[optOk,hns]) hst hbx hTb hT (by simp) hop hend
theorem qV(n:Nat)(ds:List (Option Tmp))(L:List (Value ->World ->Prop))(boxes:List Nat)(fuel:Nat){a0:Act}{w0:World}{id:Nat}
  (hm:P.follows .mixedOrders =true) (hn:n <=ops.size) (hf:ops.size - n =fuel) (hds:(List.range n).map (qP ops)=ds) (hap:qO ops n =true) (htp:xD .any ops n []=true) (hns:Region.noSelect ops =true)
  (hst:AllStb L) (hbx:∀i∈boxes,IsBox (L.getD i (λ_ _ =>True)))
  (hop:RgAll P .any ops Q ds a0 w0 L boxes 0 n ops.toList)
  (hend:∀v w,Ext w0 w ->(∀i,i < n ->L.getD i (λ_ _ =>True) (v i) w) ->(∀i j,i∈boxes ->j∈boxes ->i < n ->j < n ->i≠j ->v i≠v j) ->
   wpAny P .any ops Q fuel (qG ops.size n) (qW v a0 0 ds) w) :
  (Code.region id ops true).wp P Q a0 w0:=by
 refine wp_region_any hm ?_
 have hE:Ext w0 w0.drew:=(Ext.refl w0).drew
 have hD:∀m,qU (Array.replicate ops.size false) m =0:=λm =>by
  unfold qU
  rw[List.countP_eq_zero.2]
  intro i _
  simp[qH]
 refine wpAny_rgT n [] ds L boxes fuel ?_ hn hf hds hap htp hns hst hbx (by simp) (by simp) ?_ (λv w hR =>hend v w (hE.trans hR))
 ·simp[startOk,hD,qH]
 ·have key:∀(k i:Nat) (os:List Oper),RgAll P .any ops Q ds a0 w0 L boxes i k os ->RgAll P .any ops Q ds a0 w0.drew L boxes i k os:=by
   intro k
   induction k with
   |zero =>intro i os _;cases os <;> trivial
   | succ k ih =>
    intro i os h
    cases os with
    |nil =>trivial
    |cons o os =>exact⟨λv w hR =>h.1 v w (hE.trans hR),ih _ _ h.2⟩
  exact key n 0 ops.toList hop
end
/-! ### Facts -/
def IsV(u:Value):Value ->World ->Prop:=λx _ =>x =u
abbrev IsP(g o:Nat):=IsV (.pointer (some ⟨g,o,none⟩))
abbrev iV(z:Int):Value->World->Prop:=IsV (.int .i64 z)
def IsI(k:Nat)(z:Int):Value ->World ->Prop:=λx w =>∃s a n c,x =.agg #[.bool s,.slice a n c]/\IntAt w k s a n c z
def IsB(w0:World):Value ->World ->Prop:=λx w =>∃g,x =.pointer (some ⟨g,0,none⟩)/\w0.heap.size <=g/\Bx w g false none 0 0
theorem IsV.stb(u:Value):Stb (IsV u) :=λ_ _ _ _ h =>h
instance (u:Value):StbC (IsV u) :=⟨IsV.stb u⟩
theorem IsI.stb(k:Nat)(z:Int):Stb (IsI k z) :=λ_ _ _ e ⟨s,a,n,c,h1,h2⟩ =>⟨s,a,n,c,h1,h2.ext e⟩
instance (k:Nat) (z:Int):StbC (IsI k z) :=⟨IsI.stb k z⟩
theorem IsB.stb(w0:World):Stb (IsB w0) :=λ_ _ _ e ⟨g,h1,h2,h3⟩ =>⟨g,h1,h2,h3.ext e⟩
instance (w0:World):StbC (IsB w0) :=⟨IsB.stb w0⟩
theorem Kq.bx{w w':World}{L:List (Nat×List Value)}(h:Kq w w' L)(b:Nat)(s:Bool)(a:Option Addr)(n c:Nat)(hi:(b, [.bool s,.slice a n c])∈L):Bx w' b s a n c:=
 ⟨h.cell b 0 _ _ hi rfl,h.cell b 1 _ _ hi rfl,h.free b 0 _ hi,h.free b 1 _ hi⟩
theorem kq21(w:World)(s1 s2:Bool)(a1 a2:Option Addr)(n1 n2 c1 c2:Nat):
  ∃ W,W =((w.alloc (.cells #[.bool s1,.slice a1 n1 c1] 28)).alloc (.cells #[.bool s2,.slice a2 n2 c2] 28)).alloc (.cells #[.bool false,.slice none 0 0] 28)/\
   Kq w W [(w.heap.size + 2, [.bool false,.slice none 0 0]),(w.heap.size + 1, [.bool s2,.slice a2 n2 c2]),(w.heap.size, [.bool s1,.slice a1 n1 c1])] :=by
 refine⟨_,rfl,?_⟩
 have:=(((Kq.start w).alloc [.bool s1,.slice a1 n1 c1] 28).alloc [.bool s2,.slice a2 n2 c2] 28).alloc [.bool false,.slice none 0 0] 28
 simpa using this
theorem bx2(w:World)(s s':Bool)(a a':Option Addr)(n n' c c':Nat):
  ∃X,X =(w.alloc (.cells #[.bool s,.slice a n c] 28)).alloc (.cells #[.bool s',.slice a' n' c'] 28)/\Bx X w.heap.size s a n c/\Bx X (w.heap.size + 1) s' a' n' c'/\Ext w X:=by
 refine⟨_,rfl,(Bx.new w s a n c).ext ((Ext.refl _).alloc _),?_,((Ext.refl w).alloc _).alloc _⟩
 have:=Bx.new (w.alloc (.cells #[.bool s,.slice a n c] 28)) s' a' n' c'
 simpa using this
theorem Bx.put{w:World}{g n c:Nat}{s:Bool}{a:Option Addr}(b:Bx w g s a n c)(s':Bool)(a':Option Addr)(n' c':Nat):
  ∃ W,W =(w.setCell ⟨g,0,none⟩ (.bool s')).setCell ⟨g,1,none⟩ (.slice a' n' c')/\Bx W g s' a' n' c'/\
   (∀ {g2 s2 a2 n2 c2},g2≠g ->Bx w g2 s2 a2 n2 c2 ->Bx W g2 s2 a2 n2 c2)/\Gr w W/\ (∀ {w0:World},Ext w0 w ->w0.heap.size <=g ->Ext w0 W) :=by
 refine⟨_,rfl,⟨?_,?_,?_,?_⟩,λhg b2 =>⟨?_,?_,?_,?_⟩,?_,λe hg =>(e.set hg _).set hg _⟩
 ·rw[World.cell?_setCell_other _ _ _ _ (by simp),World.cell?_setCell_same _ _ _ b.c0]
 ·refine World.cell?_setCell_same _ _ _ (u:=.slice a n c) ?_
  rw[World.cell?_setCell_other _ _ _ _ (by simp)];exact b.c1
 ·simp[b.f0]
 ·simp[b.f1]
 ·rw[World.cell?_setCell_far _ _ _ _ (Ne.symm hg),World.cell?_setCell_far _ _ _ _ (Ne.symm hg)];exact b2.c0
 ·rw[World.cell?_setCell_far _ _ _ _ (Ne.symm hg),World.cell?_setCell_far _ _ _ _ (Ne.symm hg)];exact b2.c1
 ·simp[b2.f0]
 ·simp[b2.f1]
 ·refine((Gr.refl w).set b.c0 (NoWord.bool _) _).set (p:=⟨g,1,none⟩) (u:=.slice a n c) ?_ (NoWord.slice _ _ _) _
  rw[World.cell?_setCell_other _ _ _ _ (by simp)];exact b.c1
theorem IsB.box(w0:World):IsBox (IsB w0) :=λ_ _ ⟨g,h1,_,h3⟩ =>⟨g,h1,h3.lt⟩
end
section
open Go Go.RowKit
open Go.Proofs.Tryz
theorem yf{P:Prop}(h:P:=by simp):P:=h
set_option maxRecDepth 100000
set_option maxHeartbeats 2000000
theorem tInt4_1{P:Prop}(h:P:=by
  go_wp2_with fail;refine jK (v:=.agg #[.bool s3,.slice a3 n3 c3]) (by simp[results,results140,go_sem,r0,r1]) rfl (Kp.fin KF 2 yf yf h3)
  ):P:=h
theorem Add_c(w:World)(s1 s2:Bool)(a1 a2:Option Addr)(n1 n2 c1 c2 k1 k2:Nat)(z1 z2:Int)(h1:IntAt w k1 s1 a1 n1 c1 z1)(h2:IntAt w k2 s2 a2 n2 c2 z2)(l1:k1<=268435456)(l2:k2<=268435456):
  Calls prog 140 #[.agg #[.bool s1,.slice a1 n1 c1],.agg #[.bool s2,.slice a2 n2 c2]] w (RInt w (max k1 k2+1) (z1+z2)):=by
 obtain⟨m1,h1,_,hz1⟩:=h1;obtain⟨m2,h2,_,hz2⟩:=h2;obtain⟨W,hW,K0⟩:=kp2 w s1 s2 a1 a2 n1 n2 c1 c2;have Hz1:=hid hz1;have Hz2:=hid hz2;clear hz1 hz2;have KC:=hid (kc2 w s1 s2 a1 a2 n1 n2 c1 c2);have hcm:Hid (∀W',Ext w W'->Calls prog 192 #[.slice a1 n1 c1,.slice a2 n2 c2] W' (RVal W' (.int .i64 (qM m1 m2)))):=λW' e=>cmp_c W' a1 a2 n1 n2 c1 c2 k1 k2 m1 m2 (h1.ext e) (h2.ext e) (by omega)
 by_cases hs:s1=s2
 ·have Hz:Hid (z1+z2=if s1 then -((m1+m2:Nat):Int)else(m1+m2:Nat)):=by
   show _=_;subst hs;rw[Hz1.out,Hz2.out];cases s1 <;> simp <;> omega
  have hb:(s1==s2)=true:=by simp[hs]
  clear hs;obtain⟨_,q1,q2,q3,q4⟩:=KC.out _ K0;go_enter func140,ntmps140;go_wp2_with fail;rw[<-hW];clear hW
  go_quiet (fail)
  go_wp2_with fail
  go_region_held3 (λw'=>Kp w w' [(1, [.bool s2,.slice a2 n2 c2]),(0, [.bool s1,.slice a1 n1 c1])] [(2,2)]/\w'.cell? ⟨w.heap.size,0,none⟩=some (.bool s1)/\w'.cell? ⟨w.heap.size,1,none⟩=some (.slice a1 n1 c1)/\w'.cell? ⟨w.heap.size+1,0,none⟩=some (.bool s2)/\w'.cell? ⟨w.heap.size+1,1,none⟩=some (.slice a2 n2 c2)) ((go_split_ands;refine KC.out _ ?_;first|assumption|exact Kp.drew zf|exact Kp.drew (Kp.drewN zf _)|exact Kp.after zf zf|exact(Kp.put2 zf 2 yf _ _ _ _ yf).1))
   (first
    | (go_at_call 191;go_must (go_split_ands;(with_reducible refine jJ (add_c _ _ _ _ _ _ _ k1 k2 m1 m2 ?_ ?_ (by omega) (by omega)) ?_);exact h1.ext (Kp.ext zf);exact h2.ext (Kp.ext zf);rintro e w1 ⟨ao,n,cap,rfl,e1,hm⟩;obtain⟨xs,hm,hk,_,hv⟩:=hm;have Hv:=hid hv;clear hv))
    | (go_at_call 131;go_must (go_split_ands;(with_reducible refine jJ (of_c _ _ _ _ _ xs (z1+z2) hm ?_) ?_);rw[Hv.out];exact Hz.out;rintro e w2 ⟨s3,a3,n3,c3,rfl,e2,h3⟩;have KF:=Kp.after zf e2;obtain⟨⟨_,r0,_⟩,f0⟩:=Kp.res KF 2 2 yf 0 (by omega);obtain⟨⟨_,r1,_⟩,f1⟩:=Kp.res KF 2 2 yf 1 (by omega))))
  have h3:=h3.mono hk;exact tInt4_1
 ·have hb:(s1==s2)=false:=by simp[hs]
  have hss:Hid (s1= !s2):=by show _=_;cases s1 <;> cases s2 <;> simp at hs ⊢
  clear hs;by_cases hlt:m1<m2
  ·have hv:qM (m1:Int) (m2:Int)= -1:=jC (by omega);rw[hv]at hcm
   have Hz:Hid (z1+z2=if s2 then -((m2-m1:Nat):Int)else(m2-m1:Nat)):=by
    show _=_;rw[Hz1.out,Hz2.out,hss.out];cases s2 <;> simp <;> omega
   clear hv;obtain⟨_,q1,q2,q3,q4⟩:=KC.out _ K0;go_enter func140,ntmps140;go_wp2_with fail;rw[<-hW];clear hW
   go_quiet (fail)
   go_wp2_with fail;refine jJ (hcm.out _ (K0.ext.drewN _)) ?_;rintro e w0 ⟨rfl,e0⟩;have K1:=(K0.drewN _).after e0;clear q1 q2 q3 q4;obtain⟨_,q1,q2,q3,q4⟩:=KC.out _ K1;go_wp2_with fail
   go_region_held3 (λw'=>Kp w w' [(1, [.bool s2,.slice a2 n2 c2]),(0, [.bool s1,.slice a1 n1 c1])] [(2,2)]/\w'.cell? ⟨w.heap.size,0,none⟩=some (.bool s1)/\w'.cell? ⟨w.heap.size,1,none⟩=some (.slice a1 n1 c1)/\w'.cell? ⟨w.heap.size+1,0,none⟩=some (.bool s2)/\w'.cell? ⟨w.heap.size+1,1,none⟩=some (.slice a2 n2 c2)) ((go_split_ands;refine KC.out _ ?_;first|assumption|exact Kp.drew zf|exact Kp.drew (Kp.drewN zf _)|exact Kp.after zf zf|exact(Kp.put2 zf 2 yf _ _ _ _ yf).1))
    (first
     | (go_at_call 193;go_must (go_split_ands;(with_reducible refine jJ (sub_c _ _ _ _ _ _ _ k2 k1 m2 m1 ?_ ?_ (by omega) (by omega)) ?_);exact h2.ext (Kp.ext zf);exact h1.ext (Kp.ext zf);rintro e w1 ⟨ao,n,cap,rfl,e1,hm⟩;obtain⟨xs,hm,hk,_,hv⟩:=hm;have Hv:=hid hv;clear hv))
     | (go_at_call 131;go_must (go_split_ands;(with_reducible refine jJ (of_c _ _ _ _ _ xs (z1+z2) hm ?_) ?_);rw[Hv.out];exact Hz.out;rintro e w2 ⟨s3,a3,n3,c3,rfl,e2,h3⟩;have KF:=Kp.after zf e2;obtain⟨⟨_,r0,_⟩,f0⟩:=Kp.res KF 2 2 yf 0 (by omega);obtain⟨⟨_,r1,_⟩,f1⟩:=Kp.res KF 2 2 yf 1 (by omega))))
   have h3:=h3.mono (show n<=max k1 k2+1 by omega);go_wp2_with fail;refine jK (v:=.agg #[.bool s3,.slice a3 n3 c3]) (by simp[results,results140,go_sem,r0,r1]) rfl (Kp.fin KF 2 yf yf h3)
  ·have hv:∃c:Int,qM (m1:Int) (m2:Int)=c/\0<=c:=by
    rcases Nat.eq_or_lt_of_le (show m2<=m1 by omega)with h|h
    ·exact⟨0,cmpI_eq (by omega),by omega⟩
    ·exact⟨1,jD (by omega),by omega⟩
   obtain⟨c,hv,hc0⟩:=hv;rw[hv]at hcm
   have Hz:Hid (z1+z2=if s1 then -((m1-m2:Nat):Int)else(m1-m2:Nat)):=by
    show _=_;rw[Hz1.out,Hz2.out,hss.out];cases s2 <;> simp <;> omega
   clear hv;obtain⟨_,q1,q2,q3,q4⟩:=KC.out _ K0;go_enter func140,ntmps140;go_wp2_with fail;rw[<-hW];clear hW
   go_quiet (fail)
   go_wp2_with fail;refine jJ (hcm.out _ (K0.ext.drewN _)) ?_;rintro e w0 ⟨rfl,e0⟩;have K1:=(K0.drewN _).after e0;clear q1 q2 q3 q4;obtain⟨_,q1,q2,q3,q4⟩:=KC.out _ K1;go_wp2_with fail
   go_region_held3 (λw'=>Kp w w' [(1, [.bool s2,.slice a2 n2 c2]),(0, [.bool s1,.slice a1 n1 c1])] [(2,2)]/\w'.cell? ⟨w.heap.size,0,none⟩=some (.bool s1)/\w'.cell? ⟨w.heap.size,1,none⟩=some (.slice a1 n1 c1)/\w'.cell? ⟨w.heap.size+1,0,none⟩=some (.bool s2)/\w'.cell? ⟨w.heap.size+1,1,none⟩=some (.slice a2 n2 c2)) ((go_split_ands;refine KC.out _ ?_;first|assumption|exact Kp.drew zf|exact Kp.drew (Kp.drewN zf _)|exact Kp.after zf zf|exact(Kp.put2 zf 2 yf _ _ _ _ yf).1))
    (first
     | (go_at_call 193;go_must (go_split_ands;(with_reducible refine jJ (sub_c _ _ _ _ _ _ _ k1 k2 m1 m2 ?_ ?_ (by omega) (by omega)) ?_);exact h1.ext (Kp.ext zf);exact h2.ext (Kp.ext zf);rintro e w1 ⟨ao,n,cap,rfl,e1,hm⟩;obtain⟨xs,hm,hk,_,hv⟩:=hm;have Hv:=hid hv;clear hv))
     | (go_at_call 131;go_must (go_split_ands;(with_reducible refine jJ (of_c _ _ _ _ _ xs (z1+z2) hm ?_) ?_);rw[Hv.out];exact Hz.out;rintro e w2 ⟨s3,a3,n3,c3,rfl,e2,h3⟩;have KF:=Kp.after zf e2;obtain⟨⟨_,r0,_⟩,f0⟩:=Kp.res KF 2 2 yf 0 (by omega);obtain⟨⟨_,r1,_⟩,f1⟩:=Kp.res KF 2 2 yf 1 (by omega))))
   have h3:=h3.mono (show n<=max k1 k2+1 by omega);exact tInt4_1
theorem Sub_c(w:World)(s1 s2:Bool)(a1 a2:Option Addr)(n1 n2 c1 c2 k1 k2:Nat)(z1 z2:Int)(h1:IntAt w k1 s1 a1 n1 c1 z1)(h2:IntAt w k2 s2 a2 n2 c2 z2)(l1:k1<=268435456)(l2:k2<=268435456):
  Calls prog 142 #[.agg #[.bool s1,.slice a1 n1 c1],.agg #[.bool s2,.slice a2 n2 c2]] w (RInt w (max k1 k2+1) (z1-z2)):=by
 obtain⟨W,hW,K0⟩:=kp2 w s1 s2 a1 a2 n1 n2 c1 c2;have KC:=hid (kc2 w s1 s2 a1 a2 n1 n2 c1 c2);go_enter func142,ntmps142;go_wp2_with fail;rw[<-hW];clear hW
 go_region_held3 (λw'=>Kp w w' [(1, [.bool s2,.slice a2 n2 c2]),(0, [.bool s1,.slice a1 n1 c1])] [(2,2)]/\w'.cell? ⟨w.heap.size,0,none⟩=some (.bool s1)/\w'.cell? ⟨w.heap.size,1,none⟩=some (.slice a1 n1 c1)/\w'.cell? ⟨w.heap.size+1,0,none⟩=some (.bool s2)/\w'.cell? ⟨w.heap.size+1,1,none⟩=some (.slice a2 n2 c2)) ((go_split_ands;refine KC.out _ ?_;first|assumption|exact Kp.drew zf|exact Kp.drew (Kp.drewN zf _)|exact Kp.after zf zf|exact(Kp.put2 zf 2 yf _ _ _ _ yf).1))
  (first
   | (go_at_call 194;go_must (go_split_ands;(with_reducible refine jJ (Neg_c _ _ _ _ _ k2 z2 ?_) ?_);exact h2.ext (Kp.ext zf);rintro e w1 ⟨s4,a4,n4,c4,rfl,e1,h4⟩))
   | (go_at_call 140;go_must (go_split_ands;(with_reducible refine jJ (Add_c _ _ _ _ _ _ _ _ _ k1 k2 z1 (-z2) ?_ ?_ (by omega) (by omega)) ?_);exact h1.ext (Kp.ext zf);exact h4;rintro e w2 ⟨s3,a3,n3,c3,rfl,e2,h3⟩;have KF:=Kp.after zf e2;obtain⟨⟨_,r0,_⟩,f0⟩:=Kp.res KF 2 2 yf 0 (by omega);obtain⟨⟨_,r1,_⟩,f1⟩:=Kp.res KF 2 2 yf 1 (by omega))))
 rw[<-Int.sub_eq_add_neg]at h3;go_wp2_with fail;refine jK (v:=.agg #[.bool s3,.slice a3 n3 c3]) (by simp[results,results142,go_sem,r0,r1]) rfl (Kp.fin KF 2 yf yf h3)
theorem wd_new2(w:World)(a b:Nat)(ha:a<4294967296)(hb:b<4294967296):Wd (w.alloc (.cells #[.int .u32 (a:Nat),.int .u32 (b:Nat)] 145)) (some ⟨w.heap.size,0,none⟩) 2 2 [a,b]:=by
 have ho:Own (w.alloc (.cells #[.int .u32 (a:Nat),.int .u32 (b:Nat)] 145)) w.heap.size [a,b]:=by
  show(w.heap.push _)[w.heap.size]? =_;simp[xK]
 have:=ho.wd (λi=>by match i with|0=>simpa using ha|1=>simpa using hb|i+2=>simp) 2 yf (by omega)
 simpa using this
theorem of_wrap(n:Int)(h0: -9223372036854775808<=n)(h1:n<=9223372036854775807):IntKind.u64.wrap (max n (wrap64 (-n)))=(n.natAbs:Int):=by
 simp only[wrap64,IntKind.wrap_u64];omega
theorem of_val(n:Int)(v a b:Nat)(hv:v=n.natAbs)(ha:a=v%4294967296)(hb:b=v/4294967296):n=if decide (n<0)then -(qD [a,b]:Int)else qD [a,b]:=by
 have:qD [a,b]=v:=by simp only[qD];omega
 rw[this];by_cases h:n<0 <;> simp[h] <;> omega
theorem Of_c(w:World)(n:Int)(h0: -9223372036854775808<=n)(h1:n<=9223372036854775807):Calls prog 108 #[.int .i64 n] w (RInt w 2 n):=by
 obtain⟨v,hv⟩:∃v:Nat,v=n.natAbs:=⟨_,rfl⟩;obtain⟨a,ha⟩:∃a:Nat,a=v%4294967296:=⟨_,rfl⟩;obtain⟨b,hb⟩:∃b:Nat,b=v/4294967296:=⟨_,rfl⟩;have Hz:=hid (of_val n v a b hv ha hb);have hE:=of_wrap n h0 h1;rw[<-hv]at hE;have hE2:max n (-n)=(v:Int):=by omega
 have h2:(v:Int)%4294967296=(a:Int):=by omega
 have h3:(v:Int)/4294967296=(b:Int):=by omega
 have hal:a<4294967296:=by omega
 have hbl:b<4294967296:=by omega
 obtain⟨W,hW⟩:∃W,W=w.alloc (.cells #[.bool false,.slice none 0 0] 28):=⟨_,rfl⟩;have hwd:=wd_new2 W a b hal hbl;have hWs:W.heap.size=w.heap.size+1:=by rw[hW];simp
 rw[hWs]at hwd;have hR:=hid (λ(s:Bool) (hs:decide (n<0)=s)=>of_c (W.alloc (.cells #[.int .u32 (a:Nat),.int .u32 (b:Nat)] 145)) s _ 2 2 [a,b] n hwd (by rw[<-hs];exact Hz.out));clear hwd
 have K0:Kp w W [] [(0,2)]:=hW▸(Kp.start w).out 0 rfl [.bool false,.slice none 0 0] 28 (by
  intro v hv;simp at hv;rcases hv with rfl|rfl
  ·exact NoWord.bool _
  ·exact NoWord.slice _ _ _)
 clear hv ha hb Hz hWs;by_cases hn:n<0
 ·go_enter func108,ntmps108;go_wp2_with fail;rw[<-hW];clear hW;refine jJ (hR.out true (by simp[hn])) ?_;rintro e w2 ⟨s3,a3,n3,c3,rfl,e2,h3'⟩;have KF:=(K0.after ((Ext.refl W).alloc _)).after e2;obtain⟨⟨_,r0,_⟩,f0⟩:=Kp.res KF 0 2 yf 0 (by omega);obtain⟨⟨_,r1,_⟩,f1⟩:=Kp.res KF 0 2 yf 1 (by omega);simp only[Nat.add_zero]at r0 r1 f0 f1;have h3:=h3';clear hR K0 hE hE2 h2;go_wp2_with fail;refine jK (v:=.agg #[.bool s3,.slice a3 n3 c3]) (by simp[results,results108,go_sem,r0,r1]) rfl (Kp.fin KF 0 yf yf h3)
 ·go_enter func108,ntmps108;go_wp2_with fail;rw[<-hW];clear hW;refine jJ (hR.out false (by simp[hn])) ?_;rintro e w2 ⟨s3,a3,n3,c3,rfl,e2,h3'⟩;have KF:=(K0.after ((Ext.refl W).alloc _)).after e2;obtain⟨⟨_,r0,_⟩,f0⟩:=Kp.res KF 0 2 yf 0 (by omega);obtain⟨⟨_,r1,_⟩,f1⟩:=Kp.res KF 0 2 yf 1 (by omega);simp only[Nat.add_zero]at r0 r1 f0 f1;have h3:=h3';clear hR K0 hE hE2 h2;go_wp2_with fail;refine jK (v:=.agg #[.bool s3,.slice a3 n3 c3]) (by simp[results,results108,go_sem,r0,r1]) rfl (Kp.fin KF 0 yf yf h3)
end
section
open Go Go.RowKit
open Go.Proofs.Tryz
theorem za{P:Prop}(h:P:=by kernel_rfl):P:=h
theorem zb{P:Prop}(h:P:=by{intro v w' hE hd;simp only[lxE,Nat.reduceAdd];skip;skip;intro K hK;go_simp;exact hK.out _ _ (Ext.refl _) rfl (FreshIf.no rfl)}):P:=h
theorem zn{P:Prop}(h:P:=by{intro v w' hE hd;simp only[lxE,Nat.reduceAdd];have L0:=Bx.c0 (b3.out.ext hE);have L1:=Bx.c1 (b3.out.ext hE);skip;intro K hK;go_simp;exact hK.out _ _ (Ext.refl _) rfl (FreshIf.no rfl)}):P:=h
theorem zo{P:Prop}(h:P:=by{intro v w' hE hd;simp only[lxE,Nat.reduceAdd];have L0:=Bx.c0 (b2.out.ext hE);have L1:=Bx.c1 (b2.out.ext hE);skip;intro K hK;go_simp;exact hK.out _ _ (Ext.refl _) rfl (FreshIf.no rfl)}):P:=h
theorem jr{P:Prop}(h:P:=by{intro v w' hE hd;simp only[lxE,Nat.reduceAdd];have L0:=Bx.c0 (B3.out.ext hE);have L1:=Bx.c1 (B3.out.ext hE);skip;intro K hK;go_simp;exact hK.out _ _ (Ext.refl _) rfl (FreshIf.no rfl)}):P:=h
theorem ya{P:Prop}(h:P:=by{intro v w' hE hd;simp only[lxE,Nat.reduceAdd];intro K hK;go_simp;refine hK.out _ _ ((Ext.refl _).alloc _) ⟨_,rfl,hE.size,Bx.new _ _ _ _ _⟩ FreshIf.yes}):P:=h
abbrev jR:=@wpAny_done
set_option maxRecDepth 100000
set_option maxHeartbeats 2000000
theorem IntAt.tight{w:World}{k k' n cap:Nat}{s:Bool}{ao:Option Addr}{z:Int}(h:IntAt w k s ao n cap z)(hz:z.natAbs<4294967296^k'):IntAt w k' s ao n cap z:=by
  obtain⟨m,h1,h2,h3⟩:=h;exact⟨m,h1.tight (by rw[h3]at hz;cases s <;> simpa using hz),h2,h3⟩
theorem IntAt.size{w:World}{k n cap:Nat}{s:Bool}{ao:Option Addr}{z:Int}(h:IntAt w k s ao n cap z):z.natAbs<4294967296^k:=by
  obtain⟨m,h1,h2,h3⟩:=h;have:=Nat.lt_of_lt_of_le h1.lt (Nat.pow_le_pow_right (by omega:0<4294967296) h1.le);rw[h3];cases s <;> simpa using this
theorem IntAt.zero_iff{w:World}{k n cap:Nat}{s:Bool}{ao:Option Addr}{z:Int}(h:IntAt w k s ao n cap z):z=0↔n=0:=by
  obtain⟨m,h1,h2,h3⟩:=h;rw[<-h1.zero,h3];cases s <;> simp
theorem IntAt.neg_iff{w:World}{k n cap:Nat}{s:Bool}{ao:Option Addr}{z:Int}(h:IntAt w k s ao n cap z):z<0↔s=true:=by
  have hz:=h.zero_iff;obtain⟨m,h1,h2,h3⟩:=h;cases s
  ·simp[h3]
  · have:n≠0:=λh0=>by have:=h2 h0;cases this
    simp only[iff_true];have h4:z≠0:=λh5=>this (hz.1 h5)
    simp at h3;omega
theorem ediv_unique(a b q r:Int)(h:a=q*b+r)(h0:0<=r)(h1:r<b.natAbs):a/b=q/\a%b=r:=by
  rcases Int.lt_or_lt_of_ne (show b≠0 by omega)with hb|hb
  · have:=(Int.ediv_emod_unique (a:=a) (b:= -b) (r:=r) (q:= -q) (by omega)).2 ⟨by rw[h];grind,h0,by omega⟩
    rw[Int.ediv_neg,Int.emod_neg]at this;omega
  ·exact(Int.ediv_emod_unique hb).2 ⟨by rw[h];grind,h0,by omega⟩
theorem tDivMod_1{P:Prop}(h:P:=by
  rcases Int.lt_trichotomy z 0 with h|h|h
  ·rw[Int.sign_eq_neg_one_of_neg h];decide
  ·subst h;decide
  ·rw[Int.sign_eq_one_of_pos h];decide
  ):P:=h
theorem sign_lo(z:Int): -9223372036854775808<=z.sign:=by
  exact tDivMod_1
theorem sign_hi(z:Int):z.sign<=9223372036854775807:=by
  exact tDivMod_1
theorem dm_math(s1 s2:Bool)(m1 m2:Nat)(z1 z2 q r:Int)(h0:0<m2)(h1:z1=if s1 then -(m1:Int)else m1)(h2:z2=if s2 then -(m2:Int)else m2)
    (hq:q=if (!(s1==s2))then -((m1/m2:Nat):Int)else(m1/m2:Nat)) (hr:r=if s1 then -((m1%m2:Nat):Int)else(m1%m2:Nat)):z1=q*z2+r/\r.natAbs<z2.natAbs:=by
  have hd:(m1:Int)=(m2:Int)*(m1/m2:Nat)+(m1%m2:Nat):=by exact_mod_cast (Nat.div_add_mod m1 m2).symm
  have hlt:=jV m1 h0;generalize m1/m2=a at*;generalize m1%m2=b at*;subst h1;subst h2;subst hq;subst hr;refine⟨?_,by cases s1 <;> cases s2 <;> simp <;> omega⟩;rw[hd];cases s1 <;> cases s2 <;> simp <;> grind
theorem dm_pos(z1 z2 q r:Int)(k1 k2:Nat)(h:z1=q*z2+r/\r.natAbs<z2.natAbs)(h1:z1.natAbs<4294967296^k1)(h2:z2.natAbs<4294967296^k2)(hr:0<=r):
    z1/z2=q/\z1%z2=r/\q.natAbs<4294967296^k1/\r.natAbs<4294967296^k2:=by
  obtain⟨h3,h4⟩:=ediv_unique z1 z2 q r h.1 hr (by omega);have:=Int.natAbs_ediv_le_natAbs z1 z2;exact⟨h3,h4,by omega,by omega⟩
theorem dm_neg(z1 z2 q r:Int)(k1 k2:Nat)(h:z1=q*z2+r/\r.natAbs<z2.natAbs)(h1:z1.natAbs<4294967296^k1)(h2:z2.natAbs<4294967296^k2)(hr:r<0):
    z1/z2=q-z2.sign/\z1%z2=r+z2.natAbs/\(q-z2.sign).natAbs<4294967296^k1/\(r+z2.natAbs).natAbs<4294967296^k2:=by
  have hs:z2.sign*z2=z2.natAbs:=by rw[Int.mul_comm];exact Int.mul_sign_self z2
  refine dm_pos z1 z2 (q-z2.sign) (r+z2.natAbs) k1 k2 ⟨?_,by omega⟩ h1 h2 (by omega);rw[h.1,Int.sub_mul,hs];omega
def RDM(w0:World)(k1 k2:Nat)(q r:Int)(e:Ending)(w':World):Prop:=
  ∃s1 a1 n1 c1 s2 a2 n2 c2,e=.returned (.tuple #[.agg #[.bool s1,.slice a1 n1 c1],.agg #[.bool s2,.slice a2 n2 c2],.int .i64 0])/\Ext w0 w'/\IntAt w' k1 s1 a1 n1 c1 q/\IntAt w' k2 s2 a2 n2 c2 r
theorem DivMod_c(w:World)(s1 s2:Bool)(a1 a2:Option Addr)(n1 n2 c1 c2 k1 k2:Nat)(z1 z2:Int)(h1:IntAt w k1 s1 a1 n1 c1 z1)(h2:IntAt w k2 s2 a2 n2 c2 z2)(l1:k1<=134217728)(l2:k2<=134217728)(hz2:z2=1):
    Calls prog 213 #[.agg #[.bool s1,.slice a1 n1 c1],.agg #[.bool s2,.slice a2 n2 c2]] w (RDM w k1 k2 (z1/z2) (z1%z2)):=by
  have hn2:n2≠0:=λh=>by have:=h2.zero_iff.2 h;omega
  have hn2':((n2:Int)==0)=false:=by rw[jM];omega
  have I1:=hid h1;have I2:=hid h2;obtain⟨m1,g1,_,hz1⟩:=h1;obtain⟨m2,g2,_,hzz2⟩:=h2
  have hm2:0<m2:=by
    rcases jN m2 with h|h
    ·exact absurd (g2.zero.1 h) hn2
    ·exact h
  obtain⟨W,hW,K0⟩:=kq22 w s1 s2 a1 a2 n1 n2 c1 c2;have hdiv:=hid (div_c W a1 a2 n1 n2 c1 c2 k1 k2 m1 m2 (g1.ext K0.ext) (g2.ext K0.ext) (by omega) hm2 (by cases s2 <;> simp at hzz2 <;> omega));have Hz1:=hid hz1;have Hz2:=hid hzz2;clear hz1 hzz2 hn2 hz2;go_enter func213,ntmps213;go_wp2_with fail;rw[<-hW];clear hW;refine jJ hdiv.out ?_;rintro e w1 ⟨aq,nq,cq,ar,nr,cr,rfl,e1,hq,hr⟩;have K1:=K0.after e1;have b2:=K1.bx w.heap.size s1 a1 n1 c1 (by simp);have b3:=K1.bx (w.heap.size+1) s2 a2 n2 c2 (by simp);have b4:Bx w1 (w.heap.size+1+1) false none 0 0:=K1.bx (w.heap.size+2) false none 0 0 (by simp);have b5:Bx w1 (w.heap.size+1+1+1) false none 0 0:=K1.bx (w.heap.size+3) false none 0 0 (by simp);obtain⟨xq,wq,lq,_,vq⟩:=hq;obtain⟨xr,wr,lr,_,vr⟩:=hr;have hq0:∃q0:Int,q0=if (!(s1==s2))then -(qD xq:Int)else qD xq:=⟨_,rfl⟩
  have hr0:∃r0:Int,r0=if s1 then -(qD xr:Int)else qD xr:=⟨_,rfl⟩
  obtain⟨q0,hq0⟩:=hq0;obtain⟨r0,hr0⟩:=hr0;have Hq0:=hid hq0;have Hr0:=hid hr0;have Vq:=hid vq;have Vr:=hid vr;clear hdiv vq vr hq0 hr0;go_wp2_with fail;have B2:=hid b2;have B3:=hid b3;have B4:=hid b4;have B5:=hid b5;clear b2 b3 b4 b5
  refine qV 13 [some 25,some 26,some 27,some 28,some 29,some 30,some 31,some 32,some 33,some 34,some 35,some 9,some 10]
    [IsP (w.heap.size) 0,IsV (.bool s1),IsP (w.heap.size+1) 0,IsV (.bool s2),IsV (.bool (!(s1==s2))),IsV (.slice aq nq cq),IsI nq q0,
     IsP (w.heap.size) 0,IsV (.bool s1),IsV (.slice ar nr cr),IsI nr r0,IsB w1,IsB w1] [11,12] 2 za dcx za za za za za ?_ ?_ ?_ ?_
  ·repeat' (first|exact trivial|exact IsV.stb _|exact IsI.stb _ _|exact IsB.stb _|apply jO)
  ·intro i hi;simp only[List.mem_cons,List.not_mem_nil,or_false]at hi;rcases hi with rfl|rfl <;> exact IsB.box _
  · refine RgAll.cons zb ?_
    refine RgAll.cons (by{intro v w' hE hd;simp only[lxE,Nat.reduceAdd];have d0:v 0=.pointer (some ⟨w.heap.size,0,none⟩):=hd 0 za;have L0:=Bx.c0 (B2.out.ext hE);have L1:=Bx.c1 (B2.out.ext hE);rw[d0];intro K hK;go_simp;exact hK.out _ _ (Ext.refl _) rfl (FreshIf.no rfl)}) ?_;refine RgAll.cons zb ?_;refine RgAll.cons (by{intro v w' hE hd;simp only[lxE,Nat.reduceAdd];have d0:v 2=.pointer (some ⟨w.heap.size+1,0,none⟩):=hd 2 za;have L0:=Bx.c0 (B3.out.ext hE);have L1:=Bx.c1 (B3.out.ext hE);rw[d0];intro K hK;go_simp;exact hK.out _ _ (Ext.refl _) rfl (FreshIf.no rfl)}) ?_;refine RgAll.cons (by{intro v w' hE hd;simp only[lxE,Nat.reduceAdd];have d0:v 1=.bool s1:=hd 1 za;have d1:v 3=.bool s2:=hd 3 za;rw[d0,d1];intro K hK;go_simp;exact hK.out _ _ (Ext.refl _) rfl (FreshIf.no rfl)}) ?_;refine RgAll.cons zb ?_;refine RgAll.cons (by{intro v w' hE hd;simp only[lxE,Nat.reduceAdd];have d0:v 4=.bool (!(s1==s2)):=hd 4 za;have d1:v 5=.slice aq nq cq:=hd 5 za;rw[d0,d1];intro K hK;go_simp;go_at_call 131;go_split_ands;(with_reducible refine jJ (of_c _ _ aq nq cq xq q0 (wq.ext hE) Hq0.out) ?_);rintro e w2 ⟨s9,a9,n9,c9,rfl,e2,h9⟩;exact hK.out _ _ e2 ⟨_,_,_,_,rfl,h9⟩ (FreshIf.no rfl)}) ?_;refine RgAll.cons zb ?_;refine RgAll.cons (by{intro v w' hE hd;simp only[lxE,Nat.reduceAdd];have d0:v 7=.pointer (some ⟨w.heap.size,0,none⟩):=hd 7 za;have L0:=Bx.c0 (B2.out.ext hE);have L1:=Bx.c1 (B2.out.ext hE);rw[d0];intro K hK;go_simp;exact hK.out _ _ (Ext.refl _) rfl (FreshIf.no rfl)}) ?_;refine RgAll.cons zb ?_;refine RgAll.cons (by{intro v w' hE hd;simp only[lxE,Nat.reduceAdd];have d0:v 8=.bool s1:=hd 8 za;have d1:v 9=.slice ar nr cr:=hd 9 za;rw[d0,d1];intro K hK;go_simp;go_at_call 131;go_split_ands;(with_reducible refine jJ (of_c _ _ ar nr cr xr r0 (wr.ext hE) Hr0.out) ?_);rintro e w2 ⟨s9,a9,n9,c9,rfl,e2,h9⟩;exact hK.out _ _ e2 ⟨_,_,_,_,rfl,h9⟩ (FreshIf.no rfl)}) ?_;refine RgAll.cons ya ?_
    refine RgAll.cons ya ?_;exact rn0
  intro v w2 e2 hZ hne;have d6:IsI nq q0 (v 6) w2:=hZ 6 dcx;have d10:IsI nr r0 (v 10) w2:=hZ 10 dcx;have d11:IsB w1 (v 11) w2:=hZ 11 dcx;have d12:IsB w1 (v 12) w2:=hZ 12 dcx;have hne:=hne 11 12 dcx dcx dcx dcx dcx;obtain⟨s3,a3,n3,c3,v6,h3⟩:=d6;obtain⟨s4,a4,n4,c4,v10,h4⟩:=d10;obtain⟨g1,v11,hg1,b1⟩:=d11;obtain⟨g2,v12,hg2,b2⟩:=d12;rw[v11,v12]at hne;have hne:g2≠g1:=λh=>hne (by rw[h])
  have l0:w.heap.size+3<w1.heap.size:=B5.out.lt;have B2:=hid (B2.out.ext e2);have B3:=hid (B3.out.ext e2);have B4:=hid (B4.out.ext e2);have B5:=hid (B5.out.ext e2);have E:=K1.ext.trans e2;simp only[lxE,Nat.reduceAdd];rw[v6,v10,v11,v12];clear v6 v10 v11 v12 hZ;have F1:=b1.c0;have F2:=b1.c1;have F3:=b1.f0;have F4:=b1.f1;refine wpAny_ready (rs:= [13]) za (by simp) (AllReady.cons rfl (λK hK=>?_) AllReady.nil);go_simp;refine hK _ _ ?_;clear hK K;clear F1 F2 F3 F4;obtain⟨w3,hW,P1,P2,P3,P4⟩:=b1.put s3 a3 n3 c3;rw[<-hW];clear hW;have b1:=P1;have b2:=P2 hne b2;have B2:=hid (P2 (show w.heap.size≠g1 by omega) B2.out);have B3:=hid (P2 (show w.heap.size+1≠g1 by omega) B3.out);have B4:=hid (P2 (show w.heap.size+1+1≠g1 by omega) B4.out);have B5:=hid (P2 (show w.heap.size+1+1+1≠g1 by omega) B5.out);have E:=P4 E (by omega);have h3:=h3.gr P3;have h4:=h4.gr P3;clear P1 P2 P3 P4;have F1:=b2.c0;have F2:=b2.c1;have F3:=b2.f0;have F4:=b2.f1;refine wpAny_ready (rs:= [14]) za (by simp) (AllReady.cons rfl (λK hK=>?_) AllReady.nil);go_simp;refine hK _ _ ?_;clear hK K;clear F1 F2 F3 F4;obtain⟨w4,hW,P1,P2,P3,P4⟩:=b2.put s4 a4 n4 c4;rw[<-hW];clear hW;have b1:=P2 (Ne.symm hne) b1;have b2:=P1;have B2:=hid (P2 (show w.heap.size≠g2 by omega) B2.out);have B3:=hid (P2 (show w.heap.size+1≠g2 by omega) B3.out);have B4:=hid (P2 (show w.heap.size+1+1≠g2 by omega) B4.out);have B5:=hid (P2 (show w.heap.size+1+1+1≠g2 by omega) B5.out);have E:=P4 E (by omega);have h3:=h3.gr P3;have h4:=h4.gr P3;clear P1 P2 P3 P4;refine jR za ?_ _;have N4:=hid h4.neg_iff;have hM:=hid (dm_math s1 s2 m1 m2 z1 z2 q0 r0 hm2 Hz1.out Hz2.out (by rw[<-Vq.out];exact Hq0.out) (by rw[<-Vr.out];exact Hr0.out));have F1:=b2.c0;have F2:=b2.c1;have F3:=b2.f0;have F4:=b2.f1;go_wp2_with fail
  · rename_i hs4 _ _
    subst hs4;have hM:=hid (dm_neg z1 z2 q0 r0 k1 k2 hM.out I1.out.size I2.out.size (N4.out.2 rfl));clear F1 F2 F3 F4;have I2':=I2.out.ext E;refine qV 4 (dR 38 4) [IsV (.agg #[.bool true,.slice a4 n4 c4]),IsV (.agg #[.bool s2,.slice a2 n2 c2]),IsI k2 (z2.natAbs:Int),IsI (max nr k2+1) (r0+z2.natAbs)] [] 1 za dcx za za za za za ?_ (λ_ h=>by cases h) ?_ ?_
    ·repeat' (first|exact trivial|exact IsV.stb _|exact IsI.stb _ _|exact IsB.stb _|apply jO)
    · refine RgAll.cons (by{intro v w' hE hd;simp only[lxE,Nat.reduceAdd];have L0:=Bx.c0 (b2.ext hE);have L1:=Bx.c1 (b2.ext hE);skip;intro K hK;go_simp;exact hK.out _ _ (Ext.refl _) rfl (FreshIf.no rfl)}) ?_
      refine RgAll.cons jr ?_;refine RgAll.cons (by{intro v w' hE hd;simp only[lxE,Nat.reduceAdd];have d0:v 1=.agg #[.bool s2,.slice a2 n2 c2]:=hd 1 za;rw[d0];intro K hK;go_simp;go_at_call 130;go_split_ands;(with_reducible refine jJ (Abs_c _ s2 a2 n2 c2 k2 z2 (I2'.ext hE)) ?_);rintro e w2 ⟨s9,a9,n9,c9,rfl,e2,h9⟩;exact hK.out _ _ e2 ⟨_,_,_,_,rfl,h9⟩ (FreshIf.no rfl)}) ?_;refine RgAll.cons (by{intro v w' hE hd;simp only[lxE,Nat.reduceAdd];have d0:v 0=.agg #[.bool true,.slice a4 n4 c4]:=hd 0 za;have d1:IsI k2 (z2.natAbs:Int) (v 2) w':=hd 2 za;obtain⟨s5,a5,n5,c5,d1,h5⟩:=d1;rw[d0,d1];intro K hK;go_simp;go_at_call 140;go_split_ands;(with_reducible refine jJ (Add_c _ true s5 a4 a5 n4 n5 c4 c5 nr k2 r0 z2.natAbs (h4.ext hE) h5 (by omega) (by omega)) ?_);rintro e w2 ⟨s9,a9,n9,c9,rfl,e2,h9⟩;exact hK.out _ _ e2 ⟨_,_,_,_,rfl,h9⟩ (FreshIf.no rfl)}) ?_;exact rn0
    intro v w5 e5 hZ _;have d3:IsI (max nr k2+1) (r0+z2.natAbs) (v 3) w5:=hZ 3 dcx;obtain⟨s5,a5,n5,c5,v3,h5⟩:=d3;have b1:=b1.ext e5;have b2:=b2.ext e5;have B2:=hid (B2.out.ext e5);have B3:=hid (B3.out.ext e5);have B4:=hid (B4.out.ext e5);have B5:=hid (B5.out.ext e5);have E:=E.trans e5;have h3:=h3.ext e5;simp only[lxE,Nat.reduceAdd];rw[v3];clear v3 hZ h4;have F1:=b2.c0;have F2:=b2.c1;have F3:=b2.f0;have F4:=b2.f1;refine wpAny_ready (rs:= [4]) za (by simp) (AllReady.cons rfl (λK hK=>?_) AllReady.nil);go_simp;refine hK _ _ ?_;clear hK K;clear F1 F2 F3 F4;obtain⟨w6,hW,P1,P2,P3,P4⟩:=b2.put s5 a5 n5 c5;rw[<-hW];clear hW;have b1:=P2 (Ne.symm hne) b1;have b2:=P1;have B2:=hid (P2 (show w.heap.size≠g2 by omega) B2.out);have B3:=hid (P2 (show w.heap.size+1≠g2 by omega) B3.out);have B4:=hid (P2 (show w.heap.size+1+1≠g2 by omega) B4.out);have B5:=hid (P2 (show w.heap.size+1+1+1≠g2 by omega) B5.out);have E:=P4 E (by omega);have h3:=h3.gr P3;have h5:=h5.gr P3;clear P1 P2 P3 P4;refine jR za ?_ _;go_wp2_with fail;have I2':=I2.out.ext E;refine qV 5 (dR 42 5) [IsV (.agg #[.bool s3,.slice a3 n3 c3]),IsV (.agg #[.bool s2,.slice a2 n2 c2]),iV z2.sign,IsI 2 z2.sign,IsI (max nq 2+1) (q0-z2.sign)] [] 1 za dcx za za za za za ?_ (λ_ h=>by cases h) ?_ ?_
    ·repeat' (first|exact trivial|exact IsV.stb _|exact IsI.stb _ _|exact IsB.stb _|apply jO)
    · refine RgAll.cons (by{intro v w' hE hd;simp only[lxE,Nat.reduceAdd];have L0:=Bx.c0 (b1.ext hE);have L1:=Bx.c1 (b1.ext hE);skip;intro K hK;go_simp;exact hK.out _ _ (Ext.refl _) rfl (FreshIf.no rfl)}) ?_
      refine RgAll.cons jr ?_;refine RgAll.cons (by{intro v w' hE hd;simp only[lxE,Nat.reduceAdd];have d0:v 1=.agg #[.bool s2,.slice a2 n2 c2]:=hd 1 za;rw[d0];intro K hK;go_simp;go_at_call 127;go_split_ands;(with_reducible refine jJ (Sign_c _ s2 a2 n2 c2 k2 z2 (I2'.ext hE)) ?_);rintro e w2 ⟨rfl,e2⟩;exact hK.out _ _ e2 rfl (FreshIf.no rfl)}) ?_;refine RgAll.cons (by{intro v w' hE hd;simp only[lxE,Nat.reduceAdd];have d0:v 2=.int .i64 z2.sign:=hd 2 za;rw[d0];intro K hK;go_simp;go_at_call 108;go_split_ands;(with_reducible refine jJ (Of_c _ z2.sign (sign_lo z2) (sign_hi z2)) ?_);rintro e w2 ⟨s9,a9,n9,c9,rfl,e2,h9⟩;exact hK.out _ _ e2 ⟨_,_,_,_,rfl,h9⟩ (FreshIf.no rfl)}) ?_;refine RgAll.cons (by{intro v w' hE hd;simp only[lxE,Nat.reduceAdd];have d0:v 0=.agg #[.bool s3,.slice a3 n3 c3]:=hd 0 za;have d1:IsI 2 z2.sign (v 3) w':=hd 3 za;obtain⟨s6,a6,n6,c6,d1,h6⟩:=d1;rw[d0,d1];intro K hK;go_simp;go_at_call 142;go_split_ands;(with_reducible refine jJ (Sub_c _ s3 s6 a3 a6 n3 n6 c3 c6 nq 2 q0 z2.sign (h3.ext hE) h6 (by omega) (by omega)) ?_);rintro e w2 ⟨s9,a9,n9,c9,rfl,e2,h9⟩;exact hK.out _ _ e2 ⟨_,_,_,_,rfl,h9⟩ (FreshIf.no rfl)}) ?_;exact rn0
    intro v w7 e7 hZ _;have d4:IsI (max nq 2+1) (q0-z2.sign) (v 4) w7:=hZ 4 dcx;obtain⟨s6,a6,n6,c6,v4,h6⟩:=d4;have b1:=b1.ext e7;have b2:=b2.ext e7;have B2:=hid (B2.out.ext e7);have B3:=hid (B3.out.ext e7);have B4:=hid (B4.out.ext e7);have B5:=hid (B5.out.ext e7);have E:=E.trans e7;have h5:=h5.ext e7;simp only[lxE,Nat.reduceAdd];rw[v4];clear v4 hZ h3;have F1:=b1.c0;have F2:=b1.c1;have F3:=b1.f0;have F4:=b1.f1;refine wpAny_ready (rs:= [5]) za (by simp) (AllReady.cons rfl (λK hK=>?_) AllReady.nil);go_simp;refine hK _ _ ?_;clear hK K;clear F1 F2 F3 F4;obtain⟨w8,hW,P1,P2,P3,P4⟩:=b1.put s6 a6 n6 c6;rw[<-hW];clear hW;have b1:=P1;have b2:=P2 hne b2;have B2:=hid (P2 (show w.heap.size≠g1 by omega) B2.out);have B3:=hid (P2 (show w.heap.size+1≠g1 by omega) B3.out);have B4:=hid (P2 (show w.heap.size+1+1≠g1 by omega) B4.out);have B5:=hid (P2 (show w.heap.size+1+1+1≠g1 by omega) B5.out);have E:=P4 E (by omega);have h5:=h5.gr P3;have h6:=h6.gr P3;clear P1 P2 P3 P4;refine jR za ?_ _;go_wp2_with fail;have F1:=b1.c0;have F2:=b1.c1;have F3:=b1.f0;have F4:=b1.f1;have G1:=b2.c0;have G2:=b2.c1;have G3:=b2.f0;have G4:=b2.f1;have H1:=B4.out.c0;have H2:=B4.out.c1;have H3:=B4.out.f0;have H4:=B4.out.f1;have M1:=B5.out.c0;have M2:=B5.out.c1;have M3:=B5.out.f0;have M4:=B5.out.f1;have N1:g1≠w.heap.size+1+1:=(by omega);have N2:g1≠w.heap.size+1+1+1:=(by omega);have N3:g2≠w.heap.size+1+1:=(by omega);have N5:g2≠w.heap.size+1+1+1:=(by omega);go_region;all_goals (go_wp2_with fail);all_goals (obtain⟨X1,hX,P1,P2,P3,P4⟩:=B4.out.put s6 a6 n6 c6;rw[<-hX];clear hX;obtain⟨X2,hX,Q1,Q2,Q3,Q4⟩:=(P2 (show w.heap.size+1+1+1≠w.heap.size+1+1 by omega) B5.out).put s5 a5 n5 c5;rw[<-hX];clear hX;have T4:=Q2 (by omega) P1;have E:=Q4 (P4 E (by omega)) (by omega));all_goals (have T0:=T4.c0;have T1:=T4.c1;have T2:=Q1.c0;have T3:=Q1.c1)
    all_goals refine jK (v:=.tuple #[.agg #[.bool s6,.slice a6 n6 c6],.agg #[.bool s5,.slice a5 n5 c5],.int .i64 0]) (by simp[results,results213,go_sem,T0,T1,T2,T3]) rfl ⟨_,_,_,_,_,_,_,_,rfl,E.drew,?_,?_⟩
    ·rw[hM.out.1];exact(((h6.tight hM.out.2.2.1).gr P3).gr Q3).ext (Ext.refl _).drew
    ·rw[hM.out.2.1];exact(((h5.tight hM.out.2.2.2).gr P3).gr Q3).ext (Ext.refl _).drew
  · rename_i hs4 _ _
    subst hs4;have hM:=hid (dm_pos z1 z2 q0 r0 k1 k2 hM.out I1.out.size I2.out.size (by have:=N4.out;simp at this;exact this));clear F1 F2 F3 F4;have F1:=b1.c0;have F2:=b1.c1;have F3:=b1.f0;have F4:=b1.f1;have G1:=b2.c0;have G2:=b2.c1;have G3:=b2.f0;have G4:=b2.f1;have H1:=B4.out.c0;have H2:=B4.out.c1;have H3:=B4.out.f0;have H4:=B4.out.f1;have M1:=B5.out.c0;have M2:=B5.out.c1;have M3:=B5.out.f0;have M4:=B5.out.f1;have N1:g1≠w.heap.size+1+1:=(by omega);have N2:g1≠w.heap.size+1+1+1:=(by omega);have N3:g2≠w.heap.size+1+1:=(by omega);have N5:g2≠w.heap.size+1+1+1:=(by omega);go_region;all_goals (go_wp2_with fail);all_goals (obtain⟨X1,hX,P1,P2,P3,P4⟩:=B4.out.put s3 a3 n3 c3;rw[<-hX];clear hX;obtain⟨X2,hX,Q1,Q2,Q3,Q4⟩:=(P2 (show w.heap.size+1+1+1≠w.heap.size+1+1 by omega) B5.out).put false a4 n4 c4;rw[<-hX];clear hX;have T4:=Q2 (by omega) P1;have E:=Q4 (P4 E (by omega)) (by omega));all_goals (have T0:=T4.c0;have T1:=T4.c1;have T2:=Q1.c0;have T3:=Q1.c1)
    all_goals refine jK (v:=.tuple #[.agg #[.bool s3,.slice a3 n3 c3],.agg #[.bool false,.slice a4 n4 c4],.int .i64 0]) (by simp[results,results213,go_sem,T0,T1,T2,T3]) rfl ⟨_,_,_,_,_,_,_,_,rfl,E.drew,?_,?_⟩
    ·rw[hM.out.1];exact(((h3.tight hM.out.2.2.1).gr P3).gr Q3).ext (Ext.refl _).drew
    ·rw[hM.out.2.1];exact(((h4.tight hM.out.2.2.2).gr P3).gr Q3).ext (Ext.refl _).drew

theorem mod_c(w:World)(s1 s2:Bool)(a1 a2:Option Addr)(n1 n2 c1 c2 k1 k2:Nat)(z1 z2:Int)(h1:IntAt w k1 s1 a1 n1 c1 z1)(h2:IntAt w k2 s2 a2 n2 c2 z2)(l1:k1<=134217728)(l2:k2<=134217728)(hz2:z2=1):
    Calls prog 212 #[.agg #[.bool s1,.slice a1 n1 c1],.agg #[.bool s2,.slice a2 n2 c2]] w (RInt w k2 (z1%z2)):=by
  obtain⟨W,hW,K0⟩:=kq21 w s1 s2 a1 a2 n1 n2 c1 c2;have b2:=K0.bx w.heap.size s1 a1 n1 c1 (by simp);have b3:=K0.bx (w.heap.size+1) s2 a2 n2 c2 (by simp);have B4:=hid (show Bx W (w.heap.size+1+1) false none 0 0 from K0.bx (w.heap.size+2) false none 0 0 (by simp));have E:=hid K0.ext;have H:=hid (DivMod_c W s1 s2 a1 a2 n1 n2 c1 c2 k1 k2 z1 z2 (h1.ext K0.ext) (h2.ext K0.ext) l1 l2 hz2);clear K0 h1 h2 hz2;go_enter func212,ntmps212;go_wp2_with fail;rw[<-hW];clear hW;have F1:=b2.c0;have F2:=b2.c1;have F3:=b2.f0;have F4:=b2.f1;have G1:=b3.c0;have G2:=b3.c1;have G3:=b3.f0;have G4:=b3.f1;go_wp2_with fail;refine jJ H.out ?_;rintro e w1 ⟨s3,a3,n3,c3,s4,a4,n4,c4,rfl,e1,h3,h4⟩;have B4:=hid (B4.out.ext e1);have E:=hid (E.out.trans e1);clear F1 F2 F3 F4 G1 G2 G3 G4 H b2 b3;go_upto_region 2 with fail;obtain⟨X,hX,b5,b6,e2⟩:=bx2 w1 s3 s4 a3 a4 n3 n4 c3 c4;rw[<-hX];clear hX;have b4:=B4.out.ext e2;have E:=E.out.trans e2;have F1:=b6.c0;have F2:=b6.c1;have F3:=b6.f0;have F4:=b6.f1;have G1:=b4.c0;have G2:=b4.c1;have G3:=b4.f0;have G4:=b4.f1;go_wp2_with fail;obtain⟨X1,hX,P1,P2,P3,P4⟩:=b4.put s4 a4 n4 c4;rw[<-hX];clear hX;have T0:=P1.c0;have T1:=P1.c1;exact jK (v:=.agg #[.bool s4,.slice a4 n4 c4]) (by simp[results,results212,go_sem,T0,T1]) rfl ⟨_,_,_,_,rfl,P4 E (by omega),(h4.ext e2).gr P3⟩
theorem gcd_step(a b:Int):Int.gcd b (a%b)=Int.gcd a b:=by
  have h:=Int.gcd_add_mul_left_right b (a%b) (a/b);rw[Int.emod_add_mul_ediv]at h;rw[<-h,Int.gcd_comm]
theorem emod_natAbs_lt(a b:Int)(h:b≠0):(a%b).natAbs<b.natAbs:=by
  have h1:=Int.emod_nonneg a h;have h2:=Int.emod_lt a h;omega
structure GcdInv (w:World) (k:Nat) (g:Nat) (A B:Int) (sA sB:Bool) (aA aB:Option Addr) (nA nB cA cB:Nat) (wr:World):Prop where
  b2:Bx wr w.heap.size sA aA nA cA
  b3:Bx wr (w.heap.size+1) sB aB nB cB
  b4:Bx wr (w.heap.size+1+1) false none 0 0
  hA:IntAt wr k sA aA nA cA A
  hB:IntAt wr k sB aB nB cB B
  hg:Int.gcd A B=g
  hu:B=1\/B=0
  e:Ext w wr
theorem Gcd_c(w:World)(s1 s2:Bool)(a1 a2:Option Addr)(n1 n2 c1 c2 k1 k2:Nat)(z1 z2:Int)(h1:IntAt w k1 s1 a1 n1 c1 z1)(h2:IntAt w k2 s2 a2 n2 c2 z2)(l1:k1<=134217728)(l2:k2<=134217728)(hu:z2=1):
    Calls prog 175 #[.agg #[.bool s1,.slice a1 n1 c1],.agg #[.bool s2,.slice a2 n2 c2]] w (RInt w (max k1 k2) (Int.gcd z1 z2:Nat)):=by
  obtain⟨W,hW,K0⟩:=kq21 w s1 s2 a1 a2 n1 n2 c1 c2;obtain⟨k,hk⟩:∃k,k=max k1 k2:=⟨_,rfl⟩;obtain⟨g,hg⟩:∃g,g=Int.gcd z1 z2:=⟨_,rfl⟩;have kl:k<=134217728:=by omega
  have I0:=hid (show GcdInv w k g z1 z2 s1 s2 a1 a2 n1 n2 c1 c2 W from
    ⟨K0.bx w.heap.size s1 a1 n1 c1 (by simp),K0.bx (w.heap.size+1) s2 a2 n2 c2 (by simp),K0.bx (w.heap.size+2) false none 0 0 (by simp),
     (h1.ext K0.ext).mono (by omega),(h2.ext K0.ext).mono (by omega),hg.symm,.inl hu,K0.ext⟩)
  rw[<-hk,<-hg];clear K0 h1 h2 hk hg l1 l2 hu;go_enter func175,ntmps175;go_wp2_with fail;rw[<-hW];clear hW
  go_loopg [] z2.natAbs (λgk wr=>∃A B sA sB aA aB nA nB cA cB,B.natAbs=gk/\Hid (GcdInv w k g A B sA sB aA aB nA nB cA cB wr))
  case atStart=>exact⟨_,_,_,_,_,_,_,_,_,_,rfl,I0⟩
  case round=>
    clear I0;obtain⟨A,B,sA,sB,aA,aB,nA,nB,cA,cB,hgk,I⟩:=hrel;have hz:=I.out.hB.zero_iff;by_cases hB:nB=0
    · subst hB
      have hB0:B=0:=hz.2 rfl;subst hB0;have hgg:g=A.natAbs:=by rw[<-I.out.hg,Int.gcd_zero_right]
      have hb4:=hid I.out.b4;have F1:=I.out.b3.c0;have F2:=I.out.b3.c1;have F3:=I.out.b3.f0;have F4:=I.out.b3.f1;have G1:=I.out.b2.c0;have G2:=I.out.b2.c1;have G3:=I.out.b2.f0;have G4:=I.out.b2.f1;go_wp2_with fail;refine jJ (Abs_c _ _ _ _ _ _ _ I.out.hA) ?_;rintro e w1 ⟨s3,a3,n3,c3,rfl,e1,h3⟩;have b4:=hb4.out.ext e1;have E:=I.out.e.trans e1;clear F1 F2 F3 F4 G1 G2 G3 G4;have F1:=b4.c0;have F2:=b4.c1;have F3:=b4.f0;have F4:=b4.f1;go_wp2_with fail;obtain⟨X1,hX,P1,P2,P3,P4⟩:=b4.put s3 a3 n3 c3;rw[<-hX];clear hX;have T0:=P1.c0;have T1:=P1.c1;exact jK (v:=.agg #[.bool s3,.slice a3 n3 c3]) (by simp[results,results175,go_sem,T0,T1]) rfl ⟨_,_,_,_,rfl,P4 E (by omega),by rw[hgg];exact h3.gr P3⟩
    · have hBi:decide ((0:Int)<(nB:Int))=true:=by simp;omega
      have hBn:B≠0:=λh=>hB (hz.1 h)
      have M1:=gcd_step A B;have M2:=emod_natAbs_lt A B hBn;have M3:A%B=1\/A%B=0:=.inr (by rw[I.out.hu.resolve_right hBn];omega);have b2:=hid I.out.b2;have b3:=hid I.out.b3;have b4:=hid I.out.b4;have F1:=I.out.b3.c0;have F2:=I.out.b3.c1;have F3:=I.out.b3.f0;have F4:=I.out.b3.f1;go_wp2_with fail;clear F1 F2 F3 F4 hBi;generalize decide (0<nB)=b8;refine qV 4 (dR 9 4) [IsV (.agg #[.bool sB,.slice aB nB cB]),IsV (.agg #[.bool sA,.slice aA nA cA]),IsV (.agg #[.bool sB,.slice aB nB cB]),IsI k (A%B)] [] 2 za dcx za za za za za ?_ (λ_ h=>by cases h) ?_ ?_
      ·repeat' (first|exact trivial|exact IsV.stb _|exact IsI.stb _ _|exact IsB.stb _|apply jO)
      · refine RgAll.cons zn ?_
        refine RgAll.cons zo ?_;refine RgAll.cons zn ?_;refine RgAll.cons (by{intro v w' hE hd;simp only[lxE,Nat.reduceAdd];have d0:v 1=.agg #[.bool sA,.slice aA nA cA]:=hd 1 za;have d1:v 2=.agg #[.bool sB,.slice aB nB cB]:=hd 2 za;rw[d0,d1];intro K hK;go_simp;go_at_call 212;go_split_ands;(with_reducible refine jJ (mod_c _ sA sB aA aB nA nB cA cB k k A B (I.out.hA.ext hE) (I.out.hB.ext hE) kl kl (I.out.hu.resolve_right hBn)) ?_);rintro e w2 ⟨s9,a9,n9,c9,rfl,e2,h9⟩;exact hK.out _ _ e2 ⟨_,_,_,_,rfl,h9⟩ (FreshIf.no rfl)}) ?_;exact rn0
      intro v w1 e1 hZ _;have v0:v 0=.agg #[.bool sB,.slice aB nB cB]:=hZ 0 dcx;have d3:IsI k (A%B) (v 3) w1:=hZ 3 dcx;obtain⟨s5,a5,n5,c5,v3,h5⟩:=d3;have b2:=b2.out.ext e1;have b3:=b3.out.ext e1;have b4:=b4.out.ext e1;have E:=I.out.e.trans e1;have hB:=I.out.hB.ext e1;have hg:=I.out.hg;simp only[lxE,Nat.reduceAdd];rw[v0,v3];clear v0 v3 hZ I hz;have F1:=b2.c0;have F2:=b2.c1;have F3:=b2.f0;have F4:=b2.f1;refine wpAny_ready (rs:= [4]) za (by simp) (AllReady.cons rfl (λK hK=>?_) AllReady.nil);go_simp;refine hK _ _ ?_;clear hK K;clear F1 F2 F3 F4;obtain⟨w2,hW,P1,P2,P3,P4⟩:=b2.put sB aB nB cB;rw[<-hW];clear hW;have b2:=P1;have b3:=P2 (show w.heap.size+1≠w.heap.size by omega) b3;have b4:=P2 (show w.heap.size+1+1≠w.heap.size by omega) b4;have E:=P4 E (by omega);have hB:=hB.gr P3;have h5:=h5.gr P3;clear P1 P2 P3 P4;have F1:=b3.c0;have F2:=b3.c1;have F3:=b3.f0;have F4:=b3.f1;refine wpAny_ready (rs:= [5]) za (by simp) (AllReady.cons rfl (λK hK=>?_) AllReady.nil);go_simp;refine hK _ _ ?_;clear hK K;clear F1 F2 F3 F4;obtain⟨w3,hW,P1,P2,P3,P4⟩:=b3.put s5 a5 n5 c5;rw[<-hW];clear hW;have b3:=P1;have b2:=P2 (show w.heap.size≠w.heap.size+1 by omega) b2;have b4:=P2 (show w.heap.size+1+1≠w.heap.size+1 by omega) b4;have E:=P4 E (by omega);have hB:=hB.gr P3;have h5:=h5.gr P3;clear P1 P2 P3 P4;have I1:=hid (show GcdInv w k g B (A%B) sB s5 aB a5 nB n5 cB c5 w3 from⟨b2,b3,b4,hB,h5,M1.trans hg,M3,E⟩);clear b2 b3 b4 E hB h5;refine jR za ?_ _;go_wp2_with fail
      go_roundg (A%B).natAbs
      case measure=>omega
      case rel=>exact⟨_,_,_,_,_,_,_,_,_,_,rfl,I1⟩
end
section
open Go Go.RowKit
def Pt(g:Nat)(w w':World):Prop:=
 (∀g2 s a n c,g2≠g->Bx w g2 s a n c->Bx w' g2 s a n c)/\Gr w w'/\(∀w0:World,Ext w0 w->w0.heap.size<=g->Ext w0 w')
theorem Bx.pt{g g2 n c:Nat}{s:Bool}{a:Option Addr}{w w':World}(h:Bx w g2 s a n c)(p:Pt g w w')(hg:g2≠g):Bx w' g2 s a n c:=p.1 _ _ _ _ _ hg h
theorem Ext.pt{w0 w w':World}{g:Nat}(e:Ext w0 w)(p:Pt g w w')(hg:w0.heap.size<=g):Ext w0 w':=p.2.2 _ e hg
theorem Bx.put'{w:World}{g n c:Nat}{s:Bool}{a:Option Addr}(b:Bx w g s a n c)(s':Bool)(a':Option Addr)(n' c':Nat):
  ∃W,W=(w.setCell ⟨g,0,none⟩ (.bool s')).setCell ⟨g,1,none⟩ (.slice a' n' c')/\Bx W g s' a' n' c'/\Pt g w W:=by
 obtain⟨W,h1,h2,h3,h4,h5⟩:=b.put s' a' n' c';exact⟨W,h1,h2,λ_ _ _ _ _ hg h=>h3 hg h,h4,λ_ e hg=>h5 e hg⟩
theorem IntAt.nil(w:World)(k:Nat):IntAt w k false none 0 0 0:=IntAt.zero.mono (by omega)
end
section
open Go Go.RowKit

theorem Or_c(w:World)(g:Nat)(v:Int)(h0:w.cell? ⟨g,0,none⟩=some (.int .i64 v))(h1:w.cell? ⟨g,1,none⟩=some (.int .i64 1)):
  Calls Tryz.prog 196 #[.slice (some ⟨g,0,none⟩) 2 2] w (RSame w (.int .i64 (if v=0 then 1 else v))):=by
 obtain⟨r,hr⟩:∃r,r=(if v=0 then 1 else v):=⟨_,rfl⟩;rw[<-hr];have Hr:=hid hr;clear hr;go_enter Tryz.func196,Tryz.ntmps196;go_wp2_with fail
 go_loop [8] (λi=>∃k:Nat,i=.int .i64 k/\k<=1/\(k=1->v=0)) (λi=>2-(intOf i).toNat)
 case atStart=>exact⟨0,rfl,by omega,by omega⟩
 case round=>
  obtain⟨k,rfl,hk,hv⟩:=hrel;rcases jN k with hk0|hk0
  ·subst hk0;by_cases hv0:v=0
   ·subst hv0;go_wp2_with fail
    case roundEnd=>exact⟨⟨1,rfl,by omega,λ_=>trivial⟩,by simp[intOf]⟩
   ·have hb:(v==0)=false:=by simpa using hv0
    go_wp2_with fail;exact jK (v:=.int .i64 v) (by simp[results,Tryz.results196,go_sem]) rfl ⟨by rw[Hr.out,if_neg hv0],rfl⟩
  ·obtain rfl:k=1:=by omega
   have hv0:=hv rfl;subst hv0;go_wp2_with fail;exact jK (v:=.int .i64 1) (by simp[results,Tryz.results196,go_sem]) rfl ⟨by rw[Hr.out];simp,rfl⟩
end
section
open Go Go.RowKit
theorem kq20(w:World)(s1 s2:Bool)(a1 a2:Option Addr)(n1 n2 c1 c2:Nat):
  ∃ W,W=(w.alloc (.cells #[.bool s1,.slice a1 n1 c1] 28)).alloc (.cells #[.bool s2,.slice a2 n2 c2] 28)/\
   Kq w W [(w.heap.size+1, [.bool s2,.slice a2 n2 c2]),(w.heap.size, [.bool s1,.slice a1 n1 c1])]:=by
 refine⟨_,rfl,?_⟩;have:=((Kq.start w).alloc [.bool s1,.slice a1 n1 c1] 28).alloc [.bool s2,.slice a2 n2 c2] 28
 simpa using this
def IsR2(w0:World)(x y:Int):Value->World->Prop:=λu w=>∃g,u=.slice (some ⟨g,0,none⟩) 2 2/\w0.heap.size<=g/\g<w.heap.size/\w.cell? ⟨g,0,none⟩=some (.int .i64 x)/\w.cell? ⟨g,1,none⟩=some (.int .i64 y)
theorem IsR2.stb(w0:World)(x y:Int):Stb (IsR2 w0 x y):=λ_ _ _ e ⟨g,h1,h2,h3,h4,h5⟩=>⟨g,h1,h2,Nat.lt_of_lt_of_le h3 e.size,e.cell h4,e.cell h5⟩
instance (w0:World) (x y:Int):StbC (IsR2 w0 x y):=⟨IsR2.stb w0 x y⟩
theorem cmp_signs(s1 s2:Bool)(m1 m2:Nat)(z1 z2:Int)(h1:z1=if s1 then -(m1:Int)else m1)(h2:z2=if s2 then -(m2:Int)else m2)
  (t1:m1=0->s1=false) (t2:m2=0->s2=false):(s1≠s2->qM z1.sign z2.sign=qM z1 z2)/\(s1=s2->qM m1 m2*(if z1.sign=0 then 1 else z1.sign)=qM z1 z2):=by
 have key:∀z:Int,(z<0/\z.sign= -1)\/(z=0/\z.sign=0)\/(0<z/\z.sign=1):=λz=>by
  rcases Int.lt_trichotomy z 0 with h|h|h
  ·exact .inl ⟨h,Int.sign_eq_neg_one_of_neg h⟩
  ·exact .inr (.inl ⟨h,by rw[h];rfl⟩)
  ·exact .inr (.inr ⟨h,Int.sign_eq_one_of_pos h⟩)
 have k1:=key z1;have k2:=key z2;generalize z1.sign=p at*;generalize z2.sign=q at*;constructor
 ·intro hs;simp only[qM];cases s1 <;> cases s2 <;> simp at hs h1 h2 t1 t2 <;>(repeat' split) <;> omega
 ·intro hs;subst hs;simp only[qM];cases s1 <;> simp at h1 h2 t1 t2 <;>(repeat' split) <;> omega
theorem Cmp_c(w:World)(s1 s2:Bool)(a1 a2:Option Addr)(n1 n2 c1 c2 k1 k2:Nat)(z1 z2:Int)(h1:IntAt w k1 s1 a1 n1 c1 z1)(h2:IntAt w k2 s2 a2 n2 c2 z2)(l1:k1<=268435456)(_l2:k2<=268435456):Calls Tryz.prog 150 #[.agg #[.bool s1,.slice a1 n1 c1],.agg #[.bool s2,.slice a2 n2 c2]] w (RVal w (.int .i64 (qM z1 z2))):=by
 obtain⟨W,hW,K0⟩:=kq20 w s1 s2 a1 a2 n1 n2 c1 c2;have b2:=hid (K0.bx w.heap.size s1 a1 n1 c1 (by simp));have b3:=hid (K0.bx (w.heap.size+1) s2 a2 n2 c2 (by simp));have E:=hid K0.ext;obtain⟨m1,g1,t1,e1⟩:=id h1;obtain⟨m2,g2,t2,e2⟩:=id h2;have HS:=hid (cmp_signs s1 s2 m1 m2 z1 z2 e1 e2 (λh=>t1 (g1.zero.1 h)) (λh=>t2 (g2.zero.1 h)));have h1:=h1.ext K0.ext;have h2:=h2.ext K0.ext;have g1:=g1.ext K0.ext;have g2:=g2.ext K0.ext;obtain⟨r,hr⟩:∃r,r=qM z1 z2:=⟨_,rfl⟩;rw[<-hr];have Hr:=hid hr;clear K0 e1 e2 t1 t2 hr;by_cases hs:s1=s2
 ·subst hs;go_enter Tryz.func150,Tryz.ntmps150;go_wp2_with fail;rw[<-hW];clear hW;have F1:=b2.out.c0;have F2:=b2.out.c1;have F3:=b2.out.f0;have F4:=b2.out.f1;have G1:=b3.out.c0;have G2:=b3.out.c1;have G3:=b3.out.f0;have G4:=b3.out.f1;go_wp2_with fail;clear F1 F2 F3 F4 G1 G2 G3 G4;obtain⟨c,hc⟩:∃c,c=qM m1 m2:=⟨_,rfl⟩;obtain⟨o,ho⟩:∃o,o=(if z1.sign=0 then 1 else z1.sign):=⟨_,rfl⟩;have Hc:=hid hc;have Ho:=hid ho
  have Hw:=hid (show IntKind.i64.wrap (c*o)=r by
   have h:=HS.out.2 (by simp);rw[<-hc,<-ho,<-Hr.out]at h;rw[h,Hr.out,qM]
   repeat' split
   all_goals decide)
  clear hc ho;refine qV 11 [some 15,some 16,some 17,some 18,some 19,some 20,some 21,some 22,some 23,some 24,some 4] [IsP (w.heap.size) 1,IsV (.slice a1 n1 c1),IsP (w.heap.size+1) 1,IsV (.slice a2 n2 c2),iV c,IsV (.agg #[.bool s1,.slice a1 n1 c1]),iV z1.sign,IsR2 W z1.sign 1,iV o,iV r,iV r] [] 0 za dcx za za za za za ?_ (λ_ h=>by cases h) ?_ ?_
  ·repeat' (first|exact trivial|exact IsV.stb _|exact IsR2.stb _ _ _|apply jO)
  ·refine RgAll.cons zb ?_;refine RgAll.cons (by{intro v w' hE hd;simp only[lxE,Nat.reduceAdd];have d0:v 0=.pointer (some ⟨w.heap.size,1,none⟩):=hd 0 za;have L0:=Bx.c0 (b2.out.ext hE);have L1:=Bx.c1 (b2.out.ext hE);rw[d0];intro K hK;go_simp;exact hK.out _ _ (Ext.refl _) rfl (FreshIf.no rfl)}) ?_;refine RgAll.cons zb ?_;refine RgAll.cons (by{intro v w' hE hd;simp only[lxE,Nat.reduceAdd];have d0:v 2=.pointer (some ⟨w.heap.size+1,1,none⟩):=hd 2 za;have L0:=Bx.c0 (b3.out.ext hE);have L1:=Bx.c1 (b3.out.ext hE);rw[d0];intro K hK;go_simp;exact hK.out _ _ (Ext.refl _) rfl (FreshIf.no rfl)}) ?_;refine RgAll.cons (by{intro v w' hE hd;simp only[lxE,Nat.reduceAdd];have d0:v 1=.slice a1 n1 c1:=hd 1 za;have d1:v 3=.slice a2 n2 c2:=hd 3 za;rw[d0,d1];intro K hK;go_simp;go_at_call 192;go_split_ands;(with_reducible refine jJ ((by have hh:=cmp_c w' a1 a2 n1 n2 c1 c2 k1 k2 m1 m2 (g1.ext hE) (g2.ext hE) (by omega);rw[<-Hc.out]at hh;exact hh)) ?_);rintro e w2 ⟨rfl,e2⟩;exact hK.out _ _ e2 rfl (FreshIf.no rfl)}) ?_;refine RgAll.cons zo ?_;refine RgAll.cons (by{intro v w' hE hd;simp only[lxE,Nat.reduceAdd];have d0:v 5=.agg #[.bool s1,.slice a1 n1 c1]:=hd 5 za;rw[d0];intro K hK;go_simp;go_at_call 127;go_split_ands;(with_reducible refine jJ (Sign_c _ s1 a1 n1 c1 k1 z1 (h1.ext hE)) ?_);rintro e w2 ⟨rfl,e2⟩;exact hK.out _ _ e2 rfl (FreshIf.no rfl)}) ?_;refine RgAll.cons (by{intro v w' hE hd;simp only[lxE,Nat.reduceAdd];have d0:v 6=.int .i64 z1.sign:=hd 6 za;rw[d0];intro K hK;go_simp;exact hK.out _ _ ((Ext.refl _).alloc _) ⟨_,rfl,hE.size,by simp,by simp,by simp⟩ (FreshIf.no rfl)}) ?_;refine RgAll.cons (by{intro v w' hE hd;simp only[lxE,Nat.reduceAdd];have d0:IsR2 W z1.sign 1 (v 7) w':=hd 7 za;obtain⟨g,d0,_,_,x0,x1⟩:=d0;rw[d0];intro K hK;go_simp;go_at_call 196;go_split_ands;(with_reducible refine jJ ((by have hh:=Or_c w' g z1.sign x0 x1;rw[<-Ho.out]at hh;exact hh)) ?_);rintro e w2 ⟨rfl,rfl⟩;exact hK.out _ _ (Ext.refl _) rfl (FreshIf.no rfl)}) ?_
   refine RgAll.cons (by{intro v w' hE hd;simp only[lxE,Nat.reduceAdd];have d0:v 4=.int .i64 c:=hd 4 za;have d1:v 8=.int .i64 o:=hd 8 za;have hw:=Hw.out;rw[d0,d1];intro K hK;go_simp;exact hK.out _ _ (Ext.refl _) rfl (FreshIf.no rfl)}) ?_;refine RgAll.cons (by{intro v w' hE hd;simp only[lxE,Nat.reduceAdd];have d0:v 9=.int .i64 r:=hd 9 za;rw[d0];intro K hK;go_simp;exact hK.out _ _ (Ext.refl _) rfl (FreshIf.no rfl)}) ?_;exact rn0
  intro v w1 e1 hZ _;have v5:v 10=.int .i64 r:=hZ 10 dcx;simp only[lxE,Nat.reduceAdd];rw[v5];refine jR za ?_ 0;go_wp2_with fail;exact jK (v:=.int .i64 r) (by simp[results,Tryz.results150,go_sem]) rfl ⟨rfl,E.out.trans e1⟩
 ·have hb:(s1==s2)=false:=by simpa using hs
  go_enter Tryz.func150,Tryz.ntmps150;go_wp2_with fail;rw[<-hW];clear hW;have F1:=b2.out.c0;have F2:=b2.out.c1;have F3:=b2.out.f0;have F4:=b2.out.f1;have G1:=b3.out.c0;have G2:=b3.out.c1;have G3:=b3.out.f0;have G4:=b3.out.f1;go_wp2_with fail;clear F1 F2 F3 F4 G1 G2 G3 G4 hb;refine qV 6 [some 10,some 11,some 12,some 13,some 14,some 4] [IsV (.agg #[.bool s1,.slice a1 n1 c1]),iV z1.sign,IsV (.agg #[.bool s2,.slice a2 n2 c2]),iV z2.sign,iV (qM z1.sign z2.sign),iV (qM z1.sign z2.sign)] [] 0 za dcx za za za za za ?_ (λ_ h=>by cases h) ?_ ?_
  ·repeat' (first|exact trivial|exact IsV.stb _|exact IsI.stb _ _|exact IsB.stb _|apply jO)
  ·refine RgAll.cons zo ?_;refine RgAll.cons (by{intro v w' hE hd;simp only[lxE,Nat.reduceAdd];have d0:v 0=.agg #[.bool s1,.slice a1 n1 c1]:=hd 0 za;rw[d0];intro K hK;go_simp;go_at_call 127;go_split_ands;(with_reducible refine jJ (Sign_c _ s1 a1 n1 c1 k1 z1 (h1.ext hE)) ?_);rintro e w2 ⟨rfl,e2⟩;exact hK.out _ _ e2 rfl (FreshIf.no rfl)}) ?_;refine RgAll.cons zn ?_;refine RgAll.cons (by{intro v w' hE hd;simp only[lxE,Nat.reduceAdd];have d0:v 2=.agg #[.bool s2,.slice a2 n2 c2]:=hd 2 za;rw[d0];intro K hK;go_simp;go_at_call 127;go_split_ands;(with_reducible refine jJ (Sign_c _ s2 a2 n2 c2 k2 z2 (h2.ext hE)) ?_);rintro e w2 ⟨rfl,e2⟩;exact hK.out _ _ e2 rfl (FreshIf.no rfl)}) ?_;refine RgAll.cons (by{intro v w' hE hd;simp only[lxE,Nat.reduceAdd];have d0:v 1=.int .i64 z1.sign:=hd 1 za;have d1:v 3=.int .i64 z2.sign:=hd 3 za;rw[d0,d1];intro K hK;go_simp;go_at_call 195;go_split_ands;(with_reducible refine jJ (compare_int_c _ _ _) ?_);rintro e w2 ⟨rfl,rfl⟩;exact hK.out _ _ (Ext.refl _) rfl (FreshIf.no rfl)}) ?_;refine RgAll.cons (by{intro v w' hE hd;simp only[lxE,Nat.reduceAdd];have d0:v 4=.int .i64 (qM z1.sign z2.sign):=hd 4 za;rw[d0];intro K hK;go_simp;exact hK.out _ _ (Ext.refl _) rfl (FreshIf.no rfl)}) ?_;exact rn0
  intro v w1 e1 hZ _;have v5:v 5=.int .i64 (qM z1.sign z2.sign):=hZ 5 dcx;simp only[lxE,Nat.reduceAdd];rw[v5];refine jR za ?_ 0;go_wp2_with fail;exact jK (v:=.int .i64 (qM z1.sign z2.sign)) (by simp[results,Tryz.results150,go_sem]) rfl ⟨by rw[Hr.out,HS.out.1 hs],E.out.trans e1⟩
end
end Go.Proofs.YtkeikfekkdplgaaGreatDoor
