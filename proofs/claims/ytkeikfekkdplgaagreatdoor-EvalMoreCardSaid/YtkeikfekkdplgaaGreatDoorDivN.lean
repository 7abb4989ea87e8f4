/- Lemmas. -/
import Derived.Test.YtkeikfekkdplgaaGreatDoorBase
import Derived.Test.YtkeikfekkdplgaaGreatDoorShelf
import Derived.Deep.LoopGhost
import Derived.Deep.DeepCutAuto
import Derived.Deep.CutBlock
import Derived.Deep.QuietTactic
import Derived.Deep.RegionHeld3
import Derived.BigQuiet
import Derived.WalkSpells
namespace Go.Proofs.YtkeikfekkdplgaaGreatDoor
section
open Go Go.RowKit
open Go.Proofs.Tryz
theorem xm{P:Prop}(h:P:=by rw[hx,hy];exact h):P:=h
set_option maxRecDepth 100000
set_option maxHeartbeats 1000000
def DivInv(w0:World)(g N d:Nat)(A:List Nat)(k r:Nat)(wr:World):Prop:=
  ∃ys,Own wr g ys/\ys.length=N/\(∀i,ys.getD i 0<4294967296)/\d*qD ys+r*4294967296^k+pv A k=qD A/\(∀i,i<k->ys.getD i 0=0)/\Ext w0 wr
theorem DivInv.start{w0 wr:World}{g n d:Nat}{A:List Nat}(h:Own wr g (List.replicate n 0))(he:Ext w0 wr)(hl:A.length=n):DivInv w0 g n d A n 0 wr:=
  ⟨_,h,by simp,λi=>by rw[getD_zeros];omega,by rw[natVal_zeros,xE A n (Nat.le_of_eq hl)];simp,λi _=>getD_zeros _ _,he⟩
theorem DivInv.fin{w0 wr:World}{g N d r:Nat}{A:List Nat}(h:DivInv w0 g N d A 0 r wr)(hN:N<=140737488355328)(hr:r<d):
    (∃ys,Wd wr (some ⟨g,0,none⟩) N N ys/\qD ys=qD A/d)/\r=qD A%d/\Ext w0 wr:=by
  obtain⟨ys,h1,h2,h3,h4,h5,h7⟩:=h;have hw:=h1.wd h3 N (Nat.le_of_eq h2) hN;rw[h2]at hw;simp only[pv,Nat.pow_zero,Nat.mul_one,Nat.add_zero]at h4;refine⟨⟨ys,hw,?_⟩,?_,h7⟩
  ·rw[<-h4,Nat.mul_add_div (by omega),Nat.div_eq_of_lt hr,Nat.add_zero]
  ·rw[<-h4,Nat.mul_add_mod,Nat.mod_eq_of_lt hr]
theorem DivInv.step{w0 wr:World}{g N d k r:Nat}{A:List Nat}(h:DivInv w0 g N d A (k+1) r wr)(hk:k<N)(hg:w0.heap.size<=g)(hr:r<d)(hA:A.getD k 0<4294967296):
    Ext w0 wr/\g<wr.heap.size/\
      ∀ w2,Ext wr w2->(∃o:Nat,w2.cell? ⟨g,k,none⟩=some (.int .u32 o))/\w2.frozen? ⟨g,k,none⟩=false/\
        DivInv w0 g N d A k ((r*4294967296+A.getD k 0)%d) (w2.setCell ⟨g,k,none⟩ (.int .u32 (((r*4294967296+A.getD k 0)/d:Nat):Int))):=by
  obtain⟨ys,h1,h2,h3,h4,h5,h7⟩:=h;refine⟨h7,h1.lt,λw2 e2=>⟨⟨_,(h1.ext e2).cell _ zb⟩,(h1.ext e2).free _,?_⟩⟩;have hq:(r*4294967296+A.getD k 0)/d<4294967296:=Nat.div_lt_of_lt_mul (by have:=Nat.mul_le_mul_right 4294967296 (show r+1<=d from hr);omega);refine⟨_,(h1.ext e2).set _ _,by simpa using h2,λj=>?_,?_,λj hj=>?_,(h7.trans e2).set hg _⟩
  · rw[getD_set _ _ _ _ (by omega)];split
    ·exact hq
    ·exact h3 j
  · have e:=natVal_set ys k ((r*4294967296+A.getD k 0)/d) zb
    rw[h5 k (by omega),Nat.mul_zero,Nat.add_zero]at e;rw[e];have e3:=Nat.div_add_mod (r*4294967296+A.getD k 0) d;rw[pv]at h4;generalize(r*4294967296+A.getD k 0)/d=q at*;generalize(r*4294967296+A.getD k 0)%d=t at*;have e4:4294967296^k*(d*q+t)=4294967296^k*(r*4294967296+A.getD k 0):=by rw[e3]
    rw[Nat.pow_succ]at h4
    grind
  ·rw[getD_set _ _ _ _ (by omega),if_neg (by omega)];exact h5 j zb
def RDivW(w0:World)(k m r:Nat)(e:Ending)(w':World):Prop:=
  ∃ao n cap,e=.returned (.tuple #[.slice ao n cap,.int .u32 (r:Nat)])/\Ext w0 w'/\NatAt w' k ao n cap m
theorem divw_wd(w:World)(a1:Option Addr)(n1 c1 d:Nat)(A:List Nat)(h1:Wd w a1 n1 c1 A)(s1:n1<=1073741824)(hd0:0<d)(hd:d<4294967296):
    Calls prog 236 #[.slice a1 n1 c1,.int .u32 d] w (RDivW w n1 (qD A/d) (qD A%d)):=by
  have HA:=hid h1.lt;have HlA:=hid h1.len;have HW1:=hid h1;have sh1:=h1.shape;clear h1;rcases sh1 with sh1| ⟨b1,off1,rfl,hb1⟩
  all_goals
    go_enter func236,ntmps236;go_wp2_with (at_make;refine wpl_make rfl _ _ _ rfl underlying240 _ _ n1 rfl rfl zb zb zb ?_;intro w1 e1 z1 o1)
    have I0:=hid (DivInv.start (d:=d) o1 e1 HlA.out);clear o1 e1 z1
    go_loopw [7,8] (λr i wr=>∃z:Int,∃rr:Nat,-1<=z/\z<n1/\rr<d/\i=.int .i64 z/\r=.int .u32 rr/\Hid (DivInv w w.heap.size n1 d A (z+1).toNat rr wr)) (λ_ i _=>(intOf i+1).toNat)
    case atStart=>exact⟨(n1:Int)-1,0,by omega,by omega,hd0,rfl,rfl,by rw[show((n1:Int)-1+1).toNat=n1 from by omega];exact I0⟩
    case round=>
      clear I0;obtain⟨z,r,hz1,hz2,hr,rfl,rfl,hinv⟩:=hrel;by_cases hz0:0<=z
      · obtain⟨j,rfl⟩:=Int.eq_ofNat_of_zero_le hz0
        first
          | (exfalso;omega)
          | (have hinv':DivInv w w.heap.size n1 d A (j+1) r wr:=hinv.out
             obtain⟨hext,hgl,hst⟩:=hinv'.step zb (jJ _) hr (HA.out j);have hcA:=(HW1.out.ext hext).cell j zb;have hxl:=HA.out j;have Hst:=hid hst;clear hst hinv hinv';generalize A.getD j 0=x at*;have hmod:=hid (jO (r*4294967296+x) hd0);go_wp2_with (go_at_call 250;refine(div32_c r x d hr hxl hd _).mono ?_;rintro e w2 ⟨rfl,he2⟩;obtain⟨⟨o,ho⟩,hf2,hst2⟩:=Hst.out w2 he2;have hst2:=hid hst2)
             go_roundw
             case rel=>exact⟨(j:Int)-1,_,by omega,by omega,hmod.out,rfl,rfl,by rw[show((j:Int)-1+1).toNat=j from by omega];exact hst2⟩
             case measure=>simp[intOf])
      · obtain rfl:z= -1:=by omega
        have hv:DivInv w w.heap.size n1 d A 0 r wr:=hinv.out;obtain⟨⟨zs,hz1,hz2⟩,hz4,hz3⟩:=hv.fin zb hr;have Hz2:=hid hz2;have Hz4:=hid hz4;clear hinv hv hz2 hz4;go_wp2_with (go_at_call 178;refine(trim_c _ _ _ _ _ hz1).mono ?_;rintro e w3 ⟨ao,n,cap,rfl,he,hn⟩)
        go_ret2
        exact⟨ao,n,cap,by rw[<-Hz4.out];rfl,hz3.trans he,Hz2.out▸hn⟩
theorem divw_c(w:World)(a1:Option Addr)(n1 c1 d k1 x:Nat)(h1:NatAt w k1 a1 n1 c1 x)(s1:k1<=1073741824)(hd0:0<d)(hd:d<4294967296):
    Calls prog 236 #[.slice a1 n1 c1,.int .u32 d] w (RDivW w k1 (x/d) (x%d)):=by
  obtain⟨xs,h1,l1,_,rfl⟩:=h1;refine(divw_wd w a1 n1 c1 d xs h1 zb hd0 hd).mono ?_;rintro e w' ⟨ao,n,cap,he,hx,hn⟩;exact⟨ao,n,cap,he,hx,hn.mono zb⟩
def bitLen(m:Nat):Nat:=if m=0 then 0 else m.log2+1
theorem bitLen_eq(x k:Nat)(h1:2^k<=x)(h2:x<2^(k+1)):bitLen x=k+1:=by
  have hp:0<2^k:=Nat.pos_of_ne_zero zd;have h0:x≠0:=zb
  have a:=(Nat.le_log2 h0).2 h1;have b:=(Nat.log2_lt h0).2 h2;simp[bitLen,h0];omega
theorem bitLen_bounds(x:Nat)(h:x≠0):∃k,bitLen x=k+1/\2^k<=x/\x<2^(k+1):=
  ⟨x.log2,by simp[bitLen,h],(Nat.le_log2 h).1 (jJ _),(Nat.log2_lt h).1 (Nat.lt_succ_self _)⟩
theorem lib_bitLen(x:Nat)(hx:x<4294967296):Lib.bitLen x=bitLen x/\bitLen x<=32:=by
  have e:Lib.bitLen x=bitLen x:=by
    rcases jH x with h|h
    ·subst h;rfl
    · obtain⟨a,b,c⟩:=Lib.bitLenAux_bounds 64 x zb zb
      obtain⟨k,hk⟩:∃k,Lib.bitLenAux 64 x=k+1:=⟨Lib.bitLenAux 64 x-1,by omega⟩;rw[hk]at b c;rw[bitLen_eq x k b c];exact hk
  exact⟨e,e▸Lib.bitLen_le x 32 zb hx⟩
theorem bitLen_natVal(xs:List Nat)(n:Nat)(hl:xs.length=n+1)(hx:∀i,xs.getD i 0<4294967296)(hz:xs.getD n 0≠0):bitLen (qD xs)=32*n+bitLen (xs.getD n 0):=by
  obtain⟨k,h1,h2,h3⟩:=bitLen_bounds _ hz;have e:=xE xs (n+1) (Nat.le_of_eq hl);have hp:=pv_lt xs hx n;rw[pv]at e;rw[h1,<-e,<-Nat.add_assoc];have eB:4294967296^n=2^(32*n):=by rw[Nat.pow_mul]
  have a1:4294967296^n*2^k<=4294967296^n*xs.getD n 0:=Nat.mul_le_mul_left _ h2;have a2:4294967296^n*(xs.getD n 0+1)<=4294967296^n*2^(k+1):=Nat.mul_le_mul_left _ h3;rw[Nat.mul_add,Nat.mul_one]at a2;apply bitLen_eq
  ·rw[Nat.pow_add,<-eB];omega
  ·rw[Nat.add_assoc,Nat.pow_add,<-eB];omega
theorem bits_c(w:World)(a1:Option Addr)(n1 c1 k1 x:Nat)(h1:NatAt w k1 a1 n1 c1 x)(s1:k1<=1073741824):
    Calls prog 221 #[.slice a1 n1 c1] w (RSame w (.int .i64 (bitLen x:Nat))):=by
  obtain⟨xs,h1,l1,hz,rfl⟩:=h1;have hlen:=h1.len;have hlt:=h1.lt;rcases jH n1 with h0|h0
  · have hv:bitLen (qD xs)=0:=by
      have:xs= []:=List.eq_nil_of_length_eq_zero zb;subst this;rfl
    rw[hv];subst h0;clear h1 hz hlen hlt hv;go_enter func221,ntmps221
    go_wp2
    go_ret
    exact⟨rfl,rfl⟩
  · obtain⟨m,rfl⟩:∃m,n1=m+1:=⟨n1-1,by omega⟩
    have hz:=hz zb;simp only[Nat.add_sub_cancel]at hz;have hv:=hid (bitLen_natVal xs m hlen hlt hz);rcases h1.shape with h| ⟨b,off,rfl,hb⟩
    ·omega
    have hc:=h1.cell m zb;have hx:=hlt m;clear h1 hlen hlt hz;generalize xs.getD m 0=x at*;obtain⟨hL,hbl⟩:=lib_bitLen x hx;go_enter func221,ntmps221;go_wp2_with (go_at_call 161;refine(Tryz.bits_Len32 _ _ zb zb).mono ?_;rintro e w' ⟨rfl,rfl⟩)
    go_ret
    exact RSame.mk' (by rw[hv.out];simp)
theorem guess_ge(q V W Nu lo P x0 first v1 v2 V0:Nat)(hq:q*(V*W)<=Nu)(hN:Nu=lo+W*P*(x0+4294967296*first))(hlo:lo<W*P)(hx0:x0<4294967296)
    (hV:V=V0+P*(v2+4294967296*v1)):q*v1<=first:=by
  apply Nat.le_of_not_lt;intro h;have h1:W*P*(4294967296*(first+1))<=W*P*(4294967296*(q*v1)):=Nat.mul_le_mul_left _ zb;have h2:W*P*(x0+4294967296*first+1)<=W*P*(4294967296*(first+1)):=Nat.mul_le_mul_left _ zb;have h3:q*(V*W)=W*(q*V0)+W*P*(q*v2)+W*P*(4294967296*(q*v1)):=by subst hV;grind
  have h4:W*P*(x0+4294967296*first+1)=W*P*(x0+4294967296*first)+W*P:=by rw[Nat.mul_add,Nat.mul_one]
  generalize W*P*(4294967296*(q*v1))=a1 at*;generalize W*P*(4294967296*(first+1))=a2 at*;generalize W*P*(x0+4294967296*first)=a3 at*;omega
theorem guess_dec(q g r V W Nu lo P x0 first v1 v2 V0:Nat)(hq:q*(V*W)<=Nu)(hN:Nu=lo+W*P*(x0+4294967296*first))(hlo:lo<W*P)
    (hV:V=V0+P*(v2+4294967296*v1)) (hqg:q<=g) (hg:g*v1+r=first) (ht:r*4294967296+x0<g*v2):q+1<=g:=by
  rcases jN q g with h|h
  ·exact h
  · exfalso
    obtain rfl:q=g:=zb
    have h1:q*(V*W)=W*(q*V0)+W*P*(q*v2+4294967296*(q*v1)):=by subst hV;grind
    have h2:x0+4294967296*first+1<=q*v2+4294967296*(q*v1):=by
      generalize q*v1=a at*;generalize q*v2=b at*;omega
    have h3:=Nat.mul_le_mul_left (W*P) h2;rw[Nat.mul_add _ _ 1,Nat.mul_one]at h3;generalize W*P*(q*v2+4294967296*(q*v1))=a1 at*;generalize W*P*(x0+4294967296*first)=a3 at*;omega
theorem digit_lt(q X Nu:Nat)(hq:q*X<=Nu)(hN:Nu<X*4294967296):q<4294967296:=by
  apply Nat.lt_of_not_le;intro h;have:=Nat.mul_le_mul_right X h;rw[Nat.mul_comm 4294967296]at this;omega
theorem guess_le(g r V W Nu lo P x0 first v1 v2 V0:Nat)(hN:Nu=lo+W*P*(x0+4294967296*first))(hV:V=V0+P*(v2+4294967296*v1))(hV0:V0<P)
    (hg:g*v1+r=first) (ht:g*v2<=r*4294967296+x0) (hgB:g<=4294967296) (hv1:0<v1):g*(V*W)<=Nu+V*W:=by
  have h1:g*(V*W)=W*(g*V0)+W*P*(g*v2+4294967296*(g*v1)):=by subst hV;grind
  have h2:g*v2+4294967296*(g*v1)<=x0+4294967296*first:=by
    generalize g*v1=a at*;generalize g*v2=b at*;omega
  have h3:=Nat.mul_le_mul_left (W*P) h2;have h4:W*(g*V0)<=W*(4294967296*P):=Nat.mul_le_mul_left _ (Nat.mul_le_mul hgB zb)
  have h5:W*(4294967296*P)<=V*W:=by
    rw[Nat.mul_comm V];apply Nat.mul_le_mul_left;rw[hV,Nat.mul_comm _ P];have:P*4294967296<=P*(v2+4294967296*v1):=Nat.mul_le_mul_left _ zb;omega
  generalize W*(g*V0)=a1 at*;generalize W*(4294967296*P)=a2 at*;generalize W*P*(g*v2+4294967296*(g*v1))=a3 at*;generalize W*P*(x0+4294967296*first)=a4 at*;omega
theorem first_le(V W Nu lo P x0 x1 x2 v1 v2 V0:Nat)(hN:Nu=lo+W*P*(x0+4294967296*(x2*4294967296+x1)))(hlt:Nu<V*W*4294967296)(hV:V=V0+P*(v2+4294967296*v1))(hV0:V0<P)
    (hv2:v2<4294967296):x2<=v1:=by
  apply Nat.le_of_not_lt;intro h
  have h1:V<P*(4294967296*(v1+1)):=by
    have:P*(v2+4294967296*v1+1)<=P*(4294967296*(v1+1)):=Nat.mul_le_mul_left _ zb;rw[Nat.mul_add _ _ 1,Nat.mul_one]at this;omega
  have h2:V*W*4294967296<=P*(4294967296*(v1+1))*W*4294967296:=Nat.mul_le_mul_right _ (Nat.mul_le_mul_right _ (Nat.le_of_lt h1));have h3:W*P*(4294967296*((v1+1)*4294967296))<=W*P*(x0+4294967296*(x2*4294967296+x1)):=Nat.mul_le_mul_left _ zb;have h4:P*(4294967296*(v1+1))*W*4294967296=W*P*(4294967296*((v1+1)*4294967296)):=by grind
  omega
theorem guess_small(g r first v1 x1 x2:Nat)(hg:g*v1+r=first)(hf:first=x2*4294967296+x1)(hx1:x1<4294967296)(hx2:x2<=v1)(hr:4294967296<=r):g<4294967296:=by
  apply Nat.lt_of_not_le;intro h;have h1:4294967296*v1<=g*v1:=Nat.mul_le_mul_right _ h;have h2:x2*4294967296<=v1*4294967296:=Nat.mul_le_mul_right _ hx2;omega
theorem guess_final(g q X Nu:Nat)(h1:g*X<=Nu+X)(h2:Nu<(q+1)*X):g<=q+1:=by
  apply Nat.le_of_not_lt;intro h;have:=Nat.mul_le_mul_right X (show q+2<=g by omega);rw[Nat.add_mul]at*;omega
theorem prod2_lt(g v:Nat)(hg:g<4294967296)(hv:v<4294967296):g*v<=18446744065119617025:=by
  have:=Nat.mul_le_mul (show g<=4294967295 by omega) (show v<=4294967295 by omega);omega
theorem pv_zero_above(xs:List Nat)(k:Nat)(h:∀i,k<=i->xs.getD i 0=0):pv xs k=qD xs:=by
  have key:∀m,pv xs (k+m)=pv xs k:=λm=>by
    induction m with
    |zero=>rfl
    |succ m ih=>rw[<-Nat.add_assoc,pv,ih,h (k+m) (by omega),Nat.mul_zero,Nat.add_zero]
  rw[<-key xs.length,xE xs _ (by omega)]
theorem zero_above(xs:List Nat)(k:Nat)(h:qD xs<4294967296^k):∀i,k<=i->xs.getD i 0=0:=by
  intro i hi;rcases jH (xs.getD i 0)with h0|h0
  ·exact h0
  · exfalso
    have hil:i<xs.length:=by
      rcases jN i xs.length with h1|h1
      ·exact h1
      ·rw[xT xs i h1]at h0;omega
    have e:=natVal_set xs i 0 hil;rw[Nat.mul_zero,Nat.add_zero]at e;have h1:4294967296^i*1<=4294967296^i*xs.getD i 0:=Nat.mul_le_mul_left _ h0;have h2:4294967296^k<=4294967296^i:=Nat.pow_le_pow_right zb hi;rw[Nat.mul_one]at h1;omega
def qJ(a b:Int):Int:=if a<b then -1 else if b<a then 1 else 0
theorem xV{a b:Int}(h:a<b):qJ a b= -1:=by simp[qJ,h]
theorem xX{a b:Int}(h:b<a):qJ a b=1:=by
  have:¬a<b:=zb
  simp[qJ,h,this]
theorem cmpI_eq{a b:Int}(h:a=b):qJ a b=0:=by subst h;simp[qJ]
theorem ret_int{k:IntKind}{a b:Int}(h:a=b):Ending.returned (.int k a)=.returned (.int k b):=by rw[h]
theorem compare_int_c(a b:Int)(w:World):Calls prog 195 #[.int .i64 a,.int .i64 b] w (RSame w (.int .i64 (qJ a b))):=by
  have hn:∀x:Int,(x !=x)=false:=λx=>by simp
  rcases Int.lt_trichotomy a b with h|h|h
  · rw[xV h]
    go_enter func195,ntmps195
    go_wp2
    go_ret
    exact⟨rfl,rfl⟩
  · rw[cmpI_eq h]
    subst h;go_enter func195,ntmps195
    go_wp2
    go_ret
    exact⟨rfl,rfl⟩
  · rw[xX h]
    have h':¬a<b:=zb
    go_enter func195,ntmps195
    go_wp2
    go_ret
    exact⟨rfl,rfl⟩
theorem compare_u32_c(a b:Int)(w:World):Calls prog 223 #[.int .u32 a,.int .u32 b] w (RSame w (.int .i64 (qJ a b))):=by
  have hn:∀x:Int,(x !=x)=false:=λx=>by simp
  rcases Int.lt_trichotomy a b with h|h|h
  · rw[xV h]
    go_enter func223,ntmps223
    go_wp2
    go_ret
    exact⟨rfl,rfl⟩
  · rw[cmpI_eq h]
    subst h;go_enter func223,ntmps223
    go_wp2
    go_ret
    exact⟨rfl,rfl⟩
  · rw[xX h]
    have h':¬a<b:=zb
    go_enter func223,ntmps223
    go_wp2
    go_ret
    exact⟨rfl,rfl⟩
theorem pv_lt_of(xs ys:List Nat)(hx:∀i,xs.getD i 0<4294967296)(k:Nat)(h:xs.getD k 0<ys.getD k 0):∀m,k<m->(∀i,k<i->xs.getD i 0=ys.getD i 0)->pv xs m<pv ys m:=by
  intro m
  induction m with
  |zero=>intro h;omega
  | succ m ih=>
    intro hm he;rw[pv,pv];rcases jN k m with h1|h1
    · have:=ih h1 he
      rw[he m h1];omega
    · obtain rfl:m=k:=by omega
      have h2:=pv_lt xs hx m;have h3:4294967296^m*(xs.getD m 0+1)<=4294967296^m*ys.getD m 0:=Nat.mul_le_mul_left _ h;rw[Nat.mul_add,Nat.mul_one]at h3;omega
def SameFrom(A B:List Nat)(k:Nat):Prop:=∀i,k<=i->A.getD i 0=B.getD i 0
theorem SameFrom.step{A B:List Nat}{k:Nat}(h:SameFrom A B (k+1))(he:A.getD k 0=B.getD k 0):SameFrom A B k:=λi hi=>by
  rcases jN k i with h1|h1
  ·exact h i h1
  · obtain rfl:i=k:=by omega
    exact he
theorem SameFrom.lt{A B:List Nat}{k n:Nat}(h:SameFrom A B (k+1))(hA:∀i,A.getD i 0<4294967296)(hk:k<n)(ha:A.length=n)(hb:B.length=n)(hlt:A.getD k 0<B.getD k 0):qD A<qD B:=by
  have:=pv_lt_of A B hA k hlt n hk (λi hi=>h i hi)
  rwa [xE A n (Nat.le_of_eq ha),xE B n (Nat.le_of_eq hb)]at this
theorem SameFrom.symm{A B:List Nat}{k:Nat}(h:SameFrom A B k):SameFrom B A k:=λi hi=>(h i hi).symm
theorem SameFrom.eq{A B:List Nat}{n:Nat}(h:SameFrom A B 0)(ha:A.length=n)(hb:B.length=n):qD A=qD B:=by
  have:=pv_congr (k:=n) (λi _=>h i (Nat.zero_le _))
  rwa [xE A n (Nat.le_of_eq ha),xE B n (Nat.le_of_eq hb)]at this
theorem cmp_same(w:World)(a1 a2:Option Addr)(n c1 c2:Nat)(A B:List Nat)(h1:Wd w a1 n c1 A)(h2:Wd w a2 n c2 B)(s1:n<=1073741824):
    Calls prog 192 #[.slice a1 n c1,.slice a2 n c2] w (RVal w (.int .i64 (qJ (qD A) (qD B)))):=by
  have HA:=hid h1.lt;have HB:=hid h2.lt;have HlA:=hid h1.len;have HlB:=hid h2.len;have HW1:=hid h1;have HW2:=hid h2;have sh1:=h1.shape;have sh2:=h2.shape;clear h1 h2;have h00:qJ (n:Int) (n:Int)=0:=cmpI_eq rfl;rcases sh1 with sh1| ⟨b1,off1,rfl,hb1⟩ <;> rcases sh2 with sh2| ⟨b2,off2,rfl,hb2⟩
  all_goals
    go_enter func192,ntmps192;go_wp2_with (go_at_call 195;refine(compare_int_c _ _ _).mono ?_;rintro e w' ⟨rfl,rfl⟩)
    clear h00
    go_loopw [6] (λi wr=>∃z:Int,-1<=z/\z<n/\i=.int .i64 z/\Hid (SameFrom A B (z+1).toNat)/\Ext w wr) (λi _=>(intOf i+1).toNat)
    case atStart=>exact⟨(n:Int)-1,by omega,by omega,rfl,λi hi=>by rw[xT _ _ (by rw[HlA.out];omega),xT _ _ (by rw[HlB.out];omega)],Ext.refl _⟩
    case round=>
      obtain⟨z,hz1,hz2,rfl,hsame,hext⟩:=hrel;by_cases hz0:0<=z
      · obtain ⟨j,rfl⟩:=Int.eq_ofNat_of_zero_le hz0
        first
          | (exfalso;omega)
          | (have c1:=(HW1.out.ext hext).cell j zb
             have c2:=(HW2.out.ext hext).cell j zb;have hsame':SameFrom A B (j+1):=hsame.out
             have HC:∀x y:Nat,A.getD j 0=x->B.getD j 0=y->(x<y->qD A<qD B)/\(y<x->qD B<qD A)/\(x=y->SameFrom A B j):=λx y hx hy=>
               ⟨λh=>hsame'.lt HA.out zb HlA.out HlB.out xm,λh=>hsame'.symm.lt HB.out zb HlB.out HlA.out xm,λh=>hsame'.step xm⟩
             have HC:=hid (HC _ _ rfl rfl);clear hsame hsame';generalize A.getD j 0=x at c1 HC;generalize B.getD j 0=y at c2 HC;go_wp2_with fail
             go_quiet ((go_at_call 223;exact quiet_same (compare_u32_c _ _ _)))
             rcases Nat.lt_trichotomy x y with h|h|h
             · have hv:qJ (x:Int) (y:Int)= -1:=xV zb
               rw[hv];have hg:=hid (HC.out.1 h);clear hv;go_wp2_with fail
               go_ret
               exact⟨ret_int (by rw[xV (by exact_mod_cast hg.out)]),hext.drewN _⟩
             · have hv:qJ (x:Int) (y:Int)=0:=cmpI_eq zb
               rw[hv];have hg:=hid (HC.out.2.2 h);clear hv h;go_wp2_with fail
               go_roundw
               case rel=>exact⟨(j:Int)-1,by omega,by omega,rfl,by rw[show((j:Int)-1+1).toNat=j from by omega];exact hg,hext.drewN _⟩
               case measure=>simp[intOf]
             · have hv:qJ (x:Int) (y:Int)=1:=xX zb
               rw[hv];have hg:=hid (HC.out.2.1 h);clear hv;go_wp2_with fail
               go_ret
               exact⟨ret_int (by rw[xX (by exact_mod_cast hg.out)]),hext.drewN _⟩)
      · obtain rfl:z= -1:=by omega
        have hv:SameFrom A B 0:=hsame.out;have hg:=hid (hv.eq HlA.out HlB.out);clear hv hsame;go_wp2_with fail
        go_ret
        exact⟨ret_int (cmpI_eq (congrArg (λn:Nat=>(n:Int)) hg.out)).symm,hext⟩
theorem tDivN_1{P:Prop}(h:P:=by
  clear hv h1 h2 e1 e2 z1 z2;go_enter func192,ntmps192;go_wp2_with (go_at_call 195;refine(compare_int_c _ _ _).mono ?_;rintro e w' ⟨rfl,rfl⟩)
  go_ret
  exact⟨rfl,Ext.refl _⟩
  ):P:=h
theorem cmp_c(w:World)(a1 a2:Option Addr)(n1 n2 c1 c2 k1 k2 x y:Nat)(h1:NatAt w k1 a1 n1 c1 x)(h2:NatAt w k2 a2 n2 c2 y)(s1:k1<=1073741824):
    Calls prog 192 #[.slice a1 n1 c1,.slice a2 n2 c2] w (RVal w (.int .i64 (qJ x y))):=by
  obtain⟨xs,h1,l1,z1,rfl⟩:=h1;obtain⟨ys,h2,l2,z2,rfl⟩:=h2;have e1:=h1.len;have e2:=h2.len;rcases Nat.lt_trichotomy n1 n2 with h|h|h
  · have hv:qD xs<qD ys:=by
      have a:=xM xs h1.lt;have b:=natVal_ge ys zb (by rw[e2];exact z2 zb);have c:4294967296^xs.length<=4294967296^(ys.length-1):=Nat.pow_le_pow_right zb zb;omega
    rw[xV (by exact_mod_cast hv)];have hc:qJ (n1:Int) (n2:Int)= -1:=xV zb;exact tDivN_1
  · subst h
    exact cmp_same w a1 a2 n1 c1 c2 xs ys h1 h2 zb
  · have hv:qD ys<qD xs:=by
      have a:=xM ys h2.lt;have b:=natVal_ge xs zb (by rw[e1];exact z1 zb);have c:4294967296^ys.length<=4294967296^(xs.length-1):=Nat.pow_le_pow_right zb zb;omega
    rw[xX (by exact_mod_cast hv)];have hc:qJ (n1:Int) (n2:Int)=1:=xX zb;exact tDivN_1


def RDiv(w0:World)(k1 k2 q r:Nat)(e:Ending)(w':World):Prop:=
  ∃ao n cap ao' n' cap',e=.returned (.tuple #[.slice ao n cap,.slice ao' n' cap'])/\Ext w0 w'/\NatAt w' k1 ao n cap q/\NatAt w' k2 ao' n' cap' r
theorem NatAt.lt{w:World}{k n cap m:Nat}{ao:Option Addr}(h:NatAt w k ao n cap m):m<4294967296^n:=by
  obtain⟨xs,h1,h2,h3,h4⟩:=h;have:=xM xs h1.lt;rw[h1.len,h4]at this;exact this
theorem NatAt.ge{w:World}{k n cap m:Nat}{ao:Option Addr}(h:NatAt w k ao n cap m)(hn:0<n):4294967296^(n-1)<=m:=by
  obtain⟨xs,h1,h2,h3,h4⟩:=h;have:=natVal_ge xs (by rw[h1.len];exact hn) (by rw[h1.len];exact h3 hn);rw[h1.len,h4]at this;exact this
theorem NatAt.tight{w:World}{k k' n cap m:Nat}{ao:Option Addr}(h:NatAt w k ao n cap m)(hm:m<4294967296^k'):NatAt w k' ao n cap m:=by
  have hn:n<=k':=by
    rcases jH n with h0|h0
    ·omega
    · have h1:=h.ge h0
      have:=(Nat.pow_lt_pow_iff_right (a:=4294967296) zb).1 (Nat.lt_of_le_of_lt h1 hm);omega
  obtain⟨xs,h1,h2,h3⟩:=h;exact⟨xs,h1,hn,h3⟩
theorem NatAt.zero{w:World}{k n cap m:Nat}{ao:Option Addr}(h:NatAt w k ao n cap m):m=0↔n=0:=by
  constructor
  · intro hm
    rcases jH n with h0|h0
    ·exact h0
    · have:=h.ge h0
      have:0<4294967296^(n-1):=Nat.pos_of_ne_zero zd;omega
  · intro hn
    have:=h.lt;rw[hn]at this;simpa using this
theorem div_small(w:World)(a1 a2:Option Addr)(n1 n2 c1 c2 k1 k2 x y:Nat)(h1:NatAt w k1 a1 n1 c1 x)(h2:NatAt w k2 a2 n2 c2 y)(s1:k1<=268435456)(hlt:x<y):
    Calls prog 227 #[.slice a1 n1 c1,.slice a2 n2 c2] w (RDiv w k1 k2 (x/y) (x%y)):=by
  have hc:=hid (cmp_c w a1 a2 n1 n2 c1 c2 k1 k2 x y h1 h2 zb);have hv:qJ (x:Int) (y:Int)= -1:=xV zb;have hy:=h2.lt;have hy':y<4294967296^k2:=Nat.lt_of_lt_of_le hy (Nat.pow_le_pow_right zb h2.le);have hr:=hid (h1.tight (Nat.lt_trans hlt hy'));rw[Nat.div_eq_of_lt hlt,Nat.mod_eq_of_lt hlt];rw[hv]at hc;clear h1 h2 hy hy' hv hlt;go_enter func227,ntmps227;go_wp2_with (go_at_call 192;refine(hc.out).mono ?_;rintro e w' ⟨rfl,he⟩)
  go_ret2
  exact⟨_,_,_,_,_,_,rfl,he,⟨[],wd_nil _ _ _ zb,by omega,by omega,rfl⟩,hr.out.ext he⟩
theorem div_word(w:World)(a1 a2:Option Addr)(n1 c1 c2 k1 k2 x y:Nat)(h1:NatAt w k1 a1 n1 c1 x)(h2:NatAt w k2 a2 1 c2 y)(s1:k1<=268435456)(hge:y<=x):
    Calls prog 227 #[.slice a1 n1 c1,.slice a2 1 c2] w (RDiv w k1 k2 (x/y) (x%y)):=by
  have hc:=hid (cmp_c w a1 a2 n1 1 c1 c2 k1 k2 x y h1 h2 zb)
  have hv:∃c:Int,qJ (x:Int) (y:Int)=c/\0<=c:=by
    rcases Nat.eq_or_lt_of_le hge with h|h
    ·exact⟨0,cmpI_eq zb,by omega⟩
    ·exact⟨1,xX zb,by omega⟩
  obtain⟨c,hv,hc0⟩:=hv;rw[hv]at hc;have hyl:=h2.lt;have hyp:=h2.ge zb;have hk2:=h2.le;simp only[Nat.pow_one,Nat.sub_self,Nat.pow_zero]at hyl hyp;obtain⟨ys,h2a,_,_,h2b⟩:=h2
  have hy0:ys.getD 0 0=y:=by
    have:=xE ys 1 (Nat.le_of_eq h2a.len);rw[h2b]at this
    simpa [pv]using this
  have hcell:∃b off,a2=some ⟨b,off,none⟩/\w.cell? ⟨b,off,none⟩=some (.int .u32 (y:Nat)):=by
    rcases h2a.shape with h| ⟨b,off,rfl,hb⟩
    ·omega
    ·exact⟨b,off,rfl,by have:=h2a.cell 0 zb;rw[hy0]at this;exact this⟩
  obtain⟨b,off,rfl,hcell⟩:=hcell;have H1:=hid h1;have hrl:x%y<4294967296:=Nat.lt_trans (jO _ hyp) hyl;clear h1 h2a h2b hy0 hv hge;go_enter func227,ntmps227
  go_wp2_with (first
    | (go_at_call 192;refine(hc.out).mono ?_;rintro e w' ⟨rfl,he⟩;have hcell:=he.cell hcell)
    | (go_at_call 236;refine(divw_c _ _ _ _ _ _ _ (H1.out.ext he) zb hyp hyl).mono ?_;rintro e w2 ⟨ao,n,cap,rfl,he2,hq⟩)
    | (go_at_call 178;refine(trim_c _ _ _ _ [x%y] (wd_new1 _ _ hrl)).mono ?_;rintro e w3 ⟨ao',n',cap',rfl,he3,hr⟩))
  go_ret2
  have he4:=(Ext.refl w2).alloc (.cells #[.int .u32 ((x%y:Nat):Int)] 145);simp only[qD,Nat.mul_zero,Nat.add_zero]at hr;exact⟨_,_,_,_,_,_,rfl,(he.trans he2).trans (he4.trans he3),hq.ext (he4.trans he3),hr.mono hk2⟩
structure Two (w1:World) (gu gq N M:Nat) (us qs:List Nat) (wr:World):Prop where
  ou:Own wr gu us
  oq:Own wr gq qs
  lu:us.length=N
  lq:qs.length=M
  wu:∀i,us.getD i 0<4294967296
  wq:∀i,qs.getD i 0<4294967296
  ne:gu≠gq
  hu:w1.heap.size<=gu
  hq:w1.heap.size<=gq
  ext:Ext w1 wr
def Gs(q g r v1 first:Nat):Prop:=q<=g/\g*v1+r=first
structure Digits (Nu V W q x2 x1 x0 v1 v2 T:Nat):Prop where
  start:Gs q ((x2*4294967296+x1)/v1) ((x2*4294967296+x1)%v1) v1 (x2*4294967296+x1)
  step:∀g r,Gs q g r v1 (x2*4294967296+x1)->(4294967296<=g\/r*4294967296+x0<g*v2)->1<=g/\Gs q (g-1) (r+v1) v1 (x2*4294967296+x1)
  exit:∀g r,Gs q g r v1 (x2*4294967296+x1)->((g<4294967296/\g*v2<=r*4294967296+x0)\/4294967296<=r)->g<4294967296/\q<=g/\g<=q+1
  bound:∀g r,Gs q g r v1 (x2*4294967296+x1)->g<=8589934592
  lo:q*(V*W)<=Nu
  hi:Nu<(q+1)*(V*W)
  lim:Nu<T
theorem digits(us vs:List Nat)(n2 j:Nat)(hn:2<=n2)(huw:∀i,us.getD i 0<4294967296)(hvw:∀i,vs.getD i 0<4294967296)(hvl:vs.length=n2)(htop:2147483648<=vs.getD (n2-1) 0)
    (hlt:qD us<qD vs*4294967296^(j+1)):
    Digits (qD us) (qD vs) (4294967296^j) (qD us/(qD vs*4294967296^j)) (us.getD (j+n2) 0) (us.getD (j+n2-1) 0) (us.getD (j+n2-2) 0) (vs.getD (n2-1) 0) (vs.getD (n2-2) 0) (4294967296^(j+n2+1)):=by
  obtain⟨m,rfl⟩:∃m,n2=m+2:=⟨n2-2,by omega⟩;rw[show j+(m+2)-1=j+m+1 from by omega,show j+(m+2)-2=j+m from by omega,show m+2-1=m+1 from by omega,show m+2-2=m from by omega,show j+(m+2)=j+m+1+1 from by omega]at*;have hVl:=xM vs hvw;rw[hvl]at hVl
  have hlim:qD us<4294967296^(j+m+1+1+1):=by
    have h1:qD vs*4294967296^(j+1)<=4294967296^(m+2)*4294967296^(j+1):=Nat.mul_le_mul_right _ (Nat.le_of_lt hVl);rw[<-Nat.pow_add,show m+2+(j+1)=j+m+1+1+1 from by omega]at h1;omega
  have eu:=pv_zero_above us (j+m+1+1+1) (zero_above us _ hlim);rw[pv,pv,pv]at eu;have ev:=xE vs (m+1+1) (Nat.le_of_eq hvl);rw[pv,pv]at ev;have hlo:=pv_lt us huw (j+m);have hV0:=pv_lt vs hvw m;have hx2:=huw (j+m+1+1);have hx1:=huw (j+m+1);have hx0:=huw (j+m);have hv2:=hvw m;have hv1:=hvw (m+1);rw[Nat.pow_add]at hlo;have hlt2:qD us<qD vs*4294967296^j*4294967296:=by rw[Nat.mul_assoc,<-Nat.pow_succ];exact hlt
  have hW:0<4294967296^j:=Nat.pos_of_ne_zero zd;simp only[Nat.pow_succ,Nat.pow_add]at eu ev;generalize us.getD (j+m+1+1) 0=x2 at*;generalize us.getD (j+m+1) 0=x1 at*;generalize us.getD (j+m) 0=x0 at*;generalize vs.getD (m+1) 0=v1 at*;generalize vs.getD m 0=v2 at*;generalize pv us (j+m)=lo at*;generalize pv vs m=V0 at*;generalize qD us=Nu at*;generalize qD vs=V at*;generalize 4294967296^j=W at*;generalize 4294967296^m=P at*;clear hVl hlt;have hN:Nu=lo+W*P*(x0+4294967296*(x2*4294967296+x1)):=by rw[<-eu];grind
  have hV:V=V0+P*(v2+4294967296*v1):=by rw[<-ev];grind
  clear eu ev;have hP:0<P:=zb
  have hVpos:0<V:=by
    have:P*1<=P*(v2+4294967296*v1):=Nat.mul_le_mul_left _ zb;omega
  have hX:0<V*W:=Nat.mul_pos hVpos hW;have hqlo:Nu/(V*W)*(V*W)<=Nu:=Nat.div_mul_le_self _ _
  have hqhi:Nu<(Nu/(V*W)+1)*(V*W):=by
    have:=Nat.div_add_mod Nu (V*W);have:=jO Nu hX;rw[Nat.add_mul,Nat.one_mul,Nat.mul_comm];omega
  have hqB:=digit_lt _ _ _ hqlo hlt2;have hx2v:=first_le V W Nu lo P x0 x1 x2 v1 v2 V0 hN hlt2 hV hV0 hv2;generalize Nu/(V*W)=q at*;have hv1p:0<v1:=zb
  refine⟨⟨?_,?_⟩,λg r hg ht=>?_,λg r hg ht=>?_,λg r hg=>?_,hqlo,hqhi,hlim⟩
  · rw[Nat.le_div_iff_mul_le hv1p]
    exact guess_ge q V W Nu lo P x0 _ v1 v2 V0 hqlo hN hlo hx0 hV
  ·rw[Nat.mul_comm];exact Nat.div_add_mod _ _
  · obtain⟨h1,h2⟩:=hg
    have h3:q+1<=g:=by
      rcases ht with ht|ht
      ·omega
      ·exact guess_dec q g r V W Nu lo P x0 _ v1 v2 V0 hqlo hN hlo hV h1 h2 ht
    obtain⟨g',rfl⟩:∃g',g=g'+1:=⟨g-1,by omega⟩;refine⟨by omega,by omega,?_⟩;rw[Nat.add_sub_cancel];rw[Nat.add_mul,Nat.one_mul]at h2;omega
  · obtain⟨h1,h2⟩:=hg
    have h3:g<4294967296:=by
      rcases ht with ht|ht
      ·exact ht.1
      ·exact guess_small g r _ v1 x1 x2 h2 rfl hx1 hx2v ht
    have h4:g*v2<=r*4294967296+x0:=by
      rcases ht with ht|ht
      ·exact ht.2
      · have:=prod2_lt g v2 h3 hv2
        omega
    exact⟨h3,h1,guess_final g q _ Nu (guess_le g r V W Nu lo P x0 _ v1 v2 V0 hN hV hV0 h2 h4 (Nat.le_of_lt h3) hv1p) hqhi⟩
  · obtain⟨h1,h2⟩:=hg
    apply Nat.le_of_not_lt;intro hh;have:=Nat.mul_le_mul (show 8589934593<=g from hh) htop;omega
theorem div_c(w:World)(a1 a2:Option Addr)(n1 n2 c1 c2 k1 k2 x y:Nat)(h1:NatAt w k1 a1 n1 c1 x)(h2:NatAt w k2 a2 n2 c2 y)(s1:k1<=268435456)(hy:0<y)(hy1:y<4294967296):
    Calls prog 227 #[.slice a1 n1 c1,.slice a2 n2 c2] w (RDiv w k1 k2 (x/y) (x%y)):=by
  rcases jN x y with h|h
  ·exact div_small w a1 a2 n1 n2 c1 c2 k1 k2 x y h1 h2 s1 h
  · have hn:n2≠0:=λh0=>by have:=(h2.zero).2 h0;omega
    rcases jN n2 2 with h3|h3
    · obtain rfl:n2=1:=by omega
      exact div_word w a1 a2 n1 c1 c2 k1 k2 x y h1 h2 s1 h
    ·exact absurd (jK (Nat.pow_le_pow_right (by decide:0<4294967296) (by omega:1<=n2-1)) (h2.ge zb)) zb
end
section
open Go Go.RowKit
open Go.Proofs.Tryz
theorem zf{P:Prop}(h:P:=by assumption):P:=h
theorem yk{P:Prop}(h:P:=by simpa using hj):P:=h
theorem zak{P:Prop}(h:P:=by simp;omega):P:=h
abbrev jG:=@beq_eq_false_iff_ne
abbrev jD:=@bodyPost_ret
abbrev jC:=@Calls.mono
set_option maxRecDepth 100000
set_option maxHeartbeats 1000000
theorem IntAt.mk{w:World}{k n cap m:Nat}{ao:Option Addr}(h:NatAt w k ao n cap m)(s:Bool)(h0:n≠0):IntAt w k s ao n cap (if s then -(m:Int)else m):=⟨m,h,λh=>absurd h h0,rfl⟩
theorem IntAt.zero{w:World}:IntAt w 0 false none 0 0 0:=⟨0,⟨[],wd_nil _ _ _ zb,by omega,by omega,rfl⟩,λ_=>rfl,rfl⟩
theorem NatAt.back{w0 w:World}{k n n' cap cap' m:Nat}{ao:Option Addr}{xs:List Nat}(h:NatAt w k ao n' cap' m)(h0:Wd w0 ao n cap xs)(e:Ext w0 w)(hn:n'<=n):NatAt w0 k ao n' cap' m:=by
 obtain⟨ys,a,b⟩:=h;refine⟨ys,⟨a.len,a.capo,a.big,a.lt,?_⟩,b⟩;rcases h0.at_ with h1| ⟨b1,off,h1,h2,h3⟩
 ·left;omega
 ·refine .inr ⟨b1,off,h1,h2,λj hj=>?_⟩;subst h1;have c1:=h3 j zb;have c2:=a.cell j hj;rw[e.cell c1]at c2;rw[c1,c2]
theorem of_c(w:World)(s:Bool)(ao:Option Addr)(n cap:Nat)(xs:List Nat)(z:Int)(h:Wd w ao n cap xs)(hz:z=if s then -(qD xs:Int)else qD xs):
  Calls prog 131 #[.bool s,.slice ao n cap] w (RInt w n z):=by
 have h1:=hid (trim_wd _ ao n cap xs (h.ext ((Ext.refl w).alloc (.cells #[.bool false,.slice none 0 0] 28))));have Hz:=hid hz;have Hh:=hid h;clear hz h;go_enter func131,ntmps131;go_wp2_with fail;refine(h1.out).mono ?_;rintro e w' ⟨n',rfl,rfl,hn⟩;clear h1;have hle:=hn.le;have hn:=hn.back Hh.out ((Ext.refl w).alloc _) hle;by_cases h0:n'=0
 ·have hm:=(hn.zero).2 h0;have hz0:z=0:=by rw[Hz.out,hm];cases s <;> rfl
  subst h0;go_wp2_with fail;refine jD (v:=.agg #[.bool false,.slice none 0 0]) (by simp[results,results131,go_sem]) rfl ?_;rw[hz0];exact⟨_,_,_,_,rfl,(Ext.refl w).alloc _,IntAt.zero.mono zb⟩
 ·have h0':((n':Int)==0)=false:=by rw[jG];omega
  have h00:=hid h0;clear h0;go_wp2_with fail;refine jD (v:=.agg #[.bool s,.slice ao n' cap]) (by simp[results,results131,go_sem]) rfl ?_;refine⟨_,_,_,_,rfl,(Ext.refl w).alloc _,?_⟩;rw[Hz.out];exact IntAt.mk (hn.ext ((Ext.refl w).alloc _)) s h00.out
def boxed(w:World)(s:Bool)(ao:Option Addr)(n cap:Nat):World:=w.alloc (.cells #[.bool s,.slice ao n cap] 28)
theorem boxed_ext(w:World)(s:Bool)(ao:Option Addr)(n cap:Nat):Ext w (boxed w s ao n cap):=(Ext.refl w).alloc _
theorem Sign_c(w:World)(s:Bool)(ao:Option Addr)(n cap k:Nat)(z:Int)(h:IntAt w k s ao n cap z):
  Calls prog 127 #[.agg #[.bool s,.slice ao n cap]] w (RVal w (.int .i64 z.sign)):=by
 obtain⟨m,hm,hs,hz⟩:=h;have hz0:=hm.zero;rcases jH n with h0|h0
 ·have:z.sign=0:=by
   rw[hz,hz0.2 h0];cases s <;> rfl
  rw[this];subst h0;clear hm hs hz hz0 this;go_enter func127,ntmps127
  go_wp2
  go_ret
  exact⟨rfl,(Ext.refl w).alloc _⟩
 ·have hm0:m≠0:=λh=>by have:=hz0.1 h;omega
  have h1:((n:Int)==0)=false:=by rw[jG];omega
  cases s
  ·have:z.sign=1:=by rw[hz];exact Int.sign_eq_one_of_pos zak
   rw[this];clear hm hs hz hz0 this hm0 h0;go_enter func127,ntmps127
   go_wp2
   go_ret
   exact⟨rfl,(Ext.refl w).alloc _⟩
  ·have:z.sign= -1:=by rw[hz];exact Int.sign_eq_neg_one_of_neg zak
   rw[this];clear hm hs hz hz0 this hm0 h0;go_enter func127,ntmps127
   go_wp2
   go_ret
   exact⟨rfl,(Ext.refl w).alloc _⟩
theorem Wd.set{w:World}{ao:Option Addr}{n cap:Nat}{xs:List Nat}(h:Wd w ao n cap xs)(p:Addr){u:Value}(hp:w.cell? p=some u)(hu:∀x,u≠ .int .u32 x)(v:Value):Wd (w.setCell p v) ao n cap xs:=by
 refine⟨h.len,h.capo,h.big,h.lt,h.at_.imp id λ⟨b,off,h1,h2,h3⟩=>⟨b,off,h1,by simpa [World.setCell]using h2,λj hj=>?_⟩⟩;have:=h3 j hj;rw[World.cell?_setCell_other]
 ·exact this
 ·intro he;rw[he,this]at hp;exact hu _ (Option.some.inj hp).symm
theorem NatAt.set{w:World}{k n cap m:Nat}{ao:Option Addr}(h:NatAt w k ao n cap m)(p:Addr){u:Value}(hp:w.cell? p=some u)(hu:∀x,u≠ .int .u32 x)(v:Value):NatAt (w.setCell p v) k ao n cap m:=
 let ⟨xs,h1,h2⟩:=h;⟨xs,h1.set p hp hu v,h2⟩
theorem IntAt.set{w:World}{k n cap:Nat}{s:Bool}{ao:Option Addr}{z:Int}(h:IntAt w k s ao n cap z)(p:Addr){u:Value}(hp:w.cell? p=some u)(hu:∀x,u≠ .int .u32 x)(v:Value):IntAt (w.setCell p v) k s ao n cap z:=
 let ⟨m,h1,h2⟩:=h;⟨m,h1.set p hp hu v,h2⟩
def Blk(w:World)(b:Nat)(s:Bool)(ao:Option Addr)(n cap:Nat):Prop:=w.heap[b]? =some (.cells #[.bool s,.slice ao n cap] 28 (0,0))
theorem Blk.lt{w:World}{b n cap:Nat}{s:Bool}{ao:Option Addr}(h:Blk w b s ao n cap):b<w.heap.size:=by
 rcases jN b w.heap.size with h1|h1
 ·exact h1
 ·unfold Blk at h;simp[Array.getElem?_eq_none h1]at h
theorem Blk.ext{w w':World}{b n cap:Nat}{s:Bool}{ao:Option Addr}(h:Blk w b s ao n cap)(e:Ext w w'):Blk w' b s ao n cap:=by
 have:=Below.block e b h.lt;unfold Blk at*;rw[this];exact h
theorem Blk.c0{w:World}{b n cap:Nat}{s:Bool}{ao:Option Addr}(h:Blk w b s ao n cap):w.cell? ⟨b,0,none⟩=some (.bool s):=by
 simp only[World.cell?];rw[h];simp
theorem Blk.c1{w:World}{b n cap:Nat}{s:Bool}{ao:Option Addr}(h:Blk w b s ao n cap):w.cell? ⟨b,1,none⟩=some (.slice ao n cap):=by
 simp only[World.cell?];rw[h];simp
theorem Blk.f{w:World}{b n cap:Nat}{s:Bool}{ao:Option Addr}(h:Blk w b s ao n cap)(i:Nat):w.frozen? ⟨b,i,none⟩=false:=by
 simp only[World.frozen?];rw[h];simp
theorem Blk.new(w:World)(s:Bool)(ao:Option Addr)(n cap:Nat):Blk (w.alloc (.cells #[.bool s,.slice ao n cap] 28)) w.heap.size s ao n cap:=by
 show(w.heap.push _)[w.heap.size]? =_;simp
def setBlk(w:World)(b:Nat)(s:Bool)(ao:Option Addr)(n cap:Nat):World:=(w.setCell ⟨b,0,none⟩ (.bool s)).setCell ⟨b,1,none⟩ (.slice ao n cap)
theorem IntAt.put{w:World}{k n cap b n1 cap1 n2 cap2:Nat}{s s1 s2:Bool}{ao a1 a2:Option Addr}{z:Int}(h:IntAt w k s ao n cap z)(hb:Blk w b s1 a1 n1 cap1):IntAt (setBlk w b s2 a2 n2 cap2) k s ao n cap z:=by
 refine(h.set ⟨b,0,none⟩ hb.c0 (λx=>by simp) _).set ⟨b,1,none⟩ (u:=.slice a1 n1 cap1) ?_ (λx=>by simp) _;rw[World.cell?_setCell_other]
 ·exact hb.c1
 ·simp
theorem Ext.put{a w:World}(h:Ext a w){b n cap:Nat}{s:Bool}{ao:Option Addr}(hb:a.heap.size<=b):Ext a (setBlk w b s ao n cap):=(h.set hb _).set hb _
theorem pro1(w:World)(s:Bool)(ao:Option Addr)(n cap:Nat):∃W,W=(w.alloc (.cells #[.bool s,.slice ao n cap] 28)).alloc (.cells #[.bool false,.slice none 0 0] 28)/\Ext w W/\
  Blk W w.heap.size s ao n cap/\Blk W (w.heap.size+1) false none 0 0:=by
 refine⟨_,rfl,((Ext.refl w).alloc _).alloc _,(Blk.new w s ao n cap).ext ((Ext.refl _).alloc _),?_⟩;have:=Blk.new (w.alloc (.cells #[.bool s,.slice ao n cap] 28)) false none 0 0
 simpa using this
theorem Abs_c(w:World)(s:Bool)(ao:Option Addr)(n cap k:Nat)(z:Int)(h:IntAt w k s ao n cap z):
  Calls prog 130 #[.agg #[.bool s,.slice ao n cap]] w (RInt w k z.natAbs):=by
 obtain⟨m,⟨xs,hw,hk,_,hm⟩,hs,hz⟩:=h;have hz':(z.natAbs:Int)=qD xs:=by rw[hz,hm];cases s <;> simp
 have Hw:=hid hw;have Hz:=hid hz';clear hw hz hz' hm;obtain⟨W,hW,e0,b0,b1⟩:=pro1 w s ao n cap;go_enter func130,ntmps130;go_wp2_with fail;refine jC (of_c _ false _ _ _ xs z.natAbs (hW▸Hw.out.ext e0) (by rw[Hz.out];simp)) ?_;rw[<-hW];clear hW;rintro e w1 ⟨s1,a1,n1,c1,rfl,e1,h1⟩;have b1:=b1.ext e1;have q0:=b1.c0;have q1:=b1.c1;have r0:=b1.f 0;have r1:=b1.f 1;have B1:=hid b1;clear b0 b1;go_wp2_with fail;refine jD (v:=.agg #[.bool s1,.slice a1 n1 c1]) (by simp[results,results130,go_sem,q0,q1]) rfl ?_;exact⟨_,_,_,_,rfl,(e0.trans e1).put (Nat.le_succ _),(h1.put B1.out).mono hk⟩
def NoWord(v:Value):Prop:=∀x,v≠ .int .u32 x
theorem NoWord.bool(b:Bool):NoWord (.bool b):=λx=>by simp
theorem NoWord.slice(a:Option Addr)(n c:Nat):NoWord (.slice a n c):=λx=>by simp
structure Kp (w w':World) (L:List (Nat×List Value)) (R:List (Nat×Nat)):Prop where
 ext:Ext w w'
 known:∀e∈L,∃t,w'.heap[w.heap.size+e.1]? =some (.cells e.2.toArray t (0,0))
 free:∀e∈R,∃(c:Array Value) (t:TypeId),c.size=e.2/\(∀(j:Nat) (v:Value),c[j]? =some v->NoWord v)/\w'.heap[w.heap.size+e.1]? =some (.cells c t (0,0))
theorem heap_lt{w:World}{b:Nat}{o:Obj}(h:w.heap[b]? =some o):b<w.heap.size:=by
 rcases jN b w.heap.size with h1|h1
 ·exact h1
 ·simp[Array.getElem?_eq_none h1]at h
theorem Ext.heap{w w':World}{b:Nat}{o:Obj}(e:Ext w w')(h:w.heap[b]? =some o):w'.heap[b]? =some o:=by
 rw[Below.block e b (heap_lt h)];exact h
theorem Kp.after{w w' w'':World}{L:List (Nat×List Value)}{R:List (Nat×Nat)}(h:Kp w w' L R)(e:Ext w' w''):Kp w w'' L R:=
 ⟨h.ext.trans e,λx hx=>let ⟨t,h1⟩:=h.known x hx;⟨t,e.heap h1⟩,λx hx=>let ⟨c,t,h1,h2,h3⟩:=h.free x hx;⟨c,t,h1,h2,e.heap h3⟩⟩
theorem Kp.drew{w w':World}{L:List (Nat×List Value)}{R:List (Nat×Nat)}(h:Kp w w' L R):Kp w w'.drew L R:=h.after (Ext.refl _).drew
theorem Kp.drewN{w w':World}{L:List (Nat×List Value)}{R:List (Nat×Nat)}(h:Kp w w' L R)(n:Nat):Kp w (w'.drewN n) L R:=h.after ((Ext.refl _).drewN n)
theorem Kp.cell{w w':World}{L:List (Nat×List Value)}{R:List (Nat×Nat)}(h:Kp w w' L R)(i j:Nat)(c:List Value)(v:Value)(hi:(i,c)∈L)(hj:c[j]? =some v):w'.cell? ⟨w.heap.size+i,j,none⟩=some v:=by
 obtain⟨t,h1⟩:=h.known _ hi;simp only[World.cell?];rw[h1];simpa using hj
theorem Kp.res{w w':World}{L:List (Nat×List Value)}{R:List (Nat×Nat)}(h:Kp w w' L R)(i n:Nat)(hi:(i,n)∈R)(j:Nat)(hj:j<n):
  (∃v,w'.cell? ⟨w.heap.size+i,j,none⟩=some v/\NoWord v)/\w'.frozen? ⟨w.heap.size+i,j,none⟩=false:=by
 obtain⟨c,t,h1,h2,h3⟩:=h.free _ hi;have hj':j<c.size:=zb
 refine⟨⟨c[j],?_,h2 j _ (by simp[hj'])⟩,?_⟩
 ·simp only[World.cell?];rw[h3];simp[hj']
 ·simp only[World.frozen?];rw[h3];simp
theorem Kp.set{w w':World}{L:List (Nat×List Value)}{R:List (Nat×Nat)}(h:Kp w w' L R)(i n j:Nat)(v:Value)(_hi:(i,n)∈R)(hv:NoWord v)(hL:∀e∈L,e.1≠i):
  Kp w (w'.setCell ⟨w.heap.size+i,j,none⟩ v) L R:=by
 refine⟨h.ext.set (Nat.le_add_right _ _) _,λx hx=>?_,λx hx=>?_⟩
 ·obtain⟨t,h1⟩:=h.known x hx;refine⟨t,?_⟩;rw[Below.heap_setCell _ _ _ _ (by have:=hL x hx;simp;omega)];exact h1
 ·obtain⟨c,t,h1,h2,h3⟩:=h.free x hx;by_cases hxi:x.1=i
  ·refine⟨c.setIfInBounds j v,t,by simpa using h1,λk u hk=>?_,?_⟩
   ·rw[Array.getElem?_setIfInBounds]at hk
    split at hk
    ·split at hk
     ·cases hk;exact hv
     ·cases hk
    ·exact h2 k u hk
   ·simp only[World.setCell,Array.getElem?_modify];rw[if_pos (by rw[hxi]),h3];simp
  ·refine⟨c,t,h1,h2,?_⟩;rw[Below.heap_setCell _ _ _ _ (by simp;omega)];exact h3
theorem Kp.put2{w w':World}{L:List (Nat×List Value)}{R:List (Nat×Nat)}(h:Kp w w' L R)(i:Nat)(hi:(i,2)∈R)(s:Bool)(a:Option Addr)(n c:Nat)(hL:∀e∈L,e.1≠i):
  Kp w ((w'.setCell ⟨w.heap.size+i,0,none⟩ (.bool s)).setCell ⟨w.heap.size+i,1,none⟩ (.slice a n c)) L R/\
   ∀k s1 a1 n1 c1 z,IntAt w' k s1 a1 n1 c1 z->IntAt ((w'.setCell ⟨w.heap.size+i,0,none⟩ (.bool s)).setCell ⟨w.heap.size+i,1,none⟩ (.slice a n c)) k s1 a1 n1 c1 z:=by
 have h1:=h.set i 2 0 (.bool s) hi (NoWord.bool s) hL;refine⟨h1.set i 2 1 _ hi (NoWord.slice a n c) hL,λk s1 a1 n1 c1 z hz=>?_⟩;obtain⟨⟨v,hv,hw⟩,_⟩:=h.res i 2 hi 0 zb;obtain⟨⟨v',hv',hw'⟩,_⟩:=h1.res i 2 hi 1 zb;exact(hz.set _ hv hw _).set _ hv' hw' _
theorem Kp.fin{w w':World}{L:List (Nat×List Value)}{R:List (Nat×Nat)}(h:Kp w w' L R)(i:Nat)(hi:(i,2)∈R){s:Bool}{a:Option Addr}{n c k:Nat}{z:Int}(hL:∀e∈L,e.1≠i)(hz:IntAt w' k s a n c z):
  RInt w k z (.returned (.agg #[.bool s,.slice a n c])) ((w'.setCell ⟨w.heap.size+i,0,none⟩ (.bool s)).setCell ⟨w.heap.size+i,1,none⟩ (.slice a n c)):=
 ⟨s,a,n,c,rfl,(h.put2 i hi s a n c hL).1.ext,(h.put2 i hi s a n c hL).2 _ _ _ _ _ _ hz⟩
theorem Kp.start(w:World):Kp w w [] []:=⟨Ext.refl w,(λ_ h=>by cases h),(λ_ h=>by cases h)⟩
theorem Kp.box{w w':World}{L:List (Nat×List Value)}{R:List (Nat×Nat)}(h:Kp w w' L R)(i:Nat)(hi:w'.heap.size=w.heap.size+i)(c:List Value)(t:TypeId):Kp w (w'.alloc (.cells c.toArray t)) ((i,c) ::L) R:=by
 have e:Ext w' (w'.alloc (.cells c.toArray t)):=(Ext.refl _).alloc _;refine⟨(h.after e).ext,λx hx=>?_,(h.after e).free⟩;rcases List.mem_cons.1 hx with rfl|hx
 ·refine⟨t,?_⟩;rw[<-hi];show(w'.heap.push _)[w'.heap.size]? =_;simp
 ·exact(h.after e).known x hx
theorem Kp.out{w w':World}{L:List (Nat×List Value)}{R:List (Nat×Nat)}(h:Kp w w' L R)(i:Nat)(hi:w'.heap.size=w.heap.size+i)(c:List Value)(t:TypeId)(hc:∀v∈c,NoWord v):Kp w (w'.alloc (.cells c.toArray t)) L ((i,c.length) ::R):=by
 have e:Ext w' (w'.alloc (.cells c.toArray t)):=(Ext.refl _).alloc _;refine⟨(h.after e).ext,(h.after e).known,λx hx=>?_⟩;rcases List.mem_cons.1 hx with rfl|hx
 ·refine⟨c.toArray,t,by simp,λj v hj=>hc v ?_,?_⟩
  ·exact List.mem_of_getElem? yk
  ·rw[<-hi];show(w'.heap.push _)[w'.heap.size]? =_;simp
 ·exact(h.after e).free x hx
theorem kp2(w:World)(s1 s2:Bool)(a1 a2:Option Addr)(n1 n2 c1 c2:Nat):
  ∃ W,W=((w.alloc (.cells #[.bool s1,.slice a1 n1 c1] 28)).alloc (.cells #[.bool s2,.slice a2 n2 c2] 28)).alloc (.cells #[.bool false,.slice none 0 0] 28)/\
   Kp w W [(1, [.bool s2,.slice a2 n2 c2]),(0, [.bool s1,.slice a1 n1 c1])] [(2,2)]:=by
 refine⟨_,rfl,?_⟩
 exact(((Kp.start w).box 0 rfl [.bool s1,.slice a1 n1 c1] 28).box 1 zd [.bool s2,.slice a2 n2 c2] 28).out 2 zd [.bool false,.slice none 0 0] 28 (by
  intro v hv;simp at hv;rcases hv with rfl|rfl
  ·exact NoWord.bool _
  ·exact NoWord.slice _ _ _)
theorem kp1(w:World)(s1:Bool)(a1:Option Addr)(n1 c1:Nat):
  ∃W,W=(w.alloc (.cells #[.bool s1,.slice a1 n1 c1] 28)).alloc (.cells #[.bool false,.slice none 0 0] 28)/\Kp w W [(0, [.bool s1,.slice a1 n1 c1])] [(1,2)]:=by
 refine⟨_,rfl,?_⟩
 exact((Kp.start w).box 0 rfl [.bool s1,.slice a1 n1 c1] 28).out 1 zd [.bool false,.slice none 0 0] 28 (by
  intro v hv;simp at hv;rcases hv with rfl|rfl
  ·exact NoWord.bool _
  ·exact NoWord.slice _ _ _)
structure Kq (w w':World) (L:List (Nat×List Value)):Prop where
 ext:Ext w w'
 known:∀e∈L,w.heap.size<=e.1/\∃t,w'.heap[e.1]? =some (.cells e.2.toArray t (0,0))
theorem Kq.after{w w' w'':World}{L:List (Nat×List Value)}(h:Kq w w' L)(e:Ext w' w''):Kq w w'' L:=
 ⟨h.ext.trans e,λx hx=>let ⟨h0,t,h1⟩:=h.known x hx;⟨h0,t,e.heap h1⟩⟩
theorem Kq.cell{w w':World}{L:List (Nat×List Value)}(h:Kq w w' L)(b j:Nat)(c:List Value)(v:Value)(hi:(b,c)∈L)(hj:c[j]? =some v):w'.cell? ⟨b,j,none⟩=some v:=by
 obtain⟨_,t,h1⟩:=h.known _ hi;simp only[World.cell?];rw[h1];simpa using hj
theorem Kq.free{w w':World}{L:List (Nat×List Value)}(h:Kq w w' L)(b j:Nat)(c:List Value)(hi:(b,c)∈L):w'.frozen? ⟨b,j,none⟩=false:=by
 obtain⟨_,t,h1⟩:=h.known _ hi;simp only[World.frozen?];rw[h1];simp
theorem Kq.start(w:World):Kq w w []:=⟨Ext.refl w,(λ_ h=>by cases h)⟩
theorem Kq.alloc{w w':World}{L:List (Nat×List Value)}(h:Kq w w' L)(c:List Value)(t:TypeId):Kq w (w'.alloc (.cells c.toArray t)) ((w'.heap.size,c) ::L):=by
 have e:Ext w' (w'.alloc (.cells c.toArray t)):=(Ext.refl _).alloc _;refine⟨(h.after e).ext,λx hx=>?_⟩;rcases List.mem_cons.1 hx with rfl|hx
 ·exact⟨h.ext.size,t,by show(w'.heap.push _)[w'.heap.size]? =_;simp⟩
 ·exact(h.after e).known x hx
theorem kq22(w:World)(s1 s2:Bool)(a1 a2:Option Addr)(n1 n2 c1 c2:Nat):
  ∃ W,W=(((w.alloc (.cells #[.bool s1,.slice a1 n1 c1] 28)).alloc (.cells #[.bool s2,.slice a2 n2 c2] 28)).alloc (.cells #[.bool false,.slice none 0 0] 28)).alloc (.cells #[.bool false,.slice none 0 0] 28)/\
   Kq w W [(w.heap.size+3, [.bool false,.slice none 0 0]),(w.heap.size+2, [.bool false,.slice none 0 0]),(w.heap.size+1, [.bool s2,.slice a2 n2 c2]),(w.heap.size, [.bool s1,.slice a1 n1 c1])]:=by
 refine⟨_,rfl,?_⟩;have:=((((Kq.start w).alloc [.bool s1,.slice a1 n1 c1] 28).alloc [.bool s2,.slice a2 n2 c2] 28).alloc [.bool false,.slice none 0 0] 28).alloc [.bool false,.slice none 0 0] 28
 simpa using this
theorem neg_mul_val(s1 s2:Bool)(m1 m2:Nat)(z1 z2:Int)(h1:z1=if s1 then -(m1:Int)else m1)(h2:z2=if s2 then -(m2:Int)else m2):z1*z2=if (!(s1==s2))then -((m1*m2:Nat):Int)else(m1*m2:Nat):=by
 subst h1 h2;cases s1 <;> cases s2 <;> simp <;> grind
theorem kc2(w:World)(s1 s2:Bool)(a1 a2:Option Addr)(n1 n2 c1 c2:Nat):∀w',Kp w w' [(1, [.bool s2,.slice a2 n2 c2]),(0, [.bool s1,.slice a1 n1 c1])] [(2,2)]->(λw'=>Kp w w' [(1, [.bool s2,.slice a2 n2 c2]),(0, [.bool s1,.slice a1 n1 c1])] [(2,2)]/\w'.cell? ⟨w.heap.size,0,none⟩=some (.bool s1)/\w'.cell? ⟨w.heap.size,1,none⟩=some (.slice a1 n1 c1)/\w'.cell? ⟨w.heap.size+1,0,none⟩=some (.bool s2)/\w'.cell? ⟨w.heap.size+1,1,none⟩=some (.slice a2 n2 c2)) w':=λw' h=>
  ⟨h,h.cell 0 0 [.bool s1,.slice a1 n1 c1] _ zd rfl,h.cell 0 1 [.bool s1,.slice a1 n1 c1] _ zd rfl,h.cell 1 0 [.bool s2,.slice a2 n2 c2] _ zd rfl,h.cell 1 1 [.bool s2,.slice a2 n2 c2] _ zd rfl⟩
theorem Mul_c(w:World)(s1 s2:Bool)(a1 a2:Option Addr)(n1 n2 c1 c2 k1 k2:Nat)(z1 z2:Int)(h1:IntAt w k1 s1 a1 n1 c1 z1)(h2:IntAt w k2 s2 a2 n2 c2 z2)(l1:k1<=268435456)(l2:k2<=268435456):
  Calls prog 129 #[.agg #[.bool s1,.slice a1 n1 c1],.agg #[.bool s2,.slice a2 n2 c2]] w (RInt w (k1+k2) (z1*z2)):=by
 obtain⟨m1,h1,_,hz1⟩:=h1;obtain⟨m2,h2,_,hz2⟩:=h2;obtain⟨W,hW,K0⟩:=kp2 w s1 s2 a1 a2 n1 n2 c1 c2;have Hz:=hid (neg_mul_val s1 s2 m1 m2 z1 z2 hz1 hz2);clear hz1 hz2;have KC:=hid (kc2 w s1 s2 a1 a2 n1 n2 c1 c2);go_enter func129,ntmps129;go_wp2_with fail;rw[<-hW];clear hW
 go_region_held3 (λw'=>Kp w w' [(1, [.bool s2,.slice a2 n2 c2]),(0, [.bool s1,.slice a1 n1 c1])] [(2,2)]/\w'.cell? ⟨w.heap.size,0,none⟩=some (.bool s1)/\w'.cell? ⟨w.heap.size,1,none⟩=some (.slice a1 n1 c1)/\w'.cell? ⟨w.heap.size+1,0,none⟩=some (.bool s2)/\w'.cell? ⟨w.heap.size+1,1,none⟩=some (.slice a2 n2 c2)) ((go_split_ands;refine KC.out _ ?_;first|assumption|exact Kp.drew zf|exact Kp.drew (Kp.drewN zf _)|exact Kp.after zf zf|exact(Kp.put2 zf 2 zd _ _ _ _ zd).1))
  (first
   | (go_at_call 177;go_must (go_split_ands;(with_reducible refine jC (mul_c _ _ _ _ _ _ _ k1 k2 m1 m2 ?_ ?_ zb zb) ?_);exact h1.ext (Kp.ext zf);exact h2.ext (Kp.ext zf);rintro e w1 ⟨ao,n,cap,rfl,e1,hm⟩;obtain⟨xs,hm,hk,_,hv⟩:=hm;have Hv:=hid hv;clear hv))
   | (go_at_call 131;go_must (go_split_ands;(with_reducible refine jC (of_c _ _ _ _ _ xs (z1*z2) hm ?_) ?_);rw[Hv.out];exact Hz.out;rintro e w2 ⟨s3,a3,n3,c3,rfl,e2,h3⟩;have KF:=Kp.after zf e2;obtain⟨⟨_,r0,_⟩,f0⟩:=Kp.res KF 2 2 zd 0 zb;obtain⟨⟨_,r1,_⟩,f1⟩:=Kp.res KF 2 2 zd 1 zb)))
 have h3:=h3.mono hk;go_wp2_with fail;refine jD (v:=.agg #[.bool s3,.slice a3 n3 c3]) (by simp[results,results129,go_sem,r0,r1]) rfl (Kp.fin KF 2 zd zd h3)
theorem Neg_c(w:World)(s1:Bool)(a1:Option Addr)(n1 c1 k1:Nat)(z1:Int)(h1:IntAt w k1 s1 a1 n1 c1 z1):Calls prog 194 #[.agg #[.bool s1,.slice a1 n1 c1]] w (RInt w k1 (-z1)):=by
 obtain⟨m,⟨xs,hw,hk,_,hm⟩,hs,hz⟩:=h1;have hz': -z1=if (!s1)then -(qD xs:Int)else qD xs:=by rw[hz,hm];cases s1 <;> simp
 have Hz:=hid hz';clear hz hz' hm hs;obtain⟨W,hW,K0⟩:=kp1 w s1 a1 n1 c1;have q0:=K0.cell 0 0 [.bool s1,.slice a1 n1 c1] _ zd rfl;have q1:=K0.cell 0 1 [.bool s1,.slice a1 n1 c1] _ zd rfl;have hnot:∀(x:Bool) (w:World),(Op.unary .not (.bool x)).run prog w=.ok (.bool (!x)) w:=λ_ _=>rfl
 go_enter func194,ntmps194;go_wp2_with fail;rw[<-hW];refine jC (of_c _ (!s1) _ _ _ xs (-z1) (hw.ext K0.ext) Hz.out) ?_;clear hW;rintro e w1 ⟨s3,a3,n3,c3,rfl,e1,h3⟩;have KF:=K0.after e1;obtain⟨⟨_,r0,_⟩,f0⟩:=Kp.res KF 1 2 zd 0 zb;obtain⟨⟨_,r1,_⟩,f1⟩:=Kp.res KF 1 2 zd 1 zb;have h3:=h3.mono hk;clear q0 q1 hnot;go_wp2_with fail;refine jD (v:=.agg #[.bool s3,.slice a3 n3 c3]) (by simp[results,results194,go_sem,r0,r1]) rfl (Kp.fin KF 1 zd zd h3)
theorem Bits_c(w:World)(s1:Bool)(a1:Option Addr)(n1 c1 k1:Nat)(z1:Int)(h1:IntAt w k1 s1 a1 n1 c1 z1)(l1:k1<=268435456):Calls prog 190 #[.agg #[.bool s1,.slice a1 n1 c1]] w (RVal w (.int .i64 (bitLen z1.natAbs:Nat))):=by
 obtain⟨m,hm,hs,hz⟩:=h1;have hz':bitLen z1.natAbs=bitLen m:=by rw[hz];cases s1 <;> simp
 have H:=hid (bits_c (boxed w s1 a1 n1 c1) a1 n1 c1 k1 m (hm.ext (boxed_ext w s1 a1 n1 c1)) zb);rw[hz'];clear hm hs hz hz';go_enter func190,ntmps190;go_wp2_with fail;refine H.out.mono ?_;rintro e w1 ⟨rfl,rfl⟩;go_wp2_with fail
 go_ret
 exact⟨rfl,boxed_ext w s1 a1 n1 c1⟩
end
end Go.Proofs.YtkeikfekkdplgaaGreatDoor
