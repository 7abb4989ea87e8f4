/-
  A natural divided by a word, and the bits of a natural, in package integer. At most 2^30 words. Plain laws on long division, digit by digit: the guess of a digit from the first digits is right or one too great. No program.
  cmp.Compare at int and uint32; the comparison of two naturals in package integer. At most 2^30 words each. A natural times a power of 2, in package integer. At most 2^29 words, a power of at most 2^30. A natural divided by a power of 2 less than 2^32, in package integer. At most 2^30 words.
  Long division of naturals in package integer. At most 2^28 words each, the divisor not 0. What the loops of long division keep in memory. No program beyond the type of a word.
  Plain laws that the walk of long division uses: the shifted divisor, the digits of one round, the state behind a round. Long division of naturals in package integer: the general case, a divisor of two words or more. At most 2^28 words each.
  Integers of package integer: of, Neg, Abs, Sign, Bits. Every integer of at most 2^28 words. Integers of package integer: Neg, Abs, Bits, Add, Mul. Every integer of at most 2^28 words. What a function's own boxes (parameters and results that lie in memory) keep while it calls others. No condition. Boxes of a function's own, by their numbers, each with what it holds. No condition. Integers of package integer: Neg, Bits, Mul, Add, Sub. Every integer of at most 2^28 words.
-/
import Derived.Test.YtenhciieboegbaaGreatDoorBase
import Derived.Test.YtenhciieboegbaaGreatDoorAdd
import Derived.Test.YtenhciieboegbaaGreatDoorShelf
import Derived.Deep.LoopGhost
import Derived.Deep.DeepCutAuto
import Derived.Deep.CutBlock
import Derived.Deep.QuietTactic
import Derived.Deep.RegionHeld3
import Derived.BigQuiet
import Derived.WalkSpells
namespace Go.Proofs.YtenhciieboegbaaGreatDoor
open Go Go.RowKit
open Go.Proofs.Tryz
theorem ja{P:Prop}(h:P:=by simpa using hj):P:=h
abbrev zJ:=@beq_eq_false_iff_ne
abbrev zH:=@bodyPost_ret
set_option maxRecDepth 100000
set_option maxHeartbeats 1000000
def DivInv(w0:World)(g N d:Nat)(A:List Nat)(k r:Nat)(wr:World):Prop:=
  ∃ys,Own wr g ys/\ys.length=N/\(∀i,ys.getD i 0<4294967296)/\d*qF ys+r*4294967296^k+pv A k=qF A/\(∀i,i<k->ys.getD i 0=0)/\Ext w0 wr
theorem DivInv.start{w0 wr:World}{g n d:Nat}{A:List Nat}(h:Own wr g (List.replicate n 0))(he:Ext w0 wr)(hl:A.length=n):DivInv w0 g n d A n 0 wr:=
  ⟨_,h,by simp,λi=>by rw[getD_zeros];omega,by rw[natVal_zeros,zA A n (Nat.le_of_eq hl)];simp,λi _=>getD_zeros _ _,he⟩
theorem DivInv.fin{w0 wr:World}{g N d r:Nat}{A:List Nat}(h:DivInv w0 g N d A 0 r wr)(hN:N<=140737488355328)(hr:r<d):
    (∃ys,Wd wr (some ⟨g,0,none⟩) N N ys/\qF ys=qF A/d)/\r=qF A%d/\Ext w0 wr:=by
  obtain⟨ys,h1,h2,h3,h4,h5,h7⟩:=h;have hw:=h1.wd h3 N (Nat.le_of_eq h2) hN;rw[h2]at hw;simp only[pv,Nat.pow_zero,Nat.mul_one,Nat.add_zero]at h4;refine⟨⟨ys,hw,?_⟩,?_,h7⟩
  ·rw[<-h4,Nat.mul_add_div (by omega),Nat.div_eq_of_lt hr,Nat.add_zero]
  ·rw[<-h4,Nat.mul_add_mod,Nat.mod_eq_of_lt hr]
theorem DivInv.step{w0 wr:World}{g N d k r:Nat}{A:List Nat}(h:DivInv w0 g N d A (k+1) r wr)(hk:k<N)(hg:w0.heap.size<=g)(hr:r<d)(hA:A.getD k 0<4294967296):
    Ext w0 wr/\g<wr.heap.size/\
      ∀ w2,Ext wr w2->(∃o:Nat,w2.cell? ⟨g,k,none⟩=some (.int .u32 o))/\w2.frozen? ⟨g,k,none⟩=false/\
        DivInv w0 g N d A k ((r*4294967296+A.getD k 0)%d) (w2.setCell ⟨g,k,none⟩ (.int .u32 (((r*4294967296+A.getD k 0)/d:Nat):Int))):=by
  obtain⟨ys,h1,h2,h3,h4,h5,h7⟩:=h;refine⟨h7,h1.lt,λw2 e2=>⟨⟨_,(h1.ext e2).cell _ ze⟩,(h1.ext e2).free _,?_⟩⟩;have hq:(r*4294967296+A.getD k 0)/d<4294967296:=Nat.div_lt_of_lt_mul (by have:=Nat.mul_le_mul_right 4294967296 (show r+1<=d from hr);omega);refine⟨_,(h1.ext e2).set _ _,by simpa using h2,λj=>?_,?_,λj hj=>?_,(h7.trans e2).set hg _⟩
  · rw[jH _ _ _ _ (by omega)];split
    ·exact hq
    ·exact h3 j
  · have e:=natVal_set ys k ((r*4294967296+A.getD k 0)/d) ze
    rw[h5 k (by omega),Nat.mul_zero,Nat.add_zero]at e;rw[e];have e3:=Nat.div_add_mod (r*4294967296+A.getD k 0) d;rw[pv]at h4;generalize(r*4294967296+A.getD k 0)/d=q at*;generalize(r*4294967296+A.getD k 0)%d=t at*;have e4:4294967296^k*(d*q+t)=4294967296^k*(r*4294967296+A.getD k 0):=by rw[e3]
    rw[Nat.pow_succ]at h4
    grind
  ·rw[jH _ _ _ _ (by omega),if_neg (by omega)];exact h5 j ze
def RDivW(w0:World)(k m r:Nat)(e:Ending)(w':World):Prop:=
  ∃ao n cap,e=.returned (.tuple #[.slice ao n cap,.int .u32 (r:Nat)])/\Ext w0 w'/\NatAt w' k ao n cap m
theorem divw_wd(w:World)(a1:Option Addr)(n1 c1 d:Nat)(A:List Nat)(h1:Wd w a1 n1 c1 A)(s1:n1<=1073741824)(hd0:0<d)(hd:d<4294967296):
    Calls prog 130 #[.slice a1 n1 c1,.int .u32 d] w (RDivW w n1 (qF A/d) (qF A%d)):=by
  have HA:=hid h1.lt;have HlA:=hid h1.len;have HW1:=hid h1;have sh1:=h1.shape;clear h1;rcases sh1 with sh1| ⟨b1,off1,rfl,hb1⟩
  all_goals
    go_enter func130,ntmps130;go_wp2_with (at_make;refine wpl_make rfl _ _ _ rfl underlying165 _ _ n1 rfl rfl ze ze ze ?_;intro w1 e1 z1 o1)
    have I0:=hid (DivInv.start (d:=d) o1 e1 HlA.out);clear o1 e1 z1
    go_loopw [7,8] (λr i wr=>∃z:Int,∃rr:Nat,-1<=z/\z<n1/\rr<d/\i=.int .i64 z/\r=.int .u32 rr/\Hid (DivInv w w.heap.size n1 d A (z+1).toNat rr wr)) (λ_ i _=>(intOf i+1).toNat)
    case atStart=>exact⟨(n1:Int)-1,0,by omega,by omega,hd0,rfl,rfl,by rw[show((n1:Int)-1+1).toNat=n1 from by omega];exact I0⟩
    case round=>
      clear I0;obtain⟨z,r,hz1,hz2,hr,rfl,rfl,hinv⟩:=hrel;by_cases hz0:0<=z
      · obtain⟨j,rfl⟩:=Int.eq_ofNat_of_zero_le hz0
        first
          | (exfalso;omega)
          | (have hinv':DivInv w w.heap.size n1 d A (j+1) r wr:=hinv.out
             obtain⟨hext,hgl,hst⟩:=hinv'.step ze (zN _) hr (HA.out j);have hcA:=(HW1.out.ext hext).cell j ze;have hxl:=HA.out j;have Hst:=hid hst;clear hst hinv hinv';generalize A.getD j 0=x at*;have hmod:=hid (Nat.mod_lt (r*4294967296+x) hd0);go_wp2_with (go_at_call 161;refine(div32_c r x d hr hxl hd _).mono ?_;rintro e w2 ⟨rfl,he2⟩;obtain⟨⟨o,ho⟩,hf2,hst2⟩:=Hst.out w2 he2;have hst2:=hid hst2)
             go_roundw
             case rel=>exact⟨(j:Int)-1,_,by omega,by omega,hmod.out,rfl,rfl,by rw[show((j:Int)-1+1).toNat=j from by omega];exact hst2⟩
             case measure=>simp[intOf])
      · obtain rfl:z= -1:=by omega
        have hv:DivInv w w.heap.size n1 d A 0 r wr:=hinv.out;obtain⟨⟨zs,hz1,hz2⟩,hz4,hz3⟩:=hv.fin ze hr;have Hz2:=hid hz2;have Hz4:=hid hz4;clear hinv hv hz2 hz4;go_wp2_with (go_at_call 162;refine(trim_c _ _ _ _ _ hz1).mono ?_;rintro e w3 ⟨ao,n,cap,rfl,he,hn⟩)
        go_ret2
        exact⟨ao,n,cap,by rw[<-Hz4.out];rfl,hz3.trans he,Hz2.out▸hn⟩
theorem divw_c(w:World)(a1:Option Addr)(n1 c1 d k1 x:Nat)(h1:NatAt w k1 a1 n1 c1 x)(s1:k1<=1073741824)(hd0:0<d)(hd:d<4294967296):
    Calls prog 130 #[.slice a1 n1 c1,.int .u32 d] w (RDivW w k1 (x/d) (x%d)):=by
  obtain⟨xs,h1,l1,_,rfl⟩:=h1;refine(divw_wd w a1 n1 c1 d xs h1 ze hd0 hd).mono ?_;rintro e w' ⟨ao,n,cap,he,hx,hn⟩;exact⟨ao,n,cap,he,hx,hn.mono ze⟩
def bitLen(m:Nat):Nat:=if m=0 then 0 else m.log2+1
theorem bitLen_eq(x k:Nat)(h1:2^k<=x)(h2:x<2^(k+1)):bitLen x=k+1:=by
  have hp:0<2^k:=Nat.pos_of_ne_zero zo;have h0:x≠0:=ze
  have a:=(Nat.le_log2 h0).2 h1;have b:=(Nat.log2_lt h0).2 h2;simp[bitLen,h0];omega
theorem bitLen_bounds(x:Nat)(h:x≠0):∃k,bitLen x=k+1/\2^k<=x/\x<2^(k+1):=
  ⟨x.log2,by simp[bitLen,h],(Nat.le_log2 h).1 (zN _),(Nat.log2_lt h).1 (Nat.lt_succ_self _)⟩
theorem lib_bitLen(x:Nat)(hx:x<4294967296):Lib.bitLen x=bitLen x/\bitLen x<=32:=by
  have e:Lib.bitLen x=bitLen x:=by
    rcases zK x with h|h
    ·subst h;rfl
    · obtain⟨a,b,c⟩:=Lib.bitLenAux_bounds 64 x ze ze
      obtain⟨k,hk⟩:∃k,Lib.bitLenAux 64 x=k+1:=⟨Lib.bitLenAux 64 x-1,by omega⟩;rw[hk]at b c;rw[bitLen_eq x k b c];exact hk
  exact⟨e,e▸Lib.bitLen_le x 32 ze hx⟩
theorem bitLen_natVal(xs:List Nat)(n:Nat)(hl:xs.length=n+1)(hx:∀i,xs.getD i 0<4294967296)(hz:xs.getD n 0≠0):bitLen (qF xs)=32*n+bitLen (xs.getD n 0):=by
  obtain⟨k,h1,h2,h3⟩:=bitLen_bounds _ hz;have e:=zA xs (n+1) (Nat.le_of_eq hl);have hp:=pv_lt xs hx n;rw[pv]at e;rw[h1,<-e,<-Nat.add_assoc];have eB:4294967296^n=2^(32*n):=by rw[Nat.pow_mul]
  have a1:4294967296^n*2^k<=4294967296^n*xs.getD n 0:=Nat.mul_le_mul_left _ h2;have a2:4294967296^n*(xs.getD n 0+1)<=4294967296^n*2^(k+1):=Nat.mul_le_mul_left _ h3;rw[Nat.mul_add,Nat.mul_one]at a2;apply bitLen_eq
  ·rw[Nat.pow_add,<-eB];omega
  ·rw[Nat.add_assoc,Nat.pow_add,<-eB];omega
theorem bits_c(w:World)(a1:Option Addr)(n1 c1 k1 x:Nat)(h1:NatAt w k1 a1 n1 c1 x)(s1:k1<=1073741824):
    Calls prog 125 #[.slice a1 n1 c1] w (RSame w (.int .i64 (bitLen x:Nat))):=by
  obtain⟨xs,h1,l1,hz,rfl⟩:=h1;have hlen:=h1.len;have hlt:=h1.lt;rcases zK n1 with h0|h0
  · have hv:bitLen (qF xs)=0:=by
      have:xs= []:=List.eq_nil_of_length_eq_zero ze;subst this;rfl
    rw[hv];subst h0;clear h1 hz hlen hlt hv;go_enter func125,ntmps125
    go_wp2
    go_ret
    exact⟨rfl,rfl⟩
  · obtain⟨m,rfl⟩:∃m,n1=m+1:=⟨n1-1,by omega⟩
    have hz:=hz ze;simp only[Nat.add_sub_cancel]at hz;have hv:=hid (bitLen_natVal xs m hlen hlt hz);rcases h1.shape with h| ⟨b,off,rfl,hb⟩
    ·omega
    have hc:=h1.cell m ze;have hx:=hlt m;clear h1 hlen hlt hz;generalize xs.getD m 0=x at*;obtain⟨hL,hbl⟩:=lib_bitLen x hx;go_enter func125,ntmps125;go_wp2_with (go_at_call 148;refine(Tryz.bits_Len32 _ _ ze ze).mono ?_;rintro e w' ⟨rfl,rfl⟩)
    go_ret
    exact RSame.mk' (by rw[hv.out];simp)
theorem guess_ge(q V W Nu lo P x0 first v1 v2 V0:Nat)(hq:q*(V*W)<=Nu)(hN:Nu=lo+W*P*(x0+4294967296*first))(hlo:lo<W*P)(hx0:x0<4294967296)
    (hV:V=V0+P*(v2+4294967296*v1)):q*v1<=first:=by
  apply Nat.le_of_not_lt;intro h;have h1:W*P*(4294967296*(first+1))<=W*P*(4294967296*(q*v1)):=Nat.mul_le_mul_left _ ze;have h2:W*P*(x0+4294967296*first+1)<=W*P*(4294967296*(first+1)):=Nat.mul_le_mul_left _ ze;have h3:q*(V*W)=W*(q*V0)+W*P*(q*v2)+W*P*(4294967296*(q*v1)):=by subst hV;grind
  have h4:W*P*(x0+4294967296*first+1)=W*P*(x0+4294967296*first)+W*P:=by rw[Nat.mul_add,Nat.mul_one]
  generalize W*P*(4294967296*(q*v1))=a1 at*;generalize W*P*(4294967296*(first+1))=a2 at*;generalize W*P*(x0+4294967296*first)=a3 at*;omega
theorem guess_dec(q g r V W Nu lo P x0 first v1 v2 V0:Nat)(hq:q*(V*W)<=Nu)(hN:Nu=lo+W*P*(x0+4294967296*first))(hlo:lo<W*P)
    (hV:V=V0+P*(v2+4294967296*v1)) (hqg:q<=g) (hg:g*v1+r=first) (ht:r*4294967296+x0<g*v2):q+1<=g:=by
  rcases zR q g with h|h
  ·exact h
  · exfalso
    obtain rfl:q=g:=ze
    have h1:q*(V*W)=W*(q*V0)+W*P*(q*v2+4294967296*(q*v1)):=by subst hV;grind
    have h2:x0+4294967296*first+1<=q*v2+4294967296*(q*v1):=by
      generalize q*v1=a at*;generalize q*v2=b at*;omega
    have h3:=Nat.mul_le_mul_left (W*P) h2;rw[Nat.mul_add _ _ 1,Nat.mul_one]at h3;generalize W*P*(q*v2+4294967296*(q*v1))=a1 at*;generalize W*P*(x0+4294967296*first)=a3 at*;omega
theorem digit_lt(q X Nu:Nat)(hq:q*X<=Nu)(hN:Nu<X*4294967296):q<4294967296:=by
  apply Nat.lt_of_not_le;intro h;have:=Nat.mul_le_mul_right X h;rw[Nat.mul_comm 4294967296]at this;omega
theorem guess_le(g r V W Nu lo P x0 first v1 v2 V0:Nat)(hN:Nu=lo+W*P*(x0+4294967296*first))(hV:V=V0+P*(v2+4294967296*v1))(hV0:V0<P)
    (hg:g*v1+r=first) (ht:g*v2<=r*4294967296+x0) (hgB:g<=4294967296) (hv1:0<v1):g*(V*W)<=Nu+V*W:=by
  have h1:g*(V*W)=W*(g*V0)+W*P*(g*v2+4294967296*(g*v1)):=by subst hV;grind
  have h2:g*v2+4294967296*(g*v1)<=x0+4294967296*first:=by
    generalize g*v1=a at*;generalize g*v2=b at*;omega
  have h3:=Nat.mul_le_mul_left (W*P) h2;have h4:W*(g*V0)<=W*(4294967296*P):=Nat.mul_le_mul_left _ (Nat.mul_le_mul hgB ze)
  have h5:W*(4294967296*P)<=V*W:=by
    rw[Nat.mul_comm V];apply Nat.mul_le_mul_left;rw[hV,Nat.mul_comm _ P];have:P*4294967296<=P*(v2+4294967296*v1):=Nat.mul_le_mul_left _ ze;omega
  generalize W*(g*V0)=a1 at*;generalize W*(4294967296*P)=a2 at*;generalize W*P*(g*v2+4294967296*(g*v1))=a3 at*;generalize W*P*(x0+4294967296*first)=a4 at*;omega
theorem first_le(V W Nu lo P x0 x1 x2 v1 v2 V0:Nat)(hN:Nu=lo+W*P*(x0+4294967296*(x2*4294967296+x1)))(hlt:Nu<V*W*4294967296)(hV:V=V0+P*(v2+4294967296*v1))(hV0:V0<P)
    (hv2:v2<4294967296):x2<=v1:=by
  apply Nat.le_of_not_lt;intro h
  have h1:V<P*(4294967296*(v1+1)):=by
    have:P*(v2+4294967296*v1+1)<=P*(4294967296*(v1+1)):=Nat.mul_le_mul_left _ ze;rw[Nat.mul_add _ _ 1,Nat.mul_one]at this;omega
  have h2:V*W*4294967296<=P*(4294967296*(v1+1))*W*4294967296:=Nat.mul_le_mul_right _ (Nat.mul_le_mul_right _ (Nat.le_of_lt h1));have h3:W*P*(4294967296*((v1+1)*4294967296))<=W*P*(x0+4294967296*(x2*4294967296+x1)):=Nat.mul_le_mul_left _ ze;have h4:P*(4294967296*(v1+1))*W*4294967296=W*P*(4294967296*((v1+1)*4294967296)):=by grind
  omega
theorem guess_small(g r first v1 x1 x2:Nat)(hg:g*v1+r=first)(hf:first=x2*4294967296+x1)(hx1:x1<4294967296)(hx2:x2<=v1)(hr:4294967296<=r):g<4294967296:=by
  apply Nat.lt_of_not_le;intro h;have h1:4294967296*v1<=g*v1:=Nat.mul_le_mul_right _ h;have h2:x2*4294967296<=v1*4294967296:=Nat.mul_le_mul_right _ hx2;omega
theorem guess_final(g q X Nu:Nat)(h1:g*X<=Nu+X)(h2:Nu<(q+1)*X):g<=q+1:=by
  apply Nat.le_of_not_lt;intro h;have:=Nat.mul_le_mul_right X (show q+2<=g by omega);rw[Nat.add_mul]at*;omega
theorem prod2_lt(g v:Nat)(hg:g<4294967296)(hv:v<4294967296):g*v<=18446744065119617025:=by
  have:=Nat.mul_le_mul (show g<=4294967295 by omega) (show v<=4294967295 by omega);omega
theorem pv_zero_above(xs:List Nat)(k:Nat)(h:∀i,k<=i->xs.getD i 0=0):pv xs k=qF xs:=by
  have key:∀m,pv xs (k+m)=pv xs k:=λm=>by
    induction m with
    |zero=>rfl
    |succ m ih=>rw[<-Nat.add_assoc,pv,ih,h (k+m) (by omega),Nat.mul_zero,Nat.add_zero]
  rw[<-key xs.length,zA xs _ (by omega)]
theorem zero_above(xs:List Nat)(k:Nat)(h:qF xs<4294967296^k):∀i,k<=i->xs.getD i 0=0:=by
  intro i hi;rcases zK (xs.getD i 0)with h0|h0
  ·exact h0
  · exfalso
    have hil:i<xs.length:=by
      rcases zR i xs.length with h1|h1
      ·exact h1
      ·rw[getD_big xs i h1]at h0;omega
    have e:=natVal_set xs i 0 hil;rw[Nat.mul_zero,Nat.add_zero]at e;have h1:4294967296^i*1<=4294967296^i*xs.getD i 0:=Nat.mul_le_mul_left _ h0;have h2:4294967296^k<=4294967296^i:=Nat.pow_le_pow_right ze hi;rw[Nat.mul_one]at h1;omega
def cmpI(a b:Int):Int:=if a<b then -1 else if b<a then 1 else 0
theorem cmpI_lt{a b:Int}(h:a<b):cmpI a b= -1:=by simp[cmpI,h]
theorem cmpI_gt{a b:Int}(h:b<a):cmpI a b=1:=by
  have:¬a<b:=ze
  simp[cmpI,h,this]
theorem cmpI_eq{a b:Int}(h:a=b):cmpI a b=0:=by subst h;simp[cmpI]
theorem ret_int{k:IntKind}{a b:Int}(h:a=b):Ending.returned (.int k a)=.returned (.int k b):=by rw[h]
theorem pv_lt_of(xs ys:List Nat)(hx:∀i,xs.getD i 0<4294967296)(k:Nat)(h:xs.getD k 0<ys.getD k 0):∀m,k<m->(∀i,k<i->xs.getD i 0=ys.getD i 0)->pv xs m<pv ys m:=by
  intro m
  induction m with
  |zero=>intro h;omega
  | succ m ih=>
    intro hm he;rw[pv,pv];rcases zR k m with h1|h1
    · have:=ih h1 he
      rw[he m h1];omega
    · obtain rfl:m=k:=by omega
      have h2:=pv_lt xs hx m;have h3:4294967296^m*(xs.getD m 0+1)<=4294967296^m*ys.getD m 0:=Nat.mul_le_mul_left _ h;rw[Nat.mul_add,Nat.mul_one]at h3;omega
def SameFrom(A B:List Nat)(k:Nat):Prop:=∀i,k<=i->A.getD i 0=B.getD i 0
theorem SameFrom.step{A B:List Nat}{k:Nat}(h:SameFrom A B (k+1))(he:A.getD k 0=B.getD k 0):SameFrom A B k:=λi hi=>by
  rcases zR k i with h1|h1
  ·exact h i h1
  · obtain rfl:i=k:=by omega
    exact he
theorem SameFrom.lt{A B:List Nat}{k n:Nat}(h:SameFrom A B (k+1))(hA:∀i,A.getD i 0<4294967296)(hk:k<n)(ha:A.length=n)(hb:B.length=n)(hlt:A.getD k 0<B.getD k 0):qF A<qF B:=by
  have:=pv_lt_of A B hA k hlt n hk (λi hi=>h i hi)
  rwa [zA A n (Nat.le_of_eq ha),zA B n (Nat.le_of_eq hb)]at this
theorem SameFrom.symm{A B:List Nat}{k:Nat}(h:SameFrom A B k):SameFrom B A k:=λi hi=>(h i hi).symm
theorem SameFrom.eq{A B:List Nat}{n:Nat}(h:SameFrom A B 0)(ha:A.length=n)(hb:B.length=n):qF A=qF B:=by
  have:=pv_congr (k:=n) (λi _=>h i (Nat.zero_le _))
  rwa [zA A n (Nat.le_of_eq ha),zA B n (Nat.le_of_eq hb)]at this


theorem NatAt.lt{w:World}{k n cap m:Nat}{ao:Option Addr}(h:NatAt w k ao n cap m):m<4294967296^n:=by
  obtain⟨xs,h1,h2,h3,h4⟩:=h;have:=natVal_lt xs h1.lt;rw[h1.len,h4]at this;exact this
theorem NatAt.ge{w:World}{k n cap m:Nat}{ao:Option Addr}(h:NatAt w k ao n cap m)(hn:0<n):4294967296^(n-1)<=m:=by
  obtain⟨xs,h1,h2,h3,h4⟩:=h;have:=jR xs (by rw[h1.len];exact hn) (by rw[h1.len];exact h3 hn);rw[h1.len,h4]at this;exact this
theorem NatAt.tight{w:World}{k k' n cap m:Nat}{ao:Option Addr}(h:NatAt w k ao n cap m)(hm:m<4294967296^k'):NatAt w k' ao n cap m:=by
  have hn:n<=k':=by
    rcases zK n with h0|h0
    ·omega
    · have h1:=h.ge h0
      have:=(Nat.pow_lt_pow_iff_right (a:=4294967296) ze).1 (Nat.lt_of_le_of_lt h1 hm);omega
  obtain⟨xs,h1,h2,h3⟩:=h;exact⟨xs,h1,hn,h3⟩
theorem NatAt.zero{w:World}{k n cap m:Nat}{ao:Option Addr}(h:NatAt w k ao n cap m):m=0↔n=0:=by
  constructor
  · intro hm
    rcases zK n with h0|h0
    ·exact h0
    · have:=h.ge h0
      have:0<4294967296^(n-1):=Nat.pos_of_ne_zero zo;omega
  · intro hn
    have:=h.lt;rw[hn]at this;simpa using this
structure Two (w1:World) (gu gq N M:Nat) (us qs:List Nat) (wr:World):Prop where
  ou:Own wr gu us
  oq:Own wr gq qs
  lu:us.length=N
  lq:qs.length=M
  wu:∀i,us.getD i 0<4294967296
  wq:∀i,qs.getD i 0<4294967296
  ne:gu≠gq
  hu:w1.heap.size<=gu
  hq:w1.heap.size<=gq
  ext:Ext w1 wr
def Gs(q g r v1 first:Nat):Prop:=q<=g/\g*v1+r=first
structure Digits (Nu V W q x2 x1 x0 v1 v2 T:Nat):Prop where
  start:Gs q ((x2*4294967296+x1)/v1) ((x2*4294967296+x1)%v1) v1 (x2*4294967296+x1)
  step:∀g r,Gs q g r v1 (x2*4294967296+x1)->(4294967296<=g\/r*4294967296+x0<g*v2)->1<=g/\Gs q (g-1) (r+v1) v1 (x2*4294967296+x1)
  exit:∀g r,Gs q g r v1 (x2*4294967296+x1)->((g<4294967296/\g*v2<=r*4294967296+x0)\/4294967296<=r)->g<4294967296/\q<=g/\g<=q+1
  bound:∀g r,Gs q g r v1 (x2*4294967296+x1)->g<=8589934592
  lo:q*(V*W)<=Nu
  hi:Nu<(q+1)*(V*W)
  lim:Nu<T
theorem digits(us vs:List Nat)(n2 j:Nat)(hn:2<=n2)(huw:∀i,us.getD i 0<4294967296)(hvw:∀i,vs.getD i 0<4294967296)(hvl:vs.length=n2)(htop:2147483648<=vs.getD (n2-1) 0)
    (hlt:qF us<qF vs*4294967296^(j+1)):
    Digits (qF us) (qF vs) (4294967296^j) (qF us/(qF vs*4294967296^j)) (us.getD (j+n2) 0) (us.getD (j+n2-1) 0) (us.getD (j+n2-2) 0) (vs.getD (n2-1) 0) (vs.getD (n2-2) 0) (4294967296^(j+n2+1)):=by
  obtain⟨m,rfl⟩:∃m,n2=m+2:=⟨n2-2,by omega⟩;rw[show j+(m+2)-1=j+m+1 from by omega,show j+(m+2)-2=j+m from by omega,show m+2-1=m+1 from by omega,show m+2-2=m from by omega,show j+(m+2)=j+m+1+1 from by omega]at*;have hVl:=natVal_lt vs hvw;rw[hvl]at hVl
  have hlim:qF us<4294967296^(j+m+1+1+1):=by
    have h1:qF vs*4294967296^(j+1)<=4294967296^(m+2)*4294967296^(j+1):=Nat.mul_le_mul_right _ (Nat.le_of_lt hVl);rw[<-Nat.pow_add,show m+2+(j+1)=j+m+1+1+1 from by omega]at h1;omega
  have eu:=pv_zero_above us (j+m+1+1+1) (zero_above us _ hlim);rw[pv,pv,pv]at eu;have ev:=zA vs (m+1+1) (Nat.le_of_eq hvl);rw[pv,pv]at ev;have hlo:=pv_lt us huw (j+m);have hV0:=pv_lt vs hvw m;have hx2:=huw (j+m+1+1);have hx1:=huw (j+m+1);have hx0:=huw (j+m);have hv2:=hvw m;have hv1:=hvw (m+1);rw[Nat.pow_add]at hlo;have hlt2:qF us<qF vs*4294967296^j*4294967296:=by rw[Nat.mul_assoc,<-Nat.pow_succ];exact hlt
  have hW:0<4294967296^j:=Nat.pos_of_ne_zero zo;simp only[Nat.pow_succ,Nat.pow_add]at eu ev;generalize us.getD (j+m+1+1) 0=x2 at*;generalize us.getD (j+m+1) 0=x1 at*;generalize us.getD (j+m) 0=x0 at*;generalize vs.getD (m+1) 0=v1 at*;generalize vs.getD m 0=v2 at*;generalize pv us (j+m)=lo at*;generalize pv vs m=V0 at*;generalize qF us=Nu at*;generalize qF vs=V at*;generalize 4294967296^j=W at*;generalize 4294967296^m=P at*;clear hVl hlt;have hN:Nu=lo+W*P*(x0+4294967296*(x2*4294967296+x1)):=by rw[<-eu];grind
  have hV:V=V0+P*(v2+4294967296*v1):=by rw[<-ev];grind
  clear eu ev;have hP:0<P:=ze
  have hVpos:0<V:=by
    have:P*1<=P*(v2+4294967296*v1):=Nat.mul_le_mul_left _ ze;omega
  have hX:0<V*W:=Nat.mul_pos hVpos hW;have hqlo:Nu/(V*W)*(V*W)<=Nu:=Nat.div_mul_le_self _ _
  have hqhi:Nu<(Nu/(V*W)+1)*(V*W):=by
    have:=Nat.div_add_mod Nu (V*W);have:=Nat.mod_lt Nu hX;rw[Nat.add_mul,Nat.one_mul,Nat.mul_comm];omega
  have hqB:=digit_lt _ _ _ hqlo hlt2;have hx2v:=first_le V W Nu lo P x0 x1 x2 v1 v2 V0 hN hlt2 hV hV0 hv2;generalize Nu/(V*W)=q at*;have hv1p:0<v1:=ze
  refine⟨⟨?_,?_⟩,λg r hg ht=>?_,λg r hg ht=>?_,λg r hg=>?_,hqlo,hqhi,hlim⟩
  · rw[Nat.le_div_iff_mul_le hv1p]
    exact guess_ge q V W Nu lo P x0 _ v1 v2 V0 hqlo hN hlo hx0 hV
  ·rw[Nat.mul_comm];exact Nat.div_add_mod _ _
  · obtain⟨h1,h2⟩:=hg
    have h3:q+1<=g:=by
      rcases ht with ht|ht
      ·omega
      ·exact guess_dec q g r V W Nu lo P x0 _ v1 v2 V0 hqlo hN hlo hV h1 h2 ht
    obtain⟨g',rfl⟩:∃g',g=g'+1:=⟨g-1,by omega⟩;refine⟨by omega,by omega,?_⟩;rw[Nat.add_sub_cancel];rw[Nat.add_mul,Nat.one_mul]at h2;omega
  · obtain⟨h1,h2⟩:=hg
    have h3:g<4294967296:=by
      rcases ht with ht|ht
      ·exact ht.1
      ·exact guess_small g r _ v1 x1 x2 h2 rfl hx1 hx2v ht
    have h4:g*v2<=r*4294967296+x0:=by
      rcases ht with ht|ht
      ·exact ht.2
      · have:=prod2_lt g v2 h3 hv2
        omega
    exact⟨h3,h1,guess_final g q _ Nu (guess_le g r V W Nu lo P x0 _ v1 v2 V0 hN hV hV0 h2 h4 (Nat.le_of_lt h3) hv1p) hqhi⟩
  · obtain⟨h1,h2⟩:=hg
    apply Nat.le_of_not_lt;intro hh;have:=Nat.mul_le_mul (show 8589934593<=g from hh) htop;omega

theorem IntAt.mk{w:World}{k n cap m:Nat}{ao:Option Addr}(h:NatAt w k ao n cap m)(s:Bool)(h0:n≠0):IntAt w k s ao n cap (if s then -(m:Int)else m):=⟨m,h,λh=>absurd h h0,rfl⟩
theorem IntAt.zero{w:World}:IntAt w 0 false none 0 0 0:=⟨0,⟨[],wd_nil _ _ _ ze,by omega,by omega,rfl⟩,λ_=>rfl,rfl⟩
theorem NatAt.back{w0 w:World}{k n n' cap cap' m:Nat}{ao:Option Addr}{xs:List Nat}(h:NatAt w k ao n' cap' m)(h0:Wd w0 ao n cap xs)(e:Ext w0 w)(hn:n'<=n):NatAt w0 k ao n' cap' m:=by
  obtain⟨ys,a,b⟩:=h;refine⟨ys,⟨a.len,a.capo,a.big,a.lt,?_⟩,b⟩;rcases h0.at_ with h1| ⟨b1,off,h1,h2,h3⟩
  ·left;omega
  · refine .inr ⟨b1,off,h1,h2,λj hj=>?_⟩
    subst h1;have c1:=h3 j ze;have c2:=a.cell j hj;rw[e.cell c1]at c2;rw[c1,c2]
theorem of_c(w:World)(s:Bool)(ao:Option Addr)(n cap:Nat)(xs:List Nat)(z:Int)(h:Wd w ao n cap xs)(hz:z=if s then -(qF xs:Int)else qF xs):
    Calls prog 166 #[.bool s,.slice ao n cap] w (RInt w n z):=by
  have h1:=hid (trim_wd _ ao n cap xs (h.ext ((Ext.refl w).alloc (.cells #[.bool false,.slice none 0 0] 29))));have Hz:=hid hz;have Hh:=hid h;clear hz h;go_enter func166,ntmps166;go_wp2_with fail;refine(h1.out).mono ?_;rintro e w' ⟨n',rfl,rfl,hn⟩;clear h1;have hle:=hn.le;have hn:=hn.back Hh.out ((Ext.refl w).alloc _) hle;by_cases h0:n'=0
  · have hm:=(hn.zero).2 h0
    have hz0:z=0:=by rw[Hz.out,hm];cases s <;> rfl
    subst h0;go_wp2_with fail;refine zH (v:=.agg #[.bool false,.slice none 0 0]) (by simp[results,results166,go_sem]) rfl ?_;rw[hz0];exact⟨_,_,_,_,rfl,(Ext.refl w).alloc _,IntAt.zero.mono ze⟩
  · have h0':((n':Int)==0)=false:=by rw[zJ];omega
    have h00:=hid h0;clear h0;go_wp2_with fail;refine zH (v:=.agg #[.bool s,.slice ao n' cap]) (by simp[results,results166,go_sem]) rfl ?_;refine⟨_,_,_,_,rfl,(Ext.refl w).alloc _,?_⟩;rw[Hz.out];exact IntAt.mk (hn.ext ((Ext.refl w).alloc _)) s h00.out
def boxed(w:World)(s:Bool)(ao:Option Addr)(n cap:Nat):World:=w.alloc (.cells #[.bool s,.slice ao n cap] 29)
theorem boxed_ext(w:World)(s:Bool)(ao:Option Addr)(n cap:Nat):Ext w (boxed w s ao n cap):=(Ext.refl w).alloc _
theorem Wd.set{w:World}{ao:Option Addr}{n cap:Nat}{xs:List Nat}(h:Wd w ao n cap xs)(p:Addr){u:Value}(hp:w.cell? p=some u)(hu:∀x,u≠ .int .u32 x)(v:Value):Wd (w.setCell p v) ao n cap xs:=by
  refine⟨h.len,h.capo,h.big,h.lt,h.at_.imp id λ⟨b,off,h1,h2,h3⟩=>⟨b,off,h1,by simpa [World.setCell]using h2,λj hj=>?_⟩⟩;have:=h3 j hj;rw[World.cell?_setCell_other]
  ·exact this
  · intro he
    rw[he,this]at hp;exact hu _ (Option.some.inj hp).symm
theorem NatAt.set{w:World}{k n cap m:Nat}{ao:Option Addr}(h:NatAt w k ao n cap m)(p:Addr){u:Value}(hp:w.cell? p=some u)(hu:∀x,u≠ .int .u32 x)(v:Value):NatAt (w.setCell p v) k ao n cap m:=
  let ⟨xs,h1,h2⟩:=h;⟨xs,h1.set p hp hu v,h2⟩
theorem IntAt.set{w:World}{k n cap:Nat}{s:Bool}{ao:Option Addr}{z:Int}(h:IntAt w k s ao n cap z)(p:Addr){u:Value}(hp:w.cell? p=some u)(hu:∀x,u≠ .int .u32 x)(v:Value):IntAt (w.setCell p v) k s ao n cap z:=
  let ⟨m,h1,h2⟩:=h;⟨m,h1.set p hp hu v,h2⟩
def NoWord(v:Value):Prop:=∀x,v≠ .int .u32 x
theorem NoWord.bool(b:Bool):NoWord (.bool b):=λx=>by simp
theorem NoWord.slice(a:Option Addr)(n c:Nat):NoWord (.slice a n c):=λx=>by simp
structure Kp (w w':World) (L:List (Nat×List Value)) (R:List (Nat×Nat)):Prop where
  ext:Ext w w'
  known:∀e∈L,∃t,w'.heap[w.heap.size+e.1]? =some (.cells e.2.toArray t (0,0))
  free:∀e∈R,∃(c:Array Value) (t:TypeId),c.size=e.2/\(∀(j:Nat) (v:Value),c[j]? =some v->NoWord v)/\w'.heap[w.heap.size+e.1]? =some (.cells c t (0,0))
theorem heap_lt{w:World}{b:Nat}{o:Obj}(h:w.heap[b]? =some o):b<w.heap.size:=by
  rcases zR b w.heap.size with h1|h1
  ·exact h1
  ·simp[Array.getElem?_eq_none h1]at h
theorem Ext.heap{w w':World}{b:Nat}{o:Obj}(e:Ext w w')(h:w.heap[b]? =some o):w'.heap[b]? =some o:=by
  rw[Below.block e b (heap_lt h)];exact h
theorem Kp.after{w w' w'':World}{L:List (Nat×List Value)}{R:List (Nat×Nat)}(h:Kp w w' L R)(e:Ext w' w''):Kp w w'' L R:=
  ⟨h.ext.trans e,λx hx=>let ⟨t,h1⟩:=h.known x hx;⟨t,e.heap h1⟩,λx hx=>let ⟨c,t,h1,h2,h3⟩:=h.free x hx;⟨c,t,h1,h2,e.heap h3⟩⟩
theorem Kp.cell{w w':World}{L:List (Nat×List Value)}{R:List (Nat×Nat)}(h:Kp w w' L R)(i j:Nat)(c:List Value)(v:Value)(hi:(i,c)∈L)(hj:c[j]? =some v):w'.cell? ⟨w.heap.size+i,j,none⟩=some v:=by
  obtain⟨t,h1⟩:=h.known _ hi;simp only[World.cell?];rw[h1];simpa using hj
theorem Kp.res{w w':World}{L:List (Nat×List Value)}{R:List (Nat×Nat)}(h:Kp w w' L R)(i n:Nat)(hi:(i,n)∈R)(j:Nat)(hj:j<n):
    (∃v,w'.cell? ⟨w.heap.size+i,j,none⟩=some v/\NoWord v)/\w'.frozen? ⟨w.heap.size+i,j,none⟩=false:=by
  obtain⟨c,t,h1,h2,h3⟩:=h.free _ hi;have hj':j<c.size:=ze
  refine⟨⟨c[j],?_,h2 j _ (by simp[hj'])⟩,?_⟩
  ·simp only[World.cell?];rw[h3];simp[hj']
  ·simp only[World.frozen?];rw[h3];simp
theorem Kp.set{w w':World}{L:List (Nat×List Value)}{R:List (Nat×Nat)}(h:Kp w w' L R)(i n j:Nat)(v:Value)(_hi:(i,n)∈R)(hv:NoWord v)(hL:∀e∈L,e.1≠i):
    Kp w (w'.setCell ⟨w.heap.size+i,j,none⟩ v) L R:=by
  refine⟨h.ext.set (Nat.le_add_right _ _) _,λx hx=>?_,λx hx=>?_⟩
  · obtain⟨t,h1⟩:=h.known x hx
    refine⟨t,?_⟩;rw[Below.heap_setCell _ _ _ _ (by have:=hL x hx;simp;omega)];exact h1
  · obtain ⟨c,t,h1,h2,h3⟩:=h.free x hx
    by_cases hxi:x.1=i
    · refine⟨c.setIfInBounds j v,t,by simpa using h1,λk u hk=>?_,?_⟩
      · rw [Array.getElem?_setIfInBounds]at hk
        split at hk
        · split at hk
          ·cases hk;exact hv
          ·cases hk
        ·exact h2 k u hk
      · simp only[World.setCell,Array.getElem?_modify]
        rw[if_pos (by rw[hxi]),h3];simp
    · refine⟨c,t,h1,h2,?_⟩
      rw[Below.heap_setCell _ _ _ _ (by simp;omega)];exact h3
theorem Kp.put2{w w':World}{L:List (Nat×List Value)}{R:List (Nat×Nat)}(h:Kp w w' L R)(i:Nat)(hi:(i,2)∈R)(s:Bool)(a:Option Addr)(n c:Nat)(hL:∀e∈L,e.1≠i):
    Kp w ((w'.setCell ⟨w.heap.size+i,0,none⟩ (.bool s)).setCell ⟨w.heap.size+i,1,none⟩ (.slice a n c)) L R/\
      ∀k s1 a1 n1 c1 z,IntAt w' k s1 a1 n1 c1 z->IntAt ((w'.setCell ⟨w.heap.size+i,0,none⟩ (.bool s)).setCell ⟨w.heap.size+i,1,none⟩ (.slice a n c)) k s1 a1 n1 c1 z:=by
  have h1:=h.set i 2 0 (.bool s) hi (NoWord.bool s) hL;refine⟨h1.set i 2 1 _ hi (NoWord.slice a n c) hL,λk s1 a1 n1 c1 z hz=>?_⟩;obtain⟨⟨v,hv,hw⟩,_⟩:=h.res i 2 hi 0 ze;obtain⟨⟨v',hv',hw'⟩,_⟩:=h1.res i 2 hi 1 ze;exact(hz.set _ hv hw _).set _ hv' hw' _
theorem Kp.fin{w w':World}{L:List (Nat×List Value)}{R:List (Nat×Nat)}(h:Kp w w' L R)(i:Nat)(hi:(i,2)∈R){s:Bool}{a:Option Addr}{n c k:Nat}{z:Int}(hL:∀e∈L,e.1≠i)(hz:IntAt w' k s a n c z):
    RInt w k z (.returned (.agg #[.bool s,.slice a n c])) ((w'.setCell ⟨w.heap.size+i,0,none⟩ (.bool s)).setCell ⟨w.heap.size+i,1,none⟩ (.slice a n c)):=
  ⟨s,a,n,c,rfl,(h.put2 i hi s a n c hL).1.ext,(h.put2 i hi s a n c hL).2 _ _ _ _ _ _ hz⟩
theorem Kp.start(w:World):Kp w w [] []:=⟨Ext.refl w,(λ_ h=>by cases h),(λ_ h=>by cases h)⟩
theorem Kp.out{w w':World}{L:List (Nat×List Value)}{R:List (Nat×Nat)}(h:Kp w w' L R)(i:Nat)(hi:w'.heap.size=w.heap.size+i)(c:List Value)(t:TypeId)(hc:∀v∈c,NoWord v):Kp w (w'.alloc (.cells c.toArray t)) L ((i,c.length) ::R):=by
  have e:Ext w' (w'.alloc (.cells c.toArray t)):=(Ext.refl _).alloc _;refine⟨(h.after e).ext,(h.after e).known,λx hx=>?_⟩;rcases List.mem_cons.1 hx with rfl|hx
  · refine⟨c.toArray,t,by simp,λj v hj=>hc v ?_,?_⟩
    ·exact List.mem_of_getElem? ja
    ·rw[<-hi];show(w'.heap.push _)[w'.heap.size]? =_;simp
  ·exact(h.after e).free x hx
structure Kq (w w':World) (L:List (Nat×List Value)):Prop where
  ext:Ext w w'
  known:∀e∈L,w.heap.size<=e.1/\∃t,w'.heap[e.1]? =some (.cells e.2.toArray t (0,0))
theorem Kq.after{w w' w'':World}{L:List (Nat×List Value)}(h:Kq w w' L)(e:Ext w' w''):Kq w w'' L:=
  ⟨h.ext.trans e,λx hx=>let ⟨h0,t,h1⟩:=h.known x hx;⟨h0,t,e.heap h1⟩⟩
theorem Kq.cell{w w':World}{L:List (Nat×List Value)}(h:Kq w w' L)(b j:Nat)(c:List Value)(v:Value)(hi:(b,c)∈L)(hj:c[j]? =some v):w'.cell? ⟨b,j,none⟩=some v:=by
  obtain⟨_,t,h1⟩:=h.known _ hi;simp only[World.cell?];rw[h1];simpa using hj
theorem Kq.free{w w':World}{L:List (Nat×List Value)}(h:Kq w w' L)(b j:Nat)(c:List Value)(hi:(b,c)∈L):w'.frozen? ⟨b,j,none⟩=false:=by
  obtain⟨_,t,h1⟩:=h.known _ hi;simp only[World.frozen?];rw[h1];simp
theorem Kq.start(w:World):Kq w w []:=⟨Ext.refl w,(λ_ h=>by cases h)⟩
theorem Kq.alloc{w w':World}{L:List (Nat×List Value)}(h:Kq w w' L)(c:List Value)(t:TypeId):Kq w (w'.alloc (.cells c.toArray t)) ((w'.heap.size,c) ::L):=by
  have e:Ext w' (w'.alloc (.cells c.toArray t)):=(Ext.refl _).alloc _;refine⟨(h.after e).ext,λx hx=>?_⟩;rcases List.mem_cons.1 hx with rfl|hx
  ·exact⟨h.ext.size,t,by show(w'.heap.push _)[w'.heap.size]? =_;simp⟩
  ·exact(h.after e).known x hx
theorem kc2(w:World)(s1 s2:Bool)(a1 a2:Option Addr)(n1 n2 c1 c2:Nat):∀w',Kp w w' [(1, [.bool s2,.slice a2 n2 c2]),(0, [.bool s1,.slice a1 n1 c1])] [(2,2)]->(λw'=>Kp w w' [(1, [.bool s2,.slice a2 n2 c2]),(0, [.bool s1,.slice a1 n1 c1])] [(2,2)]/\w'.cell? ⟨w.heap.size,0,none⟩=some (.bool s1)/\w'.cell? ⟨w.heap.size,1,none⟩=some (.slice a1 n1 c1)/\w'.cell? ⟨w.heap.size+1,0,none⟩=some (.bool s2)/\w'.cell? ⟨w.heap.size+1,1,none⟩=some (.slice a2 n2 c2)) w':=λw' h=>
    ⟨h,h.cell 0 0 [.bool s1,.slice a1 n1 c1] _ zo rfl,h.cell 0 1 [.bool s1,.slice a1 n1 c1] _ zo rfl,h.cell 1 0 [.bool s2,.slice a2 n2 c2] _ zo rfl,h.cell 1 1 [.bool s2,.slice a2 n2 c2] _ zo rfl⟩
theorem Bits_c(w:World)(s1:Bool)(a1:Option Addr)(n1 c1 k1:Nat)(z1:Int)(h1:IntAt w k1 s1 a1 n1 c1 z1)(l1:k1<=268435456):Calls prog 99 #[.agg #[.bool s1,.slice a1 n1 c1]] w (RVal w (.int .i64 (bitLen z1.natAbs:Nat))):=by
  obtain⟨m,hm,hs,hz⟩:=h1;have hz':bitLen z1.natAbs=bitLen m:=by rw[hz];cases s1 <;> simp
  have H:=hid (bits_c (boxed w s1 a1 n1 c1) a1 n1 c1 k1 m (hm.ext (boxed_ext w s1 a1 n1 c1)) ze);rw[hz'];clear hm hs hz hz';go_enter func99,ntmps99;go_wp2_with fail;refine H.out.mono ?_;rintro e w1 ⟨rfl,rfl⟩;go_wp2_with fail
  go_ret
  exact⟨rfl,boxed_ext w s1 a1 n1 c1⟩
end Go.Proofs.YtenhciieboegbaaGreatDoor
