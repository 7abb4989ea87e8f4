/-
  A natural divided by a word, and the bits of a natural, in package integer. At most 2^30 words. Plain laws on long division, digit by digit: the guess of a digit from the first digits is right or one too great. No program.
-/
import Derived.Test.YtenhciieboegbaaGreatDoorBase
import Derived.Test.YtenhciieboegbaaGreatDoorAdd
import Derived.Test.YtenhciieboegbaaGreatDoorShelf
namespace Go.Proofs.YtenhciieboegbaaGreatDoor
open Go Go.RowKit
def DivInv(w0:World)(g N d:Nat)(A:List Nat)(k r:Nat)(wr:World):Prop:=
  ∃ys,Own wr g ys∧ys.length=N∧(∀i,ys.getD i 0<4294967296)∧d*natVal ys+r*4294967296^k+pv A k=natVal A∧(∀i,i<k→ys.getD i 0=0)∧Ext w0 wr
theorem DivInv.start{w0 wr:World}{g n d:Nat}{A:List Nat}(h:Own wr g (List.replicate n 0))(he:Ext w0 wr)(hl:A.length=n):DivInv w0 g n d A n 0 wr:=
  ⟨_,h,by simp,λi=>by rw[getD_zeros];omega,by rw[natVal_zeros,pv_all A n (Nat.le_of_eq hl)];simp,λi _=>getD_zeros _ _,he⟩
theorem DivInv.fin{w0 wr:World}{g N d r:Nat}{A:List Nat}(h:DivInv w0 g N d A 0 r wr)(hN:N≤140737488355328)(hr:r<d):
    (∃ys,Wd wr (some ⟨g,0,none⟩) N N ys∧natVal ys=natVal A/d)∧r=natVal A%d∧Ext w0 wr:=by
  obtain⟨ys,h1,h2,h3,h4,h5,h7⟩:=h;have hw:=h1.wd h3 N (Nat.le_of_eq h2) hN;rw[h2]at hw;simp only[pv,Nat.pow_zero,Nat.mul_one,Nat.add_zero]at h4;refine⟨⟨ys,hw,?_⟩,?_,h7⟩
  ·rw[← h4,Nat.mul_add_div (by omega),Nat.div_eq_of_lt hr,Nat.add_zero]
  ·rw[← h4,Nat.mul_add_mod,Nat.mod_eq_of_lt hr]
theorem DivInv.step{w0 wr:World}{g N d k r:Nat}{A:List Nat}(h:DivInv w0 g N d A (k+1) r wr)(hk:k<N)(hg:w0.heap.size≤g)(hr:r<d)(hA:A.getD k 0<4294967296):
    Ext w0 wr∧g<wr.heap.size∧
      ∀ w2,Ext wr w2→(∃o:Nat,w2.cell? ⟨g,k,none⟩=some (.int .u32 o))∧w2.frozen? ⟨g,k,none⟩=false∧
        DivInv w0 g N d A k ((r*4294967296+A.getD k 0)%d) (w2.setCell ⟨g,k,none⟩ (.int .u32 (((r*4294967296+A.getD k 0)/d:Nat):Int))):=by
  obtain⟨ys,h1,h2,h3,h4,h5,h7⟩:=h;refine⟨h7,h1.lt,λw2 e2=>⟨⟨_,(h1.ext e2).cell _ (by omega)⟩,(h1.ext e2).free _,?_⟩⟩;have hq:(r*4294967296+A.getD k 0)/d<4294967296:=Nat.div_lt_of_lt_mul (by have:=Nat.mul_le_mul_right 4294967296 (show r+1≤d from hr);omega);refine⟨_,(h1.ext e2).set _ _,by simpa using h2,λj=>?_,?_,λj hj=>?_,(h7.trans e2).set hg _⟩
  · rw[getD_set _ _ _ _ (by omega)];split
    ·exact hq
    ·exact h3 j
  · have e:=natVal_set ys k ((r*4294967296+A.getD k 0)/d) (by omega)
    rw[h5 k (by omega),Nat.mul_zero,Nat.add_zero]at e;rw[e];have e3:=Nat.div_add_mod (r*4294967296+A.getD k 0) d;rw[pv]at h4;generalize(r*4294967296+A.getD k 0)/d=q at*;generalize(r*4294967296+A.getD k 0)%d=t at*;have e4:4294967296^k*(d*q+t)=4294967296^k*(r*4294967296+A.getD k 0):=by rw[e3]
    rw[Nat.pow_succ]at h4
    grind
  ·rw[getD_set _ _ _ _ (by omega),if_neg (by omega)];exact h5 j (by omega)
def RDivW(w0:World)(k m r:Nat)(e:Ending)(w':World):Prop:=
  ∃ao n cap,e=.returned (.tuple #[.slice ao n cap,.int .u32 (r:Nat)])∧Ext w0 w'∧NatAt w' k ao n cap m
set_option maxRecDepth 100000 in
set_option maxHeartbeats 1000000 in
theorem divw_wd(w:World)(a1:Option Addr)(n1 c1 d:Nat)(A:List Nat)(h1:Wd w a1 n1 c1 A)(s1:n1≤1073741824)(hd0:0<d)(hd:d<4294967296):
    Calls Tryz.prog 130 #[.slice a1 n1 c1,.int .u32 d] w (RDivW w n1 (natVal A/d) (natVal A%d)):=by
  have HA:=hid h1.lt;have HlA:=hid h1.len;have HW1:=hid h1;have sh1:=h1.shape;clear h1;rcases sh1 with sh1| ⟨b1,off1,rfl,hb1⟩
  all_goals
    go_enter Tryz.func130,Tryz.ntmps130;go_wp2_with (at_make;refine wpl_make rfl _ _ _ rfl Tryz.underlying165 _ _ n1 rfl rfl (by omega) (by omega) (by omega) ?_;intro w1 e1 z1 o1)
    have I0:=hid (DivInv.start (d:=d) o1 e1 HlA.out);clear o1 e1 z1
    go_loopw [7,8] (λr i wr=>∃z:Int,∃rr:Nat,-1≤z∧z<n1∧rr<d∧i=.int .i64 z∧r=.int .u32 rr∧Hid (DivInv w w.heap.size n1 d A (z+1).toNat rr wr)) (λ_ i _=>(intOf i+1).toNat)
    case atStart=>exact⟨(n1:Int)-1,0,by omega,by omega,hd0,rfl,rfl,by rw[show((n1:Int)-1+1).toNat=n1 from by omega];exact I0⟩
    case round=>
      clear I0;obtain⟨z,r,hz1,hz2,hr,rfl,rfl,hinv⟩:=hrel;by_cases hz0:0≤z
      · obtain⟨j,rfl⟩:=Int.eq_ofNat_of_zero_le hz0
        first
          | (exfalso;omega)
          | (have hinv':DivInv w w.heap.size n1 d A (j+1) r wr:=hinv.out
             obtain⟨hext,hgl,hst⟩:=hinv'.step (by omega) (Nat.le_refl _) hr (HA.out j);have hcA:=(HW1.out.ext hext).cell j (by omega);have hxl:=HA.out j;have Hst:=hid hst;clear hst hinv hinv';generalize A.getD j 0=x at*;have hmod:=hid (Nat.mod_lt (r*4294967296+x) hd0);go_wp2_with (go_at_call 161;refine(div32_c r x d hr hxl hd _).mono ?_;rintro e w2 ⟨rfl,he2⟩;obtain⟨⟨o,ho⟩,hf2,hst2⟩:=Hst.out w2 he2;have hst2:=hid hst2)
             go_roundw
             case rel=>exact⟨(j:Int)-1,_,by omega,by omega,hmod.out,rfl,rfl,by rw[show((j:Int)-1+1).toNat=j from by omega];exact hst2⟩
             case measure=>simp[intOf])
      · obtain rfl:z= -1:=by omega
        have hv:DivInv w w.heap.size n1 d A 0 r wr:=hinv.out;obtain⟨⟨zs,hz1,hz2⟩,hz4,hz3⟩:=hv.fin (by omega) hr;have Hz2:=hid hz2;have Hz4:=hid hz4;clear hinv hv hz2 hz4;go_wp2_with (go_at_call 162;refine(trim_c _ _ _ _ _ hz1).mono ?_;rintro e w3 ⟨ao,n,cap,rfl,he,hn⟩)
        go_ret2
        exact⟨ao,n,cap,by rw[← Hz4.out];rfl,hz3.trans he,Hz2.out▸hn⟩
theorem divw_c(w:World)(a1:Option Addr)(n1 c1 d k1 x:Nat)(h1:NatAt w k1 a1 n1 c1 x)(s1:k1≤1073741824)(hd0:0<d)(hd:d<4294967296):
    Calls Tryz.prog 130 #[.slice a1 n1 c1,.int .u32 d] w (RDivW w k1 (x/d) (x%d)):=by
  obtain⟨xs,h1,l1,_,rfl⟩:=h1;refine(divw_wd w a1 n1 c1 d xs h1 (by omega) hd0 hd).mono ?_;rintro e w' ⟨ao,n,cap,he,hx,hn⟩;exact⟨ao,n,cap,he,hx,hn.mono (by omega)⟩
def bitLen(m:Nat):Nat:=if m=0 then 0 else m.log2+1
theorem bitLen_eq(x k:Nat)(h1:2^k≤x)(h2:x<2^(k+1)):bitLen x=k+1:=by
  have hp:0<2^k:=Nat.pos_of_ne_zero (by simp);have h0:x≠0:=by omega
  have a:=(Nat.le_log2 h0).2 h1;have b:=(Nat.log2_lt h0).2 h2;simp[bitLen,h0];omega
theorem bitLen_bounds(x:Nat)(h:x≠0):∃k,bitLen x=k+1∧2^k≤x∧x<2^(k+1):=
  ⟨x.log2,by simp[bitLen,h],(Nat.le_log2 h).1 (Nat.le_refl _),(Nat.log2_lt h).1 (Nat.lt_succ_self _)⟩
theorem lib_bitLen(x:Nat)(hx:x<4294967296):Lib.bitLen x=bitLen x∧bitLen x≤32:=by
  have e:Lib.bitLen x=bitLen x:=by
    rcases Nat.eq_zero_or_pos x with h|h
    ·subst h;rfl
    · obtain⟨a,b,c⟩:=Lib.bitLenAux_bounds 64 x (by omega) (by omega)
      obtain⟨k,hk⟩:∃k,Lib.bitLenAux 64 x=k+1:=⟨Lib.bitLenAux 64 x-1,by omega⟩;rw[hk]at b c;rw[bitLen_eq x k b c];exact hk
  exact⟨e,e▸Lib.bitLen_le x 32 (by omega) hx⟩
theorem bitLen_natVal(xs:List Nat)(n:Nat)(hl:xs.length=n+1)(hx:∀i,xs.getD i 0<4294967296)(hz:xs.getD n 0≠0):bitLen (natVal xs)=32*n+bitLen (xs.getD n 0):=by
  obtain⟨k,h1,h2,h3⟩:=bitLen_bounds _ hz;have e:=pv_all xs (n+1) (Nat.le_of_eq hl);have hp:=pv_lt xs hx n;rw[pv]at e;rw[h1,← e,← Nat.add_assoc];have eB:4294967296^n=2^(32*n):=by rw[Nat.pow_mul]
  have a1:4294967296^n*2^k≤4294967296^n*xs.getD n 0:=Nat.mul_le_mul_left _ h2;have a2:4294967296^n*(xs.getD n 0+1)≤4294967296^n*2^(k+1):=Nat.mul_le_mul_left _ h3;rw[Nat.mul_add,Nat.mul_one]at a2;apply bitLen_eq
  ·rw[Nat.pow_add,← eB];omega
  ·rw[Nat.add_assoc,Nat.pow_add,← eB];omega
set_option maxHeartbeats 400000 in
theorem bits_c(w:World)(a1:Option Addr)(n1 c1 k1 x:Nat)(h1:NatAt w k1 a1 n1 c1 x)(s1:k1≤1073741824):
    Calls Tryz.prog 125 #[.slice a1 n1 c1] w (RSame w (.int .i64 (bitLen x:Nat))):=by
  obtain⟨xs,h1,l1,hz,rfl⟩:=h1;have hlen:=h1.len;have hlt:=h1.lt;rcases Nat.eq_zero_or_pos n1 with h0|h0
  · have hv:bitLen (natVal xs)=0:=by
      have:xs= []:=List.eq_nil_of_length_eq_zero (by omega);subst this;rfl
    rw[hv];subst h0;clear h1 hz hlen hlt hv;go_enter Tryz.func125,Tryz.ntmps125
    go_wp2
    go_ret
    exact⟨rfl,rfl⟩
  · obtain⟨m,rfl⟩:∃m,n1=m+1:=⟨n1-1,by omega⟩
    have hz:=hz (by omega);simp only[Nat.add_sub_cancel]at hz;have hv:=hid (bitLen_natVal xs m hlen hlt hz);rcases h1.shape with h| ⟨b,off,rfl,hb⟩
    ·omega
    have hc:=h1.cell m (by omega);have hx:=hlt m;clear h1 hlen hlt hz;generalize xs.getD m 0=x at*;obtain⟨hL,hbl⟩:=lib_bitLen x hx;go_enter Tryz.func125,Tryz.ntmps125;go_wp2_with (go_at_call 148;refine(Tryz.bits_Len32 _ _ (by omega) (by omega)).mono ?_;rintro e w' ⟨rfl,rfl⟩)
    go_ret
    exact RSame.mk' (by rw[hv.out];simp)
end Go.Proofs.YtenhciieboegbaaGreatDoor
namespace Go.Proofs.YtenhciieboegbaaGreatDoor
theorem guess_ge(q V W Nu lo P x0 first v1 v2 V0:Nat)(hq:q*(V*W)≤Nu)(hN:Nu=lo+W*P*(x0+4294967296*first))(hlo:lo<W*P)(hx0:x0<4294967296)
    (hV:V=V0+P*(v2+4294967296*v1)):q*v1≤first:=by
  apply Nat.le_of_not_lt;intro h;have h1:W*P*(4294967296*(first+1))≤W*P*(4294967296*(q*v1)):=Nat.mul_le_mul_left _ (by omega);have h2:W*P*(x0+4294967296*first+1)≤W*P*(4294967296*(first+1)):=Nat.mul_le_mul_left _ (by omega);have h3:q*(V*W)=W*(q*V0)+W*P*(q*v2)+W*P*(4294967296*(q*v1)):=by subst hV;grind
  have h4:W*P*(x0+4294967296*first+1)=W*P*(x0+4294967296*first)+W*P:=by rw[Nat.mul_add,Nat.mul_one]
  generalize W*P*(4294967296*(q*v1))=a1 at*;generalize W*P*(4294967296*(first+1))=a2 at*;generalize W*P*(x0+4294967296*first)=a3 at*;omega
theorem guess_dec(q g r V W Nu lo P x0 first v1 v2 V0:Nat)(hq:q*(V*W)≤Nu)(hN:Nu=lo+W*P*(x0+4294967296*first))(hlo:lo<W*P)
    (hV:V=V0+P*(v2+4294967296*v1)) (hqg:q≤g) (hg:g*v1+r=first) (ht:r*4294967296+x0<g*v2):q+1≤g:=by
  rcases Nat.lt_or_ge q g with h|h
  ·exact h
  · exfalso
    obtain rfl:q=g:=by omega
    have h1:q*(V*W)=W*(q*V0)+W*P*(q*v2+4294967296*(q*v1)):=by subst hV;grind
    have h2:x0+4294967296*first+1≤q*v2+4294967296*(q*v1):=by
      generalize q*v1=a at*;generalize q*v2=b at*;omega
    have h3:=Nat.mul_le_mul_left (W*P) h2;rw[Nat.mul_add _ _ 1,Nat.mul_one]at h3;generalize W*P*(q*v2+4294967296*(q*v1))=a1 at*;generalize W*P*(x0+4294967296*first)=a3 at*;omega
theorem digit_lt(q X Nu:Nat)(hq:q*X≤Nu)(hN:Nu<X*4294967296):q<4294967296:=by
  apply Nat.lt_of_not_le;intro h;have:=Nat.mul_le_mul_right X h;rw[Nat.mul_comm 4294967296]at this;omega
theorem guess_le(g r V W Nu lo P x0 first v1 v2 V0:Nat)(hN:Nu=lo+W*P*(x0+4294967296*first))(hV:V=V0+P*(v2+4294967296*v1))(hV0:V0<P)
    (hg:g*v1+r=first) (ht:g*v2≤r*4294967296+x0) (hgB:g≤4294967296) (hv1:0<v1):g*(V*W)≤Nu+V*W:=by
  have h1:g*(V*W)=W*(g*V0)+W*P*(g*v2+4294967296*(g*v1)):=by subst hV;grind
  have h2:g*v2+4294967296*(g*v1)≤x0+4294967296*first:=by
    generalize g*v1=a at*;generalize g*v2=b at*;omega
  have h3:=Nat.mul_le_mul_left (W*P) h2;have h4:W*(g*V0)≤W*(4294967296*P):=Nat.mul_le_mul_left _ (Nat.mul_le_mul hgB (by omega))
  have h5:W*(4294967296*P)≤V*W:=by
    rw[Nat.mul_comm V];apply Nat.mul_le_mul_left;rw[hV,Nat.mul_comm _ P];have:P*4294967296≤P*(v2+4294967296*v1):=Nat.mul_le_mul_left _ (by omega);omega
  generalize W*(g*V0)=a1 at*;generalize W*(4294967296*P)=a2 at*;generalize W*P*(g*v2+4294967296*(g*v1))=a3 at*;generalize W*P*(x0+4294967296*first)=a4 at*;omega
theorem first_le(V W Nu lo P x0 x1 x2 v1 v2 V0:Nat)(hN:Nu=lo+W*P*(x0+4294967296*(x2*4294967296+x1)))(hlt:Nu<V*W*4294967296)(hV:V=V0+P*(v2+4294967296*v1))(hV0:V0<P)
    (hv2:v2<4294967296):x2≤v1:=by
  apply Nat.le_of_not_lt;intro h
  have h1:V<P*(4294967296*(v1+1)):=by
    have:P*(v2+4294967296*v1+1)≤P*(4294967296*(v1+1)):=Nat.mul_le_mul_left _ (by omega);rw[Nat.mul_add _ _ 1,Nat.mul_one]at this;omega
  have h2:V*W*4294967296≤P*(4294967296*(v1+1))*W*4294967296:=Nat.mul_le_mul_right _ (Nat.mul_le_mul_right _ (Nat.le_of_lt h1));have h3:W*P*(4294967296*((v1+1)*4294967296))≤W*P*(x0+4294967296*(x2*4294967296+x1)):=Nat.mul_le_mul_left _ (by omega);have h4:P*(4294967296*(v1+1))*W*4294967296=W*P*(4294967296*((v1+1)*4294967296)):=by grind
  omega
theorem guess_small(g r first v1 x1 x2:Nat)(hg:g*v1+r=first)(hf:first=x2*4294967296+x1)(hx1:x1<4294967296)(hx2:x2≤v1)(hr:4294967296≤r):g<4294967296:=by
  apply Nat.lt_of_not_le;intro h;have h1:4294967296*v1≤g*v1:=Nat.mul_le_mul_right _ h;have h2:x2*4294967296≤v1*4294967296:=Nat.mul_le_mul_right _ hx2;omega
theorem guess_final(g q X Nu:Nat)(h1:g*X≤Nu+X)(h2:Nu<(q+1)*X):g≤q+1:=by
  apply Nat.le_of_not_lt;intro h;have:=Nat.mul_le_mul_right X (show q+2≤g by omega);rw[Nat.add_mul]at*;omega
theorem prod2_lt(g v:Nat)(hg:g<4294967296)(hv:v<4294967296):g*v≤18446744065119617025:=by
  have:=Nat.mul_le_mul (show g≤4294967295 by omega) (show v≤4294967295 by omega);omega
theorem pv_zero_above(xs:List Nat)(k:Nat)(h:∀i,k≤i→xs.getD i 0=0):pv xs k=natVal xs:=by
  have key:∀m,pv xs (k+m)=pv xs k:=λm=>by
    induction m with
    |zero=>rfl
    |succ m ih=>rw[← Nat.add_assoc,pv,ih,h (k+m) (by omega),Nat.mul_zero,Nat.add_zero]
  rw[← key xs.length,pv_all xs _ (by omega)]
theorem zero_above(xs:List Nat)(k:Nat)(h:natVal xs<4294967296^k):∀i,k≤i→xs.getD i 0=0:=by
  intro i hi;rcases Nat.eq_zero_or_pos (xs.getD i 0)with h0|h0
  ·exact h0
  · exfalso
    have hil:i<xs.length:=by
      rcases Nat.lt_or_ge i xs.length with h1|h1
      ·exact h1
      ·rw[getD_big xs i h1]at h0;omega
    have e:=natVal_set xs i 0 hil;rw[Nat.mul_zero,Nat.add_zero]at e;have h1:4294967296^i*1≤4294967296^i*xs.getD i 0:=Nat.mul_le_mul_left _ h0;have h2:4294967296^k≤4294967296^i:=Nat.pow_le_pow_right (by omega) hi;rw[Nat.mul_one]at h1;omega
end Go.Proofs.YtenhciieboegbaaGreatDoor
