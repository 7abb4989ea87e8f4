/-
  cmp.Compare at int and uint32; the comparison of two naturals in package integer. At most 2^30 words each. A natural times a power of 2, in package integer. At most 2^29 words, a power of at most 2^30. A natural divided by a power of 2 less than 2^32, in package integer. At most 2^30 words.
  Long division of naturals in package integer. At most 2^28 words each, the divisor not 0. What the loops of long division keep in memory. No program beyond the type of a word.
-/
import Derived.Test.YtknffgdbdadpcaaGreatDoorAdd
import Derived.Test.YtknffgdbdadpcaaGreatDoorDivW
namespace Go.Proofs.YtknffgdbdadpcaaGreatDoor
open Go Go.RowKit
open Go.Proofs.Tryz
theorem jl{P:Prop}(h:P:=by simp;omega):P:=h
theorem zcb{P:Prop}(h:P:=by rw[hx,hy];exact h):P:=h
theorem zc9{P:Prop}(h:P:=by rw[Int.natCast_mul,Int.natCast_pow];rfl):P:=h
set_option maxRecDepth 100000
set_option maxHeartbeats 1000000
def qK(a b:Int):Int:=if a<b then -1 else if b<a then 1 else 0
theorem jW{a b:Int}(h:a<b):qK a b= -1:=by simp[qK,h]
theorem jD{a b:Int}(h:b<a):qK a b=1:=by
  have:¬a<b:=zb
  simp[qK,h,this]
theorem cmpI_eq{a b:Int}(h:a=b):qK a b=0:=by subst h;simp[qK]
theorem ret_int{k:IntKind}{a b:Int}(h:a=b):Ending.returned (.int k a)=.returned (.int k b):=by rw[h]
theorem compare_int_c(a b:Int)(w:World):Calls prog 98 #[.int .i64 a,.int .i64 b] w (RSame w (.int .i64 (qK a b))):=by
  have hn:∀x:Int,(x !=x)=false:=λx=>by simp
  rcases Int.lt_trichotomy a b with h|h|h
  · rw[jW h]
    go_enter func98,ntmps98
    go_wp2
    go_ret
    exact⟨rfl,rfl⟩
  · rw[cmpI_eq h]
    subst h;go_enter func98,ntmps98
    go_wp2
    go_ret
    exact⟨rfl,rfl⟩
  · rw[jD h]
    have h':¬a<b:=zb
    go_enter func98,ntmps98
    go_wp2
    go_ret
    exact⟨rfl,rfl⟩
theorem tDiv_4{P:Prop}(h:P:=by
  go_enter func139,ntmps139
  go_wp2
  go_ret
  exact⟨rfl,rfl⟩
  ):P:=h
theorem compare_u32_c(a b:Int)(w:World):Calls prog 139 #[.int .u32 a,.int .u32 b] w (RSame w (.int .i64 (qK a b))):=by
  have hn:∀x:Int,(x !=x)=false:=λx=>by simp
  rcases Int.lt_trichotomy a b with h|h|h
  · rw[jW h]
    exact tDiv_4
  · rw[cmpI_eq h]
    subst h;exact tDiv_4
  · rw[jD h]
    have h':¬a<b:=zb
    exact tDiv_4
theorem pv_lt_of(xs ys:List Nat)(hx:∀i,xs.getD i 0<4294967296)(k:Nat)(h:xs.getD k 0<ys.getD k 0):∀m,k<m->(∀i,k<i->xs.getD i 0=ys.getD i 0)->pv xs m<pv ys m:=by
  intro m
  induction m with
  |zero=>intro h;omega
  | succ m ih=>
    intro hm he;rw[pv,pv];rcases zQ k m with h1|h1
    · have:=ih h1 he
      rw[he m h1];omega
    · obtain rfl:m=k:=by omega
      have h2:=pv_lt xs hx m;have h3:4294967296^m*(xs.getD m 0+1)<=4294967296^m*ys.getD m 0:=Nat.mul_le_mul_left _ h;rw[Nat.mul_add,Nat.mul_one]at h3;omega
def SameFrom(A B:List Nat)(k:Nat):Prop:=∀i,k<=i->A.getD i 0=B.getD i 0
theorem SameFrom.step{A B:List Nat}{k:Nat}(h:SameFrom A B (k+1))(he:A.getD k 0=B.getD k 0):SameFrom A B k:=λi hi=>by
  rcases zQ k i with h1|h1
  ·exact h i h1
  · obtain rfl:i=k:=by omega
    exact he
theorem SameFrom.lt{A B:List Nat}{k n:Nat}(h:SameFrom A B (k+1))(hA:∀i,A.getD i 0<4294967296)(hk:k<n)(ha:A.length=n)(hb:B.length=n)(hlt:A.getD k 0<B.getD k 0):qF A<qF B:=by
  have:=pv_lt_of A B hA k hlt n hk (λi hi=>h i hi)
  rwa [qS A n (Nat.le_of_eq ha),qS B n (Nat.le_of_eq hb)]at this
theorem SameFrom.symm{A B:List Nat}{k:Nat}(h:SameFrom A B k):SameFrom B A k:=λi hi=>(h i hi).symm
theorem SameFrom.eq{A B:List Nat}{n:Nat}(h:SameFrom A B 0)(ha:A.length=n)(hb:B.length=n):qF A=qF B:=by
  have:=pv_congr (k:=n) (λi _=>h i (Nat.zero_le _))
  rwa [qS A n (Nat.le_of_eq ha),qS B n (Nat.le_of_eq hb)]at this
theorem cmp_same(w:World)(a1 a2:Option Addr)(n c1 c2:Nat)(A B:List Nat)(h1:Wd w a1 n c1 A)(h2:Wd w a2 n c2 B)(s1:n<=1073741824):
    Calls prog 99 #[.slice a1 n c1,.slice a2 n c2] w (RVal w (.int .i64 (qK (qF A) (qF B)))):=by
  have HA:=hid h1.lt;have HB:=hid h2.lt;have HlA:=hid h1.len;have HlB:=hid h2.len;have HW1:=hid h1;have HW2:=hid h2;have sh1:=h1.shape;have sh2:=h2.shape;clear h1 h2;have h00:qK (n:Int) (n:Int)=0:=cmpI_eq rfl;rcases sh1 with sh1| ⟨b1,off1,rfl,hb1⟩ <;> rcases sh2 with sh2| ⟨b2,off2,rfl,hb2⟩
  all_goals
    go_enter func99,ntmps99;go_wp2_with (go_at_call 98;refine(compare_int_c _ _ _).mono ?_;rintro e w' ⟨rfl,rfl⟩)
    clear h00
    go_loopw [6] (λi wr=>∃z:Int,-1<=z/\z<n/\i=.int .i64 z/\Hid (SameFrom A B (z+1).toNat)/\Ext w wr) (λi _=>(intOf i+1).toNat)
    case atStart=>exact⟨(n:Int)-1,by omega,by omega,rfl,λi hi=>by rw[xK _ _ (by rw[HlA.out];omega),xK _ _ (by rw[HlB.out];omega)],Ext.refl _⟩
    case round=>
      obtain⟨z,hz1,hz2,rfl,hsame,hext⟩:=hrel;by_cases hz0:0<=z
      · obtain ⟨j,rfl⟩:=Int.eq_ofNat_of_zero_le hz0
        first
          | (exfalso;omega)
          | (have c1:=(HW1.out.ext hext).cell j zb
             have c2:=(HW2.out.ext hext).cell j zb;have hsame':SameFrom A B (j+1):=hsame.out
             have HC:∀x y:Nat,A.getD j 0=x->B.getD j 0=y->(x<y->qF A<qF B)/\(y<x->qF B<qF A)/\(x=y->SameFrom A B j):=λx y hx hy=>
               ⟨λh=>hsame'.lt HA.out zb HlA.out HlB.out zcb,λh=>hsame'.symm.lt HB.out zb HlB.out HlA.out zcb,λh=>hsame'.step zcb⟩
             have HC:=hid (HC _ _ rfl rfl);clear hsame hsame';generalize A.getD j 0=x at c1 HC;generalize B.getD j 0=y at c2 HC;go_wp2_with fail
             go_quiet ((go_at_call 139;exact quiet_same (compare_u32_c _ _ _)))
             rcases Nat.lt_trichotomy x y with h|h|h
             · have hv:qK (x:Int) (y:Int)= -1:=jW zb
               rw[hv];have hg:=hid (HC.out.1 h);clear hv;go_wp2_with fail
               go_ret
               exact⟨ret_int (by rw[jW (by exact_mod_cast hg.out)]),hext.drewN _⟩
             · have hv:qK (x:Int) (y:Int)=0:=cmpI_eq zb
               rw[hv];have hg:=hid (HC.out.2.2 h);clear hv h;go_wp2_with fail
               go_roundw
               case rel=>exact⟨(j:Int)-1,by omega,by omega,rfl,by rw[show((j:Int)-1+1).toNat=j from by omega];exact hg,hext.drewN _⟩
               case measure=>simp[intOf]
             · have hv:qK (x:Int) (y:Int)=1:=jD zb
               rw[hv];have hg:=hid (HC.out.2.1 h);clear hv;go_wp2_with fail
               go_ret
               exact⟨ret_int (by rw[jD (by exact_mod_cast hg.out)]),hext.drewN _⟩)
      · obtain rfl:z= -1:=by omega
        have hv:SameFrom A B 0:=hsame.out;have hg:=hid (hv.eq HlA.out HlB.out);clear hv hsame;go_wp2_with fail
        go_ret
        exact⟨ret_int (cmpI_eq (congrArg (λn:Nat=>(n:Int)) hg.out)).symm,hext⟩
theorem tDiv_1{P:Prop}(h:P:=by
  clear hv h1 h2 e1 e2 z1 z2;go_enter func99,ntmps99;go_wp2_with (go_at_call 98;refine(compare_int_c _ _ _).mono ?_;rintro e w' ⟨rfl,rfl⟩)
  go_ret
  exact⟨rfl,Ext.refl _⟩
  ):P:=h
theorem cmp_c(w:World)(a1 a2:Option Addr)(n1 n2 c1 c2 k1 k2 x y:Nat)(h1:NatAt w k1 a1 n1 c1 x)(h2:NatAt w k2 a2 n2 c2 y)(s1:k1<=1073741824):
    Calls prog 99 #[.slice a1 n1 c1,.slice a2 n2 c2] w (RVal w (.int .i64 (qK x y))):=by
  obtain⟨xs,h1,l1,z1,rfl⟩:=h1;obtain⟨ys,h2,l2,z2,rfl⟩:=h2;have e1:=h1.len;have e2:=h2.len;rcases Nat.lt_trichotomy n1 n2 with h|h|h
  · have hv:qF xs<qF ys:=by
      have a:=xD xs h1.lt;have b:=xF ys zb (by rw[e2];exact z2 zb);have c:4294967296^xs.length<=4294967296^(ys.length-1):=Nat.pow_le_pow_right zb zb;omega
    rw[jW (by exact_mod_cast hv)];have hc:qK (n1:Int) (n2:Int)= -1:=jW zb;exact tDiv_1
  · subst h
    exact cmp_same w a1 a2 n1 c1 c2 xs ys h1 h2 zb
  · have hv:qF ys<qF xs:=by
      have a:=xD ys h2.lt;have b:=xF xs zb (by rw[e1];exact z1 zb);have c:4294967296^ys.length<=4294967296^(xs.length-1):=Nat.pow_le_pow_right zb zb;omega
    rw[jD (by exact_mod_cast hv)];have hc:qK (n1:Int) (n2:Int)=1:=jD zb;exact tDiv_1
def ShlInv(w0:World)(g N q R v i:Nat)(wr:World):Prop:=
  ∃ys,Own wr g ys/\ys.length=N/\(∀j,ys.getD j 0<4294967296)/\qF ys=v/\(∀j,i+q<j->ys.getD j 0=0)/\ys.getD (i+q) 0<R/\Ext w0 wr
theorem pow32(r:Nat)(h:r<=32):∃c,4294967296=c*2^r:=⟨2^(32-r),by rw[<-Nat.pow_add,show 32-r+r=32 from by omega]⟩
theorem mod_mul(x R:Nat)(h:∃c,4294967296=c*R):(x*R%4294967296)%R=0:=by
  obtain⟨c,hc⟩:=h;rw[hc,Nat.mul_mod_mul_right];exact Nat.mul_mod_left _ _
theorem shl_word(x r o:Nat)(hr:r<32)(ho:o<2^r):o|||(x*2^r%4294967296)=o+x*2^r%4294967296/\o+x*2^r%4294967296<4294967296:=by
  have hm:=mod_mul x (2^r) (pow32 r zb);refine⟨by rw[Nat.or_comm,nat_join r _ _ hm ho,Nat.add_comm],?_⟩;obtain⟨c,hc⟩:=pow32 r zb;have hlt:x*2^r%4294967296<4294967296:=zR _ zb
  obtain⟨d,hd⟩:∃d,x*2^r%4294967296=d*2^r:=by
    have:=Nat.div_add_mod (x*2^r%4294967296) (2^r);rw[hm,Nat.add_zero,Nat.mul_comm]at this;exact⟨_,this.symm⟩
  rw[hd]at hlt ⊢
  have h1:d<c:=by
    rw[hc]at hlt;exact Nat.lt_of_mul_lt_mul_right hlt
  have h2:(d+1)*2^r<=c*2^r:=Nat.mul_le_mul_right _ h1;rw[Nat.add_mul,Nat.one_mul]at h2;omega
theorem shl_top(x r:Nat)(hr:r<32)(hx:x<4294967296):x*2^r/4294967296<2^r/\x*2^r<9223372036854775808/\2^r<=2147483648:=by
  have h2:2^r<=2^31:=Nat.pow_le_pow_right zb zb;refine⟨?_,?_,by omega⟩
  · rw[Nat.div_lt_iff_lt_mul (by omega),Nat.mul_comm (2^r)]
    exact Nat.mul_lt_mul_of_pos_right hx (Nat.pos_of_ne_zero zh)
  · have:=Nat.mul_le_mul (show x<=4294967295 by omega) h2
    omega
theorem shl_next(v i q R x o t P:Nat)(A:List Nat)(hx:A.getD i 0=x)(hv:v=P*pv A i)(hP:P=4294967296^q*R)(ht:t=x*R):
    v+4294967296^(i+q)*(o+t%4294967296)+4294967296^(i+q+1)*(t/4294967296)=P*pv A (i+1)+4294967296^(i+q)*o:=by
  have h:4294967296*(t/4294967296)+t%4294967296=t:=zb
  generalize t/4294967296=a at*;generalize t%4294967296=b at*;rw[pv,hx,hv,hP,Nat.pow_add,Nat.pow_succ,Nat.pow_add];have h2:4294967296^i*4294967296^q*(4294967296*a+b)=4294967296^i*4294967296^q*(x*R):=by rw[h,ht]
  grind
theorem ShlInv.start{w0 wr:World}{g n q R:Nat}(h:Own wr g (List.replicate n 0))(he:Ext w0 wr)(hR:0<R):ShlInv w0 g n q R 0 0 wr:=
  ⟨_,h,by simp,λi=>by rw[qZ];omega,xU n,λi _=>qZ _ _,by rw[qZ];exact hR,he⟩
theorem ShlInv.fin{w0 wr:World}{g N q R v i:Nat}(h:ShlInv w0 g N q R v i wr)(hN:N<=140737488355328):
    ∃ys,Wd wr (some ⟨g,0,none⟩) N N ys/\qF ys=v/\Ext w0 wr:=by
  obtain⟨ys,h1,h2,h3,h4,h5,h6,h7⟩:=h;have hw:=h1.wd h3 N (Nat.le_of_eq h2) hN;rw[h2]at hw;exact⟨ys,hw,h4,h7⟩
theorem ShlInv.step{w0 wr:World}{g N q r v i P:Nat}{A:List Nat}(h:ShlInv w0 g N q (2^r) v i wr)(hN:i+q+1<N)(hr:r<32)(hx:A.getD i 0<4294967296)(hg:w0.heap.size<=g)
    (hv:v=P*pv A i) (hP:P=4294967296^q*2^r):
    ∃ o,wr.cell? ⟨g,i+q,none⟩=some (.int .u32 (o:Nat))/\o<4294967296/\wr.frozen? ⟨g,i+q,none⟩=false/\wr.cell? ⟨g,i+q+1,none⟩=some (.int .u32 (0:Nat))/\wr.frozen? ⟨g,i+q+1,none⟩=false/\Ext w0 wr/\
      o|||(A.getD i 0*2^r%4294967296)=o+A.getD i 0*2^r%4294967296/\
      ShlInv w0 g N q (2^r) (P*pv A (i+1)) (i+1) ((wr.setCell ⟨g,i+q,none⟩ (.int .u32 ((o+A.getD i 0*2^r%4294967296:Nat):Int))).setCell ⟨g,i+q+1,none⟩ (.int .u32 ((A.getD i 0*2^r/4294967296:Nat):Int))):=by
  obtain⟨ys,h1,h2,h3,h4,h5,h6,h7⟩:=h;obtain⟨w1,w2⟩:=shl_word (A.getD i 0) r _ hr h6;obtain⟨t1,t2,t3⟩:=shl_top (A.getD i 0) r hr hx;have z1:=h5 (i+q+1) zb;refine⟨ys.getD (i+q) 0,h1.cell _ zb,h3 _,h1.free _,by rw[h1.cell _ (by omega),z1],h1.free _,h7,w1,?_⟩;refine⟨_,(h1.set _ _).set _ _,by simpa using h2,λj=>?_,?_,λj hj=>?_,?_,(h7.set hg _).set hg _⟩
  · rw [qN _ _ _ _ (by simp;omega),qN _ _ _ _ (by omega)]
    split
    ·omega
    · split
      ·exact w2
      ·exact h3 j
  · have e1:=xQ ys (i+q) (ys.getD (i+q) 0+A.getD i 0*2^r%4294967296) zb
    have e2:=xQ (ys.set (i+q) (ys.getD (i+q) 0+A.getD i 0*2^r%4294967296)) (i+q+1) (A.getD i 0*2^r/4294967296) jl;rw[qN _ _ _ _ (by omega),if_neg (by omega),z1,Nat.mul_zero,Nat.add_zero]at e2;have e3:=shl_next v i q (2^r) _ (ys.getD (i+q) 0) _ P A rfl hv hP rfl;rw[h4]at e1;rw[e2];generalize 4294967296^(i+q)*ys.getD (i+q) 0=a at*;generalize 4294967296^(i+q)*(ys.getD (i+q) 0+A.getD i 0*2^r%4294967296)=b at*;generalize 4294967296^(i+q+1)*(A.getD i 0*2^r/4294967296)=c at*;omega
  · rw[qN _ _ _ _ (by simp;omega),if_neg (by omega),qN _ _ _ _ (by omega),if_neg (by omega)]
    exact h5 j zb
  · rw[show i+1+q=i+q+1 from by omega,qN _ _ _ _ (by simp;omega),if_pos rfl]
    exact t1
theorem tDiv_2{P:Prop}(h:P:=by
  clear hinv;go_wp2_with (go_at_call 135;refine(trim_c _ _ _ _ _ hz1).mono ?_;rintro e w3 ⟨ao,n,cap,rfl,he,hn⟩)
  go_ret
  exact⟨ao,n,cap,rfl,hz3.trans he,hz2.out▸hn⟩
  ):P:=h
theorem shl_wd (w:World)(a1:Option Addr)(n1 c1 s:Nat)(A:List Nat)(h1:Wd w a1 n1 c1 A)(s1:n1<=536870912)(s2:s<=1073741824):
    Calls prog 185 #[.slice a1 n1 c1,.int .i64 s] w (RNat w (n1+s/32+1) (2^s*qF A)):=by
  have HA:=hid h1.lt;have HlA:=hid h1.len;have HW1:=hid h1;have sh1:=h1.shape
  have HP:Hid (2^s=4294967296^(s/32)*2^(s%32)):=by
    show _=_;rw[show(4294967296:Nat)=2^32 from rfl,<-Nat.pow_mul,<-Nat.pow_add,Nat.div_add_mod]
  clear h1;rcases sh1 with sh1| ⟨b1,off1,rfl,hb1⟩
  all_goals
    go_enter func185,ntmps185;go_wp2_with (at_make;refine jJ rfl _ _ _ rfl underlying125 _ _ (n1+s/32+1) rfl rfl zb zb zb ?_;intro w1 e1 z1 o1)
    have I0:=hid (ShlInv.start (q:=s/32) (R:=2^(s%32)) o1 e1 (Nat.pos_of_ne_zero zh));clear o1 e1 z1
    go_loopw [18] (λi wr=>∃k:Nat,k<=n1/\i=.int .i64 k/\Hid (ShlInv w w.heap.size (n1+s/32+1) (s/32) (2^(s%32)) (2^s*pv A k) k wr)) (λi _=>n1-(intOf i).toNat)
    case atStart=>exact⟨0,by omega,rfl,I0⟩
    case round=>
      clear I0;obtain⟨i,hi,rfl,hinv⟩:=hrel;by_cases hi1:i<n1
      · first
          | (exfalso;omega)
          | (obtain⟨o,hc1,ho,hf1,hc2,hf2,hext,hor,hst⟩:=hinv.out.step zb (zR _ zb) (HA.out i) (zL _) rfl HP.out
             have hcA:=(HW1.out.ext hext).cell i hi1;have hxl:=HA.out i;have Hst:=hid hst;clear hst hinv;generalize A.getD i 0=x at*;obtain⟨t1,t2,t3⟩:=shl_top x (s%32) (zR _ zb) hxl;have hb:=u32_or_nat o (x*2^(s%32)%4294967296) ho zb;rw[hor]at hb
             have ht:IntKind.u64.wrap ((x:Int)*2^(s%32))=((x*2^(s%32):Nat):Int):=by
               have e:(x:Int)*2^(s%32)=((x*2^(s%32):Nat):Int):=zc9
               rw[IntKind.wrap_u64,e];clear hor t1 t3 hb;generalize x*2^(s%32)=t at*;omega
             clear hor t1 t3;generalize x*2^(s%32)=t at*;have hb2:bits .or .u32 (o:Int) ((t:Int)%4294967296)=((o+t%4294967296:Nat):Int):=by rw[<-hb];simp
             have ht2:(t:Int)/4294967296%4294967296=((t/4294967296:Nat):Int):=zb
             clear hb;go_wp2_with fail
             go_roundw
             case rel=>exact⟨i+1,by omega,by go_num,Hst⟩
             case measure=>simp[intOf];omega)
      · obtain rfl:i=n1:=by omega
        obtain⟨zs,hz1,hz2,hz3⟩:=hinv.out.fin zb;have hz2:=hid (hz2.trans (by rw[qS A _ (Nat.le_of_eq HlA.out)]));exact tDiv_2
theorem shl_c(w:World)(a1:Option Addr)(n1 c1 s k1 x:Nat)(h1:NatAt w k1 a1 n1 c1 x)(s1:k1<=536870912)(s2:s<=1073741824):
    Calls prog 185 #[.slice a1 n1 c1,.int .i64 s] w (RNat w (k1+s/32+1) (x*2^s)):=by
  obtain⟨xs,h1,l1,_,rfl⟩:=h1;refine(shl_wd w a1 n1 c1 s xs h1 zb s2).mono ?_;rintro e w' ⟨ao,n,cap,he,hx,hn⟩;rw[Nat.mul_comm];exact⟨ao,n,cap,he,hx,hn.mono zb⟩
theorem shr_word(x y R c:Nat)(hx:x<4294967296)(hR:0<R)(hc:4294967296=c*R):
    R*((x+4294967296*y)/R%4294967296)+x%R=x+4294967296*(y%R):=by
  have h1:(x+4294967296*y)/R=x/R+c*y:=by
    rw[hc,show c*R*y=R*(c*y)from by grind,Nat.add_mul_div_left _ _ hR]
  have h2:x/R<c:=by
    rw[Nat.div_lt_iff_lt_mul hR,<-hc];exact hx
  have h3:(x/R+c*y)%4294967296=x/R+c*(y%R):=by
    rw[hc,Nat.mod_mul,Nat.add_mul_mod_self_left,Nat.mod_eq_of_lt h2,Nat.add_mul_div_left _ _ (Nat.zero_lt_of_lt h2),Nat.div_eq_of_lt h2,Nat.zero_add]
  rw[h1,h3,Nat.mul_add];have h4:=Nat.div_add_mod x R;have h5:4294967296*(y%R)=R*(c*(y%R)):=by rw[hc];grind
  rw[h5];omega
def ShrInv(w0:World)(g N R:Nat)(A:List Nat)(k:Nat)(wr:World):Prop:=
  ∃ys,Own wr g ys/\ys.length=N/\(∀i,ys.getD i 0<4294967296)/\R*pv ys k+A.getD 0 0%R=pv A k+4294967296^k*(A.getD k 0%R)/\Ext w0 wr
theorem ShrInv.start{w0 wr:World}{g n R:Nat}{A:List Nat}(h:Own wr g (List.replicate n 0))(he:Ext w0 wr):ShrInv w0 g n R A 0 wr:=
  ⟨_,h,by simp,λi=>by rw[qZ];omega,by simp[pv],he⟩
theorem ShrInv.fin{w0 wr:World}{g N R:Nat}{A:List Nat}(h:ShrInv w0 g N R A N wr)(hN:N<=140737488355328)(hl:A.length=N)(hR:0<R):
    ∃ys,Wd wr (some ⟨g,0,none⟩) N N ys/\qF ys=qF A/R/\Ext w0 wr:=by
  obtain⟨ys,h1,h2,h3,h4,h7⟩:=h;have hw:=h1.wd h3 N (Nat.le_of_eq h2) hN;rw[h2]at hw;refine⟨ys,hw,?_,h7⟩;rw[qS ys _ (Nat.le_of_eq h2),qS A _ (Nat.le_of_eq hl),xK A N (Nat.le_of_eq hl),Nat.zero_mod,Nat.mul_zero,Nat.add_zero]at h4;rw[<-h4,Nat.mul_add_div hR,Nat.div_eq_of_lt (zR _ hR),Nat.add_zero]
theorem ShrInv.step{w0 wr:World}{g N R c k:Nat}{A:List Nat}(h:ShrInv w0 g N R A k wr)(hk:k<N)(hg:w0.heap.size<=g)(hA:∀i,A.getD i 0<4294967296)(hR:0<R)(hc:4294967296=c*R):
    wr.frozen? ⟨g,k,none⟩=false/\(∃o:Nat,wr.cell? ⟨g,k,none⟩=some (.int .u32 o))/\Ext w0 wr/\
      ShrInv w0 g N R A (k+1) (wr.setCell ⟨g,k,none⟩ (.int .u32 (((A.getD k 0+4294967296*A.getD (k+1) 0)/R%4294967296:Nat):Int))):=by
  obtain⟨ys,h1,h2,h3,h4,h7⟩:=h;refine⟨h1.free _,⟨_,h1.cell _ zb⟩,h7,?_⟩;refine⟨_,h1.set _ _,by simpa using h2,λj=>?_,?_,h7.set hg _⟩
  · rw[qN _ _ _ _ (by omega)];split
    ·exact zR _ zb
    ·exact h3 j
  · have e:=shr_word (A.getD k 0) (A.getD (k+1) 0) R c (hA k) hR hc
    rw[pv,pv,pv_set _ _ _ (by omega),qN _ _ _ _ (by omega),if_pos rfl];generalize(A.getD k 0+4294967296*A.getD (k+1) 0)/R%4294967296=q at*;have e2:4294967296^k*(R*q+A.getD k 0%R)=4294967296^k*(A.getD k 0+4294967296*(A.getD (k+1) 0%R)):=by rw[e]
    generalize A.getD k 0%R=a at*;generalize A.getD (k+1) 0%R=b at*;rw[Nat.pow_succ]
    grind
theorem shr_wd (w:World)(a1:Option Addr)(n1 c1 s:Nat)(A:List Nat)(h1:Wd w a1 n1 c1 A)(s1:n1<=1073741824)(s2:s<32):
    Calls prog 188 #[.slice a1 n1 c1,.int .i64 s] w (RNat w n1 (qF A/2^s)):=by
  have HA:=hid h1.lt;have HlA:=hid h1.len;have HW1:=hid h1;have sh1:=h1.shape;obtain⟨c,hc⟩:∃c,4294967296=c*2^s:=⟨2^(32-s),by rw[<-Nat.pow_add,show 32-s+s=32 from by omega]⟩;have Hc:=hid hc;have hpos:0<2^s:=Nat.pos_of_ne_zero zh;clear h1 hc;rcases sh1 with sh1| ⟨b1,off1,rfl,hb1⟩
  all_goals
    go_enter func188,ntmps188;go_wp2_with (at_make;refine jJ rfl _ _ _ rfl underlying125 _ _ n1 rfl rfl zb zb zb ?_;intro w1 e1 z1 o1)
    have I0:=hid (ShrInv.start (R:=2^s) (A:=A) o1 e1);clear o1 e1 z1
    go_loopw [13] (λi wr=>∃k:Nat,k<=n1/\i=.int .i64 k/\Hid (ShrInv w w.heap.size n1 (2^s) A k wr)) (λi _=>n1-(intOf i).toNat)
    case atStart=>exact⟨0,by omega,rfl,I0⟩
    case round=>
      clear I0;obtain⟨i,hi,rfl,hinv⟩:=hrel;by_cases hi1:i<n1
      · first
          | (exfalso;omega)
          | (obtain⟨hf1,⟨o,hc1⟩,hext,hst⟩:=hinv.out.step hi1 (zL _) HA.out hpos Hc.out
             have hcA:=(HW1.out.ext hext).cell i hi1;have hcB:=λh=>(HW1.out.ext hext).cell (i+1) h
             have hxl:=HA.out i;have hyl:=HA.out (i+1);have hy0:n1<=i+1->A.getD (i+1) 0=0:=λh=>xK _ _ (by rw[HlA.out];exact h)
             have Hst:=hid hst;clear hst hinv;generalize A.getD i 0=x at*;generalize A.getD (i+1) 0=y at*;by_cases hi2:i+1<n1
             · have hcB:=hcB hi2
               clear hy0
               have hor:bits .or .u64 (x:Int) ((y:Int)*4294967296)=((x+4294967296*y:Nat):Int):=by
                 have:=u64_or_nat x (y*4294967296) zb zb;rw[Nat.or_comm,nat_join 32 _ _ (by omega) (by omega)]at this;simp only[Int.natCast_mul]at this;rw[show((4294967296:Nat):Int)=4294967296 from rfl]at this;rw[this];omega
               go_wp2_with fail
               go_roundw
               case rel=>exact⟨i+1,by omega,by go_num,by simpa using Hst⟩
               case measure=>simp[intOf];omega
             · have hy0:=hy0 zb
               subst hy0;clear hcB;go_wp2_with fail
               go_roundw
               case rel=>exact⟨i+1,by omega,by go_num,by simpa using Hst⟩
               case measure=>simp[intOf];omega)
      · obtain rfl:i=n1:=by omega
        obtain⟨zs,hz1,hz2,hz3⟩:=hinv.out.fin zb HlA.out hpos;have hz2:=hid hz2;exact tDiv_2
theorem shr_c(w:World)(a1:Option Addr)(n1 c1 s k1 x:Nat)(h1:NatAt w k1 a1 n1 c1 x)(s1:k1<=1073741824)(s2:s<32):
    Calls prog 188 #[.slice a1 n1 c1,.int .i64 s] w (RNat w k1 (x/2^s)):=by
  obtain⟨xs,h1,l1,_,rfl⟩:=h1;refine(shr_wd w a1 n1 c1 s xs h1 zb s2).mono ?_;rintro e w' ⟨ao,n,cap,he,hx,hn⟩;exact⟨ao,n,cap,he,hx,hn.mono zb⟩
def RDiv(w0:World)(k1 k2 q r:Nat)(e:Ending)(w':World):Prop:=
  ∃ao n cap ao' n' cap',e=.returned (.tuple #[.slice ao n cap,.slice ao' n' cap'])/\Ext w0 w'/\NatAt w' k1 ao n cap q/\NatAt w' k2 ao' n' cap' r
theorem NatAt.lt{w:World}{k n cap m:Nat}{ao:Option Addr}(h:NatAt w k ao n cap m):m<4294967296^n:=by
  obtain⟨xs,h1,h2,h3,h4⟩:=h;have:=xD xs h1.lt;rw[h1.len,h4]at this;exact this
theorem NatAt.ge{w:World}{k n cap m:Nat}{ao:Option Addr}(h:NatAt w k ao n cap m)(hn:0<n):4294967296^(n-1)<=m:=by
  obtain⟨xs,h1,h2,h3,h4⟩:=h;have:=xF xs (by rw[h1.len];exact hn) (by rw[h1.len];exact h3 hn);rw[h1.len,h4]at this;exact this
theorem NatAt.tight{w:World}{k k' n cap m:Nat}{ao:Option Addr}(h:NatAt w k ao n cap m)(hm:m<4294967296^k'):NatAt w k' ao n cap m:=by
  have hn:n<=k':=by
    rcases zI n with h0|h0
    ·omega
    · have h1:=h.ge h0
      have:=(Nat.pow_lt_pow_iff_right (a:=4294967296) zb).1 (Nat.lt_of_le_of_lt h1 hm);omega
  obtain⟨xs,h1,h2,h3⟩:=h;exact⟨xs,h1,hn,h3⟩
theorem NatAt.zero{w:World}{k n cap m:Nat}{ao:Option Addr}(h:NatAt w k ao n cap m):m=0↔n=0:=by
  constructor
  · intro hm
    rcases zI n with h0|h0
    ·exact h0
    · have:=h.ge h0
      have:0<4294967296^(n-1):=Nat.pos_of_ne_zero zh;omega
  · intro hn
    have:=h.lt;rw[hn]at this;simpa using this
def lz(x:Nat):Nat:=32-bitLen x
theorem lz_bounds(x:Nat)(h0:x≠0)(h:x<4294967296):lz x<32/\2147483648<=x*2^lz x/\x*2^lz x<4294967296:=by
  obtain⟨k,h1,h2,h3⟩:=xO x h0;have h4:=(lib_bitLen x h).2;unfold lz;have h5:k<=31:=zb
  refine⟨by omega,?_,?_⟩
  · have e:(2147483648:Nat)=2^k*2^(32-bitLen x):=by rw[<-Nat.pow_add,show k+(32-bitLen x)=31 from by omega]
    rw[e];exact Nat.mul_le_mul_right _ h2
  · have e:(4294967296:Nat)=2^(k+1)*2^(32-bitLen x):=by rw[<-Nat.pow_add,show k+1+(32-bitLen x)=32 from by omega]
    rw[e];exact Nat.mul_lt_mul_of_pos_right h3 (Nat.pos_of_ne_zero zh)
theorem lz_c(x:Nat)(h:x<4294967296)(w:World):Calls prog 184 #[.int .u32 x] w (RSame w (.int .i64 (lz x:Nat))):=by
  obtain⟨h1,h2⟩:=lib_bitLen x h;refine(Tryz.bits_LeadingZeros32 x w zb zb).mono ?_;rintro e w' ⟨he,hw⟩;exact⟨by rw[he];unfold lz;simp only[Int.toNat_natCast,h1];congr 2;omega,hw.symm⟩
theorem div_small(w:World)(a1 a2:Option Addr)(n1 n2 c1 c2 k1 k2 x y:Nat)(h1:NatAt w k1 a1 n1 c1 x)(h2:NatAt w k2 a2 n2 c2 y)(s1:k1<=268435456)(hlt:x<y):
    Calls prog 149 #[.slice a1 n1 c1,.slice a2 n2 c2] w (RDiv w k1 k2 (x/y) (x%y)):=by
  have hc:=hid (cmp_c w a1 a2 n1 n2 c1 c2 k1 k2 x y h1 h2 zb);have hv:qK (x:Int) (y:Int)= -1:=jW zb;have hy:=h2.lt;have hy':y<4294967296^k2:=Nat.lt_of_lt_of_le hy (Nat.pow_le_pow_right zb h2.le);have hr:=hid (h1.tight (Nat.lt_trans hlt hy'));rw[Nat.div_eq_of_lt hlt,Nat.mod_eq_of_lt hlt];rw[hv]at hc;clear h1 h2 hy hy' hv hlt;go_enter func149,ntmps149;go_wp2_with (go_at_call 99;refine(hc.out).mono ?_;rintro e w' ⟨rfl,he⟩)
  go_ret2
  exact⟨_,_,_,_,_,_,rfl,he,⟨[],wd_nil _ _ _ zb,by omega,by omega,rfl⟩,hr.out.ext he⟩
theorem div_word(w:World)(a1 a2:Option Addr)(n1 c1 c2 k1 k2 x y:Nat)(h1:NatAt w k1 a1 n1 c1 x)(h2:NatAt w k2 a2 1 c2 y)(s1:k1<=268435456)(hge:y<=x):
    Calls prog 149 #[.slice a1 n1 c1,.slice a2 1 c2] w (RDiv w k1 k2 (x/y) (x%y)):=by
  have hc:=hid (cmp_c w a1 a2 n1 1 c1 c2 k1 k2 x y h1 h2 zb)
  have hv:∃c:Int,qK (x:Int) (y:Int)=c/\0<=c:=by
    rcases Nat.eq_or_lt_of_le hge with h|h
    ·exact⟨0,cmpI_eq zb,by omega⟩
    ·exact⟨1,jD zb,by omega⟩
  obtain⟨c,hv,hc0⟩:=hv;rw[hv]at hc;have hyl:=h2.lt;have hyp:=h2.ge zb;have hk2:=h2.le;simp only[Nat.pow_one,Nat.sub_self,Nat.pow_zero]at hyl hyp;obtain⟨ys,h2a,_,_,h2b⟩:=h2
  have hy0:ys.getD 0 0=y:=by
    have:=qS ys 1 (Nat.le_of_eq h2a.len);rw[h2b]at this
    simpa [pv]using this
  have hcell:∃b off,a2=some ⟨b,off,none⟩/\w.cell? ⟨b,off,none⟩=some (.int .u32 (y:Nat)):=by
    rcases h2a.shape with h| ⟨b,off,rfl,hb⟩
    ·omega
    ·exact⟨b,off,rfl,by have:=h2a.cell 0 zb;rw[hy0]at this;exact this⟩
  obtain⟨b,off,rfl,hcell⟩:=hcell;have H1:=hid h1;have hrl:x%y<4294967296:=Nat.lt_trans (zR _ hyp) hyl;clear h1 h2a h2b hy0 hv hge;go_enter func149,ntmps149
  go_wp2_with (first
    | (go_at_call 99;refine(hc.out).mono ?_;rintro e w' ⟨rfl,he⟩;have hcell:=he.cell hcell)
    | (go_at_call 104;refine(divw_c _ _ _ _ _ _ _ (H1.out.ext he) zb hyp hyl).mono ?_;rintro e w2 ⟨ao,n,cap,rfl,he2,hq⟩)
    | (go_at_call 135;refine(trim_c _ _ _ _ [x%y] (wd_new1 _ _ hrl)).mono ?_;rintro e w3 ⟨ao',n',cap',rfl,he3,hr⟩))
  go_ret2
  have he4:=(Ext.refl w2).alloc (.cells #[.int .u32 ((x%y:Nat):Int)] 100);simp only[qF,Nat.mul_zero,Nat.add_zero]at hr;exact⟨_,_,_,_,_,_,rfl,(he.trans he2).trans (he4.trans he3),hq.ext (he4.trans he3),hr.mono hk2⟩
theorem Own.set_other{w:World}{g g':Nat}{ys:List Nat}(h:Own w g ys)(hg:g≠g')(i:Nat)(v:Value):Own (w.setCell ⟨g',i,none⟩ v) g ys:=by
  unfold Own at*;simp only[World.setCell,Array.getElem?_modify];rw[if_neg (by omega)];exact h
structure Two (w1:World) (gu gq N M:Nat) (us qs:List Nat) (wr:World):Prop where
  ou:Own wr gu us
  oq:Own wr gq qs
  lu:us.length=N
  lq:qs.length=M
  wu:∀i,us.getD i 0<4294967296
  wq:∀i,qs.getD i 0<4294967296
  ne:gu≠gq
  hu:w1.heap.size<=gu
  hq:w1.heap.size<=gq
  ext:Ext w1 wr
theorem Two.setU{w1 wr:World}{gu gq N M:Nat}{us qs:List Nat}(h:Two w1 gu gq N M us qs wr)(i y:Nat)(hi:i<N)(hy:y<4294967296):
    Two w1 gu gq N M (us.set i y) qs (wr.setCell ⟨gu,i,none⟩ (.int .u32 (y:Nat))):=
  ⟨h.ou.set _ _,h.oq.set_other (Ne.symm h.ne) _ _,by simp[h.lu],h.lq,λj=>by
    rw[qN _ _ _ _ (by rw[h.lu];exact hi)];split
    ·exact hy
    ·exact h.wu j,h.wq,h.ne,h.hu,h.hq,h.ext.set h.hu _⟩
theorem Two.setQ{w1 wr:World}{gu gq N M:Nat}{us qs:List Nat}(h:Two w1 gu gq N M us qs wr)(i y:Nat)(hi:i<M)(hy:y<4294967296):
    Two w1 gu gq N M us (qs.set i y) (wr.setCell ⟨gq,i,none⟩ (.int .u32 (y:Nat))):=
  ⟨h.ou.set_other h.ne _ _,h.oq.set _ _,h.lu,by simp[h.lq],h.wu,λj=>by
    rw[qN _ _ _ _ (by rw[h.lq];exact hi)];split
    ·exact hy
    ·exact h.wq j,h.ne,h.hu,h.hq,h.ext.set h.hq _⟩
theorem Two.after{w1 wr w2:World}{gu gq N M:Nat}{us qs:List Nat}(h:Two w1 gu gq N M us qs wr)(e:Ext wr w2):Two w1 gu gq N M us qs w2:=
  ⟨h.ou.ext e,h.oq.ext e,h.lu,h.lq,h.wu,h.wq,h.ne,h.hu,h.hq,h.ext.trans e⟩
theorem Two.cellU{w1 wr:World}{gu gq N M:Nat}{us qs:List Nat}(h:Two w1 gu gq N M us qs wr)(i:Nat)(hi:i<N):
    wr.cell? ⟨gu,i,none⟩=some (.int .u32 ((us.getD i 0:Nat):Int))/\wr.frozen? ⟨gu,i,none⟩=false:=⟨h.ou.cell i (by rw[h.lu];exact hi),h.ou.free i⟩
theorem Two.cellQ{w1 wr:World}{gu gq N M:Nat}{us qs:List Nat}(h:Two w1 gu gq N M us qs wr)(i:Nat)(hi:i<M):
    wr.cell? ⟨gq,i,none⟩=some (.int .u32 ((qs.getD i 0:Nat):Int))/\wr.frozen? ⟨gq,i,none⟩=false:=⟨h.oq.cell i (by rw[h.lq];exact hi),h.oq.free i⟩
def DOut(w1:World)(gu gq N M:Nat)(vs:List Nat)(A k:Nat)(wr:World):Prop:=
  ∃us qs,Two w1 gu gq N M us qs wr/\qF qs*qF vs+qF us=A/\qF us<qF vs*4294967296^k/\(∀i,i<k->qs.getD i 0=0)
def DMs(w1:World)(gu gq N M:Nat)(vs us0 qs:List Nat)(g j k c b:Nat)(wr:World):Prop:=
  ∃us,Two w1 gu gq N M us qs wr/\qF us+g*(pv vs k*4294967296^j)=qF us0+4294967296^(j+k)*(b+c)/\(∀i,j+k<=i->us.getD i 0=us0.getD i 0)
theorem tDiv_3{P:Prop}(h:P:=by
  rw[qN _ _ _ _ (by rw[t.lu];exact hN),if_neg (by omega)];exact z i zb
  ):P:=h
theorem DMs.step{w1 wr:World}{gu gq N M g j k c b:Nat}{vs us0 qs:List Nat}(h:DMs w1 gu gq N M vs us0 qs g j k c b wr)(hN:j+k<N)(hb:b<=1):
    wr.cell? ⟨gu,j+k,none⟩=some (.int .u32 ((us0.getD (j+k) 0:Nat):Int))/\wr.frozen? ⟨gu,j+k,none⟩=false/\Ext w1 wr/\
    DMs w1 gu gq N M vs us0 qs g j (k+1) ((g*vs.getD k 0+c)/4294967296) (if us0.getD (j+k) 0<(g*vs.getD k 0+c)%4294967296+b then 1 else 0)
      (wr.setCell ⟨gu,j+k,none⟩ (.int .u32 (((us0.getD (j+k) 0+4294967296-(g*vs.getD k 0+c)%4294967296-b)%4294967296:Nat):Int))):=by
  obtain⟨us,t,e,z⟩:=h;have zk:=z (j+k) (zL _);obtain⟨c1,c2⟩:=t.cellU (j+k) hN;refine⟨by rw[<-zk];exact c1,c2,t.ext,_,t.setU _ _ hN (zR _ zb),?_,λi hi=>?_⟩
  · rw[pv]
    have hs:=xQ us (j+k) ((us0.getD (j+k) 0+4294967296-(g*vs.getD k 0+c)%4294967296-b)%4294967296) (by rw[t.lu];exact hN);rw[zk]at hs;have hx:=t.wu (j+k);rw[zk]at hx;have hbo:=borrow_eq (us0.getD (j+k) 0) ((g*vs.getD k 0+c)%4294967296) b hx (zR _ zb) hb;exact ms_step _ _ _ g k j _ _ c b _ _ _ _ e rfl rfl hbo _ hs
  ·exact tDiv_3
def DMe(w1:World)(gu gq N M:Nat)(us0 qs:List Nat)(g j n V b:Nat)(wr:World):Prop:=
  ∃us,Two w1 gu gq N M us qs wr/\qF us+g*(V*4294967296^j)=qF us0+4294967296^(j+n+1)*b/\(∀i,j+n+1<=i->us.getD i 0=us0.getD i 0)
theorem DMs.last{w1 wr:World}{gu gq N M g j n c b:Nat}{vs us0 qs:List Nat}(h:DMs w1 gu gq N M vs us0 qs g j n c b wr)(hN:j+n<N)(hb:b<=1)(hc:c<4294967296)(hn:vs.length=n):
    wr.cell? ⟨gu,j+n,none⟩=some (.int .u32 ((us0.getD (j+n) 0:Nat):Int))/\wr.frozen? ⟨gu,j+n,none⟩=false/\Ext w1 wr/\us0.getD (j+n) 0<4294967296/\
    DMe w1 gu gq N M us0 qs g j n (qF vs) (if us0.getD (j+n) 0<c+b then 1 else 0)
      (wr.setCell ⟨gu,j+n,none⟩ (.int .u32 (((us0.getD (j+n) 0+4294967296-c-b)%4294967296:Nat):Int))):=by
  obtain⟨us,t,e,z⟩:=h;have zk:=z (j+n) (zL _);obtain⟨c1,c2⟩:=t.cellU (j+n) hN;have hx:=t.wu (j+n);rw[zk]at hx;refine⟨by rw[<-zk];exact c1,c2,t.ext,hx,_,t.setU _ _ hN (zR _ zb),?_,λi hi=>?_⟩
  · have hs:=xQ us (j+n) ((us0.getD (j+n) 0+4294967296-c-b)%4294967296) (by rw[t.lu];exact hN)
    rw[zk]at hs;have hbo:=borrow_eq (us0.getD (j+n) 0) c b hx hc hb;rw[qS vs n (Nat.le_of_eq hn)]at e;exact ms_last _ _ _ g n j _ c b _ _ e hbo _ hs
  ·exact tDiv_3
def DAb(w1:World)(gu gq N M:Nat)(vs us1 qs:List Nat)(j k c:Nat)(wr:World):Prop:=
  ∃us,Two w1 gu gq N M us qs wr/\qF us+4294967296^(j+k)*c=qF us1+pv vs k*4294967296^j/\(∀i,j+k<=i->us.getD i 0=us1.getD i 0)
theorem DAb.step{w1 wr:World}{gu gq N M j k c:Nat}{vs us1 qs:List Nat}(h:DAb w1 gu gq N M vs us1 qs j k c wr)(hN:j+k<N):
    wr.cell? ⟨gu,j+k,none⟩=some (.int .u32 ((us1.getD (j+k) 0:Nat):Int))/\wr.frozen? ⟨gu,j+k,none⟩=false/\Ext w1 wr/\us1.getD (j+k) 0<4294967296/\
    DAb w1 gu gq N M vs us1 qs j (k+1) ((us1.getD (j+k) 0+vs.getD k 0+c)/4294967296)
      (wr.setCell ⟨gu,j+k,none⟩ (.int .u32 (((us1.getD (j+k) 0+vs.getD k 0+c)%4294967296:Nat):Int))):=by
  obtain⟨us,t,e,z⟩:=h;have zk:=z (j+k) (zL _);obtain⟨c1,c2⟩:=t.cellU (j+k) hN;have hx:=t.wu (j+k);rw[zk]at hx;refine⟨by rw[<-zk];exact c1,c2,t.ext,hx,_,t.setU _ _ hN (zR _ zb),?_,λi hi=>?_⟩
  · rw[pv]
    have hs:=xQ us (j+k) ((us1.getD (j+k) 0+vs.getD k 0+c)%4294967296) (by rw[t.lu];exact hN);rw[zk]at hs;exact ab_step _ _ _ k j _ _ c _ _ _ e rfl rfl rfl _ hs
  ·exact tDiv_3
def DEnd(w1:World)(gu gq N M:Nat)(qs:List Nat)(R:Nat)(wr:World):Prop:=
  ∃us,Two w1 gu gq N M us qs wr/\qF us=R
theorem DMe.noBorrow{w1 wr:World}{gu gq N M g j n V:Nat}{us0 qs:List Nat}(h:DMe w1 gu gq N M us0 qs g j n V 0 wr):DEnd w1 gu gq N M qs (qF us0-g*(V*4294967296^j)) wr:=by
  obtain⟨us,t,e,z⟩:=h;exact⟨us,t,by omega⟩
theorem DMe.guess{w1 wr:World}{gu gq N M g j n V b q:Nat}{us0 qs:List Nat}(h:DMe w1 gu gq N M us0 qs g j n V b wr)(h0:qF us0<4294967296^(j+n+1))(hq:q*(V*4294967296^j)<=qF us0)
    (hq1:qF us0<(q+1)*(V*4294967296^j)) (hqg:q<=g) (hg:g<=q+1) (hb:b<=1):(b=0->g=q)/\(b=1->g=q+1):=by
  obtain⟨us,t,e,z⟩:=h;have hz:∀i,j+n+1<=i->us.getD i 0=0:=λi hi=>by rw[z i hi];exact zero_above us0 _ h0 i hi
  have hM:=pv_lt us t.wu (j+n+1);rw[pv_zero_above us _ hz]at hM;exact ms_borrow _ _ g q _ _ b e hM hq hq1 hqg hg hb
theorem DMe.toAb{w1 wr:World}{gu gq N M g j n V b:Nat}{us0 qs vs:List Nat}(h:DMe w1 gu gq N M us0 qs g j n V b wr)(h0:qF us0<4294967296^(j+n+1)):
    ∃us1,DAb w1 gu gq N M vs us1 qs j 0 0 wr/\qF us1+g*(V*4294967296^j)=qF us0+4294967296^(j+n+1)*b/\(∀i,j+n+1<=i->us1.getD i 0=0):=by
  obtain⟨us,t,e,z⟩:=h;exact⟨us,⟨us,t,by simp[pv],λi _=>rfl⟩,e,λi hi=>by rw[z i hi];exact zero_above us0 _ h0 i hi⟩
theorem DAb.last{w1 wr:World}{gu gq N M g j n c Nu:Nat}{vs us1 qs:List Nat}(h:DAb w1 gu gq N M vs us1 qs j n c wr)(hN:j+n<N)(hc:c<=1)(hn:vs.length=n)
    (he:qF us1+g*(qF vs*4294967296^j)=Nu+4294967296^(j+n+1)*1) (hg1:1<=g) (hg:(g-1)*(qF vs*4294967296^j)<=Nu) (hz:∀i,j+n+1<=i->us1.getD i 0=0):
    wr.cell? ⟨gu,j+n,none⟩=some (.int .u32 ((us1.getD (j+n) 0:Nat):Int))/\wr.frozen? ⟨gu,j+n,none⟩=false/\us1.getD (j+n) 0<4294967296/\
    DEnd w1 gu gq N M qs (Nu-(g-1)*(qF vs*4294967296^j)) (wr.setCell ⟨gu,j+n,none⟩ (.int .u32 (((us1.getD (j+n) 0+c)%4294967296:Nat):Int))):=by
  obtain⟨us,t,e,z⟩:=h;have zk:=z (j+n) (zL _);obtain⟨c1,c2⟩:=t.cellU (j+n) hN;have hx:=t.wu (j+n);rw[zk]at hx;refine⟨by rw[<-zk];exact c1,c2,hx,_,t.setU _ _ hN (zR _ zb),?_⟩;have hs:=xQ us (j+n) ((us1.getD (j+n) 0+c)%4294967296) (by rw[t.lu];exact hN);rw[zk]at hs;rw[qS vs n (Nat.le_of_eq hn)]at e
  have hL:qF us=pv us (j+n)+4294967296^(j+n)*us1.getD (j+n) 0:=by
    have:=pv_zero_above us (j+n+1) (λi hi=>by rw[z i (by omega)];exact hz i hi);rw[pv,zk]at this;exact this.symm
  have hLT:=pv_lt us t.wu (j+n);rw[Nat.pow_succ,Nat.mul_one]at he;have:=ab_last Nu (qF us1) (qF us) (qF vs) (4294967296^j) (4294967296^(j+n)) _ g _ c _ he e hg hg1 hL hLT hx hc rfl _ hs;omega
theorem DMs.cellQ{w1 wr:World}{gu gq N M g j k c b:Nat}{vs us0 qs:List Nat}(h:DMs w1 gu gq N M vs us0 qs g j k c b wr)(i:Nat)(hi:i<M):
    (∃o:Nat,wr.cell? ⟨gq,i,none⟩=some (.int .u32 o))/\wr.frozen? ⟨gq,i,none⟩=false/\¬gu=gq/\¬gq=gu:=by
  obtain⟨us,t,_⟩:=h;obtain⟨a,b⟩:=t.cellQ i hi;exact⟨⟨_,a⟩,b,t.ne,Ne.symm t.ne⟩
theorem DAb.cellQ{w1 wr:World}{gu gq N M j k c:Nat}{vs us1 qs:List Nat}(h:DAb w1 gu gq N M vs us1 qs j k c wr)(i:Nat)(hi:i<M):
    (∃o:Nat,wr.cell? ⟨gq,i,none⟩=some (.int .u32 o))/\wr.frozen? ⟨gq,i,none⟩=false/\¬gu=gq/\¬gq=gu:=by
  obtain⟨us,t,_⟩:=h;obtain⟨a,b⟩:=t.cellQ i hi;exact⟨⟨_,a⟩,b,t.ne,Ne.symm t.ne⟩
theorem DMs.round{w1 wr:World}{gu gq N M g j k c b:Nat}{vs us0 qs:List Nat}(h:DMs w1 gu gq N M vs us0 qs g j k c b wr)(hN:j+k<N)(hb:b<=1)(hc:c<4294967296)(hg:g<4294967296)(hv:vs.getD k 0<4294967296):
    ∃ p t m q x y b':Nat,vs.getD k 0=y/\wr.cell? ⟨gu,k+j,none⟩=some (.int .u32 (x:Nat))/\wr.frozen? ⟨gu,k+j,none⟩=false/\Ext w1 wr/\x<4294967296/\y<4294967296/\
      (g:Int)*(y:Int)=(p:Int)/\(p:Int)+(c:Int)=(t:Int)/\(t:Int)%4294967296=(m:Int)/\(t:Int)/4294967296=(q:Int)/\p<=18446744065119617025/\t<18446744073709551616/\m<4294967296/\q<4294967296/\b'<=1/\
      b'=(if x<m+b then 1 else 0)/\DMs w1 gu gq N M vs us0 qs g j (k+1) q b' (wr.setCell ⟨gu,k+j,none⟩ (.int .u32 (((x+4294967296-m-b)%4294967296:Nat):Int))):=by
  obtain⟨c1,c2,c3,c4⟩:=h.step hN hb;obtain⟨us,t,e,z⟩:=h;have hx:=t.wu (j+k);rw[z (j+k) (zL _)]at hx;have hp:=prod2_lt g _ hg hv;rw[Nat.add_comm j k]at*;refine⟨g*vs.getD k 0,g*vs.getD k 0+c,(g*vs.getD k 0+c)%4294967296,(g*vs.getD k 0+c)/4294967296,_,_,_,rfl,c1,c2,c3,hx,hv,by simp,by simp,by simp,by simp,hp,by omega,zR _ zb,?_,?_,rfl,c4⟩
  ·omega
  ·split <;> omega
theorem DAb.round{w1 wr:World}{gu gq N M j k c:Nat}{vs us1 qs:List Nat}(h:DAb w1 gu gq N M vs us1 qs j k c wr)(hN:j+k<N)(hc:c<=1)(hv:vs.getD k 0<4294967296):
    ∃ x y:Nat,vs.getD k 0=y/\wr.cell? ⟨gu,k+j,none⟩=some (.int .u32 (x:Nat))/\wr.frozen? ⟨gu,k+j,none⟩=false/\Ext w1 wr/\x<4294967296/\y<4294967296/\(x+y+c)/4294967296<=1/\
      DAb w1 gu gq N M vs us1 qs j (k+1) ((x+y+c)/4294967296) (wr.setCell ⟨gu,k+j,none⟩ (.int .u32 (((x+y+c)%4294967296:Nat):Int))):=by
  obtain⟨c1,c2,c3,c4,c5⟩:=h.step hN;rw[Nat.add_comm j k]at*;exact⟨_,_,rfl,c1,c2,c3,c4,hv,by omega,c5⟩
end Go.Proofs.YtknffgdbdadpcaaGreatDoor
