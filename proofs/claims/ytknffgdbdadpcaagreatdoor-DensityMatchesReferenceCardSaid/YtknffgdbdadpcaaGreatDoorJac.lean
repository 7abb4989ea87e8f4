/-
  The symbol in closed form (the lemma of Gauss, reciprocity by lattice points), its lower number split, the sum of the symbols of all divisors. (Printed by wip/gen/mkjac.sh.)
-/
import Derived.Test.YtknffgdbdadpcaaGreatDoorMod2
import Derived.Test.YtknffgdbdadpcaaGreatDoorPw
import Derived.Test.YtknffgdbdadpcaaGreatDoorDen23
namespace Go.Proofs.YtknffgdbdadpcaaGreatDoor
open Go Go.RowKit
def S1(f:Nat->Nat):Nat->Nat
  |0=>0
  |h+1=>S1 f h+f (h+1)
theorem xR{f g:Nat->Nat}:∀h:Nat,(∀k,1<=k->k<=h->f k=g k)->S1 f h=S1 g h
  |0,_=>rfl
  | h+1,e=>by
    simp only[S1];rw[xR h λk h1 h2=>e k h1 (by omega),e (h+1) (by omega) (by omega)]
theorem S1_add(f g:Nat->Nat):∀h:Nat,S1 (λk=>f k+g k) h=S1 f h+S1 g h
  |0=>rfl
  |h+1=>by simp only[S1];rw[S1_add f g h];omega
theorem S1_mul(c:Nat)(f:Nat->Nat):∀h:Nat,S1 (λk=>c*f k) h=c*S1 f h
  |0=>rfl
  |h+1=>by simp only[S1];rw[S1_mul c f h,Nat.mul_add]
theorem S1_zero:∀h:Nat,S1 (λ_=>0) h=0
  |0=>rfl
  |h+1=>by simp only[S1];rw[S1_zero h]
theorem S1_one:∀h:Nat,S1 (λ_=>1) h=h
  |0=>rfl
  |h+1=>by simp only[S1];rw[S1_one h]
theorem S1_swap(f:Nat->Nat->Nat)(g:Nat):∀h:Nat,S1 (λk=>S1 (λj=>f k j) g) h=S1 (λj=>S1 (λk=>f k j) h) g
  |0=>by simp only[S1];exact(S1_zero g).symm
  | h+1=>by
    simp only[S1];rw[S1_swap f g h,<-S1_add]
theorem S1_le{f g:Nat->Nat}:∀h:Nat,(∀k,1<=k->k<=h->f k<=g k)->S1 f h<=S1 g h
  |0,_=>zL _
  | h+1,e=>by
    simp only[S1];have:=S1_le h λk h1 h2=>e k h1 zb
    have:=e (h+1) zb zb;omega
theorem S1_all{f:Nat->Nat}:∀h:Nat,(∀k,1<=k->k<=h->f k<=1)->S1 f h=h->∀k,1<=k->k<=h->f k=1
  |0,_,_,k,h1,h2=>by omega
  | h+1,e,hs,k,h1,h2=>by
    simp only[S1]at hs;have hle:=S1_le (g:=λ_=>1) h λk h1 h2=>e k h1 zb
    rw[S1_one]at hle;have hl:=e (h+1) zb zb;by_cases hk:k=h+1
    ·subst hk;omega
    ·exact S1_all h (λk h1 h2=>e k h1 zb) zb k h1 zb
def i1(p:Prop)[Decidable p]:Nat:=if p then 1 else 0
theorem i1_t{p:Prop}[Decidable p](h:p):i1 p=1:=if_pos h
theorem i1_f{p:Prop}[Decidable p](h:¬p):i1 p=0:=if_neg h
theorem S1_pick(g:Nat->Nat)(j:Nat):∀h:Nat,S1 (λk=>i1 (k=j)*g k) h=if 1<=j/\j<=h then g j else 0
  |0=>by simp only[S1];rw[if_neg (by omega)]
  | h+1=>by
    simp only[S1];rw[S1_pick g j h];by_cases hj:j=h+1
    ·subst hj;rw[if_neg (by omega),if_pos (by omega),i1_t rfl];omega
    · rw[i1_f (λe=>hj e.symm)]
      by_cases h1:1<=j/\j<=h
      ·rw[if_pos h1,if_pos (by omega)];omega
      ·rw[if_neg h1,if_neg (by omega)];omega
theorem S1_perm{h:Nat}{r:Nat->Nat}(hr:∀k,1<=k->k<=h->1<=r k/\r k<=h)(hi:∀k l,1<=k->k<=h->1<=l->l<=h->r k=r l->k=l)(g:Nat->Nat):
    S1 (λk=>g (r k)) h=S1 g h:=by
  have c1:∀j,1<=j->j<=h->S1 (λk=>i1 (r k=j)) h<=1:=by
    intro j _ _;by_cases he:∃k,1<=k/\k<=h/\r k=j
    · obtain⟨k,h1,h2,h3⟩:=he
      rw [xR (g:=λl=>i1 (l=k)*1) h λl l1 l2=>by
        by_cases e:l=k
        ·subst e;rw[i1_t h3,i1_t rfl]
        ·rw[i1_f e,i1_f λe2=>e (hi l k l1 l2 h1 h2 (by omega))],S1_pick (λ_=>1) k h]
      split <;> omega
    ·rw[xR (g:=λ_=>0) h λl l1 l2=>i1_f λe=>he ⟨l,l1,l2,e⟩,S1_zero];omega
  have c2:S1 (λj=>S1 (λk=>i1 (r k=j)) h) h=h:=by
    rw[<-S1_swap (λk j=>i1 (r k=j)) h h,xR (g:=λ_=>1) h λk k1 k2=>?_,S1_one]
    rw [xR (g:=λj=>i1 (j=r k)*1) h λj _ _=>by
      by_cases e:r k=j
      ·rw[i1_t e,i1_t e.symm]
      ·rw[i1_f e,i1_f λe2=>e e2.symm],S1_pick (λ_=>1) (r k) h,if_pos (hr k k1 k2)]
  have c3:=S1_all h c1 c2;rw[xR (g:=λk=>S1 (λj=>i1 (r k=j)*g j) h) h λk k1 k2=>?_,S1_swap,xR h λj j1 j2=>?_]
  ·rw[xR (g:=λk=>g j*i1 (r k=j)) h λk _ _=>Nat.mul_comm _ _,S1_mul,c3 j j1 j2,Nat.mul_one]
  · rw [xR (g:=λj=>i1 (j=r k)*g j) h λj _ _=>by
      by_cases e:r k=j
      ·rw[i1_t e,i1_t e.symm]
      ·rw[i1_f e,i1_f λe2=>e e2.symm],S1_pick g (r k) h,if_pos (hr k k1 k2)]
def up(n a k:Nat):Nat:=i1 (n<2*(a*k%n))
def nr(n a k:Nat):Nat:=if n<2*(a*k%n)then n-a*k%n else a*k%n
def muG(a n:Nat):Nat:=S1 (up n a) ((n-1)/2)
def sgn(m:Nat):Int:=if m%2=0 then 1 else -1
theorem sgn_add(a b:Nat):sgn (a+b)=sgn a*sgn b:=by
  unfold sgn;rcases Nat.mod_two_eq_zero_or_one a with h|h <;> rcases Nat.mod_two_eq_zero_or_one b with g|g
  · have e:(a+b)%2=0:=by omega
    rw[h,g,e];rfl
  · have e:(a+b)%2=1:=by omega
    rw[h,g,e];rfl
  · have e:(a+b)%2=1:=by omega
    rw[h,g,e];rfl
  · have e:(a+b)%2=0:=by omega
    rw[h,g,e];rfl
theorem sgn_congr{a b:Nat}(h:a%2=b%2):sgn a=sgn b:=by unfold sgn;rw[h]
theorem sgn_sq(a:Nat):sgn a*sgn a=1:=by rw[<-sgn_add];unfold sgn;rw[if_pos (by omega)]
def GS(a n:Nat):Int:=sgn (muG a n)
theorem rest_pos{n a k:Nat}(hn:0<n)(hg:Nat.gcd a n=1)(h1:1<=k)(h2:k<n):0<a*k%n:=by
  refine Nat.pos_of_ne_zero λh0=>?_
  have h3:n∣a*k:=Nat.dvd_of_mod_eq_zero h0;have h4:n∣k:=(Nat.Coprime.dvd_of_dvd_mul_left (Nat.Coprime.symm hg) h3);have:=Nat.le_of_dvd zb h4;omega
theorem nr_box{n a k:Nat}(ho:n%2=1)(hg:Nat.gcd a n=1)(h1:1<=k)(h2:k<=(n-1)/2):1<=nr n a k/\nr n a k<=(n-1)/2:=by
  have h3:=rest_pos zb hg h1 (show k<n by omega);have h4:=zR (a*k) (show 0<n by omega);unfold nr
  split <;> omega
theorem nr_inj{n a k l:Nat}(ho:n%2=1)(hg:Nat.gcd a n=1)(h1:1<=k)(h2:k<=(n-1)/2)(h3:1<=l)(h4:l<=(n-1)/2)(e:nr n a k=nr n a l):k=l:=by
  have hn:0<n:=zb
  have hs:(a*k)%n=(a*l)%n\/(a*k)%n+(a*l)%n=n:=by
    have:=zR (a*k) hn;have:=zR (a*l) hn;unfold nr at e
    split at e <;> split at e <;> omega
  have hc:Nat.Coprime n a:=Nat.Coprime.symm hg;rcases hs with hs|hs
  · rcases Nat.le_total k l with hkl|hkl
    · have h5:n∣a*(l-k):=by
        rw[Nat.mul_sub];exact Nat.dvd_of_mod_eq_zero (Nat.sub_mod_eq_zero_of_mod_eq hs.symm)
      have h6:=hc.dvd_of_dvd_mul_left h5;rcases zI (l-k)with h7|h7
      ·omega
      ·have:=Nat.le_of_dvd h7 h6;omega
    · have h5:n∣a*(k-l):=by
        rw[Nat.mul_sub];exact Nat.dvd_of_mod_eq_zero (Nat.sub_mod_eq_zero_of_mod_eq hs)
      have h6:=hc.dvd_of_dvd_mul_left h5;rcases zI (k-l)with h7|h7
      ·omega
      ·have:=Nat.le_of_dvd h7 h6;omega
  · exfalso
    have h5:n∣a*(k+l):=by
      rw[Nat.mul_add];apply Nat.dvd_of_mod_eq_zero;rw[Nat.add_mod,hs,Nat.mod_self]
    have h6:=hc.dvd_of_dvd_mul_left h5;have:=Nat.le_of_dvd zb h6;omega
theorem nr_sum{n a:Nat}(ho:n%2=1)(hg:Nat.gcd a n=1)(g:Nat->Nat):S1 (λk=>g (nr n a k)) ((n-1)/2)=S1 g ((n-1)/2):=
  S1_perm (λk h1 h2=>nr_box ho hg h1 h2) (λk l h1 h2 h3 h4 e=>nr_inj ho hg h1 h2 h3 h4 e) g
theorem up_mul{n a b k:Nat}(ho:n%2=1)(ha:Nat.gcd a n=1)(hb:Nat.gcd b n=1)(h1:1<=k)(h2:k<=(n-1)/2):
    up n (a*b) k%2=(up n b k+up n a (nr n b k))%2:=by
  have hn:0<n:=zb
  obtain⟨t,ht⟩:∃t,b*k%n=t:=⟨_,rfl⟩;have hb2:=nr_box ho hb h1 h2;have hp:=rest_pos hn ha hb2.1 (show nr n b k<n by omega);have hlt:=zR (a*nr n b k) hn;have e1:a*b*k%n=a*t%n:=by rw[Nat.mul_assoc,<-ht,Nat.mul_mod_mod]
  have htl:t<n:=by rw[<-ht];exact zR _ hn
  unfold up;rw[e1];unfold nr at hp hlt ⊢;rw[ht]at hp hlt ⊢;by_cases hu:n<2*t
  · rw [if_pos hu]at hp hlt ⊢
    have e2:a*t%n+a*(n-t)%n=n:=by
      have h3:(a*t+a*(n-t))%n=0:=by rw[<-Nat.mul_add,show t+(n-t)=n by omega];exact Nat.mul_mod_left _ _
      rw[Nat.add_mod]at h3;have h4:=zR (a*t) hn;have h5:n∣a*t%n+a*(n-t)%n:=Nat.dvd_of_mod_eq_zero h3;obtain⟨c,hc⟩:=h5
      have:c=1:=by
        rcases c with _|_|c
        ·omega
        ·rfl
        ·exfalso;rw[Nat.mul_add]at hc;have:=Nat.le_mul_of_pos_right n (show 0<c+1 by omega);omega
      subst this;omega
    rw[i1_t hu];by_cases h3:n<2*(a*(n-t)%n)
    ·rw[i1_t h3,i1_f (by omega)]
    ·rw[i1_f h3,i1_t (by omega)]
  ·rw[if_neg hu,i1_f hu];simp
theorem S1_mod2{f g:Nat->Nat}:∀h:Nat,(∀k,1<=k->k<=h->f k%2=g k%2)->S1 f h%2=S1 g h%2
  |0,_=>rfl
  | h+1,e=>by
    simp only[S1];have:=S1_mod2 h λk h1 h2=>e k h1 zb
    have:=e (h+1) zb zb;omega
theorem GS_mul{n a b:Nat}(ho:n%2=1)(ha:Nat.gcd a n=1)(hb:Nat.gcd b n=1):GS (a*b) n=GS a n*GS b n:=by
  unfold GS;rw[<-sgn_add];apply sgn_congr;unfold muG;rw[S1_mod2 _ λk h1 h2=>up_mul ho ha hb h1 h2,S1_add,nr_sum ho hb];omega
theorem GS_mod{a n:Nat}:GS (a%n) n=GS a n:=by
  unfold GS muG;rw[xR _ λk _ _=>show up n (a%n) k=up n a k by unfold up;rw[Nat.mod_mul_mod]]
theorem muG_two{n:Nat}(ho:n%2=1):muG 2 n=(n-1)/2-n/4:=by
  unfold muG
  have hc:∀h,h<=(n-1)/2->S1 (up n 2) h=h-n/4:=by
    intro h
    induction h with
    |zero=>intro _;simp[S1]
    | succ h ih=>
      intro hh;simp only[S1];rw[ih (by omega)];unfold up;rw[Nat.mod_eq_of_lt (show 2*(h+1)<n by omega)];by_cases h4:n<2*(2*(h+1))
      ·rw[i1_t h4];omega
      ·rw[i1_f h4];omega
  exact hc _ (zL _)
theorem GS_two{n:Nat}(ho:n%2=1):GS 2 n=sg8 (n%8):=by
  unfold GS;rw[muG_two ho];have h8:n%8=1\/n%8=3\/n%8=5\/n%8=7:=zb
  have e:((n-1)/2-n/4)%2=if n%8=1\/n%8=7 then 0 else 1:=by
    rcases h8 with h|h|h|h <;> simp[h] <;> omega
  unfold sgn;rw[e];rcases h8 with h|h|h|h <;> rw[h] <;> rfl
theorem muG_floor{m n:Nat}(hm:m%2=1)(hn:n%2=1)(hg:Nat.gcd m n=1):muG m n%2=S1 (λk=>m*k/n) ((n-1)/2)%2:=by
  obtain⟨h,hh⟩:∃h,(n-1)/2=h:=⟨_,rfl⟩
  have hp:∀k,1<=k->k<=h->(m*k)%2=(n*(m*k/n)+(nr n m k+n*up n m k))%2:=by
    intro k h1 h2;have e:=Nat.div_add_mod (m*k) n;have hlt:=zR (m*k) (show 0<n by omega);unfold nr up;by_cases hu:n<2*(m*k%n)
    ·rw[if_pos hu,i1_t hu];omega
    ·rw[if_neg hu,i1_f hu];omega
  have hs:=S1_mod2 h hp;rw[S1_add (λk=>n*(m*k/n)) (λk=>nr n m k+n*up n m k),S1_add (λk=>nr n m k) (λk=>n*up n m k),S1_mul m (λk=>k),S1_mul n (λk=>m*k/n),S1_mul n (λk=>up n m k)]at hs;have hr:=nr_sum hn hg (λk=>k);rw[hh]at hr;rw[hr]at hs;unfold muG;rw[hh];show S1 (up n m) h%2=_;have e1:∀x,(m*x)%2=x%2:=λx=>by rw[Nat.mul_mod,hm];omega
  have e2:∀x,(n*x)%2=x%2:=λx=>by rw[Nat.mul_mod,hn];omega
  have a1:=e1 (S1 (λk=>k) h);have a2:=e2 (S1 (λk=>m*k/n) h);have a3:=e2 (S1 (λk=>up n m k) h);have a4:S1 (λk=>up n m k) h=S1 (up n m) h:=rfl;omega
theorem floor_count{m n k:Nat}(hn:0<n):∀g:Nat,m*k/n<=g->S1 (λj=>i1 (n*j<=m*k)) g=m*k/n:=by
  have hc:∀g,S1 (λj=>i1 (n*j<=m*k)) g=min g (m*k/n):=by
    intro g
    induction g with
    |zero=>simp[S1]
    | succ g ih=>
      simp only[S1];rw[ih];by_cases h:n*(g+1)<=m*k
      · have:g+1<=m*k/n:=(Nat.le_div_iff_mul_le hn).2 (by rw[Nat.mul_comm];exact h)
        rw[i1_t h];omega
      · have:¬g+1<=m*k/n:=λh2=>h (by have:=(Nat.le_div_iff_mul_le hn).1 h2;rw[Nat.mul_comm]at this;exact this)
        rw[i1_f h];omega
  intro g hg;rw[hc g];omega
theorem half_floor{m n k:Nat}(hm:m%2=1)(hn:n%2=1)(hk:k<=(n-1)/2):m*k/n<=(m-1)/2:=by
  have h1:m*k/n*n<=m*k:=Nat.div_mul_le_self _ _;refine Nat.le_of_not_lt λh=>?_
  have h2:((m-1)/2+1)*n<=m*k/n*n:=Nat.mul_le_mul_right n h;have h3:m*k<=m*((n-1)/2):=Nat.mul_le_mul_left m hk;have h4:2*(((m-1)/2+1)*n)=(m+1)*n:=by rw[<-Nat.mul_assoc,show 2*((m-1)/2+1)=m+1 by omega]
  have h5:2*(m*((n-1)/2))=m*(n-1):=by rw[Nat.mul_left_comm,show 2*((n-1)/2)=n-1 by omega]
  have h6:m*(n-1)<=m*n:=Nat.mul_le_mul_left m zb;have h7:(m+1)*n=m*n+n:=by rw[Nat.add_mul,Nat.one_mul]
  omega
theorem recip{m n:Nat}(hm:m%2=1)(hn:n%2=1)(hg:Nat.gcd m n=1):GS m n*GS n m=sgn ((m-1)/2*((n-1)/2)):=by
  unfold GS;rw[<-sgn_add];apply sgn_congr;have h1:=muG_floor hm hn hg;have h2:=muG_floor hn hm (by rw[Nat.gcd_comm];exact hg)
  have e:S1 (λk=>m*k/n) ((n-1)/2)+S1 (λj=>n*j/m) ((m-1)/2)=(m-1)/2*((n-1)/2):=by
    rw[xR (g:=λk=>S1 (λj=>i1 (n*j<=m*k)) ((m-1)/2)) _ λk k1 k2=>(floor_count (by omega) _ (half_floor hm hn k2)).symm];rw[xR (f:=λj=>n*j/m) (g:=λj=>S1 (λk=>i1 (m*k<=n*j)) ((n-1)/2)) _ λj j1 j2=>(floor_count (by omega) _ (half_floor hn hm j2)).symm];rw[S1_swap (λk j=>i1 (n*j<=m*k)),<-S1_add];rw[xR (g:=λ_=>(n-1)/2*1) _ λj j1 j2=>?_,S1_mul,S1_one,Nat.mul_comm];rw[<-S1_add,xR (g:=λ_=>1) _ λk k1 k2=>?_,S1_one,Nat.mul_one]
    have hne:n*j≠m*k:=by
      intro h;have h3:n∣m*k:=⟨j,h.symm⟩;have h4:n∣k:=(Nat.Coprime.dvd_of_dvd_mul_left (Nat.Coprime.symm hg) h3);have:=Nat.le_of_dvd zb h4;omega
    by_cases h:n*j<=m*k
    ·rw[i1_t h,i1_f (by omega)]
    ·rw[i1_f h,i1_t (by omega)]
  omega
theorem twsF_prod:∀(f a c:Nat),0<a->a<=f->2^(twsF f a c).2*(twsF f a c).1=2^c*a:=by
  intro f
  induction f with
  |zero=>intros;omega
  | succ f ih=>
    intro a c ha hf;by_cases h:a%2=1
    ·rw[twsF_odd h]
    ·rw[twsF_even (by omega),ih (a/2) (c+1) (by omega) (by omega),Nat.pow_succ,Nat.mul_assoc,show 2*(a/2)=a by omega]
theorem tws_prod{a:Nat}(h:0<a):2^(tws a).2*(tws a).1=a:=by
  have:=twsF_prod a a 0 h (zL _);rw[Nat.pow_zero,Nat.one_mul]at this;exact this
theorem pow_odd:∀(c d m k:Nat),m%2=1->k%2=1->2^c*m=2^d*k->c=d/\m=k
  |0,0,m,k,_,_,h=>⟨rfl,by simpa using h⟩
  |0,d+1,m,k,hm,_,h=>by rw[Nat.pow_zero,Nat.one_mul,Nat.pow_succ,Nat.mul_comm (2^d) 2,Nat.mul_assoc]at h;omega
  |c+1,0,m,k,_,hk,h=>by rw[Nat.pow_zero,Nat.one_mul,Nat.pow_succ,Nat.mul_comm (2^c) 2,Nat.mul_assoc]at h;omega
  | c+1,d+1,m,k,hm,hk,h=>by
    rw[Nat.pow_succ,Nat.pow_succ,Nat.mul_comm (2^c) 2,Nat.mul_comm (2^d) 2,Nat.mul_assoc,Nat.mul_assoc]at h;obtain⟨h1,h2⟩:=pow_odd c d m k hm hk zb;exact⟨by omega,h2⟩
theorem tws_uniq{n c m:Nat}(hm:m%2=1)(h:n=2^c*m):tws n=(m,c):=by
  have hn:0<n:=by rw[h];exact Nat.mul_pos (Nat.pow_pos dcx) zb
  have h1:=tws_prod hn;have h2:=(tws_spec hn).1;obtain⟨e1,e2⟩:=pow_odd _ _ _ _ h2 hm (h1.trans h);exact Prod.ext e2 e1
theorem cop_two{n:Nat}(ho:n%2=1):Nat.gcd 2 n=1:=by
  rw[Nat.gcd_rec,ho];rfl
theorem cop_pow{n:Nat}(ho:n%2=1):∀c:Nat,Nat.gcd (2^c) n=1
  |0=>by simp
  | c+1=>by
    rw[Nat.pow_succ];exact Nat.Coprime.mul_left (cop_pow ho c) (cop_two ho)
theorem sg8_odd{n:Nat}(ho:n%2=1):sg8 (n%8)*sg8 (n%8)=1:=by
  obtain h|h|h|h:n%8=1\/n%8=3\/n%8=5\/n%8=7:=zb
  all_goals rw[h];rfl
theorem GS_one(n:Nat)(hn:2<=n\/n=1)(ho:n%2=1):GS 1 n=1:=by
  unfold GS muG
  rw [xR (g:=λ_=>0) _ λk k1 k2=>by
    unfold up;rw[Nat.one_mul,Nat.mod_eq_of_lt (by omega)];exact i1_f zb,S1_zero]
  rfl
theorem GS_pow{n:Nat}(ho:n%2=1):∀c:Nat,GS (2^c) n=if c%2=1 then sg8 (n%8)else 1
  |0=>by rw[Nat.pow_zero,GS_one n (by omega) ho];rfl
  | c+1=>by
    rw[Nat.pow_succ,GS_mul ho (cop_pow ho c) (cop_two ho),GS_pow ho c,GS_two ho];by_cases h:c%2=1
    ·rw[if_pos h,if_neg (by omega),sg8_odd ho]
    ·rw[if_neg h,if_pos (by omega),Int.one_mul]
theorem GS_sq(a n:Nat):GS a n*GS a n=1:=sgn_sq _
theorem GS_flip{m n:Nat}(hm:m%2=1)(hn:n%2=1)(hg:Nat.gcd m n=1):GS m n=sgn ((m-1)/2*((n-1)/2))*GS n m:=by
  have h:=recip hm hn hg;have h2:=GS_sq n m;rw[<-h,Int.mul_assoc,h2,Int.mul_one]
theorem eps_eq{m n:Nat}(hm:m%2=1)(hn:n%2=1):sgn ((m-1)/2*((n-1)/2))=if m%4=3/\n%4=3 then -1 else 1:=by
  have e:=Nat.mul_mod ((m-1)/2) ((n-1)/2) 2
  have key:((m-1)/2*((n-1)/2))%2=if m%4=3/\n%4=3 then 1 else 0:=by
    by_cases h1:m%4=3
    · rw [show(m-1)/2%2=1 by omega]at e
      by_cases h2:n%4=3
      · rw[show(n-1)/2%2=1 by omega]at e
        rw[e,h1,h2];rfl
      · rw[show(n-1)/2%2=0 by omega]at e
        have h3:¬(m%4=3/\n%4=3):=λh=>h2 h.2
        rw[e,if_neg h3]
    · rw[show(m-1)/2%2=0 by omega,Nat.zero_mul]at e
      have h3:¬(m%4=3/\n%4=3):=λh=>h1 h.1
      rw[e,if_neg h3]
  unfold sgn;rw[key];by_cases h:m%4=3/\n%4=3
  ·rw[if_pos h,if_pos h];rfl
  ·rw[if_neg h,if_neg h];rfl
def gi(a n:Nat)(v:Int):Int:=cond (Nat.beq (Nat.gcd a n) 1) v 0
theorem gi_t{a n:Nat}{v:Int}(h:Nat.gcd a n=1):gi a n v=v:=by unfold gi;rw[h];rfl
theorem gi_f{a n:Nat}{v:Int}(h:Nat.gcd a n≠1):gi a n v=0:=by
  unfold gi;cases hb:Nat.beq (Nat.gcd a n) 1 with
  |false=>rfl
  |true=>exact absurd (Nat.eq_of_beq_eq_true hb) h
theorem tJac_1{P:Prop}(h:P:=by
  by_cases h:n=1
  ·subst h;rw[if_pos rfl,gi_t rfl,show GS 0 1=1 from rfl,Int.mul_one]
  ·rw[if_neg h,gi_f (by rw[Nat.gcd_zero_left];exact h)]
  ):P:=h
theorem krF_GS:∀(f a n:Nat) (k:Int),a<=f->n%2=1->krF f a n k=gi a n (k*GS a n):=by
  have h0:∀(f n:Nat) (k:Int),krF f 0 n k=gi 0 n (k*GS 0 n):=by
    intro f n k;rw[krF_zero];exact tJac_1
  intro f
  induction f with
  | zero=>
    intro a n k h1 h2;obtain rfl:a=0:=zb
    exact h0 0 n k
  | succ f ih=>
    intro a n k h1 h2;by_cases ha:a=0
    ·subst ha;exact h0 _ n k
    have hp:=tws_prod (show 0<a by omega);obtain⟨s1,s2,s3,s4⟩:=tws_spec (show 0<a by omega);unfold krF;rw[if_neg ha];generalize(tws a).1=b at*;generalize(tws a).2=c at*;dsimp only;have hlt:=zR n s2
    have hgc:Nat.gcd a n=Nat.gcd b n:=by
      rw[<-hp];exact Nat.Coprime.gcd_mul_left_cancel b (cop_pow h2 c)
    have hgm:Nat.gcd (n%b) b=Nat.gcd b n:=by rw[<-Nat.gcd_rec]
    rw[ih _ _ _ (by omega) s1];by_cases hg:Nat.gcd b n=1
    · rw[gi_t (hgm.trans hg),gi_t (hgc.trans hg),GS_mod]
      have e:GS a n=GS (2^c) n*GS b n:=by rw[<-hp];exact GS_mul h2 (cop_pow h2 c) hg
      rw[e,GS_pow h2,GS_flip s1 h2 hg,eps_eq s1 h2];by_cases h3:b%4=3/\n%4=3 <;> by_cases h4:c%2=1
      ·rw[if_pos h3,if_pos h3,if_pos h4,if_pos h4];grind
      ·rw[if_pos h3,if_pos h3,if_neg h4,if_neg h4];grind
      ·rw[if_neg h3,if_neg h3,if_pos h4,if_pos h4];grind
      ·rw[if_neg h3,if_neg h3,if_neg h4,if_neg h4];grind
    ·rw[gi_f (by rw[hgm];exact hg),gi_f (by rw[hgc];exact hg)]
theorem odd_mul{a b:Nat}(ha:a%2=1)(hb:b%2=1):a*b%2=1:=by rw[Nat.mul_mod,ha,hb]
theorem eps_mul{x a b:Nat}(ha:a%2=1)(hb:b%2=1):sgn ((x-1)/2*((a*b-1)/2))=sgn ((x-1)/2*((a-1)/2))*sgn ((x-1)/2*((b-1)/2)):=by
  rw[<-sgn_add,<-Nat.mul_add];apply sgn_congr
  have h:(a*b-1)/2%2=((a-1)/2+(b-1)/2)%2:=by
    have h4:=Nat.mul_mod a b 4;have ho:=odd_mul ha hb;have ha4:a%4=1\/a%4=3:=zb
    have hb4:b%4=1\/b%4=3:=zb
    generalize a*b=c at*;rcases ha4 with h1|h1 <;> rcases hb4 with h2|h2 <;> rw[h1,h2]at h4 <;> omega
  rw[Nat.mul_mod,h,<-Nat.mul_mod]
theorem GS_lower{x a b:Nat}(ha:a%2=1)(hb:b%2=1)(ga:Nat.gcd x a=1)(gb:Nat.gcd x b=1):GS x (a*b)=GS x a*GS x b:=by
  have hab:=odd_mul ha hb
  have key:∀X:Nat,X%2=1->Nat.gcd X a=1->Nat.gcd X b=1->GS X (a*b)=GS X a*GS X b:=by
    intro X hX g1 g2;have g3:Nat.gcd X (a*b)=1:=Nat.Coprime.mul_right g1 g2;rw[GS_flip hX hab g3,GS_flip hX ha g1,GS_flip hX hb g2,eps_mul ha hb,GS_mul hX (by rw[Nat.gcd_comm];exact g1) (by rw[Nat.gcd_comm];exact g2)]
    grind
  by_cases hx:x%2=1
  ·exact key x hx ga gb
  · have m1:(x+a*b)%a=x%a:=Nat.add_mul_mod_self_left _ _ _
    have m2:(x+a*b)%b=x%b:=Nat.add_mul_mod_self_right _ _ _;have m3:(x+a*b)%(a*b)=x%(a*b):=Nat.add_mod_right _ _
    have gm:∀ {u v n:Nat},u%n=v%n->Nat.gcd v n=1->Nat.gcd u n=1:=by
      intro u v n h1 h2;rw[Nat.gcd_comm,Nat.gcd_rec,h1,<-Nat.gcd_rec,Nat.gcd_comm];exact h2
    have h:=key (x+a*b) zb (gm m1 ga) (gm m2 gb);rw[<-GS_mod (a:=x+a*b) (n:=a*b),m3,GS_mod,<-GS_mod (a:=x+a*b) (n:=a),m1,GS_mod,<-GS_mod (a:=x+a*b) (n:=b),m2,GS_mod]at h;exact h
theorem kr_GS{z:Int}{n c m:Nat}(hm:m%2=1)(h:n=2^c*m):kr z n=if z%2=0/\0<c then 0 else gi (z%(m:Int)).toNat m ((if c%2=1 then sg8 (z%8).toNat else 1)*GS (z%(m:Int)).toNat m):=by
  have ht:=tws_uniq hm h
  have hc:n%2=0↔0<c:=by
    rcases c with _|c
    ·rw[Nat.pow_zero,Nat.one_mul]at h;omega
    ·rw[Nat.pow_succ,Nat.mul_comm (2^c) 2,Nat.mul_assoc]at h;omega
  unfold kr;rw[ht];by_cases h1:z%2=0/\n%2=0
  ·rw[if_pos h1,if_pos ⟨h1.1,hc.1 h1.2⟩]
  · have h3:¬(z%2=0/\0<c):=λh2=>h1 ⟨h2.1,hc.2 h2.2⟩
    rw[if_neg h1,if_neg h3];dsimp only;have hlt:=Int.emod_lt_of_pos z (show(0:Int)<(m:Int)by omega);have hnn:=Int.emod_nonneg z (show(m:Int)≠0 by omega);exact krF_GS _ _ _ _ zb hm
theorem kr_mul(z:Int){a b:Nat}(ha:0<a)(hb:0<b):kr z (a*b)=kr z a*kr z b:=by
  obtain⟨m,c,hm,rfl⟩:∃m c,m%2=1/\a=2^c*m:=⟨_,_,(tws_spec ha).1,(tws_prod ha).symm⟩;obtain⟨k,d,hk,rfl⟩:∃m c,m%2=1/\b=2^c*m:=⟨_,_,(tws_spec hb).1,(tws_prod hb).symm⟩;have e:2^c*m*(2^d*k)=2^(c+d)*(m*k):=by rw[Nat.pow_add];grind
  rw[kr_GS (odd_mul hm hk) e,kr_GS hm rfl,kr_GS hk rfl];by_cases hz:z%2=0/\0<c
  ·rw[if_pos hz,if_pos ⟨hz.1,by omega⟩,Int.zero_mul]
  rw[if_neg hz];by_cases hy:z%2=0/\0<d
  ·rw[if_pos hy,if_pos ⟨hy.1,by omega⟩,Int.mul_zero]
  have hx0:¬(z%2=0/\0<c+d):=λh=>by
    rcases zI c with hc|hc
    ·exact hy ⟨h.1,by omega⟩
    ·exact hz ⟨h.1,hc⟩
  rw[if_neg hy,if_neg hx0];obtain⟨x,hx⟩:∃x,(z%((m*k:Nat):Int)).toNat=x:=⟨_,rfl⟩;have hmk:((m*k:Nat):Int)=(m:Int)*(k:Int):=Int.natCast_mul m k;have hnn:=Int.emod_nonneg z (show((m*k:Nat):Int)≠0 by have:=Nat.mul_pos (show 0<m by omega) (show 0<k by omega);omega)
  have x1:(z%(m:Int)).toNat=x%m:=by
    have:z%(m:Int)=(x:Int)%(m:Int):=by
      rw[<-hx,Int.toNat_of_nonneg hnn,hmk,Int.emod_emod_of_dvd _ (Int.dvd_mul_right _ _)]
    rw[this,<-zM,Int.toNat_natCast]
  have x2:(z%(k:Int)).toNat=x%k:=by
    have:z%(k:Int)=(x:Int)%(k:Int):=by
      rw[<-hx,Int.toNat_of_nonneg hnn,hmk,Int.emod_emod_of_dvd _ (Int.dvd_mul_left _ _)]
    rw[this,<-zM,Int.toNat_natCast]
  have gm:∀v n:Nat,Nat.gcd (v%n) n=Nat.gcd v n:=λv n=>by rw[<-Nat.gcd_rec,Nat.gcd_comm]
  rw[hx,x1,x2,GS_mod,GS_mod];by_cases g1:Nat.gcd x m=1
  · by_cases g2:Nat.gcd x k=1
    · rw [gi_t ((gm x m).trans g1),gi_t ((gm x k).trans g2),gi_t (Nat.Coprime.mul_right g1 g2),GS_lower hm hk g1 g2]
      have hs:0<c+d->sg8 (z%8).toNat*sg8 (z%8).toNat=1:=by
        intro hcd;have hzo:z%2≠0:=λh=>hx0 ⟨h,hcd⟩
        have:=sg8_odd (n:=(z%8).toNat) zb;rw[Nat.mod_eq_of_lt (show(z%8).toNat<8 by omega)]at this;exact this
      by_cases h1:c%2=1 <;> by_cases h2:d%2=1
      · have:=hs zb
        have h3:¬(c+d)%2=1:=zb
        rw[if_pos h1,if_pos h2,if_neg h3];grind
      · have h3:(c+d)%2=1:=by omega
        rw[if_pos h1,if_neg h2,if_pos h3];grind
      · have h3:(c+d)%2=1:=by omega
        rw[if_neg h1,if_pos h2,if_pos h3];grind
      · have h3:¬(c+d)%2=1:=by omega
        rw[if_neg h1,if_neg h2,if_neg h3];grind
    ·rw[gi_f (a:=x%k) (by rw[gm];exact g2),gi_f (λh=>g2 (Nat.Coprime.coprime_mul_left_right h)),Int.mul_zero]
  ·rw[gi_f (a:=x%m) (by rw[gm];exact g1),gi_f (λh=>g1 (Nat.Coprime.coprime_mul_right_right h)),Int.zero_mul]
theorem kv_half{b n:Nat}{k:Int}(ho:n%2=1):gi (2*b) n (k*GS (2*b) n)=gi b n (k*sg8 (n%8)*GS b n):=by
  have hgc:Nat.gcd (2*b) n=Nat.gcd b n:=Nat.Coprime.gcd_mul_left_cancel b (cop_two ho);by_cases hg:Nat.gcd b n=1
  ·rw[gi_t hg,gi_t (hgc.trans hg),GS_mul ho (cop_two ho) hg,GS_two ho];grind
  ·rw[gi_f hg,gi_f (by rw[hgc];exact hg)]
theorem kv_flip{a n:Nat}{k:Int}(ha:a%2=1)(hn:n%2=1):gi a n (k*GS a n)=gi (n%a) a ((if a%4=3/\n%4=3 then -k else k)*GS (n%a) a):=by
  have hgm:Nat.gcd (n%a) a=Nat.gcd a n:=by rw[<-Nat.gcd_rec]
  by_cases hg:Nat.gcd a n=1
  · rw[gi_t hg,gi_t (hgm.trans hg),GS_mod,GS_flip ha hn hg,eps_eq ha hn]
    by_cases h3:a%4=3/\n%4=3
    ·rw[if_pos h3,if_pos h3];grind
    ·rw[if_neg h3,if_neg h3];grind
  ·rw[gi_f hg,gi_f (by rw[hgm];exact hg)]
theorem kv_end{n:Nat}{k:Int}:gi 0 n (k*GS 0 n)=if n=1 then k else 0:=by
  exact tJac_1
theorem kr_odd{z:Int}{n:Nat}(hn:n%2=1):kr z n=gi (z%(n:Int)).toNat n (1*GS (z%(n:Int)).toNat n):=by
  have h:=kr_GS (z:=z) (n:=n) (c:=0) (m:=n) hn (by rw[Nat.pow_zero,Nat.one_mul]);rw[h,if_neg (λh=>by omega),if_neg dcx]
theorem kr_two(z:Int):kr z 2=sg8 (z%8).toNat:=by
  have h:=kr_GS (z:=z) (n:=2) (c:=1) (m:=1) rfl rfl;rw[h];by_cases hz:z%2=0
  · rw[if_pos ⟨hz,by decide⟩]
    have:z%8=0\/z%8=2\/z%8=4\/z%8=6:=zb
    rcases this with e|e|e|e <;> rw[e] <;> rfl
  · rw[if_neg (λh=>hz h.1),gi_t (Nat.gcd_one_right _),if_pos dcx]
    exact Int.mul_one _
theorem kr_even{z:Int}{n:Nat}(hn:0<n):kr z (2*n)=sg8 (z%8).toNat*kr z n:=by rw[kr_mul z dcx hn,kr_two]
def SI(f:Nat->Int):Nat->Int
  |0=>0
  |h+1=>SI f h+f (h+1)
theorem SI_congr{f g:Nat->Int}:∀h:Nat,(∀k,1<=k->k<=h->f k=g k)->SI f h=SI g h
  |0,_=>rfl
  | h+1,e=>by
    simp only[SI];rw[SI_congr h λk h1 h2=>e k h1 (by omega),e (h+1) (by omega) (by omega)]
theorem SI_add(f g:Nat->Int):∀h:Nat,SI (λk=>f k+g k) h=SI f h+SI g h
  |0=>rfl
  |h+1=>by simp only[SI];rw[SI_add f g h];omega
theorem SI_mul(c:Int)(f:Nat->Int):∀h:Nat,SI (λk=>c*f k) h=c*SI f h
  |0=>(Int.mul_zero c).symm
  |h+1=>by simp only[SI];rw[SI_mul c f h,Int.mul_add]
theorem SI_ext{f:Nat->Int}{n:Nat}:∀k:Nat,(∀d,n<d->d<=n+k->f d=0)->SI f (n+k)=SI f n
  |0,_=>rfl
  | k+1,e=>by
    have h1:SI f (n+(k+1))=SI f (n+k)+f (n+k+1):=rfl;rw[h1,SI_ext k λd h1 h2=>e d h1 (by omega),e _ (by omega) (by omega),Int.add_zero]
theorem SI_block{f:Nat->Int}{q:Nat}(hq:0<q)(hf:∀d,d%q≠0->f d=0):∀M:Nat,SI f (q*M)=SI (λe=>f (q*e)) M
  |0=>rfl
  | M+1=>by
    have e:q*(M+1)=q*M+(q-1)+1:=by rw[Nat.mul_add];omega
    have h1:SI f (q*M+(q-1)+1)=SI f (q*M+(q-1))+f (q*M+(q-1)+1):=rfl;rw[e,h1,SI_ext (q-1) λd h2 h3=>hf d λh4=>?_,SI_block hq hf M,<-e]
    ·rfl
    · have h5:=Nat.div_add_mod d q
      rw[h4,Nat.add_zero]at h5;have h6:q*M<q*(d/q):=zb
      have h7:=Nat.lt_of_mul_lt_mul_left h6;have h8:=Nat.mul_le_mul_left q (show M+1<=d/q from h7);omega
def dS(ch:Nat->Int)(n:Nat):Int:=SI (λd=>if n%d=0 then ch d else 0) n
structure Mu (ch:Nat->Int):Prop where
  one:ch 1=1
  mul:∀a b,0<a->0<b->ch (a*b)=ch a*ch b
  box:∀a,-1<=ch a/\ch a<=1
theorem Pr.cop{p e:Nat}(hp:Pr p)(h:¬p∣e):Nat.Coprime e p:=by
  rcases hp.2 _ (Nat.gcd_dvd_right e p)with h1|h1
  ·exact h1
  ·exact absurd (h1▸Nat.gcd_dvd_left e p) h
theorem dS_support{p k m d:Nat}(hp:Pr p)(hd:0<d)(h1:d∣p^(k+1)*m)(h2:¬d∣p^k*m):p^(k+1)∣d:=by
  obtain⟨e,he,hne,he0⟩:=xS hp.1 hd;obtain⟨j,hj⟩:∃j,vl p d=j:=⟨_,rfl⟩;rw[hj]at he;have h3:e∣p^(k+1)*m:=Nat.dvd_trans ⟨p^j,by rw[he,Nat.mul_comm]⟩ h1;have h4:e∣m:=Nat.Coprime.dvd_of_dvd_mul_left (Nat.Coprime.pow_right (k+1) (hp.cop hne)) h3;by_cases hjk:j<=k
  · exfalso;apply h2
    rw[he];exact Nat.mul_dvd_mul (Nat.pow_dvd_pow p hjk) h4
  · rw[he]
    exact Nat.dvd_trans (Nat.pow_dvd_pow p (show k+1<=j by omega)) (Nat.dvd_mul_right _ _)
theorem dS_step{ch:Nat->Int}(hc:Mu ch){p m:Nat}(hp:Pr p)(hm:0<m)(hn:¬p∣m)(k:Nat):dS ch (p^(k+1)*m)=dS ch (p^k*m)+ch (p^(k+1))*dS ch m:=by
  have p0:0<p:=by have:=hp.1;omega
  have hq:0<p^(k+1):=Nat.pow_pos p0;have hq2:0<p^k:=Nat.pow_pos p0
  have e1:p^(k+1)*m=p^k*m+(p^k*m*(p-1)):=by
    rw[Nat.pow_succ,Nat.mul_assoc,Nat.mul_comm p m,<-Nat.mul_assoc,Nat.mul_sub,Nat.mul_one];have:p^k*m<=p^k*m*p:=Nat.le_mul_of_pos_right _ p0;omega
  have sub:∀d,p^k*m%d=0->p^(k+1)*m%d=0:=λd h=>by
    apply Nat.mod_eq_zero_of_dvd;rw[Nat.pow_succ,Nat.mul_assoc,Nat.mul_comm p m,<-Nat.mul_assoc];exact Nat.dvd_trans (Nat.dvd_of_mod_eq_zero h) (Nat.dvd_mul_right _ _)
  have hlt:0<p^k*m:=Nat.mul_pos hq2 hm;unfold dS
  rw [SI_congr (g:=λd=>(if p^k*m%d=0 then ch d else 0)+(if p^(k+1)*m%d=0/\¬p^k*m%d=0 then ch d else 0)) (p^(k+1)*m) λd d1 d2=>by
    by_cases h1:p^k*m%d=0
    ·rw[if_pos h1,if_pos (sub d h1),if_neg (λh=>h.2 h1),Int.add_zero]
    · rw[if_neg h1,Int.zero_add]
      by_cases h2:p^(k+1)*m%d=0
      ·rw[if_pos h2,if_pos ⟨h2,h1⟩]
      ·rw[if_neg h2,if_neg (λh=>h2 h.1)],SI_add]
  congr 1
  · conv=>lhs;rw[e1]
    exact SI_ext _ λd h1 h2=>by rw[if_neg (λh=>by have:=Nat.le_of_dvd hlt (Nat.dvd_of_mod_eq_zero h);omega)]
  · rw [SI_block hq λd hd=>by
      rw[if_neg];rintro⟨h1,h2⟩;rcases zI d with h0|h0
      ·subst h0;exact hd (Nat.zero_mod _)
      ·exact hd (Nat.mod_eq_zero_of_dvd (dS_support hp h0 (Nat.dvd_of_mod_eq_zero h1) λh=>h2 (Nat.mod_eq_zero_of_dvd h))),<-SI_mul]
    refine SI_congr m λe e1 e2=>?_
    have hnq:¬p^k*m%(p^(k+1)*e)=0:=λh=>by
      have h1:p^(k+1)*e∣p^k*m:=Nat.dvd_of_mod_eq_zero h;rw[Nat.pow_succ,Nat.mul_assoc]at h1;have h2:p*e∣m:=Nat.dvd_of_mul_dvd_mul_left hq2 h1;exact hn (Nat.dvd_trans (Nat.dvd_mul_right _ _) h2)
    by_cases h:m%e=0
    · have h3:p^(k+1)*m%(p^(k+1)*e)=0:=by rw[Nat.mul_mod_mul_left,h,Nat.mul_zero]
      rw[if_pos ⟨h3,hnq⟩,if_pos h,hc.mul _ _ hq (by omega)]
    · have h3:¬p^(k+1)*m%(p^(k+1)*e)=0:=by
        rw[Nat.mul_mod_mul_left];intro h4;rcases Nat.mul_eq_zero.1 h4 with h5|h5
        ·omega
        ·exact h h5
      rw[if_neg (λh4=>h3 h4.1),if_neg h,Int.mul_zero]
theorem ch_pow{ch:Nat->Int}(hc:Mu ch){p:Nat}(hp:0<p)(k:Nat):ch (p^(k+1))=ch (p^k)*ch p:=by
  rw[Nat.pow_succ,hc.mul _ _ (Nat.pow_pos hp) hp]
theorem ch_pows{ch:Nat->Int}(hc:Mu ch){p:Nat}(hp:0<p):∀k:Nat,ch (p^k)=if ch p=0 then(if k=0 then 1 else 0)else if ch p=1 then 1 else if k%2=0 then 1 else -1
  |0=>by rw[Nat.pow_zero,hc.one];simp
  | k+1=>by
    rw[ch_pow hc hp k,ch_pows hc hp k];have hb:=hc.box p;obtain h|h|h:ch p=0\/ch p=1\/ch p= -1:=zb
    ·rw[h];simp
    ·rw[h];simp
    · rw [h]
      rcases Nat.mod_two_eq_zero_or_one k with g|g
      · have:(k+1)%2=1:=by omega
        simp[g,this]
      · have:(k+1)%2=0:=by omega
        simp[g,this]
theorem dS_pow{ch:Nat->Int}(hc:Mu ch){p m:Nat}(hp:Pr p)(hm:0<m)(hn:¬p∣m):∀k:Nat,dS ch (p^k*m)=qV ch p k*dS ch m
  |0=>by rw[Nat.pow_zero,Nat.one_mul,locg_0,Int.one_mul]
  | k+1=>by
    rw[dS_step hc hp hm hn k,dS_pow hc hp hm hn k,<-Int.add_mul,ch_pows hc (by have:=hp.1;omega)]
    congr 1
    unfold qV;have hb:=hc.box p;obtain h|h|h:ch p=0\/ch p=1\/ch p= -1:=zb
    ·rw[h];simp
    ·rw[h];simp
    · rw [h]
      rcases Nat.mod_two_eq_zero_or_one k with g|g
      · have e1:¬(k+1)%2=0:=by omega
        rw[if_neg dcx,if_neg dcx,if_neg dcx,if_neg dcx,if_neg e1,if_neg dcx,if_neg dcx];omega
      · have e1:(k+1)%2=0:=by omega
        rw[if_neg dcx,if_neg dcx,if_neg dcx,if_neg dcx,if_pos e1,if_neg dcx,if_neg dcx];omega
theorem ex_prime:∀f n:Nat,2<=n->n<=f->∃p,Pr p/\p∣n
  |0,n,h1,h2=>by omega
  | f+1,n,h1,h2=>by
    by_cases h:∀d,d∣n->d=1\/d=n
    ·exact⟨n,⟨h1,h⟩,Nat.dvd_refl n⟩
    · obtain⟨d,hd⟩:=Classical.not_forall.1 h
      have hdn:d∣n:=Classical.byContradiction λh3=>hd λh4=>absurd h4 h3
      have hd2:¬(d=1\/d=n):=λh3=>hd λ_=>h3
      have hle:=Nat.le_of_dvd zb hdn;have h0:d≠0:=λh3=>by subst h3;have:=Nat.eq_zero_of_zero_dvd hdn;omega
      obtain⟨p,hp,hpd⟩:=ex_prime f d zb zb;exact⟨p,hp,Nat.dvd_trans hpd hdn⟩
theorem totP_pow{ch:Nat->Int}{p:Nat}(hp:Pr p)(k:Nat):totP (qV ch) (p^k)=qV ch p k:=by
  have p0:0<p:=by have:=hp.1;omega
  have hk:0<p^k:=Nat.pow_pos p0;have hv:∀r,Pr r->vl r (p^k)=k*vl r p:=λr hr=>vl_pow hr p0 k
  have h1:∀r,Pr r->vl r 1=0:=λr hr=>xL hr.1 dcx (λh=>by have:=Nat.le_of_dvd dcx h;have:=hr.1;omega)
  rw[totP_Q (locg_0 ch) (M:=p^k+p) hk (by omega),Qp_out (locg_0 ch) (m:=1) hp (h1 p hp) (λr hr hne=>by rw[hv r hr,h1 r hr,vl_other hr hp hne,Nat.mul_zero]) (by omega),Qp_one (locg_0 ch),Int.mul_one,hv p hp,vl_self hp.1,Nat.mul_one]
theorem dS_tot{ch:Nat->Int}(hc:Mu ch):∀f n:Nat,0<n->n<=f->dS ch n=totP (qV ch) n
  |0,n,h1,h2=>by omega
  | f+1,n,h1,h2=>by
    by_cases hn:n=1
    · subst hn
      have e:totP (qV ch) 1=1:=by rw[totP_Q (locg_0 ch) (M:=1) dcx (zL _)];exact Qp_one (locg_0 ch) 1
      rw[e];show 0+(if 1%1=0 then ch 1 else 0)=1;rw[hc.one];rfl
    · obtain⟨p,hp,hpn⟩:=ex_prime n n zb (zL _)
      obtain⟨m,e,hm,m0⟩:=xS hp.1 h1;have hv:=vl_pos hp.1 h1 hpn;obtain⟨k,hk⟩:∃k,vl p n=k:=⟨_,rfl⟩;rw[hk]at e hv;have p0:0<p:=by have:=hp.1;omega
      have hlt:m<n:=by
        have h3:2^1<=p^k:=zN (Nat.pow_le_pow_left hp.1 1) (Nat.pow_le_pow_right p0 hv);have h4:=Nat.mul_le_mul_right m h3;omega
      have hg:Nat.gcd (p^k) m=1:=Nat.Coprime.symm (Nat.Coprime.pow_right k (hp.cop hm));rw[e,dS_pow hc hp m0 hm k,totP_mul (locg_0 ch) (Nat.pow_pos p0) m0 hg,totP_pow hp,dS_tot hc f m m0 (by omega)]
theorem kr_Mu(z:Int)(h1:kr z 1=1):Mu (kr z):=⟨h1,λ_ _ ha hb=>kr_mul z ha hb,kr_le z⟩
theorem kr_one(z:Int):kr z 1=1:=by
  have h:=kr_GS (z:=z) (n:=1) (c:=0) (m:=1) rfl rfl;rw[h,if_neg (λh=>by omega),gi_t (Nat.gcd_one_right _)];rw[if_neg dcx,Int.one_mul];rfl
theorem SI_S1{f:Nat->Int}:∀h:Nat,(∀k,1<=k->k<=h-> -1<=f k)->SI f h=((S1 (λk=>(f k+1).toNat) h:Nat):Int)-(h:Int)
  |0,_=>rfl
  | h+1,e=>by
    simp only[SI,S1];rw[SI_S1 h λk h1 h2=>e k h1 (by omega)];have:=e (h+1) zb zb;omega
theorem SI_perm{h:Nat}{r:Nat->Nat}(hr:∀k,1<=k->k<=h->1<=r k/\r k<=h)(hi:∀k l,1<=k->k<=h->1<=l->l<=h->r k=r l->k=l){f:Nat->Int}(hf:∀k,-1<=f k):
    SI (λk=>f (r k)) h=SI f h:=by
  rw[SI_S1 h λk _ _=>hf (r k),SI_S1 h λk _ _=>hf k,S1_perm hr hi λk=>(f k+1).toNat]
def jL(ch:Nat->Int)(v d:Nat):Int:=if v%d=0/\d*d<=v then ch d+(if d*d≠v then ch (v/d)else 0)else 0
theorem pair_sum{ch:Nat->Int}(hb:∀a,-1<=ch a/\ch a<=1){v:Nat}(hv:0<v):SI (jL ch v) v=dS ch v:=by
  let up2:Nat->Int:=λd=>if v%d=0/\v<d*d then ch d else 0
  let r:Nat->Nat:=λd=>if v%d=0 then v/d else d
  have dvp:∀d,1<=d->v%d=0->d*(v/d)=v:=λd _ h=>by have:=Nat.div_add_mod v d;omega
  have pos:∀d,1<=d->v%d=0->1<=v/d:=λd h1 h=>by
    rcases zI (v/d)with h0|h0
    ·have:=dvp d h1 h;rw[h0]at this;omega
    ·exact h0
  have dv2:∀d,1<=d->v%d=0->v%(v/d)=0:=λd h1 h=>Nat.mod_eq_zero_of_dvd ⟨d,by rw[Nat.mul_comm];exact(dvp d h1 h).symm⟩
  have dvi:∀d,1<=d->v%d=0->v/(v/d)=d:=λd h1 h=>Nat.div_eq_of_eq_mul_left (pos d h1 h) (dvp d h1 h).symm
  have hr:∀k,1<=k->k<=v->1<=r k/\r k<=v:=λk h1 h2=>by
    show 1<=(if v%k=0 then v/k else k)/\(if v%k=0 then v/k else k)<=v;by_cases h:v%k=0
    ·rw[if_pos h];exact⟨pos k h1 h,Nat.div_le_self _ _⟩
    ·rw[if_neg h];exact⟨h1,h2⟩
  have hi:∀k l,1<=k->k<=v->1<=l->l<=v->r k=r l->k=l:=λk l k1 k2 l1 l2 e=>by
    have e:(if v%k=0 then v/k else k)=(if v%l=0 then v/l else l):=e;by_cases h:v%k=0
    · rw [if_pos h]at e
      by_cases g:v%l=0
      · rw[if_pos g]at e
        rw[<-dvi k k1 h,<-dvi l l1 g,e]
      · rw[if_neg g]at e
        exact absurd (e▸dv2 k k1 h) g
    · rw [if_neg h]at e
      by_cases g:v%l=0
      · rw[if_pos g]at e
        exact absurd (e▸dv2 l l1 g) h
      ·rw[if_neg g]at e;exact e
  have hu:∀k,-1<=up2 k:=λk=>by
    show -1<=(if v%k=0/\v<k*k then ch k else 0)
    split
    ·exact(hb k).1
    ·decide
  have hp:=SI_perm hr hi hu;unfold dS
  rw [SI_congr (f:=λd=>if v%d=0 then ch d else 0) (g:=λd=>(if v%d=0/\d*d<=v then ch d else 0)+up2 d) v λd d1 d2=>by
    show _=_+(if v%d=0/\v<d*d then ch d else 0);by_cases h:v%d=0
    · by_cases g:d*d<=v
      · have g2:¬(v%d=0/\v<d*d):=λx=>by omega
        rw[if_pos h,if_pos ⟨h,g⟩,if_neg g2,Int.add_zero]
      · have g2:¬(v%d=0/\d*d<=v):=λx=>g x.2
        rw[if_pos h,if_neg g2,if_pos ⟨h,by omega⟩,Int.zero_add]
    · have g1:¬(v%d=0/\d*d<=v):=λx=>h x.1
      have g2:¬(v%d=0/\v<d*d):=λx=>h x.1
      rw[if_neg h,if_neg g1,if_neg g2];rfl,SI_add,<-hp,<-SI_add]
  refine SI_congr v λd d1 d2=>?_
  show jL ch v d=(if v%d=0/\d*d<=v then ch d else 0)+(if v%(if v%d=0 then v/d else d)=0/\v<(if v%d=0 then v/d else d)*(if v%d=0 then v/d else d)then ch (if v%d=0 then v/d else d)else 0);unfold jL;by_cases h:v%d=0
  · rw [if_pos h]
    have e:=dvp d d1 h;obtain⟨q,hq⟩:∃q,v/d=q:=⟨_,rfl⟩;have hz:=dv2 d d1 h;rw[hq]at e hz ⊢;have hq1:=pos d d1 h;rw[hq]at hq1
    have key:v<q*q↔d*d<=v/\d*d≠v:=by
      rw[<-e];constructor
      · intro h1
        have h2:d<q:=Nat.lt_of_mul_lt_mul_right (a:=q) h1;have h3:=Nat.mul_lt_mul_of_pos_left h2 (show 0<d by omega);omega
      · rintro⟨h1,h2⟩
        have h3:d<q:=by
          rcases zQ d q with h4|h4
          ·exact h4
          · exfalso
            have h5:=Nat.mul_le_mul_left d h4;have h6:d*d=d*q:=zb
            exact h2 h6
        exact Nat.mul_lt_mul_of_pos_right h3 hq1
    by_cases h1:d*d<=v
    · have t1:v%d=0/\d*d<=v:=⟨h,h1⟩
      rw[if_pos t1,if_pos t1];by_cases h2:d*d≠v
      · have t2:v%q=0/\v<q*q:=⟨hz,key.2 ⟨h1,h2⟩⟩
        rw[if_pos h2,if_pos t2]
      · have g:¬(v%q=0/\v<q*q):=λx=>h2 (key.1 x.2).2
        rw[if_neg h2,if_neg g]
    · have g1:¬(v%d=0/\d*d<=v):=λx=>h1 x.2
      have g2:¬(v%q=0/\v<q*q):=λx=>h1 (key.1 x.2).1
      rw[if_neg g1,if_neg g1,if_neg g2];rfl
  · rw[if_neg h]
    have g1:¬(v%d=0/\d*d<=v):=λx=>h x.1
    have g2:¬(v%d=0/\v<d*d):=λx=>h x.1
    rw[if_neg g1,if_neg g1,if_neg g2];rfl
theorem pair_stop{ch:Nat->Int}{v m:Nat}(h:v<(m+1)*(m+1))(hm:m<=v):SI (jL ch v) m=SI (jL ch v) v:=by
  obtain⟨k,rfl⟩:∃k,v=m+k:=⟨v-m,by omega⟩;symm;refine SI_ext k λd h1 h2=>?_
  unfold jL;have h3:=Nat.mul_le_mul (show m+1<=d from h1) (show m+1<=d from h1);have g:¬((m+k)%d=0/\d*d<=m+k):=λx=>by omega
  rw[if_neg g]
end Go.Proofs.YtknffgdbdadpcaaGreatDoor
