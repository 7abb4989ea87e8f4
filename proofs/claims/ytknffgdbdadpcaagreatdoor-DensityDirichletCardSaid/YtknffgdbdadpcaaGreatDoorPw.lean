/-
 The number of representations as a product over primes: what package density computes, and the relations of the laws DensityProducts and DensityInert. Plain laws, no program.
-/
import Derived.Test.YtknffgdbdadpcaaGreatDoorBase
namespace Go.Proofs.YtknffgdbdadpcaaGreatDoor
open Go Go.RowKit
def Pr (p:Nat):Prop:=2≤p∧ ∀ d,d∣p→d=1∨d=p
def vlF:Nat→Nat→Nat→Nat
 | 0,_,_=>0
 | f+1,p,n=>if n%p=0 then vlF f p (n/p)+1 else 0
def vl (p n:Nat):Nat:=vlF n p n
theorem vlF_spec:∀ (f p n:Nat),2≤p→0<n→n≤f→p^vlF f p n∣n∧ ¬ p∣n/p^vlF f p n:=by
 intro f
 induction f with
 | zero=>intros;omega
 | succ f ih=>
  intro p n hp hn hf;unfold vlF;by_cases h:n%p=0
  ·rw [if_pos h];have hd:p∣n:=Nat.dvd_of_mod_eq_zero h;obtain ⟨m,rfl⟩:=hd;have hm:0<m:=Nat.pos_of_ne_zero fun k=>by subst k;simp at hn
   have hlt:m<p*m:=by
    have:=Nat.mul_le_mul_right m hp;omega
   rw [Nat.mul_div_cancel_left m (by omega)];obtain ⟨h1,h2⟩:=ih p m hp hm (by omega);refine ⟨?_,?_⟩
   ·rw [Nat.pow_succ,Nat.mul_comm];exact Nat.mul_dvd_mul_left p h1
   ·rw [Nat.pow_succ,Nat.mul_comm (p^_),Nat.mul_div_mul_left _ _ (by omega)];exact h2
  ·rw [if_neg h];refine ⟨by simp,?_⟩;rw [Nat.pow_zero,Nat.div_one];exact fun k=>h (Nat.mod_eq_zero_of_dvd k)
theorem vl_spec {p n:Nat} (hp:2≤p) (hn:0<n):∃ m,n=p^vl p n*m∧ ¬ p∣m∧0<m:=by
 obtain ⟨h1,h2⟩:=vlF_spec n p n hp hn (Nat.le_refl n);refine ⟨n/p^vl p n,(Nat.mul_div_cancel' h1).symm,h2,?_⟩;exact Nat.div_pos (Nat.le_of_dvd hn h1) (Nat.pow_pos (by omega))
theorem vl_uniq {p n k m:Nat} (hp:2≤p) (hm:0<m) (e:n=p^k*m) (h:¬ p∣m):vl p n=k:=by
 have hn:0<n:=by rw [e];exact Nat.mul_pos (Nat.pow_pos (by omega)) hm
 obtain ⟨m',e',h',_⟩:=vl_spec hp hn;generalize vl p n=k' at*;rcases Nat.lt_trichotomy k' k with g | g | g
 ·obtain ⟨j,rfl⟩:∃ j,k=k'+1+j:=⟨k-k'-1,by omega⟩;rw [e,Nat.pow_add,Nat.pow_succ,Nat.mul_assoc,Nat.mul_assoc] at e';have:=Nat.eq_of_mul_eq_mul_left (Nat.pow_pos (by omega)) e';exact absurd ⟨_,this.symm⟩ h'
 ·exact g
 ·obtain ⟨j,rfl⟩:∃ j,k'=k+1+j:=⟨k'-k-1,by omega⟩;rw [e,Nat.pow_add,Nat.pow_succ,Nat.mul_assoc,Nat.mul_assoc] at e';have:=Nat.eq_of_mul_eq_mul_left (Nat.pow_pos (by omega)) e';exact absurd ⟨_,this⟩ h
theorem Pr.dvd_mul {p a b:Nat} (hp:Pr p) (h:p∣a*b):p∣a∨p∣b:=by
 rcases hp.2 _ (Nat.gcd_dvd_left p a) with g | g
 ·exact .inr ((Nat.Coprime.dvd_of_dvd_mul_left g) h)
 ·exact .inl (g▸Nat.gcd_dvd_right p a)
theorem vl_mul {p a b:Nat} (hp:Pr p) (ha:0<a) (hb:0<b):vl p (a*b)=vl p a+vl p b:=by
 obtain ⟨m,e1,h1,m1⟩:=vl_spec hp.1 ha;obtain ⟨n,e2,h2,m2⟩:=vl_spec hp.1 hb;refine vl_uniq (m:=m*n) hp.1 (Nat.mul_pos m1 m2) ?_ (fun h=>(hp.dvd_mul h).elim h1 h2)
 conv=>lhs;rw [e1,e2]
 rw [Nat.pow_add,Nat.mul_assoc,Nat.mul_assoc]
 congr 1
 rw [← Nat.mul_assoc,Nat.mul_comm m,Nat.mul_assoc]
theorem vl_zero {p n:Nat} (hp:2≤p) (hn:0<n) (h:¬ p∣n):vl p n=0:=vl_uniq (m:=n) hp hn (by simp) h
theorem vl_pos {p n:Nat} (hp:2≤p) (hn:0<n) (h:p∣n):0<vl p n:=by
 refine Nat.pos_of_ne_zero fun k=> ?_
 obtain ⟨m,e,g,_⟩:=vl_spec hp hn;rw [k,Nat.pow_zero,Nat.one_mul] at e;exact g (e▸h)
theorem vl_self {p:Nat} (hp:2≤p):vl p p=1:=vl_uniq (m:=1) hp (by decide) (by simp) (fun h=>by have:=Nat.le_of_dvd (by decide) h;omega)
theorem vl_pow {p q:Nat} (hp:Pr p) (hq:0<q):∀ k,vl p (q^k)=k*vl p q
 | 0=>by rw [Nat.pow_zero,Nat.zero_mul];exact vl_zero hp.1 (by decide) (fun h=>by have:=Nat.le_of_dvd (by decide) h;have:=hp.1;omega)
 | k+1=>by rw [Nat.pow_succ,vl_mul hp (Nat.pow_pos hq) hq,vl_pow hp hq k,Nat.add_mul,Nat.one_mul]
theorem vl_other {p q:Nat} (hp:Pr p) (hq:Pr q) (h:p≠q):vl p q=0:=
 vl_zero hp.1 (by have:=hq.1;omega) (fun k=>(hq.2 p k).elim (fun e=>by have:=hp.1;omega) h)
def pw:Nat→Nat→Nat→List (Nat×Nat)
 | 0,_,_=> []
 | f+1,p,n=>if n≤1 then [] else
  let q:=if n<p*p then n else p
  let k:=vl q n
  (if 0<k then [(q,k)] else [])++pw f (q+1) (n/q^k)
def pwP (g:Nat→Nat→Int) (l:List (Nat×Nat)):Int:=l.foldl (fun o x=>o*g x.1 x.2) 1
theorem pwP_mul (g:Nat→Nat→Int):∀ (l:List (Nat×Nat)) (o:Int),l.foldl (fun o x=>o*g x.1 x.2) o=o*pwP g l
 | [],o=>by simp [pwP]
 | x ::l,o=>by
  unfold pwP;rw [List.foldl_cons,List.foldl_cons,pwP_mul g l,pwP_mul g l,Int.one_mul,Int.mul_assoc]
theorem pwP_cons (g:Nat→Nat→Int) (x:Nat×Nat) (l:List (Nat×Nat)):pwP g (x ::l)=g x.1 x.2*pwP g l:=by
 conv=>lhs;unfold pwP
 rw [List.foldl_cons,Int.one_mul,pwP_mul]
open Classical in
noncomputable def Qp (g:Nat→Nat→Int) (n:Nat):Nat→Int
 | 0=>1
 | M+1=>Qp g n M*(if Pr (M+1) then g (M+1) (vl (M+1) n) else 1)
theorem Qp_ext {g:Nat→Nat→Int} {n n':Nat} :∀ {M:Nat},(∀ p,Pr p→p≤M→vl p n=vl p n')→Qp g n M=Qp g n' M
 | 0,_=>rfl
 | M+1,h=>by
  unfold Qp;rw [Qp_ext (fun p hp hM=>h p hp (by omega))]
  split
  ·rename_i hp;rw [h _ hp (Nat.le_refl _)]
  ·rfl
theorem Qp_one {g:Nat→Nat→Int} (g0:∀ p,g p 0=1):∀ M:Nat,Qp g 1 M=1
 | 0=>rfl
 | M+1=>by
  unfold Qp;rw [Qp_one g0 M,Int.one_mul]
  split
  ·rename_i hp;rw [vl_zero hp.1 (by decide) (fun h=>by have:=Nat.le_of_dvd (by decide) h;have:=hp.1;omega),g0]
  ·rfl
theorem Qp_out {g:Nat→Nat→Int} (g0:∀ p,g p 0=1) {n m q:Nat} (hq:Pr q) (h0:vl q m=0) (h:∀ p,Pr p→p≠q→vl p n=vl p m):∀ {M:Nat},q≤M→Qp g n M=g q (vl q n)*Qp g m M
 | 0,hM=>by have:=hq.1;omega
 | M+1,hM=>by
  unfold Qp;by_cases e:M+1=q
  ·rw [e,if_pos hq,if_pos hq,h0,g0,Int.mul_one,Int.mul_comm];rw [Qp_ext (fun p hp hpM=>h p hp (by omega))]
  ·rw [Qp_out g0 hq h0 h (by omega:q≤M),Int.mul_assoc]
   congr 2
   split
   ·rename_i hp;rw [h _ hp e]
   ·rfl
def NoBelow (p n:Nat):Prop:= ∀ d,2≤d→d<p→ ¬ d∣n
theorem least_prime {p n:Nat} (hp:2≤p) (h:NoBelow p n) (hd:p∣n):Pr p:=by
 refine ⟨hp,fun d hdp=> ?_⟩;by_cases h1:d=1
 ·exact .inl h1
 ·right;have hle:=Nat.le_of_dvd (by omega) hdp;have h0:d≠0:=fun k=>by subst k;have:=Nat.eq_zero_of_zero_dvd hdp;omega
  rcases Nat.lt_or_ge d p with k | k
  ·exact absurd (Nat.dvd_trans hdp hd) (h d (by omega) k)
  ·omega
theorem rest_prime {p n:Nat} (hn:2≤n) (h:NoBelow p n) (hs:n<p*p):Pr n:=by
 refine ⟨hn,fun d ⟨e,he⟩=> ?_⟩;by_cases h1:d=1
 ·exact .inl h1
 ·right;have d0:d≠0:=fun k=>by subst k;simp at he;omega
  have e0:e≠0:=fun k=>by subst k;simp at he;omega
  rcases Nat.lt_or_ge d p with k | k
  ·exact absurd ⟨e,he⟩ (h d (by omega) k)
  ·by_cases h2:e=1
   ·rw [he,h2,Nat.mul_one]
   ·rcases Nat.lt_or_ge e p with k2 | k2
    ·exact absurd ⟨d,by rw [he,Nat.mul_comm]⟩ (h e (by omega) k2)
    ·have:=Nat.mul_le_mul k k2;omega
theorem pw_Q {g:Nat→Nat→Int} (g0:∀ p,g p 0=1):∀ (f p n M:Nat),2≤p→0<n→n≤M→n<p+f→NoBelow p n→pwP g (pw f p n)=Qp g n M:=by
 intro f
 induction f with
 | zero=>
  intro p n M hp hn hM hf h
  have h1:n=1:=by
   rcases Nat.lt_or_ge n 2 with k | k
   ·omega
   ·exact absurd (Nat.dvd_refl n) (h n k (by omega))
  subst h1;rw [Qp_one g0];rfl
 | succ f ih=>
  intro p n M hp hn hM hf h;unfold pw;by_cases h1:n≤1
  ·rw [if_pos h1];obtain rfl:n=1:=by omega
   rw [Qp_one g0];rfl
  ·rw [if_neg h1];dsimp only;by_cases hs:n<p*p
   ·rw [if_pos hs];have hq:=rest_prime (by omega) h hs;have hv:vl n n=1:=vl_self (by omega);rw [hv,if_pos (by decide),Nat.pow_one,Nat.div_self hn];show pwP g ((n,1) ::pw f (n+1) 1)=_;have hz:pw f (n+1) 1= []:=by cases f <;> simp [pw]
    rw [pwP_cons,hz,Qp_out g0 (m:=1) hq (vl_zero hq.1 (by decide) (fun k=>by have:=Nat.le_of_dvd (by decide) k;omega)) (fun r hr hne=> ?_) hM,hv,Qp_one g0]
    ·rfl
    ·rw [vl_other hr hq hne,vl_zero hr.1 (by decide) (fun k=>by have:=Nat.le_of_dvd (by decide) k;have:=hr.1;omega)]
   ·rw [if_neg hs];obtain ⟨m,e,hm,m0⟩:=vl_spec hp hn;have hpp:0<p^vl p n:=Nat.pow_pos (by omega)
    have hdiv:n/p^vl p n=m:=by
     conv=>lhs;lhs;rw [e]
     exact Nat.mul_div_cancel_left m hpp
    have hmd:m∣n:=⟨p^vl p n,by rw [Nat.mul_comm];exact e⟩;have hmn:m≤n:=Nat.le_of_dvd hn hmd
    have hnb:NoBelow (p+1) m:=fun d hd hlt k=>by
     rcases Nat.lt_or_ge d p with k2 | k2
     ·exact h d hd k2 (Nat.dvd_trans k hmd)
     ·obtain rfl:d=p:=by omega
      exact hm k
    have hrec:=ih (p+1) m M (by omega) m0 (by omega) (by omega) hnb;rw [hdiv];by_cases hk:0<vl p n
    ·rw [if_pos hk]
     have hpn:p∣n:=by
      obtain ⟨j,hj⟩:∃ j,vl p n=j+1:=⟨vl p n-1,by omega⟩;rw [hj,Nat.pow_succ,Nat.mul_comm (p^j),Nat.mul_assoc] at e;exact ⟨_,e⟩
     have hq:=least_prime hp h hpn;show pwP g ((p,vl p n) ::pw f (p+1) m)=_
     have hoth:∀ r,Pr r→r≠p→vl r n=vl r m:=fun r hr hne=>by
      conv=>lhs;rw [e]
      rw [vl_mul hr hpp m0,vl_pow hr (by omega),vl_other hr hq hne,Nat.mul_zero,Nat.zero_add]
     rw [pwP_cons,hrec,Qp_out g0 (m:=m) hq (vl_zero hp m0 hm) hoth (Nat.le_trans (Nat.le_of_dvd hn hpn) hM)]
    ·rw [if_neg hk];have h0:vl p n=0:=by omega
     rw [h0,Nat.pow_zero,Nat.one_mul] at e;rw [List.nil_append,hrec,e]
theorem pw_mem:∀ (f p n:Nat),2≤p→0<n→NoBelow p n→ ∀ x∈pw f p n,Pr x.1∧x.2=vl x.1 n∧0<x.2∧p≤x.1:=by
 intro f
 induction f with
 | zero=>intro p n _ _ _ x hx;simp [pw] at hx
 | succ f ih=>
  intro p n hp hn h x hx;unfold pw at hx;by_cases h1:n≤1
  ·rw [if_pos h1] at hx;simp at hx
  ·rw [if_neg h1] at hx;dsimp only at hx;by_cases hs:n<p*p
   ·rw [if_pos hs] at hx;have hq:=rest_prime (by omega) h hs;have hv:vl n n=1:=vl_self (by omega);rw [hv,if_pos (by decide),Nat.pow_one,Nat.div_self hn] at hx;have hz:pw f (n+1) 1= []:=by cases f <;> simp [pw]
    rw [hz,List.append_nil,List.mem_singleton] at hx;subst hx;refine ⟨hq,hv.symm,Nat.one_pos,?_⟩;exact Nat.not_lt.1 fun k=>h n (by omega) k (Nat.dvd_refl n)
   ·rw [if_neg hs] at hx;obtain ⟨m,e,hm,m0⟩:=vl_spec hp hn;have hpp:0<p^vl p n:=Nat.pow_pos (by omega)
    have hdiv:n/p^vl p n=m:=by
     conv=>lhs;lhs;rw [e]
     exact Nat.mul_div_cancel_left m hpp
    have hmd:m∣n:=⟨p^vl p n,by rw [Nat.mul_comm];exact e⟩
    have hnb:NoBelow (p+1) m:=fun d hd hlt k=>by
     rcases Nat.lt_or_ge d p with k2 | k2
     ·exact h d hd k2 (Nat.dvd_trans k hmd)
     ·obtain rfl:d=p:=by omega
      exact hm k
    rw [hdiv,List.mem_append] at hx;rcases hx with hx | hx
    ·by_cases hk:0<vl p n
     ·rw [if_pos hk,List.mem_singleton] at hx;subst hx
      have hpn:p∣n:=by
       obtain ⟨j,hj⟩:∃ j,vl p n=j+1:=⟨vl p n-1,by omega⟩;rw [hj,Nat.pow_succ,Nat.mul_comm (p^j),Nat.mul_assoc] at e;exact ⟨_,e⟩
      exact ⟨least_prime hp h hpn,rfl,hk,Nat.le_refl p⟩
     ·rw [if_neg hk] at hx;simp at hx
    ·obtain ⟨g1,g2,g3,g4⟩:=ih (p+1) m (by omega) m0 hnb x hx;refine ⟨g1,?_,g3,by omega⟩;rw [g2]
     conv=>rhs;rw [e]
     have hpr:¬ p∣x.1:=fun k=>(g1.2 p k).elim (by omega) (by omega)
     rw [vl_mul g1 hpp m0,vl_pow g1 (by omega),vl_zero (n:=p) g1.1 (by omega) (fun k=>by have:=Nat.le_of_dvd (by omega) k;omega),Nat.mul_zero,Nat.zero_add]
theorem pw_has:∀ (f p n:Nat),2≤p→0<n→n<p+f→NoBelow p n→ ∀ r,Pr r→r∣n→(r,vl r n)∈pw f p n:=by
 intro f
 induction f with
 | zero=>
  intro p n hp hn hf h r hr hd;have:=Nat.le_of_dvd hn hd;exact absurd hd (h r hr.1 (by omega))
 | succ f ih=>
  intro p n hp hn hf h r hr hd;have hrn:=Nat.le_of_dvd hn hd;have hr2:=hr.1;unfold pw;rw [if_neg (by omega)];dsimp only;by_cases hs:n<p*p
  ·rw [if_pos hs];have hq:=rest_prime (by omega) h hs;have hv:vl n n=1:=vl_self (by omega);have e:r=n:=(hq.2 r hd).elim (fun k=>by omega) id;subst e;rw [hv,if_pos (by decide)];simp
  ·rw [if_neg hs];obtain ⟨m,e,hm,m0⟩:=vl_spec hp hn;have hpp:0<p^vl p n:=Nat.pow_pos (by omega)
   have hdiv:n/p^vl p n=m:=by
    conv=>lhs;lhs;rw [e]
    exact Nat.mul_div_cancel_left m hpp
   have hmd:m∣n:=⟨p^vl p n,by rw [Nat.mul_comm];exact e⟩;have hmn:m≤n:=Nat.le_of_dvd hn hmd
   have hnb:NoBelow (p+1) m:=fun d hd hlt k=>by
    rcases Nat.lt_or_ge d p with k2 | k2
    ·exact h d hd k2 (Nat.dvd_trans k hmd)
    ·obtain rfl:d=p:=by omega
     exact hm k
   rw [hdiv,List.mem_append];by_cases hrp:r=p
   ·subst hrp;left;rw [if_pos (vl_pos hr2 hn hd)];simp
   ·right
    have hnp:¬ r∣p:=fun k=>by
     have hle:=Nat.le_of_dvd (by omega) k;exact h r hr2 (by omega) hd
    have hv:vl r n=vl r m:=by
     conv=>lhs;rw [e]
     rw [vl_mul hr hpp m0,vl_pow hr (by omega),vl_zero hr2 (by omega) hnp,Nat.mul_zero,Nat.zero_add]
    have hdm:r∣m:=by
     refine Classical.byContradiction fun k=> ?_
     have h1:=vl_pos hr2 hn hd;rw [hv,vl_zero hr2 m0 k] at h1;omega
    rw [hv];exact ih (p+1) m (by omega) m0 (by omega) hnb r hr hdm
theorem noBelow2 (n:Nat):NoBelow 2 n:=fun d h1 h2=>by omega
def lkP (g:Nat→Nat→Int) (r:Nat):List (Nat×Nat)→Int
 | []=>1
 | x ::l=>if x.1=r then g r x.2 else lkP g r l
theorem lkP_all {g:Nat→Nat→Int} {r v:Nat} (hv:g r v=1∨True):∀ (l:List (Nat×Nat)),(∀ x∈l,x.1=r→x.2=v)→lkP g r l=if (∃ x∈l,x.1=r) then g r v else 1
 | [],_=>by simp [lkP]
 | x ::l,h=>by
  unfold lkP;by_cases e:x.1=r
  ·rw [if_pos e,if_pos ⟨x,by simp,e⟩,h x (by simp) e]
  ·rw [if_neg e,lkP_all hv l (fun y hy=>h y (by simp [hy]))]
   congr 1
   simp [e]
theorem lkP_pw {g:Nat→Nat→Int} (g0:∀ p,g p 0=1) {r n:Nat} (hr:Pr r) (hn:0<n):lkP g r (pw n 2 n)=g r (vl r n):=by
 have hm:=pw_mem n 2 n (by decide) hn (noBelow2 n);rw [lkP_all (v:=vl r n) (.inr trivial) _ (fun x hx e=>by have:=(hm x hx).2.1;rw [e] at this;exact this)];by_cases hd:r∣n
 ·rw [if_pos ⟨_,pw_has n 2 n (by decide) hn (by omega) (noBelow2 n) r hr hd,rfl⟩]
 ·have h0:vl r n=0:=vl_zero hr.1 hn hd;rw [h0,g0]
  split <;> rfl
def totP (g:Nat→Nat→Int) (n:Nat):Int:=pwP g (pw n 2 n)
theorem totP_Q {g:Nat→Nat→Int} (g0:∀ p,g p 0=1) {n M:Nat} (hn:0<n) (hM:n≤M):totP g n=Qp g n M:=pw_Q g0 n 2 n M (by decide) hn hM (by omega) (noBelow2 n)
def locg (ch:Nat→Int) (p k:Nat):Int:=if ch p=0 then 1 else if ch p=1 then (k:Int)+1 else 1-(k:Int)%2
theorem locg_0 (ch:Nat→Int) (p:Nat):locg ch p 0=1:=by unfold locg;by_cases h:ch p=0 <;> by_cases h1:ch p=1 <;> simp [h,h1]
theorem locg_nonneg (ch:Nat→Int) (p k:Nat):0≤locg ch p k:=by
 unfold locg
 split
 ·decide
 ·split <;> omega
theorem locg_le (ch:Nat→Int) (p k:Nat):locg ch p k≤(k:Int)+1:=by
 unfold locg
 split
 ·omega
 ·split <;> omega
theorem Qp_nonneg (ch:Nat→Int) (n:Nat):∀ M:Nat,0≤Qp (locg ch) n M
 | 0=>by unfold Qp;decide
 | M+1=>by
  unfold Qp;refine Int.mul_nonneg (Qp_nonneg ch n M) ?_
  split
  ·exact locg_nonneg ..
  ·decide
theorem Qp_le (ch:Nat→Int) {n:Nat} (hn:0<n):totP (locg ch) n≤n:=by
 suffices h:∀ (f p n:Nat),2≤p→0<n→NoBelow p n→pwP (locg ch) (pw f p n)≤n∧0≤pwP (locg ch) (pw f p n) from (h n 2 n (by decide) hn (noBelow2 n)).1
 have hk:∀ p k:Nat,2≤p→locg ch p k≤((p^k:Nat):Int):=fun p k hp=>by
  have h1:=locg_le ch p k;have h2:k<2^k:=Nat.lt_two_pow_self;have h3:2^k≤p^k:=Nat.pow_le_pow_left hp k;omega
 intro f
 induction f with
 | zero=>intro p n _ hn _;simp only [pw,pwP,List.foldl_nil];omega
 | succ f ih=>
  intro p n hp hn h;unfold pw;by_cases h1:n≤1
  ·rw [if_pos h1];simp only [pwP,List.foldl_nil];omega
  ·rw [if_neg h1];dsimp only;by_cases hs:n<p*p
   ·rw [if_pos hs];have hv:vl n n=1:=vl_self (by omega);have hz:pw f (n+1) 1= []:=by cases f <;> simp [pw]
    rw [hv,if_pos (by decide),Nat.pow_one,Nat.div_self hn,hz,List.append_nil,pwP_cons];have h2:=hk n 1 (by omega);have h3:=locg_nonneg ch n 1;simp only [pwP,List.foldl_nil,Int.mul_one];rw [Nat.pow_one] at h2;exact ⟨h2,h3⟩
   ·rw [if_neg hs];obtain ⟨m,e,hm,m0⟩:=vl_spec hp hn;have hpp:0<p^vl p n:=Nat.pow_pos (by omega)
    have hdiv:n/p^vl p n=m:=by
     conv=>lhs;lhs;rw [e]
     exact Nat.mul_div_cancel_left m hpp
    have hmd:m∣n:=⟨p^vl p n,by rw [Nat.mul_comm];exact e⟩
    have hnb:NoBelow (p+1) m:=fun d hd hlt k=>by
     rcases Nat.lt_or_ge d p with k2 | k2
     ·exact h d hd k2 (Nat.dvd_trans k hmd)
     ·obtain rfl:d=p:=by omega
      exact hm k
    rw [hdiv];obtain ⟨i1,i2⟩:=ih (p+1) m (by omega) m0 hnb;by_cases hk0:0<vl p n
    ·rw [if_pos hk0];show pwP _ ((p,vl p n) ::pw f (p+1) m)≤_∧0≤pwP _ ((p,vl p n) ::pw f (p+1) m);rw [pwP_cons];have h2:=hk p (vl p n) hp;have h3:=locg_nonneg ch p (vl p n);refine ⟨?_,Int.mul_nonneg h3 i2⟩;refine Int.le_trans (Int.mul_le_mul h2 i1 i2 (by omega)) ?_;rw [← Int.natCast_mul,← e];exact Int.le_refl _
    ·rw [if_neg hk0,List.nil_append];have:=Nat.le_of_dvd hn hmd;omega
end Go.Proofs.YtknffgdbdadpcaaGreatDoor
