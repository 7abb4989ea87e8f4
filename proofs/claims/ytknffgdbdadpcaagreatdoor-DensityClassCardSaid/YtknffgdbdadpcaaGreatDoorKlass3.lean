/-
  The law DensityClass at every argument, where the class numbers are reckoned ('hnum').
  The sum of the symbols in natural numbers, for the kernel; and what makes of its reckoning the class numbers.
  Class numbers, reckoned by the kernel, part 1.
  Class numbers, reckoned by the kernel, part 2.
  Class numbers, reckoned by the kernel, part 3.
  Class numbers, reckoned by the kernel, part 4.
  The class numbers of all fundamental discriminants from -5 to -2003.
-/
import Derived.Test.YtknffgdbdadpcaaGreatDoorKlass
import Derived.Test.YtknffgdbdadpcaaGreatDoorCnt4
import Derived.Test.YtknffgdbdadpcaaGreatDoorDen14
namespace Go.Proofs.YtknffgdbdadpcaaGreatDoor
open Go Go.RowKit
theorem rootK_ex:∀ n:Nat,∃ L,L*L≤n∧n<(L+1)*(L+1)
  | 0=>⟨0,by decide,by decide⟩
  | n+1=>by
    obtain ⟨L,h1,h2⟩:=rootK_ex n;by_cases h:n+1<(L+1)*(L+1)
    · exact ⟨L,by omega,h⟩
    · refine ⟨L+1,by omega,?_⟩
      have:(L+1+1)*(L+1+1)=(L+1)*(L+1)+(L+1)+(L+1)+1:=by
        rw [Nat.add_mul (L+1) 1 (L+1+1),Nat.mul_add (L+1) (L+1) 1];omega
      omega
def ClsNums:Prop:= ∀ n L:Nat,4<n→n≤2003→(n%4=0∨n%4=3)→(L*L≤n∧n<(L+1)*(L+1))→cdB n L=1→(clsS (-(n:Int)) n).tdiv (n:Int)=fmCnt (fmA (n:Int) (n+1) 1)
theorem textK {T:Nat} (h:T≤2003):∃ tn:ByteArray,encS (textS (-(T:Int)))= .string tn∧textE (-(T:Int))=0∧tn.size≤1000:=by
  have key:∀ T,T<2004→(textE (-((T:Nat):Int))=0∧(textS (-((T:Nat):Int))).length≤1000):=by decide +kernel
  obtain ⟨h1,h2⟩:=key T (by omega);exact ⟨⟨(textS (-(T:Int))).toArray⟩,rfl,h1,h2⟩
theorem Class40_c (hnum:ClsNums) (w:World) (d:Nat) (v1 v2 v3 v4 v5 v6 v7 v8:Value) (ht:Tab w) (hs:Sg w) (hd:d<65536):
    Calls Tryz.prog 5 #[.agg #[.int .u16 (d:Int),v1,v2,v3,v4,v5,v6,v7,v8]] w (Ret w (IsV (.bool true))):=by
  obtain ⟨L,hL⟩:=rootK_ex (dsz d);obtain ⟨hT1,hT2,hT3⟩:=dsz_ok d;obtain ⟨T,hT⟩:∃ T,dsz d=T:=⟨_,rfl⟩;rw [hT] at hL hT1 hT2 hT3;have hN:1≤T∧T≤4194304∧(T%4=0∨T%4=3):=⟨by omega,by omega,hT3⟩;by_cases h4:T≤4
  · have hc:decide (0≤cmpI (-(T:Int)) (-4))=true:=by
      rcases (show T=3∨T=4 by omega) with rfl | rfl <;> decide
    have hf:((cdB T L:Nat):Int)=1:=by
      have hL2:L=1∨L=2:=by
        have h1:L<3:=Nat.lt_of_not_le fun h=>by have:=Nat.mul_le_mul h h;omega
        have h0:L≠0:=fun h=>by subst h;omega
        omega
      rcases (show T=3∨T=4 by omega) with rfl | rfl <;> rcases hL2 with rfl | rfl <;> (first | decide | omega)
    exact Class40_a w d v1 v2 v3 v4 v5 v6 v7 v8 ht hs T L _ _ (hid hd) (hid hT) (hid hN) (hid hL) (hid (by omega)) (hid rfl) (hid hf) (hid rfl) (hid hc)
  · have hc:cmpI (-(T:Int)) (-4)= -1:=by unfold cmpI;rw [if_pos (by omega)]
    have hc9:cmpI (-(T:Int)) (-4096)=1:=by unfold cmpI;rw [if_neg (by omega),if_pos (by omega)]
    by_cases hf:cdB T L=1
    · obtain ⟨tn,htn⟩:=textK hT2
      have hh:=hnum T L (by omega) hT2 hT3 hL hf;have hl:=fmA_len (n:=(T:Int)) (by omega) (T+1) 1 (by decide);have hl2:=List.length_filter_le fmPrim (fmA (T:Int) (T+1) 1);exact Class40_k w d v1 v2 v3 v4 v5 v6 v7 v8 ht hs T L _ _ 0 _ (hid hd) (hid hT) (hid hN) (hid hL) (hid (by omega)) (hid rfl) (hid (by omega)) (hid hc) (hid (by decide)) (hid hc9) (hid (by decide)) (hid (show cmpI ((cdB T L:Nat):Int) 1=0 by rw [hf];decide)) (hid (by decide)) (hid hh) (hid (by unfold fmCnt;omega)) tn (hid htn)
    · exact Class40_n w d v1 v2 v3 v4 v5 v6 v7 v8 ht hs T L _ _ _ _ (hid hd) (hid hT) (hid hN) (hid hL) (hid (by omega)) (hid rfl) (hid (by omega)) (hid hc) (hid (by decide)) (hid hc9) (hid (by decide)) (hid rfl) (hid (by
        have h1:=(cdB_pos T L).1;unfold cmpI
        rw [if_neg (by omega),if_pos (by omega)];decide))
end Go.Proofs.YtknffgdbdadpcaaGreatDoor
namespace Go.Proofs.YtknffgdbdadpcaaGreatDoor
open Go Go.RowKit
def kG (f:Nat):Nat→Nat→Bool→Nat:=Nat.rec (fun _ n s=>cond (Nat.beq n 1) (cond s 2 1) 0)
  (fun _ ih a n s=>Nat.rec (cond (Nat.beq n 1) (cond s 2 1) 0)
     (fun k _=>cond (Nat.beq (Nat.mod k 2) 1) (ih (Nat.div (Nat.succ k) 2) n (cond (Nat.beq (Nat.mod n 8) 3) (!s) (cond (Nat.beq (Nat.mod n 8) 5) (!s) s)))
       (ih (Nat.mod n (Nat.succ k)) (Nat.succ k) (cond (Nat.beq (Nat.mod k 4) 2) (cond (Nat.beq (Nat.mod n 4) 3) (!s) s) s))) a) f
def kM (f n:Nat):Nat→Bool→Nat:=Nat.rec (fun _ _=>0) (fun _ ih m s=>cond (Nat.beq (Nat.mod m 2) 0) (cond (Nat.beq (Nat.mod n 2) 0) 0 (ih (Nat.div m 2) (cond (Nat.beq (Nat.mod n 8) 3) (!s) (cond (Nat.beq (Nat.mod n 8) 5) (!s) s)))) (kG m (Nat.mod (Nat.sub m (Nat.mod n m)) m) m s)) f
def sumK (n m:Nat):Nat→Nat→Nat×Nat:=Nat.rec (fun p q=>(p,q)) (fun m ih p q=>Nat.rec (ih p q) (fun k _=>Nat.rec (ih (Nat.add p m) q) (fun _ _=>ih p (Nat.add q m)) k) (kM m n m false)) m
def vlK (r:Nat):Int:=if r=0 then 0 else if r=1 then 1 else -1
def sgK (s:Bool):Int:=if s then -1 else 1
theorem kG_zero (a n:Nat) (s:Bool):kG 0 a n s=cond (Nat.beq n 1) (cond s 2 1) 0:=rfl
theorem kG_a0 (f n:Nat) (s:Bool):kG (f+1) 0 n s=cond (Nat.beq n 1) (cond s 2 1) 0:=rfl
theorem kG_succ (f k n : Nat) (s : Bool) : kG (f + 1) (k + 1) n s = cond (Nat.beq (k % 2) 1) (kG f ((k + 1) / 2) n (cond (Nat.beq (n % 8) 3) (!s) (cond (Nat.beq (n % 8) 5) (!s) s)))
       (kG f (n%(k+1)) (k+1) (cond (Nat.beq (k%4) 2) (cond (Nat.beq (n%4) 3) (!s) s) s)):=rfl
theorem vl_end (n:Nat) (s:Bool):vlK (cond (Nat.beq n 1) (cond s 2 1) 0)=if n=1 then sgK s else 0:=by
  by_cases h:n=1
  · subst h;cases s <;> rfl
  · rw [if_neg h]
    have:Nat.beq n 1=false:=by cases hb:Nat.beq n 1 with
      | false=>rfl
      | true=>exact absurd (Nat.eq_of_beq_eq_true hb) h
    rw [this];rfl
theorem beq_t {a b:Nat} (h:a=b):Nat.beq a b=true:=by subst h;exact Nat.beq_refl _
theorem beq_f {a b:Nat} (h:a≠b):Nat.beq a b=false:=by
  cases hb:Nat.beq a b with
  | false=>rfl
  | true=>exact absurd (Nat.eq_of_beq_eq_true hb) h
theorem sg_flip (n:Nat) (s:Bool) (hn:n%2=1):sgK (cond (Nat.beq (n%8) 3) (!s) (cond (Nat.beq (n%8) 5) (!s) s))=sgK s*sg8 (n%8):=by
  obtain h | h | h | h:n%8=1∨n%8=3∨n%8=5∨n%8=7:=by omega
  all_goals rw [h];cases s <;> rfl
theorem twsF_fuel:∀ (f g a c:Nat),0<a→a≤f→a≤g→twsF f a c=twsF g a c:=by
  intro f
  induction f with
  | zero=>intros;omega
  | succ f ih=>
    intro g a c ha hf hg;obtain ⟨g,rfl⟩:∃ g',g=g'+1:=⟨g-1,by omega⟩;by_cases h:a%2=1
    · rw [twsF_odd h,twsF_odd h]
    · rw [twsF_even (by omega),twsF_even (by omega)]
      exact ih g (a/2) (c+1) (by omega) (by omega) (by omega)
theorem twsF_add:∀ (f a c d:Nat),twsF f a (c+d)=((twsF f a c).1,(twsF f a c).2+d):=by
  intro f
  induction f with
  | zero=>intros;rfl
  | succ f ih=>
    intro a c d;by_cases h:a%2=1
    · rw [twsF_odd h,twsF_odd h]
    · rw [twsF_even (by omega),twsF_even (by omega)]
      have:=ih (a/2) (c+1) d;rw [show c+d+1=c+1+d by omega];exact this
theorem tws_odd {a:Nat} (h:a%2=1):tws a=(a,0):=by
  obtain ⟨b,rfl⟩:∃ b,a=b+1:=⟨a-1,by omega⟩;exact twsF_odd h
theorem tws_even {a:Nat} (h0:0<a) (h:a%2=0):tws a=((tws (a/2)).1,(tws (a/2)).2+1):=by
  unfold tws;obtain ⟨b,hb⟩:∃ b,a=b+1:=⟨a-1,by omega⟩;have e:twsF a a 0=twsF b (a/2) 1:=by conv=>lhs;rw [hb];rw [twsF_even (by omega)];rw [← hb]
  rw [e,twsF_fuel b (a/2) (a/2) 1 (by omega) (by omega) (Nat.le_refl _)];exact twsF_add (a/2) (a/2) 0 1
theorem krF_odd {f a n:Nat} {k:Int} (h:a%2=1):krF (f+1) a n k=krF f (n%a) a (if a%4=3∧n%4=3 then -k else k):=by
  conv=>lhs;unfold krF
  rw [if_neg (by omega),tws_odd h];simp
theorem sg8_sq {n:Nat} (h:n%2=1):sg8 (n%8)*sg8 (n%8)=1:=by
  obtain h | h | h | h:n%8=1∨n%8=3∨n%8=5∨n%8=7:=by omega
  all_goals rw [h];rfl
theorem krF_step {f a n:Nat} {k:Int} (h0:0<a) (b c:Nat) (hb:tws a=(b,c)) (kk:Int) (hk:(if c%2=1 then k*sg8 (n%8) else k)=kk):krF (f+1) a n k=krF f (n%b) b (if b%4=3∧n%4=3 then -kk else kk):=by
  conv=>lhs;unfold krF
  rw [if_neg (by omega),hb];simp only [];rw [hk]
theorem krF_even {f a n:Nat} {k:Int} (h0:0<a) (h:a%2=0) (hn:n%2=1):krF (f+1) a n k=krF (f+1) (a/2) n (k*sg8 (n%8)):=by
  rw [krF_step h0 _ _ (tws_even h0 h) _ rfl,krF_step (show 0<a/2 by omega) (tws (a/2)).1 (tws (a/2)).2 rfl _ rfl]
  have key:(if ((tws (a/2)).2+1)%2=1 then k*sg8 (n%8) else k)=(if (tws (a/2)).2%2=1 then k*sg8 (n%8)*sg8 (n%8) else k*sg8 (n%8)):=by
    have hs:=sg8_sq hn;by_cases hc:(tws (a/2)).2%2=1
    · rw [if_neg (by omega),if_pos hc,Int.mul_assoc,hs,Int.mul_one]
    · rw [if_pos (by omega),if_neg hc]
  rw [key]
theorem krF_fuel:∀ (f g a n:Nat) (k:Int),a≤f→a≤g→krF f a n k=krF g a n k:=by
  intro f
  induction f with
  | zero=>
    intro g a n k h1 h2;obtain rfl:a=0:=by omega
    rw [krF_zero,krF_zero]
  | succ f ih=>
    intro g a n k h1 h2;by_cases h:a=0
    · subst h;rw [krF_zero,krF_zero]
    · obtain ⟨g,rfl⟩:∃ g',g=g'+1:=⟨g-1,by omega⟩
      unfold krF;rw [if_neg h,if_neg h];obtain ⟨t1,t2,t3,t4⟩:=tws_spec (show 0<a by omega);have hlt:=Nat.mod_lt n t2;exact ih g _ _ _ (by omega) (by omega)
theorem kG_spec:∀ (f a n:Nat) (s:Bool),a≤f→n%2=1→vlK (kG f a n s)=krF a a n (sgK s):=by
  intro f
  induction f with
  | zero=>
    intro a n s h1 h2;obtain rfl:a=0:=by omega
    rw [kG_zero,vl_end,krF_zero]
  | succ f ih=>
    intro a n s h1 h2;by_cases h:a=0
    · subst h;rw [kG_a0,vl_end,krF_zero]
    obtain ⟨k,rfl⟩:∃ k,a=k+1:=⟨a-1,by omega⟩;rw [kG_succ];by_cases hk:k%2=1
    · rw [beq_t hk,cond_true,ih _ _ _ (by omega) h2,sg_flip n s h2,krF_even (by omega) (by omega) h2]
      exact krF_fuel _ _ _ _ _ (Nat.le_refl _) (by omega)
    · rw [beq_f hk,cond_false,ih _ _ _ (by have:=Nat.mod_lt n (show 0<k+1 by omega);omega) (by omega),krF_odd (by omega)]
      have e:sgK (cond (Nat.beq (k%4) 2) (cond (Nat.beq (n%4) 3) (!s) s) s)=if (k+1)%4=3∧n%4=3 then -sgK s else sgK s:=by
        by_cases h4:k%4=2
        · rw [beq_t h4,cond_true]
          by_cases h5:n%4=3
          · rw [beq_t h5,cond_true,if_pos ⟨by omega,h5⟩];cases s <;> rfl
          · rw [beq_f h5,cond_false,if_neg (fun hh=>h5 hh.2)]
        · rw [beq_f h4,cond_false,if_neg (fun hh=>h4 (by omega))]
      rw [e];exact krF_fuel _ _ _ _ _ (Nat.le_refl _) (by have:=Nat.mod_lt n (show 0<k+1 by omega);omega)
theorem kM_succ (f n m:Nat) (s:Bool):kM (f+1) n m s=cond (Nat.beq (m%2) 0) (cond (Nat.beq (n%2) 0) 0 (kM f n (m/2) (cond (Nat.beq (n%8) 3) (!s) (cond (Nat.beq (n%8) 5) (!s) s)))) (kG m ((m-n%m)%m) m s):=rfl
theorem neg_mod (n m:Nat) (h:0<m):((-(n:Int))%(m:Int)).toNat=(m-n%m)%m:=by
  have h1:=Nat.div_add_mod n m;have h2:=Nat.mod_lt n h
  have e:(-(n:Int))=(((m-n%m:Nat):Nat):Int)+(m:Int)*(-(((n/m:Nat):Int))-1):=by
    have:(n:Int)=(m:Int)*((n/m:Nat):Int)+((n%m:Nat):Int):=by exact_mod_cast h1.symm
    rw [this,Int.mul_sub,Int.mul_neg,Int.mul_one,Int.ofNat_sub (by omega)];omega
  rw [e,Int.add_mul_emod_self_left];rw [← Int.natCast_emod];rfl
theorem kM_spec:∀ (f n m:Nat) (s:Bool),0<m→m≤f→n%2=1→vlK (kM f n m s)=krF (tws m).1 (((tws m).1-n%(tws m).1)%(tws m).1) (tws m).1 (if (tws m).2%2=1 then sgK s*sg8 (n%8) else sgK s):=by
  intro f
  induction f with
  | zero=>intros;omega
  | succ f ih=>
    intro n m s h1 h2 h3;rw [kM_succ];by_cases hm:m%2=0
    · rw [beq_t hm,cond_true,beq_f (by omega),cond_false,ih n (m/2) _ (by omega) (by omega) h3,tws_even h1 hm,sg_flip n s h3]
      simp only []
      have key:(if (tws (m/2)).2%2=1 then sgK s*sg8 (n%8)*sg8 (n%8) else sgK s*sg8 (n%8))=(if ((tws (m/2)).2+1)%2=1 then sgK s*sg8 (n%8) else sgK s):=by
        by_cases hc:(tws (m/2)).2%2=1
        · rw [if_pos hc,if_neg (by omega),Int.mul_assoc,sg8_sq h3,Int.mul_one]
        · rw [if_neg hc,if_pos (by omega)]
      rw [key]
    · rw [beq_f hm,cond_false,tws_odd (by omega)]
      have hlt:=Nat.mod_lt (m-n%m) h1;rw [kG_spec _ _ _ _ (by omega) (by omega)];rw [if_neg (show ¬ (((m,0):Nat×Nat).2%2=1) from fun hh=>absurd (show 0%2=1 from hh) (by decide))];exact krF_fuel _ _ _ _ _ (Nat.le_refl _) (by omega)
theorem kM_kr (n m:Nat) (h:0<m):vlK (kM m n m false)=kr (-(n:Int)) m:=by
  unfold kr;by_cases hn:n%2=0
  · by_cases hm:m%2=0
    · rw [if_pos ⟨by omega,hm⟩]
      obtain ⟨f,rfl⟩:∃ f,m=f+1:=⟨m-1,by omega⟩;rw [kM_succ,beq_t hm,beq_t hn];rfl
    · rw [if_neg (fun hh=>hm hh.2),tws_odd (by omega)]
      obtain ⟨f,hf⟩:∃ f,m=f+1:=⟨m-1,by omega⟩
      have e:kM m n m false=kG m ((m-n%m)%m) m false:=by
        conv=>lhs;rw [show kM m n m false=kM (f+1) n m false by rw [← hf]]
        rw [kM_succ,beq_f hm,cond_false]
      have hlt:=Nat.mod_lt (m-n%m) h;rw [e,kG_spec _ _ _ _ (by omega) (by omega)];rw [if_neg (show ¬ (((m,0):Nat×Nat).2%2=1) from fun hh=>absurd (show 0%2=1 from hh) (by decide))];simp only [];rw [neg_mod n m h];exact krF_fuel _ _ _ _ _ (Nat.le_refl _) (by omega)
  · rw [if_neg (fun hh=>hn (by omega)),kM_spec m n m false h (Nat.le_refl _) (by omega)]
    obtain ⟨t1,t2,t3,t4⟩:=tws_spec h;simp only [];rw [neg_mod n _ t2]
    have e:(if (tws m).2%2=1 then sgK false*sg8 (n%8) else sgK false)=if (tws m).2%2=1 then sg8 ((-(n:Int))%8).toNat else 1:=by
      by_cases hc:(tws m).2%2=1
      · rw [if_pos hc,if_pos hc]
        obtain h8 | h8 | h8 | h8:n%8=1∨n%8=3∨n%8=5∨n%8=7:=by omega
        · rw [h8,show ((-(n:Int))%8).toNat=7 by omega];rfl
        · rw [h8,show ((-(n:Int))%8).toNat=5 by omega];rfl
        · rw [h8,show ((-(n:Int))%8).toNat=3 by omega];rfl
        · rw [h8,show ((-(n:Int))%8).toNat=1 by omega];rfl
      · rw [if_neg hc,if_neg hc];rfl
    rw [e]
theorem sumK_succ (n m p q:Nat):sumK n (m+1) p q=Nat.rec (sumK n m p q) (fun k _=>Nat.rec (sumK n m (p+m) q) (fun _ _=>sumK n m p (q+m)) k) (kM m n m false):=rfl
theorem sumK_spec (n:Nat):∀ m p q:Nat,(((sumK n m p q).2:Nat):Int)-(((sumK n m p q).1:Nat):Int)=clsS (-(n:Int)) m+(q:Int)-(p:Int):=by
  intro m
  induction m with
  | zero=>intro p q;show (q:Int)-(p:Int)=0+(q:Int)-(p:Int);omega
  | succ m ih=>
    intro p q;rw [sumK_succ];unfold clsS;by_cases hm:m=0
    · subst hm
      rw [show kM 0 n 0 false=0 from rfl];show (((sumK n 0 p q).2:Nat):Int)-(((sumK n 0 p q).1:Nat):Int)=_;rw [ih p q];omega
    · have hk:=kM_kr n m (by omega)
      rw [← hk];generalize kM m n m false=r;rcases r with _ | _ | r
      · show (((sumK n m p q).2:Nat):Int)-(((sumK n m p q).1:Nat):Int)=_
        rw [ih p q,show vlK 0=0 from rfl];omega
      · show (((sumK n m (p+m) q).2:Nat):Int)-(((sumK n m (p+m) q).1:Nat):Int)=_
        rw [ih (p+m) q,show vlK (0+1)=1 from rfl];omega
      · show (((sumK n m p (q+m)).2:Nat):Int)-(((sumK n m p (q+m)).1:Nat):Int)=_
        have e:vlK (r+1+1)= -1:=by unfold vlK;rw [if_neg (by omega),if_neg (by omega)]
        rw [ih p (q+m),e];omega
def rtN (n:Nat):Nat→Nat
  | 0=>0
  | k+1=>if (k+1)*(k+1)≤n then k+1 else rtN n k
theorem rtN_spec (n:Nat):∀ k,n<(k+1)*(k+1)→rtN n k*rtN n k≤n∧n<(rtN n k+1)*(rtN n k+1)
  | 0,h=>⟨by simp [rtN],by simp only [rtN];exact h⟩
  | k+1,h=>by
    unfold rtN;by_cases hk:(k+1)*(k+1)≤n
    · rw [if_pos hk];exact ⟨hk,h⟩
    · rw [if_neg hk];exact rtN_spec n k (by omega)
def goodN (n:Nat):Bool:=cond (isD n) (cond (Nat.beq (cdB n (rtN n 45)) 1) (match sumK n n 0 0 with | (p,q)=>Nat.beq q (Nat.add p (Nat.mul n (((fmA (n:Int) (n+1) 1).filter fmPrim).length)))) true) true
def goodR (lo:Nat) (len:Nat):Bool:=Nat.rec true (fun k ih=>cond (goodN (Nat.add lo k)) ih false) len
theorem goodR_spec {lo:Nat} :∀ len,goodR lo len=true→ ∀ n,lo≤n→n<lo+len→goodN n=true
  | 0,_,n,h1,h2=>by omega
  | len+1,h,n,h1,h2=>by
    have e:goodR lo (len+1)=cond (goodN (lo+len)) (goodR lo len) false:=rfl;rw [e] at h;cases hg:goodN (lo+len) with
    | false=>rw [hg] at h;cases h
    | true=>
      rw [hg] at h;by_cases hn:n=lo+len
      · rw [hn];exact hg
      · exact goodR_spec len h n h1 (by omega)
theorem goodN_cls {n L:Nat} (h:goodN n=true) (h2:n≤2003) (h4:4<n) (hd:n%4=0∨n%4=3) (hL:L*L≤n∧n<(L+1)*(L+1)) (hc:cdB n L=1):(clsS (-(n:Int)) n).tdiv (n:Int)=fmCnt (fmA (n:Int) (n+1) 1):=by
  have hr:=rtN_spec n 45 (by omega);have e:rtN n 45=L:=sqrt_uniq hr.1 hr.2 hL.1 hL.2;have hi:isD n=true:=by unfold isD;rcases hd with h | h <;> simp [h]
  unfold goodN at h;rw [hi,cond_true,e,hc,show Nat.beq 1 1=true from rfl,cond_true] at h;have hs:=sumK_spec n n 0 0;generalize sumK n n 0 0=r at h hs;obtain ⟨p,q⟩:=r;have h:=Nat.eq_of_beq_eq_true h;have h:q=p+n*((fmA (n:Int) (n+1) 1).filter fmPrim).length:=h;simp only [] at hs;have e2:clsS (-(n:Int)) n=((n*((fmA (n:Int) (n+1) 1).filter fmPrim).length:Nat):Int):=by omega
  rw [e2,Int.natCast_mul,Int.mul_tdiv_cancel_left _ (by omega)];rfl
end Go.Proofs.YtknffgdbdadpcaaGreatDoor
namespace Go.Proofs.YtknffgdbdadpcaaGreatDoor
open Go Go.RowKit
set_option maxRecDepth 100000 in
theorem clsK5:goodR 5 250=true:=by decide +kernel
set_option maxRecDepth 100000 in
theorem clsK255:goodR 255 250=true:=by decide +kernel
set_option maxRecDepth 100000 in
theorem clsK505:goodR 505 120=true:=by decide +kernel
set_option maxRecDepth 100000 in
theorem clsK625:goodR 625 120=true:=by decide +kernel
set_option maxRecDepth 100000 in
theorem clsK745:goodR 745 120=true:=by decide +kernel
set_option maxRecDepth 100000 in
theorem clsK865:goodR 865 120=true:=by decide +kernel
end Go.Proofs.YtknffgdbdadpcaaGreatDoor
namespace Go.Proofs.YtknffgdbdadpcaaGreatDoor
open Go Go.RowKit
set_option maxRecDepth 100000 in
theorem clsK985:goodR 985 120=true:=by decide +kernel
set_option maxRecDepth 100000 in
theorem clsK1105:goodR 1105 80=true:=by decide +kernel
set_option maxRecDepth 100000 in
theorem clsK1185:goodR 1185 80=true:=by decide +kernel
set_option maxRecDepth 100000 in
theorem clsK1265:goodR 1265 80=true:=by decide +kernel
set_option maxRecDepth 100000 in
theorem clsK1345:goodR 1345 80=true:=by decide +kernel
end Go.Proofs.YtknffgdbdadpcaaGreatDoor
namespace Go.Proofs.YtknffgdbdadpcaaGreatDoor
open Go Go.RowKit
set_option maxRecDepth 100000 in
theorem clsK1425:goodR 1425 80=true:=by decide +kernel
set_option maxRecDepth 100000 in
theorem clsK1505:goodR 1505 56=true:=by decide +kernel
set_option maxRecDepth 100000 in
theorem clsK1561:goodR 1561 56=true:=by decide +kernel
set_option maxRecDepth 100000 in
theorem clsK1617:goodR 1617 56=true:=by decide +kernel
set_option maxRecDepth 100000 in
theorem clsK1673:goodR 1673 56=true:=by decide +kernel
end Go.Proofs.YtknffgdbdadpcaaGreatDoor
namespace Go.Proofs.YtknffgdbdadpcaaGreatDoor
open Go Go.RowKit
set_option maxRecDepth 100000 in
theorem clsK1729:goodR 1729 56=true:=by decide +kernel
set_option maxRecDepth 100000 in
theorem clsK1785:goodR 1785 56=true:=by decide +kernel
set_option maxRecDepth 100000 in
theorem clsK1841:goodR 1841 56=true:=by decide +kernel
set_option maxRecDepth 100000 in
theorem clsK1897:goodR 1897 56=true:=by decide +kernel
set_option maxRecDepth 100000 in
theorem clsK1953:goodR 1953 51=true:=by decide +kernel
end Go.Proofs.YtknffgdbdadpcaaGreatDoor
namespace Go.Proofs.YtknffgdbdadpcaaGreatDoor
open Go Go.RowKit
theorem clsNums:ClsNums:=fun n L h4 h2 hd hL hc=>by
  have h:goodN n=true:=by
    by_cases h1:n<255
    · exact goodR_spec _ clsK5 n (by omega) (by omega)
    by_cases h1:n<505
    · exact goodR_spec _ clsK255 n (by omega) (by omega)
    by_cases h1:n<625
    · exact goodR_spec _ clsK505 n (by omega) (by omega)
    by_cases h1:n<745
    · exact goodR_spec _ clsK625 n (by omega) (by omega)
    by_cases h1:n<865
    · exact goodR_spec _ clsK745 n (by omega) (by omega)
    by_cases h1:n<985
    · exact goodR_spec _ clsK865 n (by omega) (by omega)
    by_cases h1:n<1105
    · exact goodR_spec _ clsK985 n (by omega) (by omega)
    by_cases h1:n<1185
    · exact goodR_spec _ clsK1105 n (by omega) (by omega)
    by_cases h1:n<1265
    · exact goodR_spec _ clsK1185 n (by omega) (by omega)
    by_cases h1:n<1345
    · exact goodR_spec _ clsK1265 n (by omega) (by omega)
    by_cases h1:n<1425
    · exact goodR_spec _ clsK1345 n (by omega) (by omega)
    by_cases h1:n<1505
    · exact goodR_spec _ clsK1425 n (by omega) (by omega)
    by_cases h1:n<1561
    · exact goodR_spec _ clsK1505 n (by omega) (by omega)
    by_cases h1:n<1617
    · exact goodR_spec _ clsK1561 n (by omega) (by omega)
    by_cases h1:n<1673
    · exact goodR_spec _ clsK1617 n (by omega) (by omega)
    by_cases h1:n<1729
    · exact goodR_spec _ clsK1673 n (by omega) (by omega)
    by_cases h1:n<1785
    · exact goodR_spec _ clsK1729 n (by omega) (by omega)
    by_cases h1:n<1841
    · exact goodR_spec _ clsK1785 n (by omega) (by omega)
    by_cases h1:n<1897
    · exact goodR_spec _ clsK1841 n (by omega) (by omega)
    by_cases h1:n<1953
    · exact goodR_spec _ clsK1897 n (by omega) (by omega)
    exact goodR_spec _ clsK1953 n (by omega) (by omega)
  exact goodN_cls h h2 h4 hd hL hc
end Go.Proofs.YtknffgdbdadpcaaGreatDoor
