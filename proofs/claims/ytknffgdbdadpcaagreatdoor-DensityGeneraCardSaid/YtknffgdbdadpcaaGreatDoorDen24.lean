/-
  How often a form has a value, as the laws of package density count. (Printed by wip/gen/den24.py.)
-/
import Derived.Test.YtknffgdbdadpcaaGreatDoorDen23
namespace Go.Proofs.YtknffgdbdadpcaaGreatDoor
open Go Go.RowKit
set_option maxRecDepth 100000
set_option maxHeartbeats 4000000
def sm (g:Int→Nat):Int→Nat→Nat
  | _,0=>0
  | lo,k+1=>g lo+sm g (lo+1) k
theorem sm_congr {g h:Int→Nat} :∀ (k:Nat) (lo:Int),(∀ i,lo≤i→i<lo+k→g i=h i)→sm g lo k=sm h lo k
  | 0,_,_=>rfl
  | k+1,lo,e=>by
    simp only [sm];rw [e lo (Int.le_refl _) (by omega),sm_congr k (lo+1) fun i h1 h2=>e i (by omega) (by omega)]
theorem sm_zero {g:Int→Nat} :∀ (k:Nat) (lo:Int),(∀ i,lo≤i→i<lo+k→g i=0)→sm g lo k=0
  | 0,_,_=>rfl
  | k+1,lo,e=>by
    simp only [sm];rw [e lo (Int.le_refl _) (by omega),sm_zero k (lo+1) fun i h1 h2=>e i (by omega) (by omega)]
theorem sm_add {g:Int→Nat} :∀ (k l:Nat) (lo:Int),sm g lo (k+l)=sm g lo k+sm g (lo+k) l
  | 0,l,lo=>by simp [sm]
  | k+1,l,lo=>by
    rw [show k+1+l=(k+l)+1 by omega];have h1:sm g lo (k+l+1)=g lo+sm g (lo+1) (k+l):=rfl;have h2:sm g lo (k+1)=g lo+sm g (lo+1) k:=rfl;rw [h1,h2,sm_add k l (lo+1),show lo+1+(k:Int)=lo+((k+1:Nat):Int) by omega];omega
theorem sm_box {g:Int→Nat} {A B:Nat} (h:B≤A) (hz:∀ i:Int,(i< -B∨(B:Int)<i)→g i=0):sm g (-(A:Int)) (2*A+1)=sm g (-(B:Int)) (2*B+1):=by
  have e:2*A+1=(A-B)+((2*B+1)+(A-B)):=by omega
  rw [e,sm_add,sm_add];rw [sm_zero (A-B) _ fun i h1 h2=>hz i (by omega),sm_zero (A-B) _ fun i h1 h2=>hz i (by omega)];rw [show -(A:Int)+((A-B:Nat):Int)= -(B:Int) by omega];omega
theorem sm_any {g:Int→Nat} {A B:Nat} (C:Nat) (hA:C≤A) (hB:C≤B) (hz:∀ i:Int,(i< -C∨(C:Int)<i)→g i=0):sm g (-(A:Int)) (2*A+1)=sm g (-(B:Int)) (2*B+1):=by
  rw [sm_box hA hz,sm_box hB hz]
def qf (a b c x y:Int):Int:=a*x*x+b*x*y+c*y*y
def on (p:Prop) [Decidable p]:Nat:=if p then 1 else 0
def repS (a b c:Int) (n:Nat):Nat:=
  sm (fun x=>if 4*c*n<(4*a*c-b*b)*x*x then 0 else sm (fun y=>on (qf a b c x y=n)) (-((2*n:Nat):Int)) (2*(2*n)+1)) (-((2*n:Nat):Int)) (2*(2*n)+1)
theorem qf_x (a b c x y:Int):4*c*qf a b c x y=(2*c*y+b*x)*(2*c*y+b*x)+(4*a*c-b*b)*x*x:=by unfold qf;grind
theorem qf_y (a b c x y:Int):4*a*qf a b c x y=(2*a*x+b*y)*(2*a*x+b*y)+(4*a*c-b*b)*y*y:=by unfold qf;grind
theorem sqn (t:Int):0≤t*t:=by
  rcases Int.le_total 0 t with h | h
  · exact Int.mul_nonneg h h
  · have:=Int.mul_nonneg (show 0≤ -t by omega) (show 0≤ -t by omega)
    rwa [Int.neg_mul_neg] at this
theorem qf_le {a b c x y:Int} {n:Int} (h:qf a b c x y=n):(4*a*c-b*b)*x*x≤4*c*n∧(4*a*c-b*b)*y*y≤4*a*n:=by
  have h1:=qf_x a b c x y;have h2:=qf_y a b c x y;have s1:=sqn (2*c*y+b*x);have s2:=sqn (2*a*x+b*y);rw [h] at h1 h2;exact ⟨by omega,by omega⟩
def RedF (a b c:Int):Prop:=1≤a∧ -a≤b∧b≤a∧a≤c
theorem red_sq {a b c x y n:Int} (hr:RedF a b c) (h:qf a b c x y=n):3*(x*x)≤4*n∧3*(y*y)≤4*n:=by
  obtain ⟨h1,h2,h3,h4⟩:=hr;obtain ⟨g1,g2⟩:=qf_le h
  have hb:b*b≤a*a:=by
    have h5:=Int.mul_nonneg (show 0≤a-b by omega) (show 0≤a+b by omega);have e:(a-b)*(a+b)=a*a-b*b:=by grind
    omega
  have hac:a*a≤a*c:=Int.mul_le_mul_of_nonneg_left h4 (by omega)
  have hd:3*(a*c)≤4*a*c-b*b:=by
    have:4*a*c=4*(a*c):=by grind
    omega
  have hx:=sqn x;have hy:=sqn y;have gx:=Int.mul_le_mul_of_nonneg_right hd hx;have gy:=Int.mul_le_mul_of_nonneg_right hd hy;have ex:(4*a*c-b*b)*x*x=(4*a*c-b*b)*(x*x):=by grind
  have ey:(4*a*c-b*b)*y*y=(4*a*c-b*b)*(y*y):=by grind
  constructor
  · have hc:3*a*(x*x)*c≤4*n*c:=by
      have e1:3*(a*c)*(x*x)=3*a*(x*x)*c:=by grind
      have e2:4*c*n=4*n*c:=by grind
      omega
    have h5:=Int.le_of_mul_le_mul_right hc (by omega);have h6:=Int.mul_le_mul_of_nonneg_right h1 hx;have e1:3*a*(x*x)=3*(a*(x*x)):=by grind
    omega
  · have hc:3*c*(y*y)*a≤4*n*a:=by
      have e1:3*(a*c)*(y*y)=3*c*(y*y)*a:=by grind
      have e2:4*a*n=4*n*a:=by grind
      omega
    have h5:=Int.le_of_mul_le_mul_right hc (by omega);have h6:=Int.mul_le_mul_of_nonneg_right (show 1≤c by omega) hy;have e1:3*c*(y*y)=3*(c*(y*y)):=by grind
    omega
theorem sq_lt {x:Int} {C:Nat} (h:x< -C∨(C:Int)<x):((C+1)*(C+1):Int)≤x*x:=by
  rcases h with h | h
  · have:=Int.mul_le_mul (show (C+1:Int)≤ -x by omega) (show (C+1:Int)≤ -x by omega) (by omega) (by omega)
    rwa [Int.neg_mul_neg] at this
  · exact Int.mul_le_mul (show (C+1:Int)≤x by omega) (show (C+1:Int)≤x by omega) (by omega) (by omega)
def repB (a b c:Int) (n C:Nat):Nat:=sm (fun x=>sm (fun y=>on (qf a b c x y=n)) (-(C:Int)) (2*C+1)) (-(C:Int)) (2*C+1)
def leastB:Nat→Nat→Nat
  | 0,_=>0
  | k+1,n=>if 4*n<3*((k+1)*(k+1)) then leastB k n else k+1
theorem leastB_spec (n:Nat):∀ k,4*n<3*((k+1)*(k+1))→4*n<3*((leastB k n+1)*(leastB k n+1))∧leastB k n≤k∧(0<leastB k n→3*(leastB k n*leastB k n)≤4*n)
  | 0,h=>⟨h,Nat.le_refl _,fun h=>absurd h (by simp [leastB])⟩
  | k+1,h=>by
    unfold leastB;by_cases hk:4*n<3*((k+1)*(k+1))
    · rw [if_pos hk];obtain ⟨h1,h2,h3⟩:=leastB_spec n k hk;exact ⟨h1,by omega,h3⟩
    · rw [if_neg hk];exact ⟨h,Nat.le_refl _,fun _=>by omega⟩
theorem repS_box {a b c:Int} {n:Nat} (hr:RedF a b c) (hn:1≤n) (h40:n≤40):repS a b c n=repB a b c n 7:=by
  obtain ⟨k1,k2,k3⟩:=leastB_spec n 7 (by omega);obtain ⟨C,hC⟩:∃ C,leastB 7 n=C:=⟨_,rfl⟩;rw [hC] at k1 k2 k3
  have hC2:C≤2*n:=by
    refine Nat.not_lt.1 fun hlt=> ?_
    have h1:=k3 (by omega);have h2:=Nat.mul_le_mul (show 2*n+1≤C from hlt) (show 2*n+1≤C from hlt);have h3:(2*n+1)*(2*n+1)=4*(n*n)+4*n+1:=by grind
    omega
  have hy:∀ x y:Int,(y< -(C:Int)∨(C:Int)<y)→on (qf a b c x y=n)=0:=fun x y h=>by
    unfold on;rw [if_neg];intro he;have h1:=(red_sq hr he).2;have h2:=sq_lt h;have h3:(((C+1)*(C+1):Nat):Int)=((C:Int)+1)*((C:Int)+1):=by rw [Int.natCast_mul];rfl
    omega
  have hx:∀ x y:Int,(x< -(C:Int)∨(C:Int)<x)→on (qf a b c x y=n)=0:=fun x y h=>by
    unfold on;rw [if_neg];intro he;have h1:=(red_sq hr he).1;have h2:=sq_lt h;have h3:(((C+1)*(C+1):Nat):Int)=((C:Int)+1)*((C:Int)+1):=by rw [Int.natCast_mul];rfl
    omega
  have e1:repS a b c n=repB a b c n (2*n):=by
    unfold repS repB;refine sm_congr _ _ fun x _ _=> ?_
    by_cases hlt:4*c*(n:Int)<(4*a*c-b*b)*x*x
    · rw [if_pos hlt]
      refine (sm_zero _ _ fun y _ _=> ?_).symm;unfold on;rw [if_neg];intro he;have:=(qf_le he).1;omega
    · rw [if_neg hlt]
  have e2:repB a b c n (2*n)=repB a b c n 7:=by
    unfold repB;rw [sm_any C hC2 k2 fun x h=>sm_zero _ _ fun y _ _=>hx x y h];refine sm_congr _ _ fun x _ _=>sm_any C hC2 k2 fun y h=>hy x y h
  rw [e1,e2]
def sl (h:Nat→Nat):List Nat→Nat
  | []=>0
  | x ::t=>h x+sl h t
theorem sl_filter {h:Nat→Nat} {p:Nat→Bool} :∀ l:List Nat,(∀ x∈l,p x=false→h x=0)→sl h (l.filter p)=sl h l
  | [],_=>rfl
  | x ::t,e=>by
    have ih:=sl_filter t fun y hy=>e y (List.mem_cons_of_mem _ hy)
    cases hp:p x with
    | true=>rw [List.filter_cons_of_pos hp];simp only [sl];omega
    | false=>rw [List.filter_cons_of_neg (by rw [hp];decide)];simp only [sl];have:=e x (List.mem_cons_self) hp;omega
theorem sl_congr {h g:Nat→Nat} :∀ l:List Nat,(∀ x∈l,h x=g x)→sl h l=sl g l
  | [],_=>rfl
  | x ::t,e=>by
    have ih:=sl_congr t fun y hy=>e y (List.mem_cons_of_mem _ hy)
    have:=e x List.mem_cons_self;simp only [sl];omega
theorem sl_zero {h:Nat→Nat} :∀ l:List Nat,(∀ x∈l,h x=0)→sl h l=0
  | [],_=>rfl
  | x ::t,e=>by
    have ih:=sl_zero t fun y hy=>e y (List.mem_cons_of_mem _ hy)
    have:=e x List.mem_cons_self;simp only [sl];omega
def sevN:List Nat:= [1,2,3,4,5,6,7]
def cN (n:Nat):List Nat→Nat
  | []=>0
  | v ::t=>Nat.add (cond (Nat.beq v n) 1 0) (cN n t)
def ltN (v:Nat) (t:List Nat):List Nat:=Nat.rec t (fun k _=>cond (Nat.ble k 39) (Nat.succ k ::t) t) v
theorem cN_lt {n v:Nat} {t:List Nat} (h1:1≤n) (h2:n≤40):cN n (ltN v t)=on (v=n)+cN n t:=by
  rcases v with _ | k
  · show cN n t=_
    unfold on;rw [if_neg (by omega)];omega
  · show cN n (cond (Nat.ble k 39) (Nat.succ k ::t) t)=_
    by_cases hk:k≤39
    · rw [Nat.ble_eq_true_of_le hk,cond_true]
      show Nat.add (cond (Nat.beq (k+1) n) 1 0) (cN n t)=_;unfold on;by_cases e:k+1=n
      · rw [if_pos e,show Nat.beq (k+1) n=true by rw [e];exact Nat.beq_refl n];rfl
      · have hb:Nat.beq (k+1) n=false:=by cases hb:Nat.beq (k+1) n with
          | false=>rfl
          | true=>exact absurd (Nat.eq_of_beq_eq_true hb) e
        rw [if_neg e,hb];rfl
    · have hb : Nat.ble k 39 = false := by cases hb : Nat.ble k 39 with
          | false=>rfl
          | true=>exact absurd (Nat.le_of_ble_eq_true hb) hk
      rw [hb,cond_false];unfold on;rw [if_neg (by omega)];omega
theorem cN_fold {n:Nat} {f:Nat→List Nat→List Nat} {h:Nat→Nat} (hf:∀ x t,cN n (f x t)=h x+cN n t):∀ (l t:List Nat),cN n (l.foldr f t)=sl h l+cN n t
  | [],t=>by simp [sl]
  | x ::l,t=>by rw [List.foldr_cons,hf,cN_fold hf l t];simp only [sl];omega
def valF (A B C:Nat) (t:List Nat):List Nat:=
  List.foldr (fun x t=>ltN (A*x*x) t)
    (List.foldr (fun y t=>ltN (C*y*y) t)
      (List.foldr (fun x t=>List.foldr (fun y t=>ltN (A*x*x+C*y*y+B*x*y) (ltN (A*x*x+C*y*y-B*x*y) t)) t (sevN.filter fun y=>Nat.ble ((4*A*C-B*B)*y*y) (160*A))) t (sevN.filter fun x=>Nat.ble ((4*A*C-B*B)*x*x) (160*C)))
      (sevN.filter fun y=>Nat.ble ((4*A*C-B*B)*y*y) (160*A)))
    (sevN.filter fun x=>Nat.ble ((4*A*C-B*B)*x*x) (160*C))
theorem sm15 {G:Int→Nat} (h:∀ x,G (-x)=G x):sm G (-((7:Nat):Int)) (2*7+1)=G 0+2*sl (fun i=>G ((i:Nat):Int)) sevN:=by
  have e:sm G (-((7:Nat):Int)) (2*7+1)=G (-7)+(G (-6)+(G (-5)+(G (-4)+(G (-3)+(G (-2)+(G (-1)+(G 0+(G 1+(G 2+(G 3+(G 4+(G 5+(G 6+(G 7+0)))))))))))))):=rfl;have e2:sl (fun i=>G ((i:Nat):Int)) sevN=G 1+(G 2+(G 3+(G 4+(G 5+(G 6+(G 7+0)))))):=rfl;rw [e,e2,h 1,h 2,h 3,h 4,h 5,h 6,h 7];omega
theorem sm15' {G:Int→Nat} :sm G (-((7:Nat):Int)) (2*7+1)=G 0+sl (fun i=>G ((i:Nat):Int)+G (-((i:Nat):Int))) sevN:=by
  have e:sm G (-((7:Nat):Int)) (2*7+1)=G (-7)+(G (-6)+(G (-5)+(G (-4)+(G (-3)+(G (-2)+(G (-1)+(G 0+(G 1+(G 2+(G 3+(G 4+(G 5+(G 6+(G 7+0)))))))))))))):=rfl;have e2:sl (fun i=>G ((i:Nat):Int)+G (-((i:Nat):Int))) sevN=(G 1+G (-1))+((G 2+G (-2))+((G 3+G (-3))+((G 4+G (-4))+((G 5+G (-5))+((G 6+G (-6))+((G 7+G (-7))+0)))))):=rfl;rw [e,e2];omega
theorem qf_neg (a b c x y:Int):qf a b c (-x) (-y)=qf a b c x y:=by unfold qf;grind
theorem sl_add {h g:Nat→Nat} :∀ l:List Nat,sl (fun x=>h x+g x) l=sl h l+sl g l
  | []=>rfl
  | x ::l=>by simp only [sl];rw [sl_add l];omega
theorem repB_signs {a b c:Int} {n:Nat} (hn:1≤n):repB a b c n 7=2*(sl (fun x=>on (qf a b c x 0=n)) sevN+sl (fun y=>on (qf a b c 0 y=n)) sevN+sl (fun x=>sl (fun y=>on (qf a b c x y=n)+on (qf a b c x (-((y:Nat):Int))=n)) sevN) sevN):=by
  unfold repB;have hG:∀ x:Int,sm (fun y=>on (qf a b c x y=n)) (-((7:Nat):Int)) (2*7+1)=on (qf a b c x 0=n)+sl (fun y=>on (qf a b c x ((y:Nat):Int)=n)+on (qf a b c x (-((y:Nat):Int))=n)) sevN:=fun x=>sm15'
  rw [sm15 (G:=fun x=>sm (fun y=>on (qf a b c x y=n)) (-((7:Nat):Int)) (2*7+1)) fun x=>by
    rw [hG,hG];have e0:qf a b c (-x) 0=qf a b c x 0:=by have:=qf_neg a b c x 0;simpa using this
    rw [e0]
    congr 1
    refine sl_congr _ fun y _=> ?_
    have e1:qf a b c (-x) (y:Int)=qf a b c x (-(y:Int)):=by have:=qf_neg a b c x (-(y:Int));rwa [Int.neg_neg] at this
    rw [e1,qf_neg];omega]
  rw [hG 0];have e00:on (qf a b c 0 0=n)=0:=by unfold on qf;rw [if_neg];simp;omega
  have e2:sl (fun i=>sm (fun y=>on (qf a b c ((i:Nat):Int) y=n)) (-((7:Nat):Int)) (2*7+1)) sevN=sl (fun x=>on (qf a b c ((x:Nat):Int) 0=n)) sevN+sl (fun x=>sl (fun y=>on (qf a b c ((x:Nat):Int) ((y:Nat):Int)=n)+on (qf a b c ((x:Nat):Int) (-((y:Nat):Int))=n)) sevN) sevN:=by
    rw [← sl_add];exact sl_congr _ fun x _=>hG _
  have e3:sl (fun y=>on (qf a b c 0 ((y:Nat):Int)=n)+on (qf a b c 0 (-((y:Nat):Int))=n)) sevN=2*sl (fun y=>on (qf a b c 0 ((y:Nat):Int)=n)) sevN:=by
    have:sl (fun y=>on (qf a b c 0 ((y:Nat):Int)=n)+on (qf a b c 0 (-((y:Nat):Int))=n)) sevN=sl (fun y=>on (qf a b c 0 ((y:Nat):Int)=n)+on (qf a b c 0 ((y:Nat):Int)=n)) sevN:=sl_congr _ fun y _=>by
      have:=qf_neg a b c 0 (y:Int);rw [show (-0:Int)=0 from rfl] at this;rw [this]
    rw [this,sl_add];omega
  rw [e2,e00,e3];omega
theorem valF_cN {a b c:Int} {n:Nat} (hr:RedF a b c) (hn:1≤n) (h40:n≤40) (t:List Nat):repS a b c n+2*cN n t=2*cN n (valF a.toNat b.natAbs c.toNat t):=by
  rw [repS_box hr hn h40,repB_signs hn];obtain ⟨A,rfl⟩:∃ A:Nat,a=A:=⟨a.toNat,by have:=hr.1;omega⟩;obtain ⟨C,rfl⟩:∃ C:Nat,c=C:=⟨c.toNat,by have:=hr.1;have:=hr.2.2.2;omega⟩;obtain ⟨B,hB⟩:∃ B:Nat,b.natAbs=B:=⟨_,rfl⟩;have hBB:b*b=((B*B:Nat):Int):=by rw [← hB,Int.natCast_mul,Int.natAbs_mul_self']
  have hD:((4*A*C-B*B:Nat):Int)=4*(A:Int)*(C:Int)-b*b:=by
    have h1:=hr.2.1;have h2:=hr.2.2.1;have h3:=hr.2.2.2;have h4:=Nat.mul_le_mul (show B≤A by omega) (show B≤C by omega)
    rw [Int.ofNat_sub (by have : 4 * A * C = 4 * (A * C) := by grind
                          omega),hBB];grind
  have hX:∀ x∈sevN,(Nat.ble ((4*A*C-B*B)*x*x) (160*C))=false→ ∀ y:Int,¬ qf (A:Int) b (C:Int) (x:Int) y=n:=fun x _ hp y he=>by
    have h1:=(qf_le he).1;have h2:¬ (4*A*C-B*B)*x*x≤160*C:=fun h=>by rw [Nat.ble_eq_true_of_le h] at hp;cases hp
    have h3:(((4*A*C-B*B)*x*x:Nat):Int)=(4*(A:Int)*(C:Int)-b*b)*(x:Int)*(x:Int):=by rw [Int.natCast_mul,Int.natCast_mul,hD]
    have h4:4*(C:Int)*(n:Int)≤160*(C:Int):=by
      have:=Int.mul_le_mul_of_nonneg_left (show (n:Int)≤40 by omega) (show 0≤4*(C:Int) by omega);omega
    omega
  have hY:∀ y∈sevN,(Nat.ble ((4*A*C-B*B)*y*y) (160*A))=false→ ∀ x s:Int,(s=y∨s= -(y:Int))→ ¬ qf (A:Int) b (C:Int) x s=n:=fun y _ hp x s hs he=>by
    have h1:=(qf_le he).2;have h2:¬ (4*A*C-B*B)*y*y≤160*A:=fun h=>by rw [Nat.ble_eq_true_of_le h] at hp;cases hp
    have h3:(((4*A*C-B*B)*y*y:Nat):Int)=(4*(A:Int)*(C:Int)-b*b)*s*s:=by
      rw [Int.natCast_mul,Int.natCast_mul,hD];rcases hs with rfl | rfl
      · rfl
      · grind
    have h4:4*(A:Int)*(n:Int)≤160*(A:Int):=by
      have:=Int.mul_le_mul_of_nonneg_left (show (n:Int)≤40 by omega) (show 0≤4*(A:Int) by omega);omega
    omega
  have hvx:∀ x:Nat,on (qf (A:Int) b (C:Int) x 0=n)=on (A*x*x=n):=fun x=>by
    unfold on;have e:qf (A:Int) b (C:Int) x 0=((A*x*x:Nat):Int):=by unfold qf;rw [Int.natCast_mul,Int.natCast_mul];grind
    rw [e];congr 1;exact propext ⟨fun h=>by omega,fun h=>by omega⟩
  have hvy:∀ y:Nat,on (qf (A:Int) b (C:Int) 0 y=n)=on (C*y*y=n):=fun y=>by
    unfold on;have e:qf (A:Int) b (C:Int) 0 y=((C*y*y:Nat):Int):=by unfold qf;rw [Int.natCast_mul,Int.natCast_mul];grind
    rw [e];congr 1;exact propext ⟨fun h=>by omega,fun h=>by omega⟩
  have hvp:∀ x y:Nat,on (qf (A:Int) b (C:Int) x y=n)+on (qf (A:Int) b (C:Int) x (-(y:Int))=n)=on (A*x*x+C*y*y+B*x*y=n)+on (A*x*x+C*y*y-B*x*y=n):=fun x y=>by
    have e1:qf (A:Int) b (C:Int) x y=((A*x*x+C*y*y:Nat):Int)+b*x*y:=by unfold qf;rw [Int.natCast_add,Int.natCast_mul,Int.natCast_mul,Int.natCast_mul,Int.natCast_mul];grind
    have e2:qf (A:Int) b (C:Int) x (-(y:Int))=((A*x*x+C*y*y:Nat):Int)-b*x*y:=by unfold qf;rw [Int.natCast_add,Int.natCast_mul,Int.natCast_mul,Int.natCast_mul,Int.natCast_mul];grind
    have e3:((B*x*y:Nat):Int)=(B:Int)*x*y:=by rw [Int.natCast_mul,Int.natCast_mul]
    rw [e1,e2];rcases Int.le_total 0 b with h | h
    · obtain rfl:b=(B:Int):=by omega
      rw [← e3];unfold on
      congr 1
      · congr 1;exact propext ⟨fun h=>by omega,fun h=>by omega⟩
      · congr 1;exact propext ⟨fun h=>by omega,fun h=>by omega⟩
    · obtain rfl:b= -(B:Int):=by omega
      rw [Int.neg_mul,Int.neg_mul,← e3,Nat.add_comm (on _) (on _)];unfold on
      congr 1
      · congr 1;exact propext ⟨fun h=>by omega,fun h=>by omega⟩
      · congr 1;exact propext ⟨fun h=>by omega,fun h=>by omega⟩
  unfold valF;simp only [Int.toNat_natCast];rw [hB]
  rw [cN_fold (h:=fun x=>on (A*x*x=n)) (fun x t=>cN_lt hn h40),cN_fold (h:=fun y=>on (C*y*y=n)) (fun x t=>cN_lt hn h40),
    cN_fold (h:=fun x=>sl (fun y=>on (A*x*x+C*y*y+B*x*y=n)+on (A*x*x+C*y*y-B*x*y=n)) (sevN.filter fun y=>Nat.ble ((4*A*C-B*B)*y*y) (160*A))) (fun x t=>cN_fold (fun y t=>by rw [cN_lt hn h40,cN_lt hn h40];omega) _ _)]
  have s1:sl (fun x=>on (A*x*x=n)) (sevN.filter fun x=>Nat.ble ((4*A*C-B*B)*x*x) (160*C))=sl (fun x=>on (qf (A:Int) b (C:Int) x 0=n)) sevN:=by
    rw [sl_filter _ fun x hx hp=>by rw [← hvx];unfold on;rw [if_neg (hX x hx hp 0)]];exact sl_congr _ fun x _=>(hvx x).symm
  have s2:sl (fun y=>on (C*y*y=n)) (sevN.filter fun y=>Nat.ble ((4*A*C-B*B)*y*y) (160*A))=sl (fun y=>on (qf (A:Int) b (C:Int) 0 y=n)) sevN:=by
    rw [sl_filter _ fun y hy hp=>by rw [← hvy];unfold on;rw [if_neg (hY y hy hp 0 y (Or.inl rfl))]];exact sl_congr _ fun x _=>(hvy x).symm
  have s3:∀ x:Nat,sl (fun y=>on (A*x*x+C*y*y+B*x*y=n)+on (A*x*x+C*y*y-B*x*y=n)) (sevN.filter fun y=>Nat.ble ((4*A*C-B*B)*y*y) (160*A))=sl (fun y=>on (qf (A:Int) b (C:Int) x y=n)+on (qf (A:Int) b (C:Int) x (-((y:Nat):Int))=n)) sevN:=fun x=>by
    rw [sl_filter _ fun y hy hp=>by rw [← hvp];unfold on;rw [if_neg (hY y hy hp x y (Or.inl rfl)),if_neg (hY y hy hp x _ (Or.inr rfl))]];exact sl_congr _ fun y _=>(hvp x y).symm
  have s4:sl (fun x=>sl (fun y=>on (A*x*x+C*y*y+B*x*y=n)+on (A*x*x+C*y*y-B*x*y=n)) (sevN.filter fun y=>Nat.ble ((4*A*C-B*B)*y*y) (160*A))) (sevN.filter fun x=>Nat.ble ((4*A*C-B*B)*x*x) (160*C))=sl (fun x=>sl (fun y=>on (qf (A:Int) b (C:Int) x y=n)+on (qf (A:Int) b (C:Int) x (-((y:Nat):Int))=n)) sevN) sevN:=by
    rw [sl_filter _ fun x hx hp=>by rw [s3];exact sl_zero _ fun y _=>by unfold on;rw [if_neg (hX x hx hp _),if_neg (hX x hx hp _)]];exact sl_congr _ fun x _=>s3 x
  rw [s1,s2,s4];omega
theorem sm_succ {g:Int→Nat} (lo:Int) (k:Nat):sm g lo (k+1)=sm g lo k+g (lo+k):=by
  rw [sm_add];simp [sm]
theorem sm_le {g:Int→Nat} {M:Nat} (h:∀ i,g i≤M):∀ (k:Nat) (lo:Int),sm g lo k≤k*M
  | 0,_=>by simp [sm]
  | k+1,lo=>by
    have h1:=sm_le h k (lo+1);have h2:=h lo;have e:sm g lo (k+1)=g lo+sm g (lo+1) k:=rfl;rw [e,Nat.add_mul];omega
theorem on_le (p:Prop) [Decidable p]:on p≤1:=by unfold on;split <;> omega
theorem wrS {v:Int} (h1: -1000000000000≤v) (h2:v≤1000000000000):IntKind.i64.wrap v=v:=by simp only [IntKind.wrap_i64];omega
theorem mulB {x y:Int} (X Y:Nat) (h1: -(X:Int)≤x∧x≤X) (h2: -(Y:Int)≤y∧y≤Y): -((X*Y:Nat):Int)≤x*y∧x*y≤((X*Y:Nat):Int):=by
  have h:=Nat.mul_le_mul (show x.natAbs≤X by omega) (show y.natAbs≤Y by omega);rw [← Int.natAbs_mul] at h;omega
theorem represents_c {a b c N:Int} {n:Nat} {x:Value} {w:World} (hx:IsF (IsI 2 a) (IsI 2 b) (IsI 2 c) x w) (hN:N=n) (hn:1≤n∧n≤40) (ha: -100≤a∧a≤100) (hb: -100≤b∧b≤100) (hc: -10000≤c∧c≤10000):
    Calls Tryz.prog 28 #[x,.int .i64 N] w (Ret w (iV ((repS a b c n:Nat):Int))):=by
  have HLA:=hid (show -4294967296<a∧a<4294967296 by omega);have HLB:=hid (show -4294967296<b∧b<4294967296 by omega);have HLC:=hid (show -4294967296<c∧c<4294967296 by omega);have HB:=hid (And.intro ha (And.intro hb (And.intro hc hn)));obtain ⟨A4,hA4⟩:∃ t,4*a=t:=⟨_,rfl⟩;obtain ⟨AC,hAC⟩:∃ t,A4*c=t:=⟨_,rfl⟩;obtain ⟨BB,hBB⟩:∃ t,b*b=t:=⟨_,rfl⟩;obtain ⟨D,hD⟩:∃ t,AC-BB=t:=⟨_,rfl⟩;obtain ⟨C4,hC4⟩:∃ t,4*c=t:=⟨_,rfl⟩;obtain ⟨CN,hCN⟩:∃ t,C4*N=t:=⟨_,rfl⟩;obtain ⟨N2,hN2⟩:∃ t,2*N=t:=⟨_,rfl⟩;obtain ⟨M2,hM2⟩:∃ t,(-2)*N=t:=⟨_,rfl⟩;have bAC:=mulB 400 10000 (show -((400:Nat):Int)≤A4∧A4≤(400:Nat) by omega) (show -((10000:Nat):Int)≤c∧c≤(10000:Nat) by omega);have bBB:=mulB 100 100 (show -((100:Nat):Int)≤b∧b≤(100:Nat) by omega) (show -((100:Nat):Int)≤b∧b≤(100:Nat) by omega);have bCN:=mulB 40000 40 (show -((40000:Nat):Int)≤C4∧C4≤(40000:Nat) by omega) (show -((40:Nat):Int)≤N∧N≤(40:Nat) by omega);rw [hAC] at bAC;rw [hBB] at bBB;rw [hCN] at bCN;have HDB:=hid (show -(4010000:Int)≤D∧D≤4010000 by omega);have HW1:=hid (show IntKind.i64.wrap (4*a)=A4 by rw [hA4];exact wrS (by omega) (by omega));have HW2:=hid (show IntKind.i64.wrap (A4*c)=AC by rw [hAC];exact wrS (by omega) (by omega));have HW3:=hid (show IntKind.i64.wrap (b*b)=BB by rw [hBB];exact wrS (by omega) (by omega));have HW4:=hid (show IntKind.i64.wrap (AC-BB)=D by rw [hD];exact wrS (by omega) (by omega));have HW5:=hid (show IntKind.i64.wrap (4*c)=C4 by rw [hC4];exact wrS (by omega) (by omega));have HW6:=hid (show IntKind.i64.wrap (C4*N)=CN by rw [hCN];exact wrS (by omega) (by omega));have HW7:=hid (show IntKind.i64.wrap (2*N)=N2 by rw [hN2];exact wrS (by omega) (by omega));have HW8:=hid (show IntKind.i64.wrap (-2*N)=M2 by rw [hM2];exact wrS (by omega) (by omega));have HM:=hid (show M2= -((2*n:Nat):Int)∧N2=((2*n:Nat):Int)∧N=n by omega);obtain ⟨G,hG⟩:∃ G:Int→Int→Nat,(fun x y=>on (qf a b c x y=n))=G:=⟨_,rfl⟩;obtain ⟨H,hH⟩:∃ H:Int→Nat,(fun x=>if CN<D*x*x then 0 else sm (G x) M2 (4*n+1))=H:=⟨_,rfl⟩
  have hrep:repS a b c n=sm H M2 (4*n+1):=by
    unfold repS;rw [← hH,← hG];have e1:2*(2*n)+1=4*n+1:=by omega
    have e2: -((2*n:Nat):Int)=M2:=HM.out.1.symm;rw [e1,e2];refine sm_congr _ _ fun x _ _=> ?_
    have e3:4*c*(n:Int)=CN:=by rw [← hCN,← hC4,HM.out.2.2]
    have e4:(4*a*c-b*b)=D:=by rw [← hD,← hAC,← hA4,← hBB]
    rw [e3,e4]
  have hGle:∀ x y,G x y≤1:=fun x y=>by rw [← hG];exact on_le _
  have hHle:∀ x,H x≤161:=fun x=>by
    rw [← hH];show (if CN<D*x*x then 0 else sm (G x) M2 (4*n+1))≤161
    split
    · omega
    · have:=sm_le (hGle x) (4*n+1) M2;omega
  have HG:=hid hG;have HH:=hid hH;have HREP:=hid hrep;have HGL:=hid hGle;have HHL:=hid hHle;clear hA4 hAC hBB hD hC4 hCN hN2 hM2 bAC bBB bCN hG hH hrep hGle hHle ha hb hc hn hN;obtain ⟨s1x,a1x,n1x,c1x,s1y,a1y,n1y,c1y,s1z,a1z,n1z,c1z,rfl,h1x,h1y,h1z⟩:=hx;obtain ⟨W,hW,S⟩:∃ W,W=w.alloc (.cells #[.bool s1x,.slice a1x n1x c1x,.bool s1y,.slice a1y n1y c1y,.bool s1z,.slice a1z n1z c1z] 62)∧Sto w W [((w.heap.size,2),IsI 2 c),((w.heap.size,1),IsI 2 b),((w.heap.size,0),IsI 2 a)]:=⟨_,rfl,((Sto.start w).new3 (w.heap.size) (by simp) s1x s1y s1z a1x a1y a1z n1x c1x n1y c1y n1z c1z 62 (IsI 2 a) (IsI 2 b) (IsI 2 c) (IsI.gstb _ _) (h1x) (IsI.gstb _ _) (h1y) (IsI.gstb _ _) (h1z))⟩;clear h1x h1y h1z;go_enter Tryz.func28,Tryz.ntmps28;go_upto_region 1 with (fail);rw [← hW];clear hW;refine rgs 8 [some 15,some 16,some 17,some 14,some 18,some 19,some 5,some 6] [IsV (.pointer (some ⟨w.heap.size,0,none⟩)),IsI 2 a,IsT2 (iV a) (IsV (.bool true)),IsT2 (iV a) (IsV (.bool true)),iV a,IsV (.bool true),iV a,IsV (.bool true)] [] ?_ ?_
  · refine Rc (fa (fa_Frm0 (w.heap.size) 0) (Od.lit 2)) ?_
    refine Rc (ldI S 2 (w.heap.size) 0 (Od.lc 0 15) ld_Int) ?_;refine Rc (cl1 (en Tryz.func47) (Od.lc (Φ:=IsI 2 a) 1 16) (fun x0 w' hE d0=>RLow_i d0 HLA.out.1 HLA.out.2)) ?_;refine Rc (mv (Od.lc 2 17)) ?_;refine Rc (ex (Od.loc 3 14) t20) ?_;refine Rc (ex (Od.loc 3 14) t21) ?_;refine Rc (mv (Od.lc 4 18)) ?_;refine Rc (mv (Od.lc 5 19)) ?_;exact rn0
  intro v W1 e1 hΦ _;replace S:=S.mono e1;have v6:v 6= .int .i64 a:=hΦ 6 dcx;simp only [lxE,Nat.reduceAdd];rw [v6];clear v6 hΦ e1;refine wpList_nil ?_;go_upto_region 2 with (fail);refine rgs 8 [some 21,some 22,some 23,some 20,some 24,some 25,some 7,some 8] [IsV (.pointer (some ⟨w.heap.size,2,none⟩)),IsI 2 b,IsT2 (iV b) (IsV (.bool true)),IsT2 (iV b) (IsV (.bool true)),iV b,IsV (.bool true),iV b,IsV (.bool true)] [] ?_ ?_
  · refine Rc (fa (fa_Frm1 (w.heap.size) 0) (Od.lit 2)) ?_
    refine Rc (ldI S 1 (w.heap.size) 1 (Od.lc 0 21) ld_Int) ?_;refine Rc (cl1 (en Tryz.func47) (Od.lc (Φ:=IsI 2 b) 1 22) (fun x0 w' hE d0=>RLow_i d0 HLB.out.1 HLB.out.2)) ?_;refine Rc (mv (Od.lc 2 23)) ?_;refine Rc (ex (Od.loc 3 20) t20) ?_;refine Rc (ex (Od.loc 3 20) t21) ?_;refine Rc (mv (Od.lc 4 24)) ?_;refine Rc (mv (Od.lc 5 25)) ?_;exact rn0
  intro v W2 e1 hΦ _;replace S:=S.mono e1;have v6:v 6= .int .i64 b:=hΦ 6 dcx;simp only [lxE,Nat.reduceAdd];rw [v6];clear v6 hΦ e1;refine wpList_nil ?_;go_upto_region 3 with (fail);refine rgs 8 [some 27,some 28,some 29,some 26,some 30,some 31,some 9,some 10] [IsV (.pointer (some ⟨w.heap.size,4,none⟩)),IsI 2 c,IsT2 (iV c) (IsV (.bool true)),IsT2 (iV c) (IsV (.bool true)),iV c,IsV (.bool true),iV c,IsV (.bool true)] [] ?_ ?_
  · refine Rc (fa (fa_Frm2 (w.heap.size) 0) (Od.lit 2)) ?_
    refine Rc (ldI S 0 (w.heap.size) 2 (Od.lc 0 27) ld_Int) ?_;refine Rc (cl1 (en Tryz.func47) (Od.lc (Φ:=IsI 2 c) 1 28) (fun x0 w' hE d0=>RLow_i d0 HLC.out.1 HLC.out.2)) ?_;refine Rc (mv (Od.lc 2 29)) ?_;refine Rc (ex (Od.loc 3 26) t20) ?_;refine Rc (ex (Od.loc 3 26) t21) ?_;refine Rc (mv (Od.lc 4 30)) ?_;refine Rc (mv (Od.lc 5 31)) ?_;exact rn0
  intro v W3 e1 hΦ _;replace S:=S.mono e1;have v6:v 6= .int .i64 c:=hΦ 6 dcx;simp only [lxE,Nat.reduceAdd];rw [v6];clear v6 hΦ e1;refine wpList_nil ?_;have HE:=hid S.ext;clear S;have hx1:=HW8.out;go_wp2_with fail;clear hx1
  go_loopg [11,12] (4*n+2) (fun gk v11 v12 wr=> ∃ (k:Nat) (X o:Int),v12= .int .i64 X∧v11= .int .i64 o∧X=M2+k∧o=((sm H M2 k:Nat):Int)∧k+gk=4*n+2∧k≤4*n+1∧Hid (Ext w wr))
  case atStart=>exact ⟨0,M2,0,rfl,rfl,by omega,rfl,by omega,by omega,HE⟩
  case round=>
    obtain ⟨k,X,o,rfl,rfl,hX,ho,hg,hk,E⟩:=hrel
    have hob:0≤o∧o≤161*161:=by
      have h1:=sm_le HHL.out k M2;have h2:=Nat.mul_le_mul (show k≤161 by have:=HB.out.2.2.2;omega) (Nat.le_refl 161);omega
    have hXb: -80≤X∧X≤81:=by have:=HM.out;have:=HB.out.2.2.2;omega
    have HK:=hid (And.intro hX (And.intro ho (And.intro hg hk)));have HO:=hid (And.intro hob hXb);by_cases hle:X≤N2
    · obtain ⟨DX,hDX⟩:∃ t,D*X=t:=⟨_,rfl⟩
      obtain ⟨DXX,hDXX⟩:∃ t,DX*X=t:=⟨_,rfl⟩;have b1:=mulB 4010000 81 (show -((4010000:Nat):Int)≤D∧D≤(4010000:Nat) by have:=HDB.out;omega) (show -((81:Nat):Int)≤X∧X≤(81:Nat) by omega);rw [hDX] at b1;have b2:=mulB 324810000 81 (show -((324810000:Nat):Int)≤DX∧DX≤(324810000:Nat) by omega) (show -((81:Nat):Int)≤X∧X≤(81:Nat) by omega);rw [hDXX] at b2;have hx9:IntKind.i64.wrap (D*X)=DX:=by rw [hDX];exact wrS (by omega) (by omega)
      have hx8:IntKind.i64.wrap (DX*X)=DXX:=by rw [hDXX];exact wrS (by omega) (by omega)
      have hx10:IntKind.i64.wrap (X+1)=X+1:=wrS (by omega) (by omega);have hHX:H X=if CN<DXX then 0 else sm (G X) M2 (4*n+1):=by rw [← HH.out,← hDXX,← hDX]
      have HHX:=hid hHX;have HKX:=hid (show k≤4*n by have:=HM.out;omega);have HX8:=hid hx8;have HX9:=hid hx9;have HX10:=hid hx10;have HLE:=hid hle;have hx1:=HW1.out;have hx2:=HW2.out;have hx3:=HW3.out;have hx4:=HW4.out;have hx5:=HW5.out;have hx6:=HW6.out;have hx7:=HW7.out;clear b1 b2 hDX hDXX hHX hob hXb hX ho hg hk;by_cases hlt:CN<DXX
      · have HLT:=hid hlt
        go_wp2_with fail
        go_roundg (gk-1)
        case measure=>have:=HK.out;omega
        case rel=>
          refine ⟨k+1,X+1,o,rfl,rfl,by have:=HK.out;omega,?_,by have:=HK.out;have:=HKX.out;omega,by have:=HKX.out;omega,E⟩;rw [sm_succ,← HK.out.1,HHX.out,if_pos HLT.out];exact HK.out.2.1
      · have HLT:=hid hlt
        have hlt':DXX≤CN:=by omega
        have hx11:=HW8.out;have HE2:=hid E;go_wp2_with fail;obtain ⟨gq,hgq⟩:∃ x,x=gk:=⟨_,rfl⟩;have HGQ:=hid hgq;clear hgq hlt hlt' hx1 hx2 hx3 hx4 hx5 hx6 hx8 hx9 hx10 hx11 E
        go_loopg [11,13] (4*n+2) (fun gk v11 v13 wr=> ∃ (j:Nat) (Y p:Int),v13= .int .i64 Y∧v11= .int .i64 p∧Y=M2+j∧p=o+((sm (G X) M2 j:Nat):Int)∧j+gk=4*n+2∧j≤4*n+1∧Hid (Ext w wr))
        case atStart=>exact ⟨0,M2,o,rfl,rfl,by omega,by simp [sm],by omega,by omega,HE2⟩
        case round=>
          clear HE2;obtain ⟨j,Y,p,rfl,rfl,hY,hp,hg,hj,E⟩:=hrel
          have hpb:0≤p∧p≤30000:=by
            have h1:=sm_le (HGL.out X) j M2;have:=HO.out;have:=HB.out.2.2.2;omega
          have hYb: -80≤Y∧Y≤81:=by have:=HM.out;have:=HB.out.2.2.2;omega
          have HJ:=hid (And.intro hY (And.intro hp (And.intro hg hj)));by_cases hle2:Y≤N2
          · obtain ⟨q1,h1⟩:∃ t,a*X=t:=⟨_,rfl⟩
            obtain ⟨q2,h2⟩:∃ t,q1*X=t:=⟨_,rfl⟩;obtain ⟨q3,h3⟩:∃ t,b*X=t:=⟨_,rfl⟩;obtain ⟨q4,h4⟩:∃ t,q3*Y=t:=⟨_,rfl⟩;obtain ⟨q5,h5⟩:∃ t,q2+q4=t:=⟨_,rfl⟩;obtain ⟨q6,h6⟩:∃ t,c*Y=t:=⟨_,rfl⟩;obtain ⟨q7,h7⟩:∃ t,q6*Y=t:=⟨_,rfl⟩;obtain ⟨q8,h8⟩:∃ t,q5+q7=t:=⟨_,rfl⟩;obtain ⟨hba,hbb,hbc,hbn⟩:=HB.out;have hXb:=HO.out.2;have b1:=mulB 100 81 (show -((100:Nat):Int)≤a∧a≤(100:Nat) by omega) (show -((81:Nat):Int)≤X∧X≤(81:Nat) by omega);rw [h1] at b1;have b2:=mulB 8100 81 (show -((8100:Nat):Int)≤q1∧q1≤(8100:Nat) by omega) (show -((81:Nat):Int)≤X∧X≤(81:Nat) by omega);rw [h2] at b2;have b3:=mulB 100 81 (show -((100:Nat):Int)≤b∧b≤(100:Nat) by omega) (show -((81:Nat):Int)≤X∧X≤(81:Nat) by omega);rw [h3] at b3;have b4:=mulB 8100 81 (show -((8100:Nat):Int)≤q3∧q3≤(8100:Nat) by omega) (show -((81:Nat):Int)≤Y∧Y≤(81:Nat) by omega);rw [h4] at b4;have b6:=mulB 10000 81 (show -((10000:Nat):Int)≤c∧c≤(10000:Nat) by omega) (show -((81:Nat):Int)≤Y∧Y≤(81:Nat) by omega);rw [h6] at b6;have b7:=mulB 810000 81 (show -((810000:Nat):Int)≤q6∧q6≤(810000:Nat) by omega) (show -((81:Nat):Int)≤Y∧Y≤(81:Nat) by omega);rw [h7] at b7
            have hG:G X Y=on (q8=N):=by
              rw [← HG.out,← h8,← h7,← h6,← h5,← h4,← h3,← h2,← h1,HM.out.2.2];rfl
            have hx12:IntKind.i64.wrap (a*X)=q1:=by rw [h1];exact wrS (by omega) (by omega)
            have hx13:IntKind.i64.wrap (q1*X)=q2:=by rw [h2];exact wrS (by omega) (by omega)
            have hx14:IntKind.i64.wrap (b*X)=q3:=by rw [h3];exact wrS (by omega) (by omega)
            have hx15:IntKind.i64.wrap (q3*Y)=q4:=by rw [h4];exact wrS (by omega) (by omega)
            have hx16:IntKind.i64.wrap (q2+q4)=q5:=by rw [h5];exact wrS (by omega) (by omega)
            have hx17:IntKind.i64.wrap (c*Y)=q6:=by rw [h6];exact wrS (by omega) (by omega)
            have hx18:IntKind.i64.wrap (q6*Y)=q7:=by rw [h7];exact wrS (by omega) (by omega)
            have hx19:IntKind.i64.wrap (q5+q7)=q8:=by rw [h8];exact wrS (by omega) (by omega)
            have hx20:IntKind.i64.wrap (p+1)=p+1:=wrS (by omega) (by omega);have hx21:IntKind.i64.wrap (Y+1)=Y+1:=wrS (by omega) (by omega);have HGX:=hid hG;have HJL:=hid (show j≤4*n by have:=HM.out;omega);clear h1 h2 h3 h4 h5 h6 h7 h8 b1 b2 b3 b4 b6 b7 hba hbb hbc hbn hXb hpb hYb hY hp hg hj hG;by_cases hq:q8=N
            · have hq2:(q8==N)=true:=by rw [beq_iff_eq];exact hq
              have HQ:=hid hq;clear hq;go_wp2_with fail
              go_roundg (gk-1)
              case measure=>have:=HJ.out;omega
              case rel=>
                refine ⟨j+1,Y+1,p+1,rfl,rfl,by have:=HJ.out;omega,?_,by have:=HJ.out;have:=HJL.out;omega,by have:=HJL.out;omega,E⟩;have h9:G X Y=1:=by rw [HGX.out];unfold on;rw [if_pos HQ.out]
                rw [sm_succ,← HJ.out.1,h9,HJ.out.2.1];omega
            · have hq2:(q8==N)=false:=by rw [beq_eq_false_iff_ne];exact hq
              have HQ:=hid hq;clear hq;go_wp2_with fail
              go_roundg (gk-1)
              case measure=>have:=HJ.out;omega
              case rel=>
                refine ⟨j+1,Y+1,p,rfl,rfl,by have:=HJ.out;omega,?_,by have:=HJ.out;have:=HJL.out;omega,by have:=HJL.out;omega,E⟩;have h9:G X Y=0:=by rw [HGX.out];unfold on;rw [if_neg HQ.out]
                rw [sm_succ,← HJ.out.1,h9,HJ.out.2.1];omega
          · have hgt:N2<Y:=by omega
            have hj1:j=4*n+1:=by have:=HM.out;omega
            subst hj1;have hx10:=HX10.out;clear hpb hYb hY hp hg hj;go_wp2_with fail
            go_roundg (gq-1)
            case measure=>have:=HK.out;have:=HGQ.out;omega
            case rel=>
              refine ⟨k+1,X+1,p,rfl,rfl,by have:=HK.out;omega,?_,by have:=HK.out;have:=HKX.out;have:=HGQ.out;omega,by have:=HKX.out;omega,E⟩;rw [sm_succ,← HK.out.1,HHX.out,if_neg (show ¬ CN<DXX by have:=HLT.out;omega),HJ.out.2.1,HK.out.2.1];omega
    · have hgt:N2<X:=by omega
      have hk1:k=4*n+1:=by have:=HM.out;omega
      subst hk1;have hx7:=HW7.out;clear hob hXb hX ho hg hk;go_wp2_with fail;exact bodyPost_ret (v:= .int .i64 o) (by simp [results,Tryz.results28,go_sem]) rfl ⟨_,rfl,E.out,by rw [HREP.out,HK.out.2.1];rfl⟩
end Go.Proofs.YtknffgdbdadpcaaGreatDoor
