/-
 The values of a form and what it represents, for the kernel.
 The values and the numbers, reckoned by the kernel, part 1.
 The values and the numbers, reckoned by the kernel, part 2.
 The law DensityClass at every argument, where the class numbers are reckoned ('hnum').
 The law DensityGenera at every argument.
-/
import Derived.Test.YtknffgdbdadpcaaGreatDoorGena
import Derived.Test.YtknffgdbdadpcaaGreatDoorRfd
import Derived.Test.YtknffgdbdadpcaaGreatDoorDen17
import Derived.Test.YtknffgdbdadpcaaGreatDoorDen23
import Derived.Test.YtknffgdbdadpcaaGreatDoorRWord
import Derived.Test.YtknffgdbdadpcaaGreatDoorRgm
namespace Go.Proofs.YtknffgdbdadpcaaGreatDoor
open Go Go.RowKit
set_option maxRecDepth 100000
def gnV (d2:Nat) (names:List Int) (N:Nat) (vals:List Nat):Bool:=vals.all fun v=>Nat.rec false (fun k _=>cond (Nat.beq (Nat.gcd (Nat.succ k) d2) 1) (names.all fun c=>chV c (Nat.succ k)==cvV c (N:Int)) true) v
def gnF (d2:Nat) (names:List Int) (f:Int×Int×Int):Bool:=
 Nat.rec false (fun k _=>cond (Nat.beq (Nat.gcd (Nat.succ k) d2) 1) (cond (Nat.ble k 999999999) (gnV d2 names (Nat.succ k) (valF f.1.toNat f.2.1.natAbs f.2.2.toNat [])) false) false) (vnO f.1 f.2.1 f.2.2 (-(d2:Int)) 10 f.1 1).toNat
def gnT (n:Nat):Bool:=cond (isD n) (((fmA (n:Int) (n+1) 1).filter fmPrim).all (gnF (2*n) (chN n))) true
def gnR (lo:Nat) (len:Nat):Bool:=Nat.rec true (fun k ih=>cond (gnT (Nat.add lo k)) ih false) len
theorem gnR_spec {lo:Nat} :∀ len,gnR lo len=true→ ∀ n,lo≤n→n<lo+len→gnT n=true
 | 0,_,n,h1,h2=>by omega
 | len+1,h,n,h1,h2=>by
  have e:gnR lo (len+1)=cond (gnT (lo+len)) (gnR lo len) false:=rfl;rw [e] at h;cases hg:gnT (lo+len) with
  | false=>rw [hg] at h;cases h
  | true=>
   rw [hg] at h;by_cases hn:n=lo+len
   ·rw [hn];exact hg
   ·exact gnR_spec len h n h1 (by omega)
theorem cond_t {a b:Bool} (h:cond a b false=true):a=true∧b=true:=by cases a <;> simp_all
theorem cN_mem {n:Nat} :∀ l:List Nat,cN n l≠0→n∈l
 | [],h=>absurd rfl h
 | v ::t,h=>by
  by_cases e:v=n
  ·subst e;exact List.mem_cons_self
  ·refine List.mem_cons_of_mem _ (cN_mem t fun h0=>h ?_);show Nat.add (cond (Nat.beq v n) 1 0) (cN n t)=0;cases hb:Nat.beq v n with
  | false=>rw [h0];rfl
  | true=>exact absurd (Nat.eq_of_beq_eq_true hb) e
theorem gnF_spec {T nn:Nat} {f:Int×Int×Int} (h:gnF (2*T) (chN T) f=true) (hr:RedF f.1 f.2.1 f.2.2) (h1:1≤nn) (h40:nn≤40) (hc:Nat.gcd nn (2*T)=1):
  GnF T nn (2* -(T:Int)) (chN T) ((chN T).map fun c=>chV c nn) f:=by
 have e2: -(((2*T:Nat):Nat):Int)=2* -(T:Int):=by omega
 unfold gnF at h;rw [e2] at h;obtain ⟨N,hN⟩:∃ N,vnO f.1 f.2.1 f.2.2 (2* -(T:Int)) 10 f.1 1=N:=⟨_,rfl⟩;refine ⟨N,hN,?_⟩;rw [hN] at h;obtain ⟨k,hk⟩:∃ k,N.toNat=k:=⟨_,rfl⟩;rw [hk] at h;rcases k with _ | k
 ·cases h
 have hNk:N=((k+1:Nat):Int):=by omega
 obtain ⟨g1,g2⟩:=cond_t h;obtain ⟨g3,g4⟩:=cond_t g2;refine ⟨?_,?_,fun hne=> ?_⟩
 ·have:=Nat.eq_of_beq_eq_true g1;unfold Int.gcd;rw [hNk,show (2* -(T:Int)).natAbs=2*T by omega];exact this
 ·have:=Nat.le_of_ble_eq_true g3;omega
 ·have hv:=valF_cN hr h1 h40 [];by_cases h0:cN nn (valF f.1.toNat f.2.1.natAbs f.2.2.toNat [])=0
  ·rw [h0] at hv;omega
  ·exfalso;apply hne;have hm:=cN_mem _ h0;have g5:=List.all_eq_true.1 g4 nn hm;obtain ⟨j,rfl⟩:∃ j,nn=j+1:=⟨nn-1,by omega⟩;have g6:cond (Nat.beq (Nat.gcd (j+1) (2*T)) 1) ((chN T).all fun c=>chV c (j+1)==cvV c ((k+1:Nat):Int)) true=true:=g5;rw [hc] at g6;have g7:=List.all_eq_true.1 (show ((chN T).all fun c=>chV c (j+1)==cvV c ((k+1:Nat):Int))=true from g6);refine List.map_congr_left fun c hcm=> ?_
   have:=g7 c hcm;rw [beq_iff_eq] at this;rw [hNk];exact this
theorem fm_c {T:Nat} {f:Int×Int×Int} (h:FmOk (T:Int) f) (h2:T≤2003): -2000≤f.2.2∧f.2.2≤2000:=by
 have ha:=h.a1;have hb1:=h.b1;have hb2:=h.b2;have hac:=h.ac;have hd:=h.disc;have h1:=Int.mul_nonneg (show 0≤f.1-f.2.1 by omega) (show 0≤f.1+f.2.1 by omega);have e1:(f.1-f.2.1)*(f.1+f.2.1)=f.1*f.1-f.2.1*f.2.1:=by grind
 have h3:f.1*f.1≤f.1*f.2.2:=Int.mul_le_mul_of_nonneg_left hac (by omega);have h4:=Int.mul_nonneg (show 0≤f.1-1 by omega) (show 0≤f.2.2 by omega);have e2:(f.1-1)*f.2.2=f.1*f.2.2-f.2.2:=by grind
 have e3:(-4)*f.1*f.2.2= -4*(f.1*f.2.2):=by grind
 omega
theorem cdB_dvd (n:Nat):∀ K,cdB n K∣n
 | 0=>Nat.one_dvd _
 | K+1=>by
  unfold cdB
  split
  ·rename_i h;exact Nat.dvd_trans (Nat.dvd_mul_right _ _) (Nat.dvd_of_mod_eq_zero h.2.1)
  ·exact cdB_dvd n K
theorem gnK3:gnR 3 160=true:=by decide +kernel
theorem gnK163:gnR 163 160=true:=by decide +kernel
theorem gnK323:gnR 323 160=true:=by decide +kernel
theorem gnK483:gnR 483 120=true:=by decide +kernel
theorem gnK603:gnR 603 120=true:=by decide +kernel
theorem gnK723:gnR 723 120=true:=by decide +kernel
theorem gnK843:gnR 843 120=true:=by decide +kernel
theorem gnK963:gnR 963 120=true:=by decide +kernel
theorem gnK1083:gnR 1083 90=true:=by decide +kernel
theorem gnK1173:gnR 1173 90=true:=by decide +kernel
theorem gnK1263:gnR 1263 90=true:=by decide +kernel
theorem gnK1353:gnR 1353 90=true:=by decide +kernel
theorem gnK1443:gnR 1443 90=true:=by decide +kernel
theorem gnK1533:gnR 1533 90=true:=by decide +kernel
theorem gnK1623:gnR 1623 90=true:=by decide +kernel
theorem gnK1713:gnR 1713 90=true:=by decide +kernel
theorem gnK1803:gnR 1803 90=true:=by decide +kernel
theorem gnK1893:gnR 1893 90=true:=by decide +kernel
theorem gnK1983:gnR 1983 21=true:=by decide +kernel
theorem rootK_ex:∀ n:Nat,∃ L,L*L≤n∧n<(L+1)*(L+1)
 | 0=>⟨0,by decide,by decide⟩
 | n+1=>by
  obtain ⟨L,h1,h2⟩:=rootK_ex n;by_cases h:n+1<(L+1)*(L+1)
  ·exact ⟨L,by omega,h⟩
  ·refine ⟨L+1,by omega,?_⟩
   have:(L+1+1)*(L+1+1)=(L+1)*(L+1)+(L+1)+(L+1)+1:=by
    rw [Nat.add_mul (L+1) 1 (L+1+1),Nat.mul_add (L+1) (L+1) 1];omega
   omega
theorem gnNums {T:Nat} (h3:3≤T) (h2:T≤2003):gnT T=true:=by
 by_cases h1:T<163
 ·exact gnR_spec _ gnK3 T (by omega) (by omega)
 by_cases h1:T<323
 ·exact gnR_spec _ gnK163 T (by omega) (by omega)
 by_cases h1:T<483
 ·exact gnR_spec _ gnK323 T (by omega) (by omega)
 by_cases h1:T<603
 ·exact gnR_spec _ gnK483 T (by omega) (by omega)
 by_cases h1:T<723
 ·exact gnR_spec _ gnK603 T (by omega) (by omega)
 by_cases h1:T<843
 ·exact gnR_spec _ gnK723 T (by omega) (by omega)
 by_cases h1:T<963
 ·exact gnR_spec _ gnK843 T (by omega) (by omega)
 by_cases h1:T<1083
 ·exact gnR_spec _ gnK963 T (by omega) (by omega)
 by_cases h1:T<1173
 ·exact gnR_spec _ gnK1083 T (by omega) (by omega)
 by_cases h1:T<1263
 ·exact gnR_spec _ gnK1173 T (by omega) (by omega)
 by_cases h1:T<1353
 ·exact gnR_spec _ gnK1263 T (by omega) (by omega)
 by_cases h1:T<1443
 ·exact gnR_spec _ gnK1353 T (by omega) (by omega)
 by_cases h1:T<1533
 ·exact gnR_spec _ gnK1443 T (by omega) (by omega)
 by_cases h1:T<1623
 ·exact gnR_spec _ gnK1533 T (by omega) (by omega)
 by_cases h1:T<1713
 ·exact gnR_spec _ gnK1623 T (by omega) (by omega)
 by_cases h1:T<1803
 ·exact gnR_spec _ gnK1713 T (by omega) (by omega)
 by_cases h1:T<1893
 ·exact gnR_spec _ gnK1803 T (by omega) (by omega)
 by_cases h1:T<1983
 ·exact gnR_spec _ gnK1893 T (by omega) (by omega)
 exact gnR_spec _ gnK1983 T (by omega) (by omega)
theorem Genera_c (w:World) (d k:Nat) (v1 v2 v3 v4 v5 v6 v7 v8:Value) (ht:Tab w) (hs:Sg w) (hd:d<65536) (hk:k<256):
  Calls Tryz.prog 6 #[.agg #[.int .u16 (d:Int),v1,v2,v3,v4,v5,v6,v7,v8],.int .u8 (k:Int)] w (Ret w (IsV (.bool true))):=by
 obtain ⟨L,hL⟩:=rootK_ex (dsz d);obtain ⟨hT1,hT2,hT3⟩:=dsz_ok d;obtain ⟨T,hT⟩:∃ T,dsz d=T:=⟨_,rfl⟩;rw [hT] at hL hT1 hT2 hT3;have hN:1≤T∧T≤4194304∧(T%4=0∨T%4=3):=⟨by omega,by omega,hT3⟩;obtain ⟨r,hr⟩:∃ r,k%40=r:=⟨_,rfl⟩;obtain ⟨nn,hnn⟩:∃ n,1+r=n:=⟨_,rfl⟩
 have HR:=hid (show (k:Int).tmod 40=(r:Int)∧IntKind.u8.wrap (r:Int)=(r:Int)∧IntKind.i64.wrap (r:Int)=(r:Int)∧IntKind.i64.wrap (1+(r:Int))=(nn:Int) from
  ⟨by rw [Int.tmod_eq_emod_of_nonneg (by omega)];omega,by rw [IntKind.wrap_u8];omega,by simp only [IntKind.wrap_i64];omega,by simp only [IntKind.wrap_i64];omega⟩)
 have hn40:1≤nn∧nn≤40:=by omega
 have HNI:=hid (show -9223372036854775808≤(nn:Int)∧(nn:Int)≤9223372036854775807 by omega)
 have hgd:Int.gcd (nn:Int) (2* -(T:Int))=Nat.gcd nn (2*T):=by
  unfold Int.gcd;rw [show (2* -(T:Int)).natAbs=2*T by omega];rfl
 have hue:unsE (cdB T L) (nn:Int)=if Nat.gcd (cdB T L) nn=1 then 0 else 1:=by
  unfold unsE;rw [if_neg (by omega),if_neg (by omega)];rfl
 by_cases hc:Nat.gcd nn (2*T)=1
 ·have h1:Nat.gcd (cdB T L) nn=1:=by
   have h2:Nat.gcd (cdB T L) nn∣Nat.gcd nn (2*T):=Nat.dvd_gcd (Nat.gcd_dvd_right _ _) (Nat.dvd_trans (Nat.gcd_dvd_left _ _) (Nat.dvd_trans (cdB_dvd T L) (Nat.dvd_mul_left _ _)));rw [hc] at h2;exact Nat.dvd_one.1 h2
  rw [if_pos h1] at hue;have hl:=fmA_len (n:=(T:Int)) (by omega) (T+1) 1 dcx;have hl2:=List.length_filter_le fmPrim (fmA (T:Int) (T+1) 1);have hch:=chN_le (n:=T) (by omega);have hi:isD T=true:=by unfold isD;rcases hT3 with h | h <;> simp [h]
  have hg:=gnNums hT1 hT2;unfold gnT at hg;rw [hi,cond_true] at hg
  exact Gena_k w d k v1 v2 v3 v4 v5 v6 v7 v8 ht hs T L nn r (hid hd) (hid hT) (hid hN) (hid hL) HR HNI (hid hue) (hid rfl) 1 0 (hid (by rw [hgd,hc])) (hid dcx) (hid rfl) (hid (by rw [hgd,hc];rfl)) _ _ (hid rfl) (hid rfl) (hid (by omega)) _ (hid ⟨by omega,by omega,hT3⟩) (hid hT2) (hid rfl) (hid hn40) (hid (by omega))
   (hid fun f hf=>fm_ok (List.mem_filter.1 hf).1) (hid fun f hf=>(List.mem_filter.1 hf).2) (hid fun f hf=>by have:=fm_box (by omega) ((List.mem_filter.1 hf).1);omega) (hid fun f hf=>by have h8:=fm_box (by omega) ((List.mem_filter.1 hf).1);have h9:=fm_c (fm_ok (List.mem_filter.1 hf).1) hT2;omega)
   _ (hid rfl) (hid (by omega)) (hid fun q hq=>by have:=hch.2 q hq;omega)
   (hid fun f hf=>gnF_spec (List.all_eq_true.1 hg f hf) (by have:=fm_ok (List.mem_filter.1 hf).1;exact ⟨this.a1,by have:=this.b1;omega,this.b2,this.ac⟩) hn40.1 hn40.2 hc)
 ·have hcp:decide (((Int.gcd (nn:Int) (2* -(T:Int)):Nat):Int)=1)=false:=by rw [hgd];exact decide_eq_false (by omega)
  by_cases h1:Nat.gcd (cdB T L) nn=1
  ·rw [if_pos h1] at hue;exact Gena_b w d k v1 v2 v3 v4 v5 v6 v7 v8 ht hs T nn r (hid hd) (hid hT) HR HNI (hid fun _ _ _ hx hy=>Genus_c hx hy (hid dcx) (hid hN) (hid hL) (hid hue) (hid rfl) (hid (by rw [hgd])) (hid rfl) (hid (by unfold cmpI;rw [bne_iff_ne];split <;> (try split) <;> omega))) (hid hcp)
  ·rw [if_neg h1] at hue;exact Gena_b w d k v1 v2 v3 v4 v5 v6 v7 v8 ht hs T nn r (hid hd) (hid hT) HR HNI (hid fun _ _ _ hx hy=>Genus_e hx hy (hid dcx) (hid hN) (hid hL) (hid hue) (hid rfl)) (hid hcp)
end Go.Proofs.YtknffgdbdadpcaaGreatDoor
