/-
 The sum of the symbols in natural numbers, for the kernel; and what makes of its reckoning the class numbers.
 How often the forms of a discriminant have a value, for the kernel; and what makes of its reckoning the law's sum.
 The sums over the forms, reckoned by the kernel, part 1.
 The sums over the forms, reckoned by the kernel, part 2.
 The sums over the forms, reckoned by the kernel, part 3.
 The law DensityClass at every argument, where the class numbers are reckoned ('hnum').
 The law DensityDirichlet at every argument.
-/
import Derived.Test.YtknffgdbdadpcaaGreatDoorValid
import Derived.Test.YtknffgdbdadpcaaGreatDoorDen14
import Derived.Test.YtknffgdbdadpcaaGreatDoorDir
import Derived.Test.YtknffgdbdadpcaaGreatDoorRfb
import Derived.Test.YtknffgdbdadpcaaGreatDoorDen17
import Derived.Test.YtknffgdbdadpcaaGreatDoorRWord
import Derived.Test.YtknffgdbdadpcaaGreatDoorRgm
namespace Go.Proofs.YtknffgdbdadpcaaGreatDoor
open Go Go.RowKit
def rtN (n:Nat):Nat→Nat
 | 0=>0
 | k+1=>if (k+1)*(k+1)≤n then k+1 else rtN n k
theorem rtN_spec (n:Nat):∀ k,n<(k+1)*(k+1)→rtN n k*rtN n k≤n∧n<(rtN n k+1)*(rtN n k+1)
 | 0,h=>⟨by simp [rtN],by simp only [rtN];exact h⟩
 | k+1,h=>by
  unfold rtN;by_cases hk:(k+1)*(k+1)≤n
  ·rw [if_pos hk];exact ⟨hk,h⟩
  ·rw [if_neg hk];exact rtN_spec n k (by omega)
end Go.Proofs.YtknffgdbdadpcaaGreatDoor
namespace Go.Proofs.YtknffgdbdadpcaaGreatDoor
open Go Go.RowKit
def valT (n:Nat):List Nat:=((fmA (n:Int) (n+1) 1).filter fmPrim).foldr (fun x t=>valF x.1.toNat x.2.1.natAbs x.2.2.toNat t) []
def dirN (n f:Nat) (u:Int) (vals:List Nat) (k:Nat):Bool:=Nat.rec true (fun j ih=>cond (cond (Nat.beq (Nat.gcd f (Nat.succ j)) 1) (Nat.beq (Nat.mul 2 (cN (Nat.succ j) vals)) (u*totP (locg (kr (-(n:Int)))) (Nat.succ j)).toNat) true) ih false) k
def goodD (n:Nat):Bool:=cond (isD n) (dirN n (cdB n (rtN n 45)) (unitZ (-(n:Int))) (valT n) 40) true
def goodDR (lo:Nat) (len:Nat):Bool:=Nat.rec true (fun k ih=>cond (goodD (Nat.add lo k)) ih false) len
theorem goodDR_spec {lo:Nat} :∀ len,goodDR lo len=true→ ∀ n,lo≤n→n<lo+len→goodD n=true
 | 0,_,n,h1,h2=>by omega
 | len+1,h,n,h1,h2=>by
  have e:goodDR lo (len+1)=cond (goodD (lo+len)) (goodDR lo len) false:=rfl;rw [e] at h;cases hg:goodD (lo+len) with
  | false=>rw [hg] at h;cases h
  | true=>
   rw [hg] at h;by_cases hn:n=lo+len
   ·rw [hn];exact hg
   ·exact goodDR_spec len h n h1 (by omega)
theorem dirN_spec {n f:Nat} {u:Int} {vals:List Nat} :∀ k,dirN n f u vals k=true→ ∀ N,1≤N→N≤k→Nat.gcd f N=1→2*cN N vals=(u*totP (locg (kr (-(n:Int)))) N).toNat
 | 0,_,N,h1,h2,_=>by omega
 | k+1,h,N,h1,h2,h3=>by
  have e:dirN n f u vals (k+1)=cond (cond (Nat.beq (Nat.gcd f (k+1)) 1) (Nat.beq (2*cN (k+1) vals) (u*totP (locg (kr (-(n:Int)))) (k+1)).toNat) true) (dirN n f u vals k) false:=rfl;rw [e] at h;cases hg:cond (Nat.beq (Nat.gcd f (k+1)) 1) (Nat.beq (2*cN (k+1) vals) (u*totP (locg (kr (-(n:Int)))) (k+1)).toNat) true with
  | false=>rw [hg] at h;cases h
  | true=>
   rw [hg] at h;by_cases hN:N=k+1
   ·subst hN;rw [h3] at hg;exact Nat.eq_of_beq_eq_true hg
   ·exact dirN_spec k h N h1 (by omega) h3
theorem valT_spec {N:Nat} (h1:1≤N) (h2:N≤40):∀ fs:List (Int×Int×Int),(∀ f∈fs,RedF f.1 f.2.1 f.2.2)→2*cN N (fs.foldr (fun x t=>valF x.1.toNat x.2.1.natAbs x.2.2.toNat t) [])=sumR N fs
 | [],_=>rfl
 | f ::fs,h=>by
  have ih:=valT_spec h1 h2 fs fun g hg=>h g (List.mem_cons_of_mem _ hg)
  have hv:=valF_cN (h f List.mem_cons_self) h1 h2 (fs.foldr (fun x t=>valF x.1.toNat x.2.1.natAbs x.2.2.toNat t) []);rw [List.foldr_cons,← hv,ih];rfl
theorem goodD_sum {T L N:Nat} (h:goodD T=true) (h3:1≤T) (h2:T≤2003) (hd:T%4=0∨T%4=3) (hL:L*L≤T∧T<(L+1)*(L+1)) (hN1:1≤N) (hN2:N≤40) (hu:unsE (cdB T L) (N:Int)=0):
  ((sumR N ((fmA (T:Int) (T+1) 1).filter fmPrim):Nat):Int)=totE T L (N:Int):=by
 have hr:=rtN_spec T 45 (by omega);have e:rtN T 45=L:=sqrt_uniq hr.1 hr.2 hL.1 hL.2;have hi:isD T=true:=by unfold isD;rcases hd with h | h <;> simp [h]
 unfold goodD at h;rw [hi,cond_true,e] at h
 have hg:Nat.gcd (cdB T L) N=1:=by
  unfold unsE at hu;rw [if_neg (by omega),if_neg (by omega)] at hu;by_cases h9:Int.gcd ((cdB T L:Nat):Int) (N:Int)=1
  ·exact h9
  ·rw [if_neg h9] at hu;cases hu
 have h5:=dirN_spec 40 h N hN1 hN2 hg;unfold valT at h5
 rw [valT_spec hN1 hN2 _ fun f hf=>by
  have:=fm_ok (List.mem_filter.1 hf).1
  exact ⟨this.a1,by have:=this.b1;omega,this.b2,this.ac⟩] at h5
 unfold totE;rw [if_pos hu,h5]
 have h6:0≤totP (locg (kr (-(T:Int)))) N:=by
  rw [totP_Q (locg_0 _) (M:=N) (by omega) (Nat.le_refl _)];exact Qp_nonneg _ _ _
 have h7:0≤unitZ (-(T:Int)):=by unfold unitZ;split <;> (try split) <;> omega
 rw [Int.toNat_of_nonneg (Int.mul_nonneg h7 h6),Int.toNat_natCast]
end Go.Proofs.YtknffgdbdadpcaaGreatDoor
namespace Go.Proofs.YtknffgdbdadpcaaGreatDoor
open Go Go.RowKit
set_option maxRecDepth 100000 in
theorem dirK3:goodDR 3 160=true:=by decide +kernel
set_option maxRecDepth 100000 in
theorem dirK163:goodDR 163 160=true:=by decide +kernel
set_option maxRecDepth 100000 in
theorem dirK323:goodDR 323 160=true:=by decide +kernel
set_option maxRecDepth 100000 in
theorem dirK483:goodDR 483 120=true:=by decide +kernel
set_option maxRecDepth 100000 in
theorem dirK603:goodDR 603 120=true:=by decide +kernel
set_option maxRecDepth 100000 in
theorem dirK723:goodDR 723 120=true:=by decide +kernel
set_option maxRecDepth 100000 in
theorem dirK843:goodDR 843 120=true:=by decide +kernel
end Go.Proofs.YtknffgdbdadpcaaGreatDoor
namespace Go.Proofs.YtknffgdbdadpcaaGreatDoor
open Go Go.RowKit
set_option maxRecDepth 100000 in
theorem dirK963:goodDR 963 120=true:=by decide +kernel
set_option maxRecDepth 100000 in
theorem dirK1083:goodDR 1083 90=true:=by decide +kernel
set_option maxRecDepth 100000 in
theorem dirK1173:goodDR 1173 90=true:=by decide +kernel
set_option maxRecDepth 100000 in
theorem dirK1263:goodDR 1263 90=true:=by decide +kernel
set_option maxRecDepth 100000 in
theorem dirK1353:goodDR 1353 90=true:=by decide +kernel
set_option maxRecDepth 100000 in
theorem dirK1443:goodDR 1443 90=true:=by decide +kernel
end Go.Proofs.YtknffgdbdadpcaaGreatDoor
namespace Go.Proofs.YtknffgdbdadpcaaGreatDoor
open Go Go.RowKit
set_option maxRecDepth 100000 in
theorem dirK1533:goodDR 1533 90=true:=by decide +kernel
set_option maxRecDepth 100000 in
theorem dirK1623:goodDR 1623 90=true:=by decide +kernel
set_option maxRecDepth 100000 in
theorem dirK1713:goodDR 1713 90=true:=by decide +kernel
set_option maxRecDepth 100000 in
theorem dirK1803:goodDR 1803 90=true:=by decide +kernel
set_option maxRecDepth 100000 in
theorem dirK1893:goodDR 1893 90=true:=by decide +kernel
set_option maxRecDepth 100000 in
theorem dirK1983:goodDR 1983 21=true:=by decide +kernel
end Go.Proofs.YtknffgdbdadpcaaGreatDoor
namespace Go.Proofs.YtknffgdbdadpcaaGreatDoor
open Go Go.RowKit
theorem rootK_ex:∀ n:Nat,∃ L,L*L≤n∧n<(L+1)*(L+1)
 | 0=>⟨0,by decide,by decide⟩
 | n+1=>by
  obtain ⟨L,h1,h2⟩:=rootK_ex n;by_cases h:n+1<(L+1)*(L+1)
  ·exact ⟨L,by omega,h⟩
  ·refine ⟨L+1,by omega,?_⟩
   have:(L+1+1)*(L+1+1)=(L+1)*(L+1)+(L+1)+(L+1)+1:=by
    rw [Nat.add_mul (L+1) 1 (L+1+1),Nat.mul_add (L+1) (L+1) 1];omega
   omega
end Go.Proofs.YtknffgdbdadpcaaGreatDoor
namespace Go.Proofs.YtknffgdbdadpcaaGreatDoor
open Go Go.RowKit
theorem dirNums {T:Nat} (h3:3≤T) (h2:T≤2003):goodD T=true:=by
 by_cases h1:T<163
 ·exact goodDR_spec _ dirK3 T (by omega) (by omega)
 by_cases h1:T<323
 ·exact goodDR_spec _ dirK163 T (by omega) (by omega)
 by_cases h1:T<483
 ·exact goodDR_spec _ dirK323 T (by omega) (by omega)
 by_cases h1:T<603
 ·exact goodDR_spec _ dirK483 T (by omega) (by omega)
 by_cases h1:T<723
 ·exact goodDR_spec _ dirK603 T (by omega) (by omega)
 by_cases h1:T<843
 ·exact goodDR_spec _ dirK723 T (by omega) (by omega)
 by_cases h1:T<963
 ·exact goodDR_spec _ dirK843 T (by omega) (by omega)
 by_cases h1:T<1083
 ·exact goodDR_spec _ dirK963 T (by omega) (by omega)
 by_cases h1:T<1173
 ·exact goodDR_spec _ dirK1083 T (by omega) (by omega)
 by_cases h1:T<1263
 ·exact goodDR_spec _ dirK1173 T (by omega) (by omega)
 by_cases h1:T<1353
 ·exact goodDR_spec _ dirK1263 T (by omega) (by omega)
 by_cases h1:T<1443
 ·exact goodDR_spec _ dirK1353 T (by omega) (by omega)
 by_cases h1:T<1533
 ·exact goodDR_spec _ dirK1443 T (by omega) (by omega)
 by_cases h1:T<1623
 ·exact goodDR_spec _ dirK1533 T (by omega) (by omega)
 by_cases h1:T<1713
 ·exact goodDR_spec _ dirK1623 T (by omega) (by omega)
 by_cases h1:T<1803
 ·exact goodDR_spec _ dirK1713 T (by omega) (by omega)
 by_cases h1:T<1893
 ·exact goodDR_spec _ dirK1803 T (by omega) (by omega)
 by_cases h1:T<1983
 ·exact goodDR_spec _ dirK1893 T (by omega) (by omega)
 exact goodDR_spec _ dirK1983 T (by omega) (by omega)
theorem Dirichlet_c (w:World) (d k:Nat) (v1 v2 v3 v4 v5 v6 v7 v8:Value) (ht:Tab w) (hs:Sg w) (hd:d<65536) (hk:k<256):
  Calls Tryz.prog 4 #[.agg #[.int .u16 (d:Int),v1,v2,v3,v4,v5,v6,v7,v8],.int .u8 (k:Int)] w (Ret w (IsV (.bool true))):=by
 obtain ⟨L,hL⟩:=rootK_ex (dsz d);obtain ⟨hT1,hT2,hT3⟩:=dsz_ok d;obtain ⟨T,hT⟩:∃ T,dsz d=T:=⟨_,rfl⟩;rw [hT] at hL hT1 hT2 hT3;have hN:1≤T∧T≤4194304∧(T%4=0∨T%4=3):=⟨by omega,by omega,hT3⟩;obtain ⟨r,hr⟩:∃ r,k%40=r:=⟨_,rfl⟩;obtain ⟨nn,hnn⟩:∃ n,1+r=n:=⟨_,rfl⟩
 have HR:=hid (show (k:Int).tmod 40=(r:Int)∧IntKind.u8.wrap (r:Int)=(r:Int)∧IntKind.i64.wrap (r:Int)=(r:Int)∧IntKind.i64.wrap (1+(r:Int))=(nn:Int) from
  ⟨by rw [Int.tmod_eq_emod_of_nonneg (by omega)];omega,by rw [IntKind.wrap_u8];omega,by simp only [IntKind.wrap_i64];omega,by simp only [IntKind.wrap_i64];omega⟩)
 have hn40:1≤nn∧nn≤40:=by omega
 have HNI:=hid (show -9223372036854775808≤(nn:Int)∧(nn:Int)≤9223372036854775807 by omega);by_cases he:unsE (cdB T L) (nn:Int)=0
 ·have hl:=fmA_len (n:=(T:Int)) (by omega) (T+1) 1 (by decide);have hl2:=List.length_filter_le fmPrim (fmA (T:Int) (T+1) 1)
  exact Dir_b w d k v1 v2 v3 v4 v5 v6 v7 v8 ht hs T L nn r 0 _ (hid hd) (hid hT) (hid hN) (hid hL) HR HNI (hid he) (hid rfl) (hid (by decide)) _ (hid ⟨by omega,by omega,hT3⟩) (hid (by omega)) (hid rfl) (hid hn40) (hid (by omega))
   (hid fun f hf=>fm_ok (List.mem_filter.1 hf).1) (hid fun f hf=>by have:=fm_box (by omega) ((List.mem_filter.1 hf).1);omega)
   (hid (goodD_sum (dirNums hT1 hT2) (by omega) hT2 hT3 hL hn40.1 hn40.2 he))
 ·exact Dir_a w d k v1 v2 v3 v4 v5 v6 v7 v8 ht hs T L nn r _ _ (hid hd) (hid hT) (hid hN) (hid hL) HR HNI (hid rfl) (hid rfl) (hid (by rw [bne_iff_ne];exact he)) (hid (by unfold totE;rw [if_neg he];decide))
end Go.Proofs.YtknffgdbdadpcaaGreatDoor
