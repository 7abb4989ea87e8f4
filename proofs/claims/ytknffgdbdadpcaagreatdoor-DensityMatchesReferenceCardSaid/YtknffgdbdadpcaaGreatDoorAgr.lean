/-
 Package density and its reference answer alike at every integer of two words and every number of two words.
-/
import Derived.Test.YtknffgdbdadpcaaGreatDoorDen34
import Derived.Test.YtknffgdbdadpcaaGreatDoorDen35
namespace Go.Proofs.YtknffgdbdadpcaaGreatDoor
open Go Go.RowKit
open Go.Proofs.Tryz
theorem textZ{z:Int}(h:z.natAbs<18446744073709551616):∃tn:ByteArray,encS (xW z)=.string tn/\jG z=0/\tn.size<=1000:=by
 have hl:(Lib.itoa z).length<=66:=by
  unfold Lib.itoa
  split
  ·have:=dec_len z.natAbs 64 h;rw[List.length_cons];omega
  ·have:=dec_len z.toNat 64 zb;omega
 refine⟨⟨(xW z).toArray⟩,rfl,?_,?_⟩
 ·unfold jG;rw[if_neg (by omega)]
 ·show(xW z).toArray.size<=1000;unfold xW;rw[if_neg (by omega)];simp;omega
theorem totP_box(ch:Nat->Int){n:Nat}(hn:0<n):0<=totP (qV ch) n/\totP (qV ch) n<=n:=by
 refine⟨?_,Qp_le ch hn⟩;have:=pre_le ch hn (pre:=pw n 2 n) ⟨[],List.append_nil _⟩;exact this.1
theorem agr_u{w0:World}{z z2 p ue:Int}(HUB:(ue !=0)=true)
  (HUN:∀(x y:Value) (w:World),IsI 2 z x w->IsI 2 z2 y w->Calls prog 39 #[x,y] w (Ret w (iV ue)))
  (HRF:∀(x y:Value) (w:World),IsI 2 z x w->IsI 2 z2 y w->Calls prog 23 #[x,y] w (Ret w (iV ue)))
  (cl:∃(o:Option (ByteArray×Rat)) (e:Int),∀(x:Value) (w:World),Ext w0 w->IsI 2 z x w->Calls prog 18 #[x] w (Ret w (IsT2 (AuO 4 o) (iV e)))/\Calls prog 19 #[x] w (Ret w (IsT2 (AuO 2 o) (iV e)))):AgrN w0 z z2 p where
 lo:=⟨0,ue,λx y w _ hx hy=>⟨Local_x hx hy p (hid λx y w' _ a b=>HUN x y w' a b) (hid HUB),rLocal_e hx hy p ue (hid HRF) (hid HUB)⟩⟩
 tot:=⟨0,ue,λx y w _ hx hy=>⟨Total_x hx hy (hid HUN) (hid HUB),rTotal_e hx hy (hid HRF) (hid HUB)⟩⟩
 ge:=⟨[],ue,λx y w _ hx hy=>⟨Genus_x hx hy (hid HUN) (hid HUB),rGenus_x hx hy (hid HRF) (hid HUB)⟩⟩
 au:=⟨none,ue,λx y w _ hx hy=>⟨Audit_x hx hy (hid dcx) (hid λx y w' _ a b=>Total_x a b (hid HUN) (hid HUB)) (hid HUB),rAudit_e hx hy (hid dcx) (hid λx y w' _ a b=>rTotal_e a b (hid HRF) (hid HUB)) (hid HUB)⟩⟩
 cl:=cl
theorem cmp_lt{a b:Int}(h:a<b):qK a b= -1:=by unfold qK;rw[if_pos h]
theorem cmp_gt{a b:Int}(h:b<a):qK a b=1:=by unfold qK;rw[if_neg (by omega),if_pos h]
theorem agr_cx{w0:World}{z:Int}(h:dE z≠0):∃(o:Option (ByteArray×Rat)) (e:Int),∀(x:Value) (w:World),Ext w0 w->IsI 2 z x w->Calls prog 18 #[x] w (Ret w (IsT2 (AuO 4 o) (iV e)))/\Calls prog 19 #[x] w (Ret w (IsT2 (AuO 2 o) (iV e))):=by
 by_cases h5:dE z=5
 ·exact⟨none,5,λx w _ hx=>⟨Class_d hx (hid dcx) (hid h5),rClass_d hx (hid dcx) (hid h5)⟩⟩
 ·have hb:z< -4194304:=by
   unfold dE at h h5
   split at h
   ·rename_i h1;rw[if_pos h1]at h5;exact absurd rfl h5
   ·split at h
    ·assumption
    ·exact absurd rfl h
  have c4:decide (0<=qK z (-4))=false:=by rw[cmp_lt (by omega)];rfl
  have c9:decide (qK z (-4096)<0)=true:=by rw[cmp_lt (by omega)];rfl
  exact⟨none,2,λx w _ hx=>⟨Class_b hx (hid dcx) (hid rfl) (hid (by simpa using h5)) (hid rfl) (hid c4) (hid rfl) (hid c9),rClass_b hx (hid dcx) (hid rfl) (hid (by simpa using h5)) (hid rfl) (hid c4) (hid rfl) (hid c9)⟩⟩
theorem agr_c{w0:World}{T L:Nat}(ht:Tab w0)(hs:Sg w0)(hn:1<=T/\T<=4194304/\(T%4=0\/T%4=3))(hL:L*L<=T/\T<(L+1)*(L+1)):∃(o:Option (ByteArray×Rat)) (e:Int),∀(x:Value) (w:World),Ext w0 w->IsI 2 (-(T:Int)) x w->Calls prog 18 #[x] w (Ret w (IsT2 (AuO 4 o) (iV e)))/\Calls prog 19 #[x] w (Ret w (IsT2 (AuO 2 o) (iV e))):=by
 have hd:dE (-(T:Int))=0:=by unfold dE;rw[if_neg (by omega),if_neg (by omega)]
 have hd5:((0:Int)==5)=false:=rfl;by_cases h4:T<=4
 ·have c4:decide (0<=qK (-(T:Int)) (-4))=true:=by
   rcases(show T=3\/T=4 by omega)with rfl|rfl <;> decide
  exact⟨none,5,λx w _ hx=>⟨Class_a hx (hid dcx) (hid hn) (hid rfl) (hid c4),rClass_a hx (hid dcx) (hid hd) (hid hd5) (hid rfl) (hid c4)⟩⟩
 have c4:decide (0<=qK (-(T:Int)) (-4))=false:=by rw[cmp_lt (by omega)];rfl
 by_cases h9:4096<T
 ·have c9:decide (qK (-(T:Int)) (-4096)<0)=true:=by rw[cmp_lt (by omega)];rfl
  exact⟨none,2,λx w _ hx=>⟨Class_b hx (hid dcx) (hid hd) (hid hd5) (hid rfl) (hid c4) (hid rfl) (hid c9),rClass_b hx (hid dcx) (hid hd) (hid hd5) (hid rfl) (hid c4) (hid rfl) (hid c9)⟩⟩
 have c9:decide (qK (-(T:Int)) (-4096)<0)=false:=by
  unfold qK;rw[zK];split <;>(try split) <;> omega
 by_cases hf:((cdB T L:Nat):Int)=1
 ·obtain⟨tn,htn⟩:=textZ (z:= -(T:Int)) zb;have cf:(qK ((cdB T L:Nat):Int) 1 !=0)=false:=by rw[hf];decide
  refine⟨some (((⟨#[99,58]⟩:ByteArray)++tn),Rat.divInt ((clsS (-(T:Int)) T).tdiv (T:Int)) 1),0,λx w e hx=>⟨?_,?_⟩⟩
  ·exact Class_k hx (hid dcx) (hid hn) (hid rfl) (hid c4) (hid rfl) (hid c9) (hid hL) (hid rfl) (hid cf) (hid zb) (hid (ht.ext e)) tn (hid htn) (hid (hs.ext e))
  ·exact rClass_k hx (hid dcx) (hid hn) (hid hd) (hid hd5) (hid rfl) (hid c4) (hid rfl) (hid c9) (hid hL) (hid (decide_eq_true hf)) (hid zb) tn (hid htn)
 ·have cf:(qK ((cdB T L:Nat):Int) 1 !=0)=true:=by
   unfold qK;rw[bne_iff_ne];split <;>(try split) <;> omega
  exact⟨none,5,λx w _ hx=>⟨Class_n hx (hid dcx) (hid hn) (hid rfl) (hid c4) (hid rfl) (hid c9) (hid hL) (hid rfl) (hid cf),rClass_n hx (hid dcx) (hid hn) (hid hd) (hid hd5) (hid rfl) (hid c4) (hid rfl) (hid c9) (hid hL) (hid (decide_eq_false hf))⟩⟩
theorem root_ex:∀n:Nat,∃L,L*L<=n/\n<(L+1)*(L+1)
 |0=>⟨0,by decide,by decide⟩
 | n+1=>by
  obtain⟨L,h1,h2⟩:=root_ex n;by_cases h:n+1<(L+1)*(L+1)
  ·exact⟨L,by omega,h⟩
  ·refine⟨L+1,by omega,?_⟩;have:(L+1+1)*(L+1+1)=(L+1)*(L+1)+2*(L+1)+1:=by grind
   omega
theorem agr_k{w0:World}{T L m:Nat}{p:Int}(ht:Tab w0)(hs:Sg w0)(hz:Tzt w0)(hn:1<=T/\T<=4194304/\(T%4=0\/T%4=3))(hL:L*L<=T/\T<(L+1)*(L+1))(hp: -9223372036854775808<=p/\p<=9223372036854775807)(hu:unsE (cdB T L) (m:Int)=0):AgrN w0 (-(T:Int)) (m:Int) p:=by
 have hm:0<m/\m<=1048576:=by have:=unsE_ok hu;omega
 have HUN:∀(x y:Value) (w:World),IsI 2 (-(T:Int)) x w->IsI 2 (m:Int) y w->Calls prog 39 #[x,y] w (Ret w (iV 0)):=λx y w hx hy=>by
  have h:=jC hx hy dcx dcx hn hL;rw[hu]at h;exact h
 have HRF:∀(x y:Value) (w:World),IsI 2 (-(T:Int)) x w->IsI 2 (m:Int) y w->Calls prog 23 #[x,y] w (Ret w (iV 0)):=λx y w hx hy=>by
  have h:=Refused_f hx hy dcx dcx hn hL;rw[hu]at h;exact h
 have hbx:=totP_box (kr (-(T:Int))) hm.1;have hun:xM (-(T:Int))=6\/xM (-(T:Int))=4\/xM (-(T:Int))=2:=by unfold xM;split <;>(try split) <;> omega
 have hte:totE T L (m:Int)=xM (-(T:Int))*totP (qV (kr (-(T:Int)))) m:=by unfold totE;rw[if_pos hu];rfl
 have hteb:0<=xM (-(T:Int))*totP (qV (kr (-(T:Int)))) m/\xM (-(T:Int))*totP (qV (kr (-(T:Int)))) m<=6291456:=by
  rcases hun with h|h|h <;> rw[h] <;> omega
 have hwr:IntKind.i64.wrap (xM (-(T:Int))*totP (qV (kr (-(T:Int)))) m)=xM (-(T:Int))*totP (qV (kr (-(T:Int)))) m:=by
  generalize xM (-(T:Int))*totP (qV (kr (-(T:Int)))) m=t at*;simp only[IntKind.wrap_i64];omega
 generalize hTE:xM (-(T:Int))*totP (qV (kr (-(T:Int)))) m=te at*
 have hTot:∀(x y:Value) (w:World),Ext w0 w->IsI 2 (-(T:Int)) x w->IsI 2 (m:Int) y w->Calls prog 12 #[x,y] w (Ret w (IsT2 (iV te) (iV 0)))/\Calls prog 13 #[x,y] w (Ret w (IsT2 (iV te) (iV 0))):=λx y w e hx hy=>by
  have h:=Total_f hx hy dcx (hs.ext e) hn hL;rw[hte,hu]at h;exact⟨h,rTotal_a hx hy (hid dcx) (hid dcx) (hid hm) (hid HRF) (hid (by rw[hTE];exact hwr))⟩
 refine⟨?_,⟨te,0,hTot⟩,?_,?_,agr_c ht hs hn hL⟩
 ·by_cases hpr:p<1048576/\0<=p/\Pr p.toNat
  ·obtain⟨pn,rfl⟩:∃pn:Nat,p=(pn:Int):=⟨p.toNat,by omega⟩;rw[Int.toNat_natCast]at hpr;have hp2:pn<1048576:=by omega
   refine⟨qV (kr (-(T:Int))) pn (vl pn m),0,λx y w e hx hy=>⟨?_,?_⟩⟩
   ·refine Local_e (hid rfl) hx hy dcx (hs.ext e) hn hL hu hm hpr.2.2 hp2 λx w' e' hxp=>?_
    refine(Is_g _ hp (hz.ext (e.trans e')) hxp).mono λen W' hh=>?_
    obtain⟨v,h1,h2,a,b,h3,⟨B,h4,h5⟩,h6⟩:=hh;refine⟨v,h1,h2,a,b,h3,?_,h6⟩;rw[h4];show Value.bool B=Value.bool true;rw[(h5 hpr.1).2 ⟨hpr.2.1,by rw[Int.toNat_natCast];exact hpr.2.2⟩]
   ·exact rLocal_k hx hy (hid dcx) (hid zb) (hid ⟨hpr.2.2.1,by omega⟩) (hid rfl) (hid (kr_le _ _)) (hid HRF) (hid zb) (hid zb) (hid ⟨λ_=>⟨by have:=hpr.2.2.1;omega,by rw[Int.toNat_natCast];exact hpr.2.2⟩,λ_=>rfl⟩)
  ·refine⟨0,7,λx y w e hx hy=>⟨Local_no hx hy p (hid λx y w' _ a b=>HUN x y w' a b) (hid hp) (hid (hz.ext e)) (hid hpr),?_⟩⟩;by_cases hb:1048576<=p
   ·exact rLocal_big hx hy p (hid HRF) (hid hb)
   ·refine rLocal_no hx hy p (hid HRF) (hid hb) (hid zb) (hid ⟨λh=>(by cases h),λh=>absurd ⟨by omega,by omega,h.2⟩ hpr⟩)
 ·by_cases hg:((Int.gcd (m:Int) (2*(-(T:Int))):Nat):Int)=1
  ·refine⟨(chN T).map (λc=>chV c m),0,λx y w e hx hy=>⟨?_,?_⟩⟩
   ·exact Genus_k hx hy (hid dcx) (hid hn) (hid hL) (hid hu) (hid rfl) (hid rfl) (hid rfl) (hid (by rw[hg];decide)) (hid rfl) (hid hm) (hid (hs.ext e))
   ·exact rGenus_k hx hy (hid dcx) (hid hn) (hid HRF) (hid (decide_eq_true hg)) (hid rfl) (hid hm)
  ·refine⟨[],1,λx y w e hx hy=>⟨?_,?_⟩⟩
   ·exact Genus_c hx hy (hid dcx) (hid hn) (hid hL) (hid hu) (hid rfl) (hid rfl) (hid rfl) (hid (by unfold qK;rw[bne_iff_ne];split <;>(try split) <;> omega))
   ·exact rGenus_c hx hy (hid dcx) (hid hn) (hid HRF) (hid (decide_eq_false hg))
 ·by_cases hb:1024<m
  ·have c4:decide (0<qK (m:Int) 1024)=true:=by rw[cmp_gt (by omega)];rfl
   refine⟨none,2,λx y w e hx hy=>⟨?_,?_⟩⟩
   ·exact Audit_b hx hy (hid dcx) (hid (hs.ext e)) (hid hn) (hid hL) (hid hu) (hid hte) (hid rfl) (hid rfl) (hid c4)
   ·exact rAudit_b hx hy (hid dcx) (hid λx y w' e' a b=>(hTot x y w' (e.trans e') a b).2) (hid rfl) (hid rfl) (hid c4)
  ·have c4:decide (0<qK (m:Int) 1024)=false:=by
    unfold qK;rw[zK];split <;>(try split) <;> omega
   obtain⟨td,htd⟩:=textZ (z:= -(T:Int)) zb;obtain⟨tn,htn⟩:=textZ (z:=(m:Int)) zb;refine⟨some (((⟨#[115,58]⟩:ByteArray)++td++(⟨#[58]⟩:ByteArray)++tn),Rat.divInt te 1),0,λx y w e hx hy=>⟨?_,?_⟩⟩
   ·exact Audit_k hx hy (hid dcx) (hid (hs.ext e)) (hid hn) (hid hL) (hid hu) (hid hte) (hid rfl) (hid rfl) (hid c4) (hid (ht.ext e)) td tn (hid htd) (hid htn) (hid zb)
   ·exact rAudit_k hx hy (hid dcx) (hid λx y w' e' a b=>(hTot x y w' (e.trans e') a b).2) (hid rfl) (hid rfl) (hid c4) td tn (hid htd) (hid htn) (hid zb)
theorem agr_all{w0:World}(z z2 p:Int)(ht:Tab w0)(hs:Sg w0)(hz:Tzt w0)(hp: -9223372036854775808<=p/\p<=9223372036854775807):AgrN w0 z z2 p:=by
 by_cases hd:dE z=0
 ·obtain⟨T,rfl,hn⟩:∃T:Nat,z= -(T:Int)/\1<=T/\T<=4194304/\(T%4=0\/T%4=3):=by
   unfold dE at hd
   split at hd
   ·exact absurd hd dcx
   ·split at hd
    ·exact absurd hd dcx
    ·exact⟨(-z).toNat,by omega,by omega,by omega,by omega⟩
  obtain⟨L,hL⟩:=root_ex T;by_cases hu:unsE (cdB T L) z2=0
  ·obtain⟨m,rfl⟩:∃m:Nat,z2=(m:Int):=⟨z2.toNat,by have:=unsE_ok hu;omega⟩;exact agr_k ht hs hz hn hL hp hu
  ·exact agr_u (by simpa using hu) (λx y w hx hy=>jC hx hy dcx dcx hn hL) (λx y w hx hy=>Refused_f hx hy dcx dcx hn hL) (agr_c ht hs hn hL)
 ·exact agr_u (by simpa using hd) (λx y w hx hy=>unsuitable_e hx hy (hid dcx) (hid rfl) (hid (by simpa using hd))) (λx y w hx hy=>Refused_e hx hy (hid dcx) (hid rfl) (hid (by simpa using hd))) (agr_cx hd)
theorem MatchesReference_c(w:World)(d:Nat)(v1 v2 v3 v4 v5 v6 v7 v8:Value)(sX sY:Bool)(aX aY:Option Addr)(nX cX nY cY:Nat)(xX xY:List Nat)(hX:Wd w aX nX cX xX)(hY:Wd w aY nY cY xY)(p:Int)(ht:Tab w)(hs:Sg w)(hz:Tzt w)(hd:d<65536)(hp: -9223372036854775808<=p/\p<=9223372036854775807):
  Calls prog 3 #[.agg #[.int .u16 (d:Int),v1,v2,v3,v4,v5,v6,v7,v8],.agg #[.bool sX,.slice aX nX cX,.bool sY,.slice aY nY cY],.int .i64 p] w (Ret w (IsV (.bool true))):=
 Match_w w d v1 v2 v3 v4 v5 v6 v7 v8 sX sY aX aY nX cX nY cY xX xY hX hY p ht hs hz _ _ _ (hid hd) (hid rfl) (hid rfl) (hid rfl) (hid λz _=>agr_all z _ p ht hs hz hp)
end Go.Proofs.YtknffgdbdadpcaaGreatDoor
