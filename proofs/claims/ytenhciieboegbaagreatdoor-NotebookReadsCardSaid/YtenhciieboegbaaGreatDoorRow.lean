/-
  trim of the reference package: zeros at the end are taken away. Every slice of words. The reference package: made, size, Same, Of, Made. Every slice of words of at most 2^40 words. The reference package: Same, Of, Made. Every two integers of at most 2^28 words; every int64; every description.
  Plain laws on decimal numerals, and rows of strings that a call itself makes. No condition. Rows that a call itself makes and appends to, one element at a time. No condition.
-/
import Derived.Test.YtenhciieboegbaaGreatDoorProg
import Derived.Test.YtenhciieboegbaaGreatDoorBase
import Derived.WalkLawsBesides
import Derived.WalkSpells
import Derived.Test.YtenhciieboegbaaGreatDoorFact
import Derived.Deep.AppendSrc
import Derived.Lib.ItoaMem
import Derived.Lib.Repeat
namespace Go.Proofs.YtenhciieboegbaaGreatDoor
open Go Go.RowKit
open Go.Proofs.Tryz
theorem jh{P:Prop}(h:P:=by simp;omega):P:=h
theorem yi{P:Prop}(h:P:=by rw[zJ];omega):P:=h
theorem zad{P:Prop}(h:P:=by simpa using h):P:=h
abbrev zQ:=@List.length_append
abbrev zM:=@decide_eq_false_iff_not
set_option maxRecDepth 100000
set_option maxHeartbeats 1000000
theorem rtrim_wd(w:World)(ao:Option Addr)(n cap:Nat)(xs:List Nat)(h:Wd w ao n cap xs):
    Calls prog 74 #[.slice ao n cap] w λe w'=>∃n',e=.returned (.slice ao n' cap)/\w=w'/\NatAt w n ao n' cap (qF xs):=by
  have hl:=h.len;have hcapo:=h.capo;have hbig:=h.big;have hfull:qF (xs.take n)=qF xs:=by rw[List.take_of_length_le (by omega)]
  have fin:∀k,k<=n->qF (xs.take k)=qF (xs.take n)->(0<k->xs.getD (k-1) 0≠0)->NatAt w n ao k cap (qF xs):=λk hk he hz=>
    ⟨xs.take k,h.take k hk,hk,λh0=>by rw[getD_take _ _ _ (by omega)];exact hz h0,by rw[he,hfull]⟩
  have step:∀k,0<k->xs.getD (k-1) 0=0->qF (xs.take (k-1))=qF (xs.take k):=λk h0 hz=>by
    have:=natVal_take_zero xs (k-1) hz;rw[show k-1+1=k from by omega]at this;exact this.symm
  have Hfin:=hid fin;have Hstep:=hid step;have Hfull:=hid hfull;clear fin step hfull;rcases h.at_ with rfl| ⟨b,off,rfl,hb,hc⟩
  · clear h
    go_enter func74,ntmps74
    go_wp2
    refine wp_loop_rounds 1 ?_;rw[rounds_succ]
    go_wp2
    go_ret
    exact⟨0,rfl,rfl,Hfin.out 0 ze rfl ze⟩
  · clear h
    have HC:=hid hc;clear hc;go_enter func74,ntmps74
    go_wp2
    go_loop [0] (λv=>∃k:Nat,k<=n/\v=.slice (some ⟨b,off,none⟩) k cap/\Hid (qF (xs.take k)=qF (xs.take n))) (λv=>match v with| .slice _ k _=>k|_=>0)
    case atStart=>exact⟨n,by omega,rfl,rfl⟩
    case round=>
      obtain⟨k,hk,rfl,hkeep⟩:=hrel;by_cases h0:0<k
      · have hcell:=HC.out (k-1) ze
        by_cases hz:xs.getD (k-1) 0=0
        · have hz2:((xs.getD (k-1) 0:Nat):Int)=0:=by omega
          rw[hz2]at hcell;have Hz:=hid hz;clear hz hz2
          go_wp2
          go_round
          case rel=>exact⟨k-1,by omega,rfl,(Hstep.out k h0 Hz.out).trans hkeep⟩
          case measure=>simp;omega
        · obtain⟨x,hx⟩:∃x,x=xs.getD (k-1) 0:=⟨_,rfl⟩
          rw[<-hx]at hcell;have hz2:((x:Int)==0)=false:=by simpa [hx]using hz
          have Hz:=hid hz;clear hz hx
          go_wp2
          go_ret
          exact⟨k,rfl,rfl,Hfin.out k hk hkeep (λ_=>Hz.out)⟩
      · go_wp2
        go_ret
        exact⟨k,rfl,rfl,Hfin.out k hk hkeep (λh=>absurd h h0)⟩
theorem rmade_c(w:World)(s:Bool)(ao:Option Addr)(n cap:Nat)(xs:List Nat)(z:Int)(h:Wd w ao n cap xs)(hz:z=if s then -(qF xs:Int)else qF xs):
    Calls prog 52 #[.bool s,.slice ao n cap] w (RInt w n z):=by
  have h1:=hid (rtrim_wd _ ao n cap xs (h.ext ((Ext.refl w).alloc (.cells #[.bool false,.slice none 0 0] 29))));have Hz:=hid hz;have Hh:=hid h;clear hz h;go_enter func52,ntmps52;go_wp2_with fail;refine(h1.out).mono ?_;rintro e w' ⟨n',rfl,rfl,hn⟩;clear h1;have hle:=hn.le;have hn:=hn.back Hh.out ((Ext.refl w).alloc _) hle;by_cases h0:n'=0
  · have hm:=(hn.zero).2 h0
    have hz0:z=0:=by rw[Hz.out,hm];cases s <;> rfl
    subst h0;go_wp2_with fail;refine zH (v:=.agg #[.bool false,.slice none 0 0]) (by simp[results,results52,go_sem]) rfl ?_;rw[hz0];exact⟨_,_,_,_,rfl,(Ext.refl w).alloc _,IntAt.zero.mono ze⟩
  · have h0':((n':Int)==0)=false:=by rw[zJ];omega
    have h00:=hid h0;clear h0;go_wp2_with fail;refine zH (v:=.agg #[.bool s,.slice ao n' cap]) (by simp[results,results52,go_sem]) rfl ?_;refine⟨_,_,_,_,rfl,(Ext.refl w).alloc _,?_⟩;rw[Hz.out];exact IntAt.mk (hn.ext ((Ext.refl w).alloc _)) s h00.out
theorem rsize_same(w:World)(a1 a2:Option Addr)(n c1 c2:Nat)(A B:List Nat)(h1:Wd w a1 n c1 A)(h2:Wd w a2 n c2 B)(s1:n<=1073741824):
    Calls prog 90 #[.slice a1 n c1,.slice a2 n c2] w (RVal w (.int .i64 (cmpI (qF A) (qF B)))):=by
  have HA:=hid h1.lt;have HB:=hid h2.lt;have HlA:=hid h1.len;have HlB:=hid h2.len;have HW1:=hid h1;have HW2:=hid h2;have sh1:=h1.shape;have sh2:=h2.shape;clear h1 h2;rcases sh1 with sh1| ⟨b1,off1,rfl,hb1⟩ <;> rcases sh2 with sh2| ⟨b2,off2,rfl,hb2⟩
  all_goals
    go_enter func90,ntmps90;go_wp2_with fail
    go_loopw [5] (λi wr=>∃z:Int,-1<=z/\z<n/\i=.int .i64 z/\Hid (SameFrom A B (z+1).toNat)/\Ext w wr) (λi _=>(intOf i+1).toNat)
    case atStart=>exact⟨(n:Int)-1,by omega,by omega,rfl,λi hi=>by rw[getD_big _ _ (by rw[HlA.out];omega),getD_big _ _ (by rw[HlB.out];omega)],Ext.refl _⟩
    case round=>
      obtain⟨z,hz1,hz2,rfl,hsame,hext⟩:=hrel;by_cases hz0:0<=z
      · obtain ⟨j,rfl⟩:=Int.eq_ofNat_of_zero_le hz0
        first
          | (exfalso;omega)
          | (have c1:=(HW1.out.ext hext).cell j ze
             have c2:=(HW2.out.ext hext).cell j ze;have hsame':SameFrom A B (j+1):=hsame.out
             have HC:∀x y:Nat,A.getD j 0=x->B.getD j 0=y->(x<y->qF A<qF B)/\(y<x->qF B<qF A)/\(x=y->SameFrom A B j):=λx y hx hy=>
               ⟨λh=>hsame'.lt HA.out ze HlA.out HlB.out (by rw[hx,hy];exact h),λh=>hsame'.symm.lt HB.out ze HlB.out HlA.out (by rw[hx,hy];exact h),λh=>hsame'.step (by rw[hx,hy];exact h)⟩
             have HC:=hid (HC _ _ rfl rfl);clear hsame hsame';generalize A.getD j 0=x at c1 HC;generalize B.getD j 0=y at c2 HC;go_wp2_with fail;rcases Nat.lt_trichotomy x y with h|h|h
             · have hv:decide (x<y)=true:=by simpa using h
               have hg:=hid (HC.out.1 h);clear HC
               go_quiet (fail)
               go_wp2_with fail
               go_ret
               exact⟨ret_int (by rw[cmpI_lt (by exact_mod_cast hg.out)]),hext.drewN _⟩
             · have hv:decide (x<y)=false:=by simp;omega
               have hv2:decide (y<x)=false:=jh
               have hg:=hid (HC.out.2.2 h);clear HC h
               go_quiet (fail)
               go_wp2_with fail
               go_quiet (fail)
               go_wp2_with fail
               go_roundw
               case rel=>exact⟨(j:Int)-1,by omega,by omega,rfl,by rw[show((j:Int)-1+1).toNat=j from by omega];exact hg,hext.drewN _⟩
               case measure=>simp[intOf]
             · have hv:decide (x<y)=false:=by simp;omega
               have hv2:decide (y<x)=true:=zad
               have hg:=hid (HC.out.2.1 h);clear HC
               go_quiet (fail)
               go_wp2_with fail
               go_quiet (fail)
               go_wp2_with fail
               go_ret
               exact⟨ret_int (by rw[cmpI_gt (by exact_mod_cast hg.out)]),(hext.drewN _).drewN _⟩)
      · obtain rfl:z= -1:=by omega
        have hv:SameFrom A B 0:=hsame.out;have hg:=hid (hv.eq HlA.out HlB.out);clear hv hsame;go_wp2_with fail
        go_ret
        exact⟨ret_int (cmpI_eq (congrArg (λn:Nat=>(n:Int)) hg.out)).symm,hext⟩
theorem rsize_c(w:World)(a1 a2:Option Addr)(n1 n2 c1 c2 k1 k2 x y:Nat)(h1:NatAt w k1 a1 n1 c1 x)(h2:NatAt w k2 a2 n2 c2 y)(s1:k1<=1073741824):
    Calls prog 90 #[.slice a1 n1 c1,.slice a2 n2 c2] w (RVal w (.int .i64 (cmpI x y))):=by
  obtain⟨xs,h1,l1,z1,rfl⟩:=h1;obtain⟨ys,h2,l2,z2,rfl⟩:=h2;have e1:=h1.len;have e2:=h2.len;have b1:n1<=9223372036854775807:=zO h1.capo h1.big;have b2:n2<=9223372036854775807:=zO h2.capo h2.big;rcases Nat.lt_trichotomy n1 n2 with h|h|h
  · have hv:qF xs<qF ys:=by
      have a:=natVal_lt xs h1.lt;have b:=jR ys ze (by rw[e2];exact z2 ze);have c:4294967296^xs.length<=4294967296^(ys.length-1):=Nat.pow_le_pow_right ze ze;omega
    rw[cmpI_lt (by exact_mod_cast hv)];have hc:(n1==n2)=false:=yi
    have hc2:decide (n1<n2)=true:=zad
    clear hv h1 h2 e1 e2 z1 z2;go_enter func90,ntmps90;go_wp2_with fail
    go_ret
    exact⟨rfl,Ext.refl _⟩
  · subst h
    exact rsize_same w a1 a2 n1 c1 c2 xs ys h1 h2 ze
  · have hv:qF ys<qF xs:=by
      have a:=natVal_lt ys h2.lt;have b:=jR xs ze (by rw[e1];exact z1 ze);have c:4294967296^ys.length<=4294967296^(xs.length-1):=Nat.pow_le_pow_right ze ze;omega
    rw[cmpI_gt (by exact_mod_cast hv)];have hc:(n1==n2)=false:=yi
    have hc2:decide (n1<n2)=false:=jh
    clear hv h1 h2 e1 e2 z1 z2;go_enter func90,ntmps90;go_wp2_with fail
    go_ret
    exact⟨rfl,Ext.refl _⟩
theorem same_sign(s1 s2:Bool)(m1 m2:Nat)(z1 z2:Int)(h1:z1=if s1 then -(m1:Int)else m1)(h2:z2=if s2 then -(m2:Int)else m2)
    (t1:m1=0->s1=false) (t2:m2=0->s2=false):z1=z2↔(s1=s2/\m1=m2):=by
  cases s1 <;> cases s2 <;> simp at h1 h2 t1 t2 <;> simp <;> omega
theorem st20(w:World)(s1 s2:Bool)(a1 a2:Option Addr)(n1 n2 c1 c2:Nat):
    ∃ W,W=(w.alloc (.cells #[.bool s1,.slice a1 n1 c1] 29)).alloc (.cells #[.bool s2,.slice a2 n2 c2] 29)/\
      Bx W w.heap.size s1 a1 n1 c1/\Bx W (w.heap.size+1) s2 a2 n2 c2/\Ext w W:=by
  obtain⟨W,h1,h2⟩:=kq20 w s1 s2 a1 a2 n1 n2 c1 c2;exact⟨W,h1,h2.bx w.heap.size s1 a1 n1 c1 zo,h2.bx (w.heap.size+1) s2 a2 n2 c2 zo,h2.ext⟩
theorem tRow_2{P:Prop}(h:P:=by
  go_enter func48,ntmps48;go_wp2_with fail;rw[<-hW];clear hW;go_wp2_with fail;refine zG HC.out ?_;rintro e w1 ⟨rfl,e1⟩;go_wp2_with fail
  go_ret
  exact⟨by rw[hr1.out];rfl,E.out.trans e1⟩
  ):P:=h
theorem Same_c(w:World)(s1 s2:Bool)(a1 a2:Option Addr)(n1 n2 c1 c2 k1 k2:Nat)(z1 z2:Int)(h1:IntAt w k1 s1 a1 n1 c1 z1)(h2:IntAt w k2 s2 a2 n2 c2 z2)(l1:k1<=268435456):Calls prog 48 #[.agg #[.bool s1,.slice a1 n1 c1],.agg #[.bool s2,.slice a2 n2 c2]] w (RVal w (.bool (decide (z1=z2)))):=by
  obtain⟨W,hW,b2,b3,E'⟩:=st20 w s1 s2 a1 a2 n1 n2 c1 c2;have E:=hid E';obtain⟨m1,g1,t1,e1⟩:=h1;obtain⟨m2,g2,t2,e2⟩:=h2;have HS:=hid (same_sign s1 s2 m1 m2 z1 z2 e1 e2 (λh=>t1 (g1.zero.1 h)) (λh=>t2 (g2.zero.1 h)));have HC:=hid (rsize_c W a1 a2 n1 n2 c1 c2 k1 k2 m1 m2 (g1.ext E') (g2.ext E') ze);clear g1 g2 t1 t2 e1 e2 E';obtain⟨r,hr⟩:∃r,r=decide (z1=z2):=⟨_,rfl⟩;rw[<-hr];have Hr:=hid hr;clear hr;have F1:=b2.c0;have F2:=b2.c1;have F3:=b2.f0;have F4:=b2.f1;have G1:=b3.c0;have G2:=b3.c1;have G3:=b3.f0;have G4:=b3.f1;by_cases hs:s1=s2
  · subst hs
    by_cases hm:m1=m2
    · have hr1:=hid (show r=true by rw[Hr.out];simpa using HS.out.2 ⟨rfl,hm⟩)
      have hc:cmpI (m1:Int) (m2:Int)=0:=cmpI_eq (by rw[hm]);rw[hc]at HC;clear hc hm;exact tRow_2
    · have hr1:=hid (show r=false by rw[Hr.out];simp only[zM];exact λh=>hm (HS.out.1 h).2)
      have hc:((cmpI (m1:Int) (m2:Int))==0)=false:=by
        rw[zJ];rcases Nat.lt_or_gt_of_ne hm with h|h
        ·rw[cmpI_lt (by omega)];decide
        ·rw[cmpI_gt (by omega)];decide
      obtain⟨c,hcc⟩:∃c,c=cmpI (m1:Int) (m2:Int):=⟨_,rfl⟩;rw[<-hcc]at HC hc;clear hm hcc;exact tRow_2
  · have hr1:=hid (show r=false by rw[Hr.out];simp only[zM];exact λh=>hs (HS.out.1 h).1)
    have hb:(s1==s2)=false:=by simpa using hs
    clear hs;go_enter func48,ntmps48;go_wp2_with fail;rw[<-hW];clear hW;go_wp2_with fail
    go_ret
    exact⟨by rw[hr1.out];rfl,E.out⟩
theorem Same_f{k1 k2:Nat}{z1 z2:Int}{x y:Value}{w:World}(hx:IsI k1 z1 x w)(hy:IsI k2 z2 y w)(l1:k1<=268435456):Calls prog 48 #[x,y] w (Ret w (IsV (.bool (decide (z1=z2))))):=by
  obtain⟨s,a,n,c,rfl,h1⟩:=hx;obtain⟨s',a',n',c',rfl,h2⟩:=hy;exact zG (Same_c w s s' a a' n n' c c' k1 k2 z1 z2 h1 h2 l1) λ_ _ h=>h.ret
theorem tRow_1{P:Prop}(h:P:=by
  rintro e w2 ⟨s3,a3,n3,c3,rfl,e2,h3'⟩;have KF:=(K0.after ((Ext.refl W).alloc _)).after e2;obtain⟨⟨_,r0,_⟩,f0⟩:=Kp.res KF 0 2 zo 0 ze;obtain⟨⟨_,r1,_⟩,f1⟩:=Kp.res KF 0 2 zo 1 ze;simp only[Nat.add_zero]at r0 r1 f0 f1;have h3:=h3';clear hR K0 h2;go_wp2_with fail;refine zH (v:=.agg #[.bool s3,.slice a3 n3 c3]) (by simp[results,results31,go_sem,r0,r1]) rfl (Kp.fin KF 0 zo zo h3)
  ):P:=h
theorem ROf_c(w:World)(n:Int)(h0: -9223372036854775808<=n)(h1:n<=9223372036854775807):Calls prog 31 #[.int .i64 n] w (RInt w 2 n):=by
  obtain⟨v,hv⟩:∃v:Nat,v=n.natAbs:=⟨_,rfl⟩;obtain⟨a,ha⟩:∃a:Nat,a=v%4294967296:=⟨_,rfl⟩;obtain⟨b,hb⟩:∃b:Nat,b=v/4294967296:=⟨_,rfl⟩;have Hz:=hid (of_val n v a b hv ha hb);have h2:(v:Int)%4294967296=(a:Int):=ze
  have h3:(v:Int)/4294967296=(b:Int):=ze
  have hal:a<4294967296:=ze
  have hbl:b<4294967296:=ze
  obtain⟨W,hW⟩:∃W,W=w.alloc (.cells #[.bool false,.slice none 0 0] 29):=⟨_,rfl⟩;have hwd:=wd_new2 W a b hal hbl;have hWs:W.heap.size=w.heap.size+1:=by rw[hW];simp
  rw[hWs]at hwd;have hR:=hid (λ(s:Bool) (hs:decide (n<0)=s)=>rmade_c (W.alloc (.cells #[.int .u32 (a:Nat),.int .u32 (b:Nat)] 97)) s _ 2 2 [a,b] n hwd (by rw[<-hs];exact Hz.out));clear hwd
  have K0:Kp w W [] [(0,2)]:=hW▸(Kp.start w).out 0 rfl [.bool false,.slice none 0 0] 29 (by
    intro v hv;simp at hv;rcases hv with rfl|rfl
    ·exact NoWord.bool _
    ·exact NoWord.slice _ _ _)
  have w1:IntKind.u64.wrap (-(IntKind.u64.wrap n))=if n<0 then(v:Int)else IntKind.u64.wrap (-(IntKind.u64.wrap n)):=by
    split
    ·simp only[IntKind.wrap_u64];omega
    ·rfl
  have w2:0<=n->IntKind.u64.wrap n=(v:Int):=λh=>by simp only[IntKind.wrap_u64];omega
  clear hv ha hb Hz hWs;by_cases hn:n<0
  · rw[if_pos hn]at w1
    clear w2;go_enter func31,ntmps31;go_wp2_with fail;rw[<-hW];clear hW w1;refine zG (hR.out true (by simp[hn])) ?_;exact tRow_1
  · have w2:=w2 ze
    clear w1;go_enter func31,ntmps31;go_wp2_with fail;rw[<-hW];clear hW w2;refine zG (hR.out false (by simp[hn])) ?_;exact tRow_1
theorem ROf_f(w:World)(n:Int)(h0: -9223372036854775808<=n)(h1:n<=9223372036854775807):Calls prog 31 #[.int .i64 n] w (Ret w (IsI 2 n)):=
  zG (ROf_c w n h0 h1) λ_ _ h=>h.ret
def IsW(xs:List Nat):Value->World->Prop:=λx w=>∃a n c,x=.slice a n c/\Wd w a n c xs
theorem IsW.stb(xs:List Nat):Stb (IsW xs):=λ_ _ _ e ⟨a,n,c,h1,h2⟩=>⟨a,n,c,h1,h2.ext e⟩
instance (xs:List Nat):StbC (IsW xs):=⟨IsW.stb xs⟩
def padk(k r:Nat):List UInt8:=List.replicate (k-(Lib.decDigits r).length) 48++Lib.decDigits r
theorem zD{r:Nat}(h:r<10):Lib.decDigits r= [UInt8.ofNat (48+r)]:=by rw[Lib.decDigits,dif_pos h]
theorem dec_big{r:Nat}(h:¬r<10):Lib.decDigits r=Lib.decDigits (r/10)++ [UInt8.ofNat (48+r%10)]:=by rw[Lib.decDigits,dif_neg h]
theorem padk_succ(k r:Nat)(hk:1<=k):padk k (r/10)++ [UInt8.ofNat (48+r%10)]=padk (k+1) r:=by
  unfold padk;by_cases h:r<10
  · have h0:r/10=0:=by omega
    rw[h0,zD (show 0<10 by decide),zD h,Nat.mod_eq_of_lt h];simp only[List.length_cons,List.length_nil];obtain⟨j,rfl⟩:∃j,k=j+1:=⟨k-1,by omega⟩;rw[show j+1-(0+1)=j from by omega,show j+1+1-(0+1)=j+1 from by omega,List.replicate_succ'];rfl
  · rw[dec_big h]
    simp only[zQ,List.length_cons,List.length_nil];rw[show k+1-((Lib.decDigits (r/10)).length+(0+1))=k-(Lib.decDigits (r/10)).length from by omega,List.append_assoc]
theorem dec_split(q:Nat)(hq:0<q):∀(k r:Nat),r<10^(k+1)->Lib.decDigits (q*10^(k+1)+r)=Lib.decDigits q++padk (k+1) r
  | 0,r,h=>by
    have h1:r<10:=zad
    rw[dec_big (by omega),show(q*10^(0+1)+r)/10=q from by omega,show(q*10^(0+1)+r)%10=r from by omega];unfold padk;rw[zD h1];rfl
  | k+1,r,h=>by
    have hp:1<=10^(k+1):=Nat.one_le_pow _ _ dcx
    have h1:10<=q*10^(k+1+1):=by
      have:=Nat.mul_le_mul hq hp;rw[Nat.pow_succ 10 (k+1),<-Nat.mul_assoc];omega
    have hr:r/10<10^(k+1):=by rw[Nat.pow_succ]at h;omega
    have e:q*10^(k+1+1)=10*(q*10^(k+1)):=by rw[Nat.pow_succ];grind
    rw [dec_big (by omega),show(q*10^(k+1+1)+r)/10=q*10^(k+1)+r/10 from by omega,show(q*10^(k+1+1)+r)%10=r%10 from by omega,
      dec_split q hq k (r/10) hr,List.append_assoc,padk_succ (k+1) r ze]
def textS(z:Int):List UInt8:=if 1300<(Lib.itoa z).length then []else Lib.itoa z
def textE(z:Int):Int:=if 1300<(Lib.itoa z).length then 2 else 0
theorem itoa_parts(s:Bool)(m:Nat)(z:Int)(h:z=if s then -(m:Int)else m)(t:m=0->s=false):Lib.itoa z=(if s then [45]else [])++Lib.decDigits m:=by
  cases s
  ·simp at h;rw[h,Lib.itoa_nonneg];simp
  ·simp at h t;rw[h,Lib.itoa_neg m (by omega)];simp
def RowOf(e:TypeId)(ok:Value->Prop)(w:World)(base:Nat)(v:Value)(xs:List Value):Prop:=
  (v=.slice none 0 0/\xs= [])\/
  ∃ (g cap:Nat) (cur:Array Value),v=.slice (some ⟨g,0,none⟩) xs.length cap/\base<=g/\w.heap[g]? =some (.cells cur e (0,0))/\xs.length<=cap/\cap<=9223372036854775807/\cur.size=cap/\cur.toList.take xs.length=xs/\
    (∀(j:Nat) (u:Value),cur[j]? =some u->ok u)
theorem RowOf.nil(e:TypeId)(ok:Value->Prop)(w:World)(base:Nat):RowOf e ok w base (.slice none 0 0) []:=.inl ⟨rfl,rfl⟩
theorem RowOf.ext{e:TypeId}{ok:Value->Prop}{w w':World}{base:Nat}{v:Value}{xs:List Value}(h:RowOf e ok w base v xs)(k:Ext w w'):RowOf e ok w' base v xs:=by
  rcases h with h| ⟨g,cap,cur,h1,h2,h3,h4⟩
  ·exact .inl h
  ·exact .inr ⟨g,cap,cur,h1,h2,k.heap h3,h4⟩
theorem RowOf.shape{e:TypeId}{ok:Value->Prop}{w:World}{base:Nat}{v:Value}{xs:List Value}(h:RowOf e ok w base v xs):∃ao cap,v=.slice ao xs.length cap/\(xs≠ []->∃g,ao=some ⟨g,0,none⟩/\base<=g/\g<w.heap.size)/\xs.length<=cap/\cap<=9223372036854775807:=by
  rcases h with⟨rfl,rfl⟩| ⟨g,cap,cur,h1,h2,h3,h4,h5,_⟩
  ·exact⟨none,0,rfl,λh=>absurd rfl h,by simp,by omega⟩
  ·exact⟨_,cap,h1,λ_=>⟨g,rfl,h2,heap_lt h3⟩,h4,h5⟩
theorem RowOf.cell{e:TypeId}{ok:Value->Prop}{w:World}{base:Nat}{xs:List Value}{g n cap:Nat}(h:RowOf e ok w base (.slice (some ⟨g,0,none⟩) n cap) xs)(j:Nat)(u:Value)(hj:xs[j]? =some u):w.cell? ⟨g,j,none⟩=some u:=by
  rcases h with⟨h,rfl⟩| ⟨g',cap',cur,h1,h2,h3,h4,h5,h6,h7,h8⟩
  ·simp at hj
  · simp only[Value.slice.injEq,Option.some.injEq,Addr.mk.injEq,and_true]at h1
    obtain⟨rfl,rfl,rfl⟩:=h1;have hjl:j<xs.length:=(List.getElem?_eq_some_iff.1 hj).1;simp only[World.cell?];rw[h3];show cur[j]? =some u;rw[<-h7,List.getElem?_take]at hj;rw[if_pos hjl]at hj
    simpa using hj
theorem RowOf.free{e:TypeId}{ok:Value->Prop}{w:World}{base:Nat}{xs:List Value}{g n cap:Nat}(h:RowOf e ok w base (.slice (some ⟨g,0,none⟩) n cap) xs)(j:Nat):w.frozen? ⟨g,j,none⟩=false:=by
  rcases h with⟨h,rfl⟩| ⟨g',cap',cur,h1,h2,h3,h4,h5,h6,h7,h8⟩
  ·cases h
  · simp only[Value.slice.injEq,Option.some.injEq,Addr.mk.injEq,and_true]at h1
    obtain⟨rfl,rfl,rfl⟩:=h1;simp only[World.frozen?];rw[h3];simp
theorem Below.ext{base:Nat}{w0 w w':World}(e:Ext w0 w)(h:Below base w w')(hb:w0.heap.size<=base):Ext w0 w':=Below.trans e (Below.mono h hb)
theorem Below.bx{base:Nat}{w w':World}(h:Below base w w'){g n c:Nat}{s:Bool}{a:Option Addr}(hg:g<base)(b:Bx w g s a n c):Bx w' g s a n c:=by
  have hc:∀j,w'.cell? ⟨g,j,none⟩=w.cell? ⟨g,j,none⟩:=λj=>by simp only[World.cell?];rw[h.block g hg]
  have hf:∀j,w'.frozen? ⟨g,j,none⟩=w.frozen? ⟨g,j,none⟩:=λj=>by simp only[World.frozen?];rw[h.block g hg]
  exact⟨by rw[hc];exact b.c0,by rw[hc];exact b.c1,by rw[hf];exact b.f0,by rw[hf];exact b.f1⟩
theorem jL(z:Value)(n:Nat):(Builtin.zeroCells #[z] n).toList=List.replicate n z:=by
  simp only[Builtin.zeroCells,Array.toList_map,Array.toList_range];apply List.ext_getElem
  ·simp
  ·intro i h1 h2;simp[Nat.mod_one]
theorem row_append{P:Program}(w:World)(t ty e:TypeId)(ok:Value->Prop)(z:Value)(bytes:Nat)(hu:P.underlying t=some (.slice e))(hinfo:(P.info? e).map (λi=>(i.zero,i.size,i.bytes))=some (some z,1,bytes))(hz:z.cells= #[z])(hzo:ok z)
    (base:Nat) (v:Value) (xs:List Value) (hr:RowOf e ok w base v xs) (b c1:Nat) (u:Value) (hc:w.cell? ⟨b,0,none⟩=some u) (h1:u.oneCell'=true) (huo:ok u) (hlen:(xs.length+1)*bytes<=140737488355328) (hl2:xs.length+1<=140737488355328) (hbase:base<=w.heap.size):
    ∃v' w',(Builtin.append_ #[t,t] ty #[v,.slice (some ⟨b,0,none⟩) 1 c1]).run P w=.ok v' w'/\RowOf e ok w' base v' (xs++ [u])/\Below base w w'/\((∀x,ok x->NoWord x)->Gr w w'):=by
  obtain⟨i,hi,hz0,hz1,hz2⟩:=info_parts hinfo
  have hsrc:Src P i.size t (.slice (some ⟨b,0,none⟩) 1 c1) 1 [u] w:=
    Src.ofSlice w hu _ 1 c1 [u] (by rw[hz1];rfl) (λj y hj=>by
      cases j with
      |zero=>simp at hj;subst hj;simpa [Addr.add]using hc
      |succ j=>simp at hj) (λy hy=>by simp at hy;subst hy;exact h1)
  have grow:∀(ao:Option Addr) (n cap:Nat) (olds:List Value),n=xs.length->olds=xs->cap<n+1->(Builtin.firstCells i.size n (.slice ao n cap)).run P w.drew=.ok olds.toArray w.drew->
      ∃v' w',(Builtin.append_ #[t,t] ty #[.slice ao n cap,.slice (some ⟨b,0,none⟩) 1 c1]).run P w=.ok v' w'/\RowOf e ok w' base v' (xs++ [u])/\Below base w w'/\((∀x,ok x->NoWord x)->Gr w w')\/¬(∀x∈xs,ok x):=by
    intro ao n cap olds hn ho hcap hold;subst hn ho;by_cases hok:∀x∈olds,ok x
    · have hge:=grownCap_ge w (olds.length+1) cap e
      have hle:=grownCap_le_maxLen w (olds.length+1) cap e (by unfold maxLen;omega);have hrun:=run_append_grow_src w t t ty e i z hu hi hz0 ao olds.length cap olds hold (.slice (some ⟨b,0,none⟩) 1 c1) 1 [u] hsrc hcap ze (growslice_fits hcap (by rw[hz2];exact hlen));refine⟨_,_,.inl ⟨hrun,.inr ⟨w.heap.size,_,_,by rw[zQ];rfl,hbase,heap_alloc_new w.drew _,?_,?_,?_,?_,?_⟩,?_,?_⟩⟩
      ·rw[zQ];simpa using hge
      ·unfold maxLen at hle;omega
      · rw[Array.size_append]
        simp only[List.size_toArray,zQ,List.length_cons,List.length_nil,size_zeroCells,hz];simp;omega
      ·rw[Array.toList_append];exact List.take_left
      · intro j y hj
        rw[hz]at hj;have hmem:=List.mem_of_getElem? (by rw[Array.getElem?_toList];exact hj);rw[Array.toList_append,jL]at hmem;rcases List.mem_append.1 hmem with h|h
        · have h9:y∈olds\/y=u:=by simpa using h
          rcases h9 with h9|h9
          ·exact hok y h9
          ·rw[h9];exact huo
        ·rw[(List.mem_replicate.1 h).2];exact hzo
      ·exact Below.mono ((Ext.refl w).drew.alloc _) hbase
      ·exact λ_=>((Ext.refl w).drew.alloc _).gr
    ·exact⟨.slice none 0 0,w,.inr hok⟩
  rcases hr with⟨rfl,rfl⟩| ⟨g,cap,cur,rfl,h2,h3,h4,h5,h6,h7,h8⟩
  · obtain⟨v',w',h|h⟩:=grow none 0 0 [] rfl rfl ze (run_firstCells_none w.drew i.size 0 0 0)
    ·exact⟨v',w',h⟩
    ·exact absurd (λ_ h=>by cases h) h
  · have hcells:∀j y,xs[j]? =some y->w.cell? ⟨g,j,none⟩=some y:=λj y hj=>(RowOf.cell (e:=e) (ok:=ok) (base:=base) (.inr ⟨g,cap,cur,rfl,h2,h3,h4,h5,h6,h7,h8⟩) j y hj)
    have hxok:∀x∈xs,ok x:=λx hx=>by
      rw[<-h7]at hx;obtain⟨j,hj⟩:=List.mem_iff_getElem?.1 (List.mem_of_mem_take hx);exact h8 j x ja
    by_cases hroom:xs.length+1<=cap
    · have hfz:∀j,w.frozen? ⟨g,j,none⟩=false:=λj=>by simp only[World.frozen?];rw[h3];simp
      obtain⟨y0,hy0⟩:∃y,cur[xs.length]? =some y:=⟨cur[xs.length]'ze,by simp⟩;have hyc:w.cell? ⟨g,xs.length,none⟩=some y0:=by simp only[World.cell?];rw[h3];simpa using hy0
      have hrun:=run_append_room_src w t t ty e i hu hi g 0 xs.length cap (.slice (some ⟨b,0,none⟩) 1 c1) 1 [u] hsrc hroom
        (fun j hj=>by
          have:j=0:=ja
          subst this;rw[hz1];simp[hyc]) (λj _=>hfz _)
      rw[hz1]at hrun;simp only[Nat.mul_one,Nat.zero_add,World.setCells]at hrun;refine⟨_,_,hrun,.inr ⟨g,cap,cur.setIfInBounds xs.length u,by rw[zQ];rfl,h2,?_,by rw[zQ];simpa using hroom,h5,by simpa using h6,?_,?_⟩,?_,?_⟩
      · simp only[World.setCell,Array.getElem?_modify,if_true]
        rw[h3];simp
      · rw[zQ,List.length_cons,List.length_nil,Nat.zero_add,Array.toList_setIfInBounds,List.take_add_one,List.take_set_of_le (zN _),h7]
        rw[List.getElem?_set_self (by simp;omega)];rfl
      · intro j y hj
        rw[Array.getElem?_setIfInBounds]at hj
        split at hj
        · split at hj
          ·cases hj;exact huo
          ·cases hj
        ·exact h8 j y hj
      ·exact Below.setCell (Below.refl base w) h2 u
      ·exact λhnw=>(Gr.refl w).set (p:=⟨g,xs.length,none⟩) hyc (hnw _ (h8 _ _ hy0)) u
    · obtain⟨v',w',h|h⟩:=grow (some ⟨g,0,none⟩) xs.length cap xs rfl rfl ze (run_firstCells_some w.drew i.size xs.length ⟨g,0,none⟩ xs.length cap xs (by rw[hz1,Nat.mul_one]) (λj y hj=>by
        have:=hcells j y hj;by_cases hj0:j=0
        ·subst hj0;simpa [Addr.add]using this
        ·simpa [Addr.add,hj0]using this))
      ·exact⟨v',w',h⟩
      ·exact absurd hxok h
theorem wpl_row{P:Program}{w:World}{ops:Array Oper}{rest:List Oper}{o:Oper}{a:Act}{Q:Exit->Act->World->Prop}(hgd:o.guard=none)(s x:Operand)(t e:TypeId)
    (ho:o.op=.call {callee:=.builtin .append,args:= #[s,x],argTypes:= #[t,t]}) (ok:Value->Prop) (z:Value) (bytes:Nat) (hu:P.underlying t=some (.slice e)) (hinfo:(P.info? e).map (λi=>(i.zero,i.size,i.bytes))=some (some z,1,bytes)) (hz:z.cells= #[z]) (hzo:ok z)
    (base:Nat) (v:Value) (xs:List Value) (hs:a.eval s=v) (hr:RowOf e ok w base v xs) (b c1:Nat) (u:Value) (hx:a.eval x=.slice (some ⟨b,0,none⟩) 1 c1) (hc:w.cell? ⟨b,0,none⟩=some u) (h1:u.oneCell'=true) (huo:ok u) (hlen:(xs.length+1)*bytes<=140737488355328) (hl2:xs.length+1<=140737488355328) (hbase:base<=w.heap.size)
    (hK:∀v' w',RowOf e ok w' base v' (xs++ [u])->Below base w w'->((∀x,ok x->NoWord x)->Gr w w')->wpList P ops Q rest (a.put o.dst v') w'):wpList P ops Q (o ::rest) a w:=by
  obtain⟨v',w',hrun,h2,h3,h4⟩:=row_append w t o.type e ok z bytes hu hinfo hz hzo base v xs hr b c1 u hc h1 huo hlen hl2 hbase;refine wpList_plain hgd λK hK'=>?_
  unfold Oper.wp;simp[execOp,ho,resolve,invoke,builtin,hs,hx,hrun,Result.andThen];exact hK' _ _ (hK v' w' h2 h3 h4)
end Go.Proofs.YtenhciieboegbaaGreatDoor
