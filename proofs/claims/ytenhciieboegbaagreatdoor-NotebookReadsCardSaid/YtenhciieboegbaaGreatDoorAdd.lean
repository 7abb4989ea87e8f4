/-
  The sum of two naturals in package integer, word by word. At most 2^30 words each. The difference of two naturals in package integer, word by word, the second not greater. At most 2^30 words each. The product of two naturals in package integer, word by word. At most 2^29 words each.
-/
import Derived.Test.YtenhciieboegbaaGreatDoorBase
namespace Go.Proofs.YtenhciieboegbaaGreatDoor
open Go Go.RowKit
open Go.Proofs.Tryz
abbrev zK:=@Nat.eq_zero_or_pos
set_option maxRecDepth 100000
set_option maxHeartbeats 1000000
def AddInv(w0:World)(g N:Nat)(A B:List Nat)(k c:Nat)(wr:World):Prop:=
  ∃ys,Own wr g ys/\ys.length=N/\(∀i,ys.getD i 0<4294967296)/\pv ys k+4294967296^k*c=pv A k+pv B k/\(∀i,k<=i->ys.getD i 0=A.getD i 0)/\Ext w0 wr
theorem AddInv.step{w0:World}{g N:Nat}{A B:List Nat}{k c:Nat}{wr:World}(h:AddInv w0 g N A B k c wr)(hk:k<N)(hg:w0.heap.size<=g):
    AddInv w0 g N A B (k+1) ((A.getD k 0+B.getD k 0+c)/4294967296) (wr.setCell ⟨g,k,none⟩ (.int .u32 (((A.getD k 0+B.getD k 0+c)%4294967296:Nat):Int))):=by
  obtain⟨ys,h1,h2,h3,h4,h5,h6⟩:=h;refine⟨ys.set k ((A.getD k 0+B.getD k 0+c)%4294967296),h1.set _ _,by simpa using h2,λi=>?_,?_,λi hi=>?_,h6.set hg _⟩
  · rw[jH _ _ _ _ (by omega)];split
    ·omega
    ·exact h3 i
  · rw[pv,pv,pv,pv_set _ _ _ (by omega),jH _ _ _ _ (by omega),if_pos rfl]
    exact add_step _ _ _ k _ _ c _ _ h4 rfl rfl
  ·rw[jH _ _ _ _ (by omega),if_neg (by omega)];exact h5 i ze
theorem AddInv.start{w0 wr:World}{g n:Nat}{xs B:List Nat}(h:Own wr g (xs++(List.replicate (n+1) 0).drop n))(hl:xs.length=n)(hx:∀i,xs.getD i 0<4294967296)(he:Ext w0 wr):
    AddInv w0 g (n+1) xs B 0 0 wr:=by
  refine⟨_,h,by simp;omega,λi=>?_,by simp[pv],λi _=>?_,he⟩
  · rw[getD_append];split
    ·exact hx i
    ·rw[getD_drop_zeros];omega
  · rw[getD_append];split
    ·rfl
    ·rw[getD_drop_zeros,getD_big _ _ (by omega)]
theorem add_fin0(P p q a b c:Nat)(h:P+q*c=a+b)(ha:a<p)(hb:b<p)(hq:2*p<=q):P=a+b:=by
  rcases zK c with hc|hc
  ·rw[hc,Nat.mul_zero,Nat.add_zero]at h;exact h
  · have:=Nat.le_mul_of_pos_right q hc
    omega
theorem add_fin(P p a b c:Nat)(h:P+p*4294967296*c=a+b)(ha:a<p)(hb:b<p):P=a+b:=
  add_fin0 P p _ a b c h ha hb ze
theorem AddInv.cell{w0 wr:World}{g N k c:Nat}{A B:List Nat}(h:AddInv w0 g N A B k c wr)(hk:k<N):
    wr.cell? ⟨g,k,none⟩=some (.int .u32 ((A.getD k 0:Nat):Int))/\wr.frozen? ⟨g,k,none⟩=false/\Ext w0 wr:=by
  obtain⟨ys,h1,h2,h3,h4,h5,h6⟩:=h;exact⟨by rw[<-h5 k (zN _)];exact h1.cell k ze,h1.free k,h6⟩
theorem AddInv.fin{w0 wr:World}{g n c:Nat}{A B:List Nat}(h:AddInv w0 g (n+1) A B (n+1) c wr)(hA:∀i,A.getD i 0<4294967296)(hB:∀i,B.getD i 0<4294967296)
    (hlA:A.length=n) (hlB:B.length<=n) (hn:n<=1073741824):
    ∃ys,Wd wr (some ⟨g,0,none⟩) (n+1) (n+1) ys/\qF ys=qF A+qF B/\Ext w0 wr:=by
  obtain⟨ys,h1,h2,h3,h4,h5,h6⟩:=h;have b0:n+1<=140737488355328:=by clear h4;omega
  have hw:=h1.wd h3 (n+1) (Nat.le_of_eq h2) b0;rw[h2]at hw;refine⟨ys,hw,?_,h6⟩;have l1:B.length<=n+1:=Nat.le_succ_of_le hlB;rw[zA ys _ (Nat.le_of_eq h2),zA A _ (by rw[hlA];exact Nat.le_succ n),zA B _ l1,Nat.pow_succ]at h4;have a1:=natVal_lt A hA;have b1:=pv_lt B hB n;rw[zA B _ hlB]at b1;rw[hlA]at a1;exact add_fin _ _ _ _ _ h4 a1 b1
theorem tAdd_1{P:Prop}(h:P:=by
  clear hinv;go_wp2_with (go_at_call 162;refine(trim_c _ _ _ _ _ hz1).mono ?_;rintro e w3 ⟨ao,n,cap,rfl,he,hn⟩)
  go_ret
  exact⟨ao,n,cap,rfl,hz3.trans he,hz2.out▸hn⟩
  ):P:=h
theorem add_wd (w:World)(a1 a2:Option Addr)(n1 n2 c1 c2:Nat)(xs ys:List Nat)(h1:Wd w a1 n1 c1 xs)(h2:Wd w a2 n2 c2 ys)(s1:n1<=1073741824)(s2:n2<=1073741824):
    Calls prog 165 #[.slice a1 n1 c1,.slice a2 n2 c2] w (RNat w (max n1 n2+1) (qF xs+qF ys)):=by
  have key:∀ (aB aS:Option Addr) (nB nS cB cS:Nat) (B S:List Nat) (hB:Wd w aB nB cB B) (hS:Wd w aS nS cS S) (hle:nS<=nB),
      (aB=a1/\nB=n1/\cB=c1/\B=xs/\aS=a2/\nS=n2/\cS=c2/\S=ys/\¬n1<n2)\/(aB=a2/\nB=n2/\cB=c2/\B=ys/\aS=a1/\nS=n1/\cS=c1/\S=xs/\n1<n2)->
      Calls prog 165 #[.slice a1 n1 c1,.slice a2 n2 c2] w (RNat w (nB+1) (qF B+qF S)):=by
    intro aB aS nB nS cB cS B S hB hS hle hor;have hlB:=hB.len;have hlS:=hS.len;have HB:=hid hB.lt;have HS:=hid hS.lt;have HlB:=hid hlB;have HlS:=hid hlS;have sB:nB<=1073741824:=ze
    clear hlB hlS;rcases hor with⟨rfl,rfl,rfl,rfl,rfl,rfl,rfl,rfl,hlt⟩| ⟨rfl,rfl,rfl,rfl,rfl,rfl,rfl,rfl,hlt⟩
    all_goals
      have HWB:=hid hB;have HWS:=hid hS;have hsh:=hS.shape;clear h1 h2 hB hS s1 s2;rcases hsh with hsh| ⟨b,off,rfl,hb⟩
    all_goals
      go_enter func165,ntmps165
      go_wp2_with (first
        | (at_make;refine wpl_make rfl _ _ _ rfl underlying165 _ _ (nB+1) rfl rfl ze ze ze ?_;intro w1 e1 z1 o1)
        | (with_reducible refine wpl_copy w rfl _ _ _ _ rfl underlying165 _ _ _ _ _ rfl rfl _ _ o1 zo (HWB.out.ext e1) ze e1 (zN _) ?_;intro w2 o2 e2))
      have I0:=hid (AddInv.start (B:=S) o2 HlB.out HB.out e2);clear o2 o1 e1 z1 e2
      go_loopw [6,25] (λc i wr=>∃k cc:Nat,k<=nB+1/\cc<=1/\i=.int .i64 k/\c=.int .u32 cc/\Hid (AddInv w w.heap.size (nB+1) B S k cc wr)) (λ_ i _=>nB+1-(intOf i).toNat)
      case atStart=>exact⟨0,0,by omega,by omega,rfl,rfl,I0⟩
      case round=>
        clear I0;obtain⟨k,cc,hk,hcc,rfl,rfl,hinv⟩:=hrel;by_cases hk1:k<nB+1
        · have hst:=hid (hinv.out.step hk1 (zN _))
          obtain⟨hc1,hf1,hext⟩:=hinv.out.cell hk1;have hxl:=HB.out k;have hyl:=HS.out k;have hyz:nS<=k->S.getD k 0=0:=λh=>getD_big _ _ (by rw[HlS.out];exact h)
          by_cases hs:k<nS
          · first
              | (exfalso;omega)
              | (have hcS:=(HWS.out.ext hext).cell k hs
                 clear hinv hyz;generalize B.getD k 0=x at*;generalize S.getD k 0=y at*;have hcc':(x+y+cc)/4294967296<=1:=ze
                 go_wp2_with (go_at_call 186;refine(add32_c x y cc hxl hyl hcc _).mono ?_;rintro e w' ⟨rfl,rfl⟩)
                 go_roundw
                 case rel=>exact⟨k+1,_,by omega,hcc',by go_num,rfl,hst⟩
                 case measure=>simp[intOf];omega)
          · have hy0:=hyz ze
            clear hinv hyz;generalize B.getD k 0=x at*;generalize S.getD k 0=y at*;subst hy0;have hcc':(x+0+cc)/4294967296<=1:=ze
            go_wp2_with (go_at_call 186;refine(add32_c x 0 cc hxl hyl hcc _).mono ?_;rintro e w' ⟨rfl,rfl⟩)
            go_roundw
            case rel=>exact⟨k+1,_,by omega,hcc',by go_num,rfl,hst⟩
            case measure=>simp[intOf];omega
        · obtain rfl:k=nB+1:=by omega
          obtain⟨zs,hz1,hz2,hz3⟩:=hinv.out.fin HB.out HS.out HlB.out (by rw[HlS.out];exact hle) sB;have hz2:=hid hz2;exact tAdd_1
  rcases zR n1 n2 with h|h
  · have:=key a2 a1 n2 n1 c2 c1 ys xs h2 h1 ze (.inr ⟨rfl,rfl,rfl,rfl,rfl,rfl,rfl,rfl,h⟩)
    rw[Nat.add_comm (qF xs),Nat.max_eq_right (Nat.le_of_lt h)];exact this
  · have:=key a1 a2 n1 n2 c1 c2 xs ys h1 h2 h (.inl ⟨rfl,rfl,rfl,rfl,rfl,rfl,rfl,rfl,by omega⟩)
    rw[Nat.max_eq_left h];exact this
theorem add_c(w:World)(a1 a2:Option Addr)(n1 n2 c1 c2 k1 k2 x y:Nat)(h1:NatAt w k1 a1 n1 c1 x)(h2:NatAt w k2 a2 n2 c2 y)(s1:k1<=1073741824)(s2:k2<=1073741824):
    Calls prog 165 #[.slice a1 n1 c1,.slice a2 n2 c2] w (RNat w (max k1 k2+1) (x+y)):=by
  obtain⟨xs,h1,l1,_,rfl⟩:=h1;obtain⟨ys,h2,l2,_,rfl⟩:=h2;refine(add_wd w a1 a2 n1 n2 c1 c2 xs ys h1 h2 ze ze).mono ?_;rintro e w' ⟨ao,n,cap,he,hx,hn⟩;exact⟨ao,n,cap,he,hx,hn.mono ze⟩
theorem jR(xs:List Nat)(h:0<xs.length)(hz:xs.getD (xs.length-1) 0≠0):4294967296^(xs.length-1)<=qF xs:=by
  have e:=zA xs xs.length (zN _);obtain⟨n,hn⟩:∃n,xs.length=n+1:=⟨xs.length-1,by omega⟩;rw[hn]at e hz ⊢;simp only[Nat.add_sub_cancel]at hz ⊢;rw[pv]at e;have:=Nat.le_mul_of_pos_right (4294967296^n) (Nat.pos_of_ne_zero hz);omega
def MulInv(w0:World)(g N z e r:Nat)(wr:World):Prop:=
  ∃ys,Own wr g ys/\ys.length=N/\(∀i,ys.getD i 0<4294967296)/\qF ys+e=r/\(∀i,z<=i->ys.getD i 0=0)/\Ext w0 wr
theorem MulInv.cell{w0 wr:World}{g N z e r:Nat}(h:MulInv w0 g N z e r wr)(j:Nat)(hj:j<N):
    ∃ o,wr.cell? ⟨g,j,none⟩=some (.int .u32 (o:Nat))/\o<4294967296/\(z<=j->o=0)/\wr.frozen? ⟨g,j,none⟩=false/\Ext w0 wr/\
      ∀y z' e' r',y<4294967296->w0.heap.size<=g->z<=z'->j<z'->r+4294967296^j*y+e'=r'+e+4294967296^j*o->MulInv w0 g N z' e' r' (wr.setCell ⟨g,j,none⟩ (.int .u32 (y:Nat))):=by
  obtain⟨ys,h1,h2,h3,h4,h5,h6⟩:=h;refine⟨ys.getD j 0,h1.cell j ze,h3 j,h5 j,h1.free j,h6,λy z' e' r' hy hg hz hz' hu=>?_⟩;refine⟨ys.set j y,h1.set _ _,by simpa using h2,λi=>?_,?_,λi hi=>?_,h6.set hg _⟩
  · rw[jH _ _ _ _ (by omega)];split
    ·exact hy
    ·exact h3 i
  · have:=natVal_set ys j y ze
    generalize 4294967296^j*ys.getD j 0=p at*;generalize 4294967296^j*y=q at*;omega
  ·rw[jH _ _ _ _ (by omega),if_neg (by omega)];exact h5 i ze
theorem MulInv.start{w0 wr:World}{g n:Nat}(h:Own wr g (List.replicate n 0))(he:Ext w0 wr)(z:Nat):MulInv w0 g n z 0 0 wr:=
  ⟨_,h,by simp,λi=>by rw[getD_zeros];omega,by rw[natVal_zeros],λi _=>getD_zeros _ _,he⟩
theorem MulInv.inner{w0 wr:World}{g n1 n2 x i:Nat}{A B:List Nat}(h:MulInv w0 g (n1+n2) (i+n2) 0 (pv A i*qF B) wr):MulInv w0 g (n1+n2) (i+n2) (4294967296^(i+0)*0) (pv A i*qF B+4294967296^i*x*pv B 0) wr:=by
  simpa [pv]using h
theorem MulInv.fin{w0 wr:World}{g N z r:Nat}(h:MulInv w0 g N z 0 r wr)(hN:N<=140737488355328):
    ∃ys,Wd wr (some ⟨g,0,none⟩) N N ys/\qF ys=r/\Ext w0 wr:=by
  obtain⟨ys,h1,h2,h3,h4,h5,h6⟩:=h;have hw:=h1.wd h3 N (Nat.le_of_eq h2) hN;rw[h2]at hw;exact⟨ys,hw,h4,h6⟩
theorem mul_step(r i k x b o c t q s:Nat)(ht:t=x*b+o+c)(hq:q=t/4294967296)(hs:s=t%4294967296):
    r+4294967296^(i+k)*s+4294967296^(i+k+1)*q=(r+4294967296^i*x*(4294967296^k*b))+4294967296^(i+k)*c+4294967296^(i+k)*o:=by
  have h:4294967296*q+s=x*b+o+c:=by rw[<-ht,hq,hs];omega
  have h2:4294967296^(i+k)*(4294967296*q+s)=4294967296^(i+k)*(x*b+o+c):=by rw[h]
  rw[Nat.pow_add]at*
  grind
theorem mul_next(v i k x y o c t q s:Nat)(B:List Nat)(ht:t=x*y+o+c)(hy:B.getD k 0=y)(hq:q=t/4294967296:=by rfl)(hs:s=t%4294967296:=by rfl):
    v+4294967296^i*x*pv B k+4294967296^(i+k)*s+4294967296^(i+(k+1))*q=v+4294967296^i*x*pv B (k+1)+4294967296^(i+k)*c+4294967296^(i+k)*o:=by
  have:=mul_step (v+4294967296^i*x*pv B k) i k x y o c t q s ht hq hs;rw[pv,hy,Nat.mul_add,<-Nat.add_assoc v];exact this
theorem mul_end(v i k x o c:Nat)(A B:List Nat)(ho:o=0)(hk:B.length=k)(hx:A.getD i 0=x)(hv:v=pv A i*qF B:=by rfl):
    v+4294967296^i*x*pv B k+4294967296^(i+k)*c+0=pv A (i+1)*qF B+4294967296^(i+k)*c+4294967296^(i+k)*o:=by
  rw[ho,pv,hx,zA B k (Nat.le_of_eq hk),hv]
  grind
theorem prod_lt(x y o c:Nat)(hx:x<4294967296)(hy:y<4294967296)(ho:o<4294967296)(hc:c<4294967296):x*y+o+c<18446744073709551616/\x*y<=18446744065119617025:=by
  have:=Nat.mul_le_mul (show x<=4294967295 by omega) (show y<=4294967295 by omega);omega
theorem mul_wd (w:World) (a1 a2:Option Addr)(n1 n2 c1 c2:Nat)(A B:List Nat)(h1:Wd w a1 n1 c1 A)(h2:Wd w a2 n2 c2 B)(s1:n1<=536870912)(s2:n2<=536870912):
    Calls prog 164 #[.slice a1 n1 c1,.slice a2 n2 c2] w (RNat w (n1+n2) (qF A*qF B)):=by
  have HA:=hid h1.lt;have HB:=hid h2.lt;have HlA:=hid h1.len;have HlB:=hid h2.len;have HW1:=hid h1;have HW2:=hid h2;have sh1:=h1.shape;have sh2:=h2.shape;clear h1 h2;rcases sh1 with sh1| ⟨b1,off1,rfl,hb1⟩ <;> rcases sh2 with sh2| ⟨b2,off2,rfl,hb2⟩
  all_goals
    go_enter func164,ntmps164;go_wp2_with (at_make;refine wpl_make rfl _ _ _ rfl underlying165 _ _ (n1+n2) rfl rfl ze ze ze ?_;intro w1 e1 z1 o1)
    have I0:=hid (MulInv.start o1 e1 n2);clear o1 e1 z1
    go_loopw [20] (λi wr=>∃k:Nat,k<=n1/\i=.int .i64 k/\Hid (MulInv w w.heap.size (n1+n2) (k+n2) 0 (pv A k*qF B) wr)) (λi _=>n1-(intOf i).toNat)
    case atStart=>exact⟨0,by omega,rfl,by simpa [pv]using I0⟩
    case round=>
      clear I0;obtain⟨i,hi,rfl,hinv⟩:=hrel;by_cases hi1:i<n1
      · first
          | (exfalso;omega)
          | (obtain ⟨o0,hc0,ho0,hz0,hf0,hext,hst0⟩:=hinv.out.cell i ze
             have hcA:=(HW1.out.ext hext).cell i hi1;have hxl:=HA.out i;clear hc0 ho0 hz0 hf0 hst0;have Hx:=hid (rfl:A.getD i 0=A.getD i 0);generalize hxe:A.getD i 0=x at hcA hxl;have Hxe:=hid hxe;clear hxe Hx;have J0:=hid (MulInv.inner (x:=x) hinv.out);clear hinv;go_wp2_with fail
             go_loopw [8,27] (λc j wi=>∃k cc:Nat,k<=n2/\cc<4294967296/\j=.int .i64 k/\c=.int .u64 cc/\Hid (MulInv w w.heap.size (n1+n2) (i+n2) (4294967296^(i+k)*cc) (pv A i*qF B+4294967296^i*x*pv B k) wi)) (λ_ j _=>n2-(intOf j).toNat)
             case atStart=>exact⟨0,0,by omega,by omega,rfl,rfl,J0⟩
             case round=>
               clear J0;obtain⟨k,cc,hk,hcc,rfl,rfl,hin⟩:=hrel;by_cases hk1:k<n2
               · first
                   | (exfalso;omega)
                   | (obtain⟨o,hco,hol,hz0,hfo,hexi,hsto⟩:=hin.out.cell (i+k) ze
                      have hcB:=(HW2.out.ext hexi).cell k hk1;have hyl:=HB.out k;clear hz0 hin;generalize hye:B.getD k 0=y at hcB hyl;have Hye:=hid hye;clear hye;obtain⟨hp1,hp2⟩:=prod_lt x y o cc hxl hyl hol hcc;have Hst:=hid hsto;clear hsto;generalize hpe:x*y=p at hp1 hp2;have hpi:(x:Int)*(y:Int)=(p:Int):=by rw[<-hpe];simp
                      have Hpe:=hid hpe;clear hpe;have hq:(p+o+cc)/4294967296<4294967296:=ze
                      have Hnew:=hid (Hst.out ((p+o+cc)%4294967296) (i+n2) (4294967296^(i+(k+1))*((p+o+cc)/4294967296)) (pv A i*qF B+4294967296^i*x*pv B (k+1)) ze (zN _) (zN _) ze
                        (mul_next _ i k x y o cc (p+o+cc) _ _ B (by rw[Hpe.out]) Hye.out))
                      clear Hst;go_wp2_with fail
                      go_roundw
                      case rel=>exact⟨k+1,_,by omega,hq,by go_num,by go_num,by rw[show(((p:Int)+o+cc)%4294967296)=(((p+o+cc)%4294967296:Nat):Int)from by omega];exact Hnew⟩
                      case measure=>simp[intOf];omega)
               · obtain rfl:k=n2:=by omega
                 obtain⟨o,hco,hol,hz0,hfo,hexi,hsto⟩:=hin.out.cell (i+k) ze;have Hnew:=hid (hsto cc (i+1+k) 0 (pv A (i+1)*qF B) hcc (zN _) ze ze (mul_end _ i k x o cc A B (hz0 (zN _)) HlB.out Hxe.out));clear hsto hz0 hin;go_wp2_with fail
                 go_roundw
                 case rel=>exact⟨i+1,by omega,by go_num,Hnew⟩
                 case measure=>simp[intOf];omega)
      · obtain rfl:i=n1:=by omega
        obtain⟨zs,hz1,hz2,hz3⟩:=hinv.out.fin ze;have hz2:=hid (hz2.trans (by rw[zA A _ (Nat.le_of_eq HlA.out)]));exact tAdd_1
theorem mul_c(w:World)(a1 a2:Option Addr)(n1 n2 c1 c2 k1 k2 x y:Nat)(h1:NatAt w k1 a1 n1 c1 x)(h2:NatAt w k2 a2 n2 c2 y)(s1:k1<=536870912)(s2:k2<=536870912):
    Calls prog 164 #[.slice a1 n1 c1,.slice a2 n2 c2] w (RNat w (k1+k2) (x*y)):=by
  obtain⟨xs,h1,l1,_,rfl⟩:=h1;obtain⟨ys,h2,l2,_,rfl⟩:=h2;refine(mul_wd w a1 a2 n1 n2 c1 c2 xs ys h1 h2 ze ze).mono ?_;rintro e w' ⟨ao,n,cap,he,hx,hn⟩;exact⟨ao,n,cap,he,hx,hn.mono ze⟩
end Go.Proofs.YtenhciieboegbaaGreatDoor
