/-
 Package genus: assigned: the names of the characters of a discriminant.
-/
import Derived.Test.YtknffgdbdadpcaaGreatDoorRwg
namespace Go.Proofs.YtknffgdbdadpcaaGreatDoor
open Go Go.RowKit
open Go.Proofs.Tryz
theorem zx{P:Prop}(h:P:=by simp[Value.oneCell']):P:=h
theorem yd{P:Prop}(h:P:=by have h1:=HE0.out.size;have h2:=HE.out.size;simp;omega):P:=h
theorem yf{P:Prop}(h:P:=by have:=HLE.out;omega):P:=h
theorem xt{P:Prop}(h:P:=by rw[Int.tdiv_eq_ediv_of_nonneg (by omega),<-Int.natCast_ediv,hm]):P:=h
theorem zac{P:Prop}(h:P:=by rw[Int.tdiv_eq_ediv_of_nonneg (by omega)];omega):P:=h
theorem zao{P:Prop}(h:P:=by simp[results,results83,go_sem]):P:=h
theorem zbp{P:Prop}(h:P:=by have:=Nat.mul_le_mul_right m hp2;omega):P:=h
theorem zbr{P:Prop}(h:P:=by rw[zG (by omega),<-zM,hrm]):P:=h
theorem zch{P:Prop}(h:P:=by rw[zG (by omega),<-zM,hd3];rfl):P:=h
theorem zdd{P:Prop}(h:P:=by rw[<-Int.natCast_ediv,hm]):P:=h
theorem zdh{P:Prop}(h:P:=by rw[zH];exact hz):P:=h
theorem zdl{P:Prop}(h:P:=by simp[results,results83,go_sem];rfl):P:=h
theorem zdt{P:Prop}(h:P:=by rw[<-hR];exact Nat.div_le_self _ _):P:=h
set_option maxRecDepth 100000
set_option maxHeartbeats 8000000
def chO:Nat->Nat->Nat->List Int
 |0,_,_=> []
 | f+1,p,n=>if n<=1 then []else
  let q:=if n<p*p then n else p
  (if n%q=0 then [(q:Int)]else [])++chO f (q+2) (n/q^vl q n)
def ch2(n:Nat):List Int:=if n%4≠0 then []else if n/4%8=0 then [-4,8]else if n/4%8=1 then [-4]else if n/4%8=4 then [-4]else if n/4%8=5 then [-4]else if n/4%8=2 then [-8]else if n/4%8=6 then [8]else []
def chN(n:Nat):List Int:=chO n 3 (n/2^vl 2 n)++ch2 n
theorem chO_one(f p:Nat):chO f p 1= []:=by cases f <;> simp[chO]
theorem vl_down{q n:Nat}(hq:2<=q)(hn:0<n)(h:n%q=0):n/q/q^vl q (n/q)=n/q^vl q n:=by
 rw[vl_step hq hn h,Nat.div_div_eq_div_mul,Nat.pow_succ,Nat.mul_comm]
theorem chO_step{f q r n:Nat}(hr:r≠1)(h0:0<r)(hrn:r<=n)(hq3:3<=q)(hf:n+3<=f+1+q)(p:Nat)(hp:p=if r<q*q then r else q):
  ∃R,r/p^vl p r=R/\chO (f+1) q r=(if r%p=0 then [(p:Int)]else [])++chO f (p+2) R/\0<R/\R<=r/\(R=1\/(p+2<=n+2/\n+3<=f+(p+2)))/\2<=p/\p<=n/\(r%2=1->q%2=1->R%2=1/\p%2=1):=by
 have hp2:2<=p:=by rw[hp];split <;> omega
 obtain⟨m,e,hm,m0⟩:=xS hp2 h0
 have hR:r/p^vl p r=m:=by
  conv=>lhs;lhs;rw[e]
  exact Nat.mul_div_cancel_left m (Nat.pow_pos zb)
 have hle:m<=r:=zdt
 refine⟨m,hR,?_,m0,hle,?_,hp2,?_,λhr2 hq2=>⟨?_,?_⟩⟩
 ·conv=>lhs;unfold chO
  rw[if_neg (by omega)];dsimp only;rw[<-hp,hR]
 ·by_cases hs:r<q*q
  ·rw[if_pos hs]at hp;subst hp;left;rw[<-hR,vl_self (by omega),Nat.pow_one,Nat.div_self h0]
  ·rw[if_neg hs]at hp;subst hp;have:p<=p*p:=Nat.le_mul_self p;right;omega
 ·by_cases hs:r<q*q
  ·rw[if_pos hs]at hp;omega
  ·rw[if_neg hs]at hp;have:q<=q*q:=Nat.le_mul_self q;omega
 ·have h2:r%2=(p^vl p r%2)*(m%2)%2:=by conv=>lhs;rw[e,Nat.mul_mod]
  rcases Nat.mod_two_eq_zero_or_one m with h|h
  ·rw[h,Nat.mul_zero]at h2;omega
  ·exact h
 ·rw[hp];split <;> assumption
def ChC(names:List Int)(cells:List Value):Prop:=∀(i:Nat) (c:Int),names[i]? =some c->cells[2*i]? =some (.int .i64 c)/\∃fn a b,cells[2*i+1]? =some (.func fn a b)
def ChW(W:World)(names:List Int)(cells:List Value):Prop:=∀(i:Nat) (c:Int) (fn:Fn) (a b:Array Value),names[i]? =some c->cells[2*i+1]? =some (.func fn a b)->ChFn W c fn a b
theorem ChW.ext{W W':World}{names:List Int}{cells:List Value}(h:ChW W names cells)(E:Ext W W'):ChW W' names cells:=λi c fn a b h1 h2=>(h i c fn a b h1 h2).ext E
def ChR(base:Nat)(W:World)(v:Value)(names:List Int):Prop:=∃cells:List Value,Rwg 120 2 base W v names.length cells/\ChC names cells/\ChW W names cells
theorem ChR.nil(base:Nat)(W:World):ChR base W (.slice none 0 0) []:=⟨[],Rwg.nil _ _ _ _,by simp[ChC],λi c fn a b h=>by simp at h⟩
theorem ChFn.grown{W W':World}{base n:Nat}{v:Value}{xs:List Value}{c:Int}{fn:Fn}{a b:Array Value}(h:ChFn W c fn a b)(hown:Rwg 120 2 base W v n xs)(hg:W.grownBy W' v.ownBlock):ChFn W' c fn a b:=h.keep λg cs T hT hgT=>by
 refine(hg.block g (Array.getElem?_eq_some_iff.1 hgT).1 λe=>?_).trans hgT;obtain⟨_,⟨hv,_⟩| ⟨g',cap,cur,hv,_,ho,_⟩⟩:=hown
 ·rw[hv]at e;cases e
 ·rw[hv]at e;injection e with e;subst e;rw[hgT]at ho;injection ho with ho;injection ho with _ ho _;exact hT ho
theorem infoCh:(prog.info? 120).map (λi=>(i.zero,i.size,i.bytes))=some (some (.agg #[.int .i64 0,.nilFunc]),2,16):=by kernel_rfl
theorem ChC.add{n:Nat}{names:List Int}{cells:List Value}{c:Int}{fn:Fn}{a b:Array Value}(hn:n=names.length)(h1:cells.length=n*2)(h2:ChC names cells):ChC (names++ [c]) (cells++ [.int .i64 c,.func fn a b]):=by
 intro i d hd;rw[List.getElem?_append]at hd;rw[List.getElem?_append,List.getElem?_append];by_cases hi:i<names.length
 ·rw[if_pos hi]at hd;rw[if_pos (by omega),if_pos (by omega)];exact h2 i d hd
 ·rw[if_neg hi]at hd;rw[if_neg (by omega),if_neg (by omega)];obtain⟨hi2,hd2⟩:=List.getElem?_eq_some_iff.1 hd;simp at hi2;have:i-names.length=0:=by omega
  simp only[this,List.getElem_cons_zero]at hd2;subst hd2;rw[show 2*i-cells.length=0 by omega,show 2*i+1-cells.length=1 by omega];exact⟨rfl,_,_,_,rfl⟩
theorem ChW.add{W W':World}{base n:Nat}{v:Value}{names:List Int}{cells:List Value}{c:Int}{fn:Fn}{a b:Array Value}(hown:Rwg 120 2 base W v n cells)(hw:ChW W names cells)(hg:W.grownBy W' v.ownBlock)(hf:ChFn W c fn a b)(hn:n=names.length)(h1:cells.length=n*2):ChW W' (names++ [c]) (cells++ [.int .i64 c,.func fn a b]):=by
 intro i d fn' a' b' hd hc;rw[List.getElem?_append]at hd;rw[List.getElem?_append]at hc;by_cases hi:i<names.length
 ·rw[if_pos hi]at hd;rw[if_pos (by omega)]at hc;exact(hw i d fn' a' b' hd hc).grown hown hg
 ·rw[if_neg hi]at hd;rw[if_neg (by omega)]at hc;obtain⟨hi2,hd2⟩:=List.getElem?_eq_some_iff.1 hd;simp at hi2;have:i-names.length=0:=by omega
  simp only[this,List.getElem_cons_zero]at hd2;subst hd2;rw[show 2*i+1-cells.length=1 by omega]at hc;simp at hc;obtain⟨rfl,rfl,rfl⟩:=hc;exact hf.grown hown hg
theorem ChR.add{base n:Nat}{W W':World}{v v':Value}{names:List Int}{cells:List Value}{c:Int}{fn:Fn}{a b:Array Value}(hown:Rwg 120 2 base W v n cells)(hw:ChW W names cells)(hg:W.grownBy W' v.ownBlock)(hf:ChFn W c fn a b)(hn:n=names.length)(h1:cells.length=n*2)(h2:ChC names cells)
  (h:Rwg 120 2 base W' v' (n+1) (cells++ [.int .i64 c,.func fn a b])):ChR base W' v' (names++ [c]):=
 ⟨cells++ [.int .i64 c,.func fn a b],by rw[zP,List.length_singleton,<-hn];exact h,ChC.add hn h1 h2,ChW.add hown hw hg hf hn h1⟩
theorem ChR.add2{base n:Nat}{W W':World}{v v':Value}{names:List Int}{cells:List Value}{c d:Int}{fn gn:Fn}{a b a' b':Array Value}(hown:Rwg 120 2 base W v n cells)(hw:ChW W names cells)(hg:W.grownBy W' v.ownBlock)(hf:ChFn W c fn a b)(hf':ChFn W d gn a' b')(hn:n=names.length)(h1:cells.length=n*2)(h2:ChC names cells)
  (h:Rwg 120 2 base W' v' (n+2) (cells++ [.int .i64 c,.func fn a b,.int .i64 d,.func gn a' b'])):ChR base W' v' (names++ [c,d]):=by
 have h3:=ChC.add (n:=n+1) (c:=d) (fn:=gn) (a:=a') (b:=b') (by simp[hn]) (by simp[h1];omega) (ChC.add (c:=c) (fn:=fn) (a:=a) (b:=b) hn h1 h2);refine⟨cells++ [.int .i64 c,.func fn a b,.int .i64 d,.func gn a' b'],by rw[zP,<-hn];exact h,by simpa using h3,?_⟩;intro i e fn' p q hd hc;by_cases hi:i<names.length
 ·rw[List.getElem?_append_left hi]at hd;rw[List.getElem?_append_left (by omega)]at hc;exact(hw i e fn' p q hd hc).grown hown hg
 ·rw[List.getElem?_append_right (by omega)]at hd hc;rcases(show i-names.length=0\/i-names.length=1 by have:=(List.getElem?_eq_some_iff.1 hd).1;simp at this;omega)with h0|h0
  ·rw[h0]at hd;rw[show 2*i+1-cells.length=1 by omega]at hc;simp at hd hc;obtain⟨rfl,rfl,rfl⟩:=hc;subst hd;exact hf.grown hown hg
  ·rw[h0]at hd;rw[show 2*i+1-cells.length=3 by omega]at hc;simp at hd hc;obtain⟨rfl,rfl,rfl⟩:=hc;subst hd;exact hf'.grown hown hg
theorem tGen2_1{P:Prop}(h:P:=by
  obtain⟨rfl,rfl,hg0,hgn,hgv⟩:=hrel;have hp2:=HF.out.2.2.2.2.2.1;have hnn:=HN.out.2;by_cases hd3:gk%p=0
  ·obtain⟨m,hm⟩:∃m,gk/p=m:=⟨_,rfl⟩;have hmd:p*m=gk:=by rw[<-hm];exact Nat.mul_div_cancel' (Nat.dvd_of_mod_eq_zero hd3)
   have hm0:0<m:=Nat.pos_of_ne_zero λh=>by rw[h]at hmd;omega
   have hmg:m<gk:=zbp
   have hx1:(gk:Int).tmod (p:Int)=0:=zch
   have hx2:(gk:Int)%(p:Int)=0:=by rw[<-zM,hd3];rfl
   have hx3:(gk:Int).tdiv (p:Int)=(m:Int):=xt
   have hx4:(gk:Int)/(p:Int)=(m:Int):=zdd
   have hx5:IntKind.i64.wrap (m:Int)=(m:Int):=zo
   have HV:=hid (show m/p^vl p m=R by rw[<-hm,vl_down hp2 hg0 hd3];exact hgv);have HG3:=hid (show 0<m/\m<gk/\m<=n by omega);clear hg0 hgn hgv hd3 hm hmd hm0 hmg hp2 hnn;go_wp2_with fail
   go_roundg m
   case measure=>exact HG3.out.2.1
   case rel=>exact⟨rfl,rfl,HG3.out.1,HG3.out.2.2,HV.out⟩
  ·have hgR:gk=R:=by rw[<-hgv,xL hp2 hg0 (λh=>hd3 (Nat.mod_eq_zero_of_dvd h))];simp
   obtain rfl:=hgR;obtain⟨rm,hrm⟩:∃m,gk%p=m:=⟨_,rfl⟩;have hx1:(gk:Int).tmod (p:Int)=(rm:Int):=zbr
   have hx2:(gk:Int)%(p:Int)=(rm:Int):=by rw[<-zM,hrm]
   have hx3:((rm:Int)==0)=false:=jk
   have hx4:IntKind.i64.wrap (rm:Int)=(rm:Int):=by
    have h1:=zR gk (show p >0 by omega);rw[hrm]at h1;have h7:=HF.out.2.2.2.2.2.2.1;simp only[IntKind.wrap_i64];omega
   have hpw:=HP.out;clear hg0 hgn hgv hd3 hrm hp2 hnn;go_wp2_with fail
   go_roundg gf
   case measure=>omega
   case rel=>
    obtain⟨h1,h2,h3,h4,h5,h6,h7,h8⟩:=HF.out;subst hgf;exact⟨pre++ [(p:Int)],p+2,gk,rfl,by rw[zV];rfl,by rw[if_pos HRP.out]at h1;exact h1,h5,h3,by have:=HR.out;omega,by omega,by omega,by(try rw[zP]);(try simp);omega,by have:=HOD.out;omega,HC9⟩
  ):P:=h
theorem assigned_f(w:World)(n:Nat)(hn:1<=n/\n<=4194304):Calls prog 83 #[.int .i64 (-(n:Int))] w (Ret w (λv W'=>ChR w.heap.size W' v (chN n))):=by
 have hstf:∀(a:Addr) (fn:Fn) (first cap:Array Value) (w:World),(store a (.func fn first cap)).run prog w=stored prog w a (.func fn first cap) .plain:=λa fn first cap w=>run_store prog w a _ .plain rfl
 have HN:=hid hn;have hw1:IntKind.i64.wrap (-(-(n:Int)))=(n:Int):=zo
 go_enter func83,ntmps83;go_upto_region 3 with fail;clear hw1;obtain⟨N,hN⟩:∃N,n/2^vl 2 n=N:=⟨_,rfl⟩;have HNN:=hid hN
 have hNb:0<N/\N<=n:=by
  have h1:=Nat.div_le_self n (2^vl 2 n);obtain⟨m,e,hm,m0⟩:=xS (p:=2) dcx hn.1
  have:n/2^vl 2 n=m:=by
   conv=>lhs;lhs;rw[e]
   exact Nat.mul_div_cancel_left m (Nat.pow_pos dcx)
  omega
 have HNB:=hid hNb
 go_loopg [4] n (λgk v4 wr=>v4=.int .i64 ((gk:Nat):Int)/\w=wr/\0<gk/\gk<=n/\gk/2^vl 2 gk=N)
 case atStart=>exact⟨rfl,rfl,hn.1,zL _,hN⟩
 case round=>
  obtain⟨rfl,rfl,hg0,hgn,hgv⟩:=hrel;by_cases hpar:gk%2=0
  ·obtain⟨m,hm⟩:∃m,gk/2=m:=⟨_,rfl⟩;have hx1:(gk:Int).tmod 2=0:=by rw[zG (by omega)];omega
   have hx2:(gk:Int)%2=0:=zb
   have hx3:(gk:Int).tdiv 2=(m:Int):=zac
   have hx4:(gk:Int)/2=(m:Int):=zb
   have hx5:IntKind.i64.wrap (m:Int)=(m:Int):=zo
   have HV:=hid (show m/2^vl 2 m=N by rw[<-hm,vl_down dcx hg0 hpar];exact hgv);have HG:=hid (show 0<m/\m<gk/\m<=n by omega);clear hg0 hgn hgv hpar hm hn hN hNb;go_wp2_with fail
   go_roundg m
   case measure=>exact HG.out.2.1
   case rel=>exact⟨rfl,rfl,HG.out.1,HG.out.2.2,HV.out⟩
  ·have hgN:gk=N:=by rw[<-hgv,xL dcx hg0 (λh=>hpar (Nat.mod_eq_zero_of_dvd h))];simp
   subst hgN;have HGO:=hid (show gk%2=1 by omega);have hx1:(gk:Int).tmod 2=1:=zab
   have hx2:(gk:Int)%2=1:=zb
   clear hg0 hgn hgv hpar hn hN hNb;go_upto_region 6 with fail;clear hx1 hx2;obtain⟨T,hT⟩:∃T,chO n 3 gk=T:=⟨_,rfl⟩;have HT:=hid hT;obtain⟨G,hG⟩:∃G,G=gk:=⟨_,rfl⟩;subst hG
   go_loopg [3,4,5] n (λgk2 v3 v4 v5 wr2=>∃(pre:List Int) (q r:Nat),v4=.int .i64 (r:Int)/\v5=.int .i64 (q:Int)/\pre++chO gk2 q r=T/\(r=1\/(q<=n+2/\n+3<=gk2+q))/\0<r/\r<=n/\3<=q/\q<=n+2/\pre.length+gk2<=n/\(r%2=1/\q%2=1)/\
     Hid (ChR w.heap.size wr2 v3 pre/\Ext w wr2))
   case atStart=>exact⟨[],3,G,rfl,rfl,hT,.inr zda,HNB.out.1,HNB.out.2,zL _,by have:=HN.out;omega,by simp,⟨HGO.out,by decide⟩,hid ⟨ChR.nil _ _,Ext.refl _⟩⟩
   case round=>
    clear hT;obtain⟨pre,q,r,rfl,rfl,hpre,hor,hr0,hrn,hq3,hqn,hlen,hodd,HC⟩:=hrel;by_cases hr1:r=1
    ·subst hr1;rw[chO_one,List.append_nil]at hpre;have hchn:chN n=pre++ch2 n:=by unfold chN;rw[HNN.out,HT.out,hpre]
     have HLE:=hid (show pre.length<=4194304 by have:=HN.out;omega);clear hpre hor hr0 hrn hq3 hqn hlen;obtain⟨⟨cells,hrow,hcl,hcw⟩,hE⟩:=HC.out;have HE0:=hid hE;have HE:=hid (Ext.refl wr);have HFN:=hid (FnsAt.nil wr);clear hE HC;obtain⟨c,hc⟩:∃c,n%4=c:=⟨_,rfl⟩;have hc4:c<4:=by rw[<-hc];exact zR _ dcx
     have hx1:(n:Int).tmod 4=(c:Int):=zab
     have hx2:(-(n:Int)).tmod 4= -(c:Int):=by rw[Int.neg_tmod,hx1]
     have hx3:IntKind.i64.wrap (-(c:Int))= -(c:Int):=zo
     have HCC:=hid hc;have HCH:=hid hchn;clear hchn;by_cases hc0:c=0
     ·subst hc0;obtain⟨k,hk⟩:∃k,n/4=k:=⟨_,rfl⟩;obtain⟨e,he⟩:∃e,k%8=e:=⟨_,rfl⟩;have hnn:=HN.out;have hy1:IntKind.i64.wrap (-(-(n:Int)))=(n:Int):=by simp only[IntKind.wrap_i64];omega
      have hy0:IntKind.i64.wrap (n:Int)=(n:Int):=zo
      have hy2:(n:Int).tdiv 4=(k:Int):=zac
      have hy3:(n:Int)/4=(k:Int):=zb
      have hy4:IntKind.i64.wrap (k:Int)=(k:Int):=zo
      have HC8:=hid (show ¬(n%4≠0)/\n/4%8=e from⟨λh=>h hc,by rw[hk];exact he⟩);have he8:e<8:=by rw[<-he];exact zR _ dcx
      obtain⟨ez,hez⟩:∃ez:Int,ez=(e:Int):=⟨_,rfl⟩;have hy5:(k:Int).tmod 8=ez:=by rw[hez,zG (by omega)];omega
      have hy6:(k:Int)%8=ez:=by rw[hez];omega
      clear hc hk he hnn hc4;rcases(show e=0\/e=1\/e=2\/e=3\/e=4\/e=5\/e=6\/e=7 by omega)with rfl|rfl|rfl|rfl|rfl|rfl|rfl|rfl
      all_goals
       simp at hez;subst hez;clear he8
      ·have HB:=hid (show chN n=pre++ [-4,8]by rw[HCH.out];unfold ch2;rw[if_neg HC8.out.1,HC8.out.2];simp);go_wp2_with (first| (go_at_call 131;go_must (refine zC (zA _ _ _ _ (zS _ _) dcx) ?_;rintro e w8 ⟨_,rfl,E8,rfl,hf8⟩;replace HE:=hid ((HE.out.alloc _).trans E8);have HFN:=hid (FnsAt.cons hf8 ((HFN.out.ext ((Ext.refl _).alloc _)).ext E8))))| (at_builtin;go_must (refine qX rfl _ _ 116 rfl w.heap.size 120 (.agg #[.int .i64 0,.nilFunc]) 2 16 za infoCh rfl dcx _ _ _ rfl (hrow.ext ((((HE.out.alloc _).alloc _).alloc _).alloc _)) _ 2 _ _ rfl rfl (qP _ _ _ _ zh) zx yf yf yd ?_;intro v9 w9 hr9 hg9 hb9)))
       exact zD (v:=v9) zao rfl ⟨_,rfl,Below.ext (HE0.out.trans ((((HE.out.alloc _).alloc _).alloc _).alloc _)) hb9 (zL _),by rw[HB.out];exact ChR.add2 (hrow.ext ((((HE.out.alloc _).alloc _).alloc _).alloc _)) (hcw.ext ((((HE.out.alloc _).alloc _).alloc _).alloc _)) hg9 ((HFN.out.ext (((((Ext.refl _).alloc _).alloc _).alloc _).alloc _)) (-4,_,_,_) zh) ((HFN.out.ext (((((Ext.refl _).alloc _).alloc _).alloc _).alloc _)) (8,_,_,_) zh) rfl hrow.1 hcl hr9⟩
      ·have HB:=hid (show chN n=pre++ [-4]by rw[HCH.out];unfold ch2;rw[if_neg HC8.out.1,HC8.out.2];simp);go_wp2_with (first| (go_at_call 131;go_must (refine zC (zA _ _ _ _ (zS _ _) dcx) ?_;rintro e w8 ⟨_,rfl,E8,rfl,hf8⟩;replace HE:=hid ((HE.out.alloc _).trans E8);have HFN:=hid (FnsAt.cons hf8 ((HFN.out.ext ((Ext.refl _).alloc _)).ext E8))))| (at_builtin;go_must (refine qX rfl _ _ 116 rfl w.heap.size 120 (.agg #[.int .i64 0,.nilFunc]) 2 16 za infoCh rfl dcx _ _ _ rfl (hrow.ext ((((HE.out.alloc _).alloc _).alloc _).alloc _)) _ 1 _ _ rfl rfl (qP _ _ _ _ zh) zx yf yf yd ?_;intro v9 w9 hr9 hg9 hb9)))
       exact zD (v:=v9) zao rfl ⟨_,rfl,Below.ext (HE0.out.trans ((((HE.out.alloc _).alloc _).alloc _).alloc _)) hb9 (zL _),by rw[HB.out];exact ChR.add (hrow.ext ((((HE.out.alloc _).alloc _).alloc _).alloc _)) (hcw.ext ((((HE.out.alloc _).alloc _).alloc _).alloc _)) hg9 ((HFN.out.ext (((((Ext.refl _).alloc _).alloc _).alloc _).alloc _)) (-4,_,_,_) zh) rfl hrow.1 hcl hr9⟩
      ·have HB:=hid (show chN n=pre++ [-8]by rw[HCH.out];unfold ch2;rw[if_neg HC8.out.1,HC8.out.2];simp);go_wp2_with (first| (go_at_call 131;go_must (refine zC (zA _ _ _ _ (zS _ _) dcx) ?_;rintro e w8 ⟨_,rfl,E8,rfl,hf8⟩;replace HE:=hid ((HE.out.alloc _).trans E8);have HFN:=hid (FnsAt.cons hf8 ((HFN.out.ext ((Ext.refl _).alloc _)).ext E8))))| (at_builtin;go_must (refine qX rfl _ _ 116 rfl w.heap.size 120 (.agg #[.int .i64 0,.nilFunc]) 2 16 za infoCh rfl dcx _ _ _ rfl (hrow.ext ((((HE.out.alloc _).alloc _).alloc _).alloc _)) _ 1 _ _ rfl rfl (qP _ _ _ _ zh) zx yf yf yd ?_;intro v9 w9 hr9 hg9 hb9)))
       exact zD (v:=v9) zao rfl ⟨_,rfl,Below.ext (HE0.out.trans ((((HE.out.alloc _).alloc _).alloc _).alloc _)) hb9 (zL _),by rw[HB.out];exact ChR.add (hrow.ext ((((HE.out.alloc _).alloc _).alloc _).alloc _)) (hcw.ext ((((HE.out.alloc _).alloc _).alloc _).alloc _)) hg9 ((HFN.out.ext (((((Ext.refl _).alloc _).alloc _).alloc _).alloc _)) (-8,_,_,_) zh) rfl hrow.1 hcl hr9⟩
      ·have HB:=hid (show chN n=pre++ []by rw[HCH.out];unfold ch2;rw[if_neg HC8.out.1,HC8.out.2];simp);go_wp2_with (go_at_call 131;go_must (refine zC (zA _ _ _ _ (zS _ _) dcx) ?_;rintro e w8 ⟨_,rfl,E8,rfl,hf8⟩;replace HE:=hid ((HE.out.alloc _).trans E8);have HFN:=hid (FnsAt.cons hf8 ((HFN.out.ext ((Ext.refl _).alloc _)).ext E8))))
       exact zD (v:=_) zdl rfl ⟨_,rfl,HE0.out.trans (((HE.out.alloc _).alloc _).alloc _),by rw[HB.out,List.append_nil];exact⟨cells,hrow.ext (((HE.out.alloc _).alloc _).alloc _),hcl,hcw.ext (((HE.out.alloc _).alloc _).alloc _)⟩⟩
      ·have HB:=hid (show chN n=pre++ [-4]by rw[HCH.out];unfold ch2;rw[if_neg HC8.out.1,HC8.out.2];simp);go_wp2_with (first| (go_at_call 131;go_must (refine zC (zA _ _ _ _ (zS _ _) dcx) ?_;rintro e w8 ⟨_,rfl,E8,rfl,hf8⟩;replace HE:=hid ((HE.out.alloc _).trans E8);have HFN:=hid (FnsAt.cons hf8 ((HFN.out.ext ((Ext.refl _).alloc _)).ext E8))))| (at_builtin;go_must (refine qX rfl _ _ 116 rfl w.heap.size 120 (.agg #[.int .i64 0,.nilFunc]) 2 16 za infoCh rfl dcx _ _ _ rfl (hrow.ext ((((HE.out.alloc _).alloc _).alloc _).alloc _)) _ 1 _ _ rfl rfl (qP _ _ _ _ zh) zx yf yf yd ?_;intro v9 w9 hr9 hg9 hb9)))
       exact zD (v:=v9) zao rfl ⟨_,rfl,Below.ext (HE0.out.trans ((((HE.out.alloc _).alloc _).alloc _).alloc _)) hb9 (zL _),by rw[HB.out];exact ChR.add (hrow.ext ((((HE.out.alloc _).alloc _).alloc _).alloc _)) (hcw.ext ((((HE.out.alloc _).alloc _).alloc _).alloc _)) hg9 ((HFN.out.ext (((((Ext.refl _).alloc _).alloc _).alloc _).alloc _)) (-4,_,_,_) zh) rfl hrow.1 hcl hr9⟩
      ·have HB:=hid (show chN n=pre++ [-4]by rw[HCH.out];unfold ch2;rw[if_neg HC8.out.1,HC8.out.2];simp);go_wp2_with (first| (go_at_call 131;go_must (refine zC (zA _ _ _ _ (zS _ _) dcx) ?_;rintro e w8 ⟨_,rfl,E8,rfl,hf8⟩;replace HE:=hid ((HE.out.alloc _).trans E8);have HFN:=hid (FnsAt.cons hf8 ((HFN.out.ext ((Ext.refl _).alloc _)).ext E8))))| (at_builtin;go_must (refine qX rfl _ _ 116 rfl w.heap.size 120 (.agg #[.int .i64 0,.nilFunc]) 2 16 za infoCh rfl dcx _ _ _ rfl (hrow.ext ((((HE.out.alloc _).alloc _).alloc _).alloc _)) _ 1 _ _ rfl rfl (qP _ _ _ _ zh) zx yf yf yd ?_;intro v9 w9 hr9 hg9 hb9)))
       exact zD (v:=v9) zao rfl ⟨_,rfl,Below.ext (HE0.out.trans ((((HE.out.alloc _).alloc _).alloc _).alloc _)) hb9 (zL _),by rw[HB.out];exact ChR.add (hrow.ext ((((HE.out.alloc _).alloc _).alloc _).alloc _)) (hcw.ext ((((HE.out.alloc _).alloc _).alloc _).alloc _)) hg9 ((HFN.out.ext (((((Ext.refl _).alloc _).alloc _).alloc _).alloc _)) (-4,_,_,_) zh) rfl hrow.1 hcl hr9⟩
      ·have HB:=hid (show chN n=pre++ [8]by rw[HCH.out];unfold ch2;rw[if_neg HC8.out.1,HC8.out.2];simp);go_wp2_with (first| (go_at_call 131;go_must (refine zC (zA _ _ _ _ (zS _ _) dcx) ?_;rintro e w8 ⟨_,rfl,E8,rfl,hf8⟩;replace HE:=hid ((HE.out.alloc _).trans E8);have HFN:=hid (FnsAt.cons hf8 ((HFN.out.ext ((Ext.refl _).alloc _)).ext E8))))| (at_builtin;go_must (refine qX rfl _ _ 116 rfl w.heap.size 120 (.agg #[.int .i64 0,.nilFunc]) 2 16 za infoCh rfl dcx _ _ _ rfl (hrow.ext ((((HE.out.alloc _).alloc _).alloc _).alloc _)) _ 1 _ _ rfl rfl (qP _ _ _ _ zh) zx yf yf yd ?_;intro v9 w9 hr9 hg9 hb9)))
       exact zD (v:=v9) zao rfl ⟨_,rfl,Below.ext (HE0.out.trans ((((HE.out.alloc _).alloc _).alloc _).alloc _)) hb9 (zL _),by rw[HB.out];exact ChR.add (hrow.ext ((((HE.out.alloc _).alloc _).alloc _).alloc _)) (hcw.ext ((((HE.out.alloc _).alloc _).alloc _).alloc _)) hg9 ((HFN.out.ext (((((Ext.refl _).alloc _).alloc _).alloc _).alloc _)) (8,_,_,_) zh) rfl hrow.1 hcl hr9⟩
      ·have HB:=hid (show chN n=pre++ []by rw[HCH.out];unfold ch2;rw[if_neg HC8.out.1,HC8.out.2];simp);go_wp2_with (go_at_call 131;go_must (refine zC (zA _ _ _ _ (zS _ _) dcx) ?_;rintro e w8 ⟨_,rfl,E8,rfl,hf8⟩;replace HE:=hid ((HE.out.alloc _).trans E8);have HFN:=hid (FnsAt.cons hf8 ((HFN.out.ext ((Ext.refl _).alloc _)).ext E8))))
       exact zD (v:=_) zdl rfl ⟨_,rfl,HE0.out.trans (((HE.out.alloc _).alloc _).alloc _),by rw[HB.out,List.append_nil];exact⟨cells,hrow.ext (((HE.out.alloc _).alloc _).alloc _),hcl,hcw.ext (((HE.out.alloc _).alloc _).alloc _)⟩⟩
     ·have hne:((-(c:Int)) !=0)=true:=by simp only[bne_iff_ne,ne_eq];omega
      have HB:=hid (show chN n=pre by rw[HCH.out];unfold ch2;rw[if_pos (by rw[HCC.out];exact hc0),List.append_nil]);clear hc hc0 hc4;go_wp2_with fail;exact zD (v:=_) zdl rfl ⟨_,rfl,HE0.out,by rw[HB.out];exact⟨cells,hrow,hcl,hcw⟩⟩
    ·obtain⟨_,hfq⟩:=hor.resolve_left hr1;obtain⟨f,rfl⟩:∃f,gk=f+1:=⟨gk-1,by omega⟩;have hn22:=HN.out.2;obtain⟨p,hp⟩:∃p,p=if r<q*q then r else q:=⟨_,rfl⟩
     obtain⟨R,hR,hch,hR0,hRr,hRor,hp2,hpn,hod⟩:=chO_step hr1 hr0 hrn hq3 hfq p hp;have HOD:=hid (zJ (hod hodd.1 hodd.2) hodd.2);clear hod hodd;rw[hch,<-List.append_assoc]at hpre;have hqq:q*q<=4194306*4194306:=Nat.mul_le_mul zb zb;have hw:IntKind.i64.wrap ((q:Int)*(q:Int))=(q:Int)*(q:Int):=by rw[<-Int.natCast_mul];simp only[IntKind.wrap_i64];omega
     have hr1':decide ((1:Int)<(r:Int))=true:=jl
     have hpw:IntKind.i64.wrap ((p:Int)+2)=(p:Int)+2:=zo
     have HF:=hid (zJ hpre (zJ hR (zJ hR0 (zJ hRr (zJ hRor (zJ hp2 (zJ hpn hlen)))))));have HR:=hid (zJ hr0 hrn);have HP:=hid hpw;clear hch hor hfq hpre hR hR0 hRr hRor hp2 hpn hlen hpw;by_cases hs:r<q*q
     ·rw[if_pos hs]at hp;subst hp;have hs':decide ((p:Int)<(q:Int)*(q:Int))=true:=by rw[<-Int.natCast_mul];simp only[zU];omega
      clear hs hr0 hrn hq3 hqn hr1 hqq hn22;go_upto_region 10 with fail;have HRP:=hid (show p%p=0 from Nat.mod_self _);have hz:¬(p:Int)=0:=by have:=HF.out.2.2.2.2.2.1;omega
      have hzb:((p:Int)==0)=false:=zdh
      have hx1:(p:Int).tmod (p:Int)=0:=by rw[zG (by omega),<-zM,HRP.out];rfl
      have hx2:(p:Int)%(p:Int)=0:=by rw[<-zM,HRP.out];rfl
      clear hw hs' hr1';obtain⟨⟨cells,hrow,hcl,hcw⟩,hE⟩:=HC.out;have hlen9:=HF.out.2.2.2.2.2.2.2;have hnn:=HN.out;go_wp2_with (first| (go_at_call 130;go_must (refine zC (odd_c _ _ (by have:=HF.out.2.2.2.2.2.1;have:=HOD.out;omega)) ?_;rintro e w8 ⟨_,rfl,E8,rfl,hf8⟩))| (at_builtin;go_must (refine qX rfl _ _ 116 rfl w.heap.size 120 (.agg #[.int .i64 0,.nilFunc]) 2 16 za infoCh rfl dcx _ _ _ rfl (hrow.ext (E8.alloc _)) w8.heap.size 1 1 [.int .i64 (p:Int),.func (.func 167) #[] #[.pointer (some ⟨wr.heap.size,0,none⟩)]] rfl rfl (cells_new w8 #[.int .i64 (p:Int),.func (.func 167) #[] #[.pointer (some ⟨wr.heap.size,0,none⟩)]] 120) zx zb zb (by have h1:=hE.size;have h2:=E8.size;simp;omega) ?_;intro v9 w9 hr9 hg9 hb9)))
      have HC9:=hid (zJ (ChR.add (hrow.ext (E8.alloc _)) (hcw.ext (E8.alloc _)) hg9 (hf8.ext ((Ext.refl _).alloc _)) rfl hrow.1 hcl hr9) (Below.ext ((hE.trans E8).alloc _) hb9 (zL _)));clear hrow hcl hcw hf8 hE hr9 hg9 hb9 E8 hx1 hx2 hlen9 hnn HC;obtain⟨gf,hgf⟩:∃gf,gf=f:=⟨_,rfl⟩
      go_loopg [4] p (λgk3 v4 wr3=>v4=.int .i64 ((gk3:Nat):Int)/\w9=wr3/\0<gk3/\gk3<=n/\gk3/p^vl p gk3=R)
      case atStart=>exact⟨rfl,rfl,HR.out.1,HR.out.2,HF.out.2.1⟩
      case round=>
       exact tGen2_1
     ·rw [if_neg hs]at hp;subst hp;have hs':decide ((r:Int)<(p:Int)*(p:Int))=false:=by rw[<-Int.natCast_mul];simp only[zK];omega
      clear hs hr0 hrn hq3 hqn hr1 hqq hn22;go_upto_region 10 with fail;by_cases hd:r%p=0
      ·skip;have HRP:=hid (show r%p=0 from hd);have hz:¬(p:Int)=0:=by have:=HF.out.2.2.2.2.2.1;omega
       have hzb:((p:Int)==0)=false:=zdh
       have hx1:(r:Int).tmod (p:Int)=0:=by rw[zG (by omega),<-zM,HRP.out];rfl
       have hx2:(r:Int)%(p:Int)=0:=by rw[<-zM,HRP.out];rfl
       clear hw hs' hr1' hd;obtain⟨⟨cells,hrow,hcl,hcw⟩,hE⟩:=HC.out;have hlen9:=HF.out.2.2.2.2.2.2.2;have hnn:=HN.out;go_wp2_with (first| (go_at_call 130;go_must (refine zC (odd_c _ _ (by have:=HF.out.2.2.2.2.2.1;have:=HOD.out;omega)) ?_;rintro e w8 ⟨_,rfl,E8,rfl,hf8⟩))| (at_builtin;go_must (refine qX rfl _ _ 116 rfl w.heap.size 120 (.agg #[.int .i64 0,.nilFunc]) 2 16 za infoCh rfl dcx _ _ _ rfl (hrow.ext (E8.alloc _)) w8.heap.size 1 1 [.int .i64 (p:Int),.func (.func 167) #[] #[.pointer (some ⟨wr.heap.size,0,none⟩)]] rfl rfl (cells_new w8 #[.int .i64 (p:Int),.func (.func 167) #[] #[.pointer (some ⟨wr.heap.size,0,none⟩)]] 120) zx zb zb (by have h1:=hE.size;have h2:=E8.size;simp;omega) ?_;intro v9 w9 hr9 hg9 hb9)))
       have HC9:=hid (zJ (ChR.add (hrow.ext (E8.alloc _)) (hcw.ext (E8.alloc _)) hg9 (hf8.ext ((Ext.refl _).alloc _)) rfl hrow.1 hcl hr9) (Below.ext ((hE.trans E8).alloc _) hb9 (zL _)));clear hrow hcl hcw hf8 hE hr9 hg9 hb9 E8 hx1 hx2 hlen9 hnn HC;obtain⟨gf,hgf⟩:∃gf,gf=f:=⟨_,rfl⟩
       go_loopg [4] r (λgk3 v4 wr3=>v4=.int .i64 ((gk3:Nat):Int)/\w9=wr3/\0<gk3/\gk3<=n/\gk3/p^vl p gk3=R)
       case atStart=>exact⟨rfl,rfl,HR.out.1,HR.out.2,HF.out.2.1⟩
       case round=>
        exact tGen2_1
      ·skip;have HRP:=hid (show ¬r%p=0 from hd);have hz:¬(p:Int)=0:=by have:=HF.out.2.2.2.2.2.1;omega
       have hzb:((p:Int)==0)=false:=zdh
       clear hw hs' hr1' hd;obtain⟨rm,hrm⟩:∃m,r%p=m:=⟨_,rfl⟩;have hx1:(r:Int).tmod (p:Int)=(rm:Int):=zbr
       have hx2:(r:Int)%(p:Int)=(rm:Int):=by rw[<-zM,hrm]
       have hx3:((rm:Int)==0)=false:=by rw[zH];have:=HRP.out;omega
       have hx4:IntKind.i64.wrap (rm:Int)=(rm:Int):=by
        have h1:=zR r (show p >0 by have:=HF.out.2.2.2.2.2.1;omega);rw[hrm]at h1;have h2:=HF.out.2.2.2.2.2.2.1;have h3:=HN.out;simp only[IntKind.wrap_i64];omega
       go_wp2_with fail;have HC9:=HC;clear hx1 hx2 hx3 hx4 HC;obtain⟨w9,hw9⟩:∃w9,wr=w9:=⟨_,rfl⟩;rw[hw9]at HC9 ⊢;clear hw9;obtain⟨gf,hgf⟩:∃gf,gf=f:=⟨_,rfl⟩
       go_loopg [4] r (λgk3 v4 wr3=>v4=.int .i64 ((gk3:Nat):Int)/\w9=wr3/\0<gk3/\gk3<=n/\gk3/p^vl p gk3=R)
       case atStart=>exact⟨rfl,rfl,HR.out.1,HR.out.2,HF.out.2.1⟩
       case round=>
        obtain⟨rfl,rfl,hg0,hgn,hgv⟩:=hrel;have hp2:=HF.out.2.2.2.2.2.1;have hnn:=HN.out.2;by_cases hd3:gk%p=0
        ·obtain⟨m,hm⟩:∃m,gk/p=m:=⟨_,rfl⟩;have hmd:p*m=gk:=by rw[<-hm];exact Nat.mul_div_cancel' (Nat.dvd_of_mod_eq_zero hd3)
         have hm0:0<m:=Nat.pos_of_ne_zero λh=>by rw[h]at hmd;omega
         have hmg:m<gk:=zbp
         have hx1:(gk:Int).tmod (p:Int)=0:=zch
         have hx2:(gk:Int)%(p:Int)=0:=by rw[<-zM,hd3];rfl
         have hx3:(gk:Int).tdiv (p:Int)=(m:Int):=xt
         have hx4:(gk:Int)/(p:Int)=(m:Int):=zdd
         have hx5:IntKind.i64.wrap (m:Int)=(m:Int):=zo
         have HV:=hid (show m/p^vl p m=R by rw[<-hm,vl_down hp2 hg0 hd3];exact hgv);have HG3:=hid (show 0<m/\m<gk/\m<=n by omega);clear hg0 hgn hgv hd3 hm hmd hm0 hmg hp2 hnn;go_wp2_with fail
         go_roundg m
         case measure=>exact HG3.out.2.1
         case rel=>exact⟨rfl,rfl,HG3.out.1,HG3.out.2.2,HV.out⟩
        ·have hgR:gk=R:=by rw[<-hgv,xL hp2 hg0 (λh=>hd3 (Nat.mod_eq_zero_of_dvd h))];simp
         obtain rfl:=hgR;obtain⟨rm,hrm⟩:∃m,gk%p=m:=⟨_,rfl⟩;have hx1:(gk:Int).tmod (p:Int)=(rm:Int):=zbr
         have hx2:(gk:Int)%(p:Int)=(rm:Int):=by rw[<-zM,hrm]
         have hx3:((rm:Int)==0)=false:=jk
         have hx4:IntKind.i64.wrap (rm:Int)=(rm:Int):=by
          have h1:=zR gk (show p >0 by omega);rw[hrm]at h1;have h7:=HF.out.2.2.2.2.2.2.1;simp only[IntKind.wrap_i64];omega
         have hpw:=HP.out;clear hg0 hgn hgv hd3 hrm hp2 hnn;go_wp2_with fail
         go_roundg gf
         case measure=>omega
         case rel=>
          obtain⟨h1,h2,h3,h4,h5,h6,h7,h8⟩:=HF.out;subst hgf;exact⟨pre,p+2,gk,rfl,by rw[zV];rfl,by rw[if_neg HRP.out,List.append_nil]at h1;exact h1,h5,h3,by have:=HR.out;omega,by omega,by omega,by(try rw[zP]);(try simp);omega,by have:=HOD.out;omega,HC9⟩
end Go.Proofs.YtknffgdbdadpcaaGreatDoor
