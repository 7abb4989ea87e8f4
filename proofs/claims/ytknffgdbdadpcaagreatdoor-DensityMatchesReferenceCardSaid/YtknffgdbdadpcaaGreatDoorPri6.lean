/-
  Package quadratic: product, Disc, isSquare, Check, Reduced at a reduced form. (Printed by wip/gen/den27.py.)
  Package prime: the strong test at the two primes 43 and 47 that no base divides; Is of them.
  The reckoning that no composite number below 2^20 without a factor up to 41 passes the strong tests to 2 and 3.
  Package prime: mul, strong, isPrime at any word below 2^63: it ends, and below 2^20 it says whether the number is prime.
  Package prime: word of 0, Is at every integer of 64 bits.
-/
import Derived.Test.YtknffgdbdadpcaaGreatDoorDen23
import Derived.Test.YtknffgdbdadpcaaGreatDoorFact
import Derived.Test.YtknffgdbdadpcaaGreatDoorPrt
import Derived.Test.YtknffgdbdadpcaaGreatDoorPri4
namespace Go.Proofs.YtknffgdbdadpcaaGreatDoor
open Go Go.RowKit
open Go.Proofs.Tryz
set_option maxRecDepth 100000
set_option maxHeartbeats 8000000
def IsLi(K:Nat)(zs:List Int):Value->World->Prop:=λx w=>∃g,x=.slice (some ⟨g,0,none⟩) zs.length zs.length/\
  ∀j z,zs[j]? =some z->∃s a n c,Bo w g j s a n c/\IsI K z (.agg #[.bool s,.slice a n c]) w
theorem IsLi.stb(K:Nat)(zs:List Int):Stb (IsLi K zs):=λ_ _ _ e ⟨g,h1,h3⟩=>⟨g,h1,λj z hj=>let ⟨s,a,n,c,b,k⟩:=h3 j z hj;⟨s,a,n,c,b.ext e,k.ext e⟩⟩
section
variable {ops:Array Oper} {Q:Exit->Act->World->Prop} {ds:List (Option Tmp)} {a0:Act} {w0:World} {L:List (Value->World->Prop)} {boxes:List Nat} {i:Nat} {o:Oper}
theorem Bo.newI(w:World)(cs:Array Value)(T:TypeId)(i:Nat)(s:Bool)(a:Option Addr)(n c:Nat)(h0:cs[2*i]? =some (.bool s))(h1:cs[2*i+1]? =some (.slice a n c)):Bo (w.alloc (.cells cs T)) w.heap.size i s a n c:=⟨by simp[h0],by simp[h1],by simp,by simp⟩
set_option maxRecDepth 100000
theorem bI2{x1 x2:Operand}{K k1 k2:Nat}{z1 z2:Int}(hx1:Od ops ds a0 w0 L i x1 (IsI k1 z1))(hx2:Od ops ds a0 w0 L i x2 (IsI k2 z2))(l1:k1<=K)(l2:k2<=K)
    (ho:o.op=.buildSlice 36 2 #[(0,x1),(1,x2)]:=by rfl) (hi:L.getD i (λ_ _=>True)=IsLi K [z1,z2]:=by kernel_rfl) (hb:boxes.contains i=false:=by kernel_rfl):Ok prog ops Q ds a0 w0 L boxes i o:=
  ⟨fun v a w hE hd hf K' hK=>by
    obtain⟨s1,a1,n1,c1,q1,h1⟩:=hx1.out v a w hE hd hf;obtain⟨s2,a2,n2,c2,q2,h2⟩:=hx2.out v a w hE hd hf;have hr:(Instr.buildSlice 36 2 #[(0,.agg #[.bool s1,.slice a1 n1 c1]),(1,.agg #[.bool s2,.slice a2 n2 c2])]).run prog w=.ok (.slice (some ⟨w.heap.size,0,none⟩) 2 2) (w.alloc (.cells #[.bool s1,.slice a1 n1 c1,.bool s2,.slice a2 n2 c2] 33)):=by go_simp
    have hrun:(execOp a.eval o).run prog w=.ok (.value (.slice (some ⟨w.heap.size,0,none⟩) 2 2)) (w.alloc (.cells #[.bool s1,.slice a1 n1 c1,.bool s2,.slice a2 n2 c2] 33)):=by
      unfold execOp;rw[ho];dsimp only;simp only[List.map_toArray,List.map_cons,List.map_nil];rw[q1,q2];simp[hr]
    unfold Oper.wp;rw[hrun];have e9:Ext w (w.alloc (.cells #[.bool s1,.slice a1 n1 c1,.bool s2,.slice a2 n2 c2] 33)):=(Ext.refl _).alloc _;refine hK.out _ _ e9 ?_ (FreshIf.no hb);rw[hi];refine⟨_,rfl,λj q hq=>?_⟩;rcases j with _|_|j
    · obtain rfl:z1=q:=by simpa using hq
      exact⟨_,_,_,_,Bo.newI _ _ _ _ _ _ _ _ rfl rfl,(IsI.ext ⟨_,_,_,_,rfl,h1.mono l1⟩ e9)⟩
    · obtain rfl:z2=q:=by simpa using hq
      exact⟨_,_,_,_,Bo.newI _ _ _ _ _ _ _ _ rfl rfl,(IsI.ext ⟨_,_,_,_,rfl,h2.mono l2⟩ e9)⟩
    ·simp at hq⟩
end
section
variable (w:World) (s0 s1 s2:Bool) (a0 a1 a2:Option Addr) (n0 c0 n1 c1 n2 c2:Nat)
end
theorem and1N(a:Nat)(ha:a<18446744073709551616):bits .and .u64 (a:Int) 1=((a%2:Nat):Int):=by
  have h:=bits_and_u64_nat a 1 ha zb;have e:a&&&1=a%2:=Nat.and_two_pow_sub_one_eq_mod a 1;rw[e]at h;exact h
theorem Div64_f(w:World)(lo n:Nat)(hl:lo<18446744073709551616)(hn:0<n)(hn2:n<18446744073709551616):
    Calls prog 196 #[.int .u64 0,.int .u64 (lo:Int),.int .u64 (n:Int)] w (Ret w (IsT2 (IsV (.int .u64 ((lo/n:Nat):Int))) (IsV (.int .u64 ((lo%n:Nat):Int))))):=by
  have h0:((n:Int)==0)=false:=jk
  have h1:decide ((n:Int)<=0)=false:=by rw[zK];omega
  have h2:(lo:Int).tdiv (n:Int)=((lo/n:Nat):Int):=by rw[Int.tdiv_eq_ediv_of_nonneg (by omega)];exact(Int.natCast_ediv lo n).symm
  have h3:(lo:Int).tmod (n:Int)=((lo%n:Nat):Int):=by rw[zG (by omega)];exact(zM lo n).symm
  have h2':(lo:Int)/(n:Int)=((lo/n:Nat):Int):=(Int.natCast_ediv lo n).symm;have h3':(lo:Int)%(n:Int)=((lo%n:Nat):Int):=(zM lo n).symm;have h4:lo/n<18446744073709551616:=Nat.lt_of_le_of_lt (Nat.div_le_self _ _) hl;have h5:lo%n<18446744073709551616:=Nat.lt_of_le_of_lt (Nat.mod_le _ _) hl;generalize hq:lo/n=q at*;generalize hr:lo%n=r at*;have h6:IntKind.u64.wrap (q:Int)=(q:Int):=xc
  have h7:IntKind.u64.wrap (r:Int)=(r:Int):=xc
  have h8:¬(n:Int)<=0:=zb
  have h9:n≠0:=zb
  have hn':=hid hn;clear hl hn hn2 h4 h5 hq hr;have H0:=hid h0;have H2:=hid (zJ h2 h2');have H3:=hid (zJ h3 h3');have H6:=hid h6;have H7:=hid h7;clear h2 h2' h3 h3' h6 h7;obtain⟨W,hW,S⟩:∃W,W=w/\Sto w W []:=⟨_,rfl,(Sto.start w)⟩;go_enter func196,ntmps196;go_upto_region 1 with fail;rw[<-hW];clear hW;go_upto_region 5 with fail;refine rgt S 2 [some 26,some 27] [IsV (.int .u64 0),IsV (.bool true)] ?_ ?_
  · refine Rc jm ?_
    refine Rc (bn (r:=.bool true) (qC 0 26) qE (hr:=λw=>by go_simp)) ?_;exact rn0
  intro v W5 S hH;simp only[lxE,Nat.reduceAdd];rw[show v 1=.bool true from hH 1 dcx];clear hH;go_upto_region 6 with fail;refine rg 8 [some 28,some 29,some 30,some 31,some 32,some 33,some 6,some 7] [IsV (.int .u64 (lo:Int)),IsV (.int .u64 (n:Int)),IsV (.int .u64 (q:Int)),IsV (.int .u64 (lo:Int)),IsV (.int .u64 (n:Int)),IsV (.int .u64 (r:Int)),IsV (.int .u64 (q:Int)),IsV (.int .u64 (r:Int))] [] 0 ?_ ?_
  · refine Rc (mv (qD 1)) ?_
    refine Rc zcl ?_;refine Rc (bn (r:=.int .u64 (q:Int)) (qC 0 28) (qC 1 29) (hr:=λw=>by have hx9:=H0.out;obtain⟨hx8,hx6⟩:=H2.out;have hx7:=H6.out;go_simp)) ?_;refine Rc (mv (qD 1)) ?_;refine Rc zcl ?_;refine Rc (bn (r:=.int .u64 (r:Int)) (qC 3 31) (qC 4 32) (hr:=λw=>by have hx9:=H0.out;obtain⟨hx8,hx6⟩:=H3.out;have hx7:=H7.out;go_simp)) ?_;refine Rc (mv (qA 2 30)) ?_;refine Rc (mv (qA 5 33)) ?_;exact rn0
  intro v W6 e1 hH _;replace S:=S.mono e1;simp only[lxE,Nat.reduceAdd];rw[show v 6=.int .u64 (q:Int)from hH 6 dcx,show v 7=.int .u64 (r:Int)from hH 7 dcx];clear hH e1;refine zO za ?_ _;go_wp2_with fail;exact zD (v:=.tuple #[.int .u64 (q:Int),.int .u64 (r:Int)]) zb1 rfl (⟨_,rfl,S.ext,_,_,rfl,rfl,rfl⟩)
theorem pw_step(n R a x e:Nat)(h:x*a^e%n=R)(h1:e%2=1):(x*a%n)*(a*a%n)^(e/2)%n=R:=by
  have he:e=2*(e/2)+1:=zb
  conv at h=>lhs;lhs;rw[he,Nat.pow_succ,Nat.pow_mul,Nat.pow_two]
  rw[<-h,Nat.mul_mod,Nat.mod_mod,Nat.pow_mod,Nat.mod_mod,<-Nat.pow_mod,<-Nat.mul_mod,Nat.mul_comm ((a*a)^(e/2)) a,Nat.mul_assoc]
theorem pw_skip(n R a x e:Nat)(h:x*a^e%n=R)(h1:e%2=0):x*(a*a%n)^(e/2)%n=R:=by
  have he:e=2*(e/2):=zb
  conv at h=>lhs;lhs;rw[he,Nat.pow_mul,Nat.pow_two]
  rw[<-h,Nat.mul_mod,Nat.pow_mod,Nat.mod_mod,<-Nat.pow_mod,<-Nat.mul_mod]
set_option maxRecDepth 1000000
theorem chR_a:chR 43 57=true:=by decide +kernel
theorem chR_b:chR 100 200=true:=by decide +kernel
theorem chR_c:chR 300 724=true:=by decide +kernel
theorem chQ_all:∀p,43<=p->p<1024->chQ p=true:=by
  intro p h1 h2;rcases zQ p 100 with h|h
  ·exact chR_spec _ chR_a p h1 zb
  rcases zQ p 300 with h'|h'
  ·exact chR_spec _ chR_b p h zb
  ·exact chR_spec _ chR_c p h' zb
theorem mulp_g(w:World)(n a b:Nat)(hn:0<n/\n<9223372036854775808)(ha:a<2^Lib.bitLen n)(hb:b<2^Lib.bitLen n):
    Calls prog 173 #[.int .u64 (a:Int),.int .u64 (b:Int),.int .u64 (n:Int)] w (Ret w (λv _=>∃r:Nat,v=.int .u64 (r:Int)/\r<2^Lib.bitLen n/\(n<4294967296->a<n->b<n->r=a*b%n))):=by
  obtain⟨hb1,hb2,hb3⟩:=Lib.bitLenAux_bounds 64 n zb zb;have e64:Lib.bitLenAux 64 n=Lib.bitLen n:=rfl;rw[e64]at hb1 hb2 hb3;clear e64
  have ht:Lib.bitLen n<=63:=by
    rcases zQ 63 (Lib.bitLen n)with h|h
    · have h1:=Nat.pow_le_pow_right (n:=2) dcx (show 63<=Lib.bitLen n-1 by omega)
      have:(2:Nat)^63=9223372036854775808:=zdp
      omega
    ·exact h
  have hT:2^Lib.bitLen n<=9223372036854775808:=Nat.pow_le_pow_right (n:=2) dcx ht;have hm:=Tryz.bits_Mul64 a b zb zb;have hlo:a*b%18446744073709551616<18446744073709551616:=zR _ dcx;have hdm:=Nat.div_add_mod (a*b) 18446744073709551616;rcases zI (a*b/18446744073709551616)with h0|h0
  · rw[h0,Nat.mul_zero,Nat.zero_add]at hdm
    rw[h0,hdm]at hm;rw[hdm]at hlo;have hd:=λw=>Div64_f w (a*b) n hlo hn.1 zb
    have hr:=zR (a*b) hn.1;have HF:=hid (show a*b%n<2^Lib.bitLen n by omega);clear hdm hlo h0 hT ht hb1 hb2 hb3 ha hb hn hr;generalize a*b=c at*;generalize c/n=q at*;generalize c%n=r at*;go_enter func173,ntmps173;go_wp2_with (first| (go_at_call 179;go_must (refine zC (hm _) ?_;rintro e w1 ⟨rfl,rfl⟩;clear hm))| (go_at_call 196;go_must (refine zC (hd _) ?_;rintro e w2 ⟨_,rfl,E2,_,_,rfl,rfl,rfl⟩;clear hd)))
    exact zD (v:=.int .u64 (r:Int)) (by simp[results,results173,go_sem]) rfl ⟨_,rfl,E2,r,rfl,HF.out,λ_ _ _=>rfl⟩
  · have hhi:a*b/18446744073709551616<n:=by
      have h1:a*b<2^Lib.bitLen n*2^Lib.bitLen n:=Nat.mul_lt_mul'' ha hb
      have h2:2^Lib.bitLen n*2^Lib.bitLen n<=2^(Lib.bitLen n-1)*18446744073709551616:=by
        rw[show(18446744073709551616:Nat)=2^64 from rfl,<-Nat.pow_add,<-Nat.pow_add];exact Nat.pow_le_pow_right dcx zb
      have h3:a*b<n*18446744073709551616:=Nat.lt_of_lt_of_le h1 (zN h2 (Nat.mul_le_mul_right _ hb2));exact(Nat.div_lt_iff_lt_mul dcx).2 h3
    have HF:=hid (show ∀r,n<4294967296->a<n->b<n->r=a*b%n from λr h1 h2 h3=>by
      have h4:a*b<4294967296*4294967296:=Nat.mul_lt_mul'' zb zb;rw[Nat.div_eq_of_lt (by omega)]at h0
      omega)
    have hd:=λw=>Div64_h w _ _ n h0 hhi hlo hn.2
    clear hdm hlo h0 hT ht hb1 hb2 hb3 ha hb hn hhi;generalize a*b/18446744073709551616=hi at*;generalize a*b%18446744073709551616=lo at*;go_enter func173,ntmps173;go_wp2_with (first| (go_at_call 179;go_must (refine zC (hm _) ?_;rintro e w1 ⟨rfl,rfl⟩;clear hm))| (go_at_call 196;go_must (refine zC (hd _) ?_;rintro e w2 ⟨_,rfl,E2,q,r,rfl,hr⟩;clear hd)))
    exact zD (v:=.int .u64 (r:Int)) (by simp[results,results173,go_sem]) rfl ⟨_,rfl,E2,r,rfl,hr,HF.out r⟩
theorem strong_g (w:World)(hT:Tzt w)(n b s d T:Nat)(hn:43<=n/\n<9223372036854775808)(hb:0<b/\b<43)(hd:n-1=2^s*d)(hdo:d%2=1)(hTn:n<T)
    (hmul:∀w a b,a<T->b<T->Calls prog 173 #[.int .u64 ((a:Nat):Int),.int .u64 ((b:Nat):Int),.int .u64 (n:Int)] w (Ret w (λv _=>∃r:Nat,v=.int .u64 (r:Int)/\r<T/\(n<4294967296->a<n->b<n->r=a*b%n)))):
    Calls prog 134 #[.int .u64 (n:Int),.int .u64 (b:Int)] w (Ret w (λv _=>∃B:Bool,v=.bool B/\(n<4294967296->B=stg n s d b))):=by
  have hx1:(b:Int).tmod (n:Int)=(b:Int):=by rw[zG (by omega)];exact Int.emod_eq_of_lt zb zb
  have hx2:(b:Int)%(n:Int)=(b:Int):=Int.emod_eq_of_lt zb zb;have hx0:¬n=0:=zb
  have hx3:IntKind.u64.wrap (b:Int)=(b:Int):=xc
  have hx4:((b:Int)==0)=false:=jk
  have hx5:((n:Int)==0)=false:=jk
  have hx6:IntKind.u64.wrap ((n:Int)-1)=((n-1:Nat):Int):=xc
  have htz:=tz_g w hT s d (n-1) hd hdo zb;have hp:0<2^s:=Nat.pow_pos dcx
  have hs64:s<64:=by
    rcases zQ s 64 with h1|h1
    ·exact h1
    · have h2:=Nat.pow_le_pow_right (n:=2) dcx h1
      have h3:=Nat.le_mul_of_pos_right (2^s) (show 0<d by omega);omega
  have hdiv:(n-1)/2^s=d:=by rw[hd,Nat.mul_div_cancel_left _ hp]
  obtain⟨m,hm⟩:∃m,n-1=m:=⟨_,rfl⟩;rw[hm]at hx6 htz hdiv;have hdv:(m:Int)/2^s=(d:Int):=by rw[<-hdiv];simp
  have hsn:(s:Int).toNat=s:=zh
  have hs0:0<=(s:Int):=zb
  have hs1:(s:Int)<64:=zb
  have hdm:d<=m:=by rw[<-hdiv];exact Nat.div_le_self _ _
  have HM:=hid (show m+1=n/\n<9223372036854775808/\42<=m/\d<=m/\s<64 by omega);obtain⟨R,hR⟩:∃R,b^d%n=R:=⟨_,rfl⟩;have HB:=hid (zJ hb (zJ hR (show stg n s d b=(decide (R=1)||sqs n s R)by rw[<-hR];rfl)));have HTN:=hid hTn;have HMUL:=hid hmul;clear hn hm hb hR hd hdo hp hs64 hdiv hdm hmul hTn hT;go_enter func134,ntmps134;go_upto_region 7 with(go_at_call 172;go_must (refine zC htz ?_;rintro e w1 ⟨_,rfl,E1,rfl⟩;clear htz));clear hx1 hx2 hx3 hx4 hx5 hx0 hx6 hdv hsn hs0 hs1;have hn0:¬n=0:=zbm
  go_loopg [1,6,7] d (λgk v1 v6 v7 wr=>∃(a x e:Nat) (ze:Int),v1=.int .u64 (a:Int)/\v6=.int .u64 (x:Int)/\v7=.int .u64 ze/\ze=(e:Int)/\a<T/\x<T/\e=gk/\e<9223372036854775808/\(n<4294967296->a<n/\x<n/\x*a^e%n=R)/\Ext w wr)
  case atStart=>
    have h1:=HB.out;have h2:=HM.out;have h3:=HTN.out;exact⟨b,1,d,_,rfl,rfl,rfl,by omega,by omega,by omega,rfl,by omega,λ_=>⟨by omega,by omega,by rw[Nat.one_mul];exact h1.2.1⟩,E1⟩
  case round=>
    obtain⟨a,x,e,ze,rfl,rfl,rfl,hze,ha,hx,he,he6,hp,EW⟩:=hrel;rcases zI e with h0|h0
    · obtain rfl:ze=0:=by omega
      have hxR:n<4294967296->x<n/\x=R:=λh=>⟨(hp h).2.1,by have h1:=(hp h).2.2;rw[h0,Nat.pow_zero,Nat.mul_one,Nat.mod_eq_of_lt (hp h).2.1]at h1;exact h1⟩
      have HX:=hid (zJ hx hxR);clear hze ha hx he he6 hp h0 hxR;by_cases hone:x=1
      · subst hone
        go_wp2_with fail
        exact zD (v:=.bool true) (by simp[results,results134,go_sem]) rfl ⟨_,rfl,EW,_,rfl,λh=>by
          have h1:=(HX.out.2 h).2
          rw[HB.out.2.2,<-h1];simp⟩
      · have hx1:((x:Int)==1)=false:=by rw[zH];omega
        go_upto_region 15 with fail;have hm1:IntKind.u64.wrap ((n:Int)-1)=(m:Int):=by have:=HM.out;rw[IntKind.wrap_u64];omega
        have HSG:=hid (show n<4294967296->x<n/\stg n s d b=sqs n s x from λh=>⟨(HX.out.2 h).1,by have h1:=(HX.out.2 h).2;rw[HB.out.2.2,<-h1,decide_eq_false hone];rfl⟩);obtain⟨wz,hwz⟩:∃wz,wr=wz:=⟨_,rfl⟩;rw[hwz];have HWZ:=hid (hwz▸EW);have HXT:=hid (HX.out.1);clear hwz HX EW hone hx1;obtain⟨x0,hx0⟩:∃x0,x0=x:=⟨_,rfl⟩
        go_loopg [6,38] s (λgk2 v6 v38 wr'=>∃(y i:Nat),v6=.int .u64 (y:Int)/\v38=.int .i64 (i:Int)/\i+gk2=s/\y<T/\Hid ((n<4294967296->y<n/\stg n s d b=sqs n gk2 y)/\Ext w wr'))
        case atStart=>exact⟨x,0,rfl,rfl,by omega,HXT.out,hid ⟨HSG.out,HWZ.out⟩⟩
        case round=>
          clear hx0;obtain⟨y,i,rfl,rfl,hi,hyT,HQ⟩:=hrel;rcases zI gk with hg0|hg0
          · have hlt:decide ((i:Int)<(s:Int))=false:=by rw[zK];omega
            have hlt2:s<=i:=zb
            have HG0:=hid hg0;clear hi hyT hg0;go_wp2_with fail
            exact zD (v:=.bool false) (by simp[results,results134,go_sem]) rfl ⟨_,rfl,HQ.out.2,_,rfl,λh=>by
              have h1:=(HQ.out.1 h).2
              rw[h1,HG0.out];rfl⟩
          · obtain⟨g3,rfl⟩:∃g3,gk=g3+1:=⟨gk-1,by omega⟩
            have hlt:decide ((i:Int)<(s:Int))=true:=by rw[zU];omega
            have hlt2:i<s:=zb
            have hi1:IntKind.i64.wrap ((i:Int)+1)=(i:Int)+1:=by have:=HM.out;simp only[IntKind.wrap_i64];omega
            by_cases hym:y=m
            · subst hym
              clear hi hyT hg0;go_wp2_with fail
              exact zD (v:=.bool true) (by simp[results,results134,go_sem]) rfl ⟨_,rfl,HQ.out.2,_,rfl,λh=>by
                have h1:=(HQ.out.1 h).2;have h2:=HM.out
                rw[h1,sqs,if_pos (by omega)]⟩
            · have hyb:((y:Int)==(m:Int))=false:=by rw[zH];omega
              have hmu:=λw=>HMUL.out w y y hyT hyT
              have HYM:=hid hym;have HI:=hid hi;clear hyT hym hi hg0;go_wp2_with (go_at_call 173;go_must (refine zC (hmu _) ?_;rintro e w2 ⟨_,rfl,E2,yy,rfl,hyy,hyq⟩;clear hmu))
              go_roundg g3
              case measure=>omega
              case rel=>
                refine⟨yy,i+1,rfl,by rw[zV];rfl,by have:=HI.out;omega,hyy,hid ⟨λh=>?_,HQ.out.2.trans E2⟩⟩;have h1:=HQ.out.1 h;have h2:=HM.out;have h3:=hyq h h1.1 h1.1;refine⟨by rw[h3];exact zR _ zb,?_⟩;rw[h1.2,sqs,if_neg (by have:=HYM.out;omega),h3]
    · have hz0:(0:Int)<ze:=by omega
      rcases Nat.mod_two_eq_zero_or_one e with h2|h2
      · have hb1:bits .and .u64 ze 1=0:=by rw[hze,and1N e (by omega),h2];rfl
        have H:=hid (zJ hze (zJ he (zJ he6 (zJ hp (zJ h2 (zJ ha (zJ hx h0)))))));have hm1:=λw=>HMUL.out w a a ha ha
        have hw2:ze/2=((e/2:Nat):Int):=zb
        clear hze he he6 hp h2 ha hx h0;go_wp2_with (go_at_call 173;go_must (refine zC (hm1 _) ?_;rintro e w1 ⟨_,rfl,E2,aa,rfl,haa,haq⟩;clear hm1))
        go_roundg (gk/2)
        case measure=>obtain⟨q1,q2,q3,q4,q5,q6,q7,q8⟩:=H.out;omega
        case rel=>
          obtain⟨q1,q2,q3,q4,q5,q6,q7,q8⟩:=H.out;refine⟨aa,x,e/2,_,rfl,rfl,rfl,by omega,haa,q7,by omega,by omega,λh=>?_,EW.trans E2⟩;obtain⟨j1,j2,j3⟩:=q4 h;have j4:=haq h j1 j1;exact⟨by rw[j4];exact zR _ zb,j2,by rw[j4];exact pw_skip n R a x e j3 q5⟩
      · have hb1:bits .and .u64 ze 1=1:=by rw[hze,and1N e (by omega),h2];rfl
        have H:=hid (zJ hze (zJ he (zJ he6 (zJ hp (zJ h2 (zJ ha (zJ hx h0)))))));have hm1:=λw=>HMUL.out w a a ha ha
        have hm2:=λw=>HMUL.out w x a hx ha
        clear hze he he6 hp h2 ha hx h0;go_wp2_with (go_at_call 173;go_must (first| (refine zC (hm2 _) ?_;rintro e w1 ⟨_,rfl,E2,xx,rfl,hxx,hxq⟩;clear hm2)| (refine zC (hm1 _) ?_;rintro e w2 ⟨_,rfl,E3,aa,rfl,haa,haq⟩;clear hm1)))
        go_roundg (gk/2)
        case measure=>obtain⟨q1,q2,q3,q4,q5,q6,q7,q8⟩:=H.out;omega
        case rel=>
          obtain⟨q1,q2,q3,q4,q5,q6,q7,q8⟩:=H.out;refine⟨aa,xx,e/2,_,rfl,rfl,rfl,by omega,haa,hxx,by omega,by omega,λh=>?_,(EW.trans E2).trans E3⟩;obtain⟨j1,j2,j3⟩:=q4 h;have j4:=haq h j1 j1;have j5:=hxq h j2 j1;exact⟨by rw[j4];exact zR _ zb,by rw[j5];exact zR _ zb,by rw[j4,j5];exact pw_step n R a x e j3 q5⟩
theorem isPrime1_g(w:World)(pa:Addr)(n b:Nat)(Q:Bool->Prop)(hc:World.cell? w pa=some (.int .u64 (n:Int)))(hs:∀w,Tzt w->Calls prog 134 #[.int .u64 (n:Int),.int .u64 (b:Int)] w (Ret w (λv _=>∃B:Bool,v=.bool B/\Q B)))(hT:Tzt w):
    Calls prog 133 #[.int .u64 (b:Int),.pointer (some pa)] w (Ret w (λv _=>∃B:Bool,v=.bool (!B)/\Q B)):=by
  have hs:=hs w hT;clear hT;go_enter func133,ntmps133;go_wp2_with (go_at_call 134;go_must (refine zC hs ?_;rintro e w1 ⟨_,rfl,E1,B,rfl,hB⟩;clear hs))
  exact zD (v:=.bool (!B)) (by simp[results,results133,go_sem]) rfl ⟨_,rfl,E1,B,rfl,hB⟩
theorem ixf_g(w:World)(pa:Addr)(g:Nat)(Q:Nat->Bool->Prop)(hc:∀j,j<13->World.cell? w ⟨g,j,none⟩=some (.int .u64 ((prBases.getD j 1:Nat):Int)))
    (hF:∀j,j<13->∀w',Ext w w'->Calls prog 133 #[.int .u64 ((prBases.getD j 1:Nat):Int),.pointer (some pa)] w' (Ret w' (λv _=>∃B:Bool,v=.bool (!B)/\Q j B))):
    Calls prog 171 #[.slice (some ⟨g,0,none⟩) 13 13,.func (.func 133) #[] #[.pointer (some pa)]] w (Ret w (λv _=>∃i:Int,v=.int .i64 i/\((i= -1/\∀j,j<13->Q j true)\/(0<=i/\∃j,j<13/\Q j false)))):=by
  go_enter func171,ntmps171;go_wp2_with fail
  go_loopg [5,8] 13 (λgk _ v8 wr=>∃(j:Nat) (z:Int),v8=.int .i64 z/\z=(j:Int)/\j+gk=13/\Hid (∀j',j'<j->Q j' true)/\Ext w wr)
  case atStart=>exact⟨0,0,rfl,rfl,rfl,hid (λj h=>absurd h (Nat.not_lt_zero _)),Ext.refl _⟩
  case round=>
    obtain⟨j,z,rfl,hz,hg,HQ,EW⟩:=hrel;rcases zQ j 13 with hj|hj
    · have hz1:z<13:=by omega
      have hz2:0<=z:=zb
      have hcell:=EW.cell (hc j hj);have hcall:=hF j hj wr EW;obtain⟨b,hb⟩:∃b:Nat,prBases.getD j 1=b:=⟨_,rfl⟩;rw[hb]at hcell hcall;obtain⟨jj,rfl⟩:∃jj:Nat,jj=j:=⟨_,rfl⟩;have H:=hid (zJ hg hj);subst hz;clear hg hj hb hc hF;go_wp2_with (go_at_call 133;go_must (refine zC hcall ?_;rintro e w1 ⟨_,rfl,E1,B,rfl,hB⟩;clear hcall;cases B))
      all_goals first
      | (exact zD (v:=.int .i64 (jj:Int)) (by simp[results,results171,go_sem]) rfl ⟨_,rfl,EW.trans E1,_,rfl,Or.inr ⟨by omega,jj,H.out.2,hB⟩⟩)
      |skip
      go_roundg (gk-1)
      case measure=>have:=H.out;omega
      case rel=>
        have:=H.out
        exact⟨jj+1,_,rfl,by omega,by omega,hid (λj' hj'=>by
          rcases zQ j' jj with h|h
          ·exact HQ.out j' h
          · obtain rfl:j'=jj:=by omega
            exact hB),EW.trans E1⟩
    · obtain rfl:z=13:=by omega
      have HQ13:=hid (show ∀j,j<13->Q j true from λj' h'=>HQ.out j' zb);clear hz hg hj;go_wp2_with fail;exact zD (v:=.int .i64 (-1)) (by simp[results,results171,go_sem]) rfl ⟨_,rfl,EW,_,rfl,Or.inl ⟨rfl,HQ13.out⟩⟩
theorem cof_g(w:World)(pa:Addr)(g:Nat)(Q:Nat->Bool->Prop)(hc:∀j,j<13->World.cell? w ⟨g,j,none⟩=some (.int .u64 ((prBases.getD j 1:Nat):Int)))
    (hF:∀j,j<13->∀w',Ext w w'->Calls prog 133 #[.int .u64 ((prBases.getD j 1:Nat):Int),.pointer (some pa)] w' (Ret w' (λv _=>∃B:Bool,v=.bool (!B)/\Q j B))):
    Calls prog 132 #[.slice (some ⟨g,0,none⟩) 13 13,.func (.func 133) #[] #[.pointer (some pa)]] w (Ret w (λv _=>∃C:Bool,v=.bool (!C)/\(C=true->∀j,j<13->Q j true)/\(C=false->∃j,j<13/\Q j false))):=by
  have hx:=ixf_g w pa g Q hc hF;clear hc hF;go_enter func132,ntmps132;go_wp2_with (go_at_call 171;go_must (refine zC hx ?_;rintro e w1 ⟨_,rfl,E1,i,rfl,hi⟩;clear hx))
  refine zD (v:=.bool (decide (0<=i))) (by simp[results,results132,go_sem]) rfl ⟨_,rfl,E1,!(decide (0<=i)),by simp,?_,?_⟩
  · intro h
    rcases hi with⟨_,h2⟩| ⟨h1,_⟩
    ·exact h2
    ·simp[h1]at h
  · intro h
    rcases hi with⟨h1,_⟩| ⟨_,h2⟩
    ·subst h1;simp at h
    ·exact h2
theorem pri_ixg(w:World)(i:Nat)(hi:i<13):(Instr.index 168 (.agg #[.int .u64 2,.int .u64 3,.int .u64 5,.int .u64 7,.int .u64 11,.int .u64 13,.int .u64 17,.int .u64 19,.int .u64 23,.int .u64 29,.int .u64 31,.int .u64 37,.int .u64 41]) (.int .i64 (i:Int))).run prog w=.ok (.int .u64 ((prBases.getD i 1:Nat):Int)) w:=by
  rcases(show i=0\/i=1\/i=2\/i=3\/i=4\/i=5\/i=6\/i=7\/i=8\/i=9\/i=10\/i=11\/i=12 by omega)with rfl|rfl|rfl|rfl|rfl|rfl|rfl|rfl|rfl|rfl|rfl|rfl|rfl
  all_goals first
  |rfl
  | (simp[Instr.index,go_sem,prBases];done)
def IsBq(Q:Bool->Prop):Value->World->Prop:=λv _=>∃B:Bool,v=.bool B/\Q B
def PrS(N:Nat)(v:Bool):Prop:=N<1048576->(v=true↔Pr N)
theorem isPrime_g(w:World)(N i0:Nat)(hN:N<9223372036854775808)(hi0:i0<=13)(hd:i0<13->N%prBases.getD i0 1=0)(hlt:∀j,j<i0->N%prBases.getD j 1≠0)(hT:Tzt w):
    Calls prog 86 #[.int .u64 (N:Int)] w (Ret w (IsBq (PrS N))):=by
  obtain⟨W,hW,E,C1⟩:∃W,W=w.alloc (.cells #[.int .u64 (N:Int)] 99)/\Ext w W/\World.cell? W ⟨w.heap.size,0,none⟩=some (.int .u64 (N:Int)):=
    ⟨_,rfl,(Ext.refl _).alloc _,by simp⟩
  have HN:=hid hN;have HD:=hid hd;have HLT:=hid hlt;have HT:=hid (hT.ext E);have HI:=hid hi0;clear hN hd hlt hT hi0;go_enter func86,ntmps86;go_upto_region 1 with fail;rw[<-hW];clear hW;go_upto_region 2 with fail;obtain⟨W2,hW2⟩:∃W2,W.alloc (.cells #[.int .u64 2,.int .u64 3,.int .u64 5,.int .u64 7,.int .u64 11,.int .u64 13,.int .u64 17,.int .u64 19,.int .u64 23,.int .u64 29,.int .u64 31,.int .u64 37,.int .u64 41] 168)=W2:=⟨_,rfl⟩;have E2:Ext W W2:=by rw[<-hW2];exact(Ext.refl _).alloc _
  have C2:World.cell? W2 ⟨w.heap.size,0,none⟩=some (.int .u64 (N:Int)):=E2.cell C1
  have hld:∀(j:Nat) (v:Value),(#[.int .u64 2,.int .u64 3,.int .u64 5,.int .u64 7,.int .u64 11,.int .u64 13,.int .u64 17,.int .u64 19,.int .u64 23,.int .u64 29,.int .u64 31,.int .u64 37,.int .u64 41]:Array Value)[j]? =some v->World.cell? W2 ⟨W.heap.size,j,none⟩=some v:=by
    intro j v hj;rw[<-hW2];exact qH _ _ rfl _ _ _ _ hj
  have M0:=hld 0 _ rfl;have M1:=hld 1 _ rfl;have M2:=hld 2 _ rfl;have M3:=hld 3 _ rfl;have M4:=hld 4 _ rfl;have M5:=hld 5 _ rfl;have M6:=hld 6 _ rfl;have M7:=hld 7 _ rfl;have M8:=hld 8 _ rfl;have M9:=hld 9 _ rfl;have M10:=hld 10 _ rfl;have M11:=hld 11 _ rfl;have M12:=hld 12 _ rfl;rw[hW2];clear hW2;have HLD:=hid hld;clear hld;go_wp2_with fail;clear M0 M1 M2 M3 M4 M5 M6 M7 M8 M9 M10 M11 M12
  go_loopg [8] i0 (λgk v8 wr=>∃(i:Nat) (z:Int),v8=.int .i64 z/\z=(i:Int)/\i+gk=i0/\wr=W2)
  case atStart=>exact⟨0,0,rfl,rfl,by omega,rfl⟩
  case round=>
    obtain⟨i,z,rfl,hz,hg,rfl⟩:=hrel;have hii:=HI.out;rcases zQ i 13 with hi|hi
    · subst hz
      have hix:=pri_ixg wr i hi;have hb2:=prB i hi;obtain⟨b,hb⟩:∃b:Nat,prBases.getD i 1=b:=⟨_,rfl⟩;rw[hb]at hix hb2;obtain⟨r,hr2⟩:∃r,N%b=r:=⟨_,rfl⟩;have hrb:r<b:=by rw[<-hr2];exact zR _ zb
      have hx1:(N:Int).tmod (b:Int)=(r:Int):=by rw[zG (by omega),<-zM,hr2]
      have hx2:(N:Int)%(b:Int)=(r:Int):=by rw[<-zM,hr2]
      have hx4:IntKind.u64.wrap (r:Int)=(r:Int):=xj
      have hx5:((b:Int)==0)=false:=jk
      have hx6:¬b=0:=zb
      have hlt13:decide ((i:Int)<13)=true:=by rw[zU];omega
      have hil:(i:Int)<13:=zb
      have hi1:IntKind.i64.wrap ((i:Int)+1)=(i:Int)+1:=zo
      have HB:=hid (zJ hb (zJ hi (zJ hg (zJ hr2 (zJ hb2 hrb)))));rcases zI r with h0|h0
      · have HR0:=hid h0
        subst h0;clear hb hi hg hr2 hb2 hrb hii;go_wp2_with fail;refine zD (v:=.bool ((N:Int)==(b:Int))) (by simp[results,results86,go_sem]) rfl ⟨_,rfl,E.trans E2,_,rfl,λ_=>?_⟩;obtain⟨g1,g2,g3,g4,g5,g6⟩:=HB.out;have h7:=pr_small (n:=N) g2 (by rw[g1];exact g4);rw[g1]at h7;rw[<-h7,beq_iff_eq];omega
      · have hx3:((r:Int)==0)=false:=by rw[zH];omega
        have hgk:0<gk:=by
          rcases zI gk with h1|h1
          · have h2:i=i0:=by omega
            have h3:=HD.out zb;rw[<-h2,hb,hr2]at h3;omega
          ·exact h1
        have HGK:=hid hgk;clear hb hi hg hr2 hb2 hrb hii h0 hgk;go_wp2_with fail
        go_roundg (gk-1)
        case measure=>have:=HGK.out;omega
        case rel=>exact⟨i+1,_,rfl,by omega,by have:=HB.out.2.2.1;have:=HGK.out;omega,rfl⟩
    · obtain rfl:i=13:=by omega
      obtain rfl:z=13:=zb
      have h13:i0=13:=zb
      subst h13;clear hz hg hi hii;have hall:∀j,j<13->N%prBases.getD j 1≠0:=HLT.out;have hN0:N≠0:=λh=>hall 0 dcx (by rw[h];exact Nat.zero_mod _)
      rcases zQ 1 N with h1|h1
      · have h43:43<=N:=by
          rcases zQ N 43 with h|h
          · obtain⟨j,hj,hm⟩:=prLow N h h1
            exact absurd hm (hall j hj)
          ·exact h
        obtain⟨s,d,hsd,hdo⟩:∃s d,N-1=2^s*d/\d%2=1:=by
          obtain⟨m,e,hm,_⟩:=xS (p:=2) (n:=N-1) dcx zb
          exact⟨_,_,e,by
            rcases Nat.mod_two_eq_zero_or_one m with h|h
            ·exact absurd (Nat.dvd_of_mod_eq_zero h) hm
            ·exact h⟩
        obtain⟨hb1,hb2',hb3⟩:=Lib.bitLenAux_bounds 64 N zda zb
        have hst:∀j,j<13->∀w,Tzt w->Calls prog 134 #[.int .u64 (N:Int),.int .u64 ((prBases.getD j 1:Nat):Int)] w (Ret w (λv _=>∃B:Bool,v=.bool B/\(N<4294967296->B=stg N s d (prBases.getD j 1)))):=λj hj w hw=>by
          have h5:=prB j hj;exact strong_g w hw N _ s d (2^Lib.bitLen N) ⟨h43,HN.out⟩ ⟨by omega,by omega⟩ hsd hdo hb3 (λw a b ha hb=>mulp_g w N a b ⟨by omega,HN.out⟩ ha hb)
        have hcon:=cof_g wr ⟨w.heap.size,0,none⟩ W.heap.size (λj B=>N<4294967296->B=stg N s d (prBases.getD j 1)) (λj hj=>HLD.out j _ ((show ∀j,j<13->(#[.int .u64 2,.int .u64 3,.int .u64 5,.int .u64 7,.int .u64 11,.int .u64 13,.int .u64 17,.int .u64 19,.int .u64 23,.int .u64 29,.int .u64 31,.int .u64 37,.int .u64 41]:Array Value)[j]? =some (.int .u64 ((prBases.getD j 1:Nat):Int))from λj hj=>by
            rcases(show j=0\/j=1\/j=2\/j=3\/j=4\/j=5\/j=6\/j=7\/j=8\/j=9\/j=10\/j=11\/j=12 by omega)with rfl|rfl|rfl|rfl|rfl|rfl|rfl|rfl|rfl|rfl|rfl|rfl|rfl <;> rfl) j hj))
          (λj hj w' E'=>isPrime1_g w' _ N _ _ (E'.cell C2) (hst j hj) (HT.out.ext (E2.trans E')))
        have HL:=hid (show N<1048576->((∀j,j<13->stg N s d (prBases.getD j 1)=true)↔Pr N)from λh=>pr_law chQ_all h43 h hall hsd hdo);have hN1:(1:Int)<(N:Int):=zb
        clear hall hN0 h1 h43 hsd hdo hb1 hb2' hb3 hst;go_wp2_with (go_at_call 132;go_must (refine zC hcon ?_;rintro e w1 ⟨_,rfl,E1,C,rfl,hC1,hC2⟩;clear hcon))
        refine zD (v:=.bool C) (by simp[results,results86,go_sem]) rfl ⟨_,rfl,(E.trans E2).trans E1,C,rfl,λh=>?_⟩;rw[<-HL.out h];constructor
        · intro hC j hj
          exact(hC1 hC j hj zb).symm
        · intro hA
          cases hC:C with
          |true=>rfl
          | false=>
            obtain⟨j,hj,hq⟩:=hC2 hC;rw[hA j hj]at hq;exact absurd (hq zb) dcx
      · have hN1:N=1:=by omega
        subst hN1;clear hall hN0 h1;go_wp2_with fail;exact zD (v:=.bool false) (by simp[results,results86,go_sem]) rfl ⟨_,rfl,E.trans E2,_,rfl,λ_=>⟨λh=>(by cases h),λh=>absurd h.1 dcx⟩⟩
open Go Go.RowKit Go.Shelf
attribute [local go_sem] Oper.semAt_some
theorem word_0(w:World)(s:Bool)(a:Option Addr)(c:Nat)(hc:c<=9223372036854775807):
    Calls prog 85 #[.agg #[.bool s,.slice a 0 c]] w (Ret w (IsT2 (IsV (.int .u64 0)) (IsV (.bool (!s))))):=by
  obtain⟨W,hW,E,C1,C2⟩:∃W,W=w.alloc (.cells #[.bool s,.slice a 0 c] 33)/\Ext w W/\World.cell? W ⟨w.heap.size,0,none⟩=some (.bool s)/\World.cell? W ⟨w.heap.size,1,none⟩=some (.slice a 0 c):=
    ⟨_,rfl,(Ext.refl _).alloc _,by simp,by simp⟩
  refine jI func85 rfl ?_;simp only[ntmps85,List.size_toArray,List.length_cons,List.length_nil,Nat.reduceAdd,Nat.reduceSub,Array.replicate_succ,Array.replicate_zero,List.push_toArray,List.append_toArray,List.nil_append,List.cons_append];go_upto_region 1 with fail;rw[<-hW];have hWs:w.heap.size<W.heap.size:=World.block_lt_of_cell? W _ C1;clear hW;go_wp2_with (go_at_call 88;refine zC (callsIn_wide.1 (back_in Fence.wide 3 trivial rfl _ _ _ _)) ?_;rintro e w' ⟨rfl,rfl⟩)
  have hmin:(min (0:Int) 2).toNat=0:=zdp
  rw[hmin];clear hmin;obtain⟨W1,hW2⟩:∃W1,(W.alloc (.cells #[.int .u64 0] 99)).alloc (.cells #[.slice a 0 c] 27)=W1:=⟨_,rfl⟩
  have V2:VarAt W.heap.size W.heap.size W (.int .u64 0) W1:=by
    have bV:=Boxed.new W 99 (.int .u64 0);rw[<-hW2];exact⟨⟨(bV.alloc _).cell,(bV.alloc _).frozen⟩,((Ext.refl _).alloc _).alloc _⟩
  have cN:World.cell? W1 ⟨W.heap.size+1,0,none⟩=some (.slice a 0 c):=by
    have bN:=Boxed.new (W.alloc (.cells #[.int .u64 0] 99)) 27 (.slice a 0 c);rw[World.size_alloc]at bN;rw[<-hW2];exact bN.cell
  have hsz:W1.heap.size=W.heap.size+2:=by rw[<-hW2];simp
  rw[hW2];clear hW2
  refine wpIn_wide.1 (wpIn_rangeFunc_ownG (n:=9) rfl dcx (gf:=136) (lb:= #[.pointer (some ⟨W.heap.size+1,0,none⟩)]) rfl trivial (en func136)
    (back_stops Fence.wide 8 trivial rfl dcx (W.heap.size+1) w.heap.size a 0 c (λ_=>0) dcx W1 zb zb cN (Or.inl rfl))
    (λh k=>h.trans k) (Kpb.put zb) (Below.refl _ _) (λ_=>rfl)
    (λpre W'=>VarAt W.heap.size W.heap.size W (.int .u64 (bval pre:Nat)) W') (λ_ _ _=>False)
    (varAt_own _ (zL _) zb) (λ_ _ _ _ _ h _ _=>h) V2 ?_ ?_ ?_ ?_ ?_)
  rotate_left
  · intro l x W' K hK
    gi_wp2
    exact hK
  · rintro l pre x W' V6 hlen
    exact absurd hlen (Nat.not_lt_zero _)
  · rintro D ys W' hD rfl V6 hK
    have C1':=Ext.cell V6.2 C1;have C2':=Ext.cell V6.2 C2;have Lg:World.cell? W' ⟨W.heap.size,0,none⟩=some (.int .u64 0):=V6.1.1;have Fg:=V6.1.2;have hfin:Ext w (W'.drew.putObj D (.deferred none)):=Below.trans (E.trans V6.2).drew (belowK_b (w:=w) (zL _) W'.drew D _ _ zb hK rfl rfl);clear V6 V2;go_wp2_with fail;cases s
    · go_region
      go_wp2_with fail;exact jY hK (v:=.tuple #[.int .u64 0,.bool true]) zb7 ⟨_,rfl,hfin,_,_,rfl,rfl,rfl⟩
    · go_region
      go_wp2_with fail;exact jY hK (v:=.tuple #[.int .u64 0,.bool false]) zb7 ⟨_,rfl,hfin,_,_,rfl,rfl,rfl⟩
  · intro D q pre W' _ _ h _
    exact h.elim
theorem least_ix(f:Nat->Nat):∀m,∃i,i<=m/\(i<m->f i=0)/\∀j,j<i->f j≠0
  |0=>⟨0,zL _,λh=>absurd h (Nat.lt_irrefl _),λj h=>absurd h (Nat.not_lt_zero _)⟩
  | m+1=>by
    obtain⟨i,h1,h2,h3⟩:=least_ix f m;rcases zQ i m with h|h
    ·exact⟨i,by omega,λ_=>h2 h,h3⟩
    · obtain rfl:i=m:=by omega
      by_cases h0:f i=0
      ·exact⟨i,by omega,λ_=>h0,h3⟩
      · refine⟨i+1,zL _,λh=>absurd h (Nat.lt_irrefl _),λj hj=>?_⟩
        rcases zQ j i with h4|h4
        ·exact h3 j h4
        · obtain rfl:j=i:=by omega
          exact h0
theorem isPrime_all(w:World)(N:Nat)(hN:N<9223372036854775808)(hT:Tzt w):
    Calls prog 86 #[.int .u64 (N:Int)] w (Ret w (IsBq (PrS N))):=by
  obtain⟨i,h1,h2,h3⟩:=least_ix (λj=>N%prBases.getD j 1) 13;exact isPrime_g w N i hN h1 h2 h3 hT
theorem IsI.sgn{k:Nat}{z:Int}{w:World}{s:Bool}{a:Option Addr}{n c:Nat}(h:IsI k z (.agg #[.bool s,.slice a n c]) w):s=decide (z<0):=by
  by_cases h0:0<=z
  ·rw[h.pos' h0,decide_eq_false (by omega)]
  · rw[decide_eq_true (by omega)]
    obtain⟨_,_,_,_,e,m,_,_,he⟩:=h;injection e with e;injection e with e;simp only[List.cons.injEq,Value.bool.injEq,Value.slice.injEq,and_true]at e;obtain⟨rfl,_⟩:=e;cases s
    ·simp only[Bool.false_eq_true,if_false]at he;omega
    ·rfl
def IsP(z:Int)(B:Bool):Prop:=z<1048576->(B=true↔(0<=z/\Pr z.toNat))
theorem Is_g{x:Value}{w:World}(z:Int)(hz: -9223372036854775808<=z/\z<=9223372036854775807)(hT:Tzt w)(hx:IsI 2 z x w):Calls prog 40 #[x] w (Ret w (IsT2 (IsBq (IsP z)) (iV 0))):=by
  obtain⟨s1,a1,n1,c1,rfl,h1⟩:=hx;have h1:IsI 2 z (.agg #[.bool s1,.slice a1 n1 c1]) w:=⟨_,_,_,_,rfl,h1⟩
  obtain⟨W,hW,E,C1,C2⟩:∃W,W=w.alloc (.cells #[.bool s1,.slice a1 n1 c1] 33)/\Ext w W/\World.cell? W ⟨w.heap.size,0,none⟩=some (.bool s1)/\World.cell? W ⟨w.heap.size,1,none⟩=some (.slice a1 n1 c1):=
    ⟨_,rfl,(Ext.refl _).alloc _,by simp,by simp⟩
  have hcon:Calls prog 85 #[.agg #[.bool s1,.slice a1 n1 c1]] W (Ret W (IsT2 (IsV (.int .u64 ((z.natAbs:Nat):Int))) (IsV (.bool (!s1))))):=by
    by_cases h0:z=0
    · subst h0
      obtain⟨_,_,_,_,e,m,⟨xs,hw,hk,hzz,hv⟩,hs,he⟩:=h1;injection e with e;injection e with e;simp only[List.cons.injEq,Value.bool.injEq,Value.slice.injEq,and_true]at e;obtain⟨rfl,rfl,rfl,rfl⟩:=e
      have hm0:m=0:=by
        cases s1
        ·simp only[Bool.false_eq_true,if_false]at he;omega
        ·simp only[if_true]at he;omega
      have hn0:n1=0:=by
        rcases zI n1 with h|h
        ·exact h
        · have h3:=xF xs (by have:=hw.len;omega) (by rw[hw.len];exact hzz h)
          have h4:0<(4294967296:Nat)^(xs.length-1):=Nat.pow_pos dcx;omega
      subst hn0;exact word_0 W s1 a1 c1 hw.big
    · have hc:=word_f (IsI.stb _ _ _ _ _ E h1) h0
      have hd:decide (0<z)= !s1:=by
        rw[h1.sgn];by_cases h5:z<0
        ·rw[decide_eq_true h5,decide_eq_false (by omega)];rfl
        ·rw[decide_eq_false h5,decide_eq_true (by omega)];rfl
      rw[hd]at hc;exact hc
  have hsz:s1=true->z<0:=by
    intro h;have h5:=h1.sgn;rw[h]at h5;exact of_decide_eq_true h5.symm
  have hsz2:s1=false->0<=z:=by
    intro h;have h5:=h1.sgn;rw[h]at h5;have:=of_decide_eq_false h5.symm;omega
  have hP:=λ(h:0<=z) w hw=>isPrime_all w z.natAbs zb hw
  have HZ:=hid hz;have HT:=hid hT;have HSZ:=hid (zJ hsz hsz2);obtain⟨N,hN⟩:∃N,z.natAbs=N:=⟨_,rfl⟩;have HNN:=hid hN;rw[hN]at hcon hP;clear h1 hz hT hsz hsz2 hN;cases s1
  · replace hP:=hP (HSZ.out.2 rfl)
    go_enter func40,ntmps40;go_upto_region 1 with fail;rw[<-hW];clear hW;go_upto_region 2 with(go_at_call 85;refine zC hcon ?_;rintro e w1 ⟨_,rfl,E1,_,_,rfl,rfl,rfl⟩);have C1':=Ext.cell E1 C1;have hT1:=HT.out.ext (E.trans E1);go_wp2_with (go_at_call 86;refine zC (hP w1 hT1) ?_;rintro e w2 ⟨_,rfl,E2,B,rfl,hB⟩)
    refine zD (v:=.tuple #[.bool B,.int .i64 0]) (by simp[results,results40,go_sem]) rfl ⟨_,rfl,(E.trans E1).trans E2,_,_,rfl,⟨B,rfl,λh9=>?_⟩,rfl⟩;have h5:=HSZ.out.2 trivial;have h6:=HNN.out;rw[hB (by omega),<-h6,show z.natAbs=z.toNat by omega];exact⟨λh=>⟨h5,h⟩,λh=>h.2⟩
  · go_enter func40,ntmps40
    go_upto_region 1 with fail;rw[<-hW];clear hW;go_upto_region 2 with(go_at_call 85;refine zC hcon ?_;rintro e w1 ⟨_,rfl,E1,_,_,rfl,rfl,rfl⟩);have C1':=Ext.cell E1 C1;go_wp2_with fail;refine zD (v:=.tuple #[.bool false,.int .i64 0]) (by simp[results,results40,go_sem]) rfl ⟨_,rfl,E.trans E1,_,_,rfl,⟨false,rfl,λ_=>?_⟩,rfl⟩;have:=HSZ.out.1 trivial;constructor
    ·intro h;cases h
    ·intro h;omega
end Go.Proofs.YtknffgdbdadpcaaGreatDoor
