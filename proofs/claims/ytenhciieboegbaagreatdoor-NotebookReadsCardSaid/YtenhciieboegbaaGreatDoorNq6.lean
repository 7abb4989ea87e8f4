/-
  The reference's reader: value. (Printed by wip/gen/nq6.py.)
-/
import Derived.Test.YtenhciieboegbaaGreatDoorNq5
namespace Go.Proofs.YtenhciieboegbaaGreatDoor
open Go Go.RowKit Go.Maps
open Go.Proofs.Tryz
theorem xe{P:Prop}(h:P:=by exact mv (qC (x:=.string sb) 0)):P:=h
def qtU(r:List UInt8):List UInt8:=(r.take 70).takeWhile (· !=34)
noncomputable def valR (r:List UInt8):Option (Nd×List UInt8):=(qG [34] r).bind λs3=>(qG [34,44,32] (s3.drop (qtU s3).length)).bind λs4=>(nbP [41] s4).bind λq=>some (⟨3,qtU s3,q.1,0,0,0, []⟩,q.2)
def qtN(s:List UInt8)(f j:Nat):Nat:=j+(((s.drop (f+j)).take (70-j)).takeWhile (· !=34)).length
theorem qtN_yes{s:List UInt8}{f j:Nat}{c:UInt8}(h:s[f+j]? =some c)(hc:c≠34)(hj:j<70):qtN s f j=qtN s f (j+1):=by
  have hd:s.drop (f+j)=c ::s.drop (f+(j+1)):=by rw[List.drop_eq_getElem_cons (List.getElem?_eq_some_iff.1 h).1,(List.getElem?_eq_some_iff.1 h).2];rfl
  rw[qtN,qtN,hd,show 70-j=(70-(j+1))+1 by omega,List.take_succ_cons,List.takeWhile_cons,if_pos (by simpa using hc),List.length_cons];omega
theorem qtN_no{s:List UInt8}{f j:Nat}(h:s[f+j]? =some 34):qtN s f j=j:=by
  have hd:s.drop (f+j)=34 ::s.drop (f+j+1):=zx
  rw[qtN,hd];cases 70-j <;> rfl
theorem qtN_end{s:List UInt8}{f j:Nat}(h:s.length<=f+j\/70<=j):qtN s f j=j:=by
  rw[qtN];rcases h with h|h
  ·rw[List.drop_of_length_le h,List.take_nil];rfl
  ·rw[show 70-j=0 by omega,List.take_zero];rfl
theorem jS{s x:List UInt8}{sb xb:ByteArray}{p q:Int}(hs:(⟨s.toArray⟩:ByteArray)=sb)(hx:(⟨x.toArray⟩:ByteArray)=xb)(h:aftI s p x=q)(h0:s.length<=1000000)(h1:x.length<=1000)(h2: -1<=p)(h3:p<=s.length)(w:World):Calls prog 43 #[.string sb,.int .i64 p,.string xb] w (RSame w (.int .i64 q)):=by
  have h9:=after_f s x p w h0 h1 h2 h3;rw[qB,qB,hs,hx,h]at h9;exact h9
section
variable {ops:Array Oper} {Q:Exit->Act->World->Prop} {ds:List (Option Tmp)} {a0:Act} {w0:World} {L:List (Value->World->Prop)} {boxes:List Nat} {i:Nat} {o:Oper}
theorem slG{sb xb:ByteArray}{m n:Nat}{x y z:Operand}(hx:Od ops ds a0 w0 L i x (IsV (.string sb)))(hy:Od ops ds a0 w0 L i y (iV (m:Int)))(hz:Od ops ds a0 w0 L i z (iV (n:Int)))(he:sb.extract m n=xb)(hij:(m:Int)<=(n:Int))(hj:(n:Int)<=(sb.size:Int))(ho:o.op=.slice 9 x (some y) (some z) none:=by rfl)(hi:L.getD i (λ_ _=>True)=IsV (.string xb):=by kernel_rfl)(hb:boxes.contains i=false:=by kernel_rfl):Ok prog ops Q ds a0 w0 L boxes i o:=
  Ok.of hb λv a w hE hd hf=>⟨.string xb,by
    have e1:a.eval x=.string sb:=hx.out v a w hE hd hf;have e2:a.eval y=.int .i64 (m:Int):=hy.out v a w hE hd hf;have e3:a.eval z=.int .i64 (n:Int):=hz.out v a w hE hd hf;have h0:(0:Int)<=(m:Int):=ze
    have h1:m<=n:=ze
    have h2:n<=sb.size:=ze
    unfold execOp;rw[ho];dsimp only[Option.map];rw[e1,e2,e3]
    go_simp,by rw[hi];exact rfl⟩
theorem bd2G{P:Program}{T m n:Nat}{x y:Operand}{p q v9:Value}(hx:Od ops ds a0 w0 L i x (IsV p))(hy:Od ops ds a0 w0 L i y (IsV q))(hr:∀w,(Instr.build T #[(m,p),(n,q)]).run P w=.ok v9 w)(ho:o.op=.build T #[(m,x),(n,y)]:=by rfl)(hi:L.getD i (λ_ _=>True)=IsV v9:=by kernel_rfl)(hb:boxes.contains i=false:=by kernel_rfl):Ok P ops Q ds a0 w0 L boxes i o:=
  Ok.of hb λv a w hE hd hf=>⟨v9,bdG ho (by
    have e1:a.eval x=p:=hx.out v a w hE hd hf;have e2:a.eval y=q:=hy.out v a w hE hd hf;simp only[List.map_toArray,List.map_cons,List.map_nil]
    rw[e1,e2];exact hr w),by rw[hi];exact rfl⟩
theorem bd3G{P:Program}{T m n l:Nat}{x y z:Operand}{p q r v9:Value}(hx:Od ops ds a0 w0 L i x (IsV p))(hy:Od ops ds a0 w0 L i y (IsV q))(hz:Od ops ds a0 w0 L i z (IsV r))(hr:∀w,(Instr.build T #[(m,p),(n,q),(l,r)]).run P w=.ok v9 w)(ho:o.op=.build T #[(m,x),(n,y),(l,z)]:=by rfl)(hi:L.getD i (λ_ _=>True)=IsV v9:=by kernel_rfl)(hb:boxes.contains i=false:=by kernel_rfl):Ok P ops Q ds a0 w0 L boxes i o:=
  Ok.of hb λv a w hE hd hf=>⟨v9,bdG ho (by
    have e1:a.eval x=p:=hx.out v a w hE hd hf;have e2:a.eval y=q:=hy.out v a w hE hd hf;have e3:a.eval z=r:=hz.out v a w hE hd hf;simp only[List.map_toArray,List.map_cons,List.map_nil]
    rw[e1,e2,e3];exact hr w),by rw[hi];exact rfl⟩
end
def valU(s:ByteArray)(n:Int):List Value:= [.int .i64 3,.string s,.int .i64 n,.bool false,.slice none 0 0,.int .i64 0,.int .i64 0,.slice none 0 0]
section
set_option maxRecDepth 100000
set_option maxHeartbeats 8000000
theorem bd_Val(s:ByteArray)(n:Int)(w:World):(Instr.build 32 #[(0,.int .i64 3),(1,.string s),(2,.int .i64 n)]).run prog w=.ok (.agg (valU s n).toArray) w:=by unfold valU;go_simp
theorem fa_Sm(k g:Nat)(hk:k=0\/k=1)(w:World):(Instr.fieldAt 156 (.pointer (some ⟨g,0,none⟩)) k).run prog w=.ok (.pointer (some ⟨g,k,none⟩)) w:=by rcases hk with rfl|rfl <;> go_simp
theorem tNq6_2{P:Prop}(h:P:=by
  go_wp2_with fail;exact zH (jU results84 zc (lvM zc zc rfl B9)) rfl ⟨_,rfl,O.ext (HE.out.trans e8) (zN _),jP HR.out⟩
  ):P:=h
theorem tNq6_1{P:Prop}(h:P:=by
  rcases jW HTL.out [34,44,32]with⟨k1,k2⟩| ⟨k1,k2,k3⟩
  · obtain rfl:q2= -1:=by rw[<-HQ2.out,k2]
    have HR:=hid (show valR (s.drop a)=none by rw[HVR.out,k1];rfl);clear k1 k2;go_upto_region 9 with(go_at_call 43;go_must (refine zG (HA2.out _) ?_;rintro e w1 ⟨rfl,rfl⟩));refine wp_region_lit (lca [] (en func81) (none_r _) (λv W9 e8 hv=>?_));obtain rfl:v=.agg noV.toArray:=hv;refine lst noV (HB.out.ext e8) xO rfl rfl zB rfl (λW9a B9 O=>zI ?_);exact tNq6_2
  obtain⟨m,hm⟩:∃m,t+([34,44,32]:List UInt8).length=m:=⟨_,rfl⟩;rw[hm]at k1 k2 k3;obtain rfl:q2=(m:Int):=by rw[<-HQ2.out,k2]
  have hm0:¬((m:Int)<0):=ze
  have HR:=hid (show valR (s.drop a)=(nbP [41] (s.drop m)).bind λq=>some (⟨3,u,q.1,0,0,0, []⟩,q.2)by rw[HVR.out,k1];rfl);have HNB:=hid (λw'=>numbered_f s [41] m w' HS.out.2.2 dcx k3);rw[qB,HS.out.1]at HNB;clear k1 k2 k3 hm;go_upto_region 10 with(go_at_call 43;go_must (refine zG (HA2.out _) ?_;rintro e w1 ⟨rfl,rfl⟩));clear hil;refine wp_region_lit (lmv (lmv (lca [.string sb,.int .i64 (m:Int),.string ⟨#[41]⟩] (en func117) (HNB.out _) (λv W10 e2 hv=>?_))));obtain⟨z,p,rfl,hz1,hz2,hp⟩:=hv;refine lbx [.int .i64 z,.int .i64 p] al_Sm st_Sm rfl rfl nwSm rfl (λg8 W10a hg8 B8 e3=>zI ?_);have HB3:=hid ((HB.out.ext e2).ext e3);have HE3:=hid ((HE.out.trans e2).trans e3);have HB8:=hid B8;have HEX:=hid hex;have HLE:=hid (show(f:Int)<=(t:Int)/\(t:Int)<=(sb.size:Int)by have:=HF.out.2.1;have:=HT.out;omega);clear e2 e3 B8 hg8 hex hm0
  try go_simp
  go_upto_region 11 with fail;refine rg 10 (dR 43 10) [IsV (.string sb),iV (f:Int),iV (t:Int),IsV (.string ub),IsP g8 0,iV z,IsV (.agg (valU ub z).toArray),IsP g8 1,iV p,IsV (.agg (valU ub z++ [Value.int .i64 p]).toArray)] [] 1 ?_ ?_
  · refine Rc xe ?_
    refine Rc (mv (qC (x:=.int .i64 (f:Int)) 5)) ?_;refine Rc (mv (qC (x:=.int .i64 (t:Int)) 6)) ?_;refine Rc (slG (qA (fP:=IsV (.string sb)) 0 43) (qA (fP:=iV (f:Int)) 1 44) (qA (fP:=iV (t:Int)) 2 45) HEX.out HLE.out.1 HLE.out.2) ?_;refine Rc (fa (fa_Sm 0 g8 (.inl rfl)) (qC 8)) ?_;refine Rc (lvC 0 HB8.out xL (qA 4 47)) ?_;refine Rc (bd3G (qD (x:=.int .i64 3)) (qA (fP:=IsV (.string ub)) 3 46) (qA (fP:=iV z) 5 48) (bd_Val ub z)) ?_;refine Rc (fa (fa_Sm 1 g8 (.inr rfl)) (qC 8)) ?_;refine Rc (lvC 1 HB8.out xL (qA 7 50)) ?_;refine Rc (bd2G (qA (fP:=IsV (.agg (valU ub z).toArray)) 6 49) (qA (fP:=iV p) 8 51) (λw=>bd_Rd rfl)) ?_;exact rn0
  intro y W11 e4 hΦ _;have v9:y 9=.agg (valU ub z++ [Value.int .i64 p]).toArray:=hΦ 9 dcx;simp only[lxE,Nat.reduceAdd];rw[v9];clear v9 hΦ;refine stA 10 rfl (λK hK=>zE (us:=valU ub z++ [Value.int .i64 p]) (HB3.out.ext e4) xO rfl rfl zB (λW11a B9 O=>hK _ _ ?_));clear hK K;refine zP zc ?_ _;go_wp2_with fail;refine zH (jU results84 zc (lvM zc zc rfl B9)) rfl ⟨_,rfl,O.ext (HE3.out.trans e4) (zN _),⟨3,u,z,0,0,0, []⟩,valU ub z,p,rfl,?_,?_⟩
  · rw[<-HU.out.1]
    exact nd_leaf ⟨by have:=HU.out.2;omega,by decide,by decide⟩
  · rcases hp with⟨h1,h2⟩| ⟨b,h1,h2,h3⟩
    ·exact .inl ⟨by rw[HR.out,h1];rfl,h2⟩
    ·exact .inr ⟨b,h1,h2,by rw[HR.out,h3];rfl⟩
  ):P:=h
theorem value_f(s:List UInt8)(a:Nat)(w:World)(hs:s.length<=1000000)(ha:a<=s.length):Calls prog 84 #[qB s,.int .i64 (a:Int)] w (Ret w (IsRd w.heap.size s (valR (s.drop a)))):=by
  obtain⟨n,hn⟩:∃n,s.length=n:=⟨_,rfl⟩;obtain⟨sb,hsb⟩:∃y:ByteArray,(⟨s.toArray⟩:ByteArray)=y:=⟨_,rfl⟩;have hsz:sb.size=n:=jp
  have HS:=hid (zL hsb (zL hn hs));have HA:=hid ha;obtain⟨q1,hq1⟩:∃q,aftI s (a:Int) [34]=q:=⟨_,rfl⟩;have HA1:=hid (jS hsb (xb:=⟨#[34]⟩) rfl hq1 hs dcx ze ze);obtain⟨W,hW,E,B⟩:∃W,W=w.alloc (.cells zRd.toArray 82)/\Ext w W/\Bk W w.heap.size zRd:=zg;unfold zRd zNd at hW;simp only[List.cons_append,List.nil_append]at hW;have HB:=hid B;have HE:=hid E;rw[qB,hsb];clear B E hsb hn hs ha;go_enter func84,ntmps84;go_upto_region 1 with fail;rw[<-hW];clear hW;rcases jW HA.out [34]with⟨k1,k2⟩| ⟨k1,k2,k3⟩
  · obtain rfl:q1= -1:=by rw[<-hq1,k2]
    have HR:=hid (show valR (s.drop a)=none by rw[valR,k1];rfl);clear hq1 k1 k2;go_upto_region 3 with(go_at_call 43;go_must (refine zG (HA1.out _) ?_;rintro e w1 ⟨rfl,rfl⟩));refine wp_region_lit (lca [] (en func81) (none_r _) (λv W3 e8 hv=>?_));obtain rfl:v=.agg noV.toArray:=hv;refine lst noV (HB.out.ext e8) xO rfl rfl zB rfl (λW3a B9 O=>zI ?_);exact tNq6_2
  obtain⟨f,hf⟩:∃f,a+([34]:List UInt8).length=f:=⟨_,rfl⟩;rw[hf]at k1 k2 k3;obtain rfl:q1=(f:Int):=by rw[<-hq1,k2]
  obtain⟨u,hu⟩:∃u,qtU (s.drop f)=u:=⟨_,rfl⟩;obtain⟨L,hL⟩:∃L,u.length=L:=⟨_,rfl⟩;have hN:qtN s f 0=L:=by rw[qtN,Nat.add_zero,Nat.zero_add,Nat.sub_zero,<-hL,<-hu,qtU]
  have hup:(s.drop f).take L=u:=by
    have h1:u <+:(s.drop f).take 70:=by rw[<-hu,qtU];exact List.takeWhile_prefix _
    rw[<-hL];exact(List.prefix_iff_eq_take.1 (h1.trans (List.take_prefix _ _))).symm
  have hL2:f+L<=n/\L<=70:=by
    have h1:u <+:(s.drop f).take 70:=by rw[<-hu,qtU];exact List.takeWhile_prefix _
    have:=h1.length_le;rw[List.length_take,List.length_drop,hL]at this;have:=HS.out.2.1;omega
  have hVR:valR (s.drop a)=(qG [34,44,32] (s.drop (f+L))).bind λs4=>(nbP [41] s4).bind λq=>some (⟨3,u,q.1,0,0,0, []⟩,q.2):=by
    rw[valR,k1];show(qG [34,44,32] ((s.drop f).drop (qtU (s.drop f)).length)).bind _=_;rw[hu,hL,List.drop_drop]
  have hex:=ba_ex s f (f+L);rw[Nat.add_sub_cancel_left,hup]at hex;obtain⟨ub,hub⟩:∃y:ByteArray,(⟨u.toArray⟩:ByteArray)=y:=⟨_,rfl⟩;rw[hub,HS.out.1]at hex;have HF:=hid (zL k3 (zL hL2 hN));have HU:=hid (zL hub (show u.length<=70 by rw[hL];exact hL2.2));have HVR:=hid hVR;have hf0:¬((f:Int)<0):=ze
  obtain⟨T,hT⟩:∃T,f+L=T:=⟨_,rfl⟩;rw[hT]at hex HVR;have HT:=hid hT;obtain⟨q2,hq2⟩:∃q,aftI s (T:Int) [34,44,32]=q:=⟨_,rfl⟩;have HA2:=hid (jS HS.out.1 (xb:=⟨#[34,44,32]⟩) rfl hq2 HS.out.2.2 dcx ze (by rw[HS.out.2.1];omega));have HQ2:=hid hq2;have HTL:=hid (show T<=s.length by rw[HS.out.2.1];omega);clear hq1 k1 k2 k3 hf hu hL hN hup hL2 hVR hub hT hq2;go_upto_region 5 with(go_at_call 43;go_must (refine zG (HA1.out _) ?_;rintro e w1 ⟨rfl,rfl⟩))
  go_loopg [6] 71 (λgk v6 wr=>∃t:Nat,v6=.int .i64 (t:Int)/\t+gk=f+71/\wr=W/\Hid (f<=t/\t<=n/\qtN s f (t-f)=L))
  case atStart=>exact⟨f,rfl,rfl,rfl,hid ⟨zN _,by have:=HF.out.2.1;omega,by rw[Nat.sub_self];exact HF.out.2.2⟩⟩
  case round=>
    obtain⟨t,rfl,hg,rfl,S⟩:=hrel;have HSB:=HS.out;have HTT:=hid (show t-f=L->t=T from λh=>by have:=HT.out;have:=S.out.1;omega);by_cases hi:t<n
    · have hil:(t:Int)<(n:Int):=by omega
      have hi0:(0:Int)<=(t:Int):=ze
      have hiw:IntKind.i64.wrap ((t:Int)+1)=((t+1:Nat):Int):=zh
      have hsw:IntKind.i64.wrap ((t:Int)-(f:Int))=((t-f:Nat):Int):=by have:=S.out.1;simp only[IntKind.wrap_i64];omega
      obtain⟨c,hc⟩:∃c,s[t]? =some c:=⟨_,List.getElem?_eq_getElem (by rw[HSB.2.1];exact hi)⟩;have hc2:s[f+(t-f)]? =some c:=by rw[show f+(t-f)=t by have:=S.out.1;omega];exact hc
      obtain⟨hj,-⟩:=ba_at HSB.1 hc;have hct:=ba_atn HSB.1 hc hj;by_cases h34:c=34
      · subst h34
        obtain rfl:t=T:=HTT.out (by rw[<-S.out.2.2,qtN_no hc2]);have hct:((sb[t]'hj).toNat:Int)=34:=hct;clear hc hc2 hi hg S HSB HTT;exact tNq6_1
      · have d34:((c.toNat:Int) !=34)=true:=by
          rw[bne_iff_ne];intro e;have e2:c.toNat=34:=ze
          exact h34 (UInt8.toNat_inj.1 e2)
        by_cases h70:t-f<70
        · have h7:((t-f:Nat):Int)<70:=by omega
          have HN:=hid (show qtN s f (t+1-f)=L by rw[show t+1-f=t-f+1 by have:=S.out.1;omega,<-qtN_yes hc2 h34 h70];exact S.out.2.2);have HG:=hid (zL hg (zL hi S.out.1));generalize c.toNat=kc at hct d34;clear hc hc2 hi hg S HSB h34 h70 HTT;go_wp2_with fail
          go_roundg (gk-1)
          case measure=>have:=HG.out;omega
          case rel=>exact⟨t+1,rfl,by have:=HG.out;omega,rfl,hid ⟨by have:=HG.out.2.2;omega,by have:=HG.out.2.1;omega,HN.out⟩⟩
        · have h7:¬((t-f:Nat):Int)<70:=by omega
          obtain rfl:t=T:=HTT.out (by rw[<-S.out.2.2,qtN_end (.inr (by omega))]);generalize c.toNat=kc at hct d34;clear hc hc2 hi hg S HSB h34 h70 HTT;exact tNq6_1
    · have hil:¬((t:Int)<(n:Int)):=by omega
      obtain rfl:t=T:=HTT.out (by rw[<-S.out.2.2,qtN_end (.inl (by have:=S.out.1;rw[HSB.2.1];omega))]);clear hi hg S HSB HTT;exact tNq6_1
end
end Go.Proofs.YtenhciieboegbaaGreatDoor
