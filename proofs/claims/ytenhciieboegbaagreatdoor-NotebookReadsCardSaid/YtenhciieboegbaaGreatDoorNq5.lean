/-
  The reference's reader: whole. (Printed by wip/gen/nq4.py.)
  The reference's reader: numbered. (Printed by wip/gen/nq5.py.)
-/
import Derived.Test.YtenhciieboegbaaGreatDoorNq3
import Derived.Test.YtenhciieboegbaaGreatDoorRParse
namespace Go.Proofs.YtenhciieboegbaaGreatDoor
open Go Go.RowKit Go.Maps
open Go.Proofs.Tryz
theorem zaf{P:Prop}(h:P:=by rw[List.getElem?_append_right (by have:=hy.len;omega)];simp[hy.len]):P:=h
section
variable {P:Program} {ops:Array Oper} {Q:Exit->Act->World->Prop} {a:Act} {w:World} {o o1 o2:Oper} {os:List Oper}
theorem lsl{sb xb:ByteArray}{i j:Nat}{x y z:Operand}(hx:sb.extract i j=xb)(h:wpList prog ops Q os (a.put o.dst (.string xb)) w)(hij:(i:Int)<=(j:Int))(hj:(j:Int)<=(sb.size:Int))(ho:o.op=.slice 9 x (some y) (some z) none:=by rfl)(e1:a.eval x=.string sb:=by kernel_rfl)(e2:a.eval y=.int .i64 (i:Int):=by kernel_rfl)(e3:a.eval z=.int .i64 (j:Int):=by kernel_rfl)(hg:o.guard=none:=by rfl):wpList prog ops Q (o ::os) a w:=
  stL (λK hK=>by
    have h0:(0:Int)<=(i:Int):=ze
    have h1:i<=j:=ze
    have h2:j<=sb.size:=ze
    have hrun:(execOp a.eval o).run prog w=.ok (.value (.string xb)) w:=by
      unfold execOp;rw[ho];dsimp only[Option.map];rw[e1,e2,e3]
      go_simp
    unfold Oper.wp;rw[hrun]
    exact hK _ _ h) hg
theorem lb2{T i j:Nat}{x y:Operand}{p q:Value}(v:Value)(hr:(Instr.build T #[(i,p),(j,q)]).run P w=.ok v w)(h:wpList P ops Q os (a.put o.dst v) w)(ho:o.op=.build T #[(i,x),(j,y)]:=by rfl)(hx:a.eval x=p:=by kernel_rfl)(hy:a.eval y=q:=by kernel_rfl)(hg:o.guard=none:=by rfl):wpList P ops Q (o ::os) a w:=
  lbd v ho (by simp only[List.map_toArray,List.map_cons,List.map_nil];rw[hx,hy];exact hr) h hg
theorem lex{x:Operand}{k:Nat}(vs:Array Value)(u:Value)(h:wpList P ops Q os (a.put o.dst u) w)(ho:o.op=.extract x k:=by rfl)(he:a.eval x=.tuple vs:=by kernel_rfl)(hu:vs[k]? =some u:=by rfl)(hg:o.guard=none:=by rfl):wpList P ops Q (o ::os) a w:=
  stL (λK hK=>by
    have hrun:(execOp a.eval o).run P w=.ok (.value u) w:=by
      unfold execOp;rw[ho];dsimp only;rw[he];simp[Instr.extract,hu]
    unfold Oper.wp;rw[hrun]
    exact hK _ _ h) hg
end
def numU(s:Bool)(a:Option Addr)(n c:Nat):List Value:= [.int .i64 1,.string ⟨#[]⟩,.int .i64 0,.bool s,.slice a n c,.int .i64 0,.int .i64 0,.slice none 0 0]
set_option maxRecDepth 100000 in
theorem bd_Num{w:World}{s:Bool}{a:Option Addr}{n c:Nat}:(Instr.build 32 #[(0,.int .i64 1),(3,.agg #[.bool s,.slice a n c])]).run prog w=.ok (.agg (numU s a n c).toArray) w:=by unfold numU;go_simp
theorem none_r(w:World):Calls prog 81 ([]:List Value).toArray w (Ret w (IsV (.agg noV.toArray))):=(none_f w).mono λ_ _ h=>⟨_,h.1,h.2,rfl⟩
theorem takeP_pre(x r:List UInt8):qG x r=if x <+:r then some (r.drop x.length)else none:=by
  rw[qG];by_cases h:x <+:r
  ·rw[if_pos h,if_pos (List.isPrefixOf_iff_prefix.2 h)]
  ·rw[if_neg h,if_neg (λe=>h (List.isPrefixOf_iff_prefix.1 e))]
theorem jW{s:List UInt8}{a:Nat}(ha:a<=s.length)(x:List UInt8):(qG x (s.drop a)=none/\aftI s a x= -1)\/(qG x (s.drop a)=some (s.drop (a+x.length))/\aftI s a x=((a+x.length:Nat):Int)/\a+x.length<=s.length):=by
  rw[takeP_pre,aftI,Int.toNat_natCast];by_cases h:x <+:s.drop a
  · refine .inr ⟨by rw[if_pos h,List.drop_drop],by rw[if_pos ⟨by omega,h⟩];omega,?_⟩
    have:=h.length_le;rw[List.length_drop]at this;omega
  ·exact .inl ⟨if_neg h,if_neg (λe=>h e.2)⟩
theorem min_at{s:List UInt8}{a:Nat}(h:s[a]? =some 45):xE (s.drop a)= [45]:=by
  have hd:s.drop a=45 ::s.drop (a+1):=zx
  rw[xE,hd];rfl
theorem min_no{s:List UInt8}{a:Nat}(h:s[a]? ≠some 45):xE (s.drop a)= []:=by
  rw[xE,if_neg];intro e;obtain⟨t,ht⟩:=List.isPrefixOf_iff_prefix.1 e;apply h;have:=congrArg (λl=>l[0]?) ht;simp only[List.getElem?_drop,Nat.add_zero]at this;rw[<-this];rfl
theorem dropL{p q l:List UInt8}(h:p++q=l):l.drop p.length=q:=by rw[<-h,List.drop_left]
theorem num_at{s:List UInt8}{a k T:Nat}(hk:xE (s.drop a)=(s.drop a).take k)(hk1:(xE (s.drop a)).length=k)(hT:runI s (a+k)=T):numP (s.drop a)=if 100<((s.drop a).take (T-a)).length\/qW ((s.drop a).take (T-a))≠0 then none else some (xI ((s.drop a).take (T-a)),s.drop T):=by
  obtain⟨l,hl⟩:∃l,((s.drop (a+k)).takeWhile qH).length=l:=⟨_,rfl⟩;have hT2:T=a+(k+l):=by rw[<-hT,runI,hl];omega
  have e1:xE (s.drop a)++((s.drop a).drop (xE (s.drop a)).length).takeWhile qH=(s.drop a).take (T-a):=by
    rw[hk1,hk,List.drop_drop,hT2,Nat.add_sub_cancel_left,List.take_add,List.drop_drop,<-hl,<-List.prefix_iff_eq_take.1 (List.takeWhile_prefix _)]
  have e2:((s.drop a).drop (xE (s.drop a)).length).dropWhile qH=s.drop T:=by
    rw[hk1,List.drop_drop,hT2,<-Nat.add_assoc,<-hl];exact(dropL (List.takeWhile_append_dropWhile (p:=qH) (l:=s.drop (a+k)))).symm.trans List.drop_drop
  rw[numP];simp only[e1,e2]
def mkN(q:Int×List UInt8):Nd×List UInt8:=(⟨1, [],0,q.1,0,0, []⟩,q.2)
section
set_option maxRecDepth 100000
set_option maxHeartbeats 8000000
theorem tNq5_3{P:Prop}(h:P:=by
  clear h1;go_upto_region 10 with fail;refine wp_region_lit (lld (ld_InV _ _ _ rfl B6) (lb2 (.agg (numU sg a1 l1 c1).toArray) bd_Num (lmv (lb2 (.agg (numU sg a1 l1 c1++ [Value.int .i64 (T:Int)]).toArray) (bd_Rd rfl) ?_))));refine lst (numU sg a1 l1 c1++ [Value.int .i64 (T:Int)]) HB2.out xO rfl rfl zB rfl (λW10 B9 O=>zI ?_);go_wp2_with fail;exact zH (jU results83 zc (lvM zc zc rfl B9)) rfl ⟨_,rfl,O.ext HE2.out (zN _),_,_,_,rfl,nd_num (IsI.gstb _ _ _ _ _ O.gr HI2.out),.inr ⟨T,rfl,by rw[HSB.out.2.1];exact HT.out.2,HR.out⟩⟩
  ):P:=h
theorem tNq5_4{P:Prop}(h:P:=by
  clear h1;go_upto_region 9 with fail;refine wp_region_lit (lca [] (en func81) (none_r _) (λv W9 e8 hv=>?_));obtain rfl:v=.agg noV.toArray:=hv;refine lst noV (HB2.out.ext e8) xO rfl rfl zB rfl (λW9a B9 O=>zI ?_);go_wp2_with fail;exact zH (jU results83 zc (lvM zc zc rfl B9)) rfl ⟨_,rfl,O.ext (HE2.out.trans e8) (zN _),jP HR.out⟩
  ):P:=h
theorem tNq5_5{P:Prop}(h:P:=by
  clear h1;go_upto_region 6 with fail;refine wp_region_lit (lca [] (en func81) (none_r _) (λv W6 e8 hv=>?_));obtain rfl:v=.agg noV.toArray:=hv;refine lst noV (HB.out.ext e8) xO rfl rfl zB rfl (λW6a B9 O=>zI ?_);go_wp2_with fail;exact zH (jU results83 zc (lvM zc zc rfl B9)) rfl ⟨_,rfl,O.ext (HE.out.trans e8) (zN _),jP HR.out⟩
  ):P:=h
theorem tNq5_1{P:Prop}(h:P:=by
  by_cases h1:100<T-t0
  · have h2:(100:Int)<((T-t0:Nat):Int):=by omega
    have HR:=hid (show(numP (s.drop t0)).map mkN=none by rw[HNU.out,if_pos (.inl h1)];rfl);exact tNq5_5
  · have h2:¬(100:Int)<((T-t0:Nat):Int):=by omega
    go_upto_region 7 with fail;clear h2;refine wp_region_lit (lmv (lmv (lmv (lsl hex ?_ hTa hTn))));refine lca [.string xb] (en func116) (HPA.out _) (λv W7 e1 hv=>?_);obtain⟨iv,ev,rfl,hI,rfl⟩:=hv;obtain⟨sg,a1,l1,c1,rfl,_⟩:=id hI;refine lmv (lex #[.agg #[.bool sg,.slice a1 l1 c1],.int .i64 er] (.agg #[.bool sg,.slice a1 l1 c1]) (lex #[.agg #[.bool sg,.slice a1 l1 c1],.int .i64 er] (.int .i64 er) ?_));refine lbx [.bool sg,.slice a1 l1 c1] al_In st_In rfl rfl nwZI rfl (λg6 W7a hg6 B6 e2=>lmv (zI ?_));have HE2:=hid ((HE.out.trans e1).trans e2);have HB2:=hid ((HB.out.ext e1).ext e2);have HI2:=hid ((show IsI 136 z _ W7 from hI).ext e2);clear e1 e2 hI hg6
    try go_simp
    by_cases h3:er=0
    · subst h3
      have HR:=hid (show(numP (s.drop t0)).map mkN=some (⟨1, [],0,z,0,0, []⟩,s.drop T)by rw[HNU.out,if_neg (λh=>h.elim h1 (λh=>h rfl))];rfl);exact tNq5_3
    · have h4:(er==0)=false:=by simpa using h3
      have HR:=hid (show(numP (s.drop t0)).map mkN=none by rw[HNU.out,if_pos (.inr h3)];rfl);exact tNq5_4
  ):P:=h
theorem whole_f(s:List UInt8)(a:Nat)(w:World)(hs:s.length<=1000000)(ha:a<=s.length):Calls prog 83 #[qB s,.int .i64 (a:Int)] w (Ret w (IsRd w.heap.size s ((numP (s.drop a)).map mkN))):=by
  obtain⟨n,hn⟩:∃n,s.length=n:=⟨_,rfl⟩;obtain⟨sb,hsb⟩:∃y:ByteArray,(⟨s.toArray⟩:ByteArray)=y:=⟨_,rfl⟩;have hsz:sb.size=n:=jp
  obtain ⟨k,t0,hk,hk1,ht0,ht1,hcs⟩:∃k t0:Nat,xE (s.drop a)=(s.drop a).take k/\(xE (s.drop a)).length=k/\t0=a+k/\t0<=n/\((t0=a/\n<=a)\/(t0=a/\a<n/\∃c,s[a]? =some c/\c.toNat≠45)\/(t0=a+1/\a<n/\∃c,s[a]? =some c/\c.toNat=45)):=by
    by_cases h1:a<n
    · obtain⟨c,hc⟩:∃c,s[a]? =some c:=⟨_,List.getElem?_eq_getElem (by rw[hn];exact h1)⟩
      by_cases h2:c=45
      · subst h2
        refine⟨1,a+1,?_,congrArg List.length (min_at hc),rfl,by omega,.inr (.inr ⟨rfl,h1,_,hc,rfl⟩)⟩;rw[min_at hc,List.drop_eq_getElem_cons (List.getElem?_eq_some_iff.1 hc).1,(List.getElem?_eq_some_iff.1 hc).2];rfl
      · have h3:xE (s.drop a)= []:=min_no (by rw[hc];intro e;exact h2 (by simpa using e))
        exact⟨0,a,by rw[h3];rfl,by rw[h3];rfl,rfl,by omega,.inr (.inl ⟨rfl,h1,c,hc,λe=>h2 (UInt8.toNat_inj.1 e)⟩)⟩
    · have h3:xE (s.drop a)= []:=min_no (by rw[List.getElem?_eq_none (by omega)];simp)
      exact⟨0,a,by rw[h3];rfl,by rw[h3];rfl,rfl,by omega,.inl ⟨rfl,by omega⟩⟩
  obtain⟨T,hT⟩:∃T,runI s t0=T:=⟨_,rfl⟩;have hNU:=num_at (T:=T) hk hk1 (by rw[<-ht0];exact hT);have hTl:=runI_le (s:=s) (a:=t0) (by rw[hn];exact ht1);rw[hT,hn]at hTl;rw[hn]at ha hs;obtain⟨x,hx⟩:∃x,(s.drop a).take (T-a)=x:=⟨_,rfl⟩;have hxl:x.length=T-a:=by rw[<-hx,List.length_take,List.length_drop,hn];omega
  rw[hx,hxl]at hNU;have hex:=ba_ex s a T;obtain⟨xb,hxb⟩:∃y:ByteArray,(⟨x.toArray⟩:ByteArray)=y:=⟨_,rfl⟩;rw[hx,hxb,hsb]at hex;have HPA:=hid (λw'=>RParse_f w' xb);rw[<-hxb,show(⟨x.toArray⟩:ByteArray).data.toList=x by simp,hxb]at HPA;obtain⟨z,hz⟩:∃z,xI x=z:=⟨_,rfl⟩;obtain⟨er,her⟩:∃z,qW x=z:=⟨_,rfl⟩;rw[hz,her]at HPA hNU;have HRU:=hid (λw'=>run_f s t0 w' (by rw[hn];exact hs) (by rw[hn];exact ht1));rw[qB,hsb,hT]at HRU;have HNU:=hid hNU;have HSB:=hid (zL hsb (zL hn (zL hs (zL ha hsz))));have HT:=hid (show a<=T/\T<=n by omega);have hTw:IntKind.i64.wrap ((T:Int)-(a:Int))=((T-a:Nat):Int):=zh
  have hTa:(a:Int)<=(T:Int):=ze
  have hTn:(T:Int)<=(sb.size:Int):=ze
  rw[qB,hsb];obtain⟨W,hW,E,B⟩:∃W,W=w.alloc (.cells zRd.toArray 82)/\Ext w W/\Bk W w.heap.size zRd:=zg;unfold zRd zNd at hW;simp only[List.cons_append,List.nil_append]at hW;have HB:=hid B;have HE:=hid E;clear B E hNU hk hk1 hT hTl hx hxl hxb hz her hsb hn ha hs ht1;go_enter func83,ntmps83;go_upto_region 1 with fail;rw[<-hW];clear hW;rcases hcs with⟨rfl,hcs⟩| ⟨rfl,hi,c,hc,hcn⟩| ⟨rfl,hi,c,hc,hcn⟩
  · have hil:¬((t0:Int)<(n:Int)):=by omega
    clear ht0 hcs;go_upto_region 5 with(go_at_call 41;go_must (refine zG (HRU.out _) ?_;rintro e w1 ⟨rfl,rfl⟩));exact tNq5_1
  · have hil:(t0:Int)<(n:Int):=by omega
    have hi0:(0:Int)<=(t0:Int):=ze
    obtain⟨hj,-⟩:=ba_at HSB.out.1 hc;have hct:=ba_atn HSB.out.1 hc hj;generalize c.toNat=kc at hct hcn;have k3:((kc:Int)==45)=false:=jh
    clear ht0 hc hi hcn;go_upto_region 5 with(go_at_call 41;go_must (refine zG (HRU.out _) ?_;rintro e w1 ⟨rfl,rfl⟩));clear hct k3 hj hil hi0;exact tNq5_1
  · have hil:(a:Int)<(n:Int):=by omega
    have hi0:(0:Int)<=(a:Int):=ze
    obtain⟨hj,-⟩:=ba_at HSB.out.1 hc;have hct:=ba_atn HSB.out.1 hc hj;rw[hcn]at hct;have hiw:IntKind.i64.wrap ((a:Int)+1)=((a+1:Nat):Int):=by have:=HSB.out.2.2.1;simp only[IntKind.wrap_i64];omega
    clear ht0 hc hi hcn;go_upto_region 5 with(go_at_call 41;go_must (refine zG (HRU.out _) ?_;rintro e w1 ⟨rfl,rfl⟩));clear hct hj hil hi0 hiw;by_cases h1:100<T-a
    · have h2:(100:Int)<((T-a:Nat):Int):=by omega
      have HR:=hid (show(numP (s.drop a)).map mkN=none by rw[HNU.out,if_pos (.inl h1)];rfl);exact tNq5_5
    · have h2:¬(100:Int)<((T-a:Nat):Int):=by omega
      go_upto_region 7 with fail;clear h2;refine wp_region_lit (lmv (lmv (lmv (lsl hex ?_ hTa hTn))));refine lca [.string xb] (en func116) (HPA.out _) (λv W7 e1 hv=>?_);obtain⟨iv,ev,rfl,hI,rfl⟩:=hv;obtain⟨sg,a1,l1,c1,rfl,_⟩:=id hI;refine lmv (lex #[.agg #[.bool sg,.slice a1 l1 c1],.int .i64 er] (.agg #[.bool sg,.slice a1 l1 c1]) (lex #[.agg #[.bool sg,.slice a1 l1 c1],.int .i64 er] (.int .i64 er) ?_));refine lbx [.bool sg,.slice a1 l1 c1] al_In st_In rfl rfl nwZI rfl (λg6 W7a hg6 B6 e2=>lmv (zI ?_));have HE2:=hid ((HE.out.trans e1).trans e2);have HB2:=hid ((HB.out.ext e1).ext e2);have HI2:=hid ((show IsI 136 z _ W7 from hI).ext e2);clear e1 e2 hI hg6
      try go_simp
      by_cases h3:er=0
      · subst h3
        have HR:=hid (show(numP (s.drop a)).map mkN=some (⟨1, [],0,z,0,0, []⟩,s.drop T)by rw[HNU.out,if_neg (λh=>h.elim h1 (λh=>h rfl))];rfl);exact tNq5_3
      · have h4:(er==0)=false:=by simpa using h3
        have HR:=hid (show(numP (s.drop a)).map mkN=none by rw[HNU.out,if_pos (.inr h3)];rfl);exact tNq5_4
end
def IsSm(s:List UInt8)(o:Option (Int×List UInt8))(v:Value)(_:World):Prop:=∃n p:Int,v=.agg ([.int .i64 n,.int .i64 p]:List Value).toArray/\ -1000000<=n/\n<=1000000/\RdO s o n p
noncomputable def nbP (x r:List UInt8):Option (Int×List UInt8):=(smlP r).bind λq=>(qG x q.2).bind λt=>some (q.1,t)
theorem smlP_some{r t:List UInt8}{z:Int}(h:numP r=some (z,t)):smlP r=if -1000000<=z/\z<=1000000 then some (z,t)else none:=by rw[smlP,h]
theorem smlP_none{r:List UInt8}(h:numP r=none):smlP r=none:=by rw[smlP,h]
theorem map_mkN{o:Option (Int×List UInt8)}{x:Nd}{t:List UInt8}(h:o.map mkN=some (x,t)):∃z,o=some (z,t)/\x=⟨1, [],0,z,0,0, []⟩:=by
  obtain⟨⟨z,t'⟩,h1,h2⟩:=Option.map_eq_some_iff.1 h;simp only[mkN,Prod.mk.injEq]at h2;obtain⟨rfl,rfl⟩:=h2;exact⟨z,h1,rfl⟩
def zSm:List Value:= [.int .i64 0,.int .i64 0]
theorem nwSm:∀v∈zSm,NoWord v:=λv hv=>by
  simp only[zSm,List.mem_cons,List.not_mem_nil,or_false]at hv;rcases hv with rfl|rfl <;> exact NoWord.int64 _
section
variable {P:Program} {ops:Array Oper} {Q:Exit->Act->World->Prop} {a:Act} {w:World} {o o1 o2:Oper} {os:List Oper}
theorem lb1{T i:Nat}{x:Operand}{p:Value}(v:Value)(hr:(Instr.build T #[(i,p)]).run P w=.ok v w)(h:wpList P ops Q os (a.put o.dst v) w)(ho:o.op=.build T #[(i,x)]:=by rfl)(hx:a.eval x=p:=by kernel_rfl)(hg:o.guard=none:=by rfl):wpList P ops Q (o ::os) a w:=
  lbd v ho (by simp only[List.map_toArray,List.map_cons,List.map_nil];rw[hx];exact hr) h hg
end
section
set_option maxRecDepth 100000
set_option maxHeartbeats 8000000
theorem al_Sm(w:World):(Instr.alloc 156 true (.tuple #[])).run prog w=.ok (.pointer (some ⟨w.heap.size,0,none⟩)) (w.alloc (.cells zSm.toArray 156)):=by unfold zSm;go_simp
theorem st_Sm:StV prog 156 2:=stM zc
theorem bd_Sm1{w:World}{k:Int}:(Instr.build 156 #[(1,.int .i64 k)]).run prog w=.ok (.agg ([.int .i64 0,.int .i64 k]:List Value).toArray) w:=by go_simp
theorem bd_Sm2{w:World}{n k:Int}:(Instr.build 156 #[(0,.int .i64 n),(1,.int .i64 k)]).run prog w=.ok (.agg ([.int .i64 n,.int .i64 k]:List Value).toArray) w:=by go_simp
theorem after_r{s x:List UInt8}{sb xb:ByteArray}{p q:Int}(hs:(⟨s.toArray⟩:ByteArray)=sb)(hx:(⟨x.toArray⟩:ByteArray)=xb)(h:aftI s p x=q)(h0:s.length<=1000000)(h1:x.length<=1000)(h2: -1<=p)(h3:p<=s.length)(w:World):Calls prog 43 ([.string sb,.int .i64 p,.string xb]:List Value).toArray w (Ret w (iV q)):=by
  have h9:=after_f s x p w h0 h1 h2 h3;rw[qB,qB,hs,hx,h]at h9;exact h9.mono λe w' k=>⟨_,k.1,by rw[k.2];exact Ext.refl _,rfl⟩
theorem ld_Int3{w:World}{g:Nat}{u0 u1 u2:Value}{s:Bool}{a:Option Addr}{m c:Nat}{l:List Value}(B:Bk w g (u0 ::u1 ::u2 :: .bool s :: .slice a m c ::l)):(Instr.loadAt 29 (.pointer (some ⟨g,3,none⟩))).run prog w=.ok (.agg #[.bool s,.slice a m c]) w:=
  ldM (vs:= [.bool s,.slice a m c]) zc zc rfl (λj v hj=>by
    rcases j with _|_|j
    ·exact B.c 3 _ ja
    ·exact B.c 4 _ ja
    ·simp at hj)
theorem tNq5_2{P:Prop}(h:P:=by
  have HR:=hid (show nbP x r=none by rw[nbP,hsm,if_neg (by omega)];rfl);clear hsm;go_upto_region 6 with fail;refine wp_region_lit (lb1 (.agg ([.int .i64 0,.int .i64 (-1)]:List Value).toArray) bd_Sm1 ?_);refine lst [.int .i64 0,.int .i64 (-1)] HB3.out st_Sm rfl rfl nwSm rfl (λW6 B9 O=>zI ?_);go_wp2_with fail;exact zH (jU results117 zc (lvM zc zc rfl B9)) rfl ⟨_,rfl,O.ext HE3.out (zN _),0,-1,rfl,by decide,by decide,.inl ⟨HR.out,rfl⟩⟩
  ):P:=h
theorem numbered_f(s x:List UInt8)(a:Nat)(w:World)(hs:s.length<=1000000)(hx:x.length<=1000)(ha:a<=s.length):Calls prog 117 #[qB s,.int .i64 (a:Int),qB x] w (Ret w (IsSm s (nbP x (s.drop a)))):=by
  obtain⟨sb,hsb⟩:∃y:ByteArray,(⟨s.toArray⟩:ByteArray)=y:=⟨_,rfl⟩;obtain⟨xb,hxb⟩:∃y:ByteArray,(⟨x.toArray⟩:ByteArray)=y:=⟨_,rfl⟩;have HWH:=hid (λw'=>whole_f s a w' hs ha);rw[qB,hsb]at HWH;have HS:=hid (zL hsb (zL hxb (zL hs hx)));obtain⟨r,hr⟩:∃r,s.drop a=r:=⟨_,rfl⟩;rw[hr]at HWH ⊢;rw[qB,qB,hsb,hxb];obtain⟨W,hW,E,B⟩:∃W,W=w.alloc (.cells zSm.toArray 156)/\Ext w W/\Bk W w.heap.size zSm:=zg;unfold zSm at hW;have HB:=hid B;have HE:=hid E;clear B E hsb hxb hs hx ha hr;go_enter func117,ntmps117;go_upto_region 1 with fail;rw[<-hW];clear hW;refine wp_region_lit (lmv (lmv (lca [.string sb,.int .i64 (a:Int)] (en func83) (HWH.out _) (λv W1 e1 hv=>?_))));obtain⟨y,us,p,rfl,hy,hp⟩:=hv;refine lbx (us++ [Value.int .i64 p]) al_Rd xO rfl (jT hy.len) zB (one_fit hy.nw.2) (λg7 W1a hg7 B7 e2=>zI ?_);have HE2:=hid ((HE.out.trans e1).trans e2);have HB2:=hid ((HB.out.ext e1).ext e2);have hy:=hy.ext e2;have c8:=B7.c 8 (.int .i64 p) zaf;clear e1 e2 HB HE HWH hg7
  try go_simp
  rcases hp with⟨hn,rfl⟩| ⟨a',rfl,hal,ho⟩
  · have HR:=hid (show nbP x r=none by rw[nbP,smlP_none (Option.map_eq_none_iff.1 hn)];rfl)
    clear hn hy;go_upto_region 3 with fail;refine wp_region_lit (lb1 (.agg ([.int .i64 0,.int .i64 (-1)]:List Value).toArray) bd_Sm1 ?_);refine lst [.int .i64 0,.int .i64 (-1)] HB2.out st_Sm rfl rfl nwSm rfl (λW3 B9 O=>zI ?_);go_wp2_with fail;exact zH (jU results117 zc (lvM zc zc rfl B9)) rfl ⟨_,rfl,O.ext HE2.out (zN _),0,-1,rfl,by decide,by decide,.inl ⟨HR.out,rfl⟩⟩
  · obtain⟨z,hnz,rfl⟩:=map_mkN ho
    have hsm:=smlP_some hnz;have hp0:¬((a':Int)<0):=ze
    obtain⟨sg,a1,m1,c1,ao,cp,hus,hI,_⟩:=hy.out;change us= [.int .i64 1,.string ⟨#[]⟩,.int .i64 0,.bool sg,.slice a1 m1 c1,.int .i64 0,.int .i64 0,.slice ao 0 cp]at hus;subst hus;obtain⟨nl,bl,HL,hnl⟩:=RLow_q (w:=W1a) (show IsI 136 z _ W1a from hI);clear ho hy hI hnz;have HA:=hid hal;clear hal;go_upto_region 4 with fail;refine wp_region_lit (lfa (fa_Rd0 _ g7) (lfa (fa_Nd3 g7 _) (lld (ld_Int3 B7) (lca [.agg #[.bool sg,.slice a1 m1 c1]] (en func138) HL (λv W4 e3 hv=>?_)))));obtain⟨v1,v2,rfl,rfl,rfl⟩:=hv;refine lmv (lex #[.int .i64 nl,.bool bl] (.int .i64 nl) (lex #[.int .i64 nl,.bool bl] (.bool bl) (lmv (lmv (zI ?_)))));have B7:=B7.ext e3;have HB7:=hid (show Bk W4 g7 ([.int .i64 1,.string ⟨#[]⟩,.int .i64 0,.bool sg,.slice a1 m1 c1,.int .i64 0,.int .i64 0,.slice ao 0 cp]++ [Value.int .i64 (a':Int)])from B7);have HE3:=hid (HE2.out.trans e3);have HB3:=hid (HB2.out.ext e3);clear e3 HE2 HB2 HL c8 hp0
    try go_simp
    rcases hnl with⟨rfl,rfl⟩| ⟨rfl,hbig⟩
    · by_cases h1:nl< -1000000
      ·exact tNq5_2
      by_cases h2:1000000<nl
      ·exact tNq5_2
      rw[if_pos (by omega)]at hsm;have HNL:=hid (show -1000000<=nl/\nl<=1000000 by omega);obtain⟨q,hq⟩:∃q,aftI s (a':Int) x=q:=⟨_,rfl⟩;have HAF:=hid (after_r HS.out.1 HS.out.2.1 hq HS.out.2.2.1 HS.out.2.2.2 ze (by have:=HA.out;omega))
      have HR:=hid (show RdO s (nbP x r) nl q by
        rcases jW HA.out x with⟨k1,k2⟩| ⟨k1,k2,k3⟩
        ·exact .inl ⟨by rw[nbP,hsm];simp[k1],by rw[<-hq,k2]⟩
        ·exact .inr ⟨a'+x.length,by rw[<-hq,k2],k3,by rw[nbP,hsm];simp[k1]⟩)
      clear hsm hq;go_upto_region 7 with fail;clear h1 h2;refine wp_region_lit (lmv (lmv (lfa (fa_Rd1 _ g7) (lld (ld_At HB7.out rfl) (lmv (lca [.string sb,.int .i64 (a':Int),.string xb] (en func43) (HAF.out _) (λv W7 e4 hv=>?_)))))));obtain rfl:v=.int .i64 q:=hv;refine lb2 (.agg ([.int .i64 nl,.int .i64 q]:List Value).toArray) bd_Sm2 ?_;refine lst [.int .i64 nl,.int .i64 q] (HB3.out.ext e4) st_Sm rfl rfl nwSm rfl (λW7a B9 O=>zI ?_);go_wp2_with fail;exact zH (jU results117 zc (lvM zc zc rfl B9)) rfl ⟨_,rfl,O.ext (HE3.out.trans e4) (zN _),nl,q,rfl,HNL.out.1,HNL.out.2,HR.out⟩
    ·exact tNq5_2
end
end Go.Proofs.YtenhciieboegbaaGreatDoor
