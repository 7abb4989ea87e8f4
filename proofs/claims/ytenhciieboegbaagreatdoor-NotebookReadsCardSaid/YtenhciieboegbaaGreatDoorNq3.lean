/-
  The reference's reader: after, run, none.
  The reference's reader: steps of a list of operations; none; Low of the reference.
  The reference's reader: Low, whole. (Printed by wip/gen/nq3.py.)
-/
import Derived.Test.YtenhciieboegbaaGreatDoorNr8
namespace Go.Proofs.YtenhciieboegbaaGreatDoor
open Go Go.RowKit Go.Maps
open Go.Proofs.Tryz
theorem yn{P:Prop}(h:P:=by simp[results,results138,go_sem]):P:=h
def aftI(s:List UInt8)(p:Int)(x:List UInt8):Int:=if 0<=p/\x <+:s.drop p.toNat then p+(x.length:Int)else -1
def runI(s:List UInt8)(a:Nat):Nat:=a+((s.drop a).takeWhile qH).length
theorem runI_yes{s:List UInt8}{a:Nat}{c:UInt8}(h:s[a]? =some c)(hc:qH c=true):runI s a=runI s (a+1):=by
  have hd:s.drop a=c ::s.drop (a+1):=zx
  rw[runI,runI,hd,List.takeWhile_cons,if_pos hc,List.length_cons];omega
theorem runI_no{s:List UInt8}{a:Nat}{c:UInt8}(h:s[a]? =some c)(hc:qH c=false):runI s a=a:=by
  have hd:s.drop a=c ::s.drop (a+1):=zx
  rw[runI,hd,List.takeWhile_cons,if_neg (by rw[hc];decide)];rfl
theorem runI_end{s:List UInt8}{a:Nat}(h:s.length<=a):runI s a=a:=by rw[runI,List.drop_of_length_le h];rfl
theorem runI_le{s:List UInt8}{a:Nat}(h:a<=s.length):a<=runI s a/\runI s a<=s.length:=by
  have:=(List.takeWhile_prefix (l:=s.drop a) qH).length_le;rw[List.length_drop]at this;rw[runI];omega
section
set_option maxRecDepth 100000
set_option maxHeartbeats 8000000
theorem tNq3_2{P:Prop}(h:P:=by
  go_enter func43,ntmps43;go_wp2_with fail
  go_ret
  exact⟨rfl,rfl⟩
  ):P:=h
theorem after_f(s x:List UInt8)(p:Int)(w:World)(hs:s.length<=1000000)(hx:x.length<=1000)(h1: -1<=p)(h2:p<=s.length):Calls prog 43 #[qB s,.int .i64 p,qB x] w (RSame w (.int .i64 (aftI s p x))):=by
  obtain⟨n,hn⟩:∃n,s.length=n:=⟨_,rfl⟩;obtain⟨m,hm⟩:∃n,x.length=n:=⟨_,rfl⟩;obtain⟨sb,hsb⟩:∃y:ByteArray,(⟨s.toArray⟩:ByteArray)=y:=⟨_,rfl⟩;obtain⟨xb,hxb⟩:∃y:ByteArray,(⟨x.toArray⟩:ByteArray)=y:=⟨_,rfl⟩;have hsz:sb.size=n:=jp
  have hxz:xb.size=m:=by rw[<-hxb,<-hm];rfl
  rw[hn]at hs h2;rw[hm]at hx;by_cases h0:p<0
  · obtain rfl:p= -1:=by omega
    rw[show aftI s (-1) x= -1 from rfl,qB,qB,hsb,hxb];clear hsb hxb hn hm;exact tNq3_2
  obtain⟨a,rfl⟩:=Int.eq_ofNat_of_zero_le (show 0<=p by omega);have hp0:¬((a:Int)<0):=ze
  have hwr:IntKind.i64.wrap ((a:Int)+(m:Int))=((a+m:Nat):Int):=zh
  by_cases h3:n<a+m
  · have hgt:(n:Int)<((a+m:Nat):Int):=by omega
    have hv:aftI s (a:Int) x= -1:=by
      rw[aftI,if_neg];rintro⟨-,h⟩;have:=h.length_le;rw[List.length_drop,hn,hm,Int.toNat_natCast]at this;by_cases hm0:m=0
      ·omega
      ·omega
    rw[hv,qB,qB,hsb,hxb];clear hsb hxb hn hm h0 h1 h2 hv hs hx;exact tNq3_2
  have hgt:¬(n:Int)<((a+m:Nat):Int):=ze
  obtain⟨y,hy⟩:∃y,(s.drop a).take m=y:=⟨_,rfl⟩;obtain⟨yb,hyb⟩:∃z:ByteArray,(⟨y.toArray⟩:ByteArray)=z:=⟨_,rfl⟩;have hex:sb.extract a (a+m)=yb:=by rw[<-hsb,ba_ex,Nat.add_sub_cancel_left,hy,hyb]
  have he:=jM y x;rw[hyb,hxb]at he;have ha0:(0:Int)<=(a:Int):=ze
  have ha1:(a:Int)<=((a+m:Nat):Int):=ze
  have ha2:((a+m:Nat):Int)<=(n:Int):=ze
  have ha3:a<=a+m:=ze
  have ha4:a+m<=n:=ze
  by_cases hxy:y=x
  · rw [decide_eq_true hxy]at he
    have he':(yb.toList !=xb.toList)=false:=by simp[bne,he]
    have hee:yb.toList=xb.toList:=by simpa using he
    have hv:aftI s (a:Int) x=((a+m:Nat):Int):=by
      rw[aftI,if_pos ⟨ha0,by rw[List.prefix_iff_eq_take,hm,Int.toNat_natCast,hy,hxy]⟩,hm];omega
    rw[hv,qB,qB,hsb,hxb];clear hsb hxb hyb hy hn hm h0 h1 h2 hv hs hx hxy h3;exact tNq3_2
  · rw [decide_eq_false hxy]at he
    have he':(yb.toList !=xb.toList)=true:=by simp[bne,he]
    have hee:¬yb.toList=xb.toList:=by simpa using he
    have hv:aftI s (a:Int) x= -1:=by
      rw[aftI,if_neg];rintro⟨-,h⟩;rw[List.prefix_iff_eq_take,hm,Int.toNat_natCast,hy]at h;exact hxy h.symm
    rw[hv,qB,qB,hsb,hxb];clear hsb hxb hyb hy hn hm h0 h1 h2 hv hs hx hxy h3;exact tNq3_2
theorem run_f (s:List UInt8)(a:Nat)(w:World)(hs:s.length<=1000000)(ha:a<=s.length):Calls prog 41 #[qB s,.int .i64 (a:Int)] w (RSame w (.int .i64 ((runI s a:Nat):Int))):=by
  obtain⟨n,hn⟩:∃n,s.length=n:=⟨_,rfl⟩;obtain⟨r,hr⟩:∃n,runI s a=n:=⟨_,rfl⟩;obtain⟨sb,hsb⟩:∃y:ByteArray,(⟨s.toArray⟩:ByteArray)=y:=⟨_,rfl⟩;have hsz:sb.size=n:=jp
  rw[hr,qB,hsb];rw[hn]at hs ha;have HR:=hid hr;have HS:=hid (zL hsb (zL hn hs));have HA:=hid ha;clear hr hsb hn hs ha;go_enter func41,ntmps41;go_wp2_with fail
  go_loopg [1] (n-a) (λgk v1 wr=>∃i:Nat,v1=.int .i64 (i:Int)/\gk=n-i/\wr=w/\Hid (i<=n/\runI s i=r))
  case atStart=>exact⟨a,rfl,rfl,rfl,hid ⟨HA.out,HR.out⟩⟩
  case round=>
    obtain⟨i,rfl,hg,rfl,S⟩:=hrel;by_cases hi:i<n
    · have hil:(i:Int)<(n:Int):=by omega
      have hi0:(0:Int)<=(i:Int):=ze
      have hiw:IntKind.i64.wrap ((i:Int)+1)=((i+1:Nat):Int):=by have:=HS.out.2.2;simp only[IntKind.wrap_i64];omega
      obtain⟨c,hc⟩:∃c,s[i]? =some c:=⟨_,List.getElem?_eq_getElem (by rw[HS.out.2.1];exact hi)⟩;obtain⟨hj,-⟩:=ba_at HS.out.1 hc;have hct:=ba_atn HS.out.1 hc hj;have HT:=hid (show qH c=true->runI s (i+1)=r from λh=>by rw[<-runI_yes hc h];exact S.out.2);have HF:=hid (show qH c=false->i=r from λh=>by rw[<-runI_no hc h];exact S.out.2);have hq:qH c=(xP c||cDig c||decide (c.toNat=95)):=rfl;obtain⟨p1,hp1⟩:∃p,xP c=p:=⟨_,rfl⟩;obtain⟨p2,hp2⟩:∃p,cDig c=p:=⟨_,rfl⟩;have hL:=λw=>letter_f c w
      have hD:=λw=>digit_f c w
      rw[hp1,hp2]at hq;simp only[hp1,hp2,bV]at hL hD;generalize c.toNat=k at hct hL hD hq;have HL1:=hid hL;have HD1:=hid hD;have HQ:=hid hq;have HG:=hid (zL hg hi);clear hL hD hq hp1 hp2 hc hg hi;by_cases h95:k=95
      · have d95:((k:Int)==95)=true:=by simp;omega
        have HY:=hid (show qH c=true by rw[HQ.out,decide_eq_true h95];simp);clear h95;cases p1 <;> cases p2
        all_goals
          go_wp2_with (first| (go_at_call 79;go_must (refine zG (HL1.out _) ?_;rintro e w1 ⟨rfl,rfl⟩))| (go_at_call 80;go_must (refine zG (HD1.out _) ?_;rintro e w1 ⟨rfl,rfl⟩)))
          go_roundg (gk-1)
          case measure=>have:=HG.out;omega
          case rel=>exact⟨i+1,rfl,by have:=HG.out;omega,rfl,hid ⟨by have:=HG.out;omega,HT.out HY.out⟩⟩
      · have d95:((k:Int)==95)=false:=by simp;omega
        have HY:=hid (show qH c=(p1||p2)by rw[HQ.out,decide_eq_false h95];simp);clear h95;cases p1 <;> cases p2
        all_goals
          go_wp2_with (first| (go_at_call 79;go_must (refine zG (HL1.out _) ?_;rintro e w1 ⟨rfl,rfl⟩))| (go_at_call 80;go_must (refine zG (HD1.out _) ?_;rintro e w1 ⟨rfl,rfl⟩)))
          first
          | (go_ret
             have h:=HF.out HY.out;subst h
             exact⟨rfl,rfl⟩)
          | (go_roundg (gk-1)
             case measure=>have:=HG.out;omega
             case rel=>exact⟨i+1,rfl,by have:=HG.out;omega,rfl,hid ⟨by have:=HG.out;omega,HT.out HY.out⟩⟩)
    · have hil:¬((i:Int)<(n:Int)):=by omega
      obtain rfl:i=r:=by rw[<-S.out.2,runI_end (by rw[HS.out.2.1];omega)]
      go_wp2_with fail
      go_ret
      exact⟨rfl,rfl⟩
end
section
variable {P:Program} {ops:Array Oper} {Q:Exit->Act->World->Prop} {a:Act} {w:World} {o o1 o2:Oper} {os:List Oper}
theorem lmv{x:Operand}(h:wpList P ops Q os (a.put o.dst (a.eval x)) w)(ho:(o.op=.move x\/o.op=.assign x):=by first|exact .inl rfl|exact .inr rfl)(hg:o.guard=none:=by rfl):wpList P ops Q (o ::os) a w:=
  stL (λ_ hK=>qV (hK _ _ h) ho) hg
theorem lbn{b:BinOp}{T T2:Nat}{x y:Operand}(p q:Value){r:Value}(hp:Sem.run P (do eqGuard b T x y p q;binOp b T p q) w=.ok r w)(h:wpList P ops Q os (a.put o.dst r) w)(ho:o.op=.binOp b T x y T2:=by rfl)(hx:a.eval x=p:=by kernel_rfl)(hy:a.eval y=q:=by kernel_rfl)(hg:o.guard=none:=by rfl):wpList P ops Q (o ::os) a w:=
  stL (λ_ hK=>wp_bo hp (hK _ _ h) hx hy ho) hg
theorem lfa{T f:Nat}{x:Operand}{p r:Value}(hp:(Instr.fieldAt T p f).run P w=.ok r w)(h:wpList P ops Q os (a.put o.dst r) w)(ho:o.op=.fieldAddr T x f:=by rfl)(he:a.eval x=p:=by kernel_rfl)(hg:o.guard=none:=by rfl):wpList P ops Q (o ::os) a w:=
  stL (λ_ hK=>wp_fa hp (hK _ _ h) he ho) hg
theorem lld{T:Nat}{x:Operand}{p u:Value}(hr:(Instr.loadAt T p).run P w=.ok u w)(h:wpList P ops Q os (a.put o.dst u) w)(ho:o.op=.load T x:=by rfl)(he:a.eval x=p:=by kernel_rfl)(hg:o.guard=none:=by rfl):wpList P ops Q (o ::os) a w:=
  stL (λ_ hK=>wp_ld hr (hK _ _ h) he ho) hg
theorem lca{f:FuncId}{c:Call}{xs:List Operand}(us:List Value){fP:Value->World->Prop}(he:∀args w,(callFunc f args).run P w=.ok (.enter f args) w)(h:Calls P f us.toArray w (Ret w fP))(hK:∀v w',Ext w w'->fP v w'->wpList P ops Q os (a.put o.dst v) w')
    (ho:o.op=.call c:=by rfl) (hc:c.callee=.value (.func f):=by rfl) (ha:c.args=xs.toArray:=by rfl) (hx:xs.map a.eval=us:=by kernel_rfl) (hg:o.guard=none:=by rfl):wpList P ops Q (o ::os) a w:=
  stL (λ_ hk=>qM he hx h (λv w' hR=>by obtain⟨v',e,e1,h1⟩:=hR;injection e with e;subst e;exact hk _ _ (hK _ _ e1 h1)) (λ_ _ hR=>by obtain⟨_,e,_⟩:=hR;cases e) (λ_ hR=>by obtain⟨_,e,_⟩:=hR;cases e) ho hc ha) hg
theorem lbd{T:Nat}{ps:Array (Nat×Operand)}(v:Value)(ho:o.op=.build T ps)(hr:(Instr.build T (ps.map λp=>(p.1,a.eval p.2))).run P w=.ok v w)(h:wpList P ops Q os (a.put o.dst v) w)(hg:o.guard=none:=by rfl):wpList P ops Q (o ::os) a w:=
  stL (λ_ hK=>wp_bd hr (hK _ _ h) ho) hg
theorem lst{g m T:Nat}{vs:List Value}(us:List Value){x y:Operand}(B:Bk w g vs)(hT:StV P T m)(hl:vs.length=m)(hl':us.length=m)(hn:∀v∈vs,NoWord v)(ho1:us.all (λu=>u.oneCell')=true)(h:∀W',Bk W' g us->OnlyB g w W'->wpList P ops Q os a W')
    (ho:o.op=.store T x y:=by rfl) (hd:o.dst=none:=by rfl) (hx:a.eval x=.pointer (some ⟨g,0,none⟩):=by kernel_rfl) (hy:a.eval y=.agg us.toArray:=by kernel_rfl) (hg:o.guard=none:=by rfl):wpList P ops Q (o ::os) a w:=
  stL (λ_ hK=>zE B hT hl hl' hn (λW' b O=>hK _ _ (h W' b O)) ho hd hx hy ho1) hg
theorem lbx{m T:Nat}{vs:List Value}(us:List Value){x y:Operand}(al:∀w,(Instr.alloc T true (.tuple #[])).run P w=.ok (.pointer (some ⟨w.heap.size,0,none⟩)) (w.alloc (.cells vs.toArray T)))(hT:StV P T m)(hl:vs.length=m)(hl':us.length=m)(hn:∀v∈vs,NoWord v)(ho1:us.all (λu=>u.oneCell')=true)
    (h:∀g W',g=w.heap.size->Bk W' g us->Ext w W'->wpList P ops Q os (a.put o1.dst (.pointer (some ⟨g,0,none⟩))) W')
    (h1:o1.op=.alloc T:=by rfl) (ho:o2.op=.store T x y:=by rfl) (hd:o2.dst=none:=by rfl) (hx:∀g,(a.put o1.dst (.pointer (some ⟨g,0,none⟩))).eval x=.pointer (some ⟨g,0,none⟩):=by intro g;kernel_rfl) (hy:∀g,(a.put o1.dst (.pointer (some ⟨g,0,none⟩))).eval y=.agg us.toArray:=by intro g;kernel_rfl) (hg1:o1.guard=none:=by rfl) (hg2:o2.guard=none:=by rfl):wpList P ops Q (o1 ::o2 ::os) a w:=
  stL (λ_ hK=>jJ al (λBn e=>hK _ _ (lst us Bn hT hl hl' hn ho1 (λW' b O=>h _ W' rfl b (O.ext e (zN _))) ho hd (hx _) (hy _) hg2)) h1) hg1
end
def zRd:List Value:=zNd++ [.int .i64 0]
theorem zB:∀v∈zRd,NoWord v:=λv hv=>(List.mem_append.1 hv).elim (nwZN v) λh=>by
  obtain rfl:v=.int .i64 0:=zad
  exact NoWord.int64 _
def noV:List Value:=zNd++ [.int .i64 (-1)]
theorem nd_zero{B:Nat}{w:World}:NdC B w ⟨0, [],0,0,0,0, []⟩ zNd:=nd_leaf ⟨by simp,by decide,by decide⟩
section
set_option maxRecDepth 100000
set_option maxHeartbeats 8000000
theorem al_Rd(w:World):(Instr.alloc 82 true (.tuple #[])).run prog w=.ok (.pointer (some ⟨w.heap.size,0,none⟩)) (w.alloc (.cells zRd.toArray 82)):=by unfold zRd zNd;go_simp
theorem xO:StV prog 82 9:=stM zc
theorem bd_Rd{w:World}{us:List Value}{k:Int}(hl:us.length=8):(Instr.build 82 #[(0,.agg us.toArray),(1,.int .i64 k)]).run prog w=.ok (.agg (us++ [Value.int .i64 k]).toArray) w:=by
  match us,hl with
  | [u0,u1,u2,u3,u4,u5,u6,u7],_=>go_simp
theorem fa_Rd0(w:World)(g:Nat):(Instr.fieldAt 82 (.pointer (some ⟨g,0,none⟩)) 0).run prog w=.ok (.pointer (some ⟨g,0,none⟩)) w:=by go_simp
theorem fa_Rd1(w:World)(g:Nat):(Instr.fieldAt 82 (.pointer (some ⟨g,0,none⟩)) 1).run prog w=.ok (.pointer (some ⟨g,8,none⟩)) w:=by go_simp
theorem ld_At{w:World}{g:Nat}{us:List Value}{p:Int}(B:Bk w g (us++ [.int .i64 p]))(hl:us.length=8):(Instr.loadAt 3 (.pointer (some ⟨g,8,none⟩))).run prog w=.ok (.int .i64 p) w:=by
  have c8:=B.c 8 (.int .i64 p) (by rw[List.getElem?_append_right (by omega)];simp[hl])
  go_simp
theorem ld_N{w:World}{g:Nat}{us:List Value}{p:Int}(B:Bk w g (us++ [.int .i64 p]))(hl:us.length=8):(Instr.loadAt 32 (.pointer (some ⟨g,0,none⟩))).run prog w=.ok (.agg us.toArray) w:=
  ldM zc zc hl (λj v hj=>by rw[Nat.zero_add];exact B.c j v (by rw[List.getElem?_append_left (List.getElem?_eq_some_iff.1 hj).1];exact hj))
theorem none_f(w:World):Calls prog 81 #[] w (RVal w (.agg noV.toArray)):=by
  obtain⟨W,hW,E,B⟩:∃W,W=w.alloc (.cells zRd.toArray 82)/\Ext w W/\Bk W w.heap.size zRd:=zg;unfold zRd zNd at hW;simp only[List.cons_append,List.nil_append]at hW;go_enter func81,ntmps81;go_upto_region 1 with fail;rw[<-hW];clear hW;refine wp_region_lit (lbd (.agg noV.toArray) rfl (by simp only[List.map_toArray,List.map_cons,List.map_nil];unfold noV zNd;go_simp) ?_);refine lst noV B xO rfl rfl zB rfl (λW1 B9 O=>zI ?_);go_wp2_with fail;exact zH (jU results81 rfl (lvM zc zc rfl B9)) rfl ⟨rfl,O.ext E (zN _)⟩
end
def RdO{α:Type}(s:List UInt8)(o:Option (α×List UInt8))(x:α)(p:Int):Prop:=(o=none/\p= -1)\/∃a:Nat,p=(a:Int)/\a<=s.length/\o=some (x,s.drop a)
def IsRd(B:Nat)(s:List UInt8)(o:Option (Nd×List UInt8))(v:Value)(w:World):Prop:=∃(x:Nd) (us:List Value) (p:Int),v=.agg (us++ [Value.int .i64 p]).toArray/\NdC B w x us/\RdO s o x p
theorem IsRd.ext{B:Nat}{s:List UInt8}{o:Option (Nd×List UInt8)}{v:Value}{w w':World}(h:IsRd B s o v w)(e:Ext w w'):IsRd B s o v w':=let ⟨x,us,p,h1,h2,h3⟩:=h;⟨x,us,p,h1,h2.ext e,h3⟩
theorem IsRd.stb(B:Nat)(s:List UInt8)(o:Option (Nd×List UInt8)):Stb (IsRd B s o):=λ_ _ _ e h=>h.ext e
instance (B:Nat) (s:List UInt8) (o:Option (Nd×List UInt8)):StbC (IsRd B s o):=⟨IsRd.stb B s o⟩
theorem jP{B:Nat}{s:List UInt8}{w:World}{o:Option (Nd×List UInt8)}(h:o=none):IsRd B s o (.agg noV.toArray) w:=⟨_,zNd,-1,rfl,nd_zero,.inl ⟨h,rfl⟩⟩
theorem jT{us:List Value}{p:Int}(h:us.length=8):(us++ [Value.int .i64 p]).length=9:=by rw[zQ,h];rfl
theorem one_fit{us:List Value}{p:Int}(h:us.all (λu=>u.oneCell')=true):(us++ [Value.int .i64 p]).all (λu=>u.oneCell')=true:=by rw[List.all_append,h];rfl
section
set_option maxRecDepth 100000
set_option maxHeartbeats 8000000
theorem fa_In1(g:Nat)(w:World):(Instr.fieldAt 29 (.pointer (some ⟨g,0,none⟩)) 1).run prog w=.ok (.pointer (some ⟨g,1,none⟩)) w:=by go_simp
theorem ld_ws{w:World}{p:Addr}{a:Option Addr}{n c:Nat}(h:World.cell? w p=some (.slice a n c)):(Instr.loadAt 27 (.pointer (some p))).run prog w=.ok (.slice a n c) w:=by go_simp
theorem join2_words(a b:Nat)(ha:a<4294967296)(hb:b<4294967296):bits .or .u64 (a:Int) ((b:Int)*4294967296)=((a+4294967296*b:Nat):Int):=by
  have h:=u64_or_nat a (b*4294967296) ze ze;have h32:(2:Nat)^32=4294967296:=by decide
  have h2:=nat_join 32 (b*4294967296) a (by rw[h32];omega) (by rw[h32];omega);rw[Nat.or_comm,h2,Nat.add_comm,Nat.mul_comm]at h;have e:((b:Int)*4294967296)=((4294967296*b:Nat):Int):=ze
  rw[e];exact h
theorem val_two(xs:List Nat)(h:xs.length<=2):qF xs=xs.getD 0 0+4294967296*xs.getD 1 0:=by
  match xs,h with
  | [],_=>rfl
  | [a],_=>simp[qF]
  | [a,b],_=>simp[qF]
  |_ ::_ ::_ ::_,h=>simp at h
theorem tNq3_1{P:Prop}(h:P:=by
  go_wp2_with fail;refine zH (v:=.tuple #[.int .i64 (0),.bool false]) yn rfl ?_;exact⟨_,rfl,HE1.out,_,_,rfl,rfl,rfl⟩
  ):P:=h
theorem RLow_q{k:Nat}{z:Int}{x:Value}{w:World}(hx:IsI k z x w):∃n b,Calls prog 138 #[x] w (Ret w (IsT2 (iV n) (IsV (.bool b))))/\((b=true/\n=z)\/(b=false/\1000000<z.natAbs)):=by
  obtain⟨s,a,n,c,e,m,⟨xs,hw,hk,ht,hv⟩,hs,he⟩:=hx;subst e;obtain⟨x0,h0⟩:∃y,xs.getD 0 0=y:=⟨_,rfl⟩;obtain⟨x1,h1⟩:∃y,xs.getD 1 0=y:=⟨_,rfl⟩;have l0:x0<4294967296:=by rw[<-h0];exact hw.lt 0
  have l1:x1<4294967296:=by rw[<-h1];exact hw.lt 1
  have hor:=join2_words x0 x1 l0 l1;have hsh:IntKind.u64.wrap ((x1:Int)*4294967296)=(x1:Int)*4294967296:=by simp only[IntKind.wrap_u64];omega
  obtain⟨q,hq⟩:∃q,x0+4294967296*x1=q:=⟨_,rfl⟩;rw[hq]at hor;have hq2:n<=2->m=q:=λh=>by rw[<-hv,val_two xs (by rw[hw.len];exact h),h0,h1,hq]
  have hq3:2<n->1000000<m:=λh=>by
    have:=jR xs (by rw[hw.len];omega) (by rw[hw.len];exact ht ze);have h3:4294967296^1<=4294967296^(xs.length-1):=Nat.pow_le_pow_right dcx (by rw[hw.len];omega);omega
  obtain ⟨nn,bb,H1,H2,H3,H4,H5⟩:∃(nn:Int) (bb:Bool),(2<n\/9223372036854775808<q->nn=0/\bb=false)/\(n<=2->q=9223372036854775808->s=false->nn=0/\bb=false)/\(n<=2->q<=9223372036854775808->s=true->nn= -(q:Int)/\bb=true)/\(n<=2->q<9223372036854775808->s=false->nn=(q:Int)/\bb=true)/\((bb=true/\nn=z)\/(bb=false/\1000000<z.natAbs)):=by
    by_cases c1:2<n\/9223372036854775808<q
    · refine⟨0,false,λ_=>⟨rfl,rfl⟩,λ_ _ _=>⟨rfl,rfl⟩,λh1 h2=>by omega,λh1 h2=>by omega,.inr ⟨rfl,?_⟩⟩
      have:1000000<m:=by
        rcases zR 2 n with h|h
        ·exact hq3 h
        ·have:=hq2 h;omega
      cases s <;> simp at he <;> omega
    · have hm:=hq2 ze
      cases s with
      |true=>exact⟨-(q:Int),true,λh=>absurd h c1,(λ_ _ h=>by cases h),λ_ _ _=>⟨rfl,rfl⟩,(λ_ _ h=>by cases h),.inl ⟨rfl,by simp at he;omega⟩⟩
      | false=>
        by_cases c2:q=9223372036854775808
        ·exact⟨0,false,λ_=>⟨rfl,rfl⟩,λ_ _ _=>⟨rfl,rfl⟩,(λ_ _ h=>by cases h),λ_ h=>by omega,.inr ⟨rfl,by simp at he;omega⟩⟩
        ·exact⟨(q:Int),true,λh=>absurd h c1,λ_ h=>absurd h c2,(λ_ _ h=>by cases h),λ_ _ _=>⟨rfl,rfl⟩,.inl ⟨rfl,by simp at he;omega⟩⟩
  refine⟨nn,bb,?_,H5⟩;have M0:=hid (λw' (e:Ext w w')=>word_c w' a n c xs (hw.ext e) 0 dcx);have M1:=hid (λw' (e:Ext w w')=>word_c w' a n c xs (hw.ext e) 1 dcx);rw[h0]at M0;rw[h1]at M1;have HH:=hid (zL H1 (zL H2 (zL H3 H4)));have HO:=hid (zL hor hsh);have hcap:=hw.capo;have hbig:=hw.big;have HN:=hid (show n<=9223372036854775807 by omega);clear H1 H2 H3 H4 H5 hor hsh hq hq2 hq3 h0 h1 l0 l1 hs he hk ht hv hw hcap hbig;obtain⟨W,hW,E,B⟩:∃W,W=w.alloc (.cells #[.bool s,.slice a n c] 29)/\Ext w W/\Bk W w.heap.size [.bool s,.slice a n c]:=zg;have HB:=hid B;have HE:=hid E;clear B E;go_enter func138,ntmps138;go_upto_region 1 with fail;rw[<-hW];clear hW;refine rg 9 [some 5,some 6,some 7,some 8,some 9,some 10,some 11,some 12,some 4] [IsP (w.heap.size) 1,IsV (.slice a n c),IsV (.int .u64 (x0:Int)),IsP (w.heap.size) 1,IsV (.slice a n c),IsV (.int .u64 (x1:Int)),IsV (.int .u64 ((x1:Int)*4294967296)),IsV (.int .u64 (q:Int)),IsV (.int .u64 (q:Int))] [] 0 ?_ ?_
  · refine Rc (fa (fa_In1 w.heap.size) (qC 1)) ?_
    refine Rc (lv (fP:=IsV (.slice a n c)) _ (λw' e=>ld_ws ((HB.out.ext e).c 1 _ rfl)) (qA 0 5) (λ_ _=>rfl)) ?_;refine Rc (cl2 (fQ:=IsV (.int .u64 ((x0:Nat):Int))) (en func168) (qA (fP:=IsV (.slice a n c)) 1 6) qD (λx0 x1 w' hE d0 d1=>by{obtain rfl:x0=.slice a n c:=d0;obtain rfl:x1=.int .i64 0:=d1;exact zG (M0.out w' (HE.out.trans hE)) (λe w2 h=>⟨_,h.1,h.2▸Ext.refl _,rfl⟩)})) ?_;refine Rc (fa (fa_In1 w.heap.size) (qC 1)) ?_;refine Rc (lv (fP:=IsV (.slice a n c)) _ (λw' e=>ld_ws ((HB.out.ext e).c 1 _ rfl)) (qA 3 8) (λ_ _=>rfl)) ?_;refine Rc (cl2 (fQ:=IsV (.int .u64 ((x1:Nat):Int))) (en func168) (qA (fP:=IsV (.slice a n c)) 4 9) qD (λx0 x1 w' hE d0 d1=>by{obtain rfl:x0=.slice a n c:=d0;obtain rfl:x1=.int .i64 1:=d1;exact zG (M1.out w' (HE.out.trans hE)) (λe w2 h=>⟨_,h.1,h.2▸Ext.refl _,rfl⟩)})) ?_;refine Rc (bn (r:=.int .u64 ((x1:Int)*4294967296)) (qA (fP:=IsV (.int .u64 (x1:Int))) 5 10) qD (hr:=λw=>by have hx9:=HO.out.2;go_simp)) ?_;refine Rc (bn (r:=.int .u64 (q:Int)) (qA (fP:=IsV (.int .u64 (x0:Int))) 2 7) (qA (fP:=IsV (.int .u64 ((x1:Int)*4294967296))) 6 11) (hr:=λw=>by have hx9:=HO.out.1;go_simp)) ?_;refine Rc (mv (qA (fP:=IsV (.int .u64 (q:Int))) 7 12)) ?_;exact rn0
  intro v W1 e1 hΦ _;have v8:v 8=.int .u64 (q:Int):=hΦ 8 dcx;simp only[lxE,Nat.reduceAdd];rw[v8];have c0:=(HB.out.ext e1).c 0 _ rfl;have c1:=(HB.out.ext e1).c 1 _ rfl;have HE1:=hid (HE.out.trans e1);clear v8 hΦ e1 HB HE M0 M1 HO;refine zP zc ?_ _;by_cases d1:2<n
  · have hlt:(2:Int)<(n:Int):=by omega
    obtain⟨rfl,rfl⟩:=HH.out.1 (.inl d1);clear d1;exact tNq3_1
  have hlt:¬(2:Int)<(n:Int):=ze
  have hn2:n<=2:=ze
  rcases Nat.lt_trichotomy q 9223372036854775808 with d2|d2|d2
  · have hq1:¬(9223372036854775808:Int)<(q:Int):=by omega
    have hq2:((q:Int)==9223372036854775808)=false:=yi
    have hq4:¬q=9223372036854775808:=ze
    have hq5:q<=9223372036854775808:=ze
    have hq6:¬9223372036854775808<q:=ze
    have hq3:IntKind.i64.wrap (q:Int)=(q:Int):=zh
    cases s with
    | true=>
      have hq4:IntKind.i64.wrap (-(q:Int))= -(q:Int):=zh
      obtain⟨rfl,rfl⟩:=HH.out.2.2.1 hn2 (Nat.le_of_lt d2) rfl;clear d1 d2;go_wp2_with fail;refine zH (v:=.tuple #[.int .i64 (-(q:Int)),.bool true]) yn rfl ?_;exact⟨_,rfl,HE1.out,_,_,rfl,rfl,rfl⟩
    | false=>
      obtain⟨rfl,rfl⟩:=HH.out.2.2.2 hn2 d2 rfl;clear d1 d2;go_wp2_with fail;refine zH (v:=.tuple #[.int .i64 ((q:Int)),.bool true]) yn rfl ?_;exact⟨_,rfl,HE1.out,_,_,rfl,rfl,rfl⟩
  · subst d2
    cases s with
    | true=>
      have hq3:IntKind.i64.wrap 9223372036854775808= -9223372036854775808:=by decide
      obtain⟨rfl,rfl⟩:=HH.out.2.2.1 hn2 dcx rfl;clear d1;go_wp2_with fail;refine zH (v:=.tuple #[.int .i64 (-9223372036854775808),.bool true]) yn rfl ?_;exact⟨_,rfl,HE1.out,_,_,rfl,rfl,rfl⟩
    | false=>
      obtain⟨rfl,rfl⟩:=HH.out.2.1 hn2 rfl rfl;clear d1;exact tNq3_1
  · have hq1:(9223372036854775808:Int)<(q:Int):=by omega
    obtain⟨rfl,rfl⟩:=HH.out.1 (.inr d2);exact tNq3_1
end
end Go.Proofs.YtenhciieboegbaaGreatDoor
