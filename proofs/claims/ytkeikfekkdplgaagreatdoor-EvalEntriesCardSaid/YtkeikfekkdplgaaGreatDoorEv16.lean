/- Lemmas. -/
import Derived.Test.YtkeikfekkdplgaaGreatDoorEv8
import Derived.RangeFuncMany
import Derived.RangeFuncWrites
import Derived.Below
import Derived.RangeFuncLeaves
import Derived.Shelf.Abstract
import Derived.WalkKit
import Derived.OwnWalkIn
import Derived.TacticsInMore
import Derived.LoopNIn
import Derived.LoopIn
import Derived.RangeFuncBox
import Derived.Test.YtkeikfekkdplgaaGreatDoorBase
import Derived.Test.YtkeikfekkdplgaaGreatDoorReadB
import Derived.OrdersIn
import Derived.Deep.MidRow
import Derived.Sort.OwnSortedInts
import Derived.Sort.KeysCollected
import Derived.Lib.SlKeysI
import Derived.Test.YtkeikfekkdplgaaGreatDoorEv3
import Derived.Test.YtkeikfekkdplgaaGreatDoorRDivMod
namespace Go.Proofs.YtkeikfekkdplgaaGreatDoor
section
open Go Go.RowKit Go.Maps
open Go.Proofs.Tryz
theorem zy{P:Prop}(h:P:=by exact⟨_,rfl,((Ext.refl w).alloc _).alloc _,(Bk.new w _ _).ext ((Ext.refl _).alloc _),Bk.newE _ _ (by simp) _ _⟩):P:=h
theorem za0{P:Prop}(h:P:=by simp only[List.map_toArray,List.map_cons,List.map_nil];rw[e1];exact hr):P:=h
set_option maxRecDepth 100000
set_option maxHeartbeats 8000000
theorem IsNd.up{h h':Nat}(hh:h<=h'){w:World}:∀ {e:Ex} {us:List Value},IsNd h e us w->IsNd h' e us w
 | .num _z,_us,H=>H
 | .var _x,_us,H=>H
 | .cell _x,_us,H=>H
 | .val _x _j,_us,H=>H
 | .loop _fst _x _lo _hi _b,_us,⟨k,s,a,n,c,g,o,m,cp,h1,h2,h3,h4,vs,h5,h6,h7⟩=>⟨k,s,a,n,c,g,o,m,cp,h1,h2,h3,Nat.lt_of_lt_of_le h4 hh,vs,h5,h6,IsNd.up hh h7⟩
 | .bin _op _p _q,_us,⟨x,k,s,a,n,c,lo,hi,g,o,m,cp,h1,h2,h3,h4,⟨vs,h5,h6,h7⟩,vs',h5',h6',h7'⟩=>
  ⟨x,k,s,a,n,c,lo,hi,g,o,m,cp,h1,h2,h3,Nat.lt_of_lt_of_le h4 hh,⟨vs,h5,h6,IsNd.up hh h7⟩,vs',h5',h6',IsNd.up hh h7'⟩
theorem getE_app{j:Nat}{v:Value}(xs ys:List Value)(h:xs[j]? =some v):(xs++ys)[j]? =some v:=by rw[List.getElem?_append_left (List.getElem?_eq_some_iff.1 h).1];exact h
theorem getE_app2{j:Nat}{v:Value}(xs ys:List Value)(h:ys[j]? =some v):(xs++ys)[xs.length+j]? =some v:=by rw[List.getElem?_append_right (Nat.le_add_right _ _),Nat.add_sub_cancel_left];exact h
def IsNh(H:Nat)(e:Ex):Value->World->Prop:=λx w=>∃us:List Value,x=.agg us.toArray/\us.length=8/\us.all (λu=>u.oneCell')=true/\(∀v∈us,NoWord v)/\IsNd H e us w
def IsNe(e:Ex):Value->World->Prop:=λx w=>IsNh w.heap.size e x w
theorem IsNh.stb(H:Nat)(e:Ex):Stb (IsNh H e):=λ_ _ _ E ⟨us,h1,h2,h3,h4,h5⟩=>⟨us,h1,h2,h3,h4,h5.rm (Rm.ext E)⟩
instance (H:Nat) (e:Ex):StbC (IsNh H e):=⟨IsNh.stb H e⟩
theorem IsNh.up{H H':Nat}{e:Ex}{x:Value}{w:World}(h:IsNh H e x w)(hh:H<=H'):IsNh H' e x w:=let ⟨us,h1,h2,h3,h4,h5⟩:=h;⟨us,h1,h2,h3,h4,IsNd.up hh h5⟩
theorem IsNe.stb(e:Ex):Stb (IsNe e):=λx w w' E h=>IsNh.up (IsNh.stb _ e x w w' E h) E.size
instance (e:Ex):StbC (IsNe e):=⟨IsNe.stb e⟩
theorem OnlyB.rmg{g:Nat}{w w':World}(O:OnlyB g w w'):Rm g w w':=⟨O.os,O.tape,O.output,by rw[O.size];exact jP _,λk _ hg=>O.block k (by omega),O.gr⟩
theorem nwNd{a b c d:Int}{s:ByteArray}{t:Bool}{p q:Option Addr}{n m k l:Nat}:∀v∈ [Value.int .i64 a,.string s,.int .i64 b,.bool t,.slice p n m,.int .i64 c,.int .i64 d,.slice q k l],NoWord v:=by
 intro v hv;simp only[List.mem_cons,List.not_mem_nil,or_false]at hv;rcases hv with rfl|rfl|rfl|rfl|rfl|rfl|rfl|rfl
 all_goals first|exact NoWord.bool _|exact NoWord.slice _ _ _|exact NoWord.int64 _|exact NoWord.string _
def zNd:List Value:= [.int .i64 0,.string ⟨#[]⟩,.int .i64 0,.bool false,.slice none 0 0,.int .i64 0,.int .i64 0,.slice none 0 0]
set_option maxRecDepth 100000
theorem st_Nd:StV prog 31 8:=by
 intro w g vs us h1 h2 hs B
 match vs,h1 with
 | [v0,v1,v2,v3,v4,v5,v6,v7],_=>
  match us,h2 with
  | [u0,u1,u2,u3,u4,u5,u6,u7],_=>
   simp only[List.all_cons,List.all_nil,Bool.and_true,Bool.and_eq_true]at hs;obtain⟨s0,s1,s2,s3,s4,s5,s6,s7⟩:=hs;have r0:=λw a m=>run_store prog w a u0 m s0;have r1:=λw a m=>run_store prog w a u1 m s1;have r2:=λw a m=>run_store prog w a u2 m s2;have r3:=λw a m=>run_store prog w a u3 m s3;have r4:=λw a m=>run_store prog w a u4 m s4;have r5:=λw a m=>run_store prog w a u5 m s5;have r6:=λw a m=>run_store prog w a u6 m s6;have r7:=λw a m=>run_store prog w a u7 m s7
   have c0:=B.c 0 _ rfl;have c1:=B.c 1 _ rfl;have c2:=B.c 2 _ rfl;have c3:=B.c 3 _ rfl;have c4:=B.c 4 _ rfl;have c5:=B.c 5 _ rfl;have c6:=B.c 6 _ rfl;have c7:=B.c 7 _ rfl;have f0:=B.f 0;have f1:=B.f 1;have f2:=B.f 2;have f3:=B.f 3;have f4:=B.f 4;have f5:=B.f 5;have f6:=B.f 6;have f7:=B.f 7;clear B s0 s1 s2 s3 s4 s5 s6 s7;simp only[xJ]
   go_simp
theorem al_Nd(w:World):(Instr.alloc 31 true (.tuple #[])).run prog w=.ok (.pointer (some ⟨w.heap.size,0,none⟩)) (w.alloc (.cells zNd.toArray 31)):=by unfold zNd;go_simp
theorem nwZN:∀v∈zNd,NoWord v:=nwNd
theorem bdN_run{x:Operand}{a:Act}{u v:Value}{w:World}{o:Oper}{op:Int}(ho:o.op=.build 31 #[(0,.const (.int .i64 op)),(3,x)])(h:a.eval x=u)(hr:(Instr.build 31 #[(0,.int .i64 op),(3,u)]).run prog w=.ok v w):(execOp a.eval o).run prog w=.ok (.value v) w:=by
 unfold execOp;rw[ho];dsimp only;simp only[List.map_toArray,List.map_cons,List.map_nil];rw[h];simp[show a.eval (.const (.int .i64 op))=.int .i64 op from rfl,hr]
theorem bdG{P:Program}{T:Nat}{ps:Array (Nat×Operand)}{a:Act}{v:Value}{w:World}{o:Oper}(ho:o.op=.build T ps)(hr:(Instr.build T (ps.map λp=>(p.1,a.eval p.2))).run P w=.ok v w):(execOp a.eval o).run P w=.ok (.value v) w:=by
 unfold execOp;rw[ho];dsimp only;simp[hr]
section
variable {ops:Array Oper} {Q:Exit->Act->World->Prop} {ds:List (Option Tmp)} {a0:Act} {w0:World} {L:List (Value->World->Prop)} {boxes:List Nat} {i k:Nat} {o:Oper} {os:List Oper}
def IsNs(B H:Nat)(es:List Ex):Value->World->Prop:=λx w=>∃g,x=.slice (some ⟨g,0,none⟩) es.length es.length/\B<=g/\g<w.heap.size/\∀i e,es[i]? =some e->∃vs:List Value,vs.length=8/\(∀j v,vs[j]? =some v->World.cell? w ⟨g,8*i+j,none⟩=some v)/\IsNd H e vs w
theorem IsNs.stb(B H:Nat)(es:List Ex):Stb (IsNs B H es):=λ_ _ _ E ⟨g,h1,h2,h3,h4⟩=>⟨g,h1,h2,Nat.lt_of_lt_of_le h3 E.size,λi e hi=>let ⟨vs,q1,q2,q3⟩:=h4 i e hi;⟨vs,q1,λj v hj=>E.cell (q2 j v hj),q3.rm (Rm.ext E)⟩⟩
instance (B H:Nat) (es:List Ex):StbC (IsNs B H es):=⟨IsNs.stb B H es⟩
theorem IsNs.only{B H g:Nat}{es:List Ex}{x:Value}{w w':World}(h:IsNs B H es x w)(O:OnlyB g w w')(h1:H<=g)(h2:g<B):IsNs B g es x w':=by
 obtain⟨b,q1,q2,q3,q4⟩:=h;refine⟨b,q1,q2,by rw[O.size];exact q3,λi e hi=>?_⟩;obtain⟨vs,r1,r2,r3⟩:=q4 i e hi;exact⟨vs,r1,λj v hj=>(World.cell?_of_block (w:=w) (a:=⟨b,_,none⟩) (O.block b (by omega))).trans (r2 j v hj),(IsNd.up h1 r3).rm O.rmg⟩
theorem bs1{B H:Nat}{x:Operand}{e:Ex}(hx:Od ops ds a0 w0 L i x (IsNh H e))(hB:B<=w0.heap.size)(ho:o.op=.buildSlice 29 1 #[(0,x)]:=by rfl)(hi:L.getD i (λ_ _=>True)=IsNs B H [e]:=by kernel_rfl)(hb:boxes.contains i=false:=by kernel_rfl):Ok prog ops Q ds a0 w0 L boxes i o:=
 ⟨fun v a w hE hd hf K hK=>by
  obtain⟨us,h1,hl,h3,h4,h5⟩:=hx.out v a w hE hd hf;obtain⟨u0,u1,u2,u3,u4,u5,u6,u7,rfl⟩:=len8 hl;have hr:(Instr.buildSlice 29 1 #[(0,.agg #[u0,u1,u2,u3,u4,u5,u6,u7])]).run prog w=.ok (.slice (some ⟨w.heap.size,0,none⟩) 1 1) (w.alloc (.cells #[u0,u1,u2,u3,u4,u5,u6,u7] 31)):=ja
  have hrun:(execOp a.eval o).run prog w=.ok (.value (.slice (some ⟨w.heap.size,0,none⟩) 1 1)) (w.alloc (.cells #[u0,u1,u2,u3,u4,u5,u6,u7] 31)):=by
   unfold execOp;rw[ho];dsimp only;simp only[List.map_toArray,List.map_cons,List.map_nil];rw[h1];simp[hr]
  unfold Oper.wp;rw[hrun];have E1:Ext w (w.alloc (.cells #[u0,u1,u2,u3,u4,u5,u6,u7] 31)):=(Ext.refl _).alloc _;have B1:=Bk.new w #[u0,u1,u2,u3,u4,u5,u6,u7] 31;refine hK.out _ _ E1 ?_ (FreshIf.no hb);rw[hi];refine⟨_,rfl,jQ hB hE.size,B1.lt,λi' e' hi'=>?_⟩;rcases i' with _|i'
  ·obtain rfl:e=e':=by simpa using hi'
   exact⟨[u0,u1,u2,u3,u4,u5,u6,u7],rfl,λj v hj=>by rw[Nat.mul_zero,Nat.zero_add];exact B1.c j v hj,h5.rm (Rm.ext E1)⟩
  ·simp at hi'⟩
theorem bs2{B H:Nat}{x y:Operand}{e f:Ex}(hx:Od ops ds a0 w0 L i x (IsNh H e))(hy:Od ops ds a0 w0 L i y (IsNh H f))(hB:B<=w0.heap.size)(ho:o.op=.buildSlice 29 2 #[(0,x),(1,y)]:=by rfl)(hi:L.getD i (λ_ _=>True)=IsNs B H [e,f]:=by kernel_rfl)(hb:boxes.contains i=false:=by kernel_rfl):Ok prog ops Q ds a0 w0 L boxes i o:=
 ⟨fun v a w hE hd hf K hK=>by
  obtain⟨us,h1,hl,h3,h4,h5⟩:=hx.out v a w hE hd hf;obtain⟨u0,u1,u2,u3,u4,u5,u6,u7,rfl⟩:=len8 hl;obtain⟨us',h1',hl',h3',h4',h5'⟩:=hy.out v a w hE hd hf;obtain⟨t0,t1,t2,t3,t4,t5,t6,t7,rfl⟩:=len8 hl';have hr:(Instr.buildSlice 29 2 #[(0,.agg #[u0,u1,u2,u3,u4,u5,u6,u7]),(1,.agg #[t0,t1,t2,t3,t4,t5,t6,t7])]).run prog w=.ok (.slice (some ⟨w.heap.size,0,none⟩) 2 2) (w.alloc (.cells #[u0,u1,u2,u3,u4,u5,u6,u7,t0,t1,t2,t3,t4,t5,t6,t7] 31)):=ja
  have hrun:(execOp a.eval o).run prog w=.ok (.value (.slice (some ⟨w.heap.size,0,none⟩) 2 2)) (w.alloc (.cells #[u0,u1,u2,u3,u4,u5,u6,u7,t0,t1,t2,t3,t4,t5,t6,t7] 31)):=by
   unfold execOp;rw[ho];dsimp only;simp only[List.map_toArray,List.map_cons,List.map_nil];rw[h1,h1'];simp[hr]
  unfold Oper.wp;rw[hrun];have E1:Ext w (w.alloc (.cells #[u0,u1,u2,u3,u4,u5,u6,u7,t0,t1,t2,t3,t4,t5,t6,t7] 31)):=(Ext.refl _).alloc _;have B1:=Bk.new w #[u0,u1,u2,u3,u4,u5,u6,u7,t0,t1,t2,t3,t4,t5,t6,t7] 31;refine hK.out _ _ E1 ?_ (FreshIf.no hb);rw[hi];refine⟨_,rfl,jQ hB hE.size,B1.lt,λi' e' hi'=>?_⟩;rcases i' with _|_|i'
  ·obtain rfl:e=e':=by simpa using hi'
   exact⟨[u0,u1,u2,u3,u4,u5,u6,u7],rfl,λj v hj=>by rw[Nat.mul_zero,Nat.zero_add];exact B1.c j v (getE_app [u0,u1,u2,u3,u4,u5,u6,u7] [t0,t1,t2,t3,t4,t5,t6,t7] hj),h5.rm (Rm.ext E1)⟩
  ·obtain rfl:f=e':=by simpa using hi'
   exact⟨[t0,t1,t2,t3,t4,t5,t6,t7],rfl,λj v hj=>B1.c (8*(0+1)+j) v (getE_app2 [u0,u1,u2,u3,u4,u5,u6,u7] [t0,t1,t2,t3,t4,t5,t6,t7] hj),h5'.rm (Rm.ext E1)⟩
  ·simp at hi'⟩
end
theorem num_f(w:World)(z:Int)(hz: -9223372036854775808<=z/\z<=9223372036854775807):Calls prog 43 #[.int .i64 z] w (Ret w (IsNe (.num z))):=by
 have HZ:=hid hz;clear hz;obtain⟨W,hW,E,B⟩:∃W,W=w.alloc (.cells #[.int .i64 0,.string ⟨#[]⟩,.int .i64 0,.bool false,.slice none 0 0,.int .i64 0,.int .i64 0,.slice none 0 0] 31)/\Ext w W/\Bk W w.heap.size zNd:=zi;go_enter func43,ntmps43;go_upto_region 1 with fail;rw[<-hW];clear hW;refine rgs 3 (dR 3 3) [iV z,IsI 2 z,(λx w=>∃s a n c,x=.agg #[.int .i64 1,.string ⟨#[]⟩,.int .i64 0,.bool s,.slice a n c,.int .i64 0,.int .i64 0,.slice none 0 0]/\IsI 2 z (.agg #[.bool s,.slice a n c]) w)] [] ?_ ?_ (hst:=⟨IsV.stb _,IsI.stb _ _,λ_ _ _ e ⟨s,a,n,c,h1,h2⟩=>⟨s,a,n,c,h1,h2.ext e⟩,trivial⟩)
 ·refine Rc zv ?_;refine Rc (cl1 (en func26) (qA (fP:=iV z) 0 3) (λx0 w' hE d0=>by{obtain rfl:x0=.int .i64 z:=d0;exact ROf_f w' z HZ.out.1 HZ.out.2})) ?_
  refine Rc (Ok.of za λv a w hE hd hf=>by
   obtain⟨s,b,n,c,e1,h1⟩:=(qA (fP:=IsI 2 z) 1 4:Od _ _ _ _ _ _ _ _).out v a w hE hd hf;refine⟨.agg #[.int .i64 1,.string ⟨#[]⟩,.int .i64 0,.bool s,.slice b n c,.int .i64 0,.int .i64 0,.slice none 0 0],?_,s,b,n,c,rfl,s,b,n,c,rfl,h1⟩;have hr:(Instr.build 31 #[(0,.int .i64 1),(3,.agg #[.bool s,.slice b n c])]).run prog w=.ok (.agg #[.int .i64 1,.string ⟨#[]⟩,.int .i64 0,.bool s,.slice b n c,.int .i64 0,.int .i64 0,.slice none 0 0]) w:=ja
   exact bdN_run rfl e1 hr) ?_
  exact rn0
 intro v W1 e1 hZ _;replace E:=E.trans e1;replace B:=B.ext e1;obtain⟨s,a,n,c,hv,hz⟩:=hZ 2 dcx;simp only[lxE,Nat.reduceAdd];rw[hv];clear hv hZ e1;refine stL (λK hK=>?_);refine stV (us:= [.int .i64 1,.string ⟨#[]⟩,.int .i64 0,.bool s,.slice a n c,.int .i64 0,.int .i64 0,.slice none 0 0]) B st_Nd rfl rfl nwNd E (by omega) (λW1a B9 E9 G9 _ _=>hK _ _ ?_);refine jL ?_;have d0:=B9.c 0 _ rfl;have d1:=B9.c 1 _ rfl;have d2:=B9.c 2 _ rfl;have d3:=B9.c 3 _ rfl;have d4:=B9.c 4 _ rfl;have d5:=B9.c 5 _ rfl;have d6:=B9.c 6 _ rfl;have d7:=B9.c 7 _ rfl;clear hK K;go_wp2_with fail;exact jK (v:=.agg #[.int .i64 1,.string ⟨#[]⟩,.int .i64 0,.bool s,.slice a n c,.int .i64 0,.int .i64 0,.slice none 0 0]) (by simp[results,results43,go_sem,d0,d1,d2,d3,d4,d5,d6,d7]) rfl ⟨_,rfl,E9,_,rfl,rfl,rfl,nwNd,⟨_,_,_,_,_,_,_,_,_,rfl,(IsI.gstb _ _ _ _ _ G9 hz).mono dcx⟩⟩
theorem variable_f(w:World)(s:ByteArray):Calls prog 40 #[.string s] w (Ret w (IsNe (.var s))):=by
 obtain⟨W,hW,E,B⟩:∃W,W=w.alloc (.cells #[.int .i64 0,.string ⟨#[]⟩,.int .i64 0,.bool false,.slice none 0 0,.int .i64 0,.int .i64 0,.slice none 0 0] 31)/\Ext w W/\Bk W w.heap.size zNd:=zi;go_enter func40,ntmps40;go_upto_region 1 with fail;rw[<-hW];clear hW;refine rgs 2 [some 3,some 4] [IsV (.string s),IsV (.agg #[.int .i64 11,.string s,.int .i64 0,.bool false,.slice none 0 0,.int .i64 0,.int .i64 0,.slice none 0 0])] [] ?_ ?_ (hst:=⟨IsV.stb _,IsV.stb _,trivial⟩)
 ·refine Rc zv ?_
  refine Rc (Ok.of za λv a w hE hd hf=>by
   have e1:a.eval (.tmp 3)=.string s:=(qA (fP:=IsV (.string s)) 0 3:Od _ _ _ _ _ _ _ _).out v a w hE hd hf;have hr:(Instr.build 31 #[(0,.int .i64 11),(1,.string s)]).run prog w=.ok (.agg #[.int .i64 11,.string s,.int .i64 0,.bool false,.slice none 0 0,.int .i64 0,.int .i64 0,.slice none 0 0]) w:=ja
   exact⟨_,bdG rfl za0,rfl⟩) ?_
  exact rn0
 intro v W1 e1 hZ _;replace E:=E.trans e1;replace B:=B.ext e1;simp only[lxE,Nat.reduceAdd];rw[show v 1=.agg #[.int .i64 11,.string s,.int .i64 0,.bool false,.slice none 0 0,.int .i64 0,.int .i64 0,.slice none 0 0]from hZ 1 dcx];clear hZ e1;refine stL (λK hK=>?_);refine stV (us:= [.int .i64 11,.string s,.int .i64 0,.bool false,.slice none 0 0,.int .i64 0,.int .i64 0,.slice none 0 0]) B st_Nd rfl rfl nwNd E (by omega) (λW1a B9 E9 G9 _ _=>hK _ _ ?_);refine jL ?_;have d0:=B9.c 0 _ rfl;have d1:=B9.c 1 _ rfl;have d2:=B9.c 2 _ rfl;have d3:=B9.c 3 _ rfl;have d4:=B9.c 4 _ rfl;have d5:=B9.c 5 _ rfl;have d6:=B9.c 6 _ rfl;have d7:=B9.c 7 _ rfl;clear hK K;go_wp2_with fail;exact jK (v:=.agg #[.int .i64 11,.string s,.int .i64 0,.bool false,.slice none 0 0,.int .i64 0,.int .i64 0,.slice none 0 0]) (by simp[results,results40,go_sem,d0,d1,d2,d3,d4,d5,d6,d7]) rfl ⟨_,rfl,E9,_,rfl,rfl,rfl,nwNd,⟨_,_,_,_,_,_,_,_,rfl⟩⟩
theorem two_f{w:World}{x y:Value}{p q:Ex}(op:Int)(hx:IsNe p x w)(hy:IsNe q y w):Calls prog 28 #[.int .i64 op,x,y] w (Ret w (IsNe (.bin op p q))):=by
 obtain⟨us,rfl,hl,h3,h4,h5⟩:=id hx;obtain⟨u0,u1,u2,u3,u4,u5,u6,u7,rfl⟩:=len8 hl;obtain⟨us',rfl,hl',h3',h4',h5'⟩:=id hy;obtain⟨t0,t1,t2,t3,t4,t5,t6,t7,rfl⟩:=len8 hl';clear h3 h4 h5 hl h3' h4' h5' hl';obtain⟨W,hW,E,B1,B2,B⟩:∃W,W=((w.alloc (.cells #[u0,u1,u2,u3,u4,u5,u6,u7] 31)).alloc (.cells #[t0,t1,t2,t3,t4,t5,t6,t7] 31)).alloc (.cells #[.int .i64 0,.string ⟨#[]⟩,.int .i64 0,.bool false,.slice none 0 0,.int .i64 0,.int .i64 0,.slice none 0 0] 31)/\Ext w W/\Bk W w.heap.size [u0,u1,u2,u3,u4,u5,u6,u7]/\Bk W (w.heap.size+1) [t0,t1,t2,t3,t4,t5,t6,t7]/\Bk W (w.heap.size+2) zNd:=⟨_,rfl,(((Ext.refl w).alloc _).alloc _).alloc _,(Bk.new w _ _).ext (((Ext.refl _).alloc _).alloc _),(Bk.newE _ _ (by simp) _ _).ext ((Ext.refl _).alloc _),Bk.newE _ _ (by simp) _ _⟩;replace hx:=IsNh.stb w.heap.size _ _ _ _ E hx;replace hy:=IsNh.stb w.heap.size _ _ _ _ E hy;have hsz:=B.lt;go_enter func28,ntmps28;go_upto_region 1 with fail;rw[<-hW];clear hW;refine rgs 5 (dR 7 5) [iV op,IsNh w.heap.size p,IsNh w.heap.size q,IsNs W.heap.size w.heap.size [p,q],(λx w'=>∃g,x=.agg #[.int .i64 op,.string ⟨#[]⟩,.int .i64 0,.bool false,.slice none 0 0,.int .i64 0,.int .i64 0,.slice (some ⟨g,0,none⟩) 2 2]/\IsNs W.heap.size w.heap.size [p,q] (.slice (some ⟨g,0,none⟩) 2 2) w')] [] ?_ ?_ (hst:=⟨IsV.stb _,IsNh.stb _ _,IsNh.stb _ _,IsNs.stb _ _ _,λ_ _ _ e ⟨g,h1,h2⟩=>⟨g,h1,IsNs.stb _ _ _ _ _ _ e h2⟩,trivial⟩)
 ·refine Rc zv ?_;refine Rc (lv _ (λw' e=>xN w' _ _ rfl (B1.ext e)) (qB 4) (λw' e=>IsNh.stb _ _ _ _ _ e hx)) ?_;refine Rc (lv _ (λw' e=>xN w' _ _ rfl (B2.ext e)) (qB 5) (λw' e=>IsNh.stb _ _ _ _ _ e hy)) ?_;refine Rc (bs2 (qA (fP:=IsNh w.heap.size p) 1 8) (qA (fP:=IsNh w.heap.size q) 2 9) (jP _)) ?_
  refine Rc (Ok.of za λv a w2 hE hd hf=>by
   have e1:a.eval (.tmp 7)=.int .i64 op:=(qA (fP:=iV op) 0 7:Od _ _ _ _ _ _ _ _).out v a w2 hE hd hf;obtain⟨g,e2,h2⟩:=(qA (fP:=IsNs W.heap.size w.heap.size [p,q]) 3 10:Od _ _ _ _ _ _ _ _).out v a w2 hE hd hf;have hr:(Instr.build 31 #[(0,.int .i64 op),(6,.slice (some ⟨g,0,none⟩) 2 2)]).run prog w2=.ok (.agg #[.int .i64 op,.string ⟨#[]⟩,.int .i64 0,.bool false,.slice none 0 0,.int .i64 0,.int .i64 0,.slice (some ⟨g,0,none⟩) 2 2]) w2:=ja
   exact⟨_,bdG rfl (by simp only[List.map_toArray,List.map_cons,List.map_nil];rw[e1,e2];exact hr),g,rfl,g,rfl,h2⟩) ?_
  exact rn0
 intro v W1 e1 hZ _;replace E:=E.trans e1;replace B:=B.ext e1;obtain⟨g,hv,hn⟩:=hZ 4 dcx;simp only[lxE,Nat.reduceAdd];rw[hv];clear hv hZ e1 B1 B2 hx hy;refine stL (λK hK=>?_);refine qZ (us:= [.int .i64 op,.string ⟨#[]⟩,.int .i64 0,.bool false,.slice none 0 0,.int .i64 0,.int .i64 0,.slice (some ⟨g,0,none⟩) 2 2]) B st_Nd rfl rfl nwNd (λW1a B9 O=>hK _ _ ?_);have hnn:=hn.only O (Nat.le_add_right _ _) (by omega);have E9:=O.ext E (by omega);refine jL ?_;have d0:=B9.c 0 _ rfl;have d1:=B9.c 1 _ rfl;have d2:=B9.c 2 _ rfl;have d3:=B9.c 3 _ rfl;have d4:=B9.c 4 _ rfl;have d5:=B9.c 5 _ rfl;have d6:=B9.c 6 _ rfl;have d7:=B9.c 7 _ rfl;clear hK K;go_wp2_with fail
 exact jK (v:=.agg #[.int .i64 op,.string ⟨#[]⟩,.int .i64 0,.bool false,.slice none 0 0,.int .i64 0,.int .i64 0,.slice (some ⟨g,0,none⟩) 2 2]) (by simp[results,results28,go_sem,d0,d1,d2,d3,d4,d5,d6,d7]) rfl ⟨_,rfl,E9,_,rfl,rfl,rfl,nwNd,(λhn'=>by
  obtain⟨g',q1,q2,q3,q4⟩:=hn';injection q1 with q1;injection q1 with q1;injection q1 with q1;subst q1;obtain⟨vs,r1,r2,r3⟩:=q4 0 p rfl;obtain⟨vs',r1',r2',r3'⟩:=q4 1 q rfl
  exact⟨_,_,_,_,_,_,_,_,g,0,2,2,rfl,jP _,by decide,q3,⟨vs,r1,λj v hj=>by simpa using r2 j v hj,IsNd.up (by have:=B9.lt;omega) r3⟩,vs',r1',λj v hj=>by simpa using r2' j v hj,IsNd.up (by have:=B9.lt;omega) r3'⟩) hnn⟩
theorem loop_f{w:World}{y:Value}{b:Ex}(opc:Int)(fst:Bool)(hopc:opc=if fst then 10 else 9)(x:ByteArray)(lo hi:Int)(hx:IsNe b y w):Calls prog 42 #[.int .i64 opc,.string x,.int .i64 lo,.int .i64 hi,y] w (Ret w (IsNe (.loop fst x lo hi b))):=by
 obtain⟨us,rfl,hl,h3,h4,h5⟩:=id hx;obtain⟨u0,u1,u2,u3,u4,u5,u6,u7,rfl⟩:=len8 hl;clear h3 h4 h5 hl;have HO:=hid hopc;clear hopc;obtain⟨W,hW,E,B1,B⟩:∃W,W=(w.alloc (.cells #[u0,u1,u2,u3,u4,u5,u6,u7] 31)).alloc (.cells #[.int .i64 0,.string ⟨#[]⟩,.int .i64 0,.bool false,.slice none 0 0,.int .i64 0,.int .i64 0,.slice none 0 0] 31)/\Ext w W/\Bk W w.heap.size [u0,u1,u2,u3,u4,u5,u6,u7]/\Bk W (w.heap.size+1) zNd:=zy;replace hx:=IsNh.stb w.heap.size _ _ _ _ E hx;have hsz:=B.lt;go_enter func42,ntmps42;go_upto_region 1 with fail;rw[<-hW];clear hW;refine rgs 7 (dR 11 7) [iV opc,IsV (.string x),iV lo,iV hi,IsNh w.heap.size b,IsNs W.heap.size w.heap.size [b],(λx' w'=>∃g,x'=.agg #[.int .i64 opc,.string x,.int .i64 0,.bool false,.slice none 0 0,.int .i64 lo,.int .i64 hi,.slice (some ⟨g,0,none⟩) 1 1]/\IsNs W.heap.size w.heap.size [b] (.slice (some ⟨g,0,none⟩) 1 1) w')] [] ?_ ?_ (hst:=⟨IsV.stb _,IsV.stb _,IsV.stb _,IsV.stb _,IsNh.stb _ _,IsNs.stb _ _ _,λ_ _ _ e ⟨g,h1,h2⟩=>⟨g,h1,IsNs.stb _ _ _ _ _ _ e h2⟩,trivial⟩)
 ·refine Rc zv ?_;refine Rc xb ?_;refine Rc yj ?_;refine Rc (mv (qB 3)) ?_;refine Rc (lv _ (λw' e=>xN w' _ _ rfl (B1.ext e)) (qB 9) (λw' e=>IsNh.stb _ _ _ _ _ e hx)) ?_;refine Rc (bs1 (qA (fP:=IsNh w.heap.size b) 4 15) (jP _)) ?_
  refine Rc (Ok.of za λv a w2 hE hd hf=>by
   have e1:a.eval (.tmp 11)=.int .i64 opc:=(qA (fP:=iV opc) 0 11:Od _ _ _ _ _ _ _ _).out v a w2 hE hd hf;have e2:a.eval (.tmp 12)=.string x:=(qA (fP:=IsV (.string x)) 1 12:Od _ _ _ _ _ _ _ _).out v a w2 hE hd hf;have e3:a.eval (.tmp 13)=.int .i64 lo:=(qA (fP:=iV lo) 2 13:Od _ _ _ _ _ _ _ _).out v a w2 hE hd hf;have e4:a.eval (.tmp 14)=.int .i64 hi:=(qA (fP:=iV hi) 3 14:Od _ _ _ _ _ _ _ _).out v a w2 hE hd hf;obtain⟨g,e5,h2⟩:=(qA (fP:=IsNs W.heap.size w.heap.size [b]) 5 16:Od _ _ _ _ _ _ _ _).out v a w2 hE hd hf;have hr:(Instr.build 31 #[(0,.int .i64 opc),(1,.string x),(4,.int .i64 lo),(5,.int .i64 hi),(6,.slice (some ⟨g,0,none⟩) 1 1)]).run prog w2=.ok (.agg #[.int .i64 opc,.string x,.int .i64 0,.bool false,.slice none 0 0,.int .i64 lo,.int .i64 hi,.slice (some ⟨g,0,none⟩) 1 1]) w2:=ja
   exact⟨_,bdG rfl (by simp only[List.map_toArray,List.map_cons,List.map_nil];rw[e1,e2,e3,e4,e5];exact hr),g,rfl,g,rfl,h2⟩) ?_
  exact rn0
 intro v W1 e1 hZ _;replace E:=E.trans e1;replace B:=B.ext e1;obtain⟨g,hv,hn⟩:=hZ 6 dcx;simp only[lxE,Nat.reduceAdd];rw[hv];clear hv hZ e1 B1 hx;refine stL (λK hK=>?_);refine qZ (us:= [.int .i64 opc,.string x,.int .i64 0,.bool false,.slice none 0 0,.int .i64 lo,.int .i64 hi,.slice (some ⟨g,0,none⟩) 1 1]) B st_Nd rfl rfl nwNd (λW1a B9 O=>hK _ _ ?_);have hnn:=hn.only O (Nat.le_add_right _ _) (by omega);have E9:=O.ext E (by omega);refine jL ?_;have d0:=B9.c 0 _ rfl;have d1:=B9.c 1 _ rfl;have d2:=B9.c 2 _ rfl;have d3:=B9.c 3 _ rfl;have d4:=B9.c 4 _ rfl;have d5:=B9.c 5 _ rfl;have d6:=B9.c 6 _ rfl;have d7:=B9.c 7 _ rfl;clear hK K;go_wp2_with fail
 exact jK (v:=.agg #[.int .i64 opc,.string x,.int .i64 0,.bool false,.slice none 0 0,.int .i64 lo,.int .i64 hi,.slice (some ⟨g,0,none⟩) 1 1]) (by simp[results,results42,go_sem,d0,d1,d2,d3,d4,d5,d6,d7]) rfl ⟨_,rfl,E9,_,rfl,rfl,rfl,nwNd,(λhn'=>by
  obtain⟨g',q1,q2,q3,q4⟩:=hn';injection q1 with q1;injection q1 with q1;injection q1 with q1;subst q1;obtain⟨vs,r1,r2,r3⟩:=q4 0 b rfl
  exact⟨_,_,_,_,_,g,0,1,1,by rw[HO.out],jP _,by decide,q3,vs,r1,λj v hj=>by simpa using r2 j v hj,IsNd.up (by have:=B9.lt;omega) r3⟩) hnn⟩
end
section
open Go Go.RowKit Go.Maps
open Go.Proofs.Tryz
theorem IsVl.list{r:Res Kn}{a:Option Addr}{n c:Nat}{x:Value}{w:World}(h:IsVl r (.slice a n c) x w):∃vl:List Value,x=.agg vl.toArray/\vl.length=11/\vl.all (λu=>u.oneCell')=true/\(∀v∈vl,NoWord v):=by
 cases r with
 |error n=>exact⟨_,h,rfl,rfl,nwVl⟩
 | ok q=>
  obtain⟨s1,a1,n1,c1,s2,a2,n2,c2,s3,a3,n3,c3,s4,a4,n4,c4,h,_⟩:=h;exact⟨_,h,rfl,rfl,nwVl⟩
def zOut:List Value:= [.bool false,.slice none 0 0,.bool false,.slice none 0 0,.bool false,.slice none 0 0,.bool false,.slice none 0 0,.bool false,.slice none 0 0,.int .i64 0,.slice none 0 0,.int .i64 0]
theorem nwOut{s1 s2 s3 s4:Bool}{a1 a2 a3 a4 a5 a6:Option Addr}{n1 n2 n3 n4 n5 c1 c2 c3 c4 c5 n6 c6:Nat}{f:Bool}{e i:Int}:∀v∈ [Value.bool s1,.slice a1 n1 c1,.bool s2,.slice a2 n2 c2,.bool s3,.slice a3 n3 c3,.bool s4,.slice a4 n4 c4,.bool f,.slice a5 n5 c5,.int .i64 e,.slice a6 n6 c6,.int .i64 i],NoWord v:=by
 intro v hv;simp only[List.mem_cons,List.not_mem_nil,or_false]at hv;rcases hv with rfl|rfl|rfl|rfl|rfl|rfl|rfl|rfl|rfl|rfl|rfl|rfl|rfl
 all_goals first|exact NoWord.bool _|exact NoWord.slice _ _ _|exact NoWord.int64 _
set_option maxRecDepth 100000
theorem st_Out:StV prog 53 13:=by
 intro w g vs us h1 h2 hs B
 match vs,h1 with
 | [v0,v1,v2,v3,v4,v5,v6,v7,v8,v9,v10,v11,v12],_=>
  match us,h2 with
  | [u0,u1,u2,u3,u4,u5,u6,u7,u8,u9,u10,u11,u12],_=>
   simp only[List.all_cons,List.all_nil,Bool.and_true,Bool.and_eq_true]at hs;obtain⟨s0,s1,s2,s3,s4,s5,s6,s7,s8,s9,s10,s11,s12⟩:=hs;have r0:=λw a m=>run_store prog w a u0 m s0
   have r1:=λw a m=>run_store prog w a u1 m s1
   have r2:=λw a m=>run_store prog w a u2 m s2
   have r3:=λw a m=>run_store prog w a u3 m s3
   have r4:=λw a m=>run_store prog w a u4 m s4
   have r5:=λw a m=>run_store prog w a u5 m s5
   have r6:=λw a m=>run_store prog w a u6 m s6
   have r7:=λw a m=>run_store prog w a u7 m s7
   have r8:=λw a m=>run_store prog w a u8 m s8
   have r9:=λw a m=>run_store prog w a u9 m s9
   have r10:=λw a m=>run_store prog w a u10 m s10
   have r11:=λw a m=>run_store prog w a u11 m s11
   have r12:=λw a m=>run_store prog w a u12 m s12
   have c0:=B.c 0 _ rfl;have c1:=B.c 1 _ rfl;have c2:=B.c 2 _ rfl;have c3:=B.c 3 _ rfl;have c4:=B.c 4 _ rfl;have c5:=B.c 5 _ rfl;have c6:=B.c 6 _ rfl;have c7:=B.c 7 _ rfl;have c8:=B.c 8 _ rfl;have c9:=B.c 9 _ rfl;have c10:=B.c 10 _ rfl;have c11:=B.c 11 _ rfl;have c12:=B.c 12 _ rfl;have f0:=B.f 0;have f1:=B.f 1;have f2:=B.f 2;have f3:=B.f 3;have f4:=B.f 4;have f5:=B.f 5;have f6:=B.f 6;have f7:=B.f 7;have f8:=B.f 8;have f9:=B.f 9;have f10:=B.f 10;have f11:=B.f 11;have f12:=B.f 12;clear B s0 s1 s2 s3 s4 s5 s6 s7 s8 s9 s10 s11 s12;simp only[xJ]
   go_simp
theorem ld_Sh:LdV prog 39 1:=by
 intro w g vs h1 B
 match vs,h1 with
 | [v0],_=>
  have c0:=B.c 0 _ rfl;clear B
  go_simp
theorem al_Out(w:World):(Instr.alloc 53 true (.tuple #[])).run prog w=.ok (.pointer (some ⟨w.heap.size,0,none⟩)) (w.alloc (.cells zOut.toArray 53)):=by unfold zOut;go_simp
end
section
open Go Go.RowKit Go.Maps
open Go.Proofs.Tryz
set_option maxRecDepth 100000
set_option maxHeartbeats 8000000
theorem fa_Vl0(g:Nat)(w:World):(Instr.fieldAt 50 (.pointer (some ⟨g,0,none⟩)) 0).run prog w=.ok (.pointer (some ⟨g,0,none⟩)) w:=by go_simp
theorem fa_Vl1(g:Nat)(w:World):(Instr.fieldAt 50 (.pointer (some ⟨g,0,none⟩)) 1).run prog w=.ok (.pointer (some ⟨g,8,none⟩)) w:=by go_simp
theorem fa_Vl3(g:Nat)(w:World):(Instr.fieldAt 50 (.pointer (some ⟨g,0,none⟩)) 3).run prog w=.ok (.pointer (some ⟨g,10,none⟩)) w:=by go_simp
theorem ld_e:LdC1 prog 48:=λw a v h=>by go_simp
theorem is_f{q:Kn}{ha:Option Addr}{hn hc:Nat}{x:Value}{w:World}(hx:IsVl (.ok q) (.slice ha hn hc) x w)(hl: -9223372036854775808<=q.lo/\q.lo<=9223372036854775807)(hh: -9223372036854775808<=q.hi/\q.hi<=9223372036854775807):
  Calls prog 38 #[x,.int .i64 q.lo,.int .i64 q.hi,.bool q.fin] w (Ret w (IsV (.bool true))):=by
 have HL:=hid hl;have HH:=hid hh;clear hl hh;obtain⟨s1,a1,n1,c1,s2,a2,n2,c2,s3,a3,n3,c3,s4,a4,n4,c4,rfl,g1,g2⟩:=hx;obtain⟨W,hW,E,B⟩:∃W,W=w.alloc (.cells #[.bool s1,.slice a1 n1 c1,.bool s2,.slice a2 n2 c2,.bool s3,.slice a3 n3 c3,.bool s4,.slice a4 n4 c4,.bool q.fin,.slice ha hn hc,.int .i64 0] 50)/\Ext w W/\Bk W w.heap.size [.bool s1,.slice a1 n1 c1,.bool s2,.slice a2 n2 c2,.bool s3,.slice a3 n3 c3,.bool s4,.slice a4 n4 c4,.bool q.fin,.slice ha hn hc,.int .i64 0]:=zi;replace g1:=IsRat.stbE _ _ _ _ _ E g1;replace g2:=IsRat.stbE _ _ _ _ _ E g2;go_enter func38,ntmps38;go_upto_region 1 with fail;rw[<-hW];clear hW;refine rg 26 [some 9,some 10,some 11,some 12,some 13,some 14,some 15,some 16,some 17,some 18,some 19,some 20,some 21,some 22,some 23,some 24,some 25,some 26,some 27,some 28,some 29,some 30,some 31,some 32,some 33,some 8] [IsP (w.heap.size) 10,iV 0,IsV (.bool true),IsV (.bool true),IsP (w.heap.size) 8,IsV (.bool q.fin),IsV (.bool q.fin),IsV (.bool true),IsV (.bool true),IsV (.bool true),IsP (w.heap.size) 0,IsP (w.heap.size) 0,IsRat 130 (Rat.divInt q.lo 1),iV q.lo,IsRat 2 (Rat.divInt q.lo 1),IsV (.bool true),IsV (.bool true),IsV (.bool true),IsP (w.heap.size) 0,IsP (w.heap.size) 4,IsRat 130 (Rat.divInt q.hi 1),iV q.hi,IsRat 2 (Rat.divInt q.hi 1),IsV (.bool true),IsV (.bool true),IsV (.bool true)] [] 0 ?_ ?_
 ·refine Rc (fa (fa_Vl3 w.heap.size) (qB 4)) ?_;refine Rc (lvC 10 B ld_e (qA 0 9)) ?_;refine Rc (bn (r:=.bool true) (qC 1 10) qE (hr:=λw=>by go_simp)) ?_;refine Rc (mv (qA 2 11)) ?_;refine RcG 3 12 true (fa (fa_Vl1 w.heap.size) (qB 4)) ?_;refine RcG 3 12 true (lvC 8 B ld_b (qA 4 13)) ?_;refine RcG 3 12 true (mv (qB 3)) ?_;refine RcG 3 12 true (bn (r:=.bool true) (qC 5 14) (qC 6 15) (hr:=λw=>by go_simp)) ?_;refine Rc (pk (qC 3 12) (qA 7 16)) ?_;refine Rc (mv (qA 8 17)) ?_;refine RcG 9 18 true (fa (fa_Vl0 w.heap.size) (qB 4)) ?_;refine RcG 9 18 true (fa (fa_Iv0 w.heap.size 0) (qA 10 19)) ?_;refine RcG 9 18 true (lv (fP:=IsRat 130 (Rat.divInt q.lo 1)) _ (λw' e=>ld_Rat w' w.heap.size 0 s1 a1 n1 c1 s2 a2 n2 c2 ((B.ext e).c 0 _ rfl) ((B.ext e).c 1 _ rfl) ((B.ext e).c 2 _ rfl) ((B.ext e).c 3 _ rfl)) (qA 11 20) (λw' e=>IsRat.stbE _ _ _ _ _ e g1)) ?_;refine RcG 9 18 true xb ?_;refine RcG 9 18 true (cl2 (en func47) (qA (fP:=iV q.lo) 13 22) qE (λx0 x1 w' hE d0 d1=>by{obtain rfl:x0=.int .i64 q.lo:=d0;obtain rfl:x1=.int .i64 1:=d1;exact rqOf_f w' q.lo 1 HL.out dcx dcx})) ?_;refine RcG 9 18 true (cl2 (en func19) (qA (fP:=IsRat 130 (Rat.divInt q.lo 1)) 12 21) (qA (fP:=IsRat 2 (Rat.divInt q.lo 1)) 14 23) (λx0 x1 w' hE d0 d1=>rqSame_eq d0 d1 dcx rfl)) ?_;refine Rc (pk (qC 9 18) (qA 15 24)) ?_;refine Rc (mv (qA 16 25)) ?_;refine RcG 17 26 true (fa (fa_Vl0 w.heap.size) (qB 4)) ?_;refine RcG 17 26 true (fa (fa_Iv1 w.heap.size 0) (qA 18 27)) ?_;refine RcG 17 26 true (lv (fP:=IsRat 130 (Rat.divInt q.hi 1)) _ (λw' e=>ld_Rat w' w.heap.size 4 s3 a3 n3 c3 s4 a4 n4 c4 ((B.ext e).c 4 _ rfl) ((B.ext e).c 5 _ rfl) ((B.ext e).c 6 _ rfl) ((B.ext e).c 7 _ rfl)) (qA 19 28) (λw' e=>IsRat.stbE _ _ _ _ _ e g2)) ?_;refine RcG 17 26 true yj ?_;refine RcG 17 26 true (cl2 (en func47) (qA (fP:=iV q.hi) 21 30) qE (λx0 x1 w' hE d0 d1=>by{obtain rfl:x0=.int .i64 q.hi:=d0;obtain rfl:x1=.int .i64 1:=d1;exact rqOf_f w' q.hi 1 HH.out dcx dcx})) ?_;refine RcG 17 26 true (cl2 (en func19) (qA (fP:=IsRat 130 (Rat.divInt q.hi 1)) 20 29) (qA (fP:=IsRat 2 (Rat.divInt q.hi 1)) 22 31) (λx0 x1 w' hE d0 d1=>rqSame_eq d0 d1 dcx rfl)) ?_;refine Rc (pk (qC 17 26) (qA 23 32)) ?_;refine Rc (mv (qA 24 33)) ?_;exact rn0
 intro v X1 e1 hZ _;replace E:=E.trans e1;simp only[lxE,Nat.reduceAdd];rw[show v 25=.bool true from hZ 25 dcx];clear hZ e1;refine jR za ?_ _;go_wp2_with fail
 go_ret
 exact⟨_,rfl,E,rfl⟩
end
section
open Go Go.RowKit
abbrev jW:=@World.alloc_heap_new
def Lone{α:Type}(c:Nat)(J:α->World->Prop):Prop:=∀s A B,J s A->A.grownBy B (some c)->J s B
theorem lone_at{A B:World}{c k:Nat}{o:Obj}(hg:A.grownBy B (some c))(hk:A.heap[k]? =some o)(hne:k≠c):B.heap[k]? =some o:=
 (hg.block k (Array.getElem?_eq_some_iff.1 hk).1 (λe=>hne (by cases e;rfl))).trans hk
def SeqBox{α:Type}(F:Fence)(n:Nat)(P:Program)(g:Nat)(lb:Array Value)(encs:α->Array Value)(c:Nat)(S Sp:List α->Prop)(w:World):Prop:=
 ∀ (l:Nat) (J Jx:List α->World->Prop) (W:World),Below w.heap.size w W->Lone c J->Lone c Jx->
  (∀pre x W0,J pre W0->Sp (pre++ [x])->YieldAt F (n-1) P l (encs x) W0 λe W'=>
   (e=.returned (.bool true)/\J (pre++ [x]) W'/\W'.heap[c]? =W0.heap[c]?)\/(e=.returned (.bool false)/\Jx (pre++ [x]) W'))->
  J [] W->
  CallsIn F n P g (#[.func (.yield l) #[] #[]]++lb) W λe W'=>(∃v,e=.returned v)/\((∃xs,S xs/\J xs W')\/(∃pre,Sp pre/\Jx pre W'))
def jumpOf:Exit->Option (Option Code)
 | .normal=>some none
 | .ret=>some (some .ret)
 | .exit id=>some (some (.exit id))
 | .goto t=>some (some (.goto t))
 | .panic _=>none
 | .outgrown=>none
theorem roundPost_of{P:Program}{l:Nat}{R:Ending->World->Prop}{e:Exit}{j:Option Code}{a:Act}{w:World}(hj:jumpOf e=some j)
  (h:∃v w',(Instr.endRound l j).run P w=.ok v w'/\R (.returned v) w'):roundPost P l R e a w:=by
 cases e <;> simp only[jumpOf,Option.some.injEq,reduceCtorEq]at hj <;> subst hj <;> exact h
def boxPost{α:Type}(B c:Nat)(I:List α->World->Prop)(Ix:Code->List α->World->Prop)(xs:List α)(W:World)(e:Exit)(_:Act)(W':World):Prop:=
 ∃j,jumpOf e=some j/\KeepsFrom B W W'/\(match j with|none=>W'.heap[c]? =W.heap[c]? /\I xs W'|some q=>Ix q xs W')
variable {F:Fence} {n:Nat} {P:Program}
theorem wpIn_rangeFunc_box{α:Type}{g:Operand}{ps:Array Tmp}{assign body:Code}{Q:Exit->Act->World->Prop}{a:Act}{w:World}
  (hro:F.round=none) (h1:1<=n) {gf:Nat} {lb:Array Value} (hg:a.eval g=.func (.func gf) #[] lb) (hFg:F.fn gf) (eg:∀args w,(callFunc gf args).run P w=.ok (.enter gf args) w)
  {encs:α->Array Value} {c:Nat} {S Sp:List α->Prop} (hc:c<w.heap.size) (hseq:SeqBox F (n-1) P gf lb encs c S Sp w) (hps:∀x,(encs x).size=ps.size)
  (I:List α->World->Prop) (Ix:Code->List α->World->Prop) (hI:OwnFrom w.heap.size I) (hIx:∀q,OwnFrom w.heap.size (Ix q)) (hIc:Lone c I) (hIxc:∀q,Lone c (Ix q)) (h0:I [] w) (a₁:α->Act)
  (hassign:∀(l:Nat) (x:α) (W:World) (K:Act->World->Prop),K (a₁ x) W->
   assign.wpIn (F.inRound l) (n-1-1) P (Exit.then K (λ_ _ _=>False)) {tmps:=(ps.zip (encs x)).foldl (λt (p,v)=>t.setIfInBounds p v) a.tmps,defers:= []} W)
  (hbody:∀(l:Nat) (pre:List α) (x:α) (W:World),I pre W->Sp (pre++ [x])->body.wpIn (F.inRound l) (n-1-1) P (boxPost w.heap.size c I Ix (pre++ [x]) W) (a₁ x) W)
  (hdone:∀(D:Nat) (xs:List α) (W:World),w.heap.size<=D->S xs->I xs W->W.heap[D]? =some (.deferred (some []))->Q .normal {a with defers:= {target:=.collected D,args:= #[]} ::a.defers} W)
  (hstop:∀(D:Nat) (q:Code) (pre:List α) (W:World),w.heap.size<=D->Sp pre->Ix q pre W->W.heap[D]? =some (.deferred (some []))->q.wpIn F n P Q {a with defers:= {target:=.collected D,args:= #[]} ::a.defers} W):
  (Code.rangeFunc g ps assign body).wpIn F n P Q a w:=by
 refine wpIn_rangeFunc λfn hfn=>?_
 rw[hro];generalize hD:w.heap.size=D at hc hI hIx hbody hdone hstop;have hR:∃R:LoopState->Option Code->Loop,R=λst pe=>{state:=st,pending:=pe,fn,tmps:=a.tmps,params:=ps,assign,body,defers:=D} :=⟨_,rfl⟩
 obtain⟨R,hR⟩:=hR;have hV:∃V,V=(w.alloc (.deferred (some []))).alloc (.loop (R .ready none)):=⟨_,rfl⟩;obtain⟨V,hV⟩:=hV
 have hVl:V.heap[D+1]? =some (.loop (R .ready none)):=by
  have:=jW (w.alloc (.deferred (some []))) (.loop (R .ready none));rw[World.size_alloc,hD]at this;rw[hV];exact this
 have hVd:V.heap[D]? =some (.deferred (some [])):=by
  rw[hV,<-hD];exact(Below.heap_alloc _ _ _ (by simp)).trans (jW w _)
 have hVb:Below w.heap.size w V:=by
  rw[hV];exact((Below.refl _ w).alloc (Nat.le_refl _) _).alloc (by simp) _
 have hVI:I [] V:=by rw[hV];exact hI.alloc _ (hI.alloc _ h0)
 have henter:(Instr.enterLoop fn a.tmps ps assign body none).run P w=.ok (D+1, [{target:=.collected D,args:= #[]}]) V:=by
  rw[run_enterLoop_outer,hD,hV,hR]
 refine⟨D+1, [{target:=.collected D,args:= #[]}],V,{target:=.fn (.func gf) lb,args:= #[.func (.yield (D+1)) #[] #[]]},V,gf,
  #[.func (.yield (D+1)) #[] #[]]++lb,V,henter,?_,?_,?_,λ_=>h1,?_⟩
 ·simp only[resolve,hg];simp[go_sem]
 ·intro f' hf';simp[Target.leads]at hf';subst hf';exact hFg
 ·simp[invoke,go_sem,eg]
 ·have hcl:D+1≠c:=by omega
  have hcd:D≠c:=by omega
  refine(hseq (D+1)
   (λpre W=>I pre W/\W.heap[D+1]? =some (.loop (R .ready none))/\W.heap[D]? =some (.deferred (some [])))
   (λpre W=>∃q,Ix q pre W/\W.heap[D+1]? =some (.loop (R .done (some q)))/\W.heap[D]? =some (.deferred (some [])))
   V hVb (λs A B h hg=>⟨hIc s A B h.1 hg,lone_at hg h.2.1 hcl,lone_at hg h.2.2 hcd⟩)
   (λs A B ⟨q,h,hl,hd⟩ hg=>⟨q,hIxc q s A B h hg,lone_at hg hl hcl,lone_at hg hd hcd⟩) ?_ ⟨hVI,hVl,hVd⟩).mono ?_
  ·rintro pre x W ⟨hi,hl,hd⟩ hlen;have hy:=run_yield (P:=P) (args:=encs x) hl (by rw[hR];exact hps x);rw[hR]at hy;refine⟨fn,_,assign,body,hy,roundIn_of_wpIn hfn (hassign _ x W _ ⟨_,run_beginRound hl (by rw[hR]),?_⟩)⟩;have hlt:D+1<W.heap.size:=(Array.getElem?_eq_some_iff.1 hl).1;generalize hB:W.putObj (D+1) (.loop {R .ready none with state:=.busy})=B;have hBl:B.heap[D+1]? =some (.loop {R .ready none with state:=.busy}):=by rw[<-hB];exact World.putObj_heap_same hlt
   have hBd:B.heap[D]? =some (.deferred (some [])):=by rw[<-hB];exact(World.putObj_heap_other (by omega)).trans hd
   have hBc:B.heap[c]? =W.heap[c]? :=by rw[<-hB];exact World.putObj_heap_other (by omega)
   have hBI:I pre B:=by rw[<-hB];exact hI.putObj _ hi (by omega) hl rfl
   refine wpIn_mono (hbody _ pre x B hBI hlen) ?_;rintro e a3 C ⟨j,hj,hk,hp⟩;have hCl:=hk.same _ _ (by omega) hBl rfl;have hCd:=hk.same _ _ (by omega) hBd rfl;have hlt':D+1<C.heap.size:=(Array.getElem?_eq_some_iff.1 hCl).1;refine roundPost_of hj ⟨_,_,run_endRound j hCl,?_⟩;have hEl:=World.putObj_heap_same (o:=.loop { {R .ready none with state:=.busy}with state:=if j.isNone then .ready else .done,pending:=j}) hlt';have hEd:=(World.putObj_heap_other (w:=C) (o:=.loop { {R .ready none with state:=.busy}with state:=if j.isNone then .ready else .done,pending:=j}) (show D≠D+1 by omega)).trans hCd;cases j with
   | none=>
    refine .inl ⟨rfl,⟨hI.putObj _ hp.2 (by omega) hCl rfl,?_,hEd⟩,?_⟩
    ·rw[hEl,hR];rfl
    ·exact(World.putObj_heap_other (by omega)).trans (hp.1.trans hBc)
   | some q=>
    refine .inr ⟨rfl,q,(hIx q).putObj _ hp (by omega) hCl rfl,?_,hEd⟩;rw[hEl,hR];rfl
  ·rintro e W0 ⟨⟨v,rfl⟩,(⟨xs,hS,hi,hl,hd⟩| ⟨pre,hSp,q,hi,hl,hd⟩)⟩
   ·have:=run_endLoop (P:=P) hl (by rw[hR];simp);rw[hR]at this;exact⟨none,_,this,hdone _ xs _ (Nat.le_refl _) hS (hI.putObj _ hi (by omega) hl rfl) ((World.putObj_heap_other (by omega)).trans hd)⟩
   ·have:=run_endLoop (P:=P) hl (by rw[hR];simp);rw[hR]at this;exact⟨some q,_,this,hstop _ q pre _ (Nat.le_refl _) hSp ((hIx q).putObj _ hi (by omega) hl rfl) ((World.putObj_heap_other (by omega)).trans hd)⟩
#print axioms wpIn_rangeFunc_box
end
section
open Go Go.RowKit Go.Shelf
theorem calls_of_wp_marks{P:Program}{f:FuncId}{fn:Func}{c:Code}{args:Array Value}{w:World}{R:Ending->World->Prop}
  (hf:P.funcs[f]? =some fn) (hb:fn.body=some c) (h:c.wp P (bodyPostM Fence.wide 9 P fn R) {tmps:=args++Array.replicate (fn.ntmps-args.size) undef,defers:= []} w):Calls P f args w R:=
 callsIn_wide.1 (callsIn_of_wp_marks hf hb trivial (wpIn_wide.2 h))
theorem marks_ret1{P:Program}{fn:Func}{R:Ending->World->Prop}{t:Array Value}{w:World}{v:Value}{D:Nat}(hD:w.heap[D]? =some (.deferred (some [])))
  (h:(results fn t).run P (w.putObj D (.deferred none))=.ok v (w.putObj D (.deferred none))) (hR:R (.returned v) (w.putObj D (.deferred none))):
  bodyPostM Fence.wide 9 P fn R .ret {tmps:=t,defers:= [{target:=.collected D,args:= #[]}]} w:=⟨by simp,.inl ⟨_,_,rfl,run_takeDeferred hD,v,h,hR⟩⟩
theorem in_round{n:Nat}{P:Program}{f:FuncId}{args:Array Value}{w:World}{R:Ending->World->Prop}(l:Nat)(h:Calls P f args w R):CallsIn (Fence.wide.inRound l) n P f args w R:=(callsIn_wide (n:=n)).2 h
theorem ext_keeps{W W':World}(h:Ext W W'):KeepsOthers W W':=⟨h.size,λk _ hk _=>(h.block k (Array.getElem?_eq_some_iff.1 hk).1).trans hk⟩
end
section
open Go Go.RowKit Go.Maps Go.Shelf
open Go.Proofs.Tryz
attribute [local go_sem] Oper.semAt_some
theorem marks_panic1{P:Program}{fn:Func}{R:Ending->World->Prop}{t:Array Value}{w:World}{D:Nat}{ch:List PanicEntry}(hD:w.heap[D]? =some (.deferred (some [])))(hR:R (.panicked ch) (w.putObj D (.deferred none))):
  bodyPostM Fence.wide 9 P fn R (.panic ch) {tmps:=t,defers:= [{target:=.collected D,args:= #[]}]} w:=⟨by simp,.inl ⟨_,_,rfl,run_takeDeferred hD,hR⟩⟩
theorem setCells_setL:∀(us:List Value) (W:World) (g j:Nat),W.setCells g j us=xJ W g j us
 | [],W,g,j=>rfl
 | u ::us,W,g,j=>by
  unfold xJ;rw[<-setCells_setL us];rfl
theorem row_of{T:TypeId}(h:((prog.underlying T).any (·.isRow))=true):∃d,prog.underlying T=some d/\d.isRow=true:=by
 cases hq:prog.underlying T with
 |none=>rw[hq]at h;cases h
 |some d=>rw[hq]at h;exact⟨d,rfl,h⟩
theorem ld_mid{T m:Nat}(hu:((prog.underlying T).any (·.isRow))=true)(hi:(prog.info? T).map (·.size)=some m):LdV prog T m:=λw g vs hl B=>by
 obtain⟨d,h1,h2⟩:=row_of hu;exact run_loadAt_mid w g 0 T vs d (λj v hj=>by rw[Nat.zero_add];exact B.c j v hj) h1 h2 (by rw[hl];exact hi)
theorem st_mid{T m:Nat}(hi:(prog.info? T).map (·.size)=some m):StV prog T m:=λw g vs us hl hl' h1 B=>by
 have ht:w.there g 0 us.toArray.size:=λj hj=>by
  have hj':j<vs.length:=by simp at hj;omega
  rw[Nat.zero_add];exact⟨by rw[B.c j _ (List.getElem?_eq_getElem hj')];rfl,B.f j⟩
 rw[run_storeAt_mid w g 0 T us.toArray ht (by simp only[List.size_toArray];rw[hl'];exact hi) (by simpa using h1),setCells_setL]
def z31:List Value:= [.string ⟨#[]⟩,.slice none 0 0,.slice none 0 0,.bool false,.slice none 0 0,.slice none 0 0,.slice none 0 0,.int .i64 0,.bool false,.slice none 0 0,.slice none 0 0,.slice none 0 0,.int .i64 0,.int .i64 0,.int .i64 0,.int .i64 0,.slice none 0 0,.slice none 0 0,.slice none 0 0,.slice none 0 0,.bool false,.slice none 0 0,.bool false,.slice none 0 0,.slice none 0 0,.slice none 0 0,.slice none 0 0,.slice none 0 0,.slice none 0 0,.slice none 0 0,.slice none 0 0]
theorem al_En(w:World):(Instr.alloc 95 true (.tuple #[])).run prog w=.ok (.pointer (some ⟨w.heap.size,0,none⟩)) (w.alloc (.cells z31.toArray 95)):=by unfold z31;go_simp
theorem nwE:∀v∈z31,NoWord v:=by
 intro v hv;have:z31.all (λv=>match v with| .string _=>true| .slice _ _ _=>true| .int .i64 _=>true| .bool _=>true|_=>false)=true:=rfl;have h:=List.all_eq_true.1 this v hv;cases v with
 |string s=>exact NoWord.string _
 |slice a n c=>exact NoWord.slice _ _ _
 |bool b=>exact NoWord.bool _
 |int q z=>cases q <;> first|exact NoWord.int64 _|simp at h
 |_=>simp at h
theorem ld_En:LdV prog 95 31:=ld_mid za za
theorem st_En:StV prog 95 31:=st_mid za
end
section
open Go Go.RowKit Go.Maps Go.Shelf
open Go.Proofs.Tryz
attribute [local go_sem] Oper.semAt_some
theorem back_c(w:World)(a:Option Addr)(n c:Nat):Calls prog 135 #[.slice a n c] w λe w'=>e=.returned (.func (.func 179) #[] #[.pointer (some ⟨w.heap.size,0,none⟩)])/\w'=w.alloc (.cells #[.slice a n c] 197):=by
 have hmf:∀(fn:Fn) (first cap:Array Value) (w:World),(Instr.makeFunc fn first cap).run prog w=.ok (.func fn first cap) w:=λ_ _ _ _=>rfl
 go_enter func135,ntmps135;go_wp2_with fail
 go_ret
 exact⟨rfl,rfl⟩
theorem turned_rm{h b:Nat}{w w':World}(t:w.mapTurned w' b)(hb:b=h\/b=h+1):Rm h w w':=by
 have hg:=t.grown;obtain⟨es,clock,_,_,hm,_⟩:=t;refine⟨hg.os,hg.tape,hg.output,hg.size,λk hk hh=>hg.block k hk (λe=>by injection e with e;omega),⟨hg.size,λp x hp=>?_⟩⟩;have hl:=World.block_lt_of_cell? w p hp;refine(World.cell?_of_block (w:=w) (a:=p) (hg.block p.block hl (λe=>?_))).trans hp;injection e with e;obtain⟨o,h1,h2⟩:=cells_of_cell hp;rw[e,hm]at h1;cases h1;cases h2
theorem wp_mu{P:Program}{Q:Exit->Act->World->Prop}{o:Oper}{a:Act}{W w':World}{K:Act->World->Prop}{t:Nat}{x y z:Operand}{m key val:Value}(hx:a.eval x=m)(hy:a.eval y=key)(hz:a.eval z=val)(hr:(Instr.mapUpdate t m key val).run P W=.ok () w')(hK:K a w')(ho:o.op=.mapUpdate t x y z:=by rfl)(hd:o.dst=none:=by rfl):Oper.wp P o a W K Q:=by
 have h9:(execOp a.eval o).run P W=.ok .skip w':=by
  unfold execOp;rw[ho];dsimp only;rw[hx,hy,hz];simp[hr]
 unfold Oper.wp;rw[h9];show K (a.put o.dst undef) w';rw[hd];exact hK
theorem wp_mvA{P:Program}{Q:Exit->Act->World->Prop}{o:Oper}{a:Act}{W:World}{K:Act->World->Prop}{x:Operand}{u:Value}(hx:a.eval x=u)(hK:K (a.put o.dst u) W)(ho:o.op=.assign x:=by rfl):Oper.wp P o a W K Q:=by
 have h9:(execOp a.eval o).run P W=.ok (.value u) W:=by
  unfold execOp;rw[ho];dsimp only;rw[hx];simp
 unfold Oper.wp;rw[h9];exact hK
theorem fa_Mc2(g:Nat)(w:World):(Instr.fieldAt 154 (.pointer (some ⟨g,0,none⟩)) 2).run prog w=.ok (.pointer (some ⟨g,2,none⟩)) w:=by go_simp
theorem fa_Mc3(g:Nat)(w:World):(Instr.fieldAt 154 (.pointer (some ⟨g,0,none⟩)) 3).run prog w=.ok (.pointer (some ⟨g,3,none⟩)) w:=by go_simp
theorem ld_ai:LdC1 prog 41:=λw a v h=>by go_simp
theorem ld_aI:LdC1 prog 69:=λw a v h=>by go_simp
theorem ld_ShM{w:World}{g o:Nat}{v:Value}(h:World.cell? w ⟨g,o,none⟩=some v):(Instr.loadAt 39 (.pointer (some ⟨g,o,none⟩))).run prog w=.ok (.agg #[v]) w:=by
 obtain⟨d,h1,h2⟩:=row_of (T:=39) za
 exact run_loadAt_mid w g o 39 [v] d (λj u hj=>by
  rcases j with _|j
  ·simp at hj;subst hj;exact h
  ·simp at hj) h1 h2 za
theorem Bk.grown{W W':World}{g b:Nat}{vs:List Value}(B:Bk W g vs)(hg:W.grownBy W' (some b))(hne:g≠b):Bk W' g vs:=by
 have hb:=hg.block g B.lt (λe=>hne (by injection e));exact⟨λj v hj=>(World.cell?_of_block (w:=W) (a:=⟨g,j,none⟩) hb).trans (B.c j v hj),λj=>(World.frozen?_of_block (w:=W) (a:=⟨g,j,none⟩) hb).trans (B.f j),Nat.lt_of_lt_of_le B.lt hg.size⟩
theorem obD{W:World}{D:Nat}{p q:Option (List Deferred)}(h:W.heap[D]? =some (.deferred p)):Ob D W (W.putObj D (.deferred q)):=by
 have hs:(W.putObj D (.deferred q)).heap.size=W.heap.size:=by simp[World.putObj]
 have hb:∀k,k≠D->(W.putObj D (.deferred q)).heap[k]? =W.heap[k]? :=λk hk=>World.putObj_heap_other (by omega)
 refine⟨rfl,rfl,rfl,by omega,λk _ hg=>hb k hg,⟨by omega,λp x hp=>?_⟩⟩;refine(World.cell?_of_block (w:=W) (a:=p) (hb p.block λe=>?_)).trans hp;obtain⟨o,h1,h2⟩:=cells_of_cell hp;rw[e,h]at h1;cases h1;cases h2
theorem Rm.ob{h g:Nat}{w0 w w':World}(r:Rm h w0 w)(e:Ob g w w')(hg:w0.heap.size<=g):Rm h w0 w':=
 ⟨e.os.trans r.os,e.tape.trans r.tape,e.output.trans r.output,jQ r.size e.size,λk hk hh=>(e.block k (Nat.lt_of_lt_of_le hk r.size) (by omega)).trans (r.block k hk hh),r.gr.trans e.gr⟩
theorem MAt.grown{m:Mc}{left b:Nat}{w w':World}(x:MAt m left w)(hg:w.grownBy w' (some b))(hb:b=m.h\/b=m.h+1):MAt m left w':=⟨x.bk.grown hg (by omega),x.fit⟩
theorem MAt.ob{m:Mc}{left g:Nat}{w w':World}(x:MAt m left w)(e:Ob g w w')(hg:m.h+2≠g):MAt m left w':=⟨e.bk x.bk hg,x.fit⟩
end
section
open Go Go.RowKit Go.Maps Go.Sort
open Go.Proofs.Tryz
theorem zap{P:Prop}(h:P:=by have:=hnx.size;have:=hg2.size;simp;omega):P:=h
set_option maxRecDepth 100000
set_option maxHeartbeats 4000000
abbrev Own1(T:TypeId)(base:Nat)(xs:List Value)(v:Value)(w:World):Prop:=w.ownsRow base T 1 v xs.length xs
theorem ext_sort{w0 w w':World}{g:Nat}(E:Ext w0 w)(h:w.grownBy w' (some g))(hg:w0.heap.size<=g):Ext w0 w':=Below.grown E h E.size (λk hk=>by cases hk;exact hg)
theorem tEg1_1{P:Prop}(h:P:=by
  refine⟨_,cnt2,ss++ [x],hrg3,by simp;omega,by simpa using hown',hC.step hlk hat,?_⟩;exact((hnx.grown hg2 hnx.size (λj hj=>by cases hj;exact jP _)).alloc (by have:=hnx.size;have:=hg2.size;omega) _).grown hg3 zap (λj hj=>(hrow2.lt j hj).1)
  ):P:=h
theorem sortedS_g{b n:Nat}{w:World}{D:DU}(hown:w.ownsMap prog 9 (plainElem prog 4) b n D)(hmax:n<=1000000):
  Calls prog 68 #[.map (some b)] w (λe w'=>Ext w w'/\∃v,e=.returned v/\Own1 9 w.heap.size (((strKeys D).mergeSort leB).map (encStr)) v w'):=by
 obtain⟨i0,hi,hz0,hz1,hz2⟩:=info_parts (P:=prog) (e:=9) (z:=.string ⟨#[]⟩) (size:=1) (bytes:=16) za;have hbl:=hown.lt;have hsz:=hown.size_le;go_enter func68,ntmps68;go_wp2_with (first| (at_range;refine wpList_range_own _ rfl _ 151 rfl 9 4 lawS ty_ms _ b n _ rfl hown ?_;intro w0 hrg0 hg0 hs0)|go_in)
 go_frame
 have hs1:=hg0.size
 go_loopw [3] (λv wr=>∃(left:Lit->Bool) (cnt:Nat) (ss:List (List UInt8)),wr.ranges prog 9 (plainElem prog 4) b w.heap.size n D left cnt/\ss.length+cnt<=Maps.size D/\
   wr.ownsRow w.heap.size 9 1 v ss.length (ss.map (encStr))/\Collected D left ss/\Below w.heap.size w wr)
  (λ_ wr=>wr.rangeLeft b w.heap.size)
 case atStart=>
  exact⟨_,_, [],hrg0,by simp,World.ownsRow_nil _ _ _ _,Collected.start D,(jS _ _).grown hg0 (jP _) (λj hj=>by cases hj)⟩
 case round=>
  obtain⟨left,cnt,ss,hrg,hcs,hrow,hC,hnx⟩:=hrel
  go_wp2_with (first
   | (at_next;go_loud (refine wpList_next_ranges _ rfl _ rfl 9 lawS (plainElem prog 4) (encStr) (λq:Nat=>Value.bool (Nat.beq q 0)) (λkey kl hk=>by obtain⟨x,hx,_⟩:=Maps.keyOf_str ty_str hk;exact⟨x,hx⟩) (λv y hv=>boolV hv) b w.heap.size n _ _ _ rfl hrg ?_ ?_))
   |go_in)
  ·intro hc0 hl0;have hP:ss.Perm (strKeys D):=hC.perm hown lawS ty_str hl0;have hM:ss.mergeSort leB=(strKeys D).mergeSort leB:=mergeSort_of_perm hP;rcases hrow.2 with⟨hnil,hl⟩| ⟨g,cap,cur,hv,hbase,hb,h1,h2,h3,h4⟩
   ·subst hnil;obtain rfl:ss= []:=List.eq_nil_of_length_eq_zero hl;go_wp2_with (go_at_call 86;refine(sort_string none 0 0 _ dcx).mono ?_;rintro e w1 ⟨rfl,e1⟩)
    go_ret
    rw[<-hM,show([]:List (List UInt8)).mergeSort leB= []from by simp];exact⟨Ext.trans hnx e1,_,rfl,World.ownsRow_nil _ _ _ _⟩
   ·subst hv;have hH:Holds (encStr) wr g 0 ss.toArray:=holds_of_block hb (by simpa using h4);have hgl:g<wr.heap.size:=(Array.getElem?_eq_some_iff.1 hb).1;have hc:=Tryz.slices_Sort_string g 0 cap ss wr hH hgl (by omega);go_wp2_with (go_at_call 86;refine hc.mono ?_;rintro e w' ⟨rfl,nn,os,rfl⟩)
    go_ret
    rw[<-hM];refine⟨ext_sort hnx (grownBy_sorted _) hbase,_,rfl,?_⟩;have:=ownsRow_sorted (n:=nn) (os:=os) (ts:=ss.mergeSort leB) (by simp) hbase hb h1 h2 h3
    simpa [Own1]using this
  ·intro x c kl yd yp w2 cnt2 hkey hlk hv hat hrg2 hlt hg2 hs2 hen;obtain⟨x',ex,rfl,_⟩:=Maps.keyOf_str ty_str hkey;obtain rfl:x=x':=encStr_inj ex;have hrow2:=hrow.kept hg2 (Or.inr (row_ne_iter hrow hrg).symm);clear hs2
   go_wp2_with (first
    | (at_builtin;refine wpList_append_own _ rfl _ _ 51 rfl w.heap.size 9 i0 (.string ⟨#[]⟩) 1 16 ty_as hi hz0 hz1 hz2 rfl dcx _ _ _ rfl (hrow2.alloc _) ⟨w2.heap.size,0,none⟩ 1 1 [(encStr) x] rfl rfl (cell_one_new _ _ _) (by simp[Value.oneCell',encStr]) (by unfold maxLen at *;omega) (by omega) zap ?_;intro v' w3 hown' hg3 hnil3;go_frame)
    |go_in)
   have hrg3:=(hrg2.alloc _).kept hg3 (row_ne_low hrow2 hbl) (row_ne_iter hrow2 hrg2)
   go_roundw
   case rel=>
    exact tEg1_1
   case measure=>rw[hrg3.left_eq,hrg.left_eq];exact hlt
theorem sortedI_g{b n:Nat}{w:World}{D:DU}(hown:w.ownsMap prog 3 (plainElem prog 4) b n D)(hmax:n<=1000000):
  Calls prog 67 #[.map (some b)] w (λe w'=>Ext w w'/\∃v,e=.returned v/\Own1 3 w.heap.size (((intKeys D).mergeSort (λx y:Int=>decide (x<=y))).map (Value.int .i64)) v w'):=by
 obtain⟨i0,hi,hz0,hz1,hz2⟩:=info_parts (P:=prog) (e:=3) (z:=.int .i64 0) (size:=1) (bytes:=8) za;have hbl:=hown.lt;have hsz:=hown.size_le;go_enter func67,ntmps67;go_wp2_with (first| (at_range;refine wpList_range_own _ rfl _ 152 rfl 3 4 lawI ty_mi _ b n _ rfl hown ?_;intro w0 hrg0 hg0 hs0)|go_in)
 go_frame
 have hs1:=hg0.size
 go_loopw [3] (λv wr=>∃(left:Lit->Bool) (cnt:Nat) (ss:List (Int)),wr.ranges prog 3 (plainElem prog 4) b w.heap.size n D left cnt/\ss.length+cnt<=Maps.size D/\
   wr.ownsRow w.heap.size 3 1 v ss.length (ss.map (Value.int .i64))/\CollectedI D left ss/\Below w.heap.size w wr)
  (λ_ wr=>wr.rangeLeft b w.heap.size)
 case atStart=>
  exact⟨_,_, [],hrg0,by simp,World.ownsRow_nil _ _ _ _,CollectedI.start D,(jS _ _).grown hg0 (jP _) (λj hj=>by cases hj)⟩
 case round=>
  obtain⟨left,cnt,ss,hrg,hcs,hrow,hC,hnx⟩:=hrel
  go_wp2_with (first
   | (at_next;go_loud (refine wpList_next_ranges _ rfl _ rfl 3 lawI (plainElem prog 4) (Value.int .i64) (λq:Nat=>Value.bool (Nat.beq q 0)) (λkey kl hk=>by obtain⟨x,hx,_⟩:=Maps.keyOf_int_inv ty_int hk;exact⟨x,hx⟩) (λv y hv=>boolV hv) b w.heap.size n _ _ _ rfl hrg ?_ ?_))
   |go_in)
  ·intro hc0 hl0;have hP:ss.Perm (intKeys D):=hC.perm hown lawI ty_int hl0;have hM:ss.mergeSort (λx y:Int=>decide (x<=y))=(intKeys D).mergeSort (λx y:Int=>decide (x<=y)):=mergeSort_of_perm_i hP;rcases hrow.2 with⟨hnil,hl⟩| ⟨g,cap,cur,hv,hbase,hb,h1,h2,h3,h4⟩
   ·subst hnil;obtain rfl:ss= []:=List.eq_nil_of_length_eq_zero hl;go_wp2_with (go_at_call 85;refine(sort_int none 0 0 _ dcx).mono ?_;rintro e w1 ⟨rfl,e1⟩)
    go_ret
    rw[<-hM,show([]:List (Int)).mergeSort (λx y:Int=>decide (x<=y))= []from by simp];exact⟨Ext.trans hnx e1,_,rfl,World.ownsRow_nil _ _ _ _⟩
   ·subst hv;have hH:Holds (Value.int .i64) wr g 0 ss.toArray:=holds_of_blockI hb (by simpa using h4);have hgl:g<wr.heap.size:=(Array.getElem?_eq_some_iff.1 hb).1;have hc:=Tryz.slices_Sort_int g 0 cap ss wr hH hgl (by omega);go_wp2_with (go_at_call 85;refine hc.mono ?_;rintro e w' ⟨rfl,nn,os,rfl⟩)
    go_ret
    rw[<-hM];refine⟨ext_sort hnx (grownBy_sortedI _) hbase,_,rfl,?_⟩;have:=ownsRow_sortedI (n:=nn) (os:=os) (ts:=ss.mergeSort (λx y:Int=>decide (x<=y))) (by simp) hbase hb h1 h2 h3
    simpa [Own1]using this
  ·intro x c kl yd yp w2 cnt2 hkey hlk hv hat hrg2 hlt hg2 hs2 hen;obtain⟨x',ex,rfl,_⟩:=Maps.keyOf_int_inv ty_int hkey;injection ex with _ ex;subst ex;have hrow2:=hrow.kept hg2 (Or.inr (row_ne_iter hrow hrg).symm);clear hs2
   go_wp2_with (first
    | (at_builtin;refine wpList_append_own _ rfl _ _ 41 rfl w.heap.size 3 i0 (.int .i64 0) 1 8 ty_ai hi hz0 hz1 hz2 rfl dcx _ _ _ rfl (hrow2.alloc _) ⟨w2.heap.size,0,none⟩ 1 1 [(Value.int .i64) x] rfl rfl (cell_one_new _ _ _) xf (by unfold maxLen at *;omega) (by omega) zap ?_;intro v' w3 hown' hg3 hnil3;go_frame)
    |go_in)
   have hrg3:=(hrg2.alloc _).kept hg3 (row_ne_low hrow2 hbl) (row_ne_iter hrow2 hrg2)
   go_roundw
   case rel=>
    exact tEg1_1
   case measure=>rw[hrg3.left_eq,hrg.left_eq];exact hlt
end
section
open Go Go.RowKit Go.Maps
open Go.Proofs.Tryz
set_option maxRecDepth 100000
set_option maxHeartbeats 8000000
def IsRw(B:Nat)(xs:List Value)(v:Value)(w:World):Prop:=∃ao c,v=.slice ao xs.length c/\(xs≠ []->∃g,ao=some ⟨g,0,none⟩/\B<=g/\∀j u,xs[j]? =some u->World.cell? w ⟨g,j,none⟩=some u)
theorem IsRw.ext{B:Nat}{l:List Value}{v:Value}{w w':World}(h:IsRw B l v w)(e:Ext w w'):IsRw B l v w':=by
 obtain⟨ao,c,h1,h2⟩:=h;exact⟨ao,c,h1,λhn=>let ⟨g,k1,k2,k3⟩:=h2 hn;⟨g,k1,k2,λj u hj=>e.cell (k3 j u hj)⟩⟩
theorem IsRw.stb(B:Nat)(l:List Value):Stb (IsRw B l):=λ_ _ _ e h=>h.ext e
instance (B:Nat) (l:List Value):StbC (IsRw B l):=⟨IsRw.stb B l⟩
theorem IsRw.ob{B g:Nat}{l:List Value}{v:Value}{w w':World}(h:IsRw B l v w)(e:Ob g w w')(hg:g<B):IsRw B l v w':=by
 obtain⟨ao,c,h1,h2⟩:=h;exact⟨ao,c,h1,λhn=>let ⟨g',k1,k2,k3⟩:=h2 hn;⟨g',k1,k2,λj u hj=>(World.cell?_of_block (w:=w) (a:=⟨g',j,none⟩) (e.block g' (World.block_lt_of_cell? w ⟨g',j,none⟩ (k3 j u hj)) (by omega))).trans (k3 j u hj)⟩⟩
theorem IsRw.mono{B B':Nat}{l:List Value}{v:Value}{w:World}(h:IsRw B l v w)(hb:B'<=B):IsRw B' l v w:=by
 obtain⟨ao,c,h1,h2⟩:=h;exact⟨ao,c,h1,λhn=>let ⟨g',k1,k2,k3⟩:=h2 hn;⟨g',k1,jQ hb k2,k3⟩⟩
theorem IsRw.shape{B:Nat}{l:List Value}{v:Value}{w:World}(h:IsRw B l v w):∃a n c,v=.slice a n c:=let ⟨ao,c,h1,_⟩:=h;⟨ao,_,c,h1⟩
theorem IsRw.of{B:Nat}{T:TypeId}{xs:List Value}{v:Value}{w:World}(h:Own1 T B xs v w):IsRw B xs v w:=by
 obtain⟨ao,cp,h1,hn,hc,hl,hcells⟩:=Rwg.shape (e:=T) (k:=1) h;exact⟨ao,cp,h1,λhne=>let ⟨g,k1,k2,_,k3⟩:=hcells (λh0=>hne (List.eq_nil_of_length_eq_zero h0));⟨g,k1,k2,k3⟩⟩
abbrev leI':Int->Int->Bool:=λx y=>decide (x<=y)
def dS(l:List (List UInt8)):DU:=l.foldl (λD x=>D.put (.string x) (.lit (.bool true))) (.map [])
def dI(l:List Int):DU:=l.foldl (λD x=>D.put (.int .i64 x) (.lit (.bool true))) (.map [])
def ksL(l:List (List UInt8)):List (List UInt8):=(strKeys (dS l)).mergeSort leB
def zsL(l:List Int):List Int:=(intKeys (dI l)).mergeSort leI'
def ksV(l:List (List UInt8)):List Value:=(ksL l).map encStr
def zsV(l:List Int):List Value:=(zsL l).map (Value.int .i64)
abbrev Lg:=List (List UInt8)×List Int
def JG(SS:List (List UInt8))(SI:List Int)(h:Nat)(s:Lg)(w:World):Prop:=(∀x∈s.1,x∈SS)/\(∀x∈s.2,x∈SI)/\w.ownsMap prog 9 (plainElem prog 4) h SS.length (dS s.1)/\w.ownsMap prog 3 (plainElem prog 4) (h+1) SI.length (dI s.2)
theorem JG.blk{SS:List (List UInt8)}{SI:List Int}{h:Nat}:∀ {s:Lg} {w w':World},JG SS SI h s w->w'.heap[h]? =w.heap[h]? ->w'.heap[h+1]? =w.heap[h+1]? ->JG SS SI h s w':=by
 rintro⟨rd,hy⟩ w w' ⟨h1,h2,⟨es,clock,hb,F,hs,hD⟩,⟨es',clock',hb',F',hs',hD'⟩⟩ k1 k2;exact⟨h1,h2,⟨es,clock,k1.trans hb,F,hs,hD⟩,⟨es',clock',k2.trans hb',F',hs',hD'⟩⟩
theorem JG.inv(SS:List (List UInt8))(SI:List Int)(h:Nat):MapInv h (JG SS SI h):=λ_ _ _ j _ k1 k2=>j.blk k1 k2
theorem JG.ob{SS:List (List UInt8)}{SI:List Int}{h g:Nat}{s:Lg}{w w':World}(j:JG SS SI h s w)(e:Ob g w w')(h1:g≠h)(h2:g≠h+1):JG SS SI h s w':=
 j.blk (e.block h j.2.2.1.lt h1.symm) (e.block (h+1) j.2.2.2.lt h2.symm)
theorem JG.made(SS:List (List UInt8))(SI:List Int)(W:World)(cs:Array Value)(T:TypeId):JG SS SI W.heap.size ([], []) (((W.alloc (.map #[] 0)).alloc (.map #[] 0)).alloc (.cells cs T)):=by
 refine⟨λx hx=>(by simp at hx),λx hx=>(by simp at hx),(((World.ownsMap_made W _ _ _).alloc _).alloc _).mono (Nat.zero_le _),?_⟩;have:=((World.ownsMap_made (H:=Unit) (W.alloc (.map #[] 0)) prog 3 (plainElem prog 4)).alloc (.cells cs T)).mono (Nat.zero_le SI.length)
 simpa [dI]using this
theorem sortedS_c{b n:Nat}{D:List (List UInt8)}{w:World}(hn:n<=1000000)(hown:w.ownsMap prog 9 (plainElem prog 4) b n (dS D)):Calls prog 68 #[.map (some b)] w (λe w'=>Ext w w'/\∃v,e=.returned v/\IsRw w.heap.size (ksV D) v w'):=
 jJ (sortedS_g hown hn) λ_e _w' h=>⟨h.1,let ⟨v,h2,h3⟩:=h.2;⟨v,h2,IsRw.of h3⟩⟩
theorem sortedI_c{b n:Nat}{D:List Int}{w:World}(hn:n<=1000000)(hown:w.ownsMap prog 3 (plainElem prog 4) b n (dI D)):Calls prog 67 #[.map (some b)] w (λe w'=>Ext w w'/\∃v,e=.returned v/\IsRw w.heap.size (zsV D) v w'/\∃a n c,v=.slice a n c):=
 jJ (sortedI_g hown hn) λ_e _w' h=>⟨h.1,let ⟨v,h2,h3⟩:=h.2;⟨v,h2,IsRw.of h3,(IsRw.of h3).shape⟩⟩
theorem Eval_g{w:World}{us:List Value}{sa ca va ga:Option Addr}{sn sc cn cc vn vc gn gc:Nat}{s0:Nat}{res:Res Kn}{left:Nat}{SS:List (List UInt8)}{SI:List Int}{rd:List (List UInt8)}{hy:List Int}(hl:us.length=8)(hs:s0<=100000)(hSS:SS.length<=1000000)(hSI:SI.length<=1000000)
  (HC:Hid (∀(h:Nat) (w':World),w.heap.size<=h->Ext w w'->MAt ⟨h,.slice ca cn cc,.slice va vn vc,.slice sa sn sc,.slice ga gn gc⟩ s0 w'->JG SS SI h ([], []) w'->h+3<=w'.heap.size->
   Calls prog 84 #[.pointer (some ⟨h+2,0,none⟩),.agg us.toArray,.slice none 0 0] w' (EvP ⟨h,.slice ca cn cc,.slice va vn vc,.slice sa sn sc,.slice ga gn gc⟩ (JG SS SI h) w' (res,(left,(rd,hy)))))):
  Calls prog 48 #[.agg us.toArray,.slice ca cn cc,.slice va vn vc,.agg #[.slice sa sn sc],.slice ga gn gc,.int .i64 (s0:Int)] w (λe w'=>Ext w w'/\∃v rv hv,e=.returned (.tuple #[v,rv,.int .i64 (left:Int)])/\IsVl res hv v w'/\IsRw w.heap.size (zsV hy) hv w'/\IsRw w.heap.size (ksV rd) rv w'):=by
 obtain⟨u0,u1,u2,u3,u4,u5,u6,u7,rfl⟩:=len8 hl;clear hl;have hmm:= @run_makeMap prog
 obtain⟨W,hW,E,B6,B9,B12⟩:∃W,W=((w.alloc (.cells #[u0,u1,u2,u3,u4,u5,u6,u7] 31)).alloc (.cells #[.slice sa sn sc] 39)).alloc (.cells #[.bool false,.slice none 0 0,.bool false,.slice none 0 0,.bool false,.slice none 0 0,.bool false,.slice none 0 0,.bool false,.slice none 0 0,.int .i64 0] 50)/\Ext w W/\Bk W w.heap.size [u0,u1,u2,u3,u4,u5,u6,u7]/\Bk W (w.heap.size+1) [.slice sa sn sc]/\Bk W (w.heap.size+2) zVl:=
  ⟨_,rfl,(((Ext.refl w).alloc _).alloc _).alloc _,(Bk.new w _ _).ext (((Ext.refl _).alloc _).alloc _),(Bk.newE _ _ (by simp) _ _).ext ((Ext.refl _).alloc _),Bk.newE _ _ (by simp) _ _⟩
 have c9:=B9.c 0 _ rfl;have hmx:max (s0:Int) 0=(s0:Int):=by omega
 have hmn:min (s0:Int) 100000=(s0:Int):=by omega
 go_enter func48,ntmps48;go_upto_region 1 with fail;rw[<-hW];clear hW
 obtain⟨X,hX,EX,MX,JX,hsz⟩:∃X,X=((W.alloc (.map #[] 0)).alloc (.map #[] 0)).alloc (.cells #[.slice ca cn cc,.slice va vn vc,.slice sa sn sc,.slice ga gn gc,.int .i64 (s0:Int),.map (some W.heap.size),.map (some (W.heap.size+1))] 154)/\Ext W X/\MAt ⟨W.heap.size,.slice ca cn cc,.slice va vn vc,.slice sa sn sc,.slice ga gn gc⟩ s0 X/\JG SS SI W.heap.size ([], []) X/\W.heap.size+3<=X.heap.size:=
  ⟨_,rfl,(((Ext.refl W).alloc _).alloc _).alloc _,⟨Bk.newE _ _ (by simp) _ _,hs⟩,JG.made SS SI W _ _,by simp⟩
 have hwh:=B12.lt;go_upto_region 2 with fail;rw[<-hX,show W.heap.size+1+1=W.heap.size+2 from rfl];clear hX hmm c9 hmx hmn;obtain⟨h,hh⟩:∃h,W.heap.size=h:=⟨_,rfl⟩;rw[hh]at MX JX hsz hwh ⊢;clear hh;replace E:=E.trans EX;replace B6:=B6.ext EX;replace B12:=B12.ext EX;clear EX B9;refine rgs 2 [some 28,some 29] [IsP (h+2) 0,IsV (.agg #[u0,u1,u2,u3,u4,u5,u6,u7])] [] ?_ ?_
 ·refine Rc (mv (qB 15)) ?_;refine Rc (lvV B6 xN (qB 6)) ?_;exact rn0
 intro v X1 e1 hZ _;replace E:=E.trans e1;replace B12:=B12.ext e1;replace MX:=MX.ext e1;replace JX:=(JG.inv SS SI h).ext JX e1 hsz;replace hsz:=jQ hsz e1.size;simp only[lxE,Nat.reduceAdd];rw[show v 0=.pointer (some ⟨h+2,0,none⟩)from hZ 0 dcx,show v 1=.agg #[u0,u1,u2,u3,u4,u5,u6,u7]from hZ 1 dcx];clear hZ e1 B6;have hres:=result_f (m:=⟨h,.slice ca cn cc,.slice va vn vc,.slice sa sn sc,.slice ga gn gc⟩) (us:= [u0,u1,u2,u3,u4,u5,u6,u7]) (st:=(s0,([], []))) (r:=(res,(left,(rd,hy)))) rfl (JG.inv SS SI h) hsz MX JX (hid λw' R M J hs'=>HC.out h w' (by omega) (Rm.extAll R E (show w.heap.size<=h by omega)) M J (jQ hsz hs'));refine stL (λK hK=>?_);refine xB (us:= [.pointer (some ⟨h+2,0,none⟩),.agg #[u0,u1,u2,u3,u4,u5,u6,u7]]) (en func66) za hres (λv2 X2 h=>hK _ _ ?_) (λch X2 h=>by{obtain⟨_,_,_,_,hx,_⟩:=h;cases hx}) (λX2 h=>by{obtain⟨_,_,_,_,hx,_⟩:=h;cases hx});obtain⟨R,M2,J2,v3,hv3,hvl⟩:=h;cases hv3;replace E:=R.extAll E (show w.heap.size<=h by omega);replace B12:=R.bk B12 (.inl (show w.heap.size+2<h by omega));have hsz2:=jQ hsz R.size;clear hres MX JX hsz R;obtain⟨ul,rfl,hul,nul,oul,⟨y9,hy9,ny9⟩,hset⟩:=hvl.cells;clear hvl hK K;have GR:=Gr.refl X2
 go_simp
 refine stL (λK hK=>?_);refine xF (vs:=zVl) al_Vl (λB16 e1=>hK _ _ ?_);replace E:=E.trans e1;replace GR:=GR.trans e1.gr;replace B12:=B12.ext e1;replace M2:=M2.ext e1;replace J2:=(JG.inv SS SI h).ext J2 e1 hsz2;obtain⟨g16,hg16⟩:∃g,X2.heap.size=g:=⟨_,rfl⟩;rw[hg16]at B16 hsz2 ⊢;generalize X2.alloc (.cells zVl.toArray 50)=X3 at E B12 M2 J2 B16 GR ⊢;clear hK K e1 hg16
 go_simp
 refine stL (λK hK=>?_);refine qZ (us:=ul) B16 st_Vl rfl hul nwZ (λX4 B16' O=>hK _ _ ?_) (ho1:=oul);replace E:=O.ext E (by omega);replace GR:=GR.trans O.gr;replace B12:=O.bk B12 (by omega);replace M2:MAt _ left X4:=⟨O.bk M2.bk ju,M2.fit⟩;replace J2:=(JG.inv SS SI h).only J2 O (by omega);have hsz4:h+3<=X4.heap.size:=by have:=B16'.lt;omega
 clear B16 hK K O;have B16:=B16';clear B16';refine jL ?_;go_upto_region 3 with fail;refine rgs 4 (dR 31 4) [IsP (h+2) 0,IsP (h+2) 0,IsP (h+2) 6,IsV (.map (some (h+1)))] [] ?_ ?_
 ·refine Rc (mv (qB 15)) ?_;refine Rc (nc (p:=⟨h+2,0,none⟩) (qA 0 31)) ?_;refine Rc (fa (fa_Mc6 (h+2)) (qA 1 32)) ?_;refine Rc (lvC 6 M2.bk ld_mi (qA 2 33)) ?_;exact rn0
 intro v X5 e1 hZ _;replace E:=E.trans e1;replace GR:=GR.trans e1.gr;replace B12:=B12.ext e1;replace B16:=B16.ext e1;replace M2:=M2.ext e1;replace J2:=(JG.inv SS SI h).ext J2 e1 hsz4;replace hsz4:=jQ hsz4 e1.size;simp only[lxE,Nat.reduceAdd];rw[show v 3=.map (some (h+1))from hZ 3 dcx];clear hZ e1;refine stL (λK hK=>?_);refine xB (us:= [.map (some (h+1))]) (en func67) za (sortedI_c hSI J2.2.2.2) (λv2 X6 h=>hK _ _ ?_) (λch X6 h=>by{obtain⟨_,_,hx,_⟩:=h;cases hx}) (λX6 h=>by{obtain⟨_,_,hx,_⟩:=h;cases hx});obtain⟨e1,v3,hv3,hri,ha,hn,hc,hsl⟩:=h;have hg16x:=B16.lt;have hwB:w.heap.size+2<X5.heap.size:=by omega
 cases hv3;replace E:=E.trans e1;replace GR:=GR.trans e1.gr;replace B12:=B12.ext e1;replace M2:=M2.ext e1;replace J2:=(JG.inv SS SI h).ext J2 e1 hsz4;replace hsz4:=jQ hsz4 e1.size;replace B16:=B16.ext e1;subst hsl;clear hK K e1
 go_simp
 refine jX λK hK=>?_;go_simp;refine hK _ _ ?_;clear hK K
 refine stL (λK hK=>?_);refine stCO 9 B16 (st_ai ha hn hc) hy9 ny9 (λX7 B16' O=>hK _ _ ?_);replace E:=O.ext E (by omega);replace GR:=GR.trans O.gr;replace B12:=O.bk B12 (by omega);replace M2:MAt ⟨h,.slice ca cn cc,.slice va vn vc,.slice sa sn sc,.slice ga gn gc⟩ left X7:=⟨O.bk M2.bk (show h+2≠g16 by omega),M2.fit⟩;replace J2:=(JG.inv SS SI h).only J2 O (by omega);replace hsz4:h+3<=X7.heap.size:=by rw[O.size];exact hsz4
 obtain⟨nu9,ou9,hvl9⟩:=hset (.slice ha hn hc) (NoWord.slice _ _ _) rfl;replace hri:=hri.ob (Ob.only O) hg16x;clear hK K;have hul9:(ul.set 9 (.slice ha hn hc)).length=11:=by rw[List.length_set];exact hul
 generalize ul.set 9 (.slice ha hn hc)=vl at B16' nu9 ou9 hvl9 hul9;clear B16 hset nul oul hy9 ny9 hul O;have B16:=B16';clear B16';refine jL ?_;go_upto_region 4 with fail;have hg12:w.heap.size+2<X7.heap.size:=B12.lt;have ngm:h+2≠w.heap.size+2:=by omega
 have ng16:g16≠w.heap.size+2:=by omega
 refine wp_region_rgx (RS (w.heap.size+2) zVl vl) 13 [some 37,some 38,some 39,some 40,some 41,some 42,some 43,some 44,some 45,some 46,none,some 13,some 14] [IsV (.agg vl.toArray),IsP (h+2) 0,IsP (h+2) 0,IsP (h+2) 5,IsV (.map (some h)),IsRw X7.heap.size (ksV rd),IsP (h+2) 0,IsP (h+2) 0,IsP (h+2) 4,iV (left:Int),(λ_ w'=>Bk w' (w.heap.size+2) vl),IsRw X7.heap.size (ksV rd),iV (left:Int)] za za za za za za RS.trans RS.of ?_ ?_ ?_
 ·exact⟨λ_ _ _ _ h=>h,λ_ _ _ _ h=>h,λ_ _ _ _ h=>h,λ_ _ _ _ h=>h,λ_ _ _ _ h=>h,λ_ _ _ q h=>h.ob q.ob hg12,λ_ _ _ _ h=>h,λ_ _ _ _ h=>h,λ_ _ _ _ h=>h,λ_ _ _ _ h=>h,λ_ _ _ q h=>q.s h,λ_ _ _ q h=>h.ob q.ob hg12,λ_ _ _ _ h=>h,trivial⟩
 ·refine RxS (λw' q=>lvV (q.ob.bk B16 ng16) ld_Vl (qB 16) hul9) ?_;refine RxS (λw' q=>mv (qB 15)) ?_;refine RxS (λw' q=>nc (p:=⟨h+2,0,none⟩) (qA 1 38)) ?_;refine RxS (λw' q=>fa (fa_Mc5 (h+2)) (qA 2 39)) ?_;refine RxS (λw' q=>lvC 5 (q.ob.bk M2.bk ngm) ld_ms (qA 3 40)) ?_
  refine RxS (λw' q=>cl1 (en func68) (qA (fP:=IsV (.map (some h))) 4 41) (λx0 w2 hE d0=>by
   obtain rfl:x0=.map (some h):=d0
   exact jJ (sortedS_c hSS ((JG.inv SS SI h).ext (J2.ob q.ob (by omega) (by omega)) hE (jQ hsz4 q.ob.size)).2.2.1) λe w3 hq=>by
    obtain⟨e3,v3,q1,q2⟩:=hq
    exact⟨v3,q1,e3,q2.mono (jQ q.ob.size hE.size)⟩)) ?_
  refine RxS (λw' q=>mv (qB 15)) ?_;refine RxS (λw' q=>nc (p:=⟨h+2,0,none⟩) (qA 6 43)) ?_;refine RxS (λw' q=>fa (fa_Mc4 (h+2)) (qA 7 44)) ?_;refine RxS (λw' q=>lvC 4 (q.ob.bk M2.bk ngm) xE (qA 8 45)) ?_;refine stS (.inl B12) st_Vl rfl hul9 nwZ nu9 ou9 (λw'=>qB 12) (λw'=>qA 0 37) ?_;refine RxS (λw' q=>mv (qA 5 42)) ?_;refine RxS (λw' q=>mv (qA 9 46)) ?_;exact RgAllx.nil
 intro v X8 q hZ;have B9:Bk X8 (w.heap.size+2) vl:=hZ 10 dcx;have hrs:IsRw X7.heap.size (ksV rd) (v 11) X8:=hZ 11 dcx;obtain⟨rv,hrv⟩:∃rv,v 11=rv:=⟨_,rfl⟩;rw[hrv]at hrs;simp only[lxE,Nat.reduceAdd];rw[hrv,show v 12=.int .i64 (left:Int)from hZ 12 dcx];clear hrv hZ;refine jR za ?_ _;have E8:=q.ob.ext E (by omega);have hvl8:=hvl9 X8 (GR.trans q.ob.gr);replace hri:=hri.ob q.ob hwB;have hwm:w.heap.size<=X5.heap.size:=by omega
 have hwn:w.heap.size<=X7.heap.size:=by omega
 clear B16 B12 M2 J2 hvl9 nu9 ou9 GR;obtain⟨l0,l1,l2,l3,l4,l5,l6,l7,l8,l9,l10,rfl⟩:=len11 hul9;have d0:World.cell? X8 ⟨w.heap.size+1+1,0,none⟩=some l0:=B9.c 0 _ rfl;have d1:World.cell? X8 ⟨w.heap.size+1+1,1,none⟩=some l1:=B9.c 1 _ rfl;have d2:World.cell? X8 ⟨w.heap.size+1+1,2,none⟩=some l2:=B9.c 2 _ rfl;have d3:World.cell? X8 ⟨w.heap.size+1+1,3,none⟩=some l3:=B9.c 3 _ rfl;have d4:World.cell? X8 ⟨w.heap.size+1+1,4,none⟩=some l4:=B9.c 4 _ rfl;have d5:World.cell? X8 ⟨w.heap.size+1+1,5,none⟩=some l5:=B9.c 5 _ rfl;have d6:World.cell? X8 ⟨w.heap.size+1+1,6,none⟩=some l6:=B9.c 6 _ rfl;have d7:World.cell? X8 ⟨w.heap.size+1+1,7,none⟩=some l7:=B9.c 7 _ rfl;have d8:World.cell? X8 ⟨w.heap.size+1+1,8,none⟩=some l8:=B9.c 8 _ rfl;have d9:World.cell? X8 ⟨w.heap.size+1+1,9,none⟩=some l9:=B9.c 9 _ rfl;have d10:World.cell? X8 ⟨w.heap.size+1+1,10,none⟩=some l10:=B9.c 10 _ rfl;clear B9 q;go_wp2_with fail;exact jK (v:=.tuple #[.agg #[l0,l1,l2,l3,l4,l5,l6,l7,l8,l9,l10],rv,.int .i64 (left:Int)]) (by simp[results,results48,d0,d1,d2,d3,d4,d5,d6,d7,d8,d9,d10,go_sem]) rfl ⟨E8,.agg #[l0,l1,l2,l3,l4,l5,l6,l7,l8,l9,l10],rv,rfl,.slice ha hn hc,hvl8,hri.mono hwm,hrs.mono hwn⟩
end
section
open Go Go.RowKit Go.Maps Go.Sort
open Go.Proofs.Tryz
theorem nd_len{α:Type}[DecidableEq α]:∀(l m:List α),l.Nodup->(∀x∈l,x∈m)->l.length<=m.length
 | [],_,_,_=>Nat.zero_le _
 | a ::l,m,h,hs=>by
  obtain⟨h1,h2⟩:=List.nodup_cons.1 h;have:=nd_len l (m.erase a) h2 (λx hx=>(List.mem_erase_of_ne (λe=>absurd hx (by rw[e];exact h1))).2 (hs x (List.mem_cons_of_mem _ hx)));have hm:=hs a List.mem_cons_self;rw[List.length_erase_of_mem hm]at this;have:=List.length_pos_of_mem hm;simp only[List.length_cons];omega
theorem has_dS'(x:List UInt8):∀(l:List (List UInt8)) (D:DU),IsMap D->(has (l.foldl (λD x=>D.put (.string x) (.lit (.bool true))) D) (.string x)=true↔x∈l\/has D (.string x)=true)
 | [],D,h=>by simp
 | y ::l,D,h=>by
  rw[List.foldl_cons,has_dS' x l _ (h.put _ _),List.mem_cons];by_cases e:x=y
  ·subst e;exact⟨λ_=> .inl (.inl rfl),λ_=> .inr (has_put_same h (show WideAt.IsKeyLit (Lit.string x)from trivial) _)⟩
  ·rw[has_put_other (λe'=>e (by cases e';rfl))];simp[e]
theorem has_dI'(x:Int):∀(l:List Int) (D:DU),IsMap D->(has (l.foldl (λD x=>D.put (.int .i64 x) (.lit (.bool true))) D) (.int .i64 x)=true↔x∈l\/has D (.int .i64 x)=true)
 | [],D,h=>by simp
 | y ::l,D,h=>by
  rw[List.foldl_cons,has_dI' x l _ (h.put _ _),List.mem_cons];by_cases e:x=y
  ·subst e;exact⟨λ_=> .inl (.inl rfl),λ_=> .inr (has_put_same h (show WideAt.IsKeyLit (Lit.int .i64 x)from trivial) _)⟩
  ·rw[has_put_other (λe'=>e (by cases e';rfl))];simp[e]
theorem has_dS(x:List UInt8)(l:List (List UInt8)):has (dS l) (.string x)=true↔x∈l:=by
 rw[dS,has_dS' x l _ ⟨_,rfl⟩];simp[has_eq]
theorem has_dI(x:Int)(l:List Int):has (dI l) (.int .i64 x)=true↔x∈l:=by
 rw[dI,has_dI' x l _ ⟨_,rfl⟩];simp[has_eq]
section
variable {w:World} {b n:Nat}
theorem keysS{l:List (List UInt8)}(hown:w.ownsMap prog 9 (plainElem prog 4) b n (dS l)):(strKeys (dS l)).Nodup/\(∀x,x∈strKeys (dS l)↔x∈l)/\(strKeys (dS l)).length=Maps.size (dS l):=by
 obtain⟨es,hD,hpw,_⟩:=hown.entries lawS;obtain⟨es',hD',hko⟩:=hown.keysOf;obtain rfl:es=es':=by rw[hD]at hD';simpa using hD'
 have hk:∀p∈es,∃x,p.1=.string x:=λp hp=>by obtain⟨v,hv⟩:=hko p hp;obtain⟨x,_,hx,_⟩:=Maps.keyOf_str ty_str hv;exact⟨x,hx⟩
 have hm:=λx=>has_dS x l
 rw[hD]at hm ⊢;refine⟨?_,λx=>?_,by simp[strKeys,size_eq]⟩
 ·show(es.map λp=>strOf p.1).Nodup;refine List.pairwise_map.2 (hpw.imp_of_mem λ{p q} hp' hq' hne e=>hne ?_);obtain⟨a,ha⟩:=hk p hp';obtain⟨b,hb⟩:=hk q hq';rw[ha,hb]at e ⊢;exact congrArg _ e
 ·rw[<-hm x,has_eq,List.any_eq_true];show x∈es.map (λp=>strOf p.1)↔_;rw[List.mem_map];constructor
  ·rintro⟨p,hp',rfl⟩;obtain⟨a,ha⟩:=hk p hp';exact⟨p,hp',by rw[ha];simp[Lit.sameKey,strOf]⟩
  ·rintro⟨p,hp',hs⟩;obtain⟨a,ha⟩:=hk p hp';rw[ha]at hs;exact⟨p,hp',by rw[ha];have:=WideAt.sameKey_eq hs;cases this;rfl⟩
theorem keysI{l:List Int}(hown:w.ownsMap prog 3 (plainElem prog 4) b n (dI l)):(intKeys (dI l)).Nodup/\(∀x,x∈intKeys (dI l)↔x∈l)/\(intKeys (dI l)).length=Maps.size (dI l):=by
 obtain⟨es,hD,hpw,_⟩:=hown.entries lawI;obtain⟨es',hD',hko⟩:=hown.keysOf;obtain rfl:es=es':=by rw[hD]at hD';simpa using hD'
 have hk:∀p∈es,∃x,p.1=.int .i64 x:=λp hp=>by obtain⟨v,hv⟩:=hko p hp;obtain⟨x,_,hx,_⟩:=Maps.keyOf_i64 ty_int hv;exact⟨x,hx⟩
 have hm:=λx=>has_dI x l
 rw[hD]at hm ⊢;refine⟨?_,λx=>?_,by simp[intKeys,size_eq]⟩
 ·show(es.map λp=>Go.intOf p.1).Nodup;refine List.pairwise_map.2 (hpw.imp_of_mem λ{p q} hp' hq' hne e=>hne ?_);obtain⟨a,ha⟩:=hk p hp';obtain⟨b,hb⟩:=hk q hq';rw[ha,hb]at e ⊢;exact congrArg _ e
 ·rw[<-hm x,has_eq,List.any_eq_true];show x∈es.map (λp=>Go.intOf p.1)↔_;rw[List.mem_map];constructor
  ·rintro⟨p,hp',rfl⟩;obtain⟨a,ha⟩:=hk p hp';exact⟨p,hp',by rw[ha];simp[Lit.sameKey,Go.intOf]⟩
  ·rintro⟨p,hp',hs⟩;obtain⟨a,ha⟩:=hk p hp';rw[ha]at hs;exact⟨p,hp',by rw[ha];have:=WideAt.sameKey_eq hs;cases this;rfl⟩
theorem own_size{k:TypeId}{R:Value->Option (DU×List MemPlace)}{D:DU}{m:Nat}(h:w.ownsMap prog k R b n D)(hm:Maps.size D<=m):w.ownsMap prog k R b m D:=by
 obtain⟨es,clock,hb,F,hs,hD⟩:=h;refine⟨es,clock,hb,F,?_,hD⟩;have:=length_read (P:=prog) (k:=k) (R0:=R) es;rw[hD,size_eq,this]at hm;exact hm
end
theorem dS_snoc(l:List (List UInt8))(x:List UInt8):(dS l).put (.string x) (.lit (.bool true))=dS (l++ [x]):=by simp[dS,List.foldl_append]
theorem dI_snoc(l:List Int)(x:Int):(dI l).put (.int .i64 x) (.lit (.bool true))=dI (l++ [x]):=by simp[dI,List.foldl_append]
theorem JG.read{SS:List (List UInt8)}{SI:List Int}{h:Nat}{s:Lg}{w:World}{x:ByteArray}(hx:x.size<=maxLen)(hS:x.data.toList∈SS)(hn:SS.length<maxLen)(j:JG SS SI h s w):
  ∃w',(Instr.mapUpdate 151 (.map (some h)) (.string x) (.bool true)).run prog w=.ok () w'/\JG SS SI h (s.1++ [x.data.toList],s.2) w'/\w.mapTurned w' h:=by
 obtain⟨j1,j2,j3,j4⟩:=j;obtain⟨w',hrun,own2,tur⟩:=j3.store lawS ty_ms hn (key:=.string x) (val:=.bool true) (kl:=.string x.data.toList) (d:=.lit (.bool true)) (ps:= []) (WideMaps.keyOf_string_mk ty_str hx) (plainElem_bool ty_bool true);rw[dS_snoc]at own2;have j1':∀y∈s.1++ [x.data.toList],y∈SS:=λy hy=>(List.mem_append.1 hy).elim (j1 y) (λe=>by rw[List.mem_singleton.1 e];exact hS)
 obtain⟨k1,k2,k3⟩:=keysS own2;refine⟨w',hrun,⟨j1',j2,own_size own2 (by rw[<-k3];exact nd_len _ _ k1 (λy hy=>j1' y ((k2 y).1 hy))),?_⟩,tur⟩;obtain⟨es,clock,hb,F,hs,hD⟩:=j4;exact⟨es,clock,((tur.grown).block (h+1) (by have:=(Array.getElem?_eq_some_iff.1 hb).1;exact this) (λe=>by injection e with e;omega)).trans hb,F,hs,hD⟩
theorem JG.use{SS:List (List UInt8)}{SI:List Int}{h:Nat}{s:Lg}{w:World}{x:Int}(hx:(Lit.int .i64 x).wf=true)(hS:x∈SI)(hn:SI.length<maxLen)(j:JG SS SI h s w):
  ∃w',(Instr.mapUpdate 152 (.map (some (h+1))) (.int .i64 x) (.bool true)).run prog w=.ok () w'/\JG SS SI h (s.1,s.2++ [x]) w'/\w.mapTurned w' (h+1):=by
 obtain⟨j1,j2,j3,j4⟩:=j;obtain⟨w',hrun,own2,tur⟩:=j4.store lawI ty_mi hn (key:=.int .i64 x) (val:=.bool true) (kl:=.int .i64 x) (d:=.lit (.bool true)) (ps:= []) (keyOf_int_mk ty_int hx) (plainElem_bool ty_bool true);rw[dI_snoc]at own2;have j2':∀y∈s.2++ [x],y∈SI:=λy hy=>(List.mem_append.1 hy).elim (j2 y) (λe=>by rw[List.mem_singleton.1 e];exact hS)
 obtain⟨k1,k2,k3⟩:=keysI own2;refine⟨w',hrun,⟨j1,j2',?_,own_size own2 (by rw[<-k3];exact nd_len _ _ k1 (λy hy=>j2' y ((k2 y).1 hy)))⟩,tur⟩;obtain⟨es,clock,hb,F,hs,hD⟩:=j3;exact⟨es,clock,((tur.grown).block h (by have:=(Array.getElem?_eq_some_iff.1 hb).1;exact this) (λe=>by injection e with e;omega)).trans hb,F,hs,hD⟩
end
section
open Go Go.RowKit
/-! ### Steps:what more of them change -/
section
variable {σ:Type}
end
section
variable {σ:Type}
end
section
variable {σ:Type}
end
section
variable {σ:Type}
def Kn.Le(q:Kn)(B:Nat):Prop:=q.lo.natAbs <=B/\q.hi.natAbs <=B
end
end
section
open Go Go.RowKit
/-! ### Cells and entries -/
structure qJ where
 name:ByteArray
 lo:Int
 hi:Int
 fin:Bool
 hyps:List Int
 err:Int
structure EnD where
 vals:List Int
 hyps:List Int
def leG(s S:Lg):Prop:=∀x∈s.1,x∈S.1
def clG(cs:List qJ)(x:ByteArray)(s:Lg):Res Kn×Lg:=match cs.find? (λc =>c.name ==x)with
 |none =>(.error 440,s)
 |some c =>(if c.err =0 then .ok ⟨c.lo,c.hi,c.fin⟩else .error c.err,(s.1,s.2 ++c.hyps))
def vlG(bst:List UInt8 ->Option EnD)(fl:ByteArray ->Env ->ByteArray)(x:ByteArray)(n:Int)(env:Env)(s:Lg):Res Kn×Lg:=match bst (fl x env).data.toList with
 |none =>(.error 6,(s.1 ++ [(fl x env).data.toList],s.2))
 |some d =>((match d.vals[n.toNat]? with|some v => .ok ⟨v,v,true⟩|none => .error 6),(s.1 ++ [(fl x env).data.toList],s.2 ++d.hyps))
def qX(cs:List qJ)(bst:List UInt8 ->Option EnD)(fl:ByteArray ->Env ->ByteArray):Mem Lg:=⟨clG cs,vlG bst fl⟩
def cellOk(SI:List Int)(cs:List qJ):Prop:=∀c∈cs,c.lo <=c.hi/\ (Kn.mk c.lo c.hi true).Le 4294967296/\∀h∈c.hyps,h∈SI
end
section
open Go Go.RowKit
/-! ### Trees -/
def fillOk(x:ByteArray)(env:Env):Prop:=x.size <=16/\env.length <=4/\∀p∈env,p.1.size <=16/\ -100 <=p.2/\p.2 <=161
def VG(SS:List (List UInt8))(fl:ByteArray ->Env ->ByteArray)(x:ByteArray)(n:Int)(env:Env):Prop:=0 <=n/\n <=9/\ (fl x env).data.toList∈SS/\fillOk x env
def hdOk(x:ByteArray):Prop:=∃c t,x.data.toList =c ::t/\c≠122/\c≠123
def wfT:Nat ->List ByteArray ->Ex ->Prop
 |_,_,.num z => -900 <=z/\z <=64125
 |_,bs,.var x =>x∈bs
 |_,_,.cell _ =>True
 |_,_,.val x n =>0 <=n/\n <=2/\x.size <=16/\hdOk x
 |d + 1,bs,.loop _ x lo hi b =>x.size <=16/\ -100 <=lo/\lo <=155/\lo <=hi/\hi <=lo + 6/\wfT d (bs ++ [x]) b
 |d + 1,bs,.bin op a b =>(op =4\/op =5\/op =6\/op =7\/op =8\/op =12\/op =13)/\wfT d bs a/\wfT d bs b
 |0,_,.loop _ _ _ _ _ =>False
 |0,_,.bin _ _ _ =>False
def xA(fl:ByteArray ->Env ->ByteArray):Ex ->Env ->List (List UInt8)
 | .val x _,env => [(fl x env).data.toList]
 | .loop _ x lo hi b,env =>(List.range (hi + 1 - lo).toNat).flatMap λi =>xA fl b (env ++ [(x,lo + (i:Nat))])
 | .bin _ a b,env =>xA fl a env ++xA fl b env
 |_,_ => []
theorem flatMap_len{α β:Type}(c:Nat)(f:α ->List β):∀(l:List α),(∀x∈l,(f x).length <=c) ->(l.flatMap f).length <=l.length * c
 | [],_ =>by simp
 | a ::l,h =>by
  have:=flatMap_len c f l λx hx =>h x (List.mem_cons_of_mem _ hx)
  have:=h a List.mem_cons_self
  simp only[List.flatMap_cons,jT,List.length_cons,Nat.add_mul]
  omega
theorem namesE_len(fl:ByteArray ->Env ->ByteArray):∀(d:Nat) (bs:List ByteArray) (e:Ex) (env:Env),wfT d bs e ->(xA fl e env).length <=7 ^ d
 |d,bs,.num z,env,h =>by simp[xA]
 |d,bs,.var x,env,h =>by simp[xA]
 |d,bs,.cell x,env,h =>by simp[xA]
 |d,bs,.val x n,env,h =>by simp only[xA,List.length_singleton];exact Nat.pow_pos dcx
 | d + 1,bs,.loop fst x lo hi b,env,h =>by
  simp only[wfT]at h
  obtain⟨_,h1,h2,h3,h4,hb⟩ :=h
  rw[xA]
  refine jQ (flatMap_len (7 ^ d) _ _ λi _ =>namesE_len fl d _ b _ hb) ?_
  rw[List.length_range,Nat.pow_succ,Nat.mul_comm]
  exact Nat.mul_le_mul_left _ (by omega)
 | d + 1,bs,.bin op a b,env,h =>by
  simp only[wfT]at h
  have h1:=namesE_len fl d bs a env h.2.1
  have h2:=namesE_len fl d bs b env h.2.2
  rw[xA,jT,Nat.pow_succ]
  omega
theorem look_mem:∀(env:Env) (x:ByteArray),env.any (λp =>p.1 ==x)=true ->∃p∈env,p.2 =look env x
 | [],x,h =>by cases h
 | (y,k) ::t,x,h =>by
  rw[look]
  by_cases c:t.any (λp =>p.1 ==x)=true
  ·rw[if_pos c]
   obtain⟨p,h1,h2⟩ :=look_mem t x c
   exact⟨p,List.mem_cons_of_mem _ h1,h2⟩
  ·rw[if_neg c]
   exact⟨(y,k),List.mem_cons_self,rfl⟩
theorem wfE_of{SS:List (List UInt8)}{fl:ByteArray ->Env ->ByteArray}:∀(d:Nat) (bs:List ByteArray) (e:Ex) (env:Env),wfT d bs e ->env.map Prod.fst =bs ->env.length + d <=4 ->(∀p∈env,p.1.size <=16/\ -100 <=p.2/\p.2 <=161) ->
  (∀y∈xA fl e env,y∈SS) ->wfE (λ_ =>True) (VG SS fl) e env
 | d,bs,.num z,env,h,hb,hl,hp,hS =>by
  simp only[wfT]at h
  simp only[wfE]
  exact Nat.lt_of_le_of_lt (show z.natAbs <=4294967296 ^ 1 by simp only[Nat.pow_one];omega) (Nat.pow_lt_pow_right dcx dcx)
 | d,bs,.var x,env,h,hb,hl,hp,hS =>by
  simp only[wfT]at h
  rw[<-hb]at h
  obtain⟨p,h1,h2⟩ :=List.mem_map.1 h
  have ha:env.any (λp =>p.1 ==x)=true:=List.any_eq_true.2 ⟨p,h1,by rw[h2,ba_beq];simp⟩
  obtain⟨q,h3,h4⟩ :=look_mem env x ha
  have:=hp q h3
  exact⟨ha,by omega,by omega⟩
 |d,bs,.cell x,env,h,hb,hl,hp,hS =>trivial
 | d,bs,.val x n,env,h,hb,hl,hp,hS =>by
  simp only[wfT]at h
  exact⟨h.1,by have:=h.2.1;omega,hS _ (by simp[xA]),h.2.2.1,by omega,hp⟩
 | d + 1,bs,.loop fst x lo hi b,env,h,hb,hl,hp,hS =>by
  simp only[wfT]at h
  obtain⟨hx,h1,h2,h3,h4,hw⟩ :=h
  refine⟨by omega,by omega,by omega,by omega,λn n1 n2 =>?_⟩
  refine wfE_of d (bs ++ [x]) b _ hw (by simp[hb]) (by simp;omega) (λp hp' =>?_) (λy hy =>hS y ?_)
  ·rcases List.mem_append.1 hp' with h|h
   ·exact hp p h
   ·rw[List.mem_singleton.1 h];exact⟨hx,by simp only;omega,by simp only;omega⟩
  ·rw[xA,List.mem_flatMap]
   refine⟨(n - lo).toNat,by rw[List.mem_range];omega,?_⟩
   rw[show lo + ((n - lo).toNat:Int)=n by omega]
   exact hy
 | d + 1,bs,.bin op a b,env,h,hb,hl,hp,hS =>by
  simp only[wfT]at h
  simp only[xA,List.mem_append]at hS
  exact⟨h.1,wfE_of d bs a env h.2.1 hb (by omega) hp (λy hy =>hS y (.inl hy)),wfE_of d bs b env h.2.2 hb (by omega) hp (λy hy =>hS y (.inr hy))⟩
end
section
open Go Go.RowKit
theorem rwz_run(w:World):(Instr.buildSlice 41 0 #[]).run Tryz.prog w=.ok (.slice (some ⟨w.heap.size,0,none⟩) 0 0) (w.alloc (.cells #[] 3)):=by go_simp
theorem Rwg.zero(w:World){base:Nat}(hb:base<=w.heap.size):Rwg 3 1 base (w.alloc (.cells #[] 3)) (.slice (some ⟨w.heap.size,0,none⟩) 0 0) 0 []:=by
 refine⟨by simp,.inr ⟨w.heap.size,0,#[],rfl,hb,World.alloc_heap_new _ _,?_,?_,?_,?_⟩⟩
 all_goals simp
end
section
open Go Go.RowKit
open Go.Proofs.Tryz
theorem zt{P:Prop}(h:P:=by exact mv (qB (x:=.int .i64 (i:Int)) 5)):P:=h
theorem jz{P:Prop}(h:P:=by simp only[IntKind.wrap_i64];omega):P:=h
theorem xa{P:Prop}(h:P:=by have:=(List.getElem?_eq_some_iff.1 he).1;have:=HN.out;omega):P:=h
theorem xm{P:Prop}(h:P:=by intro h0;rw[h0]at hd;simp at hd):P:=h
theorem za2{P:Prop}(h:P:=by rw[List.getElem?_eq_getElem hj,he]):P:=h
theorem rowOf{T:TypeId}(h:((prog.underlying T).any (·.isRow))=true):∃d,prog.underlying T=some d/\d.isRow=true:=by
 cases hq:prog.underlying T with
 |none=>rw[hq]at h;cases h
 |some d=>rw[hq]at h;exact⟨d,rfl,h⟩
theorem setCellsL:∀(us:List Value) (W:World) (g j:Nat),W.setCells g j us=xJ W g j us
 | [],W,g,j=>rfl
 | u ::us,W,g,j=>by
  unfold xJ;rw[<-setCellsL us];rfl
theorem ldM{T m:Nat}(hu:((prog.underlying T).any (·.isRow))=true)(hi:(prog.info? T).map (·.size)=some m){w:World}{g f:Nat}{vs:List Value}(hl:vs.length=m)(hc:∀j v,vs[j]? =some v->World.cell? w ⟨g,f+j,none⟩=some v):(Instr.loadAt T (.pointer (some ⟨g,f,none⟩))).run prog w=.ok (.agg vs.toArray) w:=by
 obtain⟨d,h1,h2⟩:=rowOf hu;exact run_loadAt_mid w g f T vs d hc h1 h2 (by rw[hl];exact hi)
theorem stM{T m:Nat}(hi:(prog.info? T).map (·.size)=some m):StV prog T m:=λw g vs us hl hl' h1 B=>by
 have ht:w.there g 0 us.toArray.size:=λj hj=>by
  have hj':j<vs.length:=by simp at hj;omega
  rw[Nat.zero_add];exact⟨by rw[B.c j _ (List.getElem?_eq_getElem hj')];rfl,B.f j⟩
 rw[run_storeAt_mid w g 0 T us.toArray ht (by simp only[List.size_toArray];rw[hl'];exact hi) (by simpa using h1),setCellsL]
theorem lvM{T m:Nat}(hu:((prog.underlying T).any (·.isRow))=true)(hi:(prog.info? T).map (·.size)=some m){w:World}{g:Nat}{vs:List Value}(hl:vs.length=m)(B:Bk w g vs):(loadVar T ⟨g,0,none⟩).run prog w=.ok (.agg vs.toArray) w:=by
 obtain⟨d,h1,h2⟩:=rowOf hu;exact run_loadVar_mid w g 0 T vs d (λj v hj=>by rw[Nat.zero_add];exact B.c j v hj) h1 h2 (by rw[hl];exact hi)
theorem resC{P:Program}{fn:Func}{a:Tmp}{t:TypeId}{tmps:Array Value}{w:World}{p:Addr}{v:Value}(h:fn.results= #[.cell a t])(ha:tmps.getD a undef=.pointer (some p))(hl:(loadVar t p).run P w=.ok v w):(results fn tmps).run P w=.ok v w:=by
 have ha':tmps[a]?.getD undef=.pointer (some p):=by simpa using ha
 simp[results,h,ha',hl,asAddr]
end
end Go.Proofs.YtkeikfekkdplgaaGreatDoor
