/- Lemmas. -/
import Derived.Test.YtkeikfekkdplgaaGreatDoorEv16
import Derived.Test.YtkeikfekkdplgaaGreatDoorReadB
import Derived.RangeFuncBox
import Derived.RangeFuncLeaves
import Derived.Shelf.Abstract
import Derived.OwnWalkIn
import Derived.TacticsInMore
import Derived.LoopNIn
import Derived.LoopIn
import Derived.Test.YtkeikfekkdplgaaGreatDoorFact
import Derived.RangeFuncNested
import Derived.Lib.ReplaceLaws
import Derived.Lib.ItoaLen
import Derived.SizedLaws
import Derived.Shelf.Vars
import Derived.Test.YtkeikfekkdplgaaGreatDoorRDivMod
import Derived.Test.YtkeikfekkdplgaaGreatDoorEv8
import Derived.Lib.SliceRun
namespace Go.Proofs.YtkeikfekkdplgaaGreatDoor
section
open Go Go.RowKit Go.Maps
open Go.Proofs.Tryz
theorem jc{P:Prop}(h:P:=by exact mv (qB (x:=.int .i64 (x)) 10)):P:=h
theorem jf{P:Prop}(h:P:=by exact mv (qB (x:=.slice (some ⟨gb,0,none⟩) nb cb) 2)):P:=h
theorem jm{P:Prop}(h:P:=by exact⟨us,rfl,hl,hone,hnw,(hnd.only O (Nat.lt_succ_self _)).up (Nat.le_succ _) (by rw[O.size];exact jP _)⟩):P:=h
theorem yn{P:Prop}(h:P:=by have:=HX.out;omega):P:=h
theorem zbc{P:Prop}(h:P:=by simpa using hu0):P:=h
set_option maxRecDepth 100000
set_option maxHeartbeats 8000000
def IsBy(v:Value)(w:World):Prop:=∃ao n c,v=.slice ao n c/\n<=9223372036854775807/\(n≠0->∃g o,ao=some ⟨g,o,none⟩/\∀j,j<n->∃b:Nat,b<256/\World.cell? w ⟨g,o+j,none⟩=some (.int .u8 (b:Int)))
theorem IsBy.ext{v:Value}{w w':World}(h:IsBy v w)(e:Ext w w'):IsBy v w':=by
 obtain⟨ao,n,c,h1,h2,h3⟩:=h;exact⟨ao,n,c,h1,h2,λhn=>let ⟨g,o,k1,k2⟩:=h3 hn;⟨g,o,k1,λj hj=>let ⟨b,q1,q2⟩:=k2 j hj;⟨b,q1,e.cell q2⟩⟩⟩
def IsN(m:Nat):Value->World->Prop:=λx _=>∃b:Nat,b<m/\x=.int .i64 (b:Int)
theorem IsN.stb(m:Nat):Stb (IsN m):=λ_ _ _ _ h=>h
instance (m:Nat):StbC (IsN m):=⟨IsN.stb m⟩
theorem at_f{w:World}{v:Value}{i:Nat}(h:IsBy v w)(hi:i<=4611686018427387904):Calls prog 64 #[v,.int .i64 (i:Int)] w (Ret w (IsN 256)):=by
 obtain⟨ao,n,c,rfl,hn,hc⟩:=h;by_cases hin:i<n
 ·obtain⟨g,o,rfl,hcs⟩:=hc (by omega);obtain⟨b,hb,c0⟩:=hcs i hin;have h1:(i:Int)<(n:Int):=by omega
  have h2:(0:Int)<=(i:Int):=by omega
  have hw:IntKind.i64.wrap (b:Int)=(b:Int):=jz
  clear hcs hc;go_enter func64,ntmps64
  go_wp2
  go_ret
  exact⟨_,rfl,Ext.refl _,b,hb,rfl⟩
 ·have h1:(n:Int)<=(i:Int):=by omega
  clear hc;go_enter func64,ntmps64
  go_wp2
  go_ret
  exact⟨_,rfl,Ext.refl _,0,by decide,rfl⟩
def IsRs(bs:List ByteArray)(v:Value)(w:World):Prop:=∃g c,v=.slice (some ⟨g,0,none⟩) bs.length c/\g<w.heap.size/\∀j x,bs[j]? =some x->World.cell? w ⟨g,j,none⟩=some (.string x)
theorem IsRs.ext{bs:List ByteArray}{v:Value}{w w':World}(h:IsRs bs v w)(e:Ext w w'):IsRs bs v w':=let ⟨g,c,h1,h2,h3⟩:=h;⟨g,c,h1,Nat.lt_of_lt_of_le h2 e.size,λj x hj=>e.cell (h3 j x hj)⟩
def NdL(B h:Nat):Ex->List Value->World->Prop
 | .num z,us,w=>IsNd h (.num z) us w
 | .var x,us,w=>IsNd h (.var x) us w
 | .cell x,us,w=>IsNd h (.cell x) us w
 | .val x j,us,w=>IsNd h (.val x j) us w
 | .loop fst x lo hi b,us,w=>∃(k:Int) (s:Bool) (a:Option Addr) (n c:Nat) (g o m cp:Nat),us= [.int .i64 (if fst then 10 else 9),.string x,.int .i64 k,.bool s,.slice a n c,.int .i64 lo,.int .i64 hi,.slice (some ⟨g,o,none⟩) m cp]/\1<=m/\m<=9223372036854775807/\(B<=g/\g<h)/\
   ∃vs:List Value,vs.length=8/\(∀j v,vs[j]? =some v->World.cell? w ⟨g,o+j,none⟩=some v)/\NdL B h b vs w
 | .bin op p q,us,w=>∃(x:ByteArray) (k:Int) (s:Bool) (a:Option Addr) (n c:Nat) (lo hi:Int) (g o m cp:Nat),us= [.int .i64 op,.string x,.int .i64 k,.bool s,.slice a n c,.int .i64 lo,.int .i64 hi,.slice (some ⟨g,o,none⟩) m cp]/\2<=m/\m<=9223372036854775807/\(B<=g/\g<h)/\
   (∃vs:List Value,vs.length=8/\(∀j v,vs[j]? =some v->World.cell? w ⟨g,o+j,none⟩=some v)/\NdL B h p vs w)/\
   ∃vs:List Value,vs.length=8/\(∀j v,vs[j]? =some v->World.cell? w ⟨g,o+8+j,none⟩=some v)/\NdL B h q vs w
theorem NdL.nd{B h:Nat}{w:World}:∀ {e:Ex} {us:List Value},NdL B h e us w->IsNd h e us w
 | .num _z,_us,H=>H
 | .var _x,_us,H=>H
 | .cell _x,_us,H=>H
 | .val _x _j,_us,H=>H
 | .loop _fst _x _lo _hi _b,_us,⟨k,s,a,n,c,g,o,m,cp,h1,h2,h3,h4,vs,h5,h6,h7⟩=>⟨k,s,a,n,c,g,o,m,cp,h1,h2,h3,h4.2,vs,h5,h6,h7.nd⟩
 | .bin _op _p _q,_us,⟨x,k,s,a,n,c,lo,hi,g,o,m,cp,h1,h2,h3,h4,⟨vs,h5,h6,h7⟩,vs',h5',h6',h7'⟩=>⟨x,k,s,a,n,c,lo,hi,g,o,m,cp,h1,h2,h3,h4.2,⟨vs,h5,h6,h7.nd⟩,vs',h5',h6',h7'.nd⟩
theorem NdL.up{B B' h h':Nat}(hb:B'<=B)(hh:h<=h'){w:World}:∀ {e:Ex} {us:List Value},NdL B h e us w->NdL B' h' e us w
 | .num _z,_us,H=>IsNd.up hh H
 | .var _x,_us,H=>IsNd.up hh H
 | .cell _x,_us,H=>IsNd.up hh H
 | .val _x _j,_us,H=>IsNd.up hh H
 | .loop _fst _x _lo _hi _b,_us,⟨k,s,a,n,c,g,o,m,cp,h1,h2,h3,h4,vs,h5,h6,h7⟩=>⟨k,s,a,n,c,g,o,m,cp,h1,h2,h3,⟨jQ hb h4.1,Nat.lt_of_lt_of_le h4.2 hh⟩,vs,h5,h6,NdL.up hb hh h7⟩
 | .bin _op _p _q,_us,⟨x,k,s,a,n,c,lo,hi,g,o,m,cp,h1,h2,h3,h4,⟨vs,h5,h6,h7⟩,vs',h5',h6',h7'⟩=>
  ⟨x,k,s,a,n,c,lo,hi,g,o,m,cp,h1,h2,h3,⟨jQ hb h4.1,Nat.lt_of_lt_of_le h4.2 hh⟩,⟨vs,h5,h6,NdL.up hb hh h7⟩,vs',h5',h6',NdL.up hb hh h7'⟩
theorem NdL.kept{B h:Nat}{w w':World}(hc:∀(p:Addr) (v:Value),B<=p.block->World.cell? w p=some v->World.cell? w' p=some v)(hg:Gr w w'):∀ {e:Ex} {us:List Value},NdL B h e us w->NdL B h e us w'
 | .num _z,_us,⟨nm,k,s,a,n,c,lo,hi,A,h1,h2⟩=>⟨nm,k,s,a,n,c,lo,hi,A,h1,IsI.gstb _ _ _ _ _ hg h2⟩
 | .var _x,_us,H=>H
 | .cell _x,_us,H=>H
 | .val _x _j,_us,H=>H
 | .loop _fst _x _lo _hi _b,_us,⟨k,s,a,n,c,g,o,m,cp,h1,h2,h3,h4,vs,h5,h6,h7⟩=>⟨k,s,a,n,c,g,o,m,cp,h1,h2,h3,h4,vs,h5,λj v hj=>hc _ v h4.1 (h6 j v hj),NdL.kept hc hg h7⟩
 | .bin _op _p _q,_us,⟨x,k,s,a,n,c,lo,hi,g,o,m,cp,h1,h2,h3,h4,⟨vs,h5,h6,h7⟩,vs',h5',h6',h7'⟩=>
  ⟨x,k,s,a,n,c,lo,hi,g,o,m,cp,h1,h2,h3,h4,⟨vs,h5,λj v hj=>hc _ v h4.1 (h6 j v hj),NdL.kept hc hg h7⟩,vs',h5',λj v hj=>hc _ v h4.1 (h6' j v hj),NdL.kept hc hg h7'⟩
theorem NdL.ext{B h:Nat}{w w':World}(E:Ext w w'){e:Ex}{us:List Value}(H:NdL B h e us w):NdL B h e us w':=H.kept (λ_ _ _ hv=>E.cell hv) E.gr
theorem NdL.only{B h g:Nat}{w w':World}(O:OnlyB g w w')(hg:g<B){e:Ex}{us:List Value}(H:NdL B h e us w):NdL B h e us w':=
 H.kept (λp _ hb hv=>(World.cell?_of_block (w:=w) (a:=p) (O.block p.block (by omega))).trans hv) O.gr
def NhL(B H:Nat)(e:Ex):Value->World->Prop:=λx w=>∃us:List Value,x=.agg us.toArray/\us.length=8/\us.all (λu=>u.oneCell')=true/\(∀v∈us,NoWord v)/\NdL B H e us w
def NeL(B:Nat)(e:Ex):Value->World->Prop:=λx w=>NhL B w.heap.size e x w
theorem NhL.stb(B H:Nat)(e:Ex):Stb (NhL B H e):=λ_ _ _ E ⟨us,h1,h2,h3,h4,h5⟩=>⟨us,h1,h2,h3,h4,h5.ext E⟩
instance (B H:Nat) (e:Ex):StbC (NhL B H e):=⟨NhL.stb B H e⟩
theorem NeL.stb(B:Nat)(e:Ex):Stb (NeL B e):=λ_ _ _ E ⟨us,h1,h2,h3,h4,h5⟩=>⟨us,h1,h2,h3,h4,(h5.ext E).up (jP _) E.size⟩
instance (B:Nat) (e:Ex):StbC (NeL B e):=⟨NeL.stb B e⟩
def NsL(B H:Nat)(es:List Ex):Value->World->Prop:=λx w=>∃g,x=.slice (some ⟨g,0,none⟩) es.length es.length/\B<=g/\g<w.heap.size/\∀i e,es[i]? =some e->∃vs:List Value,vs.length=8/\(∀j v,vs[j]? =some v->World.cell? w ⟨g,8*i+j,none⟩=some v)/\NdL B H e vs w
theorem NsL.stb(B H:Nat)(es:List Ex):Stb (NsL B H es):=λ_ _ _ E ⟨g,h1,h2,h3,h4⟩=>⟨g,h1,h2,Nat.lt_of_lt_of_le h3 E.size,λi e hi=>let ⟨vs,q1,q2,q3⟩:=h4 i e hi;⟨vs,q1,λj v hj=>E.cell (q2 j v hj),q3.ext E⟩⟩
instance (B H:Nat) (es:List Ex):StbC (NsL B H es):=⟨NsL.stb B H es⟩
section
variable {ops:Array Oper} {Q:Exit->Act->World->Prop} {ds:List (Option Tmp)} {a0:Act} {w0:World} {L:List (Value->World->Prop)} {boxes:List Nat} {i k:Nat} {o:Oper} {os:List Oper}
theorem bs1L{B H:Nat}{x:Operand}{e:Ex}(hx:Od ops ds a0 w0 L i x (NhL B H e))(hB:B<=w0.heap.size)(ho:o.op=.buildSlice 29 1 #[(0,x)]:=by rfl)(hi:L.getD i (λ_ _=>True)=NsL B H [e]:=by kernel_rfl)(hb:boxes.contains i=false:=by kernel_rfl):Ok prog ops Q ds a0 w0 L boxes i o:=
 ⟨fun v a w hE hd hf K hK=>by
  obtain⟨us,h1,hl,h3,h4,h5⟩:=hx.out v a w hE hd hf;obtain⟨u0,u1,u2,u3,u4,u5,u6,u7,rfl⟩:=len8 hl;have hr:(Instr.buildSlice 29 1 #[(0,.agg #[u0,u1,u2,u3,u4,u5,u6,u7])]).run prog w=.ok (.slice (some ⟨w.heap.size,0,none⟩) 1 1) (w.alloc (.cells #[u0,u1,u2,u3,u4,u5,u6,u7] 31)):=ja
  have hrun:(execOp a.eval o).run prog w=.ok (.value (.slice (some ⟨w.heap.size,0,none⟩) 1 1)) (w.alloc (.cells #[u0,u1,u2,u3,u4,u5,u6,u7] 31)):=by
   unfold execOp;rw[ho];dsimp only;simp only[List.map_toArray,List.map_cons,List.map_nil];rw[h1];simp[hr]
  unfold Oper.wp;rw[hrun];have E1:Ext w (w.alloc (.cells #[u0,u1,u2,u3,u4,u5,u6,u7] 31)):=(Ext.refl _).alloc _;have B1:=Bk.new w #[u0,u1,u2,u3,u4,u5,u6,u7] 31;refine hK.out _ _ E1 ?_ (FreshIf.no hb);rw[hi];refine⟨_,rfl,jQ hB hE.size,B1.lt,λi' e' hi'=>?_⟩;rcases i' with _|i'
  ·obtain rfl:e=e':=by simpa using hi'
   exact⟨[u0,u1,u2,u3,u4,u5,u6,u7],rfl,λj v hj=>by rw[Nat.mul_zero,Nat.zero_add];exact B1.c j v hj,h5.ext E1⟩
  ·simp at hi'⟩
theorem bs2L{B H:Nat}{x y:Operand}{e f:Ex}(hx:Od ops ds a0 w0 L i x (NhL B H e))(hy:Od ops ds a0 w0 L i y (NhL B H f))(hB:B<=w0.heap.size)(ho:o.op=.buildSlice 29 2 #[(0,x),(1,y)]:=by rfl)(hi:L.getD i (λ_ _=>True)=NsL B H [e,f]:=by kernel_rfl)(hb:boxes.contains i=false:=by kernel_rfl):Ok prog ops Q ds a0 w0 L boxes i o:=
 ⟨fun v a w hE hd hf K hK=>by
  obtain⟨us,h1,hl,h3,h4,h5⟩:=hx.out v a w hE hd hf;obtain⟨u0,u1,u2,u3,u4,u5,u6,u7,rfl⟩:=len8 hl;obtain⟨us',h1',hl',h3',h4',h5'⟩:=hy.out v a w hE hd hf;obtain⟨t0,t1,t2,t3,t4,t5,t6,t7,rfl⟩:=len8 hl';have hr:(Instr.buildSlice 29 2 #[(0,.agg #[u0,u1,u2,u3,u4,u5,u6,u7]),(1,.agg #[t0,t1,t2,t3,t4,t5,t6,t7])]).run prog w=.ok (.slice (some ⟨w.heap.size,0,none⟩) 2 2) (w.alloc (.cells #[u0,u1,u2,u3,u4,u5,u6,u7,t0,t1,t2,t3,t4,t5,t6,t7] 31)):=ja
  have hrun:(execOp a.eval o).run prog w=.ok (.value (.slice (some ⟨w.heap.size,0,none⟩) 2 2)) (w.alloc (.cells #[u0,u1,u2,u3,u4,u5,u6,u7,t0,t1,t2,t3,t4,t5,t6,t7] 31)):=by
   unfold execOp;rw[ho];dsimp only;simp only[List.map_toArray,List.map_cons,List.map_nil];rw[h1,h1'];simp[hr]
  unfold Oper.wp;rw[hrun];have E1:Ext w (w.alloc (.cells #[u0,u1,u2,u3,u4,u5,u6,u7,t0,t1,t2,t3,t4,t5,t6,t7] 31)):=(Ext.refl _).alloc _;have B1:=Bk.new w #[u0,u1,u2,u3,u4,u5,u6,u7,t0,t1,t2,t3,t4,t5,t6,t7] 31;refine hK.out _ _ E1 ?_ (FreshIf.no hb);rw[hi];refine⟨_,rfl,jQ hB hE.size,B1.lt,λi' e' hi'=>?_⟩;rcases i' with _|_|i'
  ·obtain rfl:e=e':=by simpa using hi'
   exact⟨[u0,u1,u2,u3,u4,u5,u6,u7],rfl,λj v hj=>by rw[Nat.mul_zero,Nat.zero_add];exact B1.c j v (getE_app _ [t0,t1,t2,t3,t4,t5,t6,t7] hj),h5.ext E1⟩
  ·obtain rfl:f=e':=by simpa using hi'
   exact⟨[t0,t1,t2,t3,t4,t5,t6,t7],rfl,λj v hj=>B1.c (8+j) v (getE_app2 [u0,u1,u2,u3,u4,u5,u6,u7] _ hj),h5'.ext E1⟩
  ·simp at hi'⟩
end
def IsBt(B d:Nat)(bs:List ByteArray)(i:Nat):Value->World->Prop:=λx w=>∃(e:Ex) (us:List Value) (k:Nat),x=.agg (us++ [Value.int .i64 (k:Int)]).toArray/\i<=k/\k+1<=i+4*2^d/\wfT d bs e/\NeL B e (.agg us.toArray) w
theorem IsBt.stb(B d:Nat)(bs:List ByteArray)(i:Nat):Stb (IsBt B d bs i):=λ_ _ _ E ⟨e,us,k,h1,h2,h3,h4,h5⟩=>⟨e,us,k,h1,h2,h3,h4,NeL.stb _ _ _ _ _ E h5⟩
instance (B d:Nat) (bs:List ByteArray) (i:Nat):StbC (IsBt B d bs i):=⟨IsBt.stb B d bs i⟩
theorem IsBt.dn{B B' d:Nat}{bs:List ByteArray}{i:Nat}{x:Value}{w:World}(h:IsBt B d bs i x w)(hb:B'<=B):IsBt B' d bs i x w:=let ⟨e,us,k,h1,h2,h3,h4,us',q1,q2,q3,q4,q5⟩:=h;⟨e,us,k,h1,h2,h3,h4,us',q1,q2,q3,q4,q5.up hb (jP _)⟩
def zBt:List Value:=zNd++ [.int .i64 0]
theorem nwBt:∀v∈zBt,NoWord v:=λv hv=>(List.mem_append.1 hv).elim (nwZN v) λh=>by
 obtain rfl:v=.int .i64 0:=yw
 exact NoWord.int64 _
theorem al_Bt(w:World):(Instr.alloc 122 true (.tuple #[])).run prog w=.ok (.pointer (some ⟨w.heap.size,0,none⟩)) (w.alloc (.cells zBt.toArray 122)):=by unfold zBt zNd;go_simp
theorem st_Bt:StV prog 122 9:=stM za
theorem lv_Bt{w:World}{g:Nat}{vs:List Value}(hl:vs.length=9)(B:Bk w g vs):(loadVar 122 ⟨g,0,none⟩).run prog w=.ok (.agg vs.toArray) w:=lvM za za hl B
theorem fa_Bt0(g:Nat)(w:World):(Instr.fieldAt 122 (.pointer (some ⟨g,0,none⟩)) 0).run prog w=.ok (.pointer (some ⟨g,0,none⟩)) w:=by go_simp
theorem fa_Bt1(g:Nat)(w:World):(Instr.fieldAt 122 (.pointer (some ⟨g,0,none⟩)) 1).run prog w=.ok (.pointer (some ⟨g,8,none⟩)) w:=by go_simp
theorem ld_NdO{w:World}{g:Nat}{us:List Value}{k:Value}(hl:us.length=8)(B:Bk w g (us++ [k])):(Instr.loadAt 31 (.pointer (some ⟨g,0,none⟩))).run prog w=.ok (.agg us.toArray) w:=
 ldM za za hl (λj v hj=>by rw[Nat.zero_add];exact B.c j v (getE_app _ _ hj))
theorem ld_BtK{w:World}{g:Nat}{us:List Value}{k:Value}(hl:us.length=8)(B:Bk w g (us++ [k])):World.cell? w ⟨g,8,none⟩=some k:=B.c 8 k (by rw[<-hl];simp)
theorem bd_Bt{w:World}{us:List Value}{k:Int}(hl:us.length=8):(Instr.build 122 #[(0,.agg us.toArray),(1,.int .i64 k)]).run prog w=.ok (.agg (us++ [Value.int .i64 k]).toArray) w:=by
 obtain⟨u0,u1,u2,u3,u4,u5,u6,u7,rfl⟩:=len8 hl
 go_simp
theorem NeL.us{B:Nat}{e:Ex}{x:Value}{w:World}(h:NeL B e x w):∃us:List Value,x=.agg us.toArray/\us.length=8/\us.all (λu=>u.oneCell')=true/\NeL B e (.agg us.toArray) w:=by
 obtain⟨us,h1,h2,h3,h4,h5⟩:=id h;exact⟨us,h1,h2,h3,h1▸h⟩
section
variable {ops:Array Oper} {Q:Exit->Act->World->Prop} {ds:List (Option Tmp)} {a0:Act} {w0:World} {L:List (Value->World->Prop)} {boxes:List Nat} {i k:Nat} {o:Oper} {os:List Oper}
theorem rem_run{a b:Nat}(hb:0<b)(ha:a<4611686018427387904)(x y:Operand)(w:World):Sem.run prog (do eqGuard .rem 3 x y (.int .i64 (a:Int)) (.int .i64 (b:Int));binOp .rem 3 (.int .i64 (a:Int)) (.int .i64 (b:Int))) w=.ok (.int .i64 ((a%b:Nat):Int)) w:=by
 have h1:¬(b:Int)=0:=by omega
 have h5:¬b=0:=by omega
 have h2:Int.tmod (a:Int) (b:Int)=((a%b:Nat):Int):=rfl;have h3:a%b<=a:=Nat.mod_le _ _;have h4:IntKind.i64.wrap ((a%b:Nat):Int)=((a%b:Nat):Int):=jz
 go_simp
theorem bnR{a b:Nat}{x y:Operand}(hx:Od ops ds a0 w0 L i x (iV (a:Int)))(hy:Od ops ds a0 w0 L i y (iV (b:Int)))(hb:0<b)(ha:a<4611686018427387904)(ho:o.op=.binOp .rem 3 x y 3:=by rfl)
  (hi:L.getD i (λ_ _=>True)=iV ((a%b:Nat):Int):=by kernel_rfl) (hbx:boxes.contains i=false:=by kernel_rfl):Ok prog ops Q ds a0 w0 L boxes i o:=
 bn hx hy ho (λw=>rem_run hb ha x y w) hi hbx
theorem lenSt{ao:Option Addr}{n c:Nat}{x:Operand}(hx:Od ops ds a0 w0 L i x (IsV (.slice ao n c)))(ho:o.op=.call {callee:=.builtin .len,args:= #[x],argTypes:= #[51]} :=by rfl)(hi:L.getD i (λ_ _=>True)=iV (n:Int):=by kernel_rfl)(hb:boxes.contains i=false:=by kernel_rfl):Ok prog ops Q ds a0 w0 L boxes i o:=
 Ok.of hb λv a w hE hd hf=>by
  have h1:a.eval x=_:=hx.out v a w hE hd hf;refine⟨_,?_,by rw[hi];exact rfl⟩;unfold execOp;rw[ho];dsimp only;unfold resolve;simp only[List.map_toArray,List.map_cons,List.map_nil,h1]
  go_simp
theorem tTre_2{P:Prop}(h:P:=by
  have h1:(0:Int)<=(j:Int):=by omega
  have h2:(j:Int)<(n:Int):=by omega
  have h3:0+j=j:=by omega
  go_simp
  ):P:=h
theorem ix_S(g c n j:Nat)(h:j<n)(w:World):(Instr.indexAt 51 (.slice (some ⟨g,0,none⟩) n c) (.int .i64 (j:Int))).run prog w=.ok (.pointer (some ⟨g,j,none⟩)) w:=by
 exact tTre_2
theorem ix_I(g c n j:Nat)(h:j<n)(w:World):(Instr.indexAt 41 (.slice (some ⟨g,0,none⟩) n c) (.int .i64 (j:Int))).run prog w=.ok (.pointer (some ⟨g,j,none⟩)) w:=by
 exact tTre_2
theorem bsC{T:Nat}{xs:List Value}{n:Nat}{ps:Array (Nat×Operand)}(ho:o.op=.buildSlice T n ps:=by rfl)(hr:∀(a:Act) (w:World),∃T',(Instr.buildSlice T n (ps.map λp=>(p.1,a.eval p.2))).run prog w=.ok (.slice (some ⟨w.heap.size,0,none⟩) xs.length xs.length) (w.alloc (.cells xs.toArray T')))
  (hi:L.getD i (λ_ _=>True)=IsRw 0 xs:=by kernel_rfl) (hb:boxes.contains i=false:=by kernel_rfl):Ok prog ops Q ds a0 w0 L boxes i o:=
 ⟨fun v a w hE hd hf K hK=>by
  obtain⟨T',hr'⟩:=hr a w
  have hrun:(execOp a.eval o).run prog w=.ok (.value (.slice (some ⟨w.heap.size,0,none⟩) xs.length xs.length)) (w.alloc (.cells xs.toArray T')):=by
   unfold execOp;rw[ho];dsimp only;simp[hr']
  unfold Oper.wp;rw[hrun];refine hK.out _ _ ((Ext.refl w).alloc _) ?_ (FreshIf.no hb);rw[hi]
  exact⟨_,_,rfl,λ_=>⟨_,rfl,Nat.zero_le _,λj u hj=>(Bk.new w xs.toArray T').c j u yx⟩⟩⟩
theorem bnN{m b:Nat}{x:Operand}(hx:Od ops ds a0 w0 L i x (IsN m))(hb:0<b)(hm:m<=4611686018427387904)(ho:o.op=.binOp .rem 3 x (.const (.int .i64 (b:Int))) 3:=by rfl)(hi:L.getD i (λ_ _=>True)=IsN b:=by kernel_rfl)(hbx:boxes.contains i=false:=by kernel_rfl):Ok prog ops Q ds a0 w0 L boxes i o:=
 Ok.of hbx λv a w hE hd hf=>by
  obtain⟨c,hc,h1⟩:=hx.out v a w hE hd hf;refine⟨.int .i64 ((c%b:Nat):Int),?_,by rw[hi];exact⟨_,jV _ hb,rfl⟩⟩;have:=rem_run (a:=c) (b:=b) hb (by omega) x (.const (.int .i64 (b:Int))) w;unfold execOp;rw[ho];dsimp only;rw[h1,show a.eval (.const (.int .i64 (b:Int)))=.int .i64 (b:Int)from rfl];cases hg:Sem.run prog (eqGuard .rem 3 x (.const (.int .i64 (b:Int))) (.int .i64 (c:Int)) (.int .i64 (b:Int))) w with
  |ok u w1=>simp[hg]at this ⊢;rw[this];simp
  |halt e w1=>simp[hg]at this
def IsPc(u:Value):Value->World->Prop:=λx w=>∃g j,x=.pointer (some ⟨g,j,none⟩)/\World.cell? w ⟨g,j,none⟩=some u
theorem IsPc.stb(u:Value):Stb (IsPc u):=λ_ _ _ e ⟨g,j,h1,h2⟩=>⟨g,j,h1,e.cell h2⟩
instance (u:Value):StbC (IsPc u):=⟨IsPc.stb u⟩
theorem ixRw{B T:Nat}{xs:List Value}{u:Value}{j:Nat}{x y:Operand}(hr:∀(g c n j:Nat),j<n->∀w,(Instr.indexAt T (.slice (some ⟨g,0,none⟩) n c) (.int .i64 (j:Int))).run prog w=.ok (.pointer (some ⟨g,j,none⟩)) w)
  (hx:Od ops ds a0 w0 L i x (IsRw B xs)) (hy:Od ops ds a0 w0 L i y (iV (j:Int))) (hj:xs[j]? =some u) (ho:o.op=.indexAddr T x y:=by rfl) (hi:L.getD i (λ_ _=>True)=IsPc u:=by kernel_rfl) (hb:boxes.contains i=false:=by kernel_rfl):Ok prog ops Q ds a0 w0 L boxes i o:=
 Ok.of hb λv a w hE hd hf=>by
  obtain⟨ao,c,h1,h2⟩:=hx.out v a w hE hd hf;have h3:a.eval y=.int .i64 (j:Int):=hy.out v a w hE hd hf;have hlt:=(List.getElem?_eq_some_iff.1 hj).1;obtain⟨g,rfl,_,h4⟩:=h2 (by intro h0;subst h0;simp at hj);refine⟨.pointer (some ⟨g,j,none⟩),?_,by rw[hi];exact⟨g,j,rfl,h4 j u hj⟩⟩;unfold execOp;rw[ho];dsimp only;rw[h1,h3];simp[hr g c xs.length j hlt w]
theorem ldPc{T:Nat}{u:Value}{x:Operand}(hr:LdC1 prog T)(hx:Od ops ds a0 w0 L i x (IsPc u))(ho:o.op=.load T x:=by rfl)(hi:L.getD i (λ_ _=>True)=IsV u:=by kernel_rfl)(hb:boxes.contains i=false:=by kernel_rfl):Ok prog ops Q ds a0 w0 L boxes i o:=
 Ok.of hb λv a w hE hd hf=>by
  obtain⟨g,j,h1,h2⟩:=hx.out v a w hE hd hf;exact⟨u,ld_run ho h1 (hr w _ _ h2),by rw[hi];rfl⟩
theorem bdG2{T:Nat}{ps:Array (Nat×Operand)}{fP:Value->World->Prop}(ho:o.op=.build T ps)(hi:L.getD i (λ_ _=>True)=fP)(hb:boxes.contains i=false)(h:∀(v:Nat->Value) (a:Act) (w:World),Ext w0 w->(∀j,(ups .any ops i).contains j=true->L.getD j (λ_ _=>True) (v j) w)->Fr ds a0 v a->∃u,(Instr.build T (ps.map λp=>(p.1,a.eval p.2))).run prog w=.ok u w/\fP u w):Ok prog ops Q ds a0 w0 L boxes i o:=
 Ok.of hb λv a w hE hd hf=>by
  obtain⟨u,h1,h2⟩:=h v a w hE hd hf;exact⟨u,bdG ho h1,by rw[hi];exact h2⟩
theorem bdBin{B H:Nat}{op:Int}{p q:Ex}{x y:Operand}(hx:Od ops ds a0 w0 L i x (iV op))(hy:Od ops ds a0 w0 L i y (NsL B H [p,q]))(hH:H<=w0.heap.size)(ho:o.op=.build 31 #[(0,x),(6,y)]:=by rfl)(hi:L.getD i (λ_ _=>True)=NeL B (.bin op p q):=by kernel_rfl)(hb:boxes.contains i=false:=by kernel_rfl):Ok prog ops Q ds a0 w0 L boxes i o:=
 bdG2 ho hi hb λv a w hE hd hf=>by
  have e1:a.eval x=.int .i64 op:=hx.out v a w hE hd hf;obtain⟨g,e2,q2,q3,q4⟩:=hy.out v a w hE hd hf;have hr:(Instr.build 31 #[(0,.int .i64 op),(6,.slice (some ⟨g,0,none⟩) 2 2)]).run prog w=.ok (.agg #[.int .i64 op,.string ⟨#[]⟩,.int .i64 0,.bool false,.slice none 0 0,.int .i64 0,.int .i64 0,.slice (some ⟨g,0,none⟩) 2 2]) w:=ja
  obtain⟨vs,r1,r2,r3⟩:=q4 0 p rfl;obtain⟨vs',r1',r2',r3'⟩:=q4 1 q rfl;have hu:H<=w.heap.size:=jQ hH hE.size;exact⟨_,by simp only[List.map_toArray,List.map_cons,List.map_nil];rw[e1,e2];exact hr,_,rfl,rfl,rfl,nwNd,_,_,_,_,_,_,_,_,g,0,2,2,rfl,jP _,by decide,⟨q2,q3⟩,⟨vs,r1,λj v hj=>by simpa using r2 j v hj,r3.up (jP _) hu⟩,vs',r1',λj v hj=>by simpa using r2' j v hj,r3'.up (jP _) hu⟩
theorem bdLoop{B H:Nat}{fst:Bool}{opc lo hi':Int}{s:ByteArray}{p:Ex}{x0 x1 x4 x5 x6:Operand}(h0:Od ops ds a0 w0 L i x0 (iV opc))(h1:Od ops ds a0 w0 L i x1 (IsV (.string s)))(h4:Od ops ds a0 w0 L i x4 (iV lo))(h5:Od ops ds a0 w0 L i x5 (iV hi'))(h6:Od ops ds a0 w0 L i x6 (NsL B H [p]))
  (hopc:opc=if fst then 10 else 9) (hH:H<=w0.heap.size) (ho:o.op=.build 31 #[(0,x0),(1,x1),(4,x4),(5,x5),(6,x6)]:=by rfl) (hi:L.getD i (λ_ _=>True)=NeL B (.loop fst s lo hi' p):=by kernel_rfl) (hb:boxes.contains i=false:=by kernel_rfl):Ok prog ops Q ds a0 w0 L boxes i o:=
 bdG2 ho hi hb λv a w hE hd hf=>by
  have e0:a.eval x0=.int .i64 opc:=h0.out v a w hE hd hf;have e1:a.eval x1=.string s:=h1.out v a w hE hd hf;have e4:a.eval x4=.int .i64 lo:=h4.out v a w hE hd hf;have e5:a.eval x5=.int .i64 hi':=h5.out v a w hE hd hf;obtain⟨g,e6,q2,q3,q4⟩:=h6.out v a w hE hd hf;have hr:(Instr.build 31 #[(0,.int .i64 opc),(1,.string s),(4,.int .i64 lo),(5,.int .i64 hi'),(6,.slice (some ⟨g,0,none⟩) 1 1)]).run prog w=.ok (.agg #[.int .i64 opc,.string s,.int .i64 0,.bool false,.slice none 0 0,.int .i64 lo,.int .i64 hi',.slice (some ⟨g,0,none⟩) 1 1]) w:=ja
  obtain⟨vs,r1,r2,r3⟩:=q4 0 p rfl;have hu:H<=w.heap.size:=jQ hH hE.size;exact⟨_,by simp only[List.map_toArray,List.map_cons,List.map_nil];rw[e0,e1,e4,e5,e6];exact hr,_,rfl,rfl,rfl,nwNd,_,_,_,_,_,g,0,1,1,by rw[hopc],jP _,by decide,⟨q2,q3⟩,vs,r1,λj v hj=>by simpa using r2 j v hj,r3.up (jP _) hu⟩
theorem bdNum{B:Nat}{z:Int}{x:Operand}(hx:Od ops ds a0 w0 L i x (IsI 2 z))(ho:o.op=.build 31 #[(0,.const (.int .i64 1)),(3,x)]:=by rfl)(hi:L.getD i (λ_ _=>True)=NeL B (.num z):=by kernel_rfl)(hb:boxes.contains i=false:=by kernel_rfl):Ok prog ops Q ds a0 w0 L boxes i o:=
 bdG2 ho hi hb λv a w hE hd hf=>by
  have hI:=hx.out v a w hE hd hf;obtain⟨s,p,n,c,e1,hx2⟩:=id hI;have hr:(Instr.build 31 #[(0,.int .i64 1),(3,.agg #[.bool s,.slice p n c])]).run prog w=.ok (.agg #[.int .i64 1,.string ⟨#[]⟩,.int .i64 0,.bool s,.slice p n c,.int .i64 0,.int .i64 0,.slice none 0 0]) w:=ja
  refine⟨_,by simp only[List.map_toArray,List.map_cons,List.map_nil];rw[e1,show a.eval (.const (.int .i64 1))=.int .i64 1 from rfl];exact hr,_,rfl,rfl,rfl,nwNd,_,_,_,_,_,_,_,_,_,rfl,?_⟩;rw[<-e1];exact IsI.mono hI dcx
theorem bdLeaf{B:Nat}{op n:Int}{s:ByteArray}{e:Ex}{x0 x1 x2:Operand}(h0:Od ops ds a0 w0 L i x0 (iV op))(h1:Od ops ds a0 w0 L i x1 (IsV (.string s)))(h2:Od ops ds a0 w0 L i x2 (iV n))(he:op=3/\e=.val s n)
  (ho:o.op=.build 31 #[(0,x0),(1,x1),(2,x2)]:=by rfl) (hi:L.getD i (λ_ _=>True)=NeL B e:=by kernel_rfl) (hb:boxes.contains i=false:=by kernel_rfl):Ok prog ops Q ds a0 w0 L boxes i o:=
 bdG2 ho hi hb λv a w hE hd hf=>by
  obtain⟨rfl,rfl⟩:=he;have e0:a.eval x0=.int .i64 3:=h0.out v a w hE hd hf;have e1:a.eval x1=.string s:=h1.out v a w hE hd hf;have e2:a.eval x2=.int .i64 n:=h2.out v a w hE hd hf;have hr:(Instr.build 31 #[(0,.int .i64 3),(1,.string s),(2,.int .i64 n)]).run prog w=.ok (.agg #[.int .i64 3,.string s,.int .i64 n,.bool false,.slice none 0 0,.int .i64 0,.int .i64 0,.slice none 0 0]) w:=ja
  exact⟨_,by simp only[List.map_toArray,List.map_cons,List.map_nil];rw[e0,e1,e2];exact hr,_,rfl,rfl,rfl,nwNd,_,_,_,_,_,_,_,rfl⟩
theorem bdLeaf2{B:Nat}{op:Int}{s:ByteArray}{e:Ex}{x0 x1:Operand}(h0:Od ops ds a0 w0 L i x0 (iV op))(h1:Od ops ds a0 w0 L i x1 (IsV (.string s)))(he:(op=11/\e=.var s)\/(op=2/\e=.cell s))
  (ho:o.op=.build 31 #[(0,x0),(1,x1)]:=by rfl) (hi:L.getD i (λ_ _=>True)=NeL B e:=by kernel_rfl) (hb:boxes.contains i=false:=by kernel_rfl):Ok prog ops Q ds a0 w0 L boxes i o:=
 bdG2 ho hi hb λv a w hE hd hf=>by
  have e0:a.eval x0=.int .i64 op:=h0.out v a w hE hd hf;have e1:a.eval x1=.string s:=h1.out v a w hE hd hf;have hr:(Instr.build 31 #[(0,.int .i64 op),(1,.string s)]).run prog w=.ok (.agg #[.int .i64 op,.string s,.int .i64 0,.bool false,.slice none 0 0,.int .i64 0,.int .i64 0,.slice none 0 0]) w:=ja
  refine⟨_,by simp only[List.map_toArray,List.map_cons,List.map_nil];rw[e0,e1];exact hr,_,rfl,rfl,rfl,nwNd,?_⟩;rcases he with⟨rfl,rfl⟩| ⟨rfl,rfl⟩ <;> exact⟨_,_,_,_,_,_,_,_,rfl⟩
theorem bdBt{B d j k':Nat}{bs:List ByteArray}{e:Ex}{x y:Operand}(hx:Od ops ds a0 w0 L i x (NeL B e))(hy:Od ops ds a0 w0 L i y (iV (k':Int)))(hw:wfT d bs e/\j<=k'/\k'+1<=j+4*2^d)(ho:o.op=.build 122 #[(0,x),(1,y)]:=by rfl)(hi:L.getD i (λ_ _=>True)=IsBt B d bs j:=by kernel_rfl)(hb:boxes.contains i=false:=by kernel_rfl):Ok prog ops Q ds a0 w0 L boxes i o:=
 bdG2 ho hi hb λv a w hE hd hf=>by
  obtain⟨us,e1,hl,h3,h4⟩:=(hx.out v a w hE hd hf).us;have e2:a.eval y=.int .i64 (k':Int):=hy.out v a w hE hd hf;exact⟨_,by simp only[List.map_toArray,List.map_cons,List.map_nil];rw[e1,e2];exact bd_Bt hl,e,us,k',rfl,hw.2.1,hw.2.2,hw.1,h4⟩
end
def BldC(d:Nat):Prop:=∀(bs:List ByteArray) (w:World) (lb bv:Value) (i:Nat),(∀x∈bs,x.size<=9)->bs.length+d<=4->i+8*2^d<=1152921504606846976->IsBy lb w->IsRs bs bv w->Calls prog 45 #[lb,.int .i64 (i:Int),bv,.int .i64 ((d:Int)+1)] w (Ret w (IsBt w.heap.size d bs i))
def opsI:List Value:= [.int .i64 4,.int .i64 5,.int .i64 6,.int .i64 7,.int .i64 8,.int .i64 12,.int .i64 13]
def nmC:List Value:= [.string ⟨#[97]⟩,.string ⟨#[98]⟩,.string ⟨#[99,50]⟩,.string ⟨#[108,111,110,103,95,110,97,109,101]⟩]
def nmV:List Value:= [.string ⟨#[120]⟩,.string ⟨#[121]⟩,.string ⟨#[110,95,49]⟩]
def nmE:List Value:= [.string ⟨#[99,58,45,50,51]⟩,.string ⟨#[99,58,45,52]⟩,.string ⟨#[104,58,55]⟩,.string ⟨#[104,58,56]⟩,.string ⟨#[101,58,55,58,49,58,50]⟩,.string ⟨#[120]⟩]
theorem opsI_at{k:Nat}(h:k<7):∃op,opsI[k]? =some (.int .i64 op)/\(op=4\/op=5\/op=6\/op=7\/op=8\/op=12\/op=13):=by
 match k,h with
 |0,_=>exact⟨_,rfl,by decide⟩
 |1,_=>exact⟨_,rfl,by decide⟩
 |2,_=>exact⟨_,rfl,by decide⟩
 |3,_=>exact⟨_,rfl,by decide⟩
 |4,_=>exact⟨_,rfl,by decide⟩
 |5,_=>exact⟨_,rfl,by decide⟩
 |6,_=>exact⟨_,rfl,by decide⟩
theorem nmC_at{k:Nat}(h:k<4):∃s,nmC[k]? =some (.string s):=by
 match k,h with
 |0,_=>exact⟨_,rfl⟩
 |1,_=>exact⟨_,rfl⟩
 |2,_=>exact⟨_,rfl⟩
 |3,_=>exact⟨_,rfl⟩
theorem nmV_at{k:Nat}(h:k<3):∃s,nmV[k]? =some (.string s)/\s.size<=9:=by
 match k,h with
 |0,_=>exact⟨_,rfl,by decide⟩
 |1,_=>exact⟨_,rfl,by decide⟩
 |2,_=>exact⟨_,rfl,by decide⟩
theorem nmE_at{k:Nat}(h:k<6):∃s,nmE[k]? =some (.string s)/\s.size<=16/\hdOk s:=by
 match k,h with
 |0,_=>exact⟨_,rfl,by decide,_,_,rfl,by decide,by decide⟩
 |1,_=>exact⟨_,rfl,by decide,_,_,rfl,by decide,by decide⟩
 |2,_=>exact⟨_,rfl,by decide,_,_,rfl,by decide,by decide⟩
 |3,_=>exact⟨_,rfl,by decide,_,_,rfl,by decide,by decide⟩
 |4,_=>exact⟨_,rfl,by decide,_,_,rfl,by decide,by decide⟩
 |5,_=>exact⟨_,rfl,by decide,_,_,rfl,by decide,by decide⟩
section
variable {ops:Array Oper} {Q:Exit->Act->World->Prop} {ds:List (Option Tmp)} {a0:Act} {w0:World} {L:List (Value->World->Prop)} {boxes:List Nat} {i k:Nat} {o:Oper} {os:List Oper}
theorem cat_run(a b:ByteArray)(h:a.size+b.size<=1000000)(x y:Operand)(w:World):Sem.run prog (do eqGuard .add 9 x y (.string a) (.string b);binOp .add 9 (.string a) (.string b)) w=.ok (.string (a++b)) w:=by
 have h1:¬9223372036854775807<a.size+b.size:=by omega
 have h2:a.size+b.size<=9223372036854775807:=by omega
 go_simp
theorem mvF{x:Operand}{u:Value}{fP:Value->World->Prop}(hx:Od ops ds a0 w0 L i x (IsV u))(h:∀w',Ext w0 w'->fP u w')(hd:Op.move x=o.op\/Op.assign x=o.op:=by first|exact .inl rfl|exact .inr rfl)(hi:L.getD i (λ_ _=>True)=fP:=by kernel_rfl)(hb:boxes.contains i=false:=by kernel_rfl):Ok prog ops Q ds a0 w0 L boxes i o:=
 mv ⟨λv a w hE hd hf=>by rw[hi,show a.eval x=u from hx.out v a w hE hd hf];exact h w hE⟩ (hd.imp Eq.symm Eq.symm) hb
end
theorem RwgS.zero(w:World){base:Nat}(hb:base<=w.heap.size):Rwg 9 1 base (w.alloc (.cells #[] 9)) (.slice (some ⟨w.heap.size,0,none⟩) 0 0) 0 []:=by
 refine⟨by simp,.inr ⟨w.heap.size,0,#[],rfl,hb,jW _ _,?_,?_,?_,?_⟩⟩
 all_goals simp
theorem IsRs.of{base:Nat}{bs:List ByteArray}{v:Value}{w:World}(h:Rwg 9 1 base w v bs.length (bs.map Value.string))(hn:bs≠ []):IsRs bs v w:=by
 obtain⟨ao,cp,h1,h2,h3,h4,h5⟩:=h.shape;obtain⟨g,rfl,k1,k2,k3⟩:=h5 (by simpa using hn);exact⟨g,cp,h1,k2,λj x hj=>k3 j _ (by simp[hj])⟩
theorem tTre_1{P:Prop}(h:P:=by
  simp only[lxE,Nat.reduceAdd];rw[hv];clear hZ hv;replace E:=E.trans e1;replace B8:=B8.ext e1;obtain⟨us0,hu0,hl,hone,hnw,hnd⟩:=id hne;obtain rfl:us=us0:=zbc
  have h8:=B8.lt;refine stL (λK hK=>?_);refine qZ (us:=us++ [Value.int .i64 (kk:Int)]) B8 st_Bt rfl (by simp[hl]) nwBt (λW7 B9 O=>hK _ _ ?_) (ho1:=by rw[List.all_append,hone];rfl);have E9:=O.ext E (jP _);have hne9:NeL w.heap.size ee (.agg us.toArray) W7:=jm;clear hK K O B8;refine jL ?_;go_wp2_with fail;exact jK (resC results45 rfl (lv_Bt (by simp[hl]) B9)) rfl ⟨_,rfl,E9,ee,us,kk,rfl,hk1,hk2,hwt,hne9⟩
  ):P:=h
theorem build_s(d:Nat)(hd4:d<=4)(IH:Hid (∀d',d=d'+1->BldC d')):BldC d:=by
 intro bs w lb bv i hbs hbl hi hL hB;obtain⟨gb,cb,rfl,hgb,hbc⟩:=id hB;have HB:=hid hB;have HL:=hid hL;have HBC:=hid hbc;have HNS:=hid (jO hbs (jO hbl hi));have hpow:1<=2^d:=Nat.one_le_two_pow;have hi2:i<=1152921504606846976-8:=by omega
 have HI:=hid hi2;have HW1:=hid (show IntKind.i64.wrap ((i:Int)+1)=((i+1:Nat):Int)by simp only[IntKind.wrap_i64];omega);have HW2:=hid (show IntKind.i64.wrap ((i:Int)+2)=((i+2:Nat):Int)by simp only[IntKind.wrap_i64];omega);have HP:=hid hpow;obtain⟨nb,hnb⟩:∃nb,bs.length=nb:=⟨_,rfl⟩;rw[hnb];have HNB:=hid hnb;clear hB hL hbc hbs hbl hi hi2 hpow hnb;obtain⟨D,hDD⟩:∃D:Int,(d:Int)+1=D:=⟨_,rfl⟩;rw[hDD];have HD:=hid hDD;clear hDD;obtain⟨W,hW,E,B8⟩:∃W,W=w.alloc (.cells #[.int .i64 0,.string ⟨#[]⟩,.int .i64 0,.bool false,.slice none 0 0,.int .i64 0,.int .i64 0,.slice none 0 0,.int .i64 0] 122)/\Ext w W/\Bk W w.heap.size zBt:=zi;go_enter func45,ntmps45;go_upto_region 1 with fail;rw[<-hW];clear hW;refine rgs 10 [some 18,some 19,some 20,some 21,some 22,some 23,some 24,some 25,some 9,some 10] [IsV lb,iV ((i:Int)),IsN 256,IsN 16,IsV lb,iV ((i:Int)),iV (((i+1:Nat):Int)),IsN 256,IsN 16,IsN 256] [] ?_ ?_
 ·refine Rc zv ?_;refine Rc xb ?_;refine Rc (cl2 (en func64) (qA (fP:=IsV lb) 0 18) (qA (fP:=iV (i:Int)) 1 19) (λx0 x1 w' hE d0 d1=>by{obtain rfl:x0=_:=d0;obtain rfl:x1=_:=d1;exact at_f ((HL.out.ext E).ext hE) (by have:=HI.out;omega)})) ?_;refine Rc (bnN (b:=16) (qA (fP:=IsN 256) 2 20) dcx dcx) ?_;refine Rc zv ?_;refine Rc xb ?_;refine Rc (bn (r:=.int .i64 ((i+1:Nat):Int)) (qC 5 23) qE (hr:=λw=>by have hx9:=HW1.out;go_simp)) ?_;refine Rc (cl2 (en func64) (qA (fP:=IsV lb) 4 22) (qA (fP:=iV ((i+1:Nat):Int)) 6 24) (λx0 x1 w' hE d0 d1=>by{obtain rfl:x0=_:=d0;obtain rfl:x1=_:=d1;exact at_f ((HL.out.ext E).ext hE) (by have:=HI.out;omega)})) ?_;refine Rc (mv (qA (fP:=IsN 16) 3 21)) ?_;refine Rc (mv (qA (fP:=IsN 256) 7 25)) ?_;exact rn0
 intro v X1 e1 hZ _;obtain⟨k,hk,hv8⟩:=hZ 8 dcx;obtain⟨x,hx,hv9⟩:=hZ 9 dcx;simp only[lxE,Nat.reduceAdd];rw[hv8,hv9];clear hZ hv8 hv9;replace E:=E.trans e1;replace B8:=B8.ext e1;clear e1;refine jL ?_;go_upto_region 2 with fail;refine rgs 2 [some 26,some 11] [IsRw 0 nmC,IsRw 0 nmC] [] ?_ ?_
 ·refine Rc (bsC (xs:=nmC) (hr:=λa w=>⟨9,by unfold nmC;go_simp⟩)) ?_;refine Rc (mv (qA (fP:=IsRw 0 nmC) 0 26)) ?_;exact rn0
 intro v X2 e1 hZ _;obtain⟨an,cn,hv1,hnm⟩:=hZ 1 dcx;simp only[lxE,Nat.reduceAdd];rw[hv1];clear hZ hv1;replace E:=E.trans e1;replace B8:=B8.ext e1;clear e1;refine jL ?_;have HNM:=hid (show IsRw 0 nmC (.slice an 4 cn) X2 from⟨an,cn,rfl,hnm⟩);have E2:=Ext.refl X2;have HX:=hid hx;have HK:=hid hk;clear hnm hx hk;have h8:=B8.lt;obtain⟨c1,hc1⟩:∃c,decide ((1:Int)<D)=c:=⟨_,rfl⟩;have HC1:=hid hc1;clear hc1;obtain⟨c7,hcc7⟩:∃c,decide ((k:Int)<7)=c:=⟨_,rfl⟩;obtain⟨ra,hrra⟩:∃r,(c1&&c7)=r:=⟨_,rfl⟩;have HCc7:=hid hcc7;have HRra:=hid hrra;clear hcc7 hrra;go_upto_region 3 with fail;refine rgs 6 (dR 27 6) [iV (D),IsV (.bool c1),IsV (.bool c1),IsIf c1 (iV (k:Int)),IsIf c1 (IsV (.bool c7)),IsV (.bool ra)] [] ?_ ?_
 ·refine Rc (mv (qB 3)) ?_;refine Rc (bn (r:=.bool c1) (qC 0 27) qE (hr:=λw=>by have hx9:=HC1.out;go_simp)) ?_;refine Rc (mv (qA (fP:=IsV (.bool c1)) 1 28)) ?_;refine RcB 2 29 c1 true (λhb=>by subst hb;exact mv (qB (x:=.int .i64 (k:Int)) 9)) ?_;refine RcB 2 29 c1 true (λhb=>by subst hb;exact bn (r:=.bool c7) (qA (fP:=iV (k:Int)) 3 30) qE (hr:=λw=>by have hx9:=HCc7.out;go_simp)) ?_;refine Rc (pkA (qA (fP:=IsV (.bool c1)) 2 29) (λhb=>by subst hb;exact(qA (fP:=IsV (.bool c7)) 4 31)) HRra.out) ?_;exact rn0
 intro v Y3 e1 hZ _;simp only[lxE,Nat.reduceAdd];rw[show v 0=.int .i64 D from hZ 0 dcx,show v 1=.bool c1 from hZ 1 dcx,show v 2=.bool c1 from hZ 2 dcx,show v 5=.bool ra from hZ 5 dcx];clear hZ;generalize v 3=q3a;generalize v 4=q3b;replace E:=E.trans e1;replace E2:=E2.trans e1;replace B8:=B8.ext e1;clear e1;refine jL ?_;cases ra with
 | true=>
  obtain⟨d',rfl⟩:∃d',d=d'+1:=⟨d-1,by have h:=HRra.out;simp only[Bool.and_eq_true]at h;have h1:=HC1.out;rw[h.1]at h1;simp only[jY]at h1;have:=HD.out;omega⟩;have IH:=hid (IH.out d' rfl);obtain⟨op,hop,hopc⟩:=opsI_at (k:=k) (by have h:=HRra.out;simp only[Bool.and_eq_true]at h;have h1:=HCc7.out;rw[h.2]at h1;simp only[jY]at h1;omega);have HOP:=hid hop;have HOC:=hid hopc;clear hop hopc;have HWD:=hid (show IntKind.i64.wrap (D-1)=(d':Int)+1 by have:=HD.out;simp only[IntKind.wrap_i64];omega);go_upto_region 4 with fail;refine rgs 5 [some 33,some 34,some 35,some 36,some 12] [IsRw 0 opsI,iV ((k:Int)),IsPc (.int .i64 op),iV (op),iV (op)] [] ?_ ?_
  ·refine Rc (bsC (xs:=opsI) (hr:=λa w=>⟨3,by unfold opsI;go_simp⟩)) ?_;refine Rc (mv (qB (x:=.int .i64 (k)) 9)) ?_;refine Rc (ixRw (λg c n j h w=>ix_I g c n j h w) (qA (fP:=IsRw 0 opsI) 0 33) (qA (fP:=iV (k:Int)) 1 34) HOP.out) ?_;refine Rc (ldPc xE (qA (fP:=IsPc (.int .i64 op)) 2 35)) ?_;refine Rc (mv (qA (fP:=iV op) 3 36)) ?_;exact rn0
  intro v X3 e1 hZ _;simp only[lxE,Nat.reduceAdd];rw[show v 4=.int .i64 op from hZ 4 dcx];clear hZ;replace E:=E.trans e1;replace B8:=B8.ext e1;clear e1;refine jL ?_;go_upto_region 5 with fail;refine rgs 7 (dR 37 7) [IsV lb,iV ((i:Int)),iV (((i+1:Nat):Int)),IsV (.slice (some ⟨gb,0,none⟩) nb cb),iV (D),iV ((d':Int)+1),IsBt (w.heap.size+1) d' bs (i+1)] [] ?_ ?_
  ·refine Rc zv ?_;refine Rc xb ?_;refine Rc (bn (r:=.int .i64 ((i+1:Nat):Int)) (qC 1 38) qE (hr:=λw=>by have hx9:=HW1.out;go_simp)) ?_;refine Rc jf ?_;refine Rc (mv (qB 3)) ?_;refine Rc (bn (r:=.int .i64 ((d':Int)+1)) (qC 4 41) qE (hr:=λw=>by have hx9:=HWD.out;go_simp)) ?_
   refine Rc (cl (fQ:=IsBt (w.heap.size+1) d' bs (i+1)) (en func45) rfl rfl za za λv a w2 hE hd hf=>by
    have e0:a.eval (.tmp 37)=lb:=(qA 0 37:Od _ _ _ _ _ _ _ (IsV (lb))).out v a w2 hE hd hf;have e1:a.eval (.tmp 39)=.int .i64 ((i+1:Nat):Int):=(qA 2 39:Od _ _ _ _ _ _ _ (iV ((i+1:Nat):Int))).out v a w2 hE hd hf;have e2:a.eval (.tmp 40)=.slice (some ⟨gb,0,none⟩) nb cb:=(qA 3 40:Od _ _ _ _ _ _ _ (IsV (.slice (some ⟨gb,0,none⟩) nb cb))).out v a w2 hE hd hf;have e3:a.eval (.tmp 42)=.int .i64 ((d':Int)+1):=(qA 5 42:Od _ _ _ _ _ _ _ (iV ((d':Int)+1))).out v a w2 hE hd hf;simp only[List.map_toArray,List.map_cons,List.map_nil];rw[e0,e1,e2,e3];have hsz:=B8.lt;have hsz2:=hE.size
    exact jJ (IH.out bs w2 lb _ (i+1) HNS.out.1 (by have:=HNS.out.2.1;omega) (by have:=HNS.out.2.2;have:=HP.out;rw[Nat.pow_succ]at *;omega) ((HL.out.ext E).ext hE) ⟨gb,cb,by rw[HNB.out],Nat.lt_of_lt_of_le (Nat.lt_of_lt_of_le hgb E.size) hE.size,λj x hj=>hE.cell (E.cell (HBC.out j x hj))⟩) (λe w3 hq=>by{obtain⟨u,q1,q2,q3⟩:=hq;exact⟨u,q1,q2,q3.dn (by omega)⟩})) ?_
   exact rn0
  intro v X4 e1 hZ _;obtain⟨ea,ua,ka,hva,ha1,ha2,haw,hna⟩:=hZ 6 dcx;simp only[lxE,Nat.reduceAdd];rw[hva];clear hZ hva;replace E:=E.trans e1;replace B8:=B8.ext e1;have HAa:=hid (jO ha1 (jO ha2 haw));clear ha1 ha2 haw;obtain⟨us0,hu0,hla,hone,hnw,_⟩:=id hna;obtain rfl:ua=us0:=zbc
  refine stL (λK hK=>?_);refine xF (vs:=zBt) al_Bt (λBn e3=>hK _ _ ?_);obtain⟨g13,hg13⟩:∃g,X4.heap.size=g:=⟨_,rfl⟩;rw[hg13]at Bn ⊢;generalize X4.alloc (.cells zBt.toArray 122)=Y13 at Bn e3 ⊢;clear hK K
  go_simp
  refine stL (λK hK=>?_);refine qZ (us:=ua++ [Value.int .i64 (ka:Int)]) Bn st_Bt rfl (by simp[hla]) nwBt (λZ13 B13 O=>hK _ _ ?_) (ho1:=by rw[List.all_append,hone];rfl);have e4:=O.ext e3 (Nat.le_of_eq hg13);replace E:=E.trans e4;replace B8:=B8.ext e4;replace hna:=NeL.stb _ _ _ _ _ e4 hna;clear hK K O e3 e4 Bn hone hnw hg13;refine jL ?_;go_upto_region 6 with fail;refine rgs 7 (dR 44 7) [IsV lb,IsP g13 8,iV ((ka:Int)),IsV (.slice (some ⟨gb,0,none⟩) nb cb),iV (D),iV ((d':Int)+1),IsBt (w.heap.size+1) d' bs ka] [] ?_ ?_
  ·refine Rc zv ?_;refine Rc (fa (fa_Bt1 g13) (qB 13)) ?_;refine Rc (lv (fP:=iV (ka:Int)) _ (λw' e=>xE w' _ _ (e.cell (ld_BtK hla B13))) (qA 1 45) (λ_ _=>rfl)) ?_;refine Rc jf ?_;refine Rc (mv (qB 3)) ?_;refine Rc (bn (r:=.int .i64 ((d':Int)+1)) (qC 4 48) qE (hr:=λw=>by have hx9:=HWD.out;go_simp)) ?_
   refine Rc (cl (fQ:=IsBt (w.heap.size+1) d' bs ka) (en func45) rfl rfl za za λv a w2 hE hd hf=>by
    have e0:a.eval (.tmp 44)=lb:=(qA 0 44:Od _ _ _ _ _ _ _ (IsV (lb))).out v a w2 hE hd hf;have e1:a.eval (.tmp 46)=.int .i64 (ka:Int):=(qA 2 46:Od _ _ _ _ _ _ _ (iV (ka:Int))).out v a w2 hE hd hf;have e2:a.eval (.tmp 47)=.slice (some ⟨gb,0,none⟩) nb cb:=(qA 3 47:Od _ _ _ _ _ _ _ (IsV (.slice (some ⟨gb,0,none⟩) nb cb))).out v a w2 hE hd hf;have e3:a.eval (.tmp 49)=.int .i64 ((d':Int)+1):=(qA 5 49:Od _ _ _ _ _ _ _ (iV ((d':Int)+1))).out v a w2 hE hd hf;simp only[List.map_toArray,List.map_cons,List.map_nil];rw[e0,e1,e2,e3];have hsz:=B8.lt;have hsz2:=hE.size
    exact jJ (IH.out bs w2 lb _ ka HNS.out.1 (by have:=HNS.out.2.1;omega) (by have:=HNS.out.2.2;have:=HP.out;have:=HAa.out.2.1;rw[Nat.pow_succ]at *;omega) ((HL.out.ext E).ext hE) ⟨gb,cb,by rw[HNB.out],Nat.lt_of_lt_of_le (Nat.lt_of_lt_of_le hgb E.size) hE.size,λj x hj=>hE.cell (E.cell (HBC.out j x hj))⟩) (λe w3 hq=>by{obtain⟨u,q1,q2,q3⟩:=hq;exact⟨u,q1,q2,q3.dn (by omega)⟩})) ?_
   exact rn0
  intro v X6 e1 hZ _;obtain⟨eb,ub,kb,hva,ha1,ha2,haw,hnb⟩:=hZ 6 dcx;simp only[lxE,Nat.reduceAdd];rw[hva];clear hZ hva;replace E:=E.trans e1;replace B8:=B8.ext e1;replace B13:=B13.ext e1;replace hna:=NeL.stb _ _ _ _ _ e1 hna;have HAb:=hid (jO ha1 (jO ha2 haw));clear ha1 ha2 haw;obtain⟨us0,hu0,hlb,hone,hnw,_⟩:=id hnb;obtain rfl:ub=us0:=zbc
  refine stL (λK hK=>?_);refine xF (vs:=zBt) al_Bt (λBn e3=>hK _ _ ?_);obtain⟨g14,hg14⟩:∃g,X6.heap.size=g:=⟨_,rfl⟩;rw[hg14]at Bn ⊢;generalize X6.alloc (.cells zBt.toArray 122)=Y14 at Bn e3 ⊢;clear hK K
  go_simp
  refine stL (λK hK=>?_);refine qZ (us:=ub++ [Value.int .i64 (kb:Int)]) Bn st_Bt rfl (by simp[hlb]) nwBt (λZ14 B14 O=>hK _ _ ?_) (ho1:=by rw[List.all_append,hone];rfl);have e4:=O.ext e3 (Nat.le_of_eq hg14);replace E:=E.trans e4;replace B8:=B8.ext e4;replace B13:=B13.ext e4;replace hna:=NeL.stb _ _ _ _ _ e4 hna;replace hnb:=NeL.stb _ _ _ _ _ e4 hnb;clear hK K O e3 e4 Bn hone hnw hg14;refine jL ?_;go_upto_region 7 with fail;refine rgs 10 (dR 51 10) [iV (op),IsP g13 0,NhL (w.heap.size+1) Z14.heap.size ea,IsP g14 0,NhL (w.heap.size+1) Z14.heap.size eb,NsL (w.heap.size+1) Z14.heap.size [ea,eb],NeL (w.heap.size+1) (.bin op ea eb),IsP g14 8,iV ((kb:Int)),IsBt (w.heap.size+1) (d'+1) bs i] [] ?_ ?_
  ·refine Rc (mv (qB 12)) ?_;refine Rc (fa (fa_Bt0 g13) (qB 13)) ?_;refine Rc (lv _ (λw' e=>ld_NdO hla (B13.ext e)) (qA 1 52) (λw' e=>NhL.stb _ _ _ _ _ _ e hna)) ?_;refine Rc (fa (fa_Bt0 g14) (qB 14)) ?_;refine Rc (lv _ (λw' e=>ld_NdO hlb (B14.ext e)) (qA 3 54) (λw' e=>NhL.stb _ _ _ _ _ _ e hnb)) ?_;refine Rc (bs2L (qA (fP:=NhL (w.heap.size+1) Z14.heap.size ea) 2 53) (qA (fP:=NhL (w.heap.size+1) Z14.heap.size eb) 4 55) B8.lt) ?_;refine Rc (bdBin (qA (fP:=iV op) 0 51) (qA (fP:=NsL (w.heap.size+1) Z14.heap.size [ea,eb]) 5 56) (jP _)) ?_;refine Rc (fa (fa_Bt1 g14) (qB 14)) ?_;refine Rc (lv (fP:=iV (kb:Int)) _ (λw' e=>xE w' _ _ (e.cell (ld_BtK hlb B14))) (qA 7 58) (λ_ _=>rfl)) ?_;refine Rc (bdBt (d:=d'+1) (j:=i) (k':=kb) (bs:=bs) (e:=.bin op ea eb) (qA (fP:=NeL (w.heap.size+1) (.bin op ea eb)) 6 57) (qA (fP:=iV (kb:Int)) 8 59) (by{obtain⟨q1,q2,q3⟩:=HAa.out;obtain⟨r1,r2,r3⟩:=HAb.out;refine⟨?_,by omega,by have:=HP.out;rw[Nat.pow_succ]at *;omega⟩;simp only[wfT];exact⟨HOC.out,q3,r3⟩})) ?_;exact rn0
  intro v X8 e1 hZ _;clear B13 B14 hna hnb;obtain⟨ee,us,kk,hv,hk1,hk2,hwt,hne⟩:=hZ 9 dcx;exact tTre_1
 | false=>
  obtain⟨c10,hcc10⟩:∃c,decide ((k:Int)<10)=c:=⟨_,rfl⟩;obtain⟨rb,hrrb⟩:∃r,(c1&&c10)=r:=⟨_,rfl⟩;have HCc10:=hid hcc10;have HRrb:=hid hrrb;clear hcc10 hrrb;go_upto_region 8 with fail;refine rgs 6 (dR 61 6) [iV (D),IsV (.bool c1),IsV (.bool c1),IsIf c1 (iV (k:Int)),IsIf c1 (IsV (.bool c10)),IsV (.bool rb)] [] ?_ ?_
  ·refine Rc (mv (qB 3)) ?_;refine Rc (bn (r:=.bool c1) (qC 0 61) qE (hr:=λw=>by have hx9:=HC1.out;go_simp)) ?_;refine Rc (mv (qA (fP:=IsV (.bool c1)) 1 62)) ?_;refine RcB 2 63 c1 true (λhb=>by subst hb;exact mv (qB (x:=.int .i64 (k:Int)) 9)) ?_;refine RcB 2 63 c1 true (λhb=>by subst hb;exact bn (r:=.bool c10) (qA (fP:=iV (k:Int)) 3 64) qE (hr:=λw=>by have hx9:=HCc10.out;go_simp)) ?_;refine Rc (pkA (qA (fP:=IsV (.bool c1)) 2 63) (λhb=>by subst hb;exact(qA (fP:=IsV (.bool c10)) 4 65)) HRrb.out) ?_;exact rn0
  intro v Y8 e1 hZ _;simp only[lxE,Nat.reduceAdd];rw[show v 0=.int .i64 D from hZ 0 dcx,show v 1=.bool c1 from hZ 1 dcx,show v 2=.bool c1 from hZ 2 dcx,show v 5=.bool rb from hZ 5 dcx];clear hZ;generalize v 3=q8a;generalize v 4=q8b;replace E:=E.trans e1;replace E2:=E2.trans e1;replace B8:=B8.ext e1;clear e1;refine jL ?_;cases rb with
  | true=>
   obtain⟨d',rfl⟩:∃d',d=d'+1:=⟨d-1,by have h:=HRrb.out;simp only[Bool.and_eq_true]at h;have h1:=HC1.out;rw[h.1]at h1;simp only[jY]at h1;have:=HD.out;omega⟩;have IH:=hid (IH.out d' rfl);obtain⟨s,hs,hs9⟩:=nmV_at (jV x (show 0<3 by decide));have HS:=hid (jO hs hs9);clear hs hs9;have HWD:=hid (show IntKind.i64.wrap (D-1)=(d':Int)+1 by have:=HD.out;simp only[IntKind.wrap_i64];omega);have HXS:=hid (show IntKind.i64.wrap ((x:Int)-100)=(x:Int)-100 by have:=HX.out;simp only[IntKind.wrap_i64];omega);go_upto_region 9 with fail;refine rgs 9 [some 67,some 68,some 69,some 70,some 71,some 72,some 73,some 15,some 16] [IsRw 0 nmV,iV ((x:Int)),iV (((x%3:Nat):Int)),IsPc (.string s),IsV (.string s),iV ((x:Int)),iV ((x:Int)-100),IsV (.string s),iV ((x:Int)-100)] [] ?_ ?_
   ·refine Rc (bsC (xs:=nmV) (hr:=λa w=>⟨9,by unfold nmV;go_simp⟩)) ?_;refine Rc jc ?_;refine Rc (bnR (a:=x) (b:=3) (qA (fP:=iV (x:Int)) 1 68) qE dcx yn) ?_;refine Rc (ixRw (λg c n j h w=>ix_S g c n j h w) (qA (fP:=IsRw 0 nmV) 0 67) (qA (fP:=iV ((x%3:Nat):Int)) 2 69) HS.out.1) ?_;refine Rc (ldPc ld_str (qA (fP:=IsPc (.string s)) 3 70)) ?_;refine Rc jc ?_;refine Rc (bn (r:=.int .i64 ((x:Int)-100)) (qC 5 72) qE (hr:=λw=>by have hx9:=HXS.out;go_simp)) ?_;refine Rc (mv (qA (fP:=IsV (.string s)) 4 71)) ?_;refine Rc (mv (qA (fP:=iV ((x:Int)-100)) 6 73)) ?_;exact rn0
   intro v X3 e1 hZ _;simp only[lxE,Nat.reduceAdd];rw[show v 7=.string s from hZ 7 dcx,show v 8=.int .i64 ((x:Int)-100)from hZ 8 dcx];clear hZ;replace E:=E.trans e1;replace B8:=B8.ext e1;clear e1;refine jL ?_
   have hcb:∀j u,(bs.map Value.string)[j]? =some u->(X3.alloc (.cells #[] 9)).cell? ⟨gb,j,none⟩=some u:=λj u hj=>by
    rw[List.getElem?_map]at hj;obtain⟨y,hy,rfl⟩:=Option.map_eq_some_iff.1 hj;exact((Ext.refl X3).alloc _).cell (E.cell (HBC.out j y hy))
   have HNB4:=hid (show nb+d'+1<=4 by have:=HNS.out.2.1;have:=HNB.out;omega);have hx2:=HW2.out;have hx3:=HWD.out
   go_wp2_with (first
    | (at_builtin;refine wpl_rwg rfl _ _ 51 rfl X3.heap.size 9 (.string ⟨#[]⟩) 1 16 za za rfl dcx _ 0 [] rfl (RwgS.zero X3 (jP _)) gb nb cb (bs.map Value.string) rfl (by simp[HNB.out]) hcb xf (by have:=HNB4.out;omega) (by have:=HNB4.out;omega) (by simp) ?_;intro v4 w4 hr4 hg4 hb4)
    | (at_builtin;go_must (refine wpl_rwg rfl _ _ 51 rfl X3.heap.size 9 (.string ⟨#[]⟩) 1 16 za za rfl dcx _ (0+nb) ([]++bs.map Value.string) rfl (hr4.ext ((Ext.refl _).alloc _)) w4.heap.size 1 1 [.string s] rfl rfl (cells_new _ _ _) xf (by have:=HNB4.out;omega) (by have:=HNB4.out;omega) (by have:=hb4.size;simp at this ⊢;omega) ?_;intro v5 w5 hr5 hg5 hb5))
    | (go_at_call 45;fail))
   have hci:(i:Int)+2=((i+2:Nat):Int):=by omega
   rw[hci];have e5:Ext X3 w5:=Below.trans (Below.trans ((Ext.refl X3).alloc _) hb4) (((jS X3.heap.size w4).alloc (by have:=hb4.size;simp at this;omega) _).trans hb5);have hrs:IsRs (bs++ [s]) v5 w5:=IsRs.of (base:=X3.heap.size) (by simpa [HNB.out]using hr5) (by simp);have h8':=B8.lt;clear hr4 hr5 hg4 hg5 hb4 hb5 hcb hx2 hx3 hci;replace E:=E.trans e5;replace B8:=B8.ext e5;refine jJ (IH.out (bs++ [s]) w5 lb v5 (i+2) (λy hy=>(List.mem_append.1 hy).elim (HNS.out.1 y) (λh=>by rw[List.mem_singleton.1 h];exact HS.out.2)) (by have:=HNB4.out;have:=HNB.out;simp;omega) (by have:=HNS.out.2.2;have:=HP.out;rw[Nat.pow_succ]at *;omega) (HL.out.ext E) hrs) ?_;rintro e X6 ⟨u,rfl,e6,eb,ub,kb,rfl,ha1,ha2,haw,hnb0⟩;have hnb:NeL (w.heap.size+1) eb (.agg ub.toArray) X6:=by obtain⟨us',q1,q2,q3,q4,q5⟩:=hnb0;exact⟨us',q1,q2,q3,q4,q5.up (by have:=B8.lt;omega) (jP _)⟩
   clear hnb0
   rename_i K9 hK9
   refine hK9 _ _ ?_;clear hK9 K9;replace E:=E.trans e6;replace B8:=B8.ext e6;have HAb:=hid (jO ha1 (jO ha2 haw));clear ha1 ha2 haw e5 e6 hrs;obtain⟨us0,hu0,hlb,hone,hnw,_⟩:=id hnb;obtain rfl:ub=us0:=zbc
   refine stL (λK hK=>?_);refine xF (vs:=zBt) al_Bt (λBn e3=>hK _ _ ?_);obtain⟨g17,hg17⟩:∃g,X6.heap.size=g:=⟨_,rfl⟩;rw[hg17]at Bn ⊢;generalize X6.alloc (.cells zBt.toArray 122)=Y17 at Bn e3 ⊢;clear hK K
   go_simp
   refine stL (λK hK=>?_);refine qZ (us:=ub++ [Value.int .i64 (kb:Int)]) Bn st_Bt rfl (by simp[hlb]) nwBt (λZ17 B17 O=>hK _ _ ?_) (ho1:=by rw[List.all_append,hone];rfl);have e4:=O.ext e3 (Nat.le_of_eq hg17);replace E:=E.trans e4;replace B8:=B8.ext e4;replace hnb:=NeL.stb _ _ _ _ _ e4 hnb;clear hK K O e3 e4 Bn hone hnw hg17;refine jL ?_
   have HKK:=hid (show IntKind.i64.wrap (9+((k%2:Nat):Int))=9+((k%2:Nat):Int)/\IntKind.i64.wrap (((x:Int)-100)+((x%7:Nat):Int))=((x:Int)-100)+((x%7:Nat):Int)/\(9+((k%2:Nat):Int)=if decide (k%2=1)then 10 else 9)by
    have h1:=HX.out;have h2:k%2<2:=jV _ dcx;have h3:x%7<7:=jV _ dcx;refine⟨?_,?_,?_⟩
    ·simp only[IntKind.wrap_i64];omega
    ·simp only[IntKind.wrap_i64];omega
    ·by_cases c:k%2=1
     ·simp[c]
     ·have:k%2=0:=by omega
      simp[this])
   go_upto_region 11 with fail;refine rgs 16 (dR 86 16) [iV ((k:Int)),iV (((k%2:Nat):Int)),iV (9+((k%2:Nat):Int)),IsV (.string s),iV ((x:Int)-100),iV ((x:Int)-100),iV ((x:Int)),iV (((x%7:Nat):Int)),iV (((x:Int)-100)+((x%7:Nat):Int)),IsP g17 0,NhL (w.heap.size+1) Z17.heap.size eb,NsL (w.heap.size+1) Z17.heap.size [eb],NeL (w.heap.size+1) (.loop (decide (k%2=1)) s ((x:Int)-100) (((x:Int)-100)+((x%7:Nat):Int)) eb),IsP g17 8,iV ((kb:Int)),IsBt (w.heap.size+1) (d'+1) bs i] [] ?_ ?_
   ·refine Rc (mv (qB (x:=.int .i64 (k)) 9)) ?_;refine Rc (bnR (a:=k) (b:=2) (qA (fP:=iV (k:Int)) 0 86) qE dcx zc) ?_;refine Rc (bn (r:=.int .i64 (9+((k%2:Nat):Int))) qE (qC 1 87) (hr:=λw=>by have hx9:=HKK.out.1;push_cast at hx9;go_simp)) ?_;refine Rc (mv (qB (x:=.string s) 15)) ?_;refine Rc (mv (qB (x:=.int .i64 ((x:Int)-100)) 16)) ?_;refine Rc (mv (qB (x:=.int .i64 ((x:Int)-100)) 16)) ?_;refine Rc jc ?_;refine Rc (bnR (a:=x) (b:=7) (qA (fP:=iV (x:Int)) 6 92) qE dcx yn) ?_;refine Rc (bn (r:=.int .i64 (((x:Int)-100)+((x%7:Nat):Int))) (qC 5 91) (qC 7 93) (hr:=λw=>by have hx9:=HKK.out.2.1;push_cast at hx9;go_simp)) ?_;refine Rc (fa (fa_Bt0 g17) (qB 17)) ?_;refine Rc (lv _ (λw' e=>ld_NdO hlb (B17.ext e)) (qA 9 95) (λw' e=>NhL.stb _ _ _ _ _ _ e hnb)) ?_;refine Rc (bs1L (qA (fP:=NhL (w.heap.size+1) Z17.heap.size eb) 10 96) B8.lt) ?_;refine Rc (bdLoop (fst:=decide (k%2=1)) (qA (fP:=iV (9+((k%2:Nat):Int))) 2 88) (qA (fP:=IsV (.string s)) 3 89) (qA (fP:=iV ((x:Int)-100)) 4 90) (qA (fP:=iV (((x:Int)-100)+((x%7:Nat):Int))) 8 94) (qA (fP:=NsL (w.heap.size+1) Z17.heap.size [eb]) 11 97) HKK.out.2.2 (jP _)) ?_;refine Rc (fa (fa_Bt1 g17) (qB 17)) ?_;refine Rc (lv (fP:=iV (kb:Int)) _ (λw' e=>xE w' _ _ (e.cell (ld_BtK hlb B17))) (qA 13 99) (λ_ _=>rfl)) ?_;refine Rc (bdBt (d:=d'+1) (j:=i) (k':=kb) (bs:=bs) (e:=.loop (decide (k%2=1)) s ((x:Int)-100) (((x:Int)-100)+((x%7:Nat):Int)) eb) (qA (fP:=NeL (w.heap.size+1) (.loop (decide (k%2=1)) s ((x:Int)-100) (((x:Int)-100)+((x%7:Nat):Int)) eb)) 12 98) (qA (fP:=iV (kb:Int)) 14 100) (by{obtain⟨r1,r2,r3⟩:=HAb.out;have h1:=HX.out;have h3:x%7<7:=jV _ dcx;have h9:=HS.out.2;refine⟨?_,by omega,by have:=HP.out;rw[Nat.pow_succ]at *;omega⟩;simp only[wfT];exact⟨by omega,by omega,by omega,by omega,by omega,r3⟩})) ?_;exact rn0
   intro v X8 e1 hZ _;clear B17 hnb;obtain⟨ee,us,kk,hv,hk1,hk2,hwt,hne⟩:=hZ 15 dcx;exact tTre_1
  | false=>
   by_cases hk12:(k:Int)<12
   ·have HXX:=hid (show IntKind.i64.wrap ((x:Int)*x)=(x:Int)*x/\IntKind.i64.wrap ((x:Int)*x-900)=(x:Int)*x-900/\(-900<=(x:Int)*x-900/\(x:Int)*x-900<=64125)by
     have h1:=HX.out;have h2:(x:Int)*x<=255*255:=Int.mul_le_mul (by omega) (by omega) (by omega) (by omega);have h3:0<=(x:Int)*x:=Int.mul_nonneg (by omega) (by omega);refine⟨?_,?_,?_⟩
     ·simp only[IntKind.wrap_i64];omega
     ·simp only[IntKind.wrap_i64];omega
     ·omega)
    go_upto_region 13 with fail;refine rgs 9 (dR 104 9) [iV ((x:Int)),iV ((x:Int)),iV ((x:Int)*x),iV ((x:Int)*x-900),IsI 2 ((x:Int)*x-900),NeL (w.heap.size+1) (.num ((x:Int)*x-900)),iV ((i:Int)),iV (((i+2:Nat):Int)),IsBt (w.heap.size+1) d bs i] [] ?_ ?_
    ·refine Rc jc ?_;refine Rc jc ?_;refine Rc (bn (r:=.int .i64 ((x:Int)*x)) (qC 0 104) (qC 1 105) (hr:=λw=>by have hx9:=HXX.out.1;go_simp)) ?_;refine Rc (bn (r:=.int .i64 ((x:Int)*x-900)) (qC 2 106) qE (hr:=λw=>by have hx9:=HXX.out.2.1;go_simp)) ?_;refine Rc (cl1 (en func26) (qA (fP:=iV ((x:Int)*x-900)) 3 107) (λx0 w' hE d0=>by{obtain rfl:x0=_:=d0;exact ROf_f w' _ (by have:=HXX.out.2.2;omega) (by have:=HXX.out.2.2;omega)})) ?_;refine Rc (bdNum (B:=w.heap.size+1) (qA (fP:=IsI 2 ((x:Int)*x-900)) 4 108)) ?_;refine Rc xb ?_;refine Rc (bn (r:=.int .i64 ((i+2:Nat):Int)) (qC 6 110) qE (hr:=λw=>by have hx9:=HW2.out;go_simp)) ?_;refine Rc (bdBt (d:=d) (j:=i) (k':=i+2) (bs:=bs) (e:=.num ((x:Int)*x-900)) (qA (fP:=NeL (w.heap.size+1) (.num ((x:Int)*x-900))) 5 109) (qA (fP:=iV ((i+2:Nat):Int)) 7 111) (by{have:=HP.out;refine⟨?_,by omega,by omega⟩;simp only[wfT];exact HXX.out.2.2})) ?_;exact rn0
    intro v X3 e1 hZ _;obtain⟨ee,us,kk,hv,hk1,hk2,hwt,hne⟩:=hZ 8 dcx;exact tTre_1
   ·have hk12':(12:Int)<=(k:Int):=by omega
    clear hk12;obtain⟨cn0,hcn0⟩:∃c,decide (0<nb)=c:=⟨_,rfl⟩;have HCN:=hid hcn0;clear hcn0;obtain⟨c12,hcc12⟩:∃c,((k:Int)==12)=c:=⟨_,rfl⟩;obtain⟨rd,hrrd⟩:∃r,(c12&&cn0)=r:=⟨_,rfl⟩;have HCc12:=hid hcc12;have HRrd:=hid hrrd;clear hcc12 hrrd;go_upto_region 14 with fail;refine rgs 7 (dR 113 7) [iV ((k:Int)),IsV (.bool c12),IsV (.bool c12),IsIf c12 (IsV (.slice (some ⟨gb,0,none⟩) nb cb)),IsIf c12 (iV (nb:Int)),IsIf c12 (IsV (.bool cn0)),IsV (.bool rd)] [] ?_ ?_
    ·refine Rc (mv (qB (x:=.int .i64 (k:Int)) 9)) ?_;refine Rc (bn (r:=.bool c12) (qC 0 113) qE (hr:=λw=>by have hx9:=HCc12.out;go_simp)) ?_;refine Rc (mv (qA (fP:=IsV (.bool c12)) 1 114)) ?_;refine RcB 2 115 c12 true (λhb=>by subst hb;exact mv (qB (x:=.slice (some ⟨gb,0,none⟩) nb cb) 2)) ?_;refine RcB 2 115 c12 true (λhb=>by subst hb;exact lenSt (qA (fP:=IsV (.slice (some ⟨gb,0,none⟩) nb cb)) 3 116)) ?_;refine RcB 2 115 c12 true (λhb=>by subst hb;exact bn (r:=.bool cn0) (qA (fP:=iV (nb:Int)) 4 117) qE (hr:=λw=>by have hx9:=HCN.out;go_simp)) ?_;refine Rc (pkA (qA (fP:=IsV (.bool c12)) 2 115) (λhb=>by subst hb;exact(qA (fP:=IsV (.bool cn0)) 5 118)) HRrd.out) ?_;exact rn0
    intro v Y14 e1 hZ _;simp only[lxE,Nat.reduceAdd];rw[show v 0=.int .i64 (k:Int)from hZ 0 dcx,show v 1=.bool c12 from hZ 1 dcx,show v 2=.bool c12 from hZ 2 dcx,show v 6=.bool rd from hZ 6 dcx];clear hZ;generalize v 3=q14a;generalize v 4=q14b;generalize v 5=q14c;replace E:=E.trans e1;replace E2:=E2.trans e1;replace B8:=B8.ext e1;clear e1;refine jL ?_;cases rd with
    | true=>
     have HN0:=hid (show 0<nb by have h:=HRrd.out;simp only[Bool.and_eq_true]at h;have h1:=HCN.out;rw[h.2]at h1;simp only[jY]at h1;omega);obtain⟨s,hs⟩:∃s,bs[x%nb]? =some s:=⟨_,List.getElem?_eq_getElem (by rw[HNB.out];exact jV _ HN0.out)⟩;have HS:=hid (jO (HBC.out _ s hs) (List.mem_of_getElem? hs));clear hs;go_upto_region 15 with fail;refine rgs 11 (dR 120 11) [IsV (.slice (some ⟨gb,0,none⟩) nb cb),iV ((x:Int)),IsV (.slice (some ⟨gb,0,none⟩) nb cb),iV ((nb:Int)),iV (((x%nb:Nat):Int)),IsP gb (x%nb),IsV (.string s),NeL (w.heap.size+1) (.var s),iV ((i:Int)),iV (((i+2:Nat):Int)),IsBt (w.heap.size+1) d bs i] [] ?_ ?_
     ·refine Rc jf ?_;refine Rc jc ?_;refine Rc jf ?_;refine Rc (lenSt (qA (fP:=IsV (.slice (some ⟨gb,0,none⟩) nb cb)) 2 122)) ?_;refine Rc (bnR (a:=x) (b:=nb) (qA (fP:=iV (x:Int)) 1 121) (qA (fP:=iV (nb:Int)) 3 123) (by exact HN0.out) yn) ?_;refine Rc (ixq (ix_S gb cb nb (x%nb) (jV _ HN0.out)) (qA 0 120) (qA 4 124)) ?_;refine Rc (lv (fP:=IsV (.string s)) _ (λw' e=>ld_str w' _ _ (e.cell (E.cell HS.out.1))) (qA 5 125) (λ_ _=>rfl)) ?_;refine Rc (bdLeaf2 (B:=w.heap.size+1) (e:=.var s) qE (qA (fP:=IsV (.string s)) 6 126) (.inl ⟨rfl,rfl⟩)) ?_;refine Rc xb ?_;refine Rc (bn (r:=.int .i64 ((i+2:Nat):Int)) (qC 8 128) qE (hr:=λw=>by have hx9:=HW2.out;go_simp)) ?_;refine Rc (bdBt (d:=d) (j:=i) (k':=i+2) (bs:=bs) (e:=.var s) (qA (fP:=NeL (w.heap.size+1) (.var s)) 7 127) (qA (fP:=iV ((i+2:Nat):Int)) 9 129) (by{have:=HP.out;refine⟨?_,by omega,by omega⟩;simp only[wfT];exact HS.out.2})) ?_;exact rn0
     intro v X3 e1 hZ _;obtain⟨ee,us,kk,hv,hk1,hk2,hwt,hne⟩:=hZ 10 dcx;exact tTre_1
    | false=>
     obtain⟨c13,hcc13⟩:∃c,((k:Int)==13)=c:=⟨_,rfl⟩;obtain⟨re,hrre⟩:∃r,(c13&&cn0)=r:=⟨_,rfl⟩;have HCc13:=hid hcc13;have HRre:=hid hrre;clear hcc13 hrre;go_upto_region 16 with fail;refine rgs 7 (dR 131 7) [iV ((k:Int)),IsV (.bool c13),IsV (.bool c13),IsIf c13 (IsV (.slice (some ⟨gb,0,none⟩) nb cb)),IsIf c13 (iV (nb:Int)),IsIf c13 (IsV (.bool cn0)),IsV (.bool re)] [] ?_ ?_
     ·refine Rc (mv (qB (x:=.int .i64 (k:Int)) 9)) ?_;refine Rc (bn (r:=.bool c13) (qC 0 131) qE (hr:=λw=>by have hx9:=HCc13.out;go_simp)) ?_;refine Rc (mv (qA (fP:=IsV (.bool c13)) 1 132)) ?_;refine RcB 2 133 c13 true (λhb=>by subst hb;exact mv (qB (x:=.slice (some ⟨gb,0,none⟩) nb cb) 2)) ?_;refine RcB 2 133 c13 true (λhb=>by subst hb;exact lenSt (qA (fP:=IsV (.slice (some ⟨gb,0,none⟩) nb cb)) 3 134)) ?_;refine RcB 2 133 c13 true (λhb=>by subst hb;exact bn (r:=.bool cn0) (qA (fP:=iV (nb:Int)) 4 135) qE (hr:=λw=>by have hx9:=HCN.out;go_simp)) ?_;refine Rc (pkA (qA (fP:=IsV (.bool c13)) 2 133) (λhb=>by subst hb;exact(qA (fP:=IsV (.bool cn0)) 5 136)) HRre.out) ?_;exact rn0
     intro v Y16 e1 hZ _;simp only[lxE,Nat.reduceAdd];rw[show v 0=.int .i64 (k:Int)from hZ 0 dcx,show v 1=.bool c13 from hZ 1 dcx,show v 2=.bool c13 from hZ 2 dcx,show v 6=.bool re from hZ 6 dcx];clear hZ;generalize v 3=q16a;generalize v 4=q16b;generalize v 5=q16c;replace E:=E.trans e1;replace E2:=E2.trans e1;replace B8:=B8.ext e1;clear e1;refine jL ?_;cases re with
     | true=>
      have HN0:=hid (show 0<nb by have h:=HRre.out;simp only[Bool.and_eq_true]at h;have h1:=HCN.out;rw[h.2]at h1;simp only[jY]at h1;omega);obtain⟨s,hs⟩:∃s,bs[x%nb]? =some s:=⟨_,List.getElem?_eq_getElem (by rw[HNB.out];exact jV _ HN0.out)⟩;have HS:=hid (jO (HBC.out _ s hs) (List.mem_of_getElem? hs));clear hs
      have HSZ:=hid (show(⟨#[104,58,123]⟩:ByteArray).size+s.size=3+s.size/\(⟨#[104,58,123]⟩++s:ByteArray).size+(⟨#[125]⟩:ByteArray).size=4+s.size/\(0<=((x%3:Nat):Int)/\((x%3:Nat):Int)<=2/\(⟨#[104,58,123]⟩++s++⟨#[125]⟩:ByteArray).size<=16/\hdOk (⟨#[104,58,123]⟩++s++⟨#[125]⟩))by
       have h1:=HNS.out.1 s HS.out.2;have h2:x%3<3:=jV _ dcx;have h3:(⟨#[104,58,123]⟩:ByteArray).size=3:=rfl;have h4:(⟨#[125]⟩:ByteArray).size=1:=rfl
       refine⟨by omega,by rw[ByteArray.size_append];omega,by omega,by omega,by rw[ByteArray.size_append,ByteArray.size_append];omega,104,58 ::123 ::(s.data.toList++ [125]),by simp[ByteArray.data_append],by decide,by decide⟩)
      have HSL:=hid (show s.size<=9 from HNS.out.1 s HS.out.2);go_upto_region 17 with fail;refine rgs 15 (dR 138 15) [IsV (.slice (some ⟨gb,0,none⟩) nb cb),iV ((x:Int)),IsV (.slice (some ⟨gb,0,none⟩) nb cb),iV ((nb:Int)),iV (((x%nb:Nat):Int)),IsP gb (x%nb),IsV (.string s),IsV (.string (⟨#[104,58,123]⟩++s)),IsV (.string (⟨#[104,58,123]⟩++s++⟨#[125]⟩)),iV ((x:Int)),iV (((x%3:Nat):Int)),NeL (w.heap.size+1) (.val (⟨#[104,58,123]⟩++s++⟨#[125]⟩) ((x%3:Nat):Int)),iV ((i:Int)),iV (((i+2:Nat):Int)),IsBt (w.heap.size+1) d bs i] [] ?_ ?_
      ·refine Rc jf ?_;refine Rc jc ?_;refine Rc jf ?_;refine Rc (lenSt (qA (fP:=IsV (.slice (some ⟨gb,0,none⟩) nb cb)) 2 140)) ?_;refine Rc (bnR (a:=x) (b:=nb) (qA (fP:=iV (x:Int)) 1 139) (qA (fP:=iV (nb:Int)) 3 141) (by exact HN0.out) yn) ?_;refine Rc (ixq (ix_S gb cb nb (x%nb) (jV _ HN0.out)) (qA 0 138) (qA 4 142)) ?_;refine Rc (lv (fP:=IsV (.string s)) _ (λw' e=>ld_str w' _ _ (e.cell (E.cell HS.out.1))) (qA 5 143) (λ_ _=>rfl)) ?_;refine Rc (bn (r:=.string (⟨#[104,58,123]⟩++s)) qE (qC 6 144) (hr:=cat_run _ s (by have:=HSL.out;have:=HSZ.out.1;omega) _ _)) ?_;refine Rc (bn (r:=.string (⟨#[104,58,123]⟩++s++⟨#[125]⟩)) (qC 7 145) qE (hr:=cat_run _ _ (by have:=HSL.out;have:=HSZ.out.2.1;omega) _ _)) ?_;refine Rc jc ?_;refine Rc (bnR (a:=x) (b:=3) (qA (fP:=iV (x:Int)) 9 147) qE dcx yn) ?_;refine Rc (bdLeaf (B:=w.heap.size+1) (e:=.val (⟨#[104,58,123]⟩++s++⟨#[125]⟩) ((x%3:Nat):Int)) qE (qA (fP:=IsV (.string (⟨#[104,58,123]⟩++s++⟨#[125]⟩))) 8 146) (qA (fP:=iV ((x%3:Nat):Int)) 10 148) ⟨rfl,rfl⟩) ?_;refine Rc xb ?_;refine Rc (bn (r:=.int .i64 ((i+2:Nat):Int)) (qC 12 150) qE (hr:=λw=>by have hx9:=HW2.out;go_simp)) ?_;refine Rc (bdBt (d:=d) (j:=i) (k':=i+2) (bs:=bs) (e:=.val (⟨#[104,58,123]⟩++s++⟨#[125]⟩) ((x%3:Nat):Int)) (qA (fP:=NeL (w.heap.size+1) (.val (⟨#[104,58,123]⟩++s++⟨#[125]⟩) ((x%3:Nat):Int))) 11 149) (qA (fP:=iV ((i+2:Nat):Int)) 13 151) (by{have:=HP.out;refine⟨?_,by omega,by omega⟩;simp only[wfT];exact HSZ.out.2.2})) ?_;exact rn0
      intro v X3 e1 hZ _;obtain⟨ee,us,kk,hv,hk1,hk2,hwt,hne⟩:=hZ 14 dcx;exact tTre_1
     | false=>
      by_cases hk15:(k:Int)<15
      ·obtain⟨s,hs⟩:=nmE_at (jV x (show 0<6 by decide));have HS:=hid hs;clear hs;go_upto_region 19 with fail;refine rgs 11 (dR 155 11) [IsRw 0 nmE,iV ((x:Int)),iV (((x%6:Nat):Int)),IsPc (.string s),IsV (.string s),iV ((x:Int)),iV (((x%3:Nat):Int)),NeL (w.heap.size+1) (.val s ((x%3:Nat):Int)),iV ((i:Int)),iV (((i+2:Nat):Int)),IsBt (w.heap.size+1) d bs i] [] ?_ ?_
       ·refine Rc (bsC (xs:=nmE) (hr:=λa w=>⟨9,by unfold nmE;go_simp⟩)) ?_;refine Rc jc ?_;refine Rc (bnR (a:=x) (b:=6) (qA (fP:=iV (x:Int)) 1 156) qE dcx yn) ?_;refine Rc (ixRw (λg c n j h w=>ix_S g c n j h w) (qA (fP:=IsRw 0 nmE) 0 155) (qA (fP:=iV ((x%6:Nat):Int)) 2 157) HS.out.1) ?_;refine Rc (ldPc ld_str (qA (fP:=IsPc (.string s)) 3 158)) ?_;refine Rc jc ?_;refine Rc (bnR (a:=x) (b:=3) (qA (fP:=iV (x:Int)) 5 160) qE dcx yn) ?_;refine Rc (bdLeaf (B:=w.heap.size+1) (e:=.val s ((x%3:Nat):Int)) qE (qA (fP:=IsV (.string s)) 4 159) (qA (fP:=iV ((x%3:Nat):Int)) 6 161) ⟨rfl,rfl⟩) ?_;refine Rc xb ?_;refine Rc (bn (r:=.int .i64 ((i+2:Nat):Int)) (qC 8 163) qE (hr:=λw=>by have hx9:=HW2.out;go_simp)) ?_;refine Rc (bdBt (d:=d) (j:=i) (k':=i+2) (bs:=bs) (e:=.val s ((x%3:Nat):Int)) (qA (fP:=NeL (w.heap.size+1) (.val s ((x%3:Nat):Int))) 7 162) (qA (fP:=iV ((i+2:Nat):Int)) 9 164) (by{have:=HP.out;refine⟨?_,by omega,by omega⟩;simp only[wfT];have h2:x%3<3:=jV _ dcx;exact⟨by omega,by omega,HS.out.2⟩})) ?_;exact rn0
       intro v X3 e1 hZ _;obtain⟨ee,us,kk,hv,hk1,hk2,hwt,hne⟩:=hZ 10 dcx;simp only[lxE,Nat.reduceAdd];rw[hv];clear hZ hv;replace E:=E.trans e1;replace B8:=B8.ext e1;obtain⟨us0,hu0,hl,hone,hnw,hnd⟩:=id hne;obtain rfl:us=us0:=zbc
       have h8:=B8.lt;refine stL (λK hK=>?_);refine qZ (us:=us++ [Value.int .i64 (kk:Int)]) B8 st_Bt rfl (by simp[hl]) nwBt (λW7 B9 O=>hK _ _ ?_) (ho1:=by rw[List.all_append,hone];rfl);have E9:=O.ext E (jP _);have hne9:NeL w.heap.size ee (.agg us.toArray) W7:=jm;clear hK K O B8;refine jL ?_;go_wp2_with fail;exact jK (resC results45 rfl (lv_Bt (by simp[hl]) B9)) rfl ⟨_,rfl,E9,ee,us,kk,rfl,hk1,hk2,hwt,hne9⟩
      ·have hk15':(15:Int)<=(k:Int):=by omega
       clear hk15;obtain⟨s,hs⟩:=nmC_at (jV x (show 0<4 by decide));have HS:=hid hs;clear hs;go_upto_region 20 with fail;refine rgs 9 (dR 166 9) [IsRw 0 nmC,iV ((x:Int)),iV (((x%4:Nat):Int)),IsPc (.string s),IsV (.string s),NeL (w.heap.size+1) (.cell s),iV ((i:Int)),iV (((i+2:Nat):Int)),IsBt (w.heap.size+1) d bs i] [] ?_ ?_
       ·refine Rc (mvF (qB (x:=.slice an 4 cn) 11) (λw' e=>(HNM.out.ext E2).ext e)) ?_;refine Rc jc ?_;refine Rc (bnR (a:=x) (b:=4) (qA (fP:=iV (x:Int)) 1 167) qE dcx yn) ?_;refine Rc (ixRw (λg c n j h w=>ix_S g c n j h w) (qA (fP:=IsRw 0 nmC) 0 166) (qA (fP:=iV ((x%4:Nat):Int)) 2 168) HS.out) ?_;refine Rc (ldPc ld_str (qA (fP:=IsPc (.string s)) 3 169)) ?_;refine Rc (bdLeaf2 (B:=w.heap.size+1) (e:=.cell s) qE (qA (fP:=IsV (.string s)) 4 170) (.inr ⟨rfl,rfl⟩)) ?_;refine Rc xb ?_;refine Rc (bn (r:=.int .i64 ((i+2:Nat):Int)) (qC 6 172) qE (hr:=λw=>by have hx9:=HW2.out;go_simp)) ?_;refine Rc (bdBt (d:=d) (j:=i) (k':=i+2) (bs:=bs) (e:=.cell s) (qA (fP:=NeL (w.heap.size+1) (.cell s)) 5 171) (qA (fP:=iV ((i+2:Nat):Int)) 7 173) (by{have:=HP.out;refine⟨?_,by omega,by omega⟩;simp only[wfT]})) ?_;exact rn0
       intro v X3 e1 hZ _;obtain⟨ee,us,kk,hv,hk1,hk2,hwt,hne⟩:=hZ 8 dcx;simp only[lxE,Nat.reduceAdd];rw[hv];clear hZ hv;replace E:=E.trans e1;replace B8:=B8.ext e1;obtain⟨us0,hu0,hl,hone,hnw,hnd⟩:=id hne;obtain rfl:us=us0:=zbc
       have h8:=B8.lt;refine stL (λK hK=>?_);refine qZ (us:=us++ [Value.int .i64 (kk:Int)]) B8 st_Bt rfl (by simp[hl]) nwBt (λW7 B9 O=>hK _ _ ?_) (ho1:=by rw[List.all_append,hone];rfl);have E9:=O.ext E (jP _);have hne9:NeL w.heap.size ee (.agg us.toArray) W7:=jm;clear hK K O B8;refine jL ?_;go_wp2_with fail;exact jK (resC results45 rfl (lv_Bt (by simp[hl]) B9)) rfl ⟨_,rfl,E9,ee,us,kk,rfl,hk1,hk2,hwt,hne9⟩
theorem build_f:∀d,d<=4->BldC d
 |0,h=>build_s 0 h (hid λd' e=>by cases e)
 |d+1,h=>build_s (d+1) h (hid λd' e=>by cases e;exact build_f d (by omega))
end
section
open Go Go.RowKit Go.ChangeShapes Go.WideShapes Go.ChangeAt Go.Joins
open Go.Proofs.Tryz
set_option maxRecDepth 100000
section
variable {H:Type} {enc:TypeId×Value->H}
theorem bytes_open{W:World}{t:TypeId}(ht:prog.underlying t=some (.slice 5)){fuel:Nat}{c:Value}{y:DataW H×List MemPlace}(h:DataW.trod enc prog W 0 (λ_=>true) true fuel t [c]=some y):
    IsBy c W/\∀(W':World) (sp:Nat->Bool),Below W.heap.size W W'->(∀q∈y.2,sp q.block=true)->∃m,DataW.trod enc prog W' 0 sp true m t [c]=some y:=by
  have he:prog.underlying 5=some (.int .u8):=za
  have hc:prog.cellsOf 5=1:=za
  rcases open_ints ht he hc h with⟨h1,rfl⟩| ⟨a,len,cap,zs,h1,hb,hl,hm,hlen,rfl,hcell,hwf⟩
  · simp only[List.cons.injEq,and_true]at h1
    subst h1;refine⟨⟨none,0,0,rfl,by decide,λh=>absurd rfl h⟩,λW' sp _ _=>?_⟩;obtain⟨m,hm⟩:=shut_slice_nil (enc:=enc) (w:=W') (base:=0) (spare:=sp) (held:=true) ht;exact⟨m,by simpa [Value.cells]using hm⟩
  · simp only[List.cons.injEq,and_true]at h1
    subst h1;simp only[if_true]at hlen;refine⟨⟨some a,len,cap,rfl,by unfold maxLen at hm;omega,λh0=>?_⟩,λW' sp hbel hsp=>?_⟩
    · have h00:=hcell 0 (by omega)
      have hsn:a.spot=none:=by
        simp only[Addr.add,if_true,World.cell?]at h00
        split at h00
        · split at h00
          ·cases h00
          ·rename_i hs;simpa using hs
        ·cases h00
      obtain⟨b,off,sn⟩:=a;simp only at hsn;subst hsn;refine⟨b,off,rfl,λj hj=>?_⟩;have hj2:j<zs.length:=by omega
      have h4:zs.getD j 0=zs[j]:=by simp[List.getD,hj2]
      have h3:=wf_u8 _ (hwf zs[j] (List.getElem_mem hj2));have:=hcell j hj2;rw[Addr.add_lit,h4]at this;exact⟨zs[j].toNat,by omega,by rw[this,Int.toNat_of_nonneg h3.1]⟩
    · refine⟨0+2,shut_ints 0 ht he hc hb hl hm ?_ (λi hi=>?_) hwf⟩
      · rcases jN zs.length with h0|h0
        ·split <;> omega
        · have:sp a.block=true:=hsp (.cell a.block a.off) (by simp only[MemPlace.row,List.mem_map,List.mem_range];exact⟨0,h0,by simp⟩)
          rw[this];simpa using hlen
      · have h1:=hcell i hi
        rw[Below.cell hbel (by have:=World.block_lt_of_cell? W (a.add i) h1;exact this)];exact h1
def ReadsC(enc:TypeId×Value->H)(W:World)(t:TypeId)(v:Value)(d:DataW H)(p:List MemPlace):Prop:=
  ∀(W':World) (sp:Nat->Bool),Below W.heap.size W W'->(∀q∈p,sp q.block=true)->DataW.Trod enc prog W' 0 sp true t v d p
theorem bytes_arg{W:World}{b0:Nat}{r:Reach}{t:TypeId}{v:Value}{d:DataW H}{p:List MemPlace}(ht:prog.underlying t=some (.slice 5))(hv:Value.okWide prog W r b0 t v)(h:DataW.Trod enc prog W 0 (λ_=>true) true t v d p):IsBy v W/\ReadsC enc W t v d p:=by
  obtain⟨a,n,c,rfl⟩:=okWide_slice ht hv;obtain⟨fuel,hf⟩:=h;obtain⟨h1,h2⟩:=bytes_open ht (c:=.slice a n c) (y:=(d,p)) (by simpa [Value.cells]using hf);exact⟨h1,λW' sp hb hs=>let ⟨m,hm⟩:=h2 W' sp hb hs;⟨m,by simpa [Value.cells]using hm⟩⟩
theorem raw43_arg{W:World}{b0:Nat}{r:Reach}{v:Value}{d:DataW H}{p:List MemPlace}(hv:Value.okWide prog W r b0 24 v)(h:DataW.Trod enc prog W 0 (λ_=>true) true 24 v d p):
    ∃ca cn cc ea en' ec,∃g:Nat,v=.agg #[.slice ca cn cc,.slice ea en' ec,.int .u8 (g:Int)]/\g<=255/\IsBy (.slice ca cn cc) W/\IsBy (.slice ea en' ec) W/\ReadsC enc W 24 v d p:=by
  obtain⟨v0,v1,v2,y0,y1,y2,n,rfl,rfl,rfl,h0,h1,h2⟩:=open_agg3 underlying24 za za hv h;obtain⟨k0,r0⟩:=bytes_open za h0;obtain⟨k1,r1⟩:=bytes_open za h1;have he8:prog.underlying 5=some (.int .u8):=za
  obtain⟨m,hm,rfl,hw⟩:=DataW.trod_int he8 h2;simp only[List.cons.injEq,and_true]at hm;subst hm;obtain⟨g1,g2⟩:=wf_u8 _ hw;obtain⟨g,rfl⟩:=Int.eq_ofNat_of_zero_le g1;obtain⟨ca,cn,cc,rfl,-⟩:=id k0;obtain⟨ea,en',ec,rfl,-⟩:=id k1;refine⟨ca,cn,cc,ea,en',ec,g,rfl,by omega,k0,k1,λW' sp hb hsp=>?_⟩
  exact shut_agg3 underlying24 za za (r0 W' sp hb (λq hq=>hsp q (by simp[hq]))) (r1 W' sp hb (λq hq=>hsp q (by simp[hq])))
    (by
      obtain⟨k,hk⟩:=shut_int (enc:=enc) (P:=prog) (w:=W') (base:=0) (spare:=sp) (held:=true) (t:=5) (k:=.u8) za hw
      exact⟨k,by simpa [Value.cells]using hk⟩)
end
end
section
open Go Go.RowKit Go.Shelf
attribute [local go_sem] Oper.semAt_some
def upto{α:Type}(f:Nat->α)(k:Nat):List α:=(List.range k).map f
theorem upto_succ{α:Type}(f:Nat->α)(k:Nat):upto f (k+1)=upto f k++ [f k]:=by simp[upto,List.range_succ]
theorem upto_length{α:Type}(f:Nat->α)(k:Nat):(upto f k).length=k:=by simp[upto]
def Kpb(n₀ Bs:Nat)(W W':World):Prop:=Below n₀ W W'/\∀v,W.cell? ⟨Bs,0,none⟩=some v->W'.cell? ⟨Bs,0,none⟩=some v
theorem Kpb.refl(n₀ Bs:Nat)(W:World):Kpb n₀ Bs W W:=⟨jS _ _,λ_ h=>h⟩
theorem Kpb.trans{n₀ Bs:Nat}{A B C:World}(h:Kpb n₀ Bs A B)(k:Kpb n₀ Bs B C):Kpb n₀ Bs A C:=⟨h.1.trans k.1,λv e=>k.2 v (h.2 v e)⟩
theorem Kpb.put{n₀ Bs:Nat}{w:World}(hn:n₀<=w.heap.size)(W:World)(l:Nat)(o o':Obj)(hl:w.heap.size<=l)(h:W.heap[l]? =some o)(hc:o.isCells=false)(hw:o.isWalk=false):Kpb n₀ Bs W (W.putObj l o'):=
 ⟨belowK_b hn W l o o' hl h hc hw,λ_ e=>cell_kept e (grownBy_putObj' W l o') (λ_ e=>by cases e;exact⟨o,h,hc⟩)⟩
end
section
open Go Go.RowKit Go.Maps Go.Sort
set_option maxRecDepth 100000
set_option maxHeartbeats 4000000
attribute [local go_sem] Oper.semAt_some
def HyR(H:Nat)(hs:List Int)(v:Value)(w:World):Prop:=∃ao c,v=.slice ao hs.length c/\(hs≠ []->∃g o,ao=some ⟨g,o,none⟩/\(g<H\/H+3<=g)/\∀j x,hs[j]? =some x->World.cell? w ⟨g,o+j,none⟩=some (.int .i64 x))
theorem ix_Io(g o c n j:Nat)(h:j<n)(w:World):(Instr.indexAt 41 (.slice (some ⟨g,o,none⟩) n c) (.int .i64 (j:Int))).run Tryz.prog w=.ok (.pointer (some ⟨g,o+j,none⟩)) w:=by
 have h1:(0:Int)<=(j:Int):=by omega
 have h2:(j:Int)<(n:Int):=by omega
 go_simp
theorem use_g{w:World}{m:Mc}{left:Nat}{SS:List (List UInt8)}{SI:List Int}{s:Lg}{hs:List Int}{v:Value}(hM:MAt m left w)(hj:JG SS SI m.h s w)(hh:m.h+3<=w.heap.size)(hv:HyR m.h hs v w)(hS:∀x∈hs,x∈SI/\(Lit.int .i64 x).wf=true)(hn:SI.length<maxLen)(hl:hs.length<=1000000):
  Calls Tryz.prog 134 #[.pointer (some ⟨m.h+2,0,none⟩),v] w (λe w'=>e=.returned (.tuple #[])/\Rm m.h w w'/\MAt m left w'/\JG SS SI m.h (s.1,s.2++hs) w'):=by
 obtain⟨ao,c,rfl,hcs⟩:=hv;obtain⟨n0,hn0⟩:∃n0,hs.length=n0:=⟨_,rfl⟩;have HN:=hid hn0;have HL:=hid hl;rw[hn0];have HCS:=hid hcs;have HSS:=hid hS;clear hcs hn0 hl hS;go_enter Tryz.func134,Tryz.ntmps134
 go_wp2
 go_loopg [8] n0 (λgk v8 wr=>∃(i:Nat),v8=.int .i64 (i:Int)/\i+gk=n0/\Hid (Rm m.h w wr/\MAt m left wr/\JG SS SI m.h (s.1,s.2++hs.take i) wr))
 case atStart=>exact⟨0,rfl,by omega,hid ⟨Rm.refl _ _,hM,by simpa using hj⟩⟩
 case round=>
  obtain⟨i,rfl,hg,S⟩:=hrel;obtain⟨R,M,J⟩:=S.out;clear S;by_cases hi:i<n0
  ·obtain⟨x,hx⟩:∃x,hs[i]? =some x:=zl;obtain⟨g,o,rfl,hgb,hc⟩:=HCS.out (by intro h0;rw[h0]at hx;simp at hx);have hcx:=R.cell (hc i x hx) hgb;obtain⟨hx1,hx2⟩:=HSS.out x (List.mem_of_getElem? hx);have HI:=hid (show i+1+(gk-1)=n0 by omega);have HX:=hid hx;have hil:(i:Int)<(n0:Int):=by omega
   have HIW:=hid (show IntKind.i64.wrap ((i:Int)+1)=((i+1:Nat):Int)by have:=HL.out;have:=HN.out;simp only[IntKind.wrap_i64];omega);have HG:=hid hg;have HI2:=hid hi;clear hc hx hg hi;have hgI:=ix_Io g o c n0 i HI2.out;have hmh:=jQ hh R.size;go_upto_region 3 with fail;clear hcx hil hgI;refine rgs 5 (dR 12 5) [IsP (m.h+2) 0,IsP (m.h+2) 0,IsP (m.h+2) 6,IsV (.map (some (m.h+1))),iV x] [] ?_ ?_
   ·refine Rc zv ?_;refine Rc (nc (p:=⟨m.h+2,0,none⟩) (qA 0 12)) ?_;refine Rc (fa (fa_Mc6 (m.h+2)) (qA 1 13)) ?_;refine Rc (lvC 6 M.bk ld_mi (qA 2 14)) ?_;refine Rc (mv (qB 5)) ?_;exact rn0
   intro v X1 e1 hZ _;replace J:=(JG.inv SS SI m.h).ext J e1 hmh;replace M:=M.ext e1;simp only[lxE,Nat.reduceAdd];rw[show v 3=.map (some (m.h+1))from hZ 3 dcx,show v 4=.int .i64 x from hZ 4 dcx];clear hZ;obtain⟨w2,hrun,J2,tur⟩:=J.use hx2 hx1 hn;have R2:=(R.trans (Rm.ext (h:=m.h) e1)).trans (turned_rm (h:=m.h) tur (.inr rfl));have M2:=M.grown tur.grown (.inr rfl)
   try simp only[dxE]
   (with_reducible refine stL ?_ zb6);intro KK hKK
   refine wp_mu za za rfl hrun (hKK _ _ ?_);clear hKK;refine jL ?_
   try simp only[Act.put]
   have J3:=hid (show Rm m.h w w2/\MAt m left w2/\JG SS SI m.h (s.1,s.2++hs.take (i+1)) w2 from⟨R2,M2,by
    have:hs.take (i+1)=hs.take i++ [x]:=by rw[List.take_add_one,HX.out];rfl
    rw[this,<-List.append_assoc];exact J2⟩)
   clear J J2 M M2 R R2 tur hrun e1 hx1 hx2;have hx9:=HIW.out;go_wp2_with fail
   go_roundg (gk-1)
   case measure=>have:=HI.out;have:=HI2.out;have:=HG.out;omega
   case rel=>exact⟨i+1,rfl,HI.out,J3⟩
  ·have hil:¬(i:Int)<(n0:Int):=by omega
   have hie:i=n0:=by omega
   subst hie;rw[List.take_of_length_le (by rw[HN.out];exact jP _)]at J;go_wp2_with fail;exact bodyPost_end (v:=.tuple #[]) (by simp[results,Tryz.results134,go_sem]) rfl ⟨rfl,R,M,J⟩
end
section
open Go Go.RowKit Go.Shelf
open Go.Proofs.Tryz
theorem zay{P:Prop}(h:P:=by rw[ByteArray.size_append,ByteArray.size_append];exact Nat.le_add_left _ _):P:=h
set_option maxRecDepth 100000
set_option maxHeartbeats 4000000
attribute [local go_sem] Oper.semAt_some
def bwv(env:Env):Nat ->Nat× (ByteArray×Int) :=λk =>(env.length - 1 - k,env.getD (env.length - 1 - k) (⟨#[]⟩,0))
def clp(x:Nat× (ByteArray×Int)):ByteArray×Int:=if x.2.1.size <=16/\ -100 <=x.2.2/\x.2.2 <=161 then x.2 else(⟨#[]⟩,0)
theorem clp_fit(x:Nat× (ByteArray×Int)):(clp x).1.size <=16/\ -100 <=(clp x).2/\ (clp x).2 <=161:=by
 unfold clp
 split
 ·assumption
 ·exact⟨by decide,by decide,by decide⟩
theorem clp_id{x:Nat× (ByteArray×Int)}(h:x.2.1.size <=16/\ -100 <=x.2.2/\x.2.2 <=161):clp x =x.2:=if_pos h
theorem back1v_in(F:Fence)(n:Nat)(h7:F.fn 179)(hro:F.round =none)(hn:1 <=n)(l Bs n₀ b len cap:Nat)(env:Env)(hlen:env.length =len)(hreach:len <=1000000)(hfit:∀p∈env,p.1.size <=16/\ -100 <=p.2/\p.2 <=161)(hb:b < n₀)(J Jx:List (Nat× (ByteArray×Int)) ->World ->Prop)
  (hY:∀pre x W,J pre W ->pre.length < len ->YieldAt F (n - 1) prog l #[.int .i64 (x.1:Int),.agg #[.string (clp x).1,.int .i64 (clp x).2]] W λe W' =>
   (e =.returned (.bool true)/\J (pre ++ [x]) W'/\Kpb n₀ Bs W W')\/ (e =.returned (.bool false)/\Jx (pre ++ [x]) W'))
  (W:World) (hBs:W.cell? ⟨Bs,0,none⟩=some (.slice (some ⟨b,0,none⟩) len cap)) (hc:∀j y k,env[j]? =some (y,k) ->W.cell? ⟨b,2 * j,none⟩=some (.string y)/\W.cell? ⟨b,2 * j + 1,none⟩=some (.int .i64 k)) (h0:J [] W) :
  CallsIn F n prog 179 #[.func (.yield l) #[] #[],.pointer (some ⟨Bs,0,none⟩)] W λe W' =>(∃v,e =.returned v)/\
   ((∃xs,xs =upto (bwv env) len/\J xs W')\/ (∃pre,(∃k,k <=len/\pre =upto (bwv env) k)/\Jx pre W')) :=by
 refine callsIn_of_wp func179 rfl h7 ?_ hro
 simp only[ntmps179,List.size_toArray,List.length_cons,List.length_nil,Nat.reduceAdd,Nat.reduceSub,Array.replicate_succ,Array.replicate_zero,List.push_toArray,List.append_toArray,List.nil_append,List.cons_append]
 gi_wp2
 gi_loopw [3] (λi wr =>∃j:Nat,j <=len/\i =.int .i64 ((j:Int) - 1)/\J (upto (bwv env) (len - j)) wr/\Kpb n₀ Bs W wr)
  (λi _ =>(intOf i + 1).toNat)
 case atStart =>exact⟨len,jP _,rfl,by rw[Nat.sub_self];exact h0,Kpb.refl _ _ _⟩
 case round =>
  obtain⟨j,hj,rfl,hJs,hnx⟩ :=hrel
  rcases j with _|j
  ·rw[show((0:Nat):Int) - 1 = -1 from rfl]
   gi_wp2
   go_end0
   exact⟨⟨_,rfl⟩,.inl ⟨_,rfl,hJs⟩⟩
  ·rw[show((j + 1:Nat):Int) - 1 =(j:Int)by omega]
   obtain⟨⟨y,k⟩,hyk⟩:∃p,env[j]? =some p:=⟨_,List.getElem?_eq_getElem (by omega)⟩
   have hf:bwv env (len - (j + 1))=(j,(y,k)) :=by
    unfold bwv;rw[show env.length - 1 - (len - (j + 1))=j by omega]
    rw[List.getD_eq_getElem?_getD,hyk];rfl
   obtain⟨q1,q2⟩ :=hc j y k hyk
   have hcx:wr.cell? ⟨b,2 * j,none⟩=some (.string y) :=(hnx.1.cell (p:=⟨b,2 * j,none⟩) hb).trans q1
   have hcx2:wr.cell? ⟨b,2 * j + 1,none⟩=some (.int .i64 k) :=(hnx.1.cell (p:=⟨b,2 * j + 1,none⟩) hb).trans q2
   have hBx:wr.cell? ⟨Bs,0,none⟩=some (.slice (some ⟨b,0,none⟩) len cap) :=hnx.2 _ hBs
   have hk:len - j =len - (j + 1) + 1:=by omega
   obtain⟨fn,tmps,assign,body,hy,hR⟩ :=hY _ (j,(y,k)) wr hJs (by rw[upto_length];omega)
   rw[clp_id (x:=(j,(y,k))) (hfit _ (List.mem_of_getElem? hyk))]at hy
   have hjl:j < len:=by omega
   have hj2:j * 2 =2 * j:=by omega
   have hj3:0 + 2 * j =2 * j:=by omega
   clear q1 q2 hyk
   gi_wp2
   refine hR.mono ?_
   rintro e W0 (⟨rfl,hJ3,hk3⟩| ⟨rfl,hJx3⟩)
   ·gi_wp2
    go_roundw
    case rel =>exact⟨j,by omega,by simp,by rw[hk,upto_succ,hf];exact hJ3,hnx.trans hk3⟩
    case measure =>simp[intOf]
   ·gi_wp2
    refine jK (results_none rfl _ _ _) rfl ?_
    exact⟨⟨_,rfl⟩,.inr ⟨_,⟨len - (j + 1) + 1,by omega,by rw[upto_succ,hf]⟩,hJx3⟩⟩
theorem back1v_nil_in(F:Fence)(n:Nat)(h7:F.fn 179)(hro:F.round =none)(l Bs cap:Nat)(ao:Option Addr)(J:List (Nat× (ByteArray×Int)) ->World ->Prop)(W:World)(hBs:W.cell? ⟨Bs,0,none⟩=some (.slice ao 0 cap))(h0:J [] W):
  CallsIn F n prog 179 #[.func (.yield l) #[] #[],.pointer (some ⟨Bs,0,none⟩)] W λe W' =>(∃v,e =.returned v)/\J [] W':=by
 refine callsIn_of_wp func179 rfl h7 ?_ hro
 simp only[ntmps179,List.size_toArray,List.length_cons,List.length_nil,Nat.reduceAdd,Nat.reduceSub,Array.replicate_succ,Array.replicate_zero,List.push_toArray,List.append_toArray,List.nil_append,List.cons_append]
 gi_wp2
 gi_loopw [3] (λi wr =>i =.int .i64 (-1)/\J [] wr) (λ_ _ =>0)
 case atStart =>exact⟨rfl,h0⟩
 case round =>
  obtain⟨rfl,hJs⟩ :=hrel
  gi_wp2
  go_end0
  exact⟨⟨_,rfl⟩,hJs⟩
def EnvB(n₀:Nat)(W:World)(a:Option Addr)(env:Env):Prop:=
 env = []\/∃b,a =some ⟨b,0,none⟩/\b < n₀/\∀j y k,env[j]? =some (y,k) ->W.cell? ⟨b,2 * j,none⟩=some (.string y)/\W.cell? ⟨b,2 * j + 1,none⟩=some (.int .i64 k)
theorem EnvB.below{n₀:Nat}{A B:World}(h:Below n₀ A B){a:Option Addr}{env:Env}:EnvB n₀ A a env ->EnvB n₀ B a env
 | .inl e => .inl e
 | .inr ⟨b,e,hb,hc⟩ => .inr ⟨b,e,hb,λj y k hj =>⟨(h.cell (p:=⟨b,2 * j,none⟩) hb).trans (hc j y k hj).1,(h.cell (p:=⟨b,2 * j + 1,none⟩) hb).trans (hc j y k hj).2⟩⟩
theorem backv_stops(F:Fence)(n:Nat)(h7:F.fn 179)(hro:F.round =none)(hn:1 <=n)(Bs n₀:Nat)(a:Option Addr)(cap:Nat)(env:Env)(hreach:env.length <=1000000)(hfit:∀p∈env,p.1.size <=16/\ -100 <=p.2/\p.2 <=161)(w:World)(hBs:Bs < w.heap.size)(hn₀:n₀ <=w.heap.size)
  (hc:w.cell? ⟨Bs,0,none⟩=some (.slice a env.length cap)) (hI:EnvB n₀ w a env) :
  SeqStopsK F n prog 179 #[.pointer (some ⟨Bs,0,none⟩)] (λx:Nat× (ByteArray×Int) => #[Value.int .i64 (x.1:Int),.agg #[.string (clp x).1,.int .i64 (clp x).2]]) (Kpb n₀ Bs) (λxs =>xs =upto (bwv env) env.length)
   (λpre =>∃k,k <=env.length/\pre =upto (bwv env) k) env.length w:=λl J Jx W hW _ _ hY h0 =>by
 have hc':=(hW.cell (p:=⟨Bs,0,none⟩) hBs).trans hc
 rcases hI.below (hW.mono hn₀)with h| ⟨b,rfl,hb,hcs⟩
 ·subst h
  exact(back1v_nil_in F n h7 hro l Bs cap a J W hc' h0).mono λe W' ⟨he,hj⟩ =>⟨he,.inl ⟨_,rfl,hj⟩⟩
 ·exact back1v_in F n h7 hro hn l Bs n₀ b env.length cap env rfl hreach hfit hb J Jx hY W hc' hcs h0
/-! ### Fill -/
def TabM(w:World):Prop:=Tab w/\∃m:Int,World.cell? w ⟨0,0,none⟩=some (.int .i64 m)
theorem TabM.ext{w w':World}(h:TabM w)(e:Ext w w'):TabM w':=⟨h.1.ext e,let ⟨m,hm⟩ :=h.2;⟨m,e.cell hm⟩⟩
def fillB(s x:ByteArray)(k:Int):ByteArray:=⟨(Lib.replaceAll s.data.toList (⟨#[123]⟩ ++x ++ ⟨#[125]⟩:ByteArray).data.toList (Lib.itoa k)).toArray⟩
theorem repK_len(old new:List UInt8):∀(k:Nat) (s:List UInt8),(Lib.replaceK old new k s).length <=s.length + k * new.length
 |0,s =>by simp[Lib.replaceK]
 | k + 1,s =>by
  rw[Lib.replaceK]
  split
  ·exact Nat.le_add_right _ _
  ·have:=repK_len old new k (s.drop ((Lib.index s old).toNat + old.length))
   simp only[jT,List.length_take,List.length_drop]at this ⊢
   rw[Nat.add_mul,Nat.one_mul]
   omega
theorem cnt_le(s x:ByteArray):Lib.countB s (⟨#[123]⟩ ++x ++ ⟨#[125]⟩) <=s.size:=
 Lib.countB_le _ zay s.size s (jP _)
theorem fillB_size(s x:ByteArray)(k:Int)(h0: -9223372036854775808 <=k)(h1:k <=9223372036854775807):(fillB s x k).size <=s.size * 22:=by
 have hl:=Lib.itoa_length_le k h0 h1
 have hc:Lib.count s.data.toList (⟨#[123]⟩ ++x ++ ⟨#[125]⟩:ByteArray).data.toList <=s.size:=cnt_le s x
 show(Lib.replaceAll s.data.toList (⟨#[123]⟩ ++x ++ ⟨#[125]⟩:ByteArray).data.toList (Lib.itoa k)).toArray.size <=_
 rw[List.size_toArray]
 unfold Lib.replaceAll Lib.replace
 have hs:s.data.toList.length =s.size:=by simp
 split
 ·omega
 ·refine jQ (repK_len _ _ _ _) ?_
  unfold Lib.replaceNum
  rw[if_pos (.inl dcx),hs]
  have:=Nat.mul_le_mul hc hl
  omega
theorem Fill_f{w:World}(T:TabM w)(s x:ByteArray)(k:Int)(hs:s.size <=100000000)(hx:x.size <=1000)(h0: -9223372036854775808 <=k)(h1:k <=9223372036854775807):Calls prog 136 #[.string s,.string x,.int .i64 k] w (Ret w (IsV (.string (fillB s x k)))) :=by
 obtain⟨hT,m,hm⟩ :=T
 have hl:=Lib.itoa_length_le k h0 h1
 have hc:=cnt_le s x
 have ho:1 <=(⟨#[123]⟩ ++x ++ ⟨#[125]⟩:ByteArray).size:=zay
 have hlen:s.size + Lib.countB s (⟨#[123]⟩ ++x ++ ⟨#[125]⟩) * (⟨(Lib.itoa k).toArray⟩:ByteArray).size <=140737488355328:=by
  have:(⟨(Lib.itoa k).toArray⟩:ByteArray).size <=21:=by show(Lib.itoa k).toArray.size <=21;rw[List.size_toArray];exact hl
  have:=Nat.mul_le_mul hc this
  omega
 have q1:(⟨#[123]⟩:ByteArray).size + x.size <=9223372036854775807:=by have:(⟨#[123]⟩:ByteArray).size =1:=rfl;omega
 have q2:(⟨#[123]⟩ ++x:ByteArray).size + (⟨#[125]⟩:ByteArray).size <=9223372036854775807:=by rw[ByteArray.size_append];have:(⟨#[123]⟩:ByteArray).size =1:=rfl;have:(⟨#[125]⟩:ByteArray).size =1:=rfl;omega
 have hfin:(fillB s x k)=⟨(Lib.replaceAll s.data.toList (⟨#[123]⟩ ++x ++ ⟨#[125]⟩:ByteArray).data.toList (⟨(Lib.itoa k).toArray⟩:ByteArray).data.toList).toArray⟩ :=by simp[fillB]
 rw[hfin]
 clear hfin
 generalize hold:(⟨#[123]⟩ ++x ++ ⟨#[125]⟩:ByteArray)=old at ho hlen hc
 go_enter func136,ntmps136
 go_wp2_with (first
  | (go_at_call 181;refine(Tryz.strconv_Itoa k h0 h1 _ (by first|exact hT|exact hT.ext zf)).mono ?_;rintro e w1 ⟨rfl,kk,os,rfl⟩)
  | (go_at_call 180;refine(Tryz.strings_ReplaceAll s old _ m _ (by omega) (Ext.cell (ext_grow _ _ _) hm) ho hlen).mono ?_;rintro e w2 ⟨rfl,e2⟩))
 go_ret
 exact⟨_,rfl,(ext_grow _ _ _).trans e2,rfl⟩
def fiN(x:ByteArray)(xs:List (Nat× (ByteArray×Int))):ByteArray:=xs.foldl (λs p =>fillB s (clp p).1 (clp p).2) x
def flG(s:ByteArray)(env:Env):ByteArray:=fiN s (upto (bwv env) env.length)
theorem fiN_snoc(x:ByteArray)(xs:List (Nat× (ByteArray×Int)))(p:Nat× (ByteArray×Int)):fiN x (xs ++ [p])=fillB (fiN x xs) (clp p).1 (clp p).2:=by simp[fiN,List.foldl_append]
theorem fiN_size:∀(xs:List (Nat× (ByteArray×Int))) (x:ByteArray),(fiN x xs).size <=x.size * 22 ^ xs.length
 | [],x =>by simp[fiN]
 | p ::xs,x =>by
  have h:=fiN_size xs (fillB x (clp p).1 (clp p).2)
  obtain⟨_,h1,h2⟩ :=clp_fit p
  have h3:=fillB_size x (clp p).1 (clp p).2 (by omega) (by omega)
  refine jQ h (jQ (Nat.mul_le_mul_right _ h3) ?_)
  rw[List.length_cons,Nat.pow_succ,Nat.mul_assoc,Nat.mul_comm 22]
  exact jP _
theorem fiN_le{xs:List (Nat× (ByteArray×Int))}{x:ByteArray}(hx:x.size <=16)(hl:xs.length <=4):(fiN x xs).size <=100000000:=by
 refine jQ (fiN_size xs x) ?_
 have h1:22 ^ xs.length <=22 ^ 4:=Nat.pow_le_pow_right dcx hl
 have h2:(22:Nat) ^ 4 =234256:=by decide
 have h3:=Nat.mul_le_mul hx h1
 omega
end
section
open Go Go.RowKit Go.ChangeShapes Go.WideShapes Go.ChangeAt Go.Joins
theorem handed_and_shaped{H:Type}{enc:TypeId×Value->H}{a:Assume}{C:Checked}{os:Os}{f:FuncId}{fn:Func}{s:ChangeSpec}{conds:List PathCond}{apart fresh handsOn again:Bool}{X:World->Array Value->Prop}
  (hX:∀(w w':World) (args:Array Value),w.heap=w'.heap->X w args->X w' args)
  (own:ownKnob C.prog.godebug=none) (started:os.Started) (noInit:C.prog.inits.idxOf? f=none) (hfn:C.prog.funcs[f]? =some fn)
  (witness:∃(w:World) (tape:Tape) (i:Input),w.os=os/\(w.forCall tape i).Shaped C.prog/\i.vars= []/\Input.okWide C.prog (w.forCall tape i) .any w.heap.size f i/\
   ((s.pre enc C.prog fn conds apart (w.forCall tape i).memory i.args/\X (w.forCall tape i).memory i.args)/\sizedMet enc C.prog fn (OpenSpec.ofChange s) apart (w.forCall tape i).memory i.args)/\a.holds C.prog (lone (Frame.enter C.prog f i.args .normal) [] (w.forCall tape i)))
  (contract:∀(W:World) (base:Nat) (args:Array Value) (ds gs:List (DataW H)) (before:List MemPlace),
   (∀(j:Nat) t v,fn.params[j]? =some t->args[j]? =some v->Value.okWide C.prog W .any base t v)->
   DataW.Whole enc C.prog fn.params.toList s.vars apart W args.toList ds gs before->X W args->W.ShapedOpen C.prog->
   Calls C.prog f args W λe W'=>∃v,e=.returned v/\s.post enc C.prog fn apart fresh handsOn again W args v W'):
  ReturnsInHanded a C os f .any (λw args=>(s.pre enc C.prog fn conds apart w args/\X w args)/\sizedMet enc C.prog fn (OpenSpec.ofChange s) apart w args) (s.post enc C.prog fn apart fresh handsOn again):=by
 refine returnsInHanded_of_calls own started noInit witness ?_;intro w tape i _ hsh _ hok hpre _;obtain⟨_,_,_,fn',hfn',_,_,_,_,hval⟩:=hok;have e:fn'=fn:=Option.some.inj (hfn'.symm.trans hfn);subst e;obtain⟨⟨⟨ds,gs,before,hw,_⟩,hx⟩,_⟩:=hpre;have hw':=DataW.Whole.of_heap (w':=w.forCall tape i) zb6 hw;refine(contract (w.forCall tape i) w.heap.size i.args ds gs before hval hw' (hX _ _ _ zb6 hx) hsh).mono λe W' ⟨v,he,hp⟩=>?_
 subst he;exact ChangeSpec.post_blind hp
theorem tab5{W:World}(h:laidMetH Tryz.prog Rows.evalMoreRow.laid W):Tab W:=by
 rw[MakeChecks.laidMetH_plain _ _ _ (by kernel_rfl)]at h;obtain⟨ps,⟨g0,t0,cs0,f0,p0,q0,hg0,ht0,hv0,hd0,⟨g1,t1,cs1,f1,p1,q1,hg1,ht1,hv1,hd1,⟨g2,t2,cs2,f2,p2,q2,hg2,ht2,hv2,hd2,_,_⟩,_⟩,_⟩,_,_⟩:=h;have hty:(Tryz.prog.globals[g2]?).map (·.type)=some t2:=ht2;have hg:Tryz.prog.globalNamed "internal/strconv.uint64pow10" =some 3:=za
 obtain rfl:=Option.some.inj (hg.symm.trans hg2);have ht:(Tryz.prog.globals[3]?).map (·.type)=some 348:=za
 obtain rfl:=Option.some.inj (ht.symm.trans ht2);unfold Tab Lib.TabIs;rw[hv2,<-Lib.cells_of_tab (n:=20) (k:=.u64) (e:=143) (zs:=Lib.pow10Tab) (by kernel_rfl) (by kernel_rfl) (by kernel_rfl) (by kernel_rfl) hd2]
theorem tabM_of{W:World}(h:laidMetH Tryz.prog Rows.evalMoreRow.laid W)(hs:W.ShapedOpen Tryz.prog):TabM W:=
 ⟨tab5 h,cell_of_shapedOpen_int (g:=0) (t:=3) (zero:= #[.int .i64 0]) (k:=.i64) hs (of_decide_eq_true za) za rfl za za za⟩
end
section
open Go Go.RowKit
def NwB(w:World)(v:Value):Prop:=∀g cs e fz,v.ownBlock=some g->w.heap[g]? =some (.cells cs e fz)->∀u∈cs.toList,NoWord u
theorem NwB.nil(w:World):NwB w (.slice none 0 0):=λ_ _ _ _ h=>by cases h
theorem NwB.kept{w w':World}{v:Value}(h:NwB w v)(hg:∀g,v.ownBlock=some g->w'.heap[g]? =w.heap[g]?):NwB w' v:=λg cs e fz h1 h2=>h g cs e fz h1 ((hg g h1)▸h2)
theorem gr_of_grown{w w':World}{v:Value}(hg:w.grownBy w' v.ownBlock)(h:NwB w v):Gr w w':=by
  refine⟨hg.size,λp x hp=>?_⟩;by_cases hb:some p.block=v.ownBlock
  · exfalso
    have hp2:=hp;unfold World.cell? at hp
    split at hp
    · rename_i c e fz ho
      split at hp
      ·cases hp
      · have hm:(.int .u32 x:Value)∈c.toList:=by
          obtain⟨hlt,he⟩:=Array.getElem?_eq_some_iff.1 hp;rw[<-he];exact Array.getElem_mem_toList hlt
        exact h _ _ _ _ hb.symm ho _ hm x rfl
    ·cases hp
  ·exact hg.cell hp hb
theorem zero_nw{z:Array Value}(hz:∀u∈z.toList,NoWord u)(n:Nat):∀u∈(Builtin.zeroCells z n).toList,NoWord u:=by
  intro u hu;simp[Builtin.zeroCells]at hu;obtain⟨j,hj,rfl⟩:=hu
  have h0:0<z.size:=by
    rcases jN z.size with h|h;·rw[h]at hj;omega
    ·exact h
  rw[getElem!_pos z _ (jV _ h0)];exact hz _ (Array.getElem_mem_toList _)
section
variable {P:Program} (w:World)
theorem run_append_nw(base:Nat)(t ty e:TypeId)(i:TypeInfo)(z:Value)(size bytes:Nat)(ht:P.underlying t=some (.slice e))(hi:P.info? e=some i)(hz:i.zero=some z)
    (hsize:i.size=size) (hby:i.bytes=bytes) (hzs:z.cells.size=size) (hsz:0<size) (hzn:∀u∈z.cells.toList,NoWord u)
    (v:Value) (n:Nat) (xs:List Value) (hown:w.ownsRow base e size v n xs) (hnw:NwB w v)
    (a:Addr) (m c:Nat) (news:List Value) (hl:news.length=m*size) (hnews:∀j u,news[j]? =some u->w.cell? (a.add j)=some u) (h1:∀u∈news,u.oneCell'=true) (hnn:∀u∈news,NoWord u)
    (h63:n+m<=maxLen) (hbytes:(n+m)*bytes<=140737488355328) (hbase:base<=w.heap.size):
    ∃v' w',(Builtin.append_ #[t,t] ty #[v,.slice (some a) m c]).run P w=.ok v' w'/\w'.ownsRow base e size v' (n+m) (xs++news)/\w.grownBy w' v.ownBlock/\(v'.ownBlock=v.ownBlock\/v'.ownBlock=some w.heap.size)/\NwB w' v':=by
  obtain⟨v',w',hr,h2,h3,h4,h5⟩:=run_append_own_at (P:=P) w base t ty e i z size bytes ht hi hz hsize hby hzs hsz v n xs hown a m c news hl hnews h1 h63 hbytes hbase;refine⟨v',w',hr,h2,h3,h5,?_⟩;subst hsize;subst hby;have hsmall:n+m<=9223372036854775807:=by simp only[maxLen]at h63;omega
  rcases hown.2 with⟨rfl,rfl⟩| ⟨g,cap,cur,rfl,hbg,hg,hnc,hcm,hcs,htake⟩
  · by_cases hm:m=0
    ·have:=(h4.2 ⟨rfl,hm⟩);subst this;exact NwB.nil _
    · have hr2:=run_append_nil (P:=P) w t ty e i z ht hi hz a m c news hl hnews (by omega) (by omega) (by have hb:=hbytes;simp only[Nat.zero_add]at hb;omega)
      rw[hr2]at hr;injection hr with e1 e2;subst e1;subst e2;intro g cs e' fz hb ho u hu;injection hb with hb;subst hb;rw[show(w.drew.alloc (.cells (news.toArray++Builtin.zeroCells z.cells (grownCap w m 0 e-m)) e)).heap[w.heap.size]? =some (.cells (news.toArray++Builtin.zeroCells z.cells (grownCap w m 0 e-m)) e)from heap_alloc_new w.drew _]at ho;injection ho with ho;injection ho with ho _ _;subst ho;rw[Array.toList_append,List.mem_append]at hu;rcases hu with hu|hu
      ·exact hnn u (by simpa using hu)
      ·exact zero_nw hzn _ u hu
  · have hcn:∀u∈cur.toList,NoWord u:=hnw g cur e (0,0) rfl hg
    by_cases hroom:n+m<=cap
    · have hfit:n*i.size+news.length<=cur.size:=by rw[hl,hcs,<-Nat.add_mul];exact Nat.mul_le_mul_right _ hroom
      have hr2:=run_append_room (P:=P) w t ty e i ht hi g n cap cur hg a m c news hl hnews h1 hroom hfit;rw[hr2]at hr;injection hr with e1 e2;subst e1;subst e2;intro g' cs e' fz hb ho u hu;injection hb with hb;subst hb;rw[setRow_heap w g cur _ e _ hg]at ho;injection ho with ho;injection ho with ho _ _;subst ho;simp only[List.mem_append]at hu;rcases hu with(hu|hu)|hu
      ·exact hcn u (List.mem_of_mem_take hu)
      ·exact hnn u hu
      ·exact hcn u (List.mem_of_mem_drop hu)
    · have holds:∀j u,xs[j]? =some u->w.cell? ((⟨g,0,none⟩:Addr).add j)=some u:=hown.cells (g:=g) rfl
      have hr2:=run_append_grow (P:=P) w t ty e i z ht hi hz ⟨g,0,none⟩ n cap xs hown.1 holds a m c news hl hnews (by omega) (by omega) (growslice_fits (by omega) hbytes);rw[hr2]at hr;injection hr with e1 e2;subst e1;subst e2;intro g' cs e' fz hb ho u hu;injection hb with hb;subst hb;rw[show(w.drew.alloc (.cells (xs.toArray++news.toArray++Builtin.zeroCells z.cells (grownCap w (n+m) cap e-(n+m))) e)).heap[w.heap.size]? =some (.cells (xs.toArray++news.toArray++Builtin.zeroCells z.cells (grownCap w (n+m) cap e-(n+m))) e)from heap_alloc_new w.drew _]at ho;injection ho with ho;injection ho with ho _ _;subst ho;rw[Array.toList_append,Array.toList_append,List.mem_append,List.mem_append]at hu;rcases hu with(hu|hu)|hu
      · have hu:u∈xs:=by simpa using hu
        rw[<-htake]at hu;exact hcn u (List.mem_of_mem_take hu)
      ·exact hnn u (by simpa using hu)
      ·exact zero_nw hzn _ u hu
end
theorem wpl_rwn{P:Program}{w:World}{ops:Array Oper}{rest:List Oper}{o:Oper}{a:Act}{Q:Exit->Act->World->Prop}(hgd:o.guard=none)(s x:Operand)(t:TypeId)
    (ho:o.op=.call {callee:=.builtin .append,args:= #[s,x],argTypes:= #[t,t]}) (base e:Nat) (z:Value) (k bytes:Nat) (ht:P.underlying t=some (.slice e)) (hinfo:(P.info? e).map (λi=>(i.zero,i.size,i.bytes))=some (some z,k,bytes))
    (hzs:z.cells.size=k) (hk:0<k) (hzn:∀u∈z.cells.toList,NoWord u) (v:Value) (n:Nat) (xs:List Value) (hs:a.eval s=v) (hown:Rwg e k base w v n xs) (hnw:NwB w v) (g m c:Nat) (news:List Value) (hx:a.eval x=.slice (some ⟨g,0,none⟩) m c) (hl:news.length=m*k)
    (hnews:∀j u,news[j]? =some u->w.cell? ⟨g,j,none⟩=some u) (h1:∀u∈news,u.oneCell'=true) (hnn:∀u∈news,NoWord u) (h63:n+m<=140737488355328) (hbytes:(n+m)*bytes<=140737488355328) (hbase:base<=w.heap.size)
    (h:∀v' w',Rwg e k base w' v' (n+m) (xs++news)->NwB w' v'->w.grownBy w' v.ownBlock->Gr w w'->Below base w w'->(v'.ownBlock=v.ownBlock\/v'.ownBlock=some w.heap.size)->wpList P ops Q rest (a.put o.dst v') w'):
    wpList P ops Q (o ::rest) a w:=by
  obtain⟨i,hi,hz0,hz1,hz2⟩:=info_parts hinfo;refine wpList_plain hgd λK hK=>?_
  obtain⟨v',w',hr,h2,h3,h5,h6⟩:=run_append_nw (P:=P) w base t o.type e i z k bytes ht hi hz0 hz1 hz2 hzs hk hzn v n xs hown hnw ⟨g,0,none⟩ m c news hl (λj u hj=>by cases j <;> simpa [Addr.add]using hnews _ u hj) h1 hnn yl hbytes hbase;unfold Oper.wp execOp;simp only[ho,resolve,invoke,builtin,Sem.run_bind,Sem.run_pure,Result.andThen_ok,List.map_toArray,List.map_cons,List.map_nil,hs,hx,hr];refine hK _ _ (h v' w' h2 h6 h3 (gr_of_grown h3 hnw) ((jS base w).grown h3 hbase λb hb=>?_) h5);obtain⟨_,⟨hv,_⟩| ⟨g,cap,cur,hv,hb2,_⟩⟩:=hown
  ·rw[hv]at hb;cases hb
  ·rw[hv]at hb;cases hb;exact hb2
end
section
open Go Go.RowKit
set_option maxRecDepth 100000
set_option maxHeartbeats 4000000
theorem OnlyB.trans{g:Nat}{a b c:World}(x:OnlyB g a b)(y:OnlyB g b c):OnlyB g a c:=
 ⟨y.os.trans x.os,y.tape.trans x.tape,y.output.trans x.output,y.size.trans x.size,λk hk=>(y.block k hk).trans (x.block k hk),x.gr.trans y.gr⟩
theorem OnlyB.refl(g:Nat)(w:World):OnlyB g w w:=⟨rfl,rfl,rfl,rfl,λ_ _=>rfl,Gr.refl w⟩
theorem Bk.ovr:∀(us:List Value) {w:World} {g:Nat} (f:Nat) {cs:List Value},Bk w g cs->f+us.length<=cs.length->(∀v∈cs,NoWord v)->(∀v∈us,NoWord v)->
  ∃cs',OnlyB g w (xJ w g f us)/\Bk (xJ w g f us) g cs'/\cs'.length=cs.length/\(∀v∈cs',NoWord v)/\∀j,cs'[j]? =if f<=j/\j<f+us.length then us[j-f]? else cs[j]?
 | [],w,g,f,cs,B,hl,hn,hu=>⟨cs,OnlyB.refl g w,B,rfl,hn,λj=>by rw[if_neg (by simp)]⟩
 | u ::us,w,g,f,cs,B,hl,hn,hu=>by
  have hf:f<cs.length:=by simp only[List.length_cons]at hl;omega
  obtain⟨O,B1⟩:=B.setO f hf u (hn _ (List.getElem_mem hf));have hn1:∀v∈cs.set f u,NoWord v:=λv hv=>(List.mem_or_eq_of_mem_set hv).elim (hn v) (λe=>e▸hu u List.mem_cons_self)
  obtain⟨cs',O2,B2,h1,h2,h3⟩:=Bk.ovr us (f+1) B1 (by simp only[List.length_cons,List.length_set]at hl ⊢;omega) hn1 (λv hv=>hu v (List.mem_cons_of_mem _ hv));refine⟨cs',O.trans O2,B2,by rw[h1,List.length_set],h2,λj=>?_⟩;rw[h3 j,List.getElem?_set];simp only[List.length_cons];by_cases c1:j=f
  ·subst c1;rw[if_neg (by omega),if_pos rfl,if_pos hf,if_pos (by omega)];simp
  ·by_cases c2:f+1<=j/\j<f+1+us.length
   ·rw[if_pos c2,if_pos (by omega),show j-f=j-(f+1)+1 by omega];simp
   ·rw[if_neg c2,if_neg (by omega),if_neg (by omega)]
theorem apL{j:Nat}{v:Value}(xs ys:List Value)(h:xs[j]? =some v):(xs++ys)[j]? =some v:=by rw[List.getElem?_append_left (List.getElem?_eq_some_iff.1 h).1];exact h
theorem apR{j:Nat}{v:Value}(xs ys:List Value)(h:ys[j]? =some v):(xs++ys)[xs.length+j]? =some v:=by rw[List.getElem?_append_right (Nat.le_add_right _ _),Nat.add_sub_cancel_left];exact h
def HdOk(vs:List Value):Prop:=vs.length=32/\vs.all (λu=>u.oneCell')=true/\∀u∈vs,NoWord u
def HdR(L:List (List Value))(g:Nat)(W:World):Prop:=∀j vs,L[j]? =some vs->∀q u,vs[q]? =some u->World.cell? W ⟨g,32*j+q,none⟩=some u
theorem HdR.ext{L:List (List Value)}{g:Nat}{W W':World}(h:HdR L g W)(e:Ext W W'):HdR L g W':=λj vs hj q u hq=>e.cell (h j vs hj q u hq)
theorem flat_at:∀ {L:List (List Value)},(∀vs∈L,vs.length=32)->∀ {j:Nat} {vs:List Value},L[j]? =some vs->∀ {q:Nat} {u:Value},vs[q]? =some u->L.flatten[32*j+q]? =some u
 | [],_,j,vs,h,_,_,_=>by simp at h
 | x ::L,hl,0,vs,h,q,u,hq=>by
  have h:x=vs:=yw
  subst h;rw[List.flatten_cons,Nat.mul_zero,Nat.zero_add];exact apL _ _ hq
 | x ::L,hl,j+1,vs,h,q,u,hq=>by
  have h:L[j]? =some vs:=yw
  have:=flat_at (L:=L) (λv hv=>hl v (List.mem_cons_of_mem _ hv)) h hq;rw[List.flatten_cons];have e:32*(j+1)+q=x.length+(32*j+q):=by rw[hl x List.mem_cons_self];omega
  rw[e];exact apR _ _ this
theorem flat_len:∀ {L:List (List Value)},(∀vs∈L,vs.length=32)->L.flatten.length=32*L.length
 | [],_=>rfl
 | x ::L,h=>by
  rw[List.flatten_cons,jT,h x List.mem_cons_self,flat_len (λv hv=>h v (List.mem_cons_of_mem _ hv)),List.length_cons];omega
def HdB(L:List (List Value))(g:Nat)(W:World):Prop:=HdR L g W/\∃cs,Bk W g cs/\32*L.length<=cs.length/\∀v∈cs,NoWord v
theorem HdB.ext{L:List (List Value)}{g:Nat}{W W':World}(h:HdB L g W)(e:Ext W W'):HdB L g W':=⟨h.1.ext e,let ⟨cs,h1,h2⟩:=h.2;⟨cs,h1.ext e,h2⟩⟩
theorem HdB.lt{L:List (List Value)}{g:Nat}{W:World}(h:HdB L g W):g<W.heap.size:=let ⟨_,h1,_⟩:=h.2;h1.lt
theorem HdB.set{L:List (List Value)}{g i:Nat}{W:World}{us:List Value}(h:HdB L g W)(hL:∀vs∈L,vs.length=32)(hi:i<L.length)(hu:HdOk us):OnlyB g W (xJ W g (32*i) us)/\HdB (L.set i us) g (xJ W g (32*i) us):=by
 obtain⟨hR,cs,B,hl,hn⟩:=h;obtain⟨hu1,hu2,hu3⟩:=hu;obtain⟨cs',O,B',h1,h2,h3⟩:=Bk.ovr us (32*i) B (by omega) hn hu3;refine⟨O,λj vs hj q u hq=>?_,cs',B',by rw[List.length_set,h1];exact hl,h2⟩;have hql:=(List.getElem?_eq_some_iff.1 hq).1;refine B'.c _ u ?_;rw[h3];rw[List.getElem?_set]at hj;by_cases e:i=j
 ·subst e;rw[if_pos rfl,if_pos hi]at hj;cases hj;rw[if_pos (by omega),show 32*i+q-32*i=q by omega];exact hq
 ·rw[if_neg e]at hj;have hv:=hL vs (List.mem_of_getElem? hj);rw[if_neg (by omega)];have hc:=hR j vs hj q u hq;have hlt:32*j+q<cs.length:=by have:=(List.getElem?_eq_some_iff.1 hj).1;omega
  rw[List.getElem?_eq_getElem hlt];rw[B.c _ _ (List.getElem?_eq_getElem hlt)]at hc;exact hc
theorem ix_Hd(g c n j:Nat)(h:j<n)(w:World):(Instr.indexAt 37 (.slice (some ⟨g,0,none⟩) n c) (.int .i64 (j:Int))).run Tryz.prog w=.ok (.pointer (some ⟨g,32*j,none⟩)) w:=by
 have h1:(0:Int)<=(j:Int):=by omega
 have h2:(j:Int)<(n:Int):=by omega
 have h3:0+j*32=32*j:=by omega
 have h4:j*32=32*j:=by omega
 go_simp
theorem ld_Hd{w:World}{L:List (List Value)}{g j:Nat}{vs:List Value}(h:HdR L g w)(hj:L[j]? =some vs)(hl:vs.length=32):(Instr.loadAt 98 (.pointer (some ⟨g,32*j,none⟩))).run Tryz.prog w=.ok (.agg vs.toArray) w:=ldM za za hl (h j vs hj)
theorem st_Hd{w:World}{L:List (List Value)}{g i:Nat}{us:List Value}(h:HdB L g w)(hi:i<L.length)(hu:HdOk us):(Instr.storeAt 98 (.pointer (some ⟨g,32*i,none⟩)) (.agg us.toArray)).run Tryz.prog w=.ok () (xJ w g (32*i) us):=by
 obtain⟨hR,cs,B,hl,hn⟩:=h;obtain⟨hu1,hu2,hu3⟩:=hu
 have ht:w.there g (32*i) us.toArray.size:=λj hj=>by
  have hj':j<32:=by simp at hj;omega
  have hlt:32*i+j<cs.length:=by omega
  exact⟨by rw[B.c _ _ (List.getElem?_eq_getElem hlt)];rfl,B.f _⟩
 rw[run_storeAt_mid w g (32*i) 98 us.toArray ht (by simp only[List.size_toArray];rw[hu1];kernel_rfl) (by simpa using hu2),setCellsL]
def idxH(p:List Value->Bool)(L:List (List Value)):Int:=match L.findIdx? p with
 |none=> -1
 |some i=>(i:Nat)
theorem idxHd_f{w:World}{L:List (List Value)}{v:Value}{f:FuncId}{caps:List Value}{p:List Value->Bool}{n0 c:Nat}{ao:Option Addr}(he:∀args w,(callFunc f args).run Tryz.prog w=.ok (.enter f args) w)(hn:L.length=n0)(hl:n0<=1000000)(hL:∀vs∈L,vs.length=32)
  (hv:v=.slice ao n0 c) (hg:L≠ []->∃g,ao=some ⟨g,0,none⟩/\HdR L g w) (HF:∀vs∈L,∀w',Ext w w'->Calls Tryz.prog f (.agg vs.toArray ::caps).toArray w' (Ret w' (IsV (.bool (p vs))))):
  Calls Tryz.prog 218 #[v,.func (.func f) #[] caps.toArray] w (Ret w (iV (idxH p L))):=by
 subst hv;have HN:=hid hn;have HL:=hid hl;have HG:=hid hg;have HF:=hid HF;have HLL:=hid hL;clear hn hl hg hL;go_enter Tryz.func218,Tryz.ntmps218
 go_wp2
 go_loopg [8] n0 (λgk v8 wr=>∃(i:Nat),v8=.int .i64 (i:Int)/\i+gk=n0/\Hid (Ext w wr/\∀j vs,j<i->L[j]? =some vs->p vs=false))
 case atStart=>exact⟨0,rfl,by omega,hid ⟨Ext.refl _,λj e hj=>absurd hj (Nat.not_lt_zero _)⟩⟩
 case round=>
  obtain⟨i,rfl,hg,S⟩:=hrel;by_cases hi:i<n0
  ·obtain⟨vs,hd⟩:∃d,L[i]? =some d:=zl;obtain⟨g,rfl,hc⟩:=HG.out xm;have hvl:=HLL.out vs (List.mem_of_getElem? hd);have HI:=hid (show i+1+(gk-1)=n0 by omega);have HD:=hid hd;have HC:=hid hc;have hil:(i:Int)<(n0:Int):=by omega
   have HIW:=hid (show IntKind.i64.wrap ((i:Int)+1)=((i+1:Nat):Int)by have:=HL.out;have:=HN.out;simp only[IntKind.wrap_i64];omega);have HG2:=hid hg;have HI2:=hid hi;clear hc hd hg hi;have E:=S.out.1;go_upto_region 4 with fail;clear hil;refine rgs 6 (dR 11 6) [IsV (.func (.func f) #[] caps.toArray),IsV (.slice (some ⟨g,0,none⟩) n0 c),iV (i:Int),IsP g (32*i),IsV (.agg vs.toArray),IsV (.bool (p vs))] [] ?_ ?_
   ·refine Rc xb ?_;refine Rc zv ?_;refine Rc zt ?_;refine Rc (ixq (ix_Hd g c n0 i HI2.out) (qA 1 12) (qA 2 13)) ?_;refine Rc (lv (fP:=IsV (.agg vs.toArray)) _ (λw' e=>ld_Hd ((HC.out.ext E).ext e) HD.out hvl) (qA 3 14) (λ_ _=>rfl)) ?_;refine Rc (cv1 (caps:=caps) he (qA 0 11) (qA (fP:=IsV (.agg vs.toArray)) 4 15) (λx0 w' hE d0=>by{obtain rfl:x0=_:=d0;exact HF.out vs (List.mem_of_getElem? HD.out) w' (E.trans hE)})) ?_;exact rn0
   intro v X1 e1 hZ _;simp only[lxE,Nat.reduceAdd];rw[show v 5=.bool (p vs)from hZ 5 dcx];clear hZ;refine jL ?_;cases hp:p vs with
   | true=>
    have HR:idxH p L=(i:Nat):=by
     have hlt:=(List.getElem?_eq_some_iff.1 HD.out).1
     have h1:L.findIdx? p=some i:=by
      rw[List.findIdx?_eq_some_iff_getElem];refine⟨hlt,by rw[(List.getElem?_eq_some_iff.1 HD.out).2];exact hp,λj hj=>?_⟩;have:=S.out.2 j _ hj (List.getElem?_eq_getElem (by omega));simp[this]
     rw[idxH,h1]
    clear S;go_wp2_with fail
    go_ret
    exact⟨_,rfl,E.trans e1,by first|rfl| (rw[HR];rfl)⟩
   | false=>
    have S':=hid (show Ext w X1/\∀j vs,j<i+1->L[j]? =some vs->p vs=false from⟨E.trans e1,λj e hj he=>by
     rcases Nat.lt_succ_iff_lt_or_eq.1 hj with h|h
     ·exact S.out.2 j e h he
     ·subst h;rw[HD.out]at he;cases he;exact hp⟩)
    clear S E e1 hp;have hx9:=HIW.out;go_wp2_with fail
    go_roundg (gk-1)
    case measure=>have:=HI.out;have:=HI2.out;have:=HG2.out;omega
    case rel=>exact⟨i+1,rfl,HI.out,S'⟩
  ·have hil:¬(i:Int)<(n0:Int):=by omega
   have hie:i=n0:=by omega
   have HR:idxH p L= -1:=by
    have h1:L.findIdx? p=none:=List.findIdx?_eq_none_iff.2 λx hx=>by
     obtain⟨j,hj,he⟩:=List.getElem_of_mem hx;exact S.out.2 j x (by have:=HN.out;omega) za2
    rw[idxH,h1]
   have E:=S.out.1;clear S hg hie;go_wp2_with fail
   go_ret
   exact⟨_,rfl,E,by first|rfl| (rw[HR];rfl)⟩
end
section
open Go Go.RowKit
open Go.Proofs.Tryz
theorem jw{P:Prop}(h:P:=by simpa [Value.cells]using hu):P:=h
set_option maxRecDepth 100000
set_option maxHeartbeats 8000000
attribute [local go_sem] Oper.semAt_some
def z32':List Value:= [.string ⟨#[]⟩,.slice none 0 0,.slice none 0 0,.bool false,.slice none 0 0,.slice none 0 0,.slice none 0 0,.int .i64 0,.bool false,.slice none 0 0,.slice none 0 0,.slice none 0 0,.int .i64 0,.int .i64 0,.int .i64 0,.int .i64 0,.slice none 0 0,.slice none 0 0,.slice none 0 0,.slice none 0 0,.bool false,.slice none 0 0,.bool false,.slice none 0 0,.slice none 0 0,.slice none 0 0,.slice none 0 0,.slice none 0 0,.slice none 0 0,.slice none 0 0,.slice none 0 0,.slice none 0 0]
theorem nwZ32:∀v∈z32',NoWord v:=by
 intro v hv;have:z32'.all (λv=>match v with| .string _=>true| .slice _ _ _=>true| .int .i64 _=>true| .bool _=>true|_=>false)=true:=rfl;have h:=List.all_eq_true.1 this v hv;cases v with
 |string s=>exact NoWord.string s
 |slice a n c=>exact NoWord.slice _ _ _
 |bool b=>exact NoWord.bool _
 |int k z=>cases k <;> first|exact NoWord.int64 _|cases h
 |_=>cases h
theorem al_Hd(w:World):(Instr.alloc 98 true (.tuple #[])).run prog w=.ok (.pointer (some ⟨w.heap.size,0,none⟩)) (w.alloc (.cells z32'.toArray 98)):=by unfold z32';go_simp
theorem st_HdV:StV prog 98 32:=stM za
theorem ld_HdV:LdV prog 98 32:=λw g vs hl B=>ldM za za hl (λj v hj=>by rw[Nat.zero_add];exact B.c j v hj)
theorem lv_Hd{w:World}{g:Nat}{vs:List Value}(hl:vs.length=32)(B:Bk w g vs):(loadVar 98 ⟨g,0,none⟩).run prog w=.ok (.agg vs.toArray) w:=lvM za za hl B
theorem HdR.only{L:List (List Value)}{g b:Nat}{W W':World}(h:HdR L g W)(O:Ob b W W')(hne:g≠b):HdR L g W':=λj vs hj q u hq=>
 (World.cell?_of_block (w:=W) (a:=⟨g,_,none⟩) (O.block g (World.block_lt_of_cell? W ⟨g,_,none⟩ (h j vs hj q u hq)) hne)).trans (h j vs hj q u hq)
theorem HdB.only{L:List (List Value)}{g b:Nat}{W W':World}(h:HdB L g W)(O:Ob b W W')(hne:g≠b):HdB L g W':=⟨h.1.only O hne,let ⟨cs,h1,h2⟩:=h.2;⟨cs,O.bk h1 hne,h2⟩⟩
theorem Ob.ext'{g:Nat}{a b c:World}(x:Ob g a b)(e:Ext b c):Ob g a c:=x.trans ⟨e.os,e.tape,e.output,e.size,λk hk _=>e.block k hk,e.gr⟩
theorem Ob.newB{g k:Nat}{a b c:World}(x:Ob g a b)(O:OnlyB k b c)(hk:a.heap.size<=k):Ob g a c:=
 ⟨O.os.trans x.os,O.tape.trans x.tape,O.output.trans x.output,by rw[O.size];exact x.size,λj hj hg=>(O.block j (by omega)).trans (x.block j hj hg),x.gr.trans O.gr⟩
theorem fil_take{p:List Value->Bool}{L:List (List Value)}{j:Nat}{vs:List Value}(h:L[j]? =some vs):(L.take (j+1)).filter p=(L.take j).filter p++(if p vs then [vs]else []):=by
 rw[List.take_add_one,h];rw[List.filter_append];cases hp:p vs <;> simp[hp]
theorem zC_len(n:Nat):(Builtin.zeroCells (Value.agg z32'.toArray).cells n).toList.length=n*32:=by
 simp[Builtin.zeroCells,Value.cells,z32']
theorem zC_nw(n:Nat):∀v∈(Builtin.zeroCells (Value.agg z32'.toArray).cells n).toList,NoWord v:=zero_nw (λu hu=>nwZ32 u jw) n
theorem clr_run{L:List (List Value)}{g i n ty:Nat}{T:TypeId}{W:World}(hB:HdB L g W)(hn:L.length=n)(hi:i<n)(hL:∀vs∈L,vs.length=32)(c:Nat)(hT:T=37:=by rfl):
  ∃W',(Builtin.clear_ #[T] ty #[.slice (some ⟨g,32*i,none⟩) (n-i) c]).run prog W=.ok (.tuple #[]) W'/\OnlyB g W W'/\HdB (L.take i) g W':=by
 subst hT;obtain⟨hR,cs,B,hl,hnw⟩:=hB;obtain⟨zs,hzs⟩:∃zs,(Builtin.zeroCells (Value.agg z32'.toArray).cells (n-i)).toList=zs:=⟨_,rfl⟩;have hzl:zs.length=(n-i)*32:=by rw[<-hzs];exact zC_len _
 have hzn:∀v∈zs,NoWord v:=by rw[<-hzs];exact zC_nw _
 obtain⟨cs',O,B',h1,h2,h3⟩:=Bk.ovr zs (32*i) B (by omega) hnw hzn;refine⟨xJ W g (32*i) zs,?_,O,λj vs hj q u hq=>?_,cs',B',by rw[List.length_take];omega,h2⟩
 ·have ht:prog.underlying 37=some (.slice 98):=by kernel_rfl
  have hv:∀w,(zeroValue 98).run prog w=.ok (.agg z32'.toArray) w:=λw=>by unfold z32';go_simp
  have h1c:∀v∈zs,v.oneCell'=true:=by
   intro v hv;rw[<-hzs]at hv;simp[Builtin.zeroCells,Value.cells]at hv;obtain⟨q,hq,rfl⟩:=hv;have hall:z32'.all (λu=>u.oneCell')=true:=rfl;have hq':q%z32'.length<z32'.length:=jV _ dcx;rw[List.getElem?_eq_getElem hq'];exact List.all_eq_true.1 hall _ (List.getElem_mem hq')
  have hst:=run_storeCells_cells (P:=prog) g (32*i) zs 0 W (λj hj=>by
    have hlt:32*i+j<cs.length:=by omega
    rw[Nat.add_zero,B.c _ _ (List.getElem?_eq_getElem hlt)];rfl) (λj hj=>B.f _) h1c
  simp only[Nat.add_zero]at hst;obtain⟨m,hm⟩:∃m,n-i=m+1:=⟨n-i-1,by omega⟩;rw[hm]at hzs ⊢;simp[Builtin.clear_,run_underlying ht,hv,hzs,hst,setCellsL]
 ·refine B'.c _ u ?_;have hjl:j<i:=by have:=(List.getElem?_eq_some_iff.1 hj).1;rw[List.length_take]at this;omega
  have hj':L[j]? =some vs:=by rw[<-hj,List.getElem?_take,if_pos hjl]
  have hql:=(List.getElem?_eq_some_iff.1 hq).1;have hv:=hL vs (List.mem_of_getElem? hj');rw[h3,if_neg (by omega)];have hc:=hR j vs hj' q u hq;have hlt:32*j+q<cs.length:=by omega
  rw[List.getElem?_eq_getElem hlt];rw[B.c _ _ (List.getElem?_eq_getElem hlt)]at hc;exact hc
theorem delHd_f{w:World}{L:List (List Value)}{f:FuncId}{caps:List Value}{p:List Value->Bool}{g n0 c:Nat}(he:∀args w,(callFunc f args).run prog w=.ok (.enter f args) w)(hn:L.length=n0)(hl:n0<=1000000)(hc:n0<=c)(hL:∀vs∈L,HdOk vs)(hB:HdB L g w)
  (HF:∀vs∈L,∀w',Ob g w w'->Calls prog f (.agg vs.toArray ::caps).toArray w' (Ret w' (IsV (.bool (p vs))))):
  Calls prog 183 #[.slice (some ⟨g,0,none⟩) n0 c,.func (.func f) #[] caps.toArray] w (λe w'=>Ob g w w'/\e=.returned (.slice (some ⟨g,0,none⟩) (L.filter (λvs=> !p vs)).length c)/\HdB (L.filter (λvs=> !p vs)) g w'):=by
 have hidx:=idxHd_f (c:=c) (ao:=some ⟨g,0,none⟩) he hn hl (λvs hv=>(hL vs hv).1) rfl (λ_=>⟨g,rfl,hB.1⟩) (λvs hv w' e=>HF vs hv w' ⟨e.os,e.tape,e.output,e.size,λk hk _=>e.block k hk,e.gr⟩);have HN:=hid hn;have HL:=hid (jO hl hc);have HF:=hid HF;have HLL:=hid hL;have hgl:=hB.lt;have HB0:=hid hB;clear hn hl hL hB hc;obtain⟨ix,hix⟩:∃ix,idxH p L=ix:=⟨_,rfl⟩;rw[hix]at hidx;have HIX:=hid hix;clear hix;go_enter func183,ntmps183;go_upto_region 2 with(go_at_call 218;refine jJ hidx ?_;rintro e w1 ⟨_,rfl,e1,rfl⟩);clear hidx;have O1:Ob g w w1:=⟨e1.os,e1.tape,e1.output,e1.size,λk hk _=>e1.block k hk,e1.gr⟩;replace HB0:=hid (HB0.out.ext e1);replace hgl:=Nat.lt_of_lt_of_le hgl e1.size;clear e1;cases hfi:L.findIdx? p with
 | none=>
  have hix:ix= -1:=by have:=HIX.out;rw[idxH,hfi]at this;exact this.symm
  have hfl:L.filter (λvs=> !p vs)=L:=List.filter_eq_self.2 λvs hv=>by
   have:=(List.findIdx?_eq_none_iff.1 hfi) vs hv;simp[this]
  subst hix;go_wp2_with fail
  go_ret
  exact⟨O1,by rw[hfl,HN.out];rfl,by rw[hfl];exact HB0.out⟩
 | some i0=>
  have hix:ix=(i0:Nat):=by have:=HIX.out;rw[idxH,hfi]at this;exact this.symm
  subst hix;obtain⟨hi0,hpi,hbf⟩:=List.findIdx?_eq_some_iff_getElem.1 hfi;have hi0':i0<n0:=by have:=HN.out;omega
  have HI0:=hid (show(L.take (i0+1)).filter (λvs=> !p vs)=L.take i0 by
   rw[fil_take (List.getElem?_eq_getElem hi0),hpi];simp only[Bool.not_true,Bool.false_eq_true,if_false,List.append_nil];refine List.filter_eq_self.2 λvs hv=>?_
   obtain⟨j,hj,hjv⟩:=List.getElem_of_mem hv;rw[List.length_take]at hj;rw[List.getElem_take]at hjv;have:=hbf j (by omega);rw[hjv]at this
   simpa using this)
  have hne:¬(i0:Int)= -1:=by omega
  have hw1:IntKind.i64.wrap ((i0:Int)+1)=((i0+1:Nat):Int):=by have:=HL.out;simp only[IntKind.wrap_i64];omega
  have HI1:=hid hi0';clear hbf hpi hfi hi0 hi0';go_wp2_with fail;clear hne hw1
  go_loopg [5,6] (n0-i0) (λgk v5 v6 wr=>∃(i j:Nat) (cur:List (List Value)),v5=.int .i64 (i:Int)/\v6=.int .i64 (j:Int)/\j+gk=n0+1/\Hid (i<j/\j<=n0/\cur.length=n0/\(∀vs∈cur,HdOk vs)/\cur.take i=(L.take j).filter (λvs=> !p vs)/\cur.drop j=L.drop j/\HdB cur g wr/\Ob g w wr))
  case atStart=>exact⟨i0,i0+1,L,rfl,rfl,by have:=HI1.out;omega,hid ⟨Nat.lt_succ_self _,HI1.out,HN.out,HLL.out,HI0.out.symm,rfl,HB0.out,O1⟩⟩
  case round=>
   obtain⟨i,j,cur,rfl,rfl,hjg,S⟩:=hrel;clear HB0 O1;by_cases hj:j<n0
   ·obtain⟨s1,s2,s3,s4,s5,s6,s7,s8⟩:=S.out;obtain⟨vs,hd⟩:∃d,L[j]? =some d:=zl
    have hdc:cur[j]? =some vs:=by
     have h1:(cur.drop j)[0]? =(L.drop j)[0]? :=by rw[s6]
     rw[List.getElem?_drop,List.getElem?_drop]at h1;rw[Nat.add_zero]at h1;rw[h1,hd]
    have hok:=HLL.out vs (List.mem_of_getElem? hd);have HD:=hid hd;have HJ:=hid (jO hj (show j+1+(gk-1)=n0+1 by omega));have HG:=hid (show 0<gk by omega);have HS:=hid (jO s1 (jO s2 (jO s3 (jO s4 (jO s5 s6)))));have hjl:(j:Int)<(n0:Int):=by omega
    have hwj:=hid (show IntKind.i64.wrap ((j:Int)+1)=((j+1:Nat):Int)by have:=HL.out;simp only[IntKind.wrap_i64];omega);have hwi:=hid (show IntKind.i64.wrap ((i:Int)+1)=((i+1:Nat):Int)by have:=HL.out;simp only[IntKind.wrap_i64];omega);have hij:=hid (jO s1 hj);clear hd hj hjg s1 s2 s3 s4 s5 s6 S;go_upto_region 7 with fail;clear hjl;refine rgs 4 (dR 22 4) [IsV (.slice (some ⟨g,0,none⟩) n0 c),iV (j:Int),IsP g (32*j),IsV (.agg vs.toArray)] [] ?_ ?_
    ·refine Rc zv ?_;refine Rc (mv (qB (x:=.int .i64 (j:Int)) 6)) ?_;refine Rc (ixq (ix_Hd g c n0 j hij.out.2) (qA 0 22) (qA 1 23)) ?_;refine Rc (lv (fP:=IsV (.agg vs.toArray)) _ (λw' e=>ld_Hd (s7.1.ext e) hdc hok.1) (qA 2 24) (λ_ _=>rfl)) ?_;exact rn0
    intro v X1 e1 hZ _;simp only[lxE,Nat.reduceAdd];rw[show v 3=.agg vs.toArray from hZ 3 dcx];clear hZ hdc;replace s7:=s7.ext e1;replace s8:=s8.ext' e1;clear e1;refine stL (λK hK=>?_);refine xF (vs:=z32') al_Hd (λBn e3=>hK _ _ ?_);obtain⟨g7,hg7⟩:∃g,X1.heap.size=g:=⟨_,rfl⟩;have hgg:g<g7:=by rw[<-hg7];exact s7.lt
    have hww:w.heap.size<=g7:=by rw[<-hg7];exact s8.size
    rw[hg7]at Bn ⊢;generalize X1.alloc (.cells z32'.toArray 98)=Y1 at Bn e3 ⊢;replace s7:=s7.ext e3;replace s8:=s8.ext' e3;clear hK K e3 hg7
    go_simp
    refine stL (λK hK=>?_);refine qZ (us:=vs) Bn st_HdV rfl hok.1 nwZ32 (λX2 B7 O=>hK _ _ ?_) (ho1:=hok.2.1);replace s7:=s7.only (Ob.only O) (by omega);replace s8:=s8.newB O hww;clear hK K O Bn;refine jL ?_;go_upto_region 8 with fail;obtain⟨b,hb⟩:∃b,p vs=b:=⟨_,rfl⟩;refine rgs 4 (dR 26 4) [IsV (.func (.func f) #[] caps.toArray),IsV (.agg vs.toArray),IsV (.bool b),IsV (.bool (!b))] [] ?_ ?_
    ·refine Rc xb ?_;refine Rc (lvV B7 ld_HdV (qB 7) hok.1) ?_;refine Rc (cv1 (caps:=caps) he (qA 0 26) (qA (fP:=IsV (.agg vs.toArray)) 1 27) (λx0 w' hE d0=>by{obtain rfl:x0=_:=d0;have hq:=HF.out vs (List.mem_of_getElem? HD.out) w' (s8.ext' hE);rw[hb]at hq;exact hq})) ?_;refine Rc (un (r:=.bool (!b)) (qA (fP:=IsV (.bool b)) 2 28) (hr:=λw=>by go_simp)) ?_;exact rn0
    intro v X3 e1 hZ _;simp only[lxE,Nat.reduceAdd];rw[show v 3=.bool (!b)from hZ 3 dcx];clear hZ;replace s7:=s7.ext e1;replace s8:=s8.ext' e1;replace B7:=B7.ext e1;clear e1;refine jL ?_;cases b with
    | true=>
     have S':=hid (show i<j+1/\j+1<=n0/\cur.length=n0/\(∀vs∈cur,HdOk vs)/\cur.take i=(L.take (j+1)).filter (λvs=> !p vs)/\cur.drop (j+1)=L.drop (j+1)/\HdB cur g X3/\Ob g w X3 from by
      obtain⟨t1,t2,t3,t4,t5,t6⟩:=HS.out;refine⟨by omega,hij.out.2,t3,t4,?_,?_,s7,s8⟩
      ·rw[fil_take HD.out,hb,t5];simp
      ·rw[<-List.drop_drop,t6,List.drop_drop])
     clear s7 s8 HS B7 hb;have hx9:=hwj.out;go_wp2_with fail
     go_roundg (gk-1)
     case measure=>have:=HG.out;omega
     case rel=>exact⟨i,j+1,cur,rfl,rfl,HJ.out.2,S'⟩
    | false=>
     go_upto_region 9 with fail;have hil:i<cur.length:=by have:=HS.out.2.2.1;have:=hij.out;omega
     refine rgs 4 (dR 30 4) [IsV (.slice (some ⟨g,0,none⟩) n0 c),iV (i:Int),IsV (.agg vs.toArray),IsP g (32*i)] [] ?_ ?_
     ·refine Rc zv ?_;refine Rc zt ?_;refine Rc (lvV B7 ld_HdV (qB 7) hok.1) ?_;refine Rc (ixq (ix_Hd g c n0 i (by have:=hij.out;omega)) (qA 0 30) (qA 1 31)) ?_;exact rn0
     intro v X4 e1 hZ _;simp only[lxE,Nat.reduceAdd];rw[show v 2=.agg vs.toArray from hZ 2 dcx,show v 3=.pointer (some ⟨g,32*i,none⟩)from hZ 3 dcx];clear hZ;replace s7:=s7.ext e1;replace s8:=s8.ext' e1;clear e1 B7;obtain⟨O,s7'⟩:=s7.set (λvs hv=>(HS.out.2.2.2.1 vs hv).1) hil hok;have hst:=st_Hd s7 hil hok;refine stL (λK hK=>?_);refine st_wp rfl za za hst ?_;refine hK _ _ ?_;generalize xJ X4 g (32*i) vs=X5 at O s7' ⊢;have s8':=s8.trans (Ob.only O);clear hK K hst s7 s8;refine jL ?_
     have S':=hid (show i+1<j+1/\j+1<=n0/\(cur.set i vs).length=n0/\(∀x∈cur.set i vs,HdOk x)/\(cur.set i vs).take (i+1)=(L.take (j+1)).filter (λvs=> !p vs)/\(cur.set i vs).drop (j+1)=L.drop (j+1)/\HdB (cur.set i vs) g X5/\Ob g w X5 from by
      obtain⟨t1,t2,t3,t4,t5,t6⟩:=HS.out;refine⟨by omega,hij.out.2,by rw[List.length_set,t3],λx hx=>(List.mem_or_eq_of_mem_set hx).elim (t4 x) (λe=>e▸hok),?_,?_,s7',s8'⟩
      ·rw[fil_take HD.out,hb,<-t5];simp only[Bool.not_false,if_true];rw[List.take_add_one,List.getElem?_set,if_pos rfl,if_pos hil,List.take_set_of_le (jP _)];rfl
      ·rw[List.drop_set_of_lt (by omega),<-List.drop_drop,t6,List.drop_drop])
     clear s7' s8' HS O hb;have hx9:=hwj.out;have hx8:=hwi.out;go_wp2_with fail
     go_roundg (gk-1)
     case measure=>have:=HG.out;omega
     case rel=>exact⟨i+1,j+1,cur.set i vs,rfl,rfl,HJ.out.2,S'⟩
   ·have hjl:¬(j:Int)<(n0:Int):=by omega
    go_upto_region 11 with fail;obtain⟨s1,s2,s3,s4,s5,s6,s7,s8⟩:=S.out;clear S;have hjn:j=n0:=by omega
    subst hjn;have s5:cur.take i=L.filter (λvs=> !p vs):=by rw[s5,List.take_of_length_le (by rw[HN.out];exact jP _)]
    have hfl:(L.filter (λvs=> !p vs)).length=i:=by rw[<-s5,List.length_take,s3];omega
    have b1:(0:Int)<=(i:Int):=by omega
    have b2:(i:Int)<=(j:Int):=by omega
    have b3:(j:Int)<=(c:Int):=by have:=HL.out.2;omega
    have b4:(i:Int)<=(c:Int):=by omega
    have b5:¬c=i:=by have:=HL.out.2;omega
    have b6:i*32=32*i:=by omega
    refine rgs 2 [some 36,some 37] [IsV (.slice (some ⟨g,0,none⟩) j c),iV (i:Int)] [] ?_ ?_
    ·refine Rc zv ?_;refine Rc zt ?_;exact rn0
    intro v X1 e1 hZ _;simp only[lxE,Nat.reduceAdd];rw[show v 0=.slice (some ⟨g,0,none⟩) j c from hZ 0 dcx,show v 1=.int .i64 (i:Int)from hZ 1 dcx];clear hZ;replace s7:=s7.ext e1;replace s8:=s8.ext' e1
    try simp only[dxE]
    refine jX λK hK=>?_
    go_simp
    refine hK _ _ ?_;clear hK K;obtain⟨W11,hrun,O2,s9⟩:=clr_run (T:=37) (ty:=0) s7 s3 (show i<j from s1) (λvs hv=>(s4 vs hv).1) (c-i);refine jX λK hK=>?_
    go_simp
    refine hK _ _ ?_;clear hK K hrun;refine jL ?_;go_wp2_with fail
    go_ret
    exact⟨s8.trans (Ob.only O2),by first|rfl| (rw[hfl];rfl),by rw[<-s5];exact s9⟩
end
section
open Go Go.RowKit
open Go.Proofs.Tryz
theorem jv{P:Prop}(h:P:=by have:=HL.out;have:=HN.out;simp only[IntKind.wrap_i64];omega):P:=h
set_option maxRecDepth 100000
set_option maxHeartbeats 4000000
attribute [local go_sem] Oper.semAt_some
def IrR(hs:List Int)(v:Value)(w:World):Prop:=∃ao c,v=.slice ao hs.length c/\(hs≠ []->∃g o,ao=some ⟨g,o,none⟩/\∀j x,hs[j]? =some x->World.cell? w ⟨g,o+j,none⟩=some (.int .i64 x))
theorem IrR.ext{hs:List Int}{v:Value}{w w':World}(h:IrR hs v w)(e:Ext w w'):IrR hs v w':=by
 obtain⟨ao,c,h1,h2⟩:=h;exact⟨ao,c,h1,λhn=>let ⟨g,o,k1,k2⟩:=h2 hn;⟨g,o,k1,λj x hj=>e.cell (k2 j x hj)⟩⟩
theorem ix_Ir(g o c n j:Nat)(h:j<n)(w:World):(Instr.indexAt 41 (.slice (some ⟨g,o,none⟩) n c) (.int .i64 (j:Int))).run prog w=.ok (.pointer (some ⟨g,o+j,none⟩)) w:=by
 have h1:(0:Int)<=(j:Int):=by omega
 have h2:(j:Int)<(n:Int):=by omega
 go_simp
def fidx{α:Type}(p:α->Bool)(L:List α):Int:=match L.findIdx? p with
 |none=> -1
 |some i=>(i:Nat)
theorem fidx_hit{α:Type}{p:α->Bool}{L:List α}{i:Nat}{d:α}(h:L[i]? =some d)(hp:p d=true)(hb:∀(j:Nat) (e:α),j<i->L[j]? =some e->p e=false):fidx p L=(i:Nat):=by
 have hlt:=(List.getElem?_eq_some_iff.1 h).1
 have h1:L.findIdx? p=some i:=by
  rw[List.findIdx?_eq_some_iff_getElem];refine⟨hlt,by rw[(List.getElem?_eq_some_iff.1 h).2];exact hp,λj hj=>?_⟩;have:=hb j _ hj (List.getElem?_eq_getElem (by omega));simp[this]
 rw[fidx,h1]
theorem fidx_miss{α:Type}{p:α->Bool}{L:List α}(hb:∀(j:Nat) (e:α),L[j]? =some e->p e=false):fidx p L= -1:=by
 have h1:L.findIdx? p=none:=List.findIdx?_eq_none_iff.2 λx hx=>by
  obtain⟨j,hj,he⟩:=List.getElem_of_mem hx;exact hb j x za2
 rw[fidx,h1]
theorem fidx_any{α:Type}(p:α->Bool)(L:List α):decide (0<=fidx p L)=L.any p:=by
 unfold fidx;cases h:L.findIdx? p with
 | none=>
  have:=List.findIdx?_eq_none_iff.1 h;simp only[show decide ((0:Int)<= -1)=false from rfl];symm;rw[List.any_eq_false];intro x hx;simp[this x hx]
 | some i=>
  obtain⟨h1,h2,_⟩:=List.findIdx?_eq_some_iff_getElem.1 h;rw[show decide ((0:Int)<=(i:Nat))=true from by simp];symm;rw[List.any_eq_true];exact⟨_,List.getElem_mem h1,h2⟩
theorem idxI_f{w:World}{hs:List Int}{v:Value}{x:Int}(hv:IrR hs v w)(hl:hs.length<=1000000):Calls prog 220 #[v,.int .i64 x] w (Ret w (iV (fidx (λy=>decide (y=x)) hs))):=by
 obtain⟨ao,c,rfl,hcs⟩:=hv;obtain⟨n0,hn0⟩:∃n0,hs.length=n0:=⟨_,rfl⟩;have HN:=hid hn0;have HL:=hid hl;rw[hn0];have HCS:=hid hcs;clear hcs hn0 hl;go_enter func220,ntmps220
 go_wp2
 go_loopg [8] n0 (λgk v8 wr=>∃(i:Nat),v8=.int .i64 (i:Int)/\i+gk=n0/\Hid (wr=w/\∀(j:Nat) (e:Int),j<i->hs[j]? =some e->decide (e=x)=false))
 case atStart=>exact⟨0,rfl,by omega,hid ⟨rfl,λj e hj=>absurd hj (Nat.not_lt_zero _)⟩⟩
 case round=>
  obtain⟨i,rfl,hg,S⟩:=hrel;have hwr:=S.out.1;subst hwr;by_cases hi:i<n0
  ·obtain⟨y,hd⟩:∃d,hs[i]? =some d:=zl;obtain⟨g,o,rfl,hc⟩:=HCS.out xm;have hcx:=hc i y hd;have hgI:=ix_Ir g o c n0 i hi;have HI:=hid (show i+1+(gk-1)=n0 by omega);have HD:=hid hd;have hil:(i:Int)<(n0:Int):=by omega
   have hiw:IntKind.i64.wrap ((i:Int)+1)=((i+1:Nat):Int):=jv
   have HG:=hid (show 0<gk by omega);clear hc hd hg hi;by_cases hx:y=x
   ·have HR:=fidx_hit (p:=λy=>decide (y=x)) HD.out (by simpa using hx) S.out.2;subst hx;clear S;go_wp2_with fail
    go_ret
    exact⟨_,rfl,Ext.refl _,by first|rfl| (rw[HR];rfl)⟩
   ·have S':=hid (show wr=wr/\∀(j:Nat) (e:Int),j<i+1->hs[j]? =some e->decide (e=x)=false from⟨rfl,λj e hj he=>by
     rcases Nat.lt_succ_iff_lt_or_eq.1 hj with h|h
     ·exact S.out.2 j e h he
     ·subst h;rw[HD.out]at he;cases he;simpa using hx⟩)
    have hx':¬x=y:=λe=>hx e.symm
    clear S;go_wp2_with fail
    go_roundg (gk-1)
    case measure=>have:=HG.out;omega
    case rel=>exact⟨i+1,rfl,HI.out,hid ⟨rfl,S'.out.2⟩⟩
  ·have hil:¬(i:Int)<(n0:Int):=by omega
   have hie:i=n0:=by omega
   have HR:=fidx_miss (p:=λy=>decide (y=x)) (L:=hs) (λj e he=>S.out.2 j e xa he);clear S hg hie;go_wp2_with fail
   go_ret
   exact⟨_,rfl,Ext.refl _,by first|rfl| (rw[HR];rfl)⟩
theorem hasI_f{w:World}{hs:List Int}{v:Value}{x:Int}(hv:IrR hs v w)(hl:hs.length<=1000000):Calls prog 187 #[v,.int .i64 x] w (Ret w (IsV (.bool (hs.any (λy=>decide (y=x)))))):=by
 have h:=fidx_any (λy=>decide (y=x)) hs;have hc:=idxI_f (x:=x) hv hl;generalize fidx (λy=>decide (y=x)) hs=r at h hc;go_enter func187,ntmps187;go_wp2_with (go_at_call 220;refine hc.mono ?_;rintro e w1 ⟨_,rfl,e1,rfl⟩)
 go_ret
 exact⟨_,rfl,e1,by first|rfl| (rw[<-h];rfl)⟩
theorem not1_f{w:World}{gs:List Int}{gv:Value}{x:Int}{b:Nat}(cb:World.cell? w ⟨b,0,none⟩=some gv)(hv:IrR gs gv w)(hl:gs.length<=1000000):Calls prog 186 #[.int .i64 x,.pointer (some ⟨b,0,none⟩)] w (Ret w (IsV (.bool (!gs.any (λy=>decide (y=x)))))):=by
 have hc:=hasI_f (x:=x) hv hl;obtain⟨ao,c,rfl,_⟩:=hv;generalize gs.any (λy=>decide (y=x))=r at hc;go_enter func186,ntmps186;go_wp2_with (go_at_call 187;refine hc.mono ?_;rintro e w1 ⟨_,rfl,e1,rfl⟩)
 go_ret
 exact⟨_,rfl,e1,rfl⟩
theorem idxF_f{w:World}{hs gs:List Int}{v gv:Value}{b:Nat}(hv:IrR hs v w)(hl:hs.length<=1000000)(cb:World.cell? w ⟨b,0,none⟩=some gv)(hg:IrR gs gv w)(hgl:gs.length<=1000000):
  Calls prog 219 #[v,.func (.func 186) #[] #[.pointer (some ⟨b,0,none⟩)]] w (Ret w (iV (fidx (λx=> !gs.any (λy=>decide (y=x))) hs))):=by
 obtain⟨ao,c,rfl,hcs⟩:=hv;obtain⟨n0,hn0⟩:∃n0,hs.length=n0:=⟨_,rfl⟩;have HN:=hid hn0;have HL:=hid hl;rw[hn0];have HCS:=hid hcs;have HCB:=hid (jO cb (jO hg hgl));clear hcs hn0 hl cb hg hgl;go_enter func219,ntmps219
 go_wp2
 go_loopg [8] n0 (λgk v8 wr=>∃(i:Nat),v8=.int .i64 (i:Int)/\i+gk=n0/\Hid (Ext w wr/\∀(j:Nat) (e:Int),j<i->hs[j]? =some e->(!gs.any (λy=>decide (y=e)))=false))
 case atStart=>exact⟨0,rfl,by omega,hid ⟨Ext.refl _,λj e hj=>absurd hj (Nat.not_lt_zero _)⟩⟩
 case round=>
  obtain⟨i,rfl,hg,S⟩:=hrel;by_cases hi:i<n0
  ·obtain⟨x,hd⟩:∃d,hs[i]? =some d:=zl;obtain⟨g,o,rfl,hc⟩:=HCS.out xm;have E:=S.out.1;have hcx:=E.cell (hc i x hd);have hgI:=ix_Ir g o c n0 i hi;have HI:=hid (show i+1+(gk-1)=n0 by omega);have HD:=hid hd;have hil:(i:Int)<(n0:Int):=by omega
   have hiw:IntKind.i64.wrap ((i:Int)+1)=((i+1:Nat):Int):=jv
   have HG:=hid (show 0<gk by omega);have he:=en func186;obtain⟨r,hr⟩:∃r,(!gs.any (λy=>decide (y=x)))=r:=⟨_,rfl⟩;have hcon:=not1_f (x:=x) (E.cell HCB.out.1) (HCB.out.2.1.ext E) HCB.out.2.2;rw[hr]at hcon;have HR0:=hid hr;clear hc hd hg hi hr;cases r with
   | true=>
    have HR:=fidx_hit (p:=λx=> !gs.any (λy=>decide (y=x))) HD.out HR0.out S.out.2;clear S;go_wp2_with (go_at_call 186;refine hcon.mono ?_;rintro e w1 ⟨_,rfl,e1,rfl⟩)
    go_ret
    exact⟨_,rfl,E.trans e1,by first|rfl| (rw[HR];rfl)⟩
   | false=>
    have S':=hid (show ∀(j:Nat) (e:Int),j<i+1->hs[j]? =some e->(!gs.any (λy=>decide (y=e)))=false from λj e hj he=>by
     rcases Nat.lt_succ_iff_lt_or_eq.1 hj with h|h
     ·exact S.out.2 j e h he
     ·subst h;rw[HD.out]at he;cases he;exact HR0.out)
    clear S;go_wp2_with (go_at_call 186;refine hcon.mono ?_;rintro e w1 ⟨_,rfl,e1,rfl⟩)
    go_roundg (gk-1)
    case measure=>have:=HG.out;omega
    case rel=>exact⟨i+1,rfl,HI.out,hid ⟨E.trans e1,S'.out⟩⟩
  ·have hil:¬(i:Int)<(n0:Int):=by omega
   have hie:i=n0:=by omega
   have HR:=fidx_miss (p:=λx=> !gs.any (λy=>decide (y=x))) (L:=hs) (λj e he=>S.out.2 j e xa he);have E:=S.out.1;clear S hg hie;go_wp2_with fail
   go_ret
   exact⟨_,rfl,E,by first|rfl| (rw[HR];rfl)⟩
theorem conF_f{w:World}{hs gs:List Int}{v gv:Value}{b:Nat}(hv:IrR hs v w)(hl:hs.length<=1000000)(cb:World.cell? w ⟨b,0,none⟩=some gv)(hg:IrR gs gv w)(hgl:gs.length<=1000000):
  Calls prog 185 #[v,.func (.func 186) #[] #[.pointer (some ⟨b,0,none⟩)]] w (Ret w (IsV (.bool (hs.any (λx=> !gs.any (λy=>decide (y=x))))))):=by
 have h:=fidx_any (λx=> !gs.any (λy=>decide (y=x))) hs;have hc:=idxF_f hv hl cb hg hgl;generalize fidx (λx=> !gs.any (λy=>decide (y=x))) hs=r at h hc;go_enter func185,ntmps185;go_wp2_with (go_at_call 219;refine hc.mono ?_;rintro e w1 ⟨_,rfl,e1,rfl⟩)
 go_ret
 exact⟨_,rfl,e1,by first|rfl| (rw[<-h];rfl)⟩
def xH(vs:List Value):ByteArray:=match vs[0]? with|some (Value.string x)=>x|_=>⟨#[]⟩
theorem find1_g{w:World}{vs:List Value}{x y:ByteArray}{b:Nat}(h0:vs[0]? =some (.string y))(cb:World.cell? w ⟨b,0,none⟩=some (.string x)):Calls prog 217 #[.agg vs.toArray,.pointer (some ⟨b,0,none⟩)] w (Ret w (IsV (.bool (!decide (y=x))))):=by
 obtain⟨W,hW,E,c0⟩:∃W,W=w.alloc (.cells vs.toArray 98)/\Ext w W/\World.cell? W ⟨w.heap.size,0,none⟩=some (.string y):=⟨_,rfl,(Ext.refl w).alloc _,(Bk.new w vs.toArray _).c 0 _ h0⟩;replace cb:=E.cell cb;have hb:=ba_listE y x;go_enter func217,ntmps217;go_upto_region 1 with fail;rw[<-hW];clear hW;go_wp2_with fail
 go_ret
 exact⟨_,rfl,E,rfl⟩
theorem best1_g{w:World}{vs:List Value}{hs gs:List Int}{hv gv:Value}{b:Nat}(h30:vs[30]? =some hv)(hh:IrR hs hv w)(hl:hs.length<=1000000)(cb:World.cell? w ⟨b,0,none⟩=some gv)(hg:IrR gs gv w)(hgl:gs.length<=1000000):
  Calls prog 184 #[.agg vs.toArray,.pointer (some ⟨b,0,none⟩)] w (Ret w (IsV (.bool (hs.any (λx=> !gs.any (λy=>decide (y=x))))))):=by
 obtain⟨W,hW,E,c30⟩:∃W,W=w.alloc (.cells vs.toArray 98)/\Ext w W/\World.cell? W ⟨w.heap.size,30,none⟩=some hv:=⟨_,rfl,(Ext.refl w).alloc _,(Bk.new w vs.toArray _).c 30 _ h30⟩;have hmf:∀(fn:Fn) (first cap:Array Value) (w:World),(Instr.makeFunc fn first cap).run prog w=.ok (.func fn first cap) w:=λ_ _ _ _=>rfl
 have hc:=conF_f (hh.ext E) hl (E.cell cb) (hg.ext E) hgl;obtain⟨ao,c,rfl,_⟩:=hh;generalize hs.any (λx=> !gs.any (λy=>decide (y=x)))=r at hc;go_enter func184,ntmps184;go_upto_region 1 with fail;rw[<-hW];clear hW;go_wp2_with (go_at_call 185;refine hc.mono ?_;rintro e w1 ⟨_,rfl,e1,rfl⟩)
 go_ret
 exact⟨_,rfl,E.trans e1,rfl⟩
end
section
open Go Go.RowKit
open Go.Proofs.Tryz
set_option maxRecDepth 100000
set_option maxHeartbeats 4000000
attribute [local go_sem] Oper.semAt_some
theorem flat_inv:∀ {L:List (List Value)},(∀vs∈L,vs.length=32)->∀ {j:Nat} {u:Value},L.flatten[j]? =some u->∃vs,L[j/32]? =some vs/\vs[j%32]? =some u
 | [],_,j,u,h=>by simp at h
 | x ::L,hl,j,u,h=>by
  have hx:=hl x List.mem_cons_self;rw[List.flatten_cons]at h;by_cases c:j<32
  ·rw[List.getElem?_append_left (by omega)]at h;exact⟨x,by rw[Nat.div_eq_of_lt c];rfl,by rw[Nat.mod_eq_of_lt c];exact h⟩
  ·rw[List.getElem?_append_right (by omega),hx]at h;obtain⟨vs,h1,h2⟩:=flat_inv (λv hv=>hl v (List.mem_cons_of_mem _ hv)) h;refine⟨vs,?_,?_⟩
   ·rw[show j/32=(j-32)/32+1 by omega];simpa using h1
   ·rw[show j%32=(j-32)%32 by omega];exact h2
theorem Bk.ofBlock{w:World}{g:Nat}{cur:Array Value}{e:TypeId}(h:w.heap[g]? =some (.cells cur e (0,0))):Bk w g cur.toList:=by
 refine⟨λj v hj=>?_,λj=>?_,(Array.getElem?_eq_some_iff.1 h).1⟩
 ·simp only[World.cell?];rw[h];show cur[j]? =some v
  simpa using hj
 ·simp[World.frozen?,h]
def HdO(B:Nat)(L:List (List Value))(v:Value)(w:World):Prop:=(L= []/\v=.slice none 0 0)\/∃g c,v=.slice (some ⟨g,0,none⟩) L.length c/\L.length<=c/\B<=g/\HdB L g w
theorem HdO.of{base n:Nat}{L:List (List Value)}{v:Value}{w:World}(h:Rwg 98 32 base w v n L.flatten)(hn:L.length=n)(hw:NwB w v)(hL:∀vs∈L,vs.length=32):HdO base L v w:=by
 obtain⟨h1,⟨h2,h3⟩| ⟨g,cap,cur,hv,hb,hg,hnc,hc,hsz,ht⟩⟩:=h
 ·subst h3;exact .inl ⟨List.eq_nil_of_length_eq_zero hn,h2⟩
 ·refine .inr ⟨g,cap,by rw[hn];exact hv,by omega,hb,λj vs hj q u hq=>?_,cur.toList,Bk.ofBlock hg,?_,hw g cur _ _ (by rw[hv];rfl) hg⟩
  ·have hf:=flat_at hL hj hq;rw[<-ht,List.getElem?_take]at hf
   split at hf
   ·exact(Bk.ofBlock hg).c _ _ hf
   ·cases hf
  ·have h3:cur.toList.length=cap*32:=by rw[Array.length_toList,hsz]
   show 32*L.length<=cur.toList.length;omega
theorem infoH:∃bytes,(prog.info? 98).map (λi=>(i.zero,i.size,i.bytes))=some (some (.agg z32'.toArray),32,bytes)/\bytes<=100000:=by
 obtain⟨i,hi,hq⟩:=Option.map_eq_some_iff.1 (show(prog.info? 98).map (λi=>(i.zero,i.size,decide (i.bytes<=100000)))=some (some (.agg z32'.toArray),32,true)by kernel_rfl);simp only[Prod.mk.injEq,jY]at hq;obtain⟨h0,h1,h2⟩:=hq;exact⟨i.bytes,by rw[hi];simp[h0,h1],h2⟩
theorem RwgH.zero(w:World){base:Nat}(hb:base<=w.heap.size):Rwg 98 32 base (w.alloc (.cells #[] 98)) (.slice (some ⟨w.heap.size,0,none⟩) 0 0) 0 []:=by
 refine⟨by simp,.inr ⟨w.heap.size,0,#[],rfl,hb,World.alloc_heap_new _ _,?_,?_,?_,?_⟩⟩
 all_goals simp
theorem NwB.zero(w:World)(T:TypeId):NwB (w.alloc (.cells #[] T)) (.slice (some ⟨w.heap.size,0,none⟩) 0 0):=λg cs e fz h ho=>by
 obtain rfl:w.heap.size=g:=by injection h
 rw[World.alloc_heap_new]at ho;cases ho;intro u hu;simp at hu
theorem eqNH(w:World):(binOp .eql 37 (.slice none 0 0) (.slice none 0 0)).run prog w=.ok (.bool true) w:=by kernel_rfl
theorem eqSH(w:World)(a:Addr)(n c:Nat):(binOp .eql 37 (.slice (some a) n c) (.slice none 0 0)).run prog w=.ok (.bool false) w:=by kernel_rfl
def HdS(L:List (List Value))(v:Value)(w:World):Prop:=(L= []/\v=.slice none 0 0)\/∃g c,v=.slice (some ⟨g,0,none⟩) L.length c/\HdR L g w
theorem HdS.ext{L:List (List Value)}{v:Value}{w w':World}(h:HdS L v w)(e:Ext w w'):HdS L v w':=h.imp id λ⟨g,c,h1,h2⟩=>⟨g,c,h1,h2.ext e⟩
theorem cloneH_g{w:World}{L:List (List Value)}{v:Value}(hl:L.length<=1000000)(hL:∀vs∈L,HdOk vs)(hv:HdS L v w):Calls prog 216 #[v] w (λe w'=>Ext w w'/\∃u,e=.returned u/\HdO w.heap.size L u w'):=by
 obtain⟨bytes,hinfo,hby⟩:=infoH;have hL32:∀vs∈L,vs.length=32:=λvs h=>(hL vs h).1
 rcases hv with⟨rfl,rfl⟩| ⟨g,c,rfl,hR⟩
 ·have hq:=eqNH;go_enter func216,ntmps216
  go_wp2
  go_ret
  exact⟨Ext.refl _,_,rfl,.inl ⟨rfl,rfl⟩⟩
 ·have hfl:L.flatten.length=L.length*32:=by rw[flat_len hL32,Nat.mul_comm]
  have hnews:∀j u,L.flatten[j]? =some u->World.cell? (w.alloc (.cells #[] 98)) ⟨g,j,none⟩=some u:=λj u hj=>by
   obtain⟨vs,h1,h2⟩:=flat_inv hL32 hj;have:=hR _ vs h1 _ u h2;rw[show 32*(j/32)+j%32=j by omega]at this;exact((Ext.refl w).alloc _).cell this
  have h1c:∀u∈L.flatten,u.oneCell'=true:=λu hu=>by
   obtain⟨vs,h1,h2⟩:=List.mem_flatten.1 hu;exact List.all_eq_true.1 (hL vs h1).2.1 u h2
  have hnn:∀u∈L.flatten,NoWord u:=λu hu=>by
   obtain⟨vs,h1,h2⟩:=List.mem_flatten.1 hu;exact(hL vs h1).2.2 u h2
  obtain⟨n0,hn0⟩:∃n0,L.length=n0:=⟨_,rfl⟩;have HN:=hid hn0;rw[hn0]at hfl ⊢;have HF:=hid (jO hfl (jO hnews (jO h1c hnn)));have HB:=hid (show(0+n0)*bytes<=140737488355328 by have:=Nat.mul_le_mul (show 0+n0<=1000000 by omega) hby;omega);have HL2:=hid (show 0+n0<=140737488355328 by omega);have HI:=hid hinfo;obtain⟨fl,hfle⟩:∃fl,L.flatten=fl:=⟨_,rfl⟩;rw[hfle]at HF;have HFL:=hid hfle;clear hfl hnews h1c hnn hn0 hinfo hby hL hR hl hfle;have hq:=λw=>eqSH w ⟨g,0,none⟩ n0 c
  go_enter func216,ntmps216;go_wp2_with (at_builtin;go_must (refine wpl_rwn rfl _ _ 37 rfl w.heap.size 98 (.agg z32'.toArray) 32 bytes za HI.out zb6 dcx (λu hu=>nwZ32 u jw) _ 0 [] rfl (RwgH.zero w (jP _)) (NwB.zero w _) g n0 c fl rfl HF.out.1 HF.out.2.1 HF.out.2.2.1 HF.out.2.2.2 HL2.out HB.out (by simp) ?_;intro v4 w4 hr4 hw4 hg4 gr4 hb4 ho4))
  go_ret
  refine⟨Below.trans ((Ext.refl w).alloc _) hb4,_,rfl,HdO.of (n:=n0) (by simpa [HFL.out]using hr4) HN.out hw4 hL32⟩
end
end Go.Proofs.YtkeikfekkdplgaaGreatDoor
