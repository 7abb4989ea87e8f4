/-
  The reference's trees: build answers some right expression of at most so many levels. (Printed by wip/gen/ntr.py.)
-/
import Derived.Test.YtenhciieboegbaaGreatDoorNex3
import Derived.Test.YtenhciieboegbaaGreatDoorFact
namespace Go.Proofs.YtenhciieboegbaaGreatDoor
open Go Go.RowKit Go.Maps
open Go.Proofs.Tryz
theorem jd{P:Prop}(h:P:=by exact mv (qC (x:=.int .i64 (x)) 10)):P:=h
theorem ji{P:Prop}(h:P:=by exact mv (qC (x:=.slice (some ⟨gb,0,none⟩) nb cb) 2)):P:=h
theorem jy{P:Prop}(h:P:=by have:=HX.out;omega):P:=h
set_option maxRecDepth 100000
set_option maxHeartbeats 8000000
inductive Ex where
  |num (z:Int)|var (x:ByteArray)|cell (x:ByteArray)|val (x:ByteArray) (n:Int)|loop (fst:Bool) (x:ByteArray) (lo hi:Int) (b:Ex)|bin (op:Int) (p q:Ex)
abbrev bl(x:ByteArray):List UInt8:=x.data.toList
def ndE:Ex->Nd
  | .num z=>⟨1, [],0,z,0,0, []⟩
  | .var x=>⟨11,bl x,0,0,0,0, []⟩
  | .cell x=>⟨2,bl x,0,0,0,0, []⟩
  | .val x n=>⟨3,bl x,n,0,0,0, []⟩
  | .loop fst x lo hi b=>⟨if fst then 10 else 9,bl x,0,0,lo,hi, [ndE b]⟩
  | .bin op p q=>⟨op, [],0,0,0,0, [ndE p,ndE q]⟩
def wfT:Nat->List ByteArray->Ex->Prop
  |_,_,.num z=> -900<=z/\z<=64125
  |_,bs,.var x=>x∈bs
  |_,_,.cell x=>bl x∈nmCs
  |_,bs,.val x n=>0<=n/\n<=2/\(bl x∈nmEs\/∃s∈bs,bl x= [104,58,123]++bl s++ [125])
  |d+1,bs,.loop _ x lo hi b=>bl x∈nmVs/\ -100<=lo/\lo<=155/\lo<=hi/\hi<=lo+6/\wfT d (bs++ [x]) b
  |d+1,bs,.bin op a b=>(op=4\/op=5\/op=6\/op=7\/op=8\/op=12\/op=13)/\wfT d bs a/\wfT d bs b
  |0,_,.loop _ _ _ _ _=>False
  |0,_,.bin _ _ _=>False
theorem wf_tr:∀(e:Ex) (d:Nat) (bs:List ByteArray),wfT d bs e->Tr d (bs.map bl) (ndE e)
  | .num z,d,bs,h=>by cases d <;> exact .num h.1 h.2
  | .var x,d,bs,h=>by cases d <;> exact .var (List.mem_map_of_mem h)
  | .cell x,d,bs,h=>by cases d <;> exact .cell h
  | .val x n,d,bs,h=>by
    have h':0<=n/\n<=2/\(bl x∈nmEs\/∃s∈bs,bl x= [104,58,123]++bl s++ [125]):=by cases d <;> exact h
    rw[ndE];rcases h'.2.2 with h3| ⟨s,h3,h4⟩
    ·exact .val h3 h'.1 h'.2.1
    ·rw[h4];exact .valh (List.mem_map_of_mem h3) h'.1 h'.2.1
  | .loop fst x lo hi b,d+1,bs,h=>by
    obtain⟨h1,h2,h3,h4,h5,h6⟩:=h;have:=wf_tr b d _ h6;rw[List.map_append]at this;exact .loop (by cases fst <;> rfl) h1 h2 h3 h4 h5 this
  | .bin op p q,d+1,bs,h=> .bin (by rcases h.1 with rfl|rfl|rfl|rfl|rfl|rfl|rfl <;> rfl) (wf_tr p d bs h.2.1) (wf_tr q d bs h.2.2)
  | .loop _ _ _ _ _,0,_,h=>h.elim
  | .bin _ _ _,0,_,h=>h.elim
def IsRw(B:Nat)(xs:List Value)(v:Value)(w:World):Prop:=∃ao c,v=.slice ao xs.length c/\(xs≠ []->∃g,ao=some ⟨g,0,none⟩/\B<=g/\∀j u,xs[j]? =some u->World.cell? w ⟨g,j,none⟩=some u)
theorem IsRw.ext{B:Nat}{l:List Value}{v:Value}{w w':World}(h:IsRw B l v w)(e:Ext w w'):IsRw B l v w':=by
  obtain⟨ao,c,h1,h2⟩:=h;exact⟨ao,c,h1,λhn=>let ⟨g,k1,k2,k3⟩:=h2 hn;⟨g,k1,k2,λj u hj=>e.cell (k3 j u hj)⟩⟩
theorem IsRw.stb(B:Nat)(l:List Value):Stb (IsRw B l):=λ_ _ _ e h=>h.ext e
instance (B:Nat) (l:List Value):StbC (IsRw B l):=⟨IsRw.stb B l⟩
def IsIf(b:Bool)(fP:Value->World->Prop):Value->World->Prop:=λx w=>bif b then fP x w else x=undef
theorem IsIf.stb{b:Bool}{fP:Value->World->Prop}(h:Stb fP):Stb (IsIf b fP):=λx w w' e k=>by
  cases b
  ·exact k
  ·exact h x w w' e k
instance {b:Bool} {fP:Value->World->Prop} [StbC fP]:StbC (IsIf b fP):=⟨IsIf.stb StbC.out⟩
section
variable {P:Program} {ops:Array Oper} {Q:Exit->Act->World->Prop} {ds:List (Option Tmp)} {a0:Act} {w0:World} {L:List (Value->World->Prop)} {boxes:List Nat} {i k:Nat} {o:Oper} {os:List Oper}
theorem RcB(g t:Nat)(b pol:Bool)(h:b=pol->Ok P ops Q ds a0 w0 L boxes i o)(hs:RgAll P .any ops Q ds a0 w0 L boxes (i+1) k os)(hg:o.guard=some (g,pol):=by rfl)(hdst:xG ops g=some t:=by kernel_rfl)(h1:ds[g]? =some (some t):=by kernel_rfl)(h2:(ds.drop (g+1)).contains (some t)=false:=by kernel_rfl)(h3:decide (t<a0.tmps.size)=true:=by kernel_rfl)(hu:(ups .any ops i).contains g=true:=by kernel_rfl)
    (hL:L.getD g (λ_ _=>True)=IsV (.bool b):=by kernel_rfl) (hb:boxes.contains i=false:=by kernel_rfl) (hi:b=(!pol)->L.getD i (λ_ _=>True)=IsV undef:=by intro h;subst h;kernel_rfl):RgAll P .any ops Q ds a0 w0 L boxes i (k+1) (o ::os):=by
  refine⟨?_,hs⟩;by_cases hbp:b=pol
  · have hL':L.getD g (λ_ _=>True)=IsV (.bool pol):=by rw[hL,hbp]
    exact RgL.mkG g t pol hg hdst h1 h2 h3 hu (λ_ _ h=>by rw[hL']at h;exact h) (h hbp).out
  · have hbn:b= !pol:=by cases b <;> cases pol <;> simp_all
    have hL':L.getD g (λ_ _=>True)=IsV (.bool (!pol)):=by rw[hL,hbn]
    exact RgL.mkN g t (!pol) (by rw[hg,Bool.not_not]) hdst h1 h2 h3 hu (λ_ _ h=>by rw[hL']at h;exact h) hb (λ_=>by rw[hi hbn];exact rfl)
theorem pkA{c y:Operand}{b b2 r:Bool}(hc:Od ops ds a0 w0 L i c (IsV (.bool b)))(hy:b=true->Od ops ds a0 w0 L i y (IsV (.bool b2)))(hr:(b&&b2)=r)(ho:o.op=.pick c y (.const (.bool false)):=by rfl)(hi:L.getD i (λ_ _=>True)=IsV (.bool r):=by kernel_rfl)(hb:boxes.contains i=false:=by kernel_rfl):Ok P ops Q ds a0 w0 L boxes i o:=
  Ok.of hb λv a w hE hd hf=>by
    have h1:a.eval c=.bool b:=hc.out v a w hE hd hf;refine⟨.bool r,?_,by rw[hi];exact rfl⟩;unfold execOp;rw[ho];dsimp only;rw[h1];cases b
    ·subst hr;simp[asBool];rfl
    · have h2:a.eval y=.bool b2:=(hy rfl).out v a w hE hd hf
      rw[h2];subst hr;simp[asBool]
theorem pkO{c y:Operand}{b b2 r:Bool}(hc:Od ops ds a0 w0 L i c (IsV (.bool b)))(hy:b=false->Od ops ds a0 w0 L i y (IsV (.bool b2)))(hr:(b||b2)=r)(ho:o.op=.pick c (.const (.bool true)) y:=by rfl)(hi:L.getD i (λ_ _=>True)=IsV (.bool r):=by kernel_rfl)(hb:boxes.contains i=false:=by kernel_rfl):Ok P ops Q ds a0 w0 L boxes i o:=
  Ok.of hb λv a w hE hd hf=>by
    have h1:a.eval c=.bool b:=hc.out v a w hE hd hf;refine⟨.bool r,?_,by rw[hi];exact rfl⟩;unfold execOp;rw[ho];dsimp only;rw[h1];cases b
    · have h2:a.eval y=.bool b2:=(hy rfl).out v a w hE hd hf
      rw[h2];subst hr;simp[asBool]
    ·subst hr;simp[asBool];rfl
end
def IsBy(v:Value)(w:World):Prop:=∃ao n c,v=.slice ao n c/\n<=9223372036854775807/\(n≠0->∃g o,ao=some ⟨g,o,none⟩/\∀j,j<n->∃b:Nat,b<256/\World.cell? w ⟨g,o+j,none⟩=some (.int .u8 (b:Int)))
theorem IsBy.ext{v:Value}{w w':World}(h:IsBy v w)(e:Ext w w'):IsBy v w':=by
  obtain⟨ao,n,c,h1,h2,h3⟩:=h;exact⟨ao,n,c,h1,h2,λhn=>let ⟨g,o,k1,k2⟩:=h3 hn;⟨g,o,k1,λj hj=>let ⟨b,q1,q2⟩:=k2 j hj;⟨b,q1,e.cell q2⟩⟩⟩
def IsN(m:Nat):Value->World->Prop:=λx _=>∃b:Nat,b<m/\x=.int .i64 (b:Int)
theorem IsN.stb(m:Nat):Stb (IsN m):=λ_ _ _ _ h=>h
instance (m:Nat):StbC (IsN m):=⟨IsN.stb m⟩
theorem at_f{w:World}{v:Value}{i:Nat}(h:IsBy v w)(hi:i<=4611686018427387904):Calls prog 87 #[v,.int .i64 (i:Int)] w (Ret w (IsN 256)):=by
  obtain⟨ao,n,c,rfl,hn,hc⟩:=h;by_cases hin:i<n
  · obtain⟨g,o,rfl,hcs⟩:=hc ze
    obtain⟨b,hb,c0⟩:=hcs i hin;have h1:(i:Int)<(n:Int):=ze
    have h2:(0:Int)<=(i:Int):=ze
    have hw:IntKind.i64.wrap (b:Int)=(b:Int):=zh
    clear hcs hc;go_enter func87,ntmps87
    go_wp2
    go_ret
    exact⟨_,rfl,Ext.refl _,b,hb,rfl⟩
  · have h1:(n:Int)<=(i:Int):=by omega
    clear hc;go_enter func87,ntmps87
    go_wp2
    go_ret
    exact⟨_,rfl,Ext.refl _,0,by decide,rfl⟩
def IsRs(bs:List ByteArray)(v:Value)(w:World):Prop:=∃g c,v=.slice (some ⟨g,0,none⟩) bs.length c/\g<w.heap.size/\∀j x,bs[j]? =some x->World.cell? w ⟨g,j,none⟩=some (.string x)
theorem IsRs.ext{bs:List ByteArray}{v:Value}{w w':World}(h:IsRs bs v w)(e:Ext w w'):IsRs bs v w':=let ⟨g,c,h1,h2,h3⟩:=h;⟨g,c,h1,Nat.lt_of_lt_of_le h2 e.size,λj x hj=>e.cell (h3 j x hj)⟩
def NdL(B _h:Nat)(e:Ex)(us:List Value)(w:World):Prop:=NdC B w (ndE e) us
theorem NdL.up{B B' h h':Nat}(hb:B'<=B)(_:h<=h'){w:World}{e:Ex}{us:List Value}(H:NdL B h e us w):NdL B' h' e us w:=NdC.low hb _ _ H
theorem NdL.ext{B h:Nat}{w w':World}{e:Ex}{us:List Value}(H:NdL B h e us w)(E:Ext w w'):NdL B h e us w':=NdC.ext E H
theorem NdL.only{B h g:Nat}{w w':World}{e:Ex}{us:List Value}(H:NdL B h e us w)(O:OnlyB g w w')(hg:g<B):NdL B h e us w':=NdC.ob (Ob.only O) hg H
def NhL(B H:Nat)(e:Ex):Value->World->Prop:=λx w=>∃us:List Value,x=.agg us.toArray/\us.length=8/\us.all (λu=>u.oneCell')=true/\(∀v∈us,NoWord v)/\NdL B H e us w
def NeL(B:Nat)(e:Ex):Value->World->Prop:=λx w=>NhL B w.heap.size e x w
theorem NhL.stb(B H:Nat)(e:Ex):Stb (NhL B H e):=λ_ _ _ E ⟨us,h1,h2,h3,h4,h5⟩=>⟨us,h1,h2,h3,h4,h5.ext E⟩
instance (B H:Nat) (e:Ex):StbC (NhL B H e):=⟨NhL.stb B H e⟩
theorem NeL.stb(B:Nat)(e:Ex):Stb (NeL B e):=λ_ _ _ E ⟨us,h1,h2,h3,h4,h5⟩=>⟨us,h1,h2,h3,h4,(h5.ext E).up (zN _) E.size⟩
instance (B:Nat) (e:Ex):StbC (NeL B e):=⟨NeL.stb B e⟩
def NsL(B H:Nat)(es:List Ex):Value->World->Prop:=λx w=>∃g,x=.slice (some ⟨g,0,none⟩) es.length es.length/\B<=g/\g<w.heap.size/\∀i e,es[i]? =some e->∃vs:List Value,vs.length=8/\(∀j v,vs[j]? =some v->World.cell? w ⟨g,8*i+j,none⟩=some v)/\NdL B H e vs w
theorem NsL.stb(B H:Nat)(es:List Ex):Stb (NsL B H es):=λ_ _ _ E ⟨g,h1,h2,h3,h4⟩=>⟨g,h1,h2,Nat.lt_of_lt_of_le h3 E.size,λi e hi=>let ⟨vs,q1,q2,q3⟩:=h4 i e hi;⟨vs,q1,λj v hj=>E.cell (q2 j v hj),q3.ext E⟩⟩
instance (B H:Nat) (es:List Ex):StbC (NsL B H es):=⟨NsL.stb B H es⟩
section
variable {ops:Array Oper} {Q:Exit->Act->World->Prop} {ds:List (Option Tmp)} {a0:Act} {w0:World} {L:List (Value->World->Prop)} {boxes:List Nat} {i k:Nat} {o:Oper} {os:List Oper}
theorem bs1L{B H:Nat}{x:Operand}{e:Ex}(hx:Od ops ds a0 w0 L i x (NhL B H e))(hB:B<=w0.heap.size)(ho:o.op=.buildSlice 30 1 #[(0,x)]:=by rfl)(hi:L.getD i (λ_ _=>True)=NsL B H [e]:=by kernel_rfl)(hb:boxes.contains i=false:=by kernel_rfl):Ok prog ops Q ds a0 w0 L boxes i o:=
  ⟨fun v a w hE hd hf K hK=>by
    obtain⟨us,h1,hl,h3,h4,h5⟩:=hx.out v a w hE hd hf;obtain⟨u0,u1,u2,u3,u4,u5,u6,u7,rfl⟩:=len8 hl;have hr:(Instr.buildSlice 30 1 #[(0,.agg #[u0,u1,u2,u3,u4,u5,u6,u7])]).run prog w=.ok (.slice (some ⟨w.heap.size,0,none⟩) 1 1) (w.alloc (.cells #[u0,u1,u2,u3,u4,u5,u6,u7] 32)):=xh
    have hrun:(execOp a.eval o).run prog w=.ok (.value (.slice (some ⟨w.heap.size,0,none⟩) 1 1)) (w.alloc (.cells #[u0,u1,u2,u3,u4,u5,u6,u7] 32)):=by
      unfold execOp;rw[ho];dsimp only;simp only[List.map_toArray,List.map_cons,List.map_nil];rw[h1];simp[hr]
    unfold Oper.wp;rw[hrun];have E1:Ext w (w.alloc (.cells #[u0,u1,u2,u3,u4,u5,u6,u7] 32)):=(Ext.refl _).alloc _;have B1:=Bk.new w #[u0,u1,u2,u3,u4,u5,u6,u7] 32;refine hK.out _ _ E1 ?_ (FreshIf.no hb);rw[hi];refine⟨_,rfl,zO hB hE.size,B1.lt,λi' e' hi'=>?_⟩;rcases i' with _|i'
    · obtain rfl:e=e':=by simpa using hi'
      exact⟨[u0,u1,u2,u3,u4,u5,u6,u7],rfl,λj v hj=>by rw[Nat.mul_zero,Nat.zero_add];exact B1.c j v hj,h5.ext E1⟩
    ·simp at hi'⟩
theorem bs2L{B H:Nat}{x y:Operand}{e f:Ex}(hx:Od ops ds a0 w0 L i x (NhL B H e))(hy:Od ops ds a0 w0 L i y (NhL B H f))(hB:B<=w0.heap.size)(ho:o.op=.buildSlice 30 2 #[(0,x),(1,y)]:=by rfl)(hi:L.getD i (λ_ _=>True)=NsL B H [e,f]:=by kernel_rfl)(hb:boxes.contains i=false:=by kernel_rfl):Ok prog ops Q ds a0 w0 L boxes i o:=
  ⟨fun v a w hE hd hf K hK=>by
    obtain⟨us,h1,hl,h3,h4,h5⟩:=hx.out v a w hE hd hf;obtain⟨u0,u1,u2,u3,u4,u5,u6,u7,rfl⟩:=len8 hl;obtain⟨us',h1',hl',h3',h4',h5'⟩:=hy.out v a w hE hd hf;obtain⟨t0,t1,t2,t3,t4,t5,t6,t7,rfl⟩:=len8 hl';have hr:(Instr.buildSlice 30 2 #[(0,.agg #[u0,u1,u2,u3,u4,u5,u6,u7]),(1,.agg #[t0,t1,t2,t3,t4,t5,t6,t7])]).run prog w=.ok (.slice (some ⟨w.heap.size,0,none⟩) 2 2) (w.alloc (.cells #[u0,u1,u2,u3,u4,u5,u6,u7,t0,t1,t2,t3,t4,t5,t6,t7] 32)):=xh
    have hrun:(execOp a.eval o).run prog w=.ok (.value (.slice (some ⟨w.heap.size,0,none⟩) 2 2)) (w.alloc (.cells #[u0,u1,u2,u3,u4,u5,u6,u7,t0,t1,t2,t3,t4,t5,t6,t7] 32)):=by
      unfold execOp;rw[ho];dsimp only;simp only[List.map_toArray,List.map_cons,List.map_nil];rw[h1,h1'];simp[hr]
    unfold Oper.wp;rw[hrun];have E1:Ext w (w.alloc (.cells #[u0,u1,u2,u3,u4,u5,u6,u7,t0,t1,t2,t3,t4,t5,t6,t7] 32)):=(Ext.refl _).alloc _;have B1:=Bk.new w #[u0,u1,u2,u3,u4,u5,u6,u7,t0,t1,t2,t3,t4,t5,t6,t7] 32;refine hK.out _ _ E1 ?_ (FreshIf.no hb);rw[hi];refine⟨_,rfl,zO hB hE.size,B1.lt,λi' e' hi'=>?_⟩;rcases i' with _|_|i'
    · obtain rfl:e=e':=by simpa using hi'
      exact⟨[u0,u1,u2,u3,u4,u5,u6,u7],rfl,λj v hj=>by rw[Nat.mul_zero,Nat.zero_add];exact B1.c j v (getE_app _ [t0,t1,t2,t3,t4,t5,t6,t7] hj),h5.ext E1⟩
    · obtain rfl:f=e':=by simpa using hi'
      exact⟨[t0,t1,t2,t3,t4,t5,t6,t7],rfl,λj v hj=>B1.c (8+j) v (getE_app2 [u0,u1,u2,u3,u4,u5,u6,u7] _ hj),h5'.ext E1⟩
    ·simp at hi'⟩
end
def IsBt(B d:Nat)(bs:List ByteArray)(i:Nat):Value->World->Prop:=λx w=>∃(e:Ex) (us:List Value) (k:Nat),x=.agg (us++ [Value.int .i64 (k:Int)]).toArray/\i<=k/\k+1<=i+4*2^d/\wfT d bs e/\NeL B e (.agg us.toArray) w
theorem IsBt.stb(B d:Nat)(bs:List ByteArray)(i:Nat):Stb (IsBt B d bs i):=λ_ _ _ E ⟨e,us,k,h1,h2,h3,h4,h5⟩=>⟨e,us,k,h1,h2,h3,h4,NeL.stb _ _ _ _ _ E h5⟩
instance (B d:Nat) (bs:List ByteArray) (i:Nat):StbC (IsBt B d bs i):=⟨IsBt.stb B d bs i⟩
theorem IsBt.dn{B B' d:Nat}{bs:List ByteArray}{i:Nat}{x:Value}{w:World}(h:IsBt B d bs i x w)(hb:B'<=B):IsBt B' d bs i x w:=let ⟨e,us,k,h1,h2,h3,h4,us',q1,q2,q3,q4,q5⟩:=h;⟨e,us,k,h1,h2,h3,h4,us',q1,q2,q3,q4,q5.up hb (zN _)⟩
def zBt:List Value:=zNd++ [.int .i64 0]
theorem nwBt:∀v∈zBt,NoWord v:=λv hv=>(List.mem_append.1 hv).elim (nwZN v) λh=>by
  obtain rfl:v=.int .i64 0:=zad
  exact NoWord.int64 _
theorem al_Bt(w:World):(Instr.alloc 85 true (.tuple #[])).run prog w=.ok (.pointer (some ⟨w.heap.size,0,none⟩)) (w.alloc (.cells zBt.toArray 85)):=by unfold zBt zNd;go_simp
theorem st_Bt:StV prog 85 9:=stM zc
theorem lv_Bt{w:World}{g:Nat}{vs:List Value}(hl:vs.length=9)(B:Bk w g vs):(loadVar 85 ⟨g,0,none⟩).run prog w=.ok (.agg vs.toArray) w:=lvM zc zc hl B
theorem fa_Bt0(g:Nat)(w:World):(Instr.fieldAt 85 (.pointer (some ⟨g,0,none⟩)) 0).run prog w=.ok (.pointer (some ⟨g,0,none⟩)) w:=by go_simp
theorem fa_Bt1(g:Nat)(w:World):(Instr.fieldAt 85 (.pointer (some ⟨g,0,none⟩)) 1).run prog w=.ok (.pointer (some ⟨g,8,none⟩)) w:=by go_simp
theorem ld_NdO{w:World}{g:Nat}{us:List Value}{k:Value}(hl:us.length=8)(B:Bk w g (us++ [k])):(Instr.loadAt 32 (.pointer (some ⟨g,0,none⟩))).run prog w=.ok (.agg us.toArray) w:=
  ldM zc zc hl (λj v hj=>by rw[Nat.zero_add];exact B.c j v (getE_app _ _ hj))
theorem ld_BtK{w:World}{g:Nat}{us:List Value}{k:Value}(hl:us.length=8)(B:Bk w g (us++ [k])):World.cell? w ⟨g,8,none⟩=some k:=B.c 8 k (by rw[<-hl];simp)
theorem bd_Bt{w:World}{us:List Value}{k:Int}(hl:us.length=8):(Instr.build 85 #[(0,.agg us.toArray),(1,.int .i64 k)]).run prog w=.ok (.agg (us++ [Value.int .i64 k]).toArray) w:=by
  obtain⟨u0,u1,u2,u3,u4,u5,u6,u7,rfl⟩:=len8 hl
  go_simp
theorem NeL.us{B:Nat}{e:Ex}{x:Value}{w:World}(h:NeL B e x w):∃us:List Value,x=.agg us.toArray/\us.length=8/\us.all (λu=>u.oneCell')=true/\NeL B e (.agg us.toArray) w:=by
  obtain⟨us,h1,h2,h3,h4,h5⟩:=id h;exact⟨us,h1,h2,h3,h1▸h⟩
section
variable {ops:Array Oper} {Q:Exit->Act->World->Prop} {ds:List (Option Tmp)} {a0:Act} {w0:World} {L:List (Value->World->Prop)} {boxes:List Nat} {i k:Nat} {o:Oper} {os:List Oper}
theorem rem_run{a b:Nat}(hb:0<b)(ha:a<4611686018427387904)(x y:Operand)(w:World):Sem.run prog (do eqGuard .rem 3 x y (.int .i64 (a:Int)) (.int .i64 (b:Int));binOp .rem 3 (.int .i64 (a:Int)) (.int .i64 (b:Int))) w=.ok (.int .i64 ((a%b:Nat):Int)) w:=by
  have h1:¬(b:Int)=0:=ze
  have h5:¬b=0:=ze
  have h2:Int.tmod (a:Int) (b:Int)=((a%b:Nat):Int):=rfl;have h3:a%b<=a:=Nat.mod_le _ _;have h4:IntKind.i64.wrap ((a%b:Nat):Int)=((a%b:Nat):Int):=zh
  go_simp
theorem bnR{a b:Nat}{x y:Operand}(hx:Od ops ds a0 w0 L i x (iV (a:Int)))(hy:Od ops ds a0 w0 L i y (iV (b:Int)))(hb:0<b)(ha:a<4611686018427387904)(ho:o.op=.binOp .rem 3 x y 3:=by rfl)
    (hi:L.getD i (λ_ _=>True)=iV ((a%b:Nat):Int):=by kernel_rfl) (hbx:boxes.contains i=false:=by kernel_rfl):Ok prog ops Q ds a0 w0 L boxes i o:=
  bn hx hy ho (λw=>rem_run hb ha x y w) hi hbx
theorem lenSt{ao:Option Addr}{n c:Nat}{x:Operand}(hx:Od ops ds a0 w0 L i x (IsV (.slice ao n c)))(ho:o.op=.call {callee:=.builtin .len,args:= #[x],argTypes:= #[53]} :=by rfl)(hi:L.getD i (λ_ _=>True)=iV (n:Int):=by kernel_rfl)(hb:boxes.contains i=false:=by kernel_rfl):Ok prog ops Q ds a0 w0 L boxes i o:=
  Ok.of hb λv a w hE hd hf=>by
    have h1:a.eval x=_:=hx.out v a w hE hd hf;refine⟨_,?_,by rw[hi];exact rfl⟩;unfold execOp;rw[ho];dsimp only;unfold resolve;simp only[List.map_toArray,List.map_cons,List.map_nil,h1]
    go_simp
theorem tNtr_2{P:Prop}(h:P:=by
  have h1:(0:Int)<=(j:Int):=ze
  have h2:(j:Int)<(n:Int):=ze
  have h3:0+j=j:=ze
  go_simp
  ):P:=h
theorem ix_Sx(g c n j:Nat)(h:j<n)(w:World):(Instr.indexAt 53 (.slice (some ⟨g,0,none⟩) n c) (.int .i64 (j:Int))).run prog w=.ok (.pointer (some ⟨g,j,none⟩)) w:=by
  exact tNtr_2
theorem ix_I(g c n j:Nat)(h:j<n)(w:World):(Instr.indexAt 138 (.slice (some ⟨g,0,none⟩) n c) (.int .i64 (j:Int))).run prog w=.ok (.pointer (some ⟨g,j,none⟩)) w:=by
  exact tNtr_2
theorem bsC{T:Nat}{xs:List Value}{n:Nat}{ps:Array (Nat×Operand)}(ho:o.op=.buildSlice T n ps:=by rfl)(hr:∀(a:Act) (w:World),∃T',(Instr.buildSlice T n (ps.map λp=>(p.1,a.eval p.2))).run prog w=.ok (.slice (some ⟨w.heap.size,0,none⟩) xs.length xs.length) (w.alloc (.cells xs.toArray T')))
    (hi:L.getD i (λ_ _=>True)=IsRw 0 xs:=by kernel_rfl) (hb:boxes.contains i=false:=by kernel_rfl):Ok prog ops Q ds a0 w0 L boxes i o:=
  ⟨fun v a w hE hd hf K hK=>by
    obtain⟨T',hr'⟩:=hr a w
    have hrun:(execOp a.eval o).run prog w=.ok (.value (.slice (some ⟨w.heap.size,0,none⟩) xs.length xs.length)) (w.alloc (.cells xs.toArray T')):=by
      unfold execOp;rw[ho];dsimp only;simp[hr']
    unfold Oper.wp;rw[hrun];refine hK.out _ _ ((Ext.refl w).alloc _) ?_ (FreshIf.no hb);rw[hi]
    exact⟨_,_,rfl,λ_=>⟨_,rfl,Nat.zero_le _,λj u hj=>(Bk.new w xs.toArray T').c j u ja⟩⟩⟩
theorem bnN{m b:Nat}{x:Operand}(hx:Od ops ds a0 w0 L i x (IsN m))(hb:0<b)(hm:m<=4611686018427387904)(ho:o.op=.binOp .rem 3 x (.const (.int .i64 (b:Int))) 3:=by rfl)(hi:L.getD i (λ_ _=>True)=IsN b:=by kernel_rfl)(hbx:boxes.contains i=false:=by kernel_rfl):Ok prog ops Q ds a0 w0 L boxes i o:=
  Ok.of hbx λv a w hE hd hf=>by
    obtain⟨c,hc,h1⟩:=hx.out v a w hE hd hf;refine⟨.int .i64 ((c%b:Nat):Int),?_,by rw[hi];exact⟨_,Nat.mod_lt _ hb,rfl⟩⟩;have:=rem_run (a:=c) (b:=b) hb ze x (.const (.int .i64 (b:Int))) w;unfold execOp;rw[ho];dsimp only;rw[h1,show a.eval (.const (.int .i64 (b:Int)))=.int .i64 (b:Int)from rfl];cases hg:Sem.run prog (eqGuard .rem 3 x (.const (.int .i64 (b:Int))) (.int .i64 (c:Int)) (.int .i64 (b:Int))) w with
    |ok u w1=>simp[hg]at this ⊢;rw[this];simp
    |halt e w1=>simp[hg]at this
def IsPc(u:Value):Value->World->Prop:=λx w=>∃g j,x=.pointer (some ⟨g,j,none⟩)/\World.cell? w ⟨g,j,none⟩=some u
theorem IsPc.stb(u:Value):Stb (IsPc u):=λ_ _ _ e ⟨g,j,h1,h2⟩=>⟨g,j,h1,e.cell h2⟩
instance (u:Value):StbC (IsPc u):=⟨IsPc.stb u⟩
theorem ixRw{B T:Nat}{xs:List Value}{u:Value}{j:Nat}{x y:Operand}(hr:∀(g c n j:Nat),j<n->∀w,(Instr.indexAt T (.slice (some ⟨g,0,none⟩) n c) (.int .i64 (j:Int))).run prog w=.ok (.pointer (some ⟨g,j,none⟩)) w)
    (hx:Od ops ds a0 w0 L i x (IsRw B xs)) (hy:Od ops ds a0 w0 L i y (iV (j:Int))) (hj:xs[j]? =some u) (ho:o.op=.indexAddr T x y:=by rfl) (hi:L.getD i (λ_ _=>True)=IsPc u:=by kernel_rfl) (hb:boxes.contains i=false:=by kernel_rfl):Ok prog ops Q ds a0 w0 L boxes i o:=
  Ok.of hb λv a w hE hd hf=>by
    obtain⟨ao,c,h1,h2⟩:=hx.out v a w hE hd hf;have h3:a.eval y=.int .i64 (j:Int):=hy.out v a w hE hd hf;have hlt:=(List.getElem?_eq_some_iff.1 hj).1;obtain⟨g,rfl,_,h4⟩:=h2 (by intro h0;subst h0;simp at hj);refine⟨.pointer (some ⟨g,j,none⟩),?_,by rw[hi];exact⟨g,j,rfl,h4 j u hj⟩⟩;unfold execOp;rw[ho];dsimp only;rw[h1,h3];simp[hr g c xs.length j hlt w]
theorem ldPc{T:Nat}{u:Value}{x:Operand}(hr:LdC1 prog T)(hx:Od ops ds a0 w0 L i x (IsPc u))(ho:o.op=.load T x:=by rfl)(hi:L.getD i (λ_ _=>True)=IsV u:=by kernel_rfl)(hb:boxes.contains i=false:=by kernel_rfl):Ok prog ops Q ds a0 w0 L boxes i o:=
  Ok.of hb λv a w hE hd hf=>by
    obtain⟨g,j,h1,h2⟩:=hx.out v a w hE hd hf;exact⟨u,ld_run ho h1 (hr w _ _ h2),by rw[hi];rfl⟩
theorem bdG2{T:Nat}{ps:Array (Nat×Operand)}{fP:Value->World->Prop}(ho:o.op=.build T ps)(hi:L.getD i (λ_ _=>True)=fP)(hb:boxes.contains i=false)(h:∀(v:Nat->Value) (a:Act) (w:World),Ext w0 w->(∀j,(ups .any ops i).contains j=true->L.getD j (λ_ _=>True) (v j) w)->Fr ds a0 v a->∃u,(Instr.build T (ps.map λp=>(p.1,a.eval p.2))).run prog w=.ok u w/\fP u w):Ok prog ops Q ds a0 w0 L boxes i o:=
  Ok.of hb λv a w hE hd hf=>by
    obtain⟨u,h1,h2⟩:=h v a w hE hd hf;exact⟨u,bdG ho h1,by rw[hi];exact h2⟩
theorem bdBin{B H:Nat}{op:Int}{p q:Ex}{x y:Operand}(hx:Od ops ds a0 w0 L i x (iV op))(hy:Od ops ds a0 w0 L i y (NsL B H [p,q]))(_:H<=w0.heap.size)(ho:o.op=.build 32 #[(0,x),(6,y)]:=by rfl)(hi:L.getD i (λ_ _=>True)=NeL B (.bin op p q):=by kernel_rfl)(hb:boxes.contains i=false:=by kernel_rfl)(hop: -9223372036854775808<=op/\op<=9223372036854775807:=by omega):Ok prog ops Q ds a0 w0 L boxes i o:=
  bdG2 ho hi hb λv a w hE hd hf=>by
    have e1:a.eval x=.int .i64 op:=hx.out v a w hE hd hf;obtain⟨g,e2,q2,q3,q4⟩:=hy.out v a w hE hd hf;have hr:(Instr.build 32 #[(0,.int .i64 op),(6,.slice (some ⟨g,0,none⟩) 2 2)]).run prog w=.ok (.agg #[.int .i64 op,.string ⟨#[]⟩,.int .i64 0,.bool false,.slice none 0 0,.int .i64 0,.int .i64 0,.slice (some ⟨g,0,none⟩) 2 2]) w:=xh
    obtain⟨vs,r1,r2,r3⟩:=q4 0 p rfl;obtain⟨vs',r1',r2',r3'⟩:=q4 1 q rfl;refine⟨_,by simp only[List.map_toArray,List.map_cons,List.map_nil];rw[e1,e2];exact hr,_,rfl,rfl,rfl,nwNd,NdC.mk' ⟨by simp[ndE,Nd.nm],hop.1,hop.2⟩ rfl (IsI.nil _ _) (zN _) (show(2:Nat)<=9223372036854775807 by decide) (λ_=>⟨g,0,rfl,q2,NdR.of λi z hi=>?_⟩)⟩;rcases i with _|_|i
    · obtain rfl:ndE p=z:=by simpa [ndE,Nd.ps]using hi
      exact⟨vs,r1,λj v hj=>by simpa using r2 j v hj,r3⟩
    · obtain rfl:ndE q=z:=by simpa [ndE,Nd.ps]using hi
      exact⟨vs',r1',λj v hj=>by simpa using r2' j v hj,r3'⟩
    ·simp[ndE,Nd.ps]at hi
theorem bdLoop{B H:Nat}{fst:Bool}{opc lo hi':Int}{s:ByteArray}{p:Ex}{x0 x1 x4 x5 x6:Operand}(h0:Od ops ds a0 w0 L i x0 (iV opc))(h1:Od ops ds a0 w0 L i x1 (IsV (.string s)))(h4:Od ops ds a0 w0 L i x4 (iV lo))(h5:Od ops ds a0 w0 L i x5 (iV hi'))(h6:Od ops ds a0 w0 L i x6 (NsL B H [p]))
    (hopc:opc=if fst then 10 else 9) (_:H<=w0.heap.size) (hs:s.size<=4611686018427387904) (ho:o.op=.build 32 #[(0,x0),(1,x1),(4,x4),(5,x5),(6,x6)]:=by rfl) (hi:L.getD i (λ_ _=>True)=NeL B (.loop fst s lo hi' p):=by kernel_rfl) (hb:boxes.contains i=false:=by kernel_rfl):Ok prog ops Q ds a0 w0 L boxes i o:=
  bdG2 ho hi hb λv a w hE hd hf=>by
    have e0:a.eval x0=.int .i64 opc:=h0.out v a w hE hd hf;have e1:a.eval x1=.string s:=h1.out v a w hE hd hf;have e4:a.eval x4=.int .i64 lo:=h4.out v a w hE hd hf;have e5:a.eval x5=.int .i64 hi':=h5.out v a w hE hd hf;obtain⟨g,e6,q2,q3,q4⟩:=h6.out v a w hE hd hf;have hr:(Instr.build 32 #[(0,.int .i64 opc),(1,.string s),(4,.int .i64 lo),(5,.int .i64 hi'),(6,.slice (some ⟨g,0,none⟩) 1 1)]).run prog w=.ok (.agg #[.int .i64 opc,.string s,.int .i64 0,.bool false,.slice none 0 0,.int .i64 lo,.int .i64 hi',.slice (some ⟨g,0,none⟩) 1 1]) w:=xh
    obtain⟨vs,r1,r2,r3⟩:=q4 0 p rfl;refine⟨_,by simp only[List.map_toArray,List.map_cons,List.map_nil];rw[e0,e1,e4,e5,e6];exact hr,_,rfl,rfl,rfl,nwNd,NdC.mk' ⟨by simpa [ndE,Nd.nm]using hs,by simp only[ndE,Nd.op];split <;> decide,by simp only[ndE,Nd.op];split <;> decide⟩ (by rw[hopc,encS_of];rfl) (IsI.nil _ _) (zN _) (show(1:Nat)<=9223372036854775807 by decide) (λ_=>⟨g,0,rfl,q2,NdR.of λi z hi=>?_⟩)⟩;rcases i with _|i
    · obtain rfl:ndE p=z:=by simpa [ndE,Nd.ps]using hi
      exact⟨vs,r1,λj v hj=>by simpa using r2 j v hj,r3⟩
    ·simp[ndE,Nd.ps]at hi
theorem bdNum{B:Nat}{z:Int}{x:Operand}(hx:Od ops ds a0 w0 L i x (IsI 2 z))(ho:o.op=.build 32 #[(0,.const (.int .i64 1)),(3,x)]:=by rfl)(hi:L.getD i (λ_ _=>True)=NeL B (.num z):=by kernel_rfl)(hb:boxes.contains i=false:=by kernel_rfl):Ok prog ops Q ds a0 w0 L boxes i o:=
  bdG2 ho hi hb λv a w hE hd hf=>by
    have hI:=hx.out v a w hE hd hf;obtain⟨s,p,n,c,e1,hx2⟩:=id hI;have hr:(Instr.build 32 #[(0,.int .i64 1),(3,.agg #[.bool s,.slice p n c])]).run prog w=.ok (.agg #[.int .i64 1,.string ⟨#[]⟩,.int .i64 0,.bool s,.slice p n c,.int .i64 0,.int .i64 0,.slice none 0 0]) w:=xh
    exact⟨_,by simp only[List.map_toArray,List.map_cons,List.map_nil];rw[e1,show a.eval (.const (.int .i64 1))=.int .i64 1 from rfl];exact hr,_,rfl,rfl,rfl,nwNd,nd_num (by rw[<-e1];exact IsI.mono hI dcx)⟩
theorem nd_leafS{B:Nat}{w:World}{op n:Int}{s:ByteArray}(h:s.size<=4611686018427387904)(hop: -9223372036854775808<=op/\op<=9223372036854775807):NdC B w (.mk op (bl s) n 0 0 0 []) [.int .i64 op,.string s,.int .i64 n,.bool false,.slice none 0 0,.int .i64 0,.int .i64 0,.slice none 0 0]:=by
  rw[encS_of];exact nd_leaf ⟨by simpa using h,hop.1,hop.2⟩
theorem bdLeaf{B:Nat}{op n:Int}{s:ByteArray}{e:Ex}{x0 x1 x2:Operand}(h0:Od ops ds a0 w0 L i x0 (iV op))(h1:Od ops ds a0 w0 L i x1 (IsV (.string s)))(h2:Od ops ds a0 w0 L i x2 (iV n))(he:op=3/\e=.val s n)(hs:s.size<=4611686018427387904)
    (ho:o.op=.build 32 #[(0,x0),(1,x1),(2,x2)]:=by rfl) (hi:L.getD i (λ_ _=>True)=NeL B e:=by kernel_rfl) (hb:boxes.contains i=false:=by kernel_rfl):Ok prog ops Q ds a0 w0 L boxes i o:=
  bdG2 ho hi hb λv a w hE hd hf=>by
    obtain⟨rfl,rfl⟩:=he;have e0:a.eval x0=.int .i64 3:=h0.out v a w hE hd hf;have e1:a.eval x1=.string s:=h1.out v a w hE hd hf;have e2:a.eval x2=.int .i64 n:=h2.out v a w hE hd hf;have hr:(Instr.build 32 #[(0,.int .i64 3),(1,.string s),(2,.int .i64 n)]).run prog w=.ok (.agg #[.int .i64 3,.string s,.int .i64 n,.bool false,.slice none 0 0,.int .i64 0,.int .i64 0,.slice none 0 0]) w:=xh
    exact⟨_,by simp only[List.map_toArray,List.map_cons,List.map_nil];rw[e0,e1,e2];exact hr,_,rfl,rfl,rfl,nwNd,nd_leafS hs dcx⟩
theorem bdLeaf2{B:Nat}{op:Int}{s:ByteArray}{e:Ex}{x0 x1:Operand}(h0:Od ops ds a0 w0 L i x0 (iV op))(h1:Od ops ds a0 w0 L i x1 (IsV (.string s)))(he:(op=11/\e=.var s)\/(op=2/\e=.cell s))(hs:s.size<=4611686018427387904)
    (ho:o.op=.build 32 #[(0,x0),(1,x1)]:=by rfl) (hi:L.getD i (λ_ _=>True)=NeL B e:=by kernel_rfl) (hb:boxes.contains i=false:=by kernel_rfl):Ok prog ops Q ds a0 w0 L boxes i o:=
  bdG2 ho hi hb λv a w hE hd hf=>by
    have e0:a.eval x0=.int .i64 op:=h0.out v a w hE hd hf;have e1:a.eval x1=.string s:=h1.out v a w hE hd hf;have hr:(Instr.build 32 #[(0,.int .i64 op),(1,.string s)]).run prog w=.ok (.agg #[.int .i64 op,.string s,.int .i64 0,.bool false,.slice none 0 0,.int .i64 0,.int .i64 0,.slice none 0 0]) w:=xh
    refine⟨_,by simp only[List.map_toArray,List.map_cons,List.map_nil];rw[e0,e1];exact hr,_,rfl,rfl,rfl,nwNd,?_⟩;rcases he with⟨rfl,rfl⟩| ⟨rfl,rfl⟩ <;> exact nd_leafS hs dcx
theorem bdBt{B d j k':Nat}{bs:List ByteArray}{e:Ex}{x y:Operand}(hx:Od ops ds a0 w0 L i x (NeL B e))(hy:Od ops ds a0 w0 L i y (iV (k':Int)))(hw:wfT d bs e/\j<=k'/\k'+1<=j+4*2^d)(ho:o.op=.build 85 #[(0,x),(1,y)]:=by rfl)(hi:L.getD i (λ_ _=>True)=IsBt B d bs j:=by kernel_rfl)(hb:boxes.contains i=false:=by kernel_rfl):Ok prog ops Q ds a0 w0 L boxes i o:=
  bdG2 ho hi hb λv a w hE hd hf=>by
    obtain⟨us,e1,hl,h3,h4⟩:=(hx.out v a w hE hd hf).us;have e2:a.eval y=.int .i64 (k':Int):=hy.out v a w hE hd hf;exact⟨_,by simp only[List.map_toArray,List.map_cons,List.map_nil];rw[e1,e2];exact bd_Bt hl,e,us,k',rfl,hw.2.1,hw.2.2,hw.1,h4⟩
end
def BldC(d:Nat):Prop:=∀(bs:List ByteArray) (w:World) (lb bv:Value) (i:Nat),(∀x∈bs,x.size<=9)->bs.length+d<=4->i+8*2^d<=1152921504606846976->IsBy lb w->IsRs bs bv w->Calls prog 44 #[lb,.int .i64 (i:Int),bv,.int .i64 ((d:Int)+1)] w (Ret w (IsBt w.heap.size d bs i))
def opsI:List Value:= [.int .i64 4,.int .i64 5,.int .i64 6,.int .i64 7,.int .i64 8,.int .i64 12,.int .i64 13]
def nmC:List Value:= [.string ⟨#[97]⟩,.string ⟨#[98]⟩,.string ⟨#[99,50]⟩,.string ⟨#[108,111,110,103,95,110,97,109,101]⟩]
def nmV:List Value:= [.string ⟨#[120]⟩,.string ⟨#[121]⟩,.string ⟨#[110,95,49]⟩]
def nmE:List Value:= [.string ⟨#[99,58,45,50,51]⟩,.string ⟨#[99,58,45,52]⟩,.string ⟨#[104,58,55]⟩,.string ⟨#[104,58,56]⟩,.string ⟨#[101,58,55,58,49,58,50]⟩,.string ⟨#[120]⟩]
theorem opsI_at{k:Nat}(h:k<7):∃op,opsI[k]? =some (.int .i64 op)/\(op=4\/op=5\/op=6\/op=7\/op=8\/op=12\/op=13):=by
  match k,h with
  |0,_=>exact⟨_,rfl,by decide⟩
  |1,_=>exact⟨_,rfl,by decide⟩
  |2,_=>exact⟨_,rfl,by decide⟩
  |3,_=>exact⟨_,rfl,by decide⟩
  |4,_=>exact⟨_,rfl,by decide⟩
  |5,_=>exact⟨_,rfl,by decide⟩
  |6,_=>exact⟨_,rfl,by decide⟩
theorem nmC_at{k:Nat}(h:k<4):∃s,nmC[k]? =some (.string s)/\s.size<=9/\bl s∈nmCs:=by
  match k,h with
  |0,_=>exact⟨_,rfl,by decide,by unfold nmCs;simp[bl]⟩
  |1,_=>exact⟨_,rfl,by decide,by unfold nmCs;simp[bl]⟩
  |2,_=>exact⟨_,rfl,by decide,by unfold nmCs;simp[bl]⟩
  |3,_=>exact⟨_,rfl,by decide,by unfold nmCs;simp[bl]⟩
theorem nmV_at{k:Nat}(h:k<3):∃s,nmV[k]? =some (.string s)/\s.size<=9/\bl s∈nmVs:=by
  match k,h with
  |0,_=>exact⟨_,rfl,by decide,by unfold nmVs;simp[bl]⟩
  |1,_=>exact⟨_,rfl,by decide,by unfold nmVs;simp[bl]⟩
  |2,_=>exact⟨_,rfl,by decide,by unfold nmVs;simp[bl]⟩
theorem nmE_at{k:Nat}(h:k<6):∃s,nmE[k]? =some (.string s)/\s.size<=16/\bl s∈nmEs:=by
  match k,h with
  |0,_=>exact⟨_,rfl,by decide,by unfold nmEs;simp[bl]⟩
  |1,_=>exact⟨_,rfl,by decide,by unfold nmEs;simp[bl]⟩
  |2,_=>exact⟨_,rfl,by decide,by unfold nmEs;simp[bl]⟩
  |3,_=>exact⟨_,rfl,by decide,by unfold nmEs;simp[bl]⟩
  |4,_=>exact⟨_,rfl,by decide,by unfold nmEs;simp[bl]⟩
  |5,_=>exact⟨_,rfl,by decide,by unfold nmEs;simp[bl]⟩
section
variable {ops:Array Oper} {Q:Exit->Act->World->Prop} {ds:List (Option Tmp)} {a0:Act} {w0:World} {L:List (Value->World->Prop)} {boxes:List Nat} {i k:Nat} {o:Oper} {os:List Oper}
theorem cat_runB(a b:ByteArray)(h:a.size+b.size<=1000000)(x y:Operand)(w:World):Sem.run prog (do eqGuard .add 9 x y (.string a) (.string b);binOp .add 9 (.string a) (.string b)) w=.ok (.string (a++b)) w:=by
  have h1:¬9223372036854775807<a.size+b.size:=ze
  have h2:a.size+b.size<=9223372036854775807:=ze
  go_simp
theorem mvF{x:Operand}{u:Value}{fP:Value->World->Prop}(hx:Od ops ds a0 w0 L i x (IsV u))(h:∀w',Ext w0 w'->fP u w')(hd:Op.move x=o.op\/Op.assign x=o.op:=by first|exact .inl rfl|exact .inr rfl)(hi:L.getD i (λ_ _=>True)=fP:=by kernel_rfl)(hb:boxes.contains i=false:=by kernel_rfl):Ok prog ops Q ds a0 w0 L boxes i o:=
  mv ⟨λv a w hE hd hf=>by rw[hi,show a.eval x=u from hx.out v a w hE hd hf];exact h w hE⟩ (hd.imp Eq.symm Eq.symm) hb
end
theorem RwgS.zero(w:World){base:Nat}(hb:base<=w.heap.size):Rwg 9 1 base (w.alloc (.cells #[] 9)) (.slice (some ⟨w.heap.size,0,none⟩) 0 0) 0 []:=by
  refine⟨by simp,.inr ⟨w.heap.size,0,#[],rfl,hb,World.alloc_heap_new _ _,?_,?_,?_,?_⟩⟩
  all_goals simp
theorem IsRs.of{base:Nat}{bs:List ByteArray}{v:Value}{w:World}(h:Rwg 9 1 base w v bs.length (bs.map Value.string))(hn:bs≠ []):IsRs bs v w:=by
  obtain⟨ao,cp,h1,h2,h3,h4,h5⟩:=h.shape;obtain⟨g,rfl,k1,k2,k3⟩:=h5 (by simpa using hn);exact⟨g,cp,h1,k2,λj x hj=>k3 j _ (by simp[hj])⟩
theorem tNtr_1{P:Prop}(h:P:=by
  simp only[lxE,Nat.reduceAdd];rw[hv];clear hΦ hv;replace E:=E.trans e1;replace B8:=B8.ext e1;obtain⟨us0,hu0,hl,hone,hnw,hnd⟩:=id hne;obtain rfl:us=us0:=by simpa using hu0
  have h8:=B8.lt;refine stL (λK hK=>?_);refine zE (us:=us++ [Value.int .i64 (kk:Int)]) B8 st_Bt rfl (by simp[hl]) nwBt (λW7 B9 O=>hK _ _ ?_) (ho1:=by rw[List.all_append,hone];rfl);have E9:=O.ext E (zN _);have hne9:NeL w.heap.size ee (.agg us.toArray) W7:=⟨us,rfl,hl,hone,hnw,(hnd.only O (Nat.lt_succ_self _)).up (Nat.le_succ _) (by rw[O.size];exact zN _)⟩;clear hK K O B8;refine zI ?_;go_wp2_with fail;exact zH (jU results44 rfl (lv_Bt (by simp[hl]) B9)) rfl ⟨_,rfl,E9,ee,us,kk,rfl,hk1,hk2,hwt,hne9⟩
  ):P:=h
theorem build_s (d:Nat)(hd4:d<=4)(IH:Hid (∀d',d=d'+1->BldC d')):BldC d:=by
  intro bs w lb bv i hbs hbl hi hL hB;obtain⟨gb,cb,rfl,hgb,hbc⟩:=id hB;have HB:=hid hB;have HL:=hid hL;have HBC:=hid hbc;have HNS:=hid (zL hbs (zL hbl hi));have hpow:1<=2^d:=Nat.one_le_two_pow;have hi2:i<=1152921504606846976-8:=ze
  have HI:=hid hi2;have HW1:=hid (show IntKind.i64.wrap ((i:Int)+1)=((i+1:Nat):Int)by simp only[IntKind.wrap_i64];omega);have HW2:=hid (show IntKind.i64.wrap ((i:Int)+2)=((i+2:Nat):Int)by simp only[IntKind.wrap_i64];omega);have HP:=hid hpow;obtain⟨nb,hnb⟩:∃nb,bs.length=nb:=⟨_,rfl⟩;rw[hnb];have HNB:=hid hnb;clear hB hL hbc hbs hbl hi hi2 hpow hnb;obtain⟨D,hDD⟩:∃D:Int,(d:Int)+1=D:=⟨_,rfl⟩;rw[hDD];have HD:=hid hDD;clear hDD;obtain⟨W,hW,E,B8⟩:∃W,W=w.alloc (.cells #[.int .i64 0,.string ⟨#[]⟩,.int .i64 0,.bool false,.slice none 0 0,.int .i64 0,.int .i64 0,.slice none 0 0,.int .i64 0] 85)/\Ext w W/\Bk W w.heap.size zBt:=zg;go_enter func44,ntmps44;go_upto_region 1 with fail;rw[<-hW];clear hW;refine rgs 10 [some 18,some 19,some 20,some 21,some 22,some 23,some 24,some 25,some 9,some 10] [IsV lb,iV ((i:Int)),IsN 256,IsN 16,IsV lb,iV ((i:Int)),iV (((i+1:Nat):Int)),IsN 256,IsN 16,IsN 256] [] ?_ ?_
  · refine Rc xa ?_
    refine Rc xu ?_;refine Rc (cl2 (en func87) (qA (fP:=IsV lb) 0 18) (qA (fP:=iV (i:Int)) 1 19) (λx0 x1 w' hE d0 d1=>by{obtain rfl:x0=_:=d0;obtain rfl:x1=_:=d1;exact at_f ((HL.out.ext E).ext hE) (by have:=HI.out;omega)})) ?_;refine Rc (bnN (b:=16) (qA (fP:=IsN 256) 2 20) dcx dcx) ?_;refine Rc xa ?_;refine Rc xu ?_;refine Rc (bn (r:=.int .i64 ((i+1:Nat):Int)) (xQ 5 23) qD (hr:=λw=>by have hx9:=HW1.out;go_simp)) ?_;refine Rc (cl2 (en func87) (qA (fP:=IsV lb) 4 22) (qA (fP:=iV ((i+1:Nat):Int)) 6 24) (λx0 x1 w' hE d0 d1=>by{obtain rfl:x0=_:=d0;obtain rfl:x1=_:=d1;exact at_f ((HL.out.ext E).ext hE) (by have:=HI.out;omega)})) ?_;refine Rc (mv (qA (fP:=IsN 16) 3 21)) ?_;refine Rc (mv (qA (fP:=IsN 256) 7 25)) ?_;exact rn0
  intro v X1 e1 hΦ _;obtain⟨k,hk,hv8⟩:=hΦ 8 dcx;obtain⟨x,hx,hv9⟩:=hΦ 9 dcx;simp only[lxE,Nat.reduceAdd];rw[hv8,hv9];clear hΦ hv8 hv9;replace E:=E.trans e1;replace B8:=B8.ext e1;clear e1;refine zI ?_;go_upto_region 2 with fail;refine rgs 2 [some 26,some 11] [IsRw 0 nmC,IsRw 0 nmC] [] ?_ ?_
  · refine Rc (bsC (xs:=nmC) (hr:=λa w=>⟨9,by unfold nmC;go_simp⟩)) ?_
    refine Rc (mv (qA (fP:=IsRw 0 nmC) 0 26)) ?_;exact rn0
  intro v X2 e1 hΦ _;obtain⟨an,cn,hv1,hnm⟩:=hΦ 1 dcx;simp only[lxE,Nat.reduceAdd];rw[hv1];clear hΦ hv1;replace E:=E.trans e1;replace B8:=B8.ext e1;clear e1;refine zI ?_;have HNM:=hid (show IsRw 0 nmC (.slice an 4 cn) X2 from⟨an,cn,rfl,hnm⟩);have E2:=Ext.refl X2;have HX:=hid hx;have HK:=hid hk;clear hnm hx hk;have h8:=B8.lt;obtain⟨c1,hc1⟩:∃c,decide ((1:Int)<D)=c:=⟨_,rfl⟩;have HC1:=hid hc1;clear hc1;obtain⟨c7,hcc7⟩:∃c,decide ((k:Int)<7)=c:=⟨_,rfl⟩;obtain⟨ra,hrra⟩:∃r,(c1&&c7)=r:=⟨_,rfl⟩;have HCc7:=hid hcc7;have HRra:=hid hrra;clear hcc7 hrra;go_upto_region 3 with fail;refine rgs 6 (dR 27 6) [iV (D),IsV (.bool c1),IsV (.bool c1),IsIf c1 (iV (k:Int)),IsIf c1 (IsV (.bool c7)),IsV (.bool ra)] [] ?_ ?_
  · refine Rc xi ?_
    refine Rc (bn (r:=.bool c1) (xQ 0 27) qD (hr:=λw=>by have hx9:=HC1.out;go_simp)) ?_;refine Rc (mv (qA (fP:=IsV (.bool c1)) 1 28)) ?_;refine RcB 2 29 c1 true (λhb=>by subst hb;exact mv (qC (x:=.int .i64 (k:Int)) 9)) ?_;refine RcB 2 29 c1 true (λhb=>by subst hb;exact bn (r:=.bool c7) (qA (fP:=iV (k:Int)) 3 30) qD (hr:=λw=>by have hx9:=HCc7.out;go_simp)) ?_;refine Rc (pkA (qA (fP:=IsV (.bool c1)) 2 29) (λhb=>by subst hb;exact(qA (fP:=IsV (.bool c7)) 4 31)) HRra.out) ?_;exact rn0
  intro v Y3 e1 hΦ _;simp only[lxE,Nat.reduceAdd];rw[show v 0=.int .i64 D from hΦ 0 dcx,show v 1=.bool c1 from hΦ 1 dcx,show v 2=.bool c1 from hΦ 2 dcx,show v 5=.bool ra from hΦ 5 dcx];clear hΦ;generalize v 3=q3a;generalize v 4=q3b;replace E:=E.trans e1;replace E2:=E2.trans e1;replace B8:=B8.ext e1;clear e1;refine zI ?_;cases ra with
  | true=>
    obtain⟨d',rfl⟩:∃d',d=d'+1:=⟨d-1,by have h:=HRra.out;simp only[Bool.and_eq_true]at h;have h1:=HC1.out;rw[h.1]at h1;simp only[zS]at h1;have:=HD.out;omega⟩;have IH:=hid (IH.out d' rfl);obtain⟨op,hop,hopc⟩:=opsI_at (k:=k) (by have h:=HRra.out;simp only[Bool.and_eq_true]at h;have h1:=HCc7.out;rw[h.2]at h1;simp only[zS]at h1;omega);have HOP:=hid hop;have HOC:=hid hopc;clear hop hopc;have HWD:=hid (show IntKind.i64.wrap (D-1)=(d':Int)+1 by have:=HD.out;simp only[IntKind.wrap_i64];omega);go_upto_region 4 with fail;refine rgs 5 [some 33,some 34,some 35,some 36,some 12] [IsRw 0 opsI,iV ((k:Int)),IsPc (.int .i64 op),iV (op),iV (op)] [] ?_ ?_
    · refine Rc (bsC (xs:=opsI) (hr:=λa w=>⟨3,by unfold opsI;go_simp⟩)) ?_
      refine Rc (mv (qC (x:=.int .i64 (k)) 9)) ?_;refine Rc (ixRw (λg c n j h w=>ix_I g c n j h w) (qA (fP:=IsRw 0 opsI) 0 33) (qA (fP:=iV (k:Int)) 1 34) HOP.out) ?_;refine Rc (ldPc xL (qA (fP:=IsPc (.int .i64 op)) 2 35)) ?_;refine Rc (mv (qA (fP:=iV op) 3 36)) ?_;exact rn0
    intro v X3 e1 hΦ _;simp only[lxE,Nat.reduceAdd];rw[show v 4=.int .i64 op from hΦ 4 dcx];clear hΦ;replace E:=E.trans e1;replace B8:=B8.ext e1;clear e1;refine zI ?_;go_upto_region 5 with fail;refine rgs 7 (dR 37 7) [IsV lb,iV ((i:Int)),iV (((i+1:Nat):Int)),IsV (.slice (some ⟨gb,0,none⟩) nb cb),iV (D),iV ((d':Int)+1),IsBt (w.heap.size+1) d' bs (i+1)] [] ?_ ?_
    · refine Rc xa ?_
      refine Rc xu ?_;refine Rc (bn (r:=.int .i64 ((i+1:Nat):Int)) (xQ 1 38) qD (hr:=λw=>by have hx9:=HW1.out;go_simp)) ?_;refine Rc ji ?_;refine Rc xi ?_;refine Rc (bn (r:=.int .i64 ((d':Int)+1)) (xQ 4 41) qD (hr:=λw=>by have hx9:=HWD.out;go_simp)) ?_
      refine Rc (cl (fQ:=IsBt (w.heap.size+1) d' bs (i+1)) (en func44) rfl rfl zc zc λv a w2 hE hd hf=>by
        have e0:a.eval (.tmp 37)=lb:=(qA 0 37:Od _ _ _ _ _ _ _ (IsV (lb))).out v a w2 hE hd hf;have e1:a.eval (.tmp 39)=.int .i64 ((i+1:Nat):Int):=(qA 2 39:Od _ _ _ _ _ _ _ (iV ((i+1:Nat):Int))).out v a w2 hE hd hf;have e2:a.eval (.tmp 40)=.slice (some ⟨gb,0,none⟩) nb cb:=(qA 3 40:Od _ _ _ _ _ _ _ (IsV (.slice (some ⟨gb,0,none⟩) nb cb))).out v a w2 hE hd hf;have e3:a.eval (.tmp 42)=.int .i64 ((d':Int)+1):=(qA 5 42:Od _ _ _ _ _ _ _ (iV ((d':Int)+1))).out v a w2 hE hd hf;simp only[List.map_toArray,List.map_cons,List.map_nil];rw[e0,e1,e2,e3];have hsz:=B8.lt;have hsz2:=hE.size
        exact zG (IH.out bs w2 lb _ (i+1) HNS.out.1 (by have:=HNS.out.2.1;omega) (by have:=HNS.out.2.2;have:=HP.out;rw[Nat.pow_succ]at *;omega) ((HL.out.ext E).ext hE) ⟨gb,cb,by rw[HNB.out],Nat.lt_of_lt_of_le (Nat.lt_of_lt_of_le hgb E.size) hE.size,λj x hj=>hE.cell (E.cell (HBC.out j x hj))⟩) (λe w3 hq=>by{obtain⟨u,q1,q2,q3⟩:=hq;exact⟨u,q1,q2,q3.dn ze⟩})) ?_
      exact rn0
    intro v X4 e1 hΦ _;obtain⟨ea,ua,ka,hva,ha1,ha2,haw,hna⟩:=hΦ 6 dcx;simp only[lxE,Nat.reduceAdd];rw[hva];clear hΦ hva;replace E:=E.trans e1;replace B8:=B8.ext e1;have HAa:=hid (zL ha1 (zL ha2 haw));clear ha1 ha2 haw;obtain⟨us0,hu0,hla,hone,hnw,_⟩:=id hna;obtain rfl:ua=us0:=by simpa using hu0
    refine stL (λK hK=>?_);refine jJ (vs:=zBt) al_Bt (λBn e3=>hK _ _ ?_);obtain⟨g13,hg13⟩:∃g,X4.heap.size=g:=⟨_,rfl⟩;rw[hg13]at Bn ⊢;generalize X4.alloc (.cells zBt.toArray 85)=Y13 at Bn e3 ⊢;clear hK K
    go_simp
    refine stL (λK hK=>?_);refine zE (us:=ua++ [Value.int .i64 (ka:Int)]) Bn st_Bt rfl (by simp[hla]) nwBt (λZ13 B13 O=>hK _ _ ?_) (ho1:=by rw[List.all_append,hone];rfl);have e4:=O.ext e3 (Nat.le_of_eq hg13);replace E:=E.trans e4;replace B8:=B8.ext e4;replace hna:=NeL.stb _ _ _ _ _ e4 hna;clear hK K O e3 e4 Bn hone hnw hg13;refine zI ?_;go_upto_region 6 with fail;refine rgs 7 (dR 44 7) [IsV lb,IsP g13 8,iV ((ka:Int)),IsV (.slice (some ⟨gb,0,none⟩) nb cb),iV (D),iV ((d':Int)+1),IsBt (w.heap.size+1) d' bs ka] [] ?_ ?_
    · refine Rc xa ?_
      refine Rc (fa (fa_Bt1 g13) (qC 13)) ?_;refine Rc (lv (fP:=iV (ka:Int)) _ (λw' e=>xL w' _ _ (e.cell (ld_BtK hla B13))) (qA 1 45) (λ_ _=>rfl)) ?_;refine Rc ji ?_;refine Rc xi ?_;refine Rc (bn (r:=.int .i64 ((d':Int)+1)) (xQ 4 48) qD (hr:=λw=>by have hx9:=HWD.out;go_simp)) ?_
      refine Rc (cl (fQ:=IsBt (w.heap.size+1) d' bs ka) (en func44) rfl rfl zc zc λv a w2 hE hd hf=>by
        have e0:a.eval (.tmp 44)=lb:=(qA 0 44:Od _ _ _ _ _ _ _ (IsV (lb))).out v a w2 hE hd hf;have e1:a.eval (.tmp 46)=.int .i64 (ka:Int):=(qA 2 46:Od _ _ _ _ _ _ _ (iV (ka:Int))).out v a w2 hE hd hf;have e2:a.eval (.tmp 47)=.slice (some ⟨gb,0,none⟩) nb cb:=(qA 3 47:Od _ _ _ _ _ _ _ (IsV (.slice (some ⟨gb,0,none⟩) nb cb))).out v a w2 hE hd hf;have e3:a.eval (.tmp 49)=.int .i64 ((d':Int)+1):=(qA 5 49:Od _ _ _ _ _ _ _ (iV ((d':Int)+1))).out v a w2 hE hd hf;simp only[List.map_toArray,List.map_cons,List.map_nil];rw[e0,e1,e2,e3];have hsz:=B8.lt;have hsz2:=hE.size
        exact zG (IH.out bs w2 lb _ ka HNS.out.1 (by have:=HNS.out.2.1;omega) (by have:=HNS.out.2.2;have:=HP.out;have:=HAa.out.2.1;rw[Nat.pow_succ]at *;omega) ((HL.out.ext E).ext hE) ⟨gb,cb,by rw[HNB.out],Nat.lt_of_lt_of_le (Nat.lt_of_lt_of_le hgb E.size) hE.size,λj x hj=>hE.cell (E.cell (HBC.out j x hj))⟩) (λe w3 hq=>by{obtain⟨u,q1,q2,q3⟩:=hq;exact⟨u,q1,q2,q3.dn ze⟩})) ?_
      exact rn0
    intro v X6 e1 hΦ _;obtain⟨eb,ub,kb,hva,ha1,ha2,haw,hnb⟩:=hΦ 6 dcx;simp only[lxE,Nat.reduceAdd];rw[hva];clear hΦ hva;replace E:=E.trans e1;replace B8:=B8.ext e1;replace B13:=B13.ext e1;replace hna:=NeL.stb _ _ _ _ _ e1 hna;have HAb:=hid (zL ha1 (zL ha2 haw));clear ha1 ha2 haw;obtain⟨us0,hu0,hlb,hone,hnw,_⟩:=id hnb;obtain rfl:ub=us0:=by simpa using hu0
    refine stL (λK hK=>?_);refine jJ (vs:=zBt) al_Bt (λBn e3=>hK _ _ ?_);obtain⟨g14,hg14⟩:∃g,X6.heap.size=g:=⟨_,rfl⟩;rw[hg14]at Bn ⊢;generalize X6.alloc (.cells zBt.toArray 85)=Y14 at Bn e3 ⊢;clear hK K
    go_simp
    refine stL (λK hK=>?_);refine zE (us:=ub++ [Value.int .i64 (kb:Int)]) Bn st_Bt rfl (by simp[hlb]) nwBt (λZ14 B14 O=>hK _ _ ?_) (ho1:=by rw[List.all_append,hone];rfl);have e4:=O.ext e3 (Nat.le_of_eq hg14);replace E:=E.trans e4;replace B8:=B8.ext e4;replace B13:=B13.ext e4;replace hna:=NeL.stb _ _ _ _ _ e4 hna;replace hnb:=NeL.stb _ _ _ _ _ e4 hnb;clear hK K O e3 e4 Bn hone hnw hg14;refine zI ?_;go_upto_region 7 with fail;refine rgs 10 (dR 51 10) [iV (op),IsP g13 0,NhL (w.heap.size+1) Z14.heap.size ea,IsP g14 0,NhL (w.heap.size+1) Z14.heap.size eb,NsL (w.heap.size+1) Z14.heap.size [ea,eb],NeL (w.heap.size+1) (.bin op ea eb),IsP g14 8,iV ((kb:Int)),IsBt (w.heap.size+1) (d'+1) bs i] [] ?_ ?_
    · refine Rc (mv (qC 12)) ?_
      refine Rc (fa (fa_Bt0 g13) (qC 13)) ?_;refine Rc (lv _ (λw' e=>ld_NdO hla (B13.ext e)) (qA 1 52) (λw' e=>NhL.stb _ _ _ _ _ _ e hna)) ?_;refine Rc (fa (fa_Bt0 g14) (qC 14)) ?_;refine Rc (lv _ (λw' e=>ld_NdO hlb (B14.ext e)) (qA 3 54) (λw' e=>NhL.stb _ _ _ _ _ _ e hnb)) ?_;refine Rc (bs2L (qA (fP:=NhL (w.heap.size+1) Z14.heap.size ea) 2 53) (qA (fP:=NhL (w.heap.size+1) Z14.heap.size eb) 4 55) B8.lt) ?_;refine Rc (bdBin (qA (fP:=iV op) 0 51) (qA (fP:=NsL (w.heap.size+1) Z14.heap.size [ea,eb]) 5 56) (zN _) (hop:=by rcases HOC.out with h|h|h|h|h|h|h <;> rw[h] <;> decide)) ?_;refine Rc (fa (fa_Bt1 g14) (qC 14)) ?_;refine Rc (lv (fP:=iV (kb:Int)) _ (λw' e=>xL w' _ _ (e.cell (ld_BtK hlb B14))) (qA 7 58) (λ_ _=>rfl)) ?_;refine Rc (bdBt (d:=d'+1) (j:=i) (k':=kb) (bs:=bs) (e:=.bin op ea eb) (qA (fP:=NeL (w.heap.size+1) (.bin op ea eb)) 6 57) (qA (fP:=iV (kb:Int)) 8 59) (by{obtain⟨q1,q2,q3⟩:=HAa.out;obtain⟨r1,r2,r3⟩:=HAb.out;refine⟨?_,by omega,by have:=HP.out;rw[Nat.pow_succ]at *;omega⟩;simp only[wfT];exact⟨HOC.out,q3,r3⟩})) ?_;exact rn0
    intro v X8 e1 hΦ _;clear B13 B14 hna hnb;obtain⟨ee,us,kk,hv,hk1,hk2,hwt,hne⟩:=hΦ 9 dcx;exact tNtr_1
  | false=>
    obtain⟨c10,hcc10⟩:∃c,decide ((k:Int)<10)=c:=⟨_,rfl⟩;obtain⟨rb,hrrb⟩:∃r,(c1&&c10)=r:=⟨_,rfl⟩;have HCc10:=hid hcc10;have HRrb:=hid hrrb;clear hcc10 hrrb;go_upto_region 8 with fail;refine rgs 6 (dR 61 6) [iV (D),IsV (.bool c1),IsV (.bool c1),IsIf c1 (iV (k:Int)),IsIf c1 (IsV (.bool c10)),IsV (.bool rb)] [] ?_ ?_
    · refine Rc xi ?_
      refine Rc (bn (r:=.bool c1) (xQ 0 61) qD (hr:=λw=>by have hx9:=HC1.out;go_simp)) ?_;refine Rc (mv (qA (fP:=IsV (.bool c1)) 1 62)) ?_;refine RcB 2 63 c1 true (λhb=>by subst hb;exact mv (qC (x:=.int .i64 (k:Int)) 9)) ?_;refine RcB 2 63 c1 true (λhb=>by subst hb;exact bn (r:=.bool c10) (qA (fP:=iV (k:Int)) 3 64) qD (hr:=λw=>by have hx9:=HCc10.out;go_simp)) ?_;refine Rc (pkA (qA (fP:=IsV (.bool c1)) 2 63) (λhb=>by subst hb;exact(qA (fP:=IsV (.bool c10)) 4 65)) HRrb.out) ?_;exact rn0
    intro v Y8 e1 hΦ _;simp only[lxE,Nat.reduceAdd];rw[show v 0=.int .i64 D from hΦ 0 dcx,show v 1=.bool c1 from hΦ 1 dcx,show v 2=.bool c1 from hΦ 2 dcx,show v 5=.bool rb from hΦ 5 dcx];clear hΦ;generalize v 3=q8a;generalize v 4=q8b;replace E:=E.trans e1;replace E2:=E2.trans e1;replace B8:=B8.ext e1;clear e1;refine zI ?_;cases rb with
    | true=>
      obtain⟨d',rfl⟩:∃d',d=d'+1:=⟨d-1,by have h:=HRrb.out;simp only[Bool.and_eq_true]at h;have h1:=HC1.out;rw[h.1]at h1;simp only[zS]at h1;have:=HD.out;omega⟩;have IH:=hid (IH.out d' rfl);obtain⟨s,hs,hs9⟩:=nmV_at (Nat.mod_lt x (show 0<3 by decide));have HS:=hid (zL hs hs9);clear hs hs9;have HWD:=hid (show IntKind.i64.wrap (D-1)=(d':Int)+1 by have:=HD.out;simp only[IntKind.wrap_i64];omega);have HXS:=hid (show IntKind.i64.wrap ((x:Int)-100)=(x:Int)-100 by have:=HX.out;simp only[IntKind.wrap_i64];omega);go_upto_region 9 with fail;refine rgs 9 [some 67,some 68,some 69,some 70,some 71,some 72,some 73,some 15,some 16] [IsRw 0 nmV,iV ((x:Int)),iV (((x%3:Nat):Int)),IsPc (.string s),IsV (.string s),iV ((x:Int)),iV ((x:Int)-100),IsV (.string s),iV ((x:Int)-100)] [] ?_ ?_
      · refine Rc (bsC (xs:=nmV) (hr:=λa w=>⟨9,by unfold nmV;go_simp⟩)) ?_
        refine Rc jd ?_;refine Rc (bnR (a:=x) (b:=3) (qA (fP:=iV (x:Int)) 1 68) qD dcx jy) ?_;refine Rc (ixRw (λg c n j h w=>ix_Sx g c n j h w) (qA (fP:=IsRw 0 nmV) 0 67) (qA (fP:=iV ((x%3:Nat):Int)) 2 69) HS.out.1) ?_;refine Rc (ldPc qP (qA (fP:=IsPc (.string s)) 3 70)) ?_;refine Rc jd ?_;refine Rc (bn (r:=.int .i64 ((x:Int)-100)) (xQ 5 72) qD (hr:=λw=>by have hx9:=HXS.out;go_simp)) ?_;refine Rc (mv (qA (fP:=IsV (.string s)) 4 71)) ?_;refine Rc (mv (qA (fP:=iV ((x:Int)-100)) 6 73)) ?_;exact rn0
      intro v X3 e1 hΦ _;simp only[lxE,Nat.reduceAdd];rw[show v 7=.string s from hΦ 7 dcx,show v 8=.int .i64 ((x:Int)-100)from hΦ 8 dcx];clear hΦ;replace E:=E.trans e1;replace B8:=B8.ext e1;clear e1;refine zI ?_
      have hcb:∀j u,(bs.map Value.string)[j]? =some u->(X3.alloc (.cells #[] 9)).cell? ⟨gb,j,none⟩=some u:=λj u hj=>by
        rw[List.getElem?_map]at hj;obtain⟨y,hy,rfl⟩:=Option.map_eq_some_iff.1 hj;exact((Ext.refl X3).alloc _).cell (E.cell (HBC.out j y hy))
      have HNB4:=hid (show nb+d'+1<=4 by have:=HNS.out.2.1;have:=HNB.out;omega);have hx2:=HW2.out;have hx3:=HWD.out
      go_wp2_with (first
        | (at_builtin;refine wpl_rwg rfl _ _ 53 rfl X3.heap.size 9 (.string ⟨#[]⟩) 1 16 zc zc rfl dcx _ 0 [] rfl (RwgS.zero X3 (zN _)) gb nb cb (bs.map Value.string) rfl (by simp[HNB.out]) hcb (by simp[Value.oneCell']) (by have:=HNB4.out;omega) (by have:=HNB4.out;omega) zo ?_;intro v4 w4 hr4 hg4 hb4)
        | (at_builtin;go_must (refine wpl_rwg rfl _ _ 53 rfl X3.heap.size 9 (.string ⟨#[]⟩) 1 16 zc zc rfl dcx _ (0+nb) ([]++bs.map Value.string) rfl (hr4.ext ((Ext.refl _).alloc _)) w4.heap.size 1 1 [.string s] rfl rfl (cells_new _ _ _) (by simp[Value.oneCell']) (by have:=HNB4.out;omega) (by have:=HNB4.out;omega) (by have:=hb4.size;simp at this ⊢;omega) ?_;intro v5 w5 hr5 hg5 hb5))
        | (go_at_call 44;fail))
      have hci:(i:Int)+2=((i+2:Nat):Int):=ze
      rw[hci];have e5:Ext X3 w5:=Below.trans (Below.trans ((Ext.refl X3).alloc _) hb4) (((Below.refl X3.heap.size w4).alloc (by have:=hb4.size;simp at this;omega) _).trans hb5);have hrs:IsRs (bs++ [s]) v5 w5:=IsRs.of (base:=X3.heap.size) (by simpa [HNB.out]using hr5) zo;have h8':=B8.lt;clear hr4 hr5 hg4 hg5 hb4 hb5 hcb hx2 hx3 hci;replace E:=E.trans e5;replace B8:=B8.ext e5;refine zG (IH.out (bs++ [s]) w5 lb v5 (i+2) (λy hy=>(List.mem_append.1 hy).elim (HNS.out.1 y) (λh=>by rw[List.mem_singleton.1 h];exact HS.out.2.1)) (by have:=HNB4.out;have:=HNB.out;simp;omega) (by have:=HNS.out.2.2;have:=HP.out;rw[Nat.pow_succ]at *;omega) (HL.out.ext E) hrs) ?_;rintro e X6 ⟨u,rfl,e6,eb,ub,kb,rfl,ha1,ha2,haw,hnb0⟩;have hnb:NeL (w.heap.size+1) eb (.agg ub.toArray) X6:=by obtain⟨us',q1,q2,q3,q4,q5⟩:=hnb0;exact⟨us',q1,q2,q3,q4,q5.up (by have:=B8.lt;omega) (zN _)⟩
      clear hnb0
      rename_i K9 hK9
      refine hK9 _ _ ?_;clear hK9 K9;replace E:=E.trans e6;replace B8:=B8.ext e6;have HAb:=hid (zL ha1 (zL ha2 haw));clear ha1 ha2 haw e5 e6 hrs;obtain⟨us0,hu0,hlb,hone,hnw,_⟩:=id hnb;obtain rfl:ub=us0:=by simpa using hu0
      refine stL (λK hK=>?_);refine jJ (vs:=zBt) al_Bt (λBn e3=>hK _ _ ?_);obtain⟨g17,hg17⟩:∃g,X6.heap.size=g:=⟨_,rfl⟩;rw[hg17]at Bn ⊢;generalize X6.alloc (.cells zBt.toArray 85)=Y17 at Bn e3 ⊢;clear hK K
      go_simp
      refine stL (λK hK=>?_);refine zE (us:=ub++ [Value.int .i64 (kb:Int)]) Bn st_Bt rfl (by simp[hlb]) nwBt (λZ17 B17 O=>hK _ _ ?_) (ho1:=by rw[List.all_append,hone];rfl);have e4:=O.ext e3 (Nat.le_of_eq hg17);replace E:=E.trans e4;replace B8:=B8.ext e4;replace hnb:=NeL.stb _ _ _ _ _ e4 hnb;clear hK K O e3 e4 Bn hone hnw hg17;refine zI ?_
      have HKK:=hid (show IntKind.i64.wrap (9+((k%2:Nat):Int))=9+((k%2:Nat):Int)/\IntKind.i64.wrap (((x:Int)-100)+((x%7:Nat):Int))=((x:Int)-100)+((x%7:Nat):Int)/\(9+((k%2:Nat):Int)=if decide (k%2=1)then 10 else 9)by
        have h1:=HX.out;have h2:k%2<2:=Nat.mod_lt _ dcx;have h3:x%7<7:=Nat.mod_lt _ dcx;refine⟨?_,?_,?_⟩
        ·simp only[IntKind.wrap_i64];omega
        ·simp only[IntKind.wrap_i64];omega
        · by_cases c:k%2=1
          ·simp[c]
          · have:k%2=0:=by omega
            simp[this])
      go_upto_region 11 with fail;refine rgs 16 (dR 86 16) [iV ((k:Int)),iV (((k%2:Nat):Int)),iV (9+((k%2:Nat):Int)),IsV (.string s),iV ((x:Int)-100),iV ((x:Int)-100),iV ((x:Int)),iV (((x%7:Nat):Int)),iV (((x:Int)-100)+((x%7:Nat):Int)),IsP g17 0,NhL (w.heap.size+1) Z17.heap.size eb,NsL (w.heap.size+1) Z17.heap.size [eb],NeL (w.heap.size+1) (.loop (decide (k%2=1)) s ((x:Int)-100) (((x:Int)-100)+((x%7:Nat):Int)) eb),IsP g17 8,iV ((kb:Int)),IsBt (w.heap.size+1) (d'+1) bs i] [] ?_ ?_
      · refine Rc (mv (qC (x:=.int .i64 (k)) 9)) ?_
        refine Rc (bnR (a:=k) (b:=2) (qA (fP:=iV (k:Int)) 0 86) qD dcx (by have:=HK.out;omega)) ?_;refine Rc (bn (r:=.int .i64 (9+((k%2:Nat):Int))) qD (xQ 1 87) (hr:=λw=>by have hx9:=HKK.out.1;push_cast at hx9;go_simp)) ?_;refine Rc (mv (qC (x:=.string s) 15)) ?_;refine Rc (mv (qC (x:=.int .i64 ((x:Int)-100)) 16)) ?_;refine Rc (mv (qC (x:=.int .i64 ((x:Int)-100)) 16)) ?_;refine Rc jd ?_;refine Rc (bnR (a:=x) (b:=7) (qA (fP:=iV (x:Int)) 6 92) qD dcx jy) ?_;refine Rc (bn (r:=.int .i64 (((x:Int)-100)+((x%7:Nat):Int))) (xQ 5 91) (xQ 7 93) (hr:=λw=>by have hx9:=HKK.out.2.1;push_cast at hx9;go_simp)) ?_;refine Rc (fa (fa_Bt0 g17) (qC 17)) ?_;refine Rc (lv _ (λw' e=>ld_NdO hlb (B17.ext e)) (qA 9 95) (λw' e=>NhL.stb _ _ _ _ _ _ e hnb)) ?_;refine Rc (bs1L (qA (fP:=NhL (w.heap.size+1) Z17.heap.size eb) 10 96) B8.lt) ?_;refine Rc (bdLoop (fst:=decide (k%2=1)) (qA (fP:=iV (9+((k%2:Nat):Int))) 2 88) (qA (fP:=IsV (.string s)) 3 89) (qA (fP:=iV ((x:Int)-100)) 4 90) (qA (fP:=iV (((x:Int)-100)+((x%7:Nat):Int))) 8 94) (qA (fP:=NsL (w.heap.size+1) Z17.heap.size [eb]) 11 97) HKK.out.2.2 (zN _) (by have:=HS.out.2.1;omega)) ?_;refine Rc (fa (fa_Bt1 g17) (qC 17)) ?_;refine Rc (lv (fP:=iV (kb:Int)) _ (λw' e=>xL w' _ _ (e.cell (ld_BtK hlb B17))) (qA 13 99) (λ_ _=>rfl)) ?_;refine Rc (bdBt (d:=d'+1) (j:=i) (k':=kb) (bs:=bs) (e:=.loop (decide (k%2=1)) s ((x:Int)-100) (((x:Int)-100)+((x%7:Nat):Int)) eb) (qA (fP:=NeL (w.heap.size+1) (.loop (decide (k%2=1)) s ((x:Int)-100) (((x:Int)-100)+((x%7:Nat):Int)) eb)) 12 98) (qA (fP:=iV (kb:Int)) 14 100) (by{obtain⟨r1,r2,r3⟩:=HAb.out;have h1:=HX.out;have h3:x%7<7:=Nat.mod_lt _ dcx;have h9:=HS.out.2;refine⟨?_,by omega,by have:=HP.out;rw[Nat.pow_succ]at *;omega⟩;simp only[wfT];exact⟨h9.2,by omega,by omega,by omega,by omega,r3⟩})) ?_;exact rn0
      intro v X8 e1 hΦ _;clear B17 hnb;obtain⟨ee,us,kk,hv,hk1,hk2,hwt,hne⟩:=hΦ 15 dcx;exact tNtr_1
    | false=>
      by_cases hk12:(k:Int)<12
      · have HXX:=hid (show IntKind.i64.wrap ((x:Int)*x)=(x:Int)*x/\IntKind.i64.wrap ((x:Int)*x-900)=(x:Int)*x-900/\(-900<=(x:Int)*x-900/\(x:Int)*x-900<=64125)by
          have h1:=HX.out;have h2:(x:Int)*x<=255*255:=Int.mul_le_mul ze ze ze ze;have h3:0<=(x:Int)*x:=Int.mul_nonneg ze ze;refine⟨?_,?_,?_⟩
          ·simp only[IntKind.wrap_i64];omega
          ·simp only[IntKind.wrap_i64];omega
          ·omega)
        go_upto_region 13 with fail;refine rgs 9 (dR 104 9) [iV ((x:Int)),iV ((x:Int)),iV ((x:Int)*x),iV ((x:Int)*x-900),IsI 2 ((x:Int)*x-900),NeL (w.heap.size+1) (.num ((x:Int)*x-900)),iV ((i:Int)),iV (((i+2:Nat):Int)),IsBt (w.heap.size+1) d bs i] [] ?_ ?_
        · refine Rc jd ?_
          refine Rc jd ?_;refine Rc (bn (r:=.int .i64 ((x:Int)*x)) (xQ 0 104) (xQ 1 105) (hr:=λw=>by have hx9:=HXX.out.1;go_simp)) ?_;refine Rc (bn (r:=.int .i64 ((x:Int)*x-900)) (xQ 2 106) qD (hr:=λw=>by have hx9:=HXX.out.2.1;go_simp)) ?_;refine Rc (cl1 (en func31) (qA (fP:=iV ((x:Int)*x-900)) 3 107) (λx0 w' hE d0=>by{obtain rfl:x0=_:=d0;exact ROf_f w' _ (by have:=HXX.out.2.2;omega) (by have:=HXX.out.2.2;omega)})) ?_;refine Rc (bdNum (B:=w.heap.size+1) (qA (fP:=IsI 2 ((x:Int)*x-900)) 4 108)) ?_;refine Rc xu ?_;refine Rc (bn (r:=.int .i64 ((i+2:Nat):Int)) (xQ 6 110) qD (hr:=λw=>by have hx9:=HW2.out;go_simp)) ?_;refine Rc (bdBt (d:=d) (j:=i) (k':=i+2) (bs:=bs) (e:=.num ((x:Int)*x-900)) (qA (fP:=NeL (w.heap.size+1) (.num ((x:Int)*x-900))) 5 109) (qA (fP:=iV ((i+2:Nat):Int)) 7 111) (by{have:=HP.out;refine⟨?_,by omega,by omega⟩;simp only[wfT];exact HXX.out.2.2})) ?_;exact rn0
        intro v X3 e1 hΦ _;obtain⟨ee,us,kk,hv,hk1,hk2,hwt,hne⟩:=hΦ 8 dcx;exact tNtr_1
      · have hk12':(12:Int)<=(k:Int):=by omega
        clear hk12;obtain⟨cn0,hcn0⟩:∃c,decide (0<nb)=c:=⟨_,rfl⟩;have HCN:=hid hcn0;clear hcn0;obtain⟨c12,hcc12⟩:∃c,((k:Int)==12)=c:=⟨_,rfl⟩;obtain⟨rd,hrrd⟩:∃r,(c12&&cn0)=r:=⟨_,rfl⟩;have HCc12:=hid hcc12;have HRrd:=hid hrrd;clear hcc12 hrrd;go_upto_region 14 with fail;refine rgs 7 (dR 113 7) [iV ((k:Int)),IsV (.bool c12),IsV (.bool c12),IsIf c12 (IsV (.slice (some ⟨gb,0,none⟩) nb cb)),IsIf c12 (iV (nb:Int)),IsIf c12 (IsV (.bool cn0)),IsV (.bool rd)] [] ?_ ?_
        · refine Rc (mv (qC (x:=.int .i64 (k:Int)) 9)) ?_
          refine Rc (bn (r:=.bool c12) (xQ 0 113) qD (hr:=λw=>by have hx9:=HCc12.out;go_simp)) ?_;refine Rc (mv (qA (fP:=IsV (.bool c12)) 1 114)) ?_;refine RcB 2 115 c12 true (λhb=>by subst hb;exact mv (qC (x:=.slice (some ⟨gb,0,none⟩) nb cb) 2)) ?_;refine RcB 2 115 c12 true (λhb=>by subst hb;exact lenSt (qA (fP:=IsV (.slice (some ⟨gb,0,none⟩) nb cb)) 3 116)) ?_;refine RcB 2 115 c12 true (λhb=>by subst hb;exact bn (r:=.bool cn0) (qA (fP:=iV (nb:Int)) 4 117) qD (hr:=λw=>by have hx9:=HCN.out;go_simp)) ?_;refine Rc (pkA (qA (fP:=IsV (.bool c12)) 2 115) (λhb=>by subst hb;exact(qA (fP:=IsV (.bool cn0)) 5 118)) HRrd.out) ?_;exact rn0
        intro v Y14 e1 hΦ _;simp only[lxE,Nat.reduceAdd];rw[show v 0=.int .i64 (k:Int)from hΦ 0 dcx,show v 1=.bool c12 from hΦ 1 dcx,show v 2=.bool c12 from hΦ 2 dcx,show v 6=.bool rd from hΦ 6 dcx];clear hΦ;generalize v 3=q14a;generalize v 4=q14b;generalize v 5=q14c;replace E:=E.trans e1;replace E2:=E2.trans e1;replace B8:=B8.ext e1;clear e1;refine zI ?_;cases rd with
        | true=>
          have HN0:=hid (show 0<nb by have h:=HRrd.out;simp only[Bool.and_eq_true]at h;have h1:=HCN.out;rw[h.2]at h1;simp only[zS]at h1;omega);obtain⟨s,hs⟩:∃s,bs[x%nb]? =some s:=⟨_,List.getElem?_eq_getElem (by rw[HNB.out];exact Nat.mod_lt _ HN0.out)⟩;have HS:=hid (zL (HBC.out _ s hs) (List.mem_of_getElem? hs));clear hs;go_upto_region 15 with fail;refine rgs 11 (dR 120 11) [IsV (.slice (some ⟨gb,0,none⟩) nb cb),iV ((x:Int)),IsV (.slice (some ⟨gb,0,none⟩) nb cb),iV ((nb:Int)),iV (((x%nb:Nat):Int)),IsP gb (x%nb),IsV (.string s),NeL (w.heap.size+1) (.var s),iV ((i:Int)),iV (((i+2:Nat):Int)),IsBt (w.heap.size+1) d bs i] [] ?_ ?_
          · refine Rc ji ?_
            refine Rc jd ?_;refine Rc ji ?_;refine Rc (lenSt (qA (fP:=IsV (.slice (some ⟨gb,0,none⟩) nb cb)) 2 122)) ?_;refine Rc (bnR (a:=x) (b:=nb) (qA (fP:=iV (x:Int)) 1 121) (qA (fP:=iV (nb:Int)) 3 123) (by exact HN0.out) jy) ?_;refine Rc (ixq (ix_Sx gb cb nb (x%nb) (Nat.mod_lt _ HN0.out)) (qA 0 120) (qA 4 124)) ?_;refine Rc (lv (fP:=IsV (.string s)) _ (λw' e=>qP w' _ _ (e.cell (E.cell HS.out.1))) (qA 5 125) (λ_ _=>rfl)) ?_;refine Rc (bdLeaf2 (B:=w.heap.size+1) (e:=.var s) qD (qA (fP:=IsV (.string s)) 6 126) (.inl ⟨rfl,rfl⟩) (by have:=HNS.out.1 s HS.out.2;omega)) ?_;refine Rc xu ?_;refine Rc (bn (r:=.int .i64 ((i+2:Nat):Int)) (xQ 8 128) qD (hr:=λw=>by have hx9:=HW2.out;go_simp)) ?_;refine Rc (bdBt (d:=d) (j:=i) (k':=i+2) (bs:=bs) (e:=.var s) (qA (fP:=NeL (w.heap.size+1) (.var s)) 7 127) (qA (fP:=iV ((i+2:Nat):Int)) 9 129) (by{have:=HP.out;refine⟨?_,by omega,by omega⟩;simp only[wfT];exact HS.out.2})) ?_;exact rn0
          intro v X3 e1 hΦ _;obtain⟨ee,us,kk,hv,hk1,hk2,hwt,hne⟩:=hΦ 10 dcx;exact tNtr_1
        | false=>
          obtain⟨c13,hcc13⟩:∃c,((k:Int)==13)=c:=⟨_,rfl⟩;obtain⟨re,hrre⟩:∃r,(c13&&cn0)=r:=⟨_,rfl⟩;have HCc13:=hid hcc13;have HRre:=hid hrre;clear hcc13 hrre;go_upto_region 16 with fail;refine rgs 7 (dR 131 7) [iV ((k:Int)),IsV (.bool c13),IsV (.bool c13),IsIf c13 (IsV (.slice (some ⟨gb,0,none⟩) nb cb)),IsIf c13 (iV (nb:Int)),IsIf c13 (IsV (.bool cn0)),IsV (.bool re)] [] ?_ ?_
          · refine Rc (mv (qC (x:=.int .i64 (k:Int)) 9)) ?_
            refine Rc (bn (r:=.bool c13) (xQ 0 131) qD (hr:=λw=>by have hx9:=HCc13.out;go_simp)) ?_;refine Rc (mv (qA (fP:=IsV (.bool c13)) 1 132)) ?_;refine RcB 2 133 c13 true (λhb=>by subst hb;exact mv (qC (x:=.slice (some ⟨gb,0,none⟩) nb cb) 2)) ?_;refine RcB 2 133 c13 true (λhb=>by subst hb;exact lenSt (qA (fP:=IsV (.slice (some ⟨gb,0,none⟩) nb cb)) 3 134)) ?_;refine RcB 2 133 c13 true (λhb=>by subst hb;exact bn (r:=.bool cn0) (qA (fP:=iV (nb:Int)) 4 135) qD (hr:=λw=>by have hx9:=HCN.out;go_simp)) ?_;refine Rc (pkA (qA (fP:=IsV (.bool c13)) 2 133) (λhb=>by subst hb;exact(qA (fP:=IsV (.bool cn0)) 5 136)) HRre.out) ?_;exact rn0
          intro v Y16 e1 hΦ _;simp only[lxE,Nat.reduceAdd];rw[show v 0=.int .i64 (k:Int)from hΦ 0 dcx,show v 1=.bool c13 from hΦ 1 dcx,show v 2=.bool c13 from hΦ 2 dcx,show v 6=.bool re from hΦ 6 dcx];clear hΦ;generalize v 3=q16a;generalize v 4=q16b;generalize v 5=q16c;replace E:=E.trans e1;replace E2:=E2.trans e1;replace B8:=B8.ext e1;clear e1;refine zI ?_;cases re with
          | true=>
            have HN0:=hid (show 0<nb by have h:=HRre.out;simp only[Bool.and_eq_true]at h;have h1:=HCN.out;rw[h.2]at h1;simp only[zS]at h1;omega);obtain⟨s,hs⟩:∃s,bs[x%nb]? =some s:=⟨_,List.getElem?_eq_getElem (by rw[HNB.out];exact Nat.mod_lt _ HN0.out)⟩;have HS:=hid (zL (HBC.out _ s hs) (List.mem_of_getElem? hs));clear hs
            have HSZ:=hid (show(⟨#[104,58,123]⟩:ByteArray).size+s.size=3+s.size/\(⟨#[104,58,123]⟩++s:ByteArray).size+(⟨#[125]⟩:ByteArray).size=4+s.size/\(0<=((x%3:Nat):Int)/\((x%3:Nat):Int)<=2/\(⟨#[104,58,123]⟩++s++⟨#[125]⟩:ByteArray).size<=16/\(bl (⟨#[104,58,123]⟩++s++⟨#[125]⟩)∈nmEs\/∃t∈bs,bl (⟨#[104,58,123]⟩++s++⟨#[125]⟩)= [104,58,123]++bl t++ [125]))by
              have h1:=HNS.out.1 s HS.out.2;have h2:x%3<3:=Nat.mod_lt _ dcx;have h3:(⟨#[104,58,123]⟩:ByteArray).size=3:=rfl;have h4:(⟨#[125]⟩:ByteArray).size=1:=rfl
              refine⟨by omega,by rw[ByteArray.size_append];omega,by omega,by omega,by rw[ByteArray.size_append,ByteArray.size_append];omega,.inr ⟨s,HS.out.2,by simp[bl,ByteArray.data_append]⟩⟩)
            have HSL:=hid (show s.size<=9 from HNS.out.1 s HS.out.2);go_upto_region 17 with fail;refine rgs 15 (dR 138 15) [IsV (.slice (some ⟨gb,0,none⟩) nb cb),iV ((x:Int)),IsV (.slice (some ⟨gb,0,none⟩) nb cb),iV ((nb:Int)),iV (((x%nb:Nat):Int)),IsP gb (x%nb),IsV (.string s),IsV (.string (⟨#[104,58,123]⟩++s)),IsV (.string (⟨#[104,58,123]⟩++s++⟨#[125]⟩)),iV ((x:Int)),iV (((x%3:Nat):Int)),NeL (w.heap.size+1) (.val (⟨#[104,58,123]⟩++s++⟨#[125]⟩) ((x%3:Nat):Int)),iV ((i:Int)),iV (((i+2:Nat):Int)),IsBt (w.heap.size+1) d bs i] [] ?_ ?_
            · refine Rc ji ?_
              refine Rc jd ?_;refine Rc ji ?_;refine Rc (lenSt (qA (fP:=IsV (.slice (some ⟨gb,0,none⟩) nb cb)) 2 140)) ?_;refine Rc (bnR (a:=x) (b:=nb) (qA (fP:=iV (x:Int)) 1 139) (qA (fP:=iV (nb:Int)) 3 141) (by exact HN0.out) jy) ?_;refine Rc (ixq (ix_Sx gb cb nb (x%nb) (Nat.mod_lt _ HN0.out)) (qA 0 138) (qA 4 142)) ?_;refine Rc (lv (fP:=IsV (.string s)) _ (λw' e=>qP w' _ _ (e.cell (E.cell HS.out.1))) (qA 5 143) (λ_ _=>rfl)) ?_;refine Rc (bn (r:=.string (⟨#[104,58,123]⟩++s)) qD (xQ 6 144) (hr:=cat_runB _ s (by have:=HSL.out;have:=HSZ.out.1;omega) _ _)) ?_;refine Rc (bn (r:=.string (⟨#[104,58,123]⟩++s++⟨#[125]⟩)) (xQ 7 145) qD (hr:=cat_runB _ _ (by have:=HSL.out;have:=HSZ.out.2.1;omega) _ _)) ?_;refine Rc jd ?_;refine Rc (bnR (a:=x) (b:=3) (qA (fP:=iV (x:Int)) 9 147) qD dcx jy) ?_;refine Rc (bdLeaf (B:=w.heap.size+1) (e:=.val (⟨#[104,58,123]⟩++s++⟨#[125]⟩) ((x%3:Nat):Int)) qD (qA (fP:=IsV (.string (⟨#[104,58,123]⟩++s++⟨#[125]⟩))) 8 146) (qA (fP:=iV ((x%3:Nat):Int)) 10 148) ⟨rfl,rfl⟩ (by have:=HSZ.out.2.2.2.2.1;omega)) ?_;refine Rc xu ?_;refine Rc (bn (r:=.int .i64 ((i+2:Nat):Int)) (xQ 12 150) qD (hr:=λw=>by have hx9:=HW2.out;go_simp)) ?_;refine Rc (bdBt (d:=d) (j:=i) (k':=i+2) (bs:=bs) (e:=.val (⟨#[104,58,123]⟩++s++⟨#[125]⟩) ((x%3:Nat):Int)) (qA (fP:=NeL (w.heap.size+1) (.val (⟨#[104,58,123]⟩++s++⟨#[125]⟩) ((x%3:Nat):Int))) 11 149) (qA (fP:=iV ((i+2:Nat):Int)) 13 151) (by{have:=HP.out;refine⟨?_,by omega,by omega⟩;simp only[wfT];exact⟨HSZ.out.2.2.1,HSZ.out.2.2.2.1,HSZ.out.2.2.2.2.2⟩})) ?_;exact rn0
            intro v X3 e1 hΦ _;obtain⟨ee,us,kk,hv,hk1,hk2,hwt,hne⟩:=hΦ 14 dcx;exact tNtr_1
          | false=>
            by_cases hk15:(k:Int)<15
            · obtain⟨s,hs⟩:=nmE_at (Nat.mod_lt x (show 0<6 by decide))
              have HS:=hid hs;clear hs;go_upto_region 19 with fail;refine rgs 11 (dR 155 11) [IsRw 0 nmE,iV ((x:Int)),iV (((x%6:Nat):Int)),IsPc (.string s),IsV (.string s),iV ((x:Int)),iV (((x%3:Nat):Int)),NeL (w.heap.size+1) (.val s ((x%3:Nat):Int)),iV ((i:Int)),iV (((i+2:Nat):Int)),IsBt (w.heap.size+1) d bs i] [] ?_ ?_
              · refine Rc (bsC (xs:=nmE) (hr:=λa w=>⟨9,by unfold nmE;go_simp⟩)) ?_
                refine Rc jd ?_;refine Rc (bnR (a:=x) (b:=6) (qA (fP:=iV (x:Int)) 1 156) qD dcx jy) ?_;refine Rc (ixRw (λg c n j h w=>ix_Sx g c n j h w) (qA (fP:=IsRw 0 nmE) 0 155) (qA (fP:=iV ((x%6:Nat):Int)) 2 157) HS.out.1) ?_;refine Rc (ldPc qP (qA (fP:=IsPc (.string s)) 3 158)) ?_;refine Rc jd ?_;refine Rc (bnR (a:=x) (b:=3) (qA (fP:=iV (x:Int)) 5 160) qD dcx jy) ?_;refine Rc (bdLeaf (B:=w.heap.size+1) (e:=.val s ((x%3:Nat):Int)) qD (qA (fP:=IsV (.string s)) 4 159) (qA (fP:=iV ((x%3:Nat):Int)) 6 161) ⟨rfl,rfl⟩ (by have:=HS.out.2.1;omega)) ?_;refine Rc xu ?_;refine Rc (bn (r:=.int .i64 ((i+2:Nat):Int)) (xQ 8 163) qD (hr:=λw=>by have hx9:=HW2.out;go_simp)) ?_;refine Rc (bdBt (d:=d) (j:=i) (k':=i+2) (bs:=bs) (e:=.val s ((x%3:Nat):Int)) (qA (fP:=NeL (w.heap.size+1) (.val s ((x%3:Nat):Int))) 7 162) (qA (fP:=iV ((i+2:Nat):Int)) 9 164) (by{have:=HP.out;refine⟨?_,by omega,by omega⟩;simp only[wfT];have h2:x%3<3:=Nat.mod_lt _ dcx;exact⟨by omega,by omega,.inl HS.out.2.2⟩})) ?_;exact rn0
              intro v X3 e1 hΦ _;obtain⟨ee,us,kk,hv,hk1,hk2,hwt,hne⟩:=hΦ 10 dcx;exact tNtr_1
            · have hk15':(15:Int)<=(k:Int):=by omega
              clear hk15;obtain⟨s,hs⟩:=nmC_at (Nat.mod_lt x (show 0<4 by decide));have HS:=hid hs;clear hs;go_upto_region 20 with fail;refine rgs 9 (dR 166 9) [IsRw 0 nmC,iV ((x:Int)),iV (((x%4:Nat):Int)),IsPc (.string s),IsV (.string s),NeL (w.heap.size+1) (.cell s),iV ((i:Int)),iV (((i+2:Nat):Int)),IsBt (w.heap.size+1) d bs i] [] ?_ ?_
              · refine Rc (mvF (qC (x:=.slice an 4 cn) 11) (λw' e=>(HNM.out.ext E2).ext e)) ?_
                refine Rc jd ?_;refine Rc (bnR (a:=x) (b:=4) (qA (fP:=iV (x:Int)) 1 167) qD dcx jy) ?_;refine Rc (ixRw (λg c n j h w=>ix_Sx g c n j h w) (qA (fP:=IsRw 0 nmC) 0 166) (qA (fP:=iV ((x%4:Nat):Int)) 2 168) HS.out.1) ?_;refine Rc (ldPc qP (qA (fP:=IsPc (.string s)) 3 169)) ?_;refine Rc (bdLeaf2 (B:=w.heap.size+1) (e:=.cell s) qD (qA (fP:=IsV (.string s)) 4 170) (.inr ⟨rfl,rfl⟩) (by have:=HS.out.2.1;omega)) ?_;refine Rc xu ?_;refine Rc (bn (r:=.int .i64 ((i+2:Nat):Int)) (xQ 6 172) qD (hr:=λw=>by have hx9:=HW2.out;go_simp)) ?_;refine Rc (bdBt (d:=d) (j:=i) (k':=i+2) (bs:=bs) (e:=.cell s) (qA (fP:=NeL (w.heap.size+1) (.cell s)) 5 171) (qA (fP:=iV ((i+2:Nat):Int)) 7 173) (by{have:=HP.out;refine⟨?_,by omega,by omega⟩;simp only[wfT];exact HS.out.2.2})) ?_;exact rn0
              intro v X3 e1 hΦ _;obtain⟨ee,us,kk,hv,hk1,hk2,hwt,hne⟩:=hΦ 8 dcx;exact tNtr_1
theorem build_f:∀d,d<=4->BldC d
  |0,h=>build_s 0 h (hid λd' e=>by cases e)
  |d+1,h=>build_s (d+1) h (hid λd' e=>by cases e;exact build_f d ze)
end Go.Proofs.YtenhciieboegbaaGreatDoor
