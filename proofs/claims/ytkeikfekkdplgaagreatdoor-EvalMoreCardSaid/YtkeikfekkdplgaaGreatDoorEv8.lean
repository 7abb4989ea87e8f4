/- Lemmas. -/
import Derived.Test.YtkeikfekkdplgaaGreatDoorRRow
import Derived.Test.YtkeikfekkdplgaaGreatDoorRgm
import Derived.Test.YtkeikfekkdplgaaGreatDoorEv6
import Derived.Test.YtkeikfekkdplgaaGreatDoorEv7
namespace Go.Proofs.YtkeikfekkdplgaaGreatDoor
section
open Go Go.RowKit
open Go.Proofs.Tryz
set_option maxRecDepth 100000
set_option maxHeartbeats 8000000
section
variable {P:Program} {ops:Array Oper} {Q:Exit->Act->World->Prop}
def StbR(R:World->World->Prop)(p:Value->World->Prop):Prop:=∀x w w',R w w'->p x w->p x w'
def AllStbR(R:World->World->Prop):List (Value->World->Prop)->Prop
 | []=>True
 |p ::ps=>StbR R p/\AllStbR R ps
theorem AllStbR.get{R:World->World->Prop}:∀ {L:List (Value->World->Prop)},AllStbR R L->∀i,StbR R (L.getD i (λ_ _=>True))
 | [],_,i=>λ_ _ _ _ _=>by simp
 |p ::ps,h,0=>by simpa using h.1
 |p ::ps,h,i+1=>by simpa using AllStbR.get h.2 i
def RgLx(P:Program)(ops:Array Oper)(Q:Exit->Act->World->Prop)(R:World->World->Prop)(ds:List (Option Tmp))(a0:Act)(w0:World)(L:List (Value->World->Prop))(i:Nat)(o:Oper):Prop:=
 ∀ (v:Nat->Value) (w:World),R w0 w->(∀j,(ups .any ops i).contains j=true->L.getD j (λ_ _=>True) (v j) w)->
  ∀K:Act->World->Prop,Shut (∀x w',R w w'->L.getD i (λ_ _=>True) x w'->K ((qZ v a0 0 ds).put o.dst x) w')->
  if Region.wanted o (yielded ops (qZ v a0 0 ds).tmps)=true then Oper.wp P o (qZ v a0 0 ds) w K Q else K ((qZ v a0 0 ds).put o.dst undef) w
def RgAllx(P:Program)(ops:Array Oper)(Q:Exit->Act->World->Prop)(R:World->World->Prop)(ds:List (Option Tmp))(a0:Act)(w0:World)(L:List (Value->World->Prop)):Nat->Nat->List Oper->Prop
 |_,0,_=>True
 |_,_+1, []=>True
 |i,k+1,o ::os=>RgLx P ops Q R ds a0 w0 L i o/\RgAllx P ops Q R ds a0 w0 L (i+1) k os
variable {R:World->World->Prop} {ds:List (Option Tmp)} {a0:Act} {w0:World} {L:List (Value->World->Prop)} {i:Nat} {o:Oper}
theorem RgAllx.get:∀(k i:Nat) (os:List Oper),RgAllx P ops Q R ds a0 w0 L i k os->∀j,j<k->∀o,os[j]? =some o->RgLx P ops Q R ds a0 w0 L (i+j) o
 |0,_,_,_,j,h,_,_=>by omega
 |_+1,_, [],_,_,_,_,ho=>by simp at ho
 |k+1,i,o ::os,h,0,_,o',ho=>by simp at ho;subst ho;exact h.1
 | k+1,i,o ::os,h,j+1,hj,o',ho=>by
  have:=RgAllx.get k (i+1) os h.2 j zb o' jt
  rwa [show i+(j+1)=i+1+j by omega]
theorem RgAllx.nil{os:List Oper}:RgAllx P ops Q R ds a0 w0 L i 0 os:=by cases os <;> trivial
theorem RgAllx.cons{k:Nat}{os:List Oper}(h:RgLx P ops Q R ds a0 w0 L i o)(hs:RgAllx P ops Q R ds a0 w0 L (i+1) k os):RgAllx P ops Q R ds a0 w0 L i (k+1) (o ::os):=⟨h,hs⟩
theorem RgLx.mk(hg:o.guard=none)
  (h:∀(v:Nat->Value) (a:Act) (w:World),R w0 w->(∀j,(ups .any ops i).contains j=true->L.getD j (λ_ _=>True) (v j) w)->Fr ds a0 v a->
   ∀K:Act->World->Prop,Shut (∀x w',R w w'->L.getD i (λ_ _=>True) x w'->K (a.put o.dst x) w')->Oper.wp P o a w K Q):RgLx P ops Q R ds a0 w0 L i o:=by
 intro v w hE hd K hK;rw[if_pos (by simp[Region.wanted,hg])];exact h v _ w hE hd (Fr.of ds a0 v) K hK
theorem wp_region_rgx(R:World->World->Prop)(n:Nat)(ds:List (Option Tmp))(L:List (Value->World->Prop)){id:Nat}
  (hm:P.follows .mixedOrders=true) (hn:decide (n<=ops.size)=true) (hds:(List.range n).map (qR ops)=ds) (hap:qO ops n=true) (htp:xH .any ops n []=true) (hns:Region.noSelect ops=true)
  (hRt:∀ {a b c},R a b->R b c->R a c) (hRe:∀ {a b},Ext a b->R a b)
  (hst:AllStbR R L)
  (hop:RgAllx P ops Q R ds a0 w0 L 0 n ops.toList)
  (hend:∀v w,R w0 w->(∀i,i<n->L.getD i (λ_ _=>True) (v i) w)->wpAny P .any ops Q (ops.size-n) (qG ops.size n) (qZ v a0 0 ds) w):
  (Code.region id ops true).wp P Q a0 w0:=by
 refine wp_region_any hm ?_;have hE:R w0 w0.drew:=hRe (Ext.refl w0).drew
 have hD:∀m,xA (Array.replicate ops.size false) m=0:=λm=>by
  unfold xA;rw[List.countP_eq_zero.2];intro i _;simp[qH]
 have key:∀m,m<=n->AllOps (λi=>∀o,ops[i]? =some o->RgOp P .any ops Q n a0 w0.drew R (λi=>L.getD i (λ_ _=>True)) [] i o) m:=by
  intro m
  induction m with
  |zero=>intro _;trivial
  | succ m ih=>
   intro hm;refine⟨ih zb,λo ho v w hR hd K hK=>?_⟩;have:=RgAllx.get n 0 ops.toList hop m zb o jt;rw[Nat.zero_add]at this;have:=this v w (hRt hE hR) hd K;rw[<-xB v a0 n ds hds]at this;exact this (λx w' hR hL=>Shut.out hK x w' hR hL (λh=>by simp at h))
 have:=rg_main n [] [] R (λi=>L.getD i (λ_ _=>True)) [] (w0:=w0.drew) (a0:=a0) (of_decide_eq_true hn) hap htp (by simp[optOk,hns])
  zd hRt (λi _=>hst.get i) (λi _ hi=>by simp at hi) (key n (jJ _))
  (fun v w hR hZ _=>by
   rw[xB v a0 n ds hds]
   exact hend v w (hRt hE hR) hZ)
  ops.size (Array.replicate ops.size false) (xS ops a0) w0.drew zd (λj _=>by simp[qH]) (by rw[hD];rfl)
  (λi hi=>by simp[qH]at hi) (hRe (Ext.refl _)) zd (λi hi h=>by simp[qH]at h) (λi j _ _ _ h=>by simp at h)
 have hlay:qY ops (xS ops a0) a0 n=a0:=layN_self a0 n
 rwa [hlay]at this
end
structure Ob (g:Nat) (w w':World):Prop where
 os:w'.os=w.os
 tape:w'.tape=w.tape
 output:w'.output=w.output
 size:w.heap.size<=w'.heap.size
 block:∀k,k<w.heap.size->k≠g->w'.heap[k]? =w.heap[k]?
 gr:Gr w w'
theorem Ob.trans{g:Nat}{a b c:World}(x:Ob g a b)(y:Ob g b c):Ob g a c:=
 ⟨y.os.trans x.os,y.tape.trans x.tape,y.output.trans x.output,jK x.size y.size,λk hk hg=>(y.block k (Nat.lt_of_lt_of_le hk x.size) hg).trans (x.block k hk hg),x.gr.trans y.gr⟩
theorem Ob.of{g:Nat}{a b:World}(e:Ext a b):Ob g a b:=⟨e.os,e.tape,e.output,e.size,λk hk _=>e.block k hk,e.gr⟩
theorem Ob.only{g:Nat}{a b:World}(e:OnlyB g a b):Ob g a b:=⟨e.os,e.tape,e.output,by rw[e.size];exact jJ _,λk _ hg=>e.block k hg,e.gr⟩
theorem Ob.ext{g:Nat}{w0 w w':World}(h:Ob g w w')(e:Ext w0 w)(hg:w0.heap.size<=g):Ext w0 w':=
 ⟨h.os.trans e.os,h.tape.trans e.tape,h.output.trans e.output,jK e.size h.size,λk hk=>(h.block k (Nat.lt_of_lt_of_le hk e.size) zb).trans (e.block k hk)⟩
theorem Ob.bk{g g':Nat}{w w':World}{vs:List Value}(h:Ob g w w')(B:Bk w g' vs)(hg:g'≠g):Bk w' g' vs:=by
 have hb:=h.block g' B.lt hg;exact⟨λj v hj=>(World.cell?_of_block (w:=w) (a:=⟨g',j,none⟩) hb).trans (B.c j v hj),λj=>(World.frozen?_of_block (w:=w) (a:=⟨g',j,none⟩) hb).trans (B.f j),Nat.lt_of_lt_of_le B.lt h.size⟩
theorem Ob.bo{g g' i n c:Nat}{s:Bool}{a:Option Addr}{w w':World}(h:Ob g w w')(B:Bo w g' i s a n c)(hg:g'≠g):Bo w' g' i s a n c:=by
 have hb:=h.block g' B.lt hg;exact⟨(World.cell?_of_block (w:=w) (a:=⟨g',_,none⟩) hb).trans B.c0,(World.cell?_of_block (w:=w) (a:=⟨g',_,none⟩) hb).trans B.c1,(World.frozen?_of_block (w:=w) (a:=⟨g',_,none⟩) hb).trans B.f0,(World.frozen?_of_block (w:=w) (a:=⟨g',_,none⟩) hb).trans B.f1⟩
def S6(k:Nat)(lo hi:Int)(g:Nat)(w:World):Prop:=∃s a n c s' a' n' c',Bk w g [.bool s,.slice a n c,.bool s',.slice a' n' c',.bool false]/\IsI k lo (.agg #[.bool s,.slice a n c]) w/\IsI k hi (.agg #[.bool s',.slice a' n' c']) w
def K6(k:Nat)(lo m hi:Int)(g:Nat)(w:World):Prop:=S6 k lo hi g w\/S6 k m hi g w
theorem S6.ext{k:Nat}{lo hi:Int}{g:Nat}{w w':World}(h:S6 k lo hi g w)(e:Ext w w'):S6 k lo hi g w':=by
 obtain⟨s,a,n,c,s',a',n',c',B,h1,h2⟩:=h;exact⟨s,a,n,c,s',a',n',c',B.ext e,h1.ext e,h2.ext e⟩
theorem S6.ob{k:Nat}{lo hi:Int}{g g':Nat}{w w':World}(h:S6 k lo hi g w)(e:Ob g' w w')(hg:g≠g'):S6 k lo hi g w':=by
 obtain⟨s,a,n,c,s',a',n',c',B,h1,h2⟩:=h;exact⟨s,a,n,c,s',a',n',c',e.bk B hg,IsI.gstb _ _ _ _ _ e.gr h1,IsI.gstb _ _ _ _ _ e.gr h2⟩
structure R6 (k:Nat) (lo m hi:Int) (g:Nat) (w w':World):Prop where
 ob:Ob g w w'
 k6:K6 k lo m hi g w->K6 k lo m hi g w'
 s6:S6 k m hi g w->S6 k m hi g w'
theorem R6.trans{k:Nat}{lo m hi:Int}{g:Nat}{a b c:World}(x:R6 k lo m hi g a b)(y:R6 k lo m hi g b c):R6 k lo m hi g a c:=⟨x.ob.trans y.ob,λh=>y.k6 (x.k6 h),λh=>y.s6 (x.s6 h)⟩
theorem R6.of{k:Nat}{lo m hi:Int}{g:Nat}{a b:World}(e:Ext a b):R6 k lo m hi g a b:=⟨Ob.of e,λh=>h.imp (λx=>x.ext e) (λx=>x.ext e),λh=>h.ext e⟩
theorem S6.put{k:Nat}{lo hi m:Int}{g:Nat}{w:World}(h:S6 k lo hi g w){s:Bool}{a:Option Addr}{n c:Nat}(hv:IsI k m (.agg #[.bool s,.slice a n c]) w):
  Ob g w ((w.setCell ⟨g,0,none⟩ (.bool s)).setCell ⟨g,1,none⟩ (.slice a n c))/\S6 k m hi g ((w.setCell ⟨g,0,none⟩ (.bool s)).setCell ⟨g,1,none⟩ (.slice a n c)):=by
 obtain⟨s0,a0,n0,c0,s',a',n',c',B,_,hh⟩:=h;obtain⟨O1,B1⟩:=B.setO 0 zd (.bool s) (NoWord.bool _);obtain⟨O2,B2⟩:=B1.setO 1 zd (.slice a n c) (NoWord.slice _ _ _);have O:=(Ob.only O1).trans (Ob.only O2);exact⟨O,s,a,n,c,s',a',n',c',B2,IsI.gstb _ _ _ _ _ O.gr hv,IsI.gstb _ _ _ _ _ O.gr hh⟩
theorem S6.putH{k:Nat}{lo hi m:Int}{g:Nat}{w:World}(h:S6 k lo hi g w){s:Bool}{a:Option Addr}{n c:Nat}(hv:IsI k m (.agg #[.bool s,.slice a n c]) w):
  Ob g w ((w.setCell ⟨g,2,none⟩ (.bool s)).setCell ⟨g,3,none⟩ (.slice a n c))/\S6 k lo m g ((w.setCell ⟨g,2,none⟩ (.bool s)).setCell ⟨g,3,none⟩ (.slice a n c)):=by
 obtain⟨s0,a0,n0,c0,s',a',n',c',B,hh,_⟩:=h;obtain⟨O1,B1⟩:=B.setO 2 zd (.bool s) (NoWord.bool _);obtain⟨O2,B2⟩:=B1.setO 3 zd (.slice a n c) (NoWord.slice _ _ _);have O:=(Ob.only O1).trans (Ob.only O2);exact⟨O,s0,a0,n0,c0,s,a,n,c,B2,IsI.gstb _ _ _ _ _ O.gr hh,IsI.gstb _ _ _ _ _ O.gr hv⟩
def IsOr(k:Nat)(lo m:Int):Value->World->Prop:=λx w=>IsI k lo x w\/IsI k m x w
section
variable {P:Program} {ops:Array Oper} {Q:Exit->Act->World->Prop} {R:World->World->Prop} {ds:List (Option Tmp)} {a0:Act} {w0:World} {L:List (Value->World->Prop)} {boxes:List Nat} {i k:Nat} {o:Oper} {os:List Oper}
theorem RgLx.ofOk(hRe:∀ {a b},Ext a b->R a b)(h:∀w,R w0 w->Ok P ops Q ds a0 w L [] i o)(hg:o.guard=none:=by rfl):RgLx P ops Q R ds a0 w0 L i o:=
 RgLx.mk hg λv a w hR hd hf K hK=>(h w hR).out v a w (Ext.refl w) hd hf K (by intro x w' e hL _;exact hK.out x w' (hRe e) hL)
theorem Rx6{k:Nat}{lo m hi:Int}{g q:Nat}{os:List Oper}(h:∀w,R6 k lo m hi g w0 w->Ok P ops Q ds a0 w L [] i o)(hs:RgAllx P ops Q (R6 k lo m hi g) ds a0 w0 L (i+1) q os)(hg:o.guard=none:=by rfl):RgAllx P ops Q (R6 k lo m hi g) ds a0 w0 L i (q+1) (o ::os):=
 RgAllx.cons (RgLx.ofOk R6.of h hg) hs
theorem ldOr{kz g T:Nat}{lo m hi:Int}{x:Operand}(h:K6 kz lo m hi g w0)(hT:LdI P T)(hx:Od ops ds a0 w0 L i x (IsP g 0))(ho:o.op=.load T x:=by rfl)
  (hL:L.getD i (λ_ _=>True)=IsOr kz lo m:=by kernel_rfl) (hb:boxes.contains i=false:=by kernel_rfl):Ok P ops Q ds a0 w0 L boxes i o:=by
 rcases h with⟨s,a,n,c,s',a',n',c',B,h1,h2⟩| ⟨s,a,n,c,s',a',n',c',B,h1,h2⟩
 ·exact lv _ (λw e=>hT w g 0 s a n c ((B.ext e).c 0 _ rfl) ((B.ext e).c 1 _ rfl)) hx (λw e=> .inl (h1.ext e)) ho hL hb
 ·exact lv _ (λw e=>hT w g 0 s a n c ((B.ext e).c 0 _ rfl) ((B.ext e).c 1 _ rfl)) hx (λw e=> .inr (h1.ext e)) ho hL hb
theorem ldHi{kz g T:Nat}{lo m hi:Int}{x:Operand}(h:K6 kz lo m hi g w0)(hT:LdI P T)(hx:Od ops ds a0 w0 L i x (IsP g 2))(ho:o.op=.load T x:=by rfl)
  (hL:L.getD i (λ_ _=>True)=IsI kz hi:=by kernel_rfl) (hb:boxes.contains i=false:=by kernel_rfl):Ok P ops Q ds a0 w0 L boxes i o:=by
 rcases h with⟨s,a,n,c,s',a',n',c',B,h1,h2⟩| ⟨s,a,n,c,s',a',n',c',B,h1,h2⟩
 ·exact lv _ (λw e=>hT w g 2 s' a' n' c' ((B.ext e).c 2 _ rfl) ((B.ext e).c 3 _ rfl)) hx (λw e=>h2.ext e) ho hL hb
 ·exact lv _ (λw e=>hT w g 2 s' a' n' c' ((B.ext e).c 2 _ rfl) ((B.ext e).c 3 _ rfl)) hx (λw e=>h2.ext e) ho hL hb
theorem st6{kz g q T:Nat}{lo m hi:Int}{x y:Operand}{os:List Oper}(hk:K6 kz lo m hi g w0)(hT:StI P T)(hx:∀w,Od ops ds a0 w L i x (IsP g 0))(hy:∀w,Od ops ds a0 w L i y (IsI kz m))(hs:RgAllx P ops Q (R6 kz lo m hi g) ds a0 w0 L (i+1) q os)(ho:o.op=.store T x y:=by rfl)
  (hL:L.getD i (λ_ _=>True)=(λ_ w=>S6 kz m hi g w):=by kernel_rfl) (hg:o.guard=none:=by rfl):RgAllx P ops Q (R6 kz lo m hi g) ds a0 w0 L i (q+1) (o ::os):=by
 refine RgAllx.cons (RgLx.mk hg λv a w hR hdd hf K hK=>?_) hs;have h1:a.eval x=_:=(hx w).out v a w (Ext.refl w) hdd hf;obtain⟨s,b,n,c,e,hI⟩:=(hy w).out v a w (Ext.refl w) hdd hf
 have key:∃s0 a0 n0 c0 s' a' n' c',Bk w g [.bool s0,.slice a0 n0 c0,.bool s',.slice a' n' c',.bool false]:=by
  rcases hR.k6 hk with⟨s0,a0,n0,c0,s',a',n',c',B,_⟩| ⟨s0,a0,n0,c0,s',a',n',c',B,_⟩
  ·exact⟨_,_,_,_,_,_,_,_,B⟩
  ·exact⟨_,_,_,_,_,_,_,_,B⟩
 obtain⟨s0,a0',n0,c0,s',a',n',c',B⟩:=key
 have hput:Ob g w ((w.setCell ⟨g,0,none⟩ (.bool s)).setCell ⟨g,1,none⟩ (.slice b n c))/\S6 kz m hi g ((w.setCell ⟨g,0,none⟩ (.bool s)).setCell ⟨g,1,none⟩ (.slice b n c)):=by
  rcases hR.k6 hk with h|h
  ·exact h.put ⟨_,_,_,_,rfl,hI⟩
  ·exact h.put ⟨_,_,_,_,rfl,hI⟩
 refine st_wp ho h1 e (hT w g 0 s0 a0' n0 c0 s b n c (B.c 0 _ rfl) (B.c 1 _ rfl) (B.f 0) (B.f 1)) ?_;exact hK.out undef _ ⟨hput.1,λ_=> .inr hput.2,λ_=>hput.2⟩ (by rw[hL];exact hput.2)
end
def OpP(w:World)(r:Res Kn):Ending->World->Prop:=λe w'=>Ext w w'/\match r with
 | .ok q=>∃v,e=.returned v/\IsK 128 q v w'
 | .error n=>e=.panicked (pan n)
theorem bitLen_ltN{m N:Nat}(h:bitLen m<=N):m<2^N:=by
 unfold bitLen at h
 split at h
 ·subst m;exact Nat.two_pow_pos _
 ·rename_i h0
  exact Nat.lt_of_lt_of_le ((Nat.log2_lt h0).1 (Nat.lt_succ_self _)) (Nat.pow_le_pow_right dcx h)
theorem bitLen_lt{m:Nat}(h:bitLen m<=4096):m<4294967296^128:=by
 obtain⟨N,hN⟩:∃N,N=32*128:=⟨_,rfl⟩;have h2:=bitLen_ltN (m:=m) (N:=N) zb;have e:∀n:Nat,(4294967296:Nat)^n=2^(32*n):=λn=>by rw[Nat.pow_mul]
 rw[e,<-hN];exact h2
theorem short_f{k:Nat}{lo hi:Int}{f:Bool}{x:Value}{w:World}(hx:IsKn k lo hi f x w)(HK:k<=268435456):Calls prog 139 #[x] w (OpP w (xP ⟨lo,hi,f⟩)):=by
 by_cases hb:4096<max (bitLen lo.natAbs) (bitLen hi.natAbs)
 ·rw[xP,if_pos hb];refine jC (short_n hx (hid HK) (hid rfl) (hid rfl) (hid rfl) (hid ?_)) λe w' h=>⟨h.2,h.1⟩
  split <;> omega
 ·rw[xP,if_neg hb];refine jC (short_y hx (hid HK) (hid rfl) (hid rfl) (hid rfl) (hid ?_)) λe w' h=>?_
  ·split <;> omega
  ·obtain⟨v,rfl,e,h⟩:=h;exact⟨e,v,rfl,h.tight (bitLen_lt zb) (bitLen_lt zb)⟩
theorem wp_call1{P:Program}{Q:Exit->Act->World->Prop}{o:Oper}{f:FuncId}{c:Call}{x:Operand}{u1:Value}{a:Act}{w:World}{K:Act->World->Prop}{R:Ending->World->Prop}(he:∀args w,(callFunc f args).run P w=.ok (.enter f args) w)(hx:a.eval x=u1)
  (h:Calls P f #[u1] w R) (h1:∀v w',R (.returned v) w'->K (a.put o.dst v) w') (h2:∀ch w',R (.panicked ch) w'->Q (.panic ch) a w') (h3:∀w',¬R .outgrown w')
  (ho:o.op=.call c:=by rfl) (hc:c.callee=.value (.func f):=by rfl) (ha:c.args= #[x]:=by rfl):Oper.wp P o a w K Q:=by
 have hr:(execOp a.eval o).run P w=.ok (.enter f (c.args.map a.eval)) w:=by
  unfold execOp;rw[ho];dsimp only;unfold resolve;rw[hc];simp[invoke,he,Deferred.ofValue,show a.eval (.func f)=.func (.func f) #[] #[]from rfl]
 unfold Oper.wp;rw[hr,Oper.upon_enter,ha,show(#[x]:Array Operand).map a.eval= #[a.eval x]by simp,hx];refine jC h ?_;intro e w2 hR;cases e with
 |returned v=>exact h1 v w2 hR
 |panicked ch=>exact h2 ch w2 hR
 |outgrown=>exact absurd hR (h3 w2)
def IsLi(B0 K:Nat)(zs:List Int):Value->World->Prop:=λx w=>∃g,x=.slice (some ⟨g,0,none⟩) zs.length zs.length/\B0<=g/\
 ∀j z,zs[j]? =some z->∃s a n c,Bo w g j s a n c/\IsI K z (.agg #[.bool s,.slice a n c]) w
theorem IsLi.stb(B0 K:Nat)(zs:List Int):Stb (IsLi B0 K zs):=λ_ _ _ e ⟨g,h1,h2,h3⟩=>⟨g,h1,h2,λj z hj=>let ⟨s,a,n,c,b,k⟩:=h3 j z hj;⟨s,a,n,c,b.ext e,k.ext e⟩⟩
instance (B0 K:Nat) (zs:List Int):StbC (IsLi B0 K zs):=⟨IsLi.stb B0 K zs⟩
section
variable {ops:Array Oper} {Q:Exit->Act->World->Prop} {ds:List (Option Tmp)} {a0:Act} {w0:World} {L:List (Value->World->Prop)} {boxes:List Nat} {i:Nat} {o:Oper}
theorem Bo.newI(w:World)(cs:Array Value)(T:TypeId)(i:Nat)(s:Bool)(a:Option Addr)(n c:Nat)(h0:cs[2*i]? =some (.bool s))(h1:cs[2*i+1]? =some (.slice a n c)):Bo (w.alloc (.cells cs T)) w.heap.size i s a n c:=⟨by simp[h0],by simp[h1],by simp,by simp⟩
set_option maxRecDepth 100000
theorem bI3{x1 x2 x3:Operand}{B0 K k1 k2 k3:Nat}{z1 z2 z3:Int}(hx1:Od ops ds a0 w0 L i x1 (IsI k1 z1))(hx2:Od ops ds a0 w0 L i x2 (IsI k2 z2))(hx3:Od ops ds a0 w0 L i x3 (IsI k3 z3))(l1:k1<=K)(l2:k2<=K)(l3:k3<=K)(hB:B0<=w0.heap.size)
  (ho:o.op=.buildSlice 69 3 #[(0,x1),(1,x2),(2,x3)]:=by rfl) (hi:L.getD i (λ_ _=>True)=IsLi B0 K [z1,z2,z3]:=by kernel_rfl) (hb:boxes.contains i=false:=by kernel_rfl):Ok prog ops Q ds a0 w0 L boxes i o:=
 ⟨fun v a w hE hd hf K' hK=>by
  obtain⟨s1,a1,n1,c1,q1,h1⟩:=hx1.out v a w hE hd hf;obtain⟨s2,a2,n2,c2,q2,h2⟩:=hx2.out v a w hE hd hf;obtain⟨s3,a3,n3,c3,q3,h3⟩:=hx3.out v a w hE hd hf;have hr:(Instr.buildSlice 69 3 #[(0,.agg #[.bool s1,.slice a1 n1 c1]),(1,.agg #[.bool s2,.slice a2 n2 c2]),(2,.agg #[.bool s3,.slice a3 n3 c3])]).run prog w=.ok (.slice (some ⟨w.heap.size,0,none⟩) 3 3) (w.alloc (.cells #[.bool s1,.slice a1 n1 c1,.bool s2,.slice a2 n2 c2,.bool s3,.slice a3 n3 c3] 28)):=zy
  have hrun:(execOp a.eval o).run prog w=.ok (.value (.slice (some ⟨w.heap.size,0,none⟩) 3 3)) (w.alloc (.cells #[.bool s1,.slice a1 n1 c1,.bool s2,.slice a2 n2 c2,.bool s3,.slice a3 n3 c3] 28)):=by
   unfold execOp;rw[ho];dsimp only;simp only[List.map_toArray,List.map_cons,List.map_nil];rw[q1,q2,q3];simp[hr]
  unfold Oper.wp;rw[hrun];have e9:Ext w (w.alloc (.cells #[.bool s1,.slice a1 n1 c1,.bool s2,.slice a2 n2 c2,.bool s3,.slice a3 n3 c3] 28)):=(Ext.refl _).alloc _;refine hK.out _ _ e9 ?_ (FreshIf.no hb);rw[hi];refine⟨_,rfl,jK hB hE.size,λj q hq=>?_⟩;rcases j with _|_|_|j
  ·obtain rfl:z1=q:=by simpa using hq
   exact⟨_,_,_,_,Bo.newI _ _ _ _ _ _ _ _ rfl rfl,(IsI.ext ⟨_,_,_,_,rfl,h1.mono l1⟩ e9)⟩
  ·obtain rfl:z2=q:=by simpa using hq
   exact⟨_,_,_,_,Bo.newI _ _ _ _ _ _ _ _ rfl rfl,(IsI.ext ⟨_,_,_,_,rfl,h2.mono l2⟩ e9)⟩
  ·obtain rfl:z3=q:=by simpa using hq
   exact⟨_,_,_,_,Bo.newI _ _ _ _ _ _ _ _ rfl rfl,(IsI.ext ⟨_,_,_,_,rfl,h3.mono l3⟩ e9)⟩
  ·simp at hq⟩
theorem ldIX{g q T:Nat}{x:Operand}{fP:Value->World->Prop}(h:∀w,Ext w0 w->∃s a n c,Bo w g q s a n c/\fP (.agg #[.bool s,.slice a n c]) w)
  (hx:Od ops ds a0 w0 L i x (IsP g (2*q))) (hT:LdI prog T) (ho:o.op=.load T x:=by rfl) (hi:L.getD i (λ_ _=>True)=fP:=by kernel_rfl) (hb:boxes.contains i=false:=by kernel_rfl):Ok prog ops Q ds a0 w0 L boxes i o:=
 Ok.of hb λv a w hE hd hf=>by
  have h0:a.eval x=_:=hx.out v a w hE hd hf;obtain⟨s,a1,n,c,b,k1⟩:=h w hE;exact⟨_,ld_run ho h0 (hT w g (2*q) _ _ _ _ b.c0 b.c1),by rw[hi];exact k1⟩
theorem lenLi{B0 K:Nat}{zs:List Int}{x:Operand}(hx:Od ops ds a0 w0 L i x (IsLi B0 K zs))(ho:o.op=.call {callee:=.builtin .len,args:= #[x],argTypes:= #[69]} :=by rfl)(hi:L.getD i (λ_ _=>True)=iV ((zs.length:Nat):Int):=by kernel_rfl)(hb:boxes.contains i=false:=by kernel_rfl):Ok prog ops Q ds a0 w0 L boxes i o:=
 Ok.of hb λv a w hE hd hf=>by
  obtain⟨g,h1,_⟩:=hx.out v a w hE hd hf;refine⟨_,?_,by rw[hi];exact rfl⟩;unfold execOp;rw[ho];dsimp only;unfold resolve;simp only[List.map_toArray,List.map_cons,List.map_nil,h1]
  go_simp
theorem ix_Int(g n c j:Nat)(h:j<n)(w:World):(Instr.indexAt 69 (.slice (some ⟨g,0,none⟩) n c) (.int .i64 (j:Int))).run prog w=.ok (.pointer (some ⟨g,2*j,none⟩)) w:=by
 have h1:(0:Int)<=(j:Int):=zb
 have h2:(j:Int)<(n:Int):=zb
 have h3:0+j*2=2*j:=zb
 have h4:j*2=2*j:=zb
 go_simp
end
structure LIv (w W:World) (g6 gz k:Nat) (lo hi:Int) (zs:List Int):Prop where
 E:Ext w W
 b3:Bk W (w.heap.size+2) [.bool false,.slice none 0 0,.bool false,.slice none 0 0,.bool false]
 s6:S6 k lo hi g6 W
 zs:∀j z,zs[j]? =some z->∃s a n c,Bo W gz j s a n c/\IsI k z (.agg #[.bool s,.slice a n c]) W
 p6:w.heap.size+3<=g6
 ne:gz≠g6
 sz:w.heap.size+3<=W.heap.size/\g6<W.heap.size/\gz<W.heap.size
theorem LIv.ext{w W W':World}{g6 gz k:Nat}{lo hi:Int}{zs:List Int}(S:LIv w W g6 gz k lo hi zs)(e:Ext W W'):LIv w W' g6 gz k lo hi zs:=
 ⟨S.E.trans e,S.b3.ext e,S.s6.ext e,λj z h=>let ⟨s,a,n,c,b,q⟩:=S.zs j z h;⟨s,a,n,c,b.ext e,q.ext e⟩,S.p6,S.ne,by have:=S.sz;have:=e.size;omega⟩
theorem LIv.only{w W W':World}{g6 gz k g8:Nat}{lo hi:Int}{zs:List Int}(S:LIv w W g6 gz k lo hi zs)(O:OnlyB g8 W W')(h1:w.heap.size+3<=g8)(h2:g8≠g6)(h3:gz≠g8):LIv w W' g6 gz k lo hi zs:=
 ⟨O.ext S.E zb,O.bk S.b3 zb,S.s6.ob (Ob.only O) (Ne.symm h2),λj z h=>let ⟨s,a,n,c,b,q⟩:=S.zs j z h;⟨s,a,n,c,(Ob.only O).bo b h3,IsI.gstb _ _ _ _ _ O.gr q⟩,S.p6,S.ne,by have:=S.sz;rw[O.size];omega⟩
theorem LIv.ob{w W W':World}{g6 gz k:Nat}{lo hi lo' hi':Int}{zs:List Int}(S:LIv w W g6 gz k lo hi zs)(O:Ob g6 W W')(h:S6 k lo' hi' g6 W'):LIv w W' g6 gz k lo' hi' zs:=
 ⟨O.ext S.E (by have:=S.p6;omega),O.bk S.b3 (by have:=S.p6;omega),h,λj z h=>let ⟨s,a,n,c,b,q⟩:=S.zs j z h;⟨s,a,n,c,O.bo b S.ne,IsI.gstb _ _ _ _ _ O.gr q⟩,S.p6,S.ne,by have:=S.sz;have:=O.size;omega⟩
theorem al_In(w:World):(Instr.alloc 28 true (.tuple #[])).run prog w=.ok (.pointer (some ⟨w.heap.size,0,none⟩)) (w.alloc (.cells [.bool false,.slice none 0 0].toArray 28)):=by go_simp
theorem opM_f{k:Nat}{l1 u1 l2 u2:Int}{f1 f2:Bool}{x y:Value}{w:World}(hx:IsKn k l1 u1 f1 x w)(hy:IsKn k l2 u2 f2 y w)(HK:Hid (k<=1000)):Calls prog 143 #[x,y] w (OpP w (xP (mul4 ⟨l1,u1,f1⟩ ⟨l2,u2,f2⟩))):=by
 obtain⟨s1,a1,n1,c1,s2,a2,n2,c2,rfl,h1,h2⟩:=hx;obtain⟨s3,a3,n3,c3,s4,a4,n4,c4,rfl,h3,h4⟩:=hy
 obtain⟨W,hW,E,B1,B2,B3⟩:∃W,W=((w.alloc (.cells #[.bool s1,.slice a1 n1 c1,.bool s2,.slice a2 n2 c2,.bool f1] 176)).alloc (.cells #[.bool s3,.slice a3 n3 c3,.bool s4,.slice a4 n4 c4,.bool f2] 176)).alloc (.cells #[.bool false,.slice none 0 0,.bool false,.slice none 0 0,.bool false] 176)/\Ext w W/\Bk W w.heap.size [.bool s1,.slice a1 n1 c1,.bool s2,.slice a2 n2 c2,.bool f1]/\Bk W (w.heap.size+1) [.bool s3,.slice a3 n3 c3,.bool s4,.slice a4 n4 c4,.bool f2]/\Bk W (w.heap.size+2) [.bool false,.slice none 0 0,.bool false,.slice none 0 0,.bool false]:=
  ⟨_,rfl,(((Ext.refl w).alloc _).alloc _).alloc _,(Bk.new w _ _).ext (((Ext.refl _).alloc _).alloc _),(Bk.newE _ _ zd _ _).ext ((Ext.refl _).alloc _),Bk.newE _ _ zd _ _⟩
 replace h1:=h1.ext E;replace h2:=h2.ext E;replace h3:=h3.ext E;replace h4:=h4.ext E;go_enter func143,ntmps143;go_upto_region 1 with fail;rw[<-hW];clear hW;have hs0:=B3.lt;refine rgs 6 [some 9,some 10,some 11,some 12,some 13,some 5] [IsP (w.heap.size) 0,IsI k l1,IsP (w.heap.size+1) 0,IsI k l2,IsI (k+k) (l1*l2),IsNb W.heap.size [.bool false,.slice none 0 0]] [] ?_ ?_
 ·refine Rc zm ?_;refine Rc (lvI 0 B1 h1 qE (qA 0 9)) ?_;refine Rc zj ?_;refine Rc (lvI 0 B2 h3 qE (qA 2 11)) ?_;refine Rc (cl2 (en func129) (qA (fP:=IsI k l1) 1 10) (qA (fP:=IsI k l2) 3 12) (λx0 x1 w' hE d0 d1=>Mul_f d0 d1 ze ze)) ?_;refine Rc (alB al_In (jJ _)) ?_;exact rn0
 intro v W1 e1 hZ _;replace E:=E.trans e1;replace B1:=B1.ext e1;replace B2:=B2.ext e1;replace B3:=B3.ext e1;replace h1:=h1.ext e1;replace h2:=h2.ext e1;replace h3:=h3.ext e1;replace h4:=h4.ext e1;obtain⟨s5,a5,n5,c5,hv4,hp⟩:=hZ 4 dcx;obtain⟨g5,hv5,hg5,B5⟩:=hZ 5 dcx;replace hp:IsI (k+k) (l1*l2) (.agg #[.bool s5,.slice a5 n5 c5]) W1:=⟨_,_,_,_,rfl,hp⟩;simp only[lxE,Nat.reduceAdd];rw[hv4,hv5];clear hv4 hv5 hZ e1;refine stL (λK hK=>?_);refine qX (us:= [.bool s5,.slice a5 n5 c5]) B5 st_In rfl rfl nw2 (λW1a B5' O=>hK _ _ ?_);clear B5;have B5:=B5';clear B5';replace E:=O.ext E zb;replace B1:=O.bk B1 zb;replace B2:=O.bk B2 zb;replace B3:=O.bk B3 zb;replace h1:=IsI.gstb _ _ _ _ _ O.gr h1;replace h2:=IsI.gstb _ _ _ _ _ O.gr h2;replace h3:=IsI.gstb _ _ _ _ _ O.gr h3;replace h4:=IsI.gstb _ _ _ _ _ O.gr h4;replace hp:=IsI.gstb _ _ _ _ _ O.gr hp;clear O hK K;refine jE ?_;have hs1:=B5.lt;go_upto_region 2 with fail;refine rgs 4 [some 14,some 15,some 16,some 6] [IsI (k+k) (l1*l2),IsI (k+k) (l1*l2),IsKn (k+k) (l1*l2) (l1*l2) false,IsNb W1a.heap.size [.bool false,.slice none 0 0,.bool false,.slice none 0 0,.bool false]] [] ?_ ?_
 ·refine Rc (lvI 0 B5 hp qE (qB 5)) ?_;refine Rc (lvI 0 B5 hp qE (qB 5)) ?_;refine Rc (bkn (qC 0 14) (qC 1 15) bd_Kn) ?_;refine Rc (alB al_Kn (jJ _)) ?_;exact rn0
 intro v W2 e1 hZ _;replace E:=E.trans e1;replace B1:=B1.ext e1;replace B2:=B2.ext e1;replace B3:=B3.ext e1;replace h1:=h1.ext e1;replace h2:=h2.ext e1;replace h3:=h3.ext e1;replace h4:=h4.ext e1;obtain⟨s6,a6,n6,c6,s7,a7,n7,c7,hv2,hp1,hp2⟩:=hZ 2 dcx;obtain⟨g6,hv3,hg6,B6⟩:=hZ 3 dcx;simp only[lxE,Nat.reduceAdd];rw[hv2,hv3];clear hv2 hv3 hZ e1 hp B5;refine stL (λK hK=>?_);refine qX (us:= [.bool s6,.slice a6 n6 c6,.bool s7,.slice a7 n7 c7,.bool false]) B6 xL rfl rfl nw5 (λW2a B6' O=>hK _ _ ?_);replace E:=O.ext E zb;replace B1:=O.bk B1 zb;replace B2:=O.bk B2 zb;replace B3:=O.bk B3 zb;replace h1:=IsI.gstb _ _ _ _ _ O.gr h1;replace h2:=IsI.gstb _ _ _ _ _ O.gr h2;replace h3:=IsI.gstb _ _ _ _ _ O.gr h3;replace h4:=IsI.gstb _ _ _ _ _ O.gr h4;have S:S6 (k+k) (l1*l2) (l1*l2) g6 W2a:=⟨_,_,_,_,_,_,_,_,B6',IsI.gstb _ _ _ _ _ O.gr hp1,IsI.gstb _ _ _ _ _ O.gr hp2⟩;have hs2:=B6'.lt;have hg6':w.heap.size+3<=g6:=zb
 clear O hK K B6 B6' hp1 hp2;refine jE ?_;go_upto_region 3 with fail;refine rg 18 (dR 17 18) [IsP (w.heap.size) 0,IsI k l1,IsP (w.heap.size+1) 2,IsI k u2,IsI (k+k) (l1*u2),IsP (w.heap.size) 2,IsI k u1,IsP (w.heap.size+1) 0,IsI k l2,IsI (k+k) (u1*l2),IsP (w.heap.size) 2,IsI k u1,IsP (w.heap.size+1) 2,IsI k u2,IsI (k+k) (u1*u2),IsLi W2a.heap.size (k+k) [l1*u2,u1*l2,u1*u2],iV 3,iV 0] [] 0 ?_ ?_
 ·refine Rc zm ?_;refine Rc (lvI 0 B1 h1 qE (qA 0 17)) ?_;refine Rc zk ?_;refine Rc (lvI 2 B2 h4 qE (qA 2 19)) ?_;refine Rc (cl2 (en func129) (qA (fP:=IsI k l1) 1 18) (qA (fP:=IsI k u2) 3 20) (λx0 x1 w' hE d0 d1=>Mul_f d0 d1 ze ze)) ?_;refine Rc zn ?_;refine Rc (lvI 2 B1 h2 qE (qA 5 22)) ?_;refine Rc zj ?_;refine Rc (lvI 0 B2 h3 qE (qA 7 24)) ?_;refine Rc (cl2 (en func129) (qA (fP:=IsI k u1) 6 23) (qA (fP:=IsI k l2) 8 25) (λx0 x1 w' hE d0 d1=>Mul_f d0 d1 ze ze)) ?_;refine Rc zn ?_;refine Rc (lvI 2 B1 h2 qE (qA 10 27)) ?_;refine Rc zk ?_;refine Rc (lvI 2 B2 h4 qE (qA 12 29)) ?_;refine Rc (cl2 (en func129) (qA (fP:=IsI k u1) 11 28) (qA (fP:=IsI k u2) 13 30) (λx0 x1 w' hE d0 d1=>Mul_f d0 d1 ze ze)) ?_;refine Rc (bI3 (K:=k+k) (qC 4 21) (qC 9 26) (qC 14 31) (jJ _) (jJ _) (jJ _) (jJ _)) ?_;refine Rc (lenLi (qA (fP:=IsLi W2a.heap.size (k+k) [l1*u2,u1*l2,u1*u2]) 15 32)) ?_;refine Rc (mv qF) ?_;exact rn0
 intro v W3 e1 hZ _;replace E:=E.trans e1;replace B3:=B3.ext e1;replace S:=S.ext e1;obtain⟨gz,hv15,hnw,hz⟩:=hZ 15 dcx;simp only[lxE,Nat.reduceAdd];rw[hv15,show v 16=.int .i64 3 from hZ 16 dcx,show v 17=.int .i64 0 from hZ 17 dcx];simp only[List.length_cons,List.length_nil,Nat.reduceAdd];have he1:=e1.size;clear hv15 hZ e1 B1 B2 h1 h2 h3 h4;refine jL za ?_ _;obtain⟨zs,hzs⟩:∃zs, [l1*u2,u1*l2,u1*u2]=zs:=⟨_,rfl⟩;have hzl:zs.length=3:=by rw[<-hzs];rfl
 have hgz:gz≠g6:=by{have:=hnw;omega}
 have hzt:gz<W3.heap.size:=by{obtain⟨s,a,n,c,b,_⟩:=hz 0 _ rfl;exact b.lt}
 rw[hzs]at hz;have L0:LIv w W3 g6 gz (k+k) (l1*l2) (l1*l2) zs:=⟨E,B3,S,hz,hg6',hgz,by omega⟩;have HMU:Hid (mul4 ⟨l1,u1,f1⟩ ⟨l2,u2,f2⟩=⟨zs.foldl min (l1*l2),zs.foldl max (l1*l2),false⟩):=hid (by rw[<-hzs];rfl);clear hz hzs hgz E B3 S hg6';generalize hp0:l1*l2=p0 at L0 HMU;clear hp0;go_wp2_with fail;have L0:=hid L0;have HZL:=hid hzl;clear hzl
 go_loopg [34] 4 (λgk v34 wr=>∃(j:Nat),v34=.int .i64 (j:Int)/\j+gk=4/\j<=3/\Hid (LIv w wr g6 gz (k+k) ((zs.take j).foldl min p0) ((zs.take j).foldl max p0) zs))
 case atStart=>exact⟨0,rfl,by omega,by omega,by simpa using L0⟩
 case round=>
  clear L0;obtain⟨j,rfl,hg,hj,S⟩:=hrel;have S:=S.out;have HG:=hid (jI hg hj);by_cases hlt:j<3
  ·obtain⟨z,hz⟩:∃z,zs[j]? =some z:=⟨_,List.getElem?_eq_getElem (by rw[HZL.out];exact hlt)⟩;have HZI:=hid hz;have HLT:=hid hlt;have HLI:=hid (show(j:Int)<3 by omega);have HI1:=hid (show IntKind.i64.wrap ((j:Int)+1)=(j:Int)+1 by simp only[IntKind.wrap_i64];omega);generalize hlo:(zs.take j).foldl min p0=lo at S;generalize hhi:(zs.take j).foldl max p0=hi at S;have HLO:=hid (jI hlo hhi);clear hz hg hj hlt hlo hhi;go_upto_region 4 with fail;refine rgs 1 [some 35] [IsV (.bool true)] [] ?_ ?_
   ·refine Rc (bn (r:=.bool true) (qB (x:=.int .i64 (j:Int)) 34) (qB (x:=.int .i64 3) 33) (hr:=λw=>by have hx9:=HLT.out;have hx8:=HLI.out;go_simp)) ?_;exact rn0
   intro v W4 e1 hZ _;replace S:=S.ext e1;simp only[lxE];rw[show v 0=.bool true from hZ 0 dcx];clear hZ e1;refine jE ?_;go_upto_region 5 with fail;refine rgs 3 [some 36,some 37,some 8] [IsP gz (2*j),IsI (k+k) z,IsNb W4.heap.size [.bool false,.slice none 0 0]] [] ?_ ?_
   ·refine Rc (ixq (ix_Int gz 3 3 j HLT.out) (qB 32) (qB (x:=.int .i64 (j:Int)) 34)) ?_;refine Rc (ldIX (λw' e=>let ⟨s,a,n,c,b,q⟩:=S.zs j z HZI.out;⟨s,a,n,c,b.ext e,q.ext e⟩) (qC 0 36) qE) ?_;refine Rc (alB al_In (jJ _)) ?_;exact rn0
   have hsz:=S.sz;intro v W5 e1 hZ _;replace S:=S.ext e1;obtain⟨s8,a8,n8,c8,hv1,hz8⟩:=hZ 1 dcx;obtain⟨g8,hv2,hg8,B8⟩:=hZ 2 dcx;replace hz8:IsI (k+k) z (.agg #[.bool s8,.slice a8 n8 c8]) W5:=⟨_,_,_,_,rfl,hz8⟩;simp only[lxE,Nat.reduceAdd];rw[hv1,hv2];clear hv1 hv2 hZ e1;refine stL (λK hK=>?_);refine qX (us:= [.bool s8,.slice a8 n8 c8]) B8 st_In rfl rfl nw2 (λW5a B8' O=>hK _ _ ?_);have ng8:g8≠g6:=zb
   replace S:=S.only O zb ng8 zb;replace hz8:=IsI.gstb _ _ _ _ _ O.gr hz8;clear B8;have B8:=B8';clear B8' O hK K;refine jE ?_;go_upto_region 6 with fail;have hk6:K6 (k+k) lo (min lo z) hi g6 W5a:=.inl S.s6;refine wp_region_rgx (R6 (k+k) lo (min lo z) hi g6) 11 [some 38,some 39,some 40,some 41,some 42,some 43,some 44,some 45,some 46,none,some 47] [IsP g6 0,IsOr (k+k) lo (min lo z),IsI (k+k) z,IsI (k+k) (min lo z),IsP g6 2,IsI (k+k) hi,IsI (k+k) z,IsI (k+k) (max hi z),IsP g6 0,(λ_ w=>S6 (k+k) (min lo z) hi g6 w),IsP g6 2] za za za za za za R6.trans R6.of ?_ ?_ ?_
   ·exact⟨λ_ _ _ _ h=>h,λ_ _ _ q h=>h.imp (IsI.gstb _ _ _ _ _ q.ob.gr) (IsI.gstb _ _ _ _ _ q.ob.gr),λ_ _ _ q h=>IsI.gstb _ _ _ _ _ q.ob.gr h,λ_ _ _ q h=>IsI.gstb _ _ _ _ _ q.ob.gr h,λ_ _ _ _ h=>h,λ_ _ _ q h=>IsI.gstb _ _ _ _ _ q.ob.gr h,λ_ _ _ q h=>IsI.gstb _ _ _ _ _ q.ob.gr h,λ_ _ _ q h=>IsI.gstb _ _ _ _ _ q.ob.gr h,λ_ _ _ _ h=>h,λ_ _ _ q h=>q.s6 h,λ_ _ _ _ h=>h,trivial⟩
   ·refine Rx6 (λw' q=>fa (qQ g6 0) (qB 6)) ?_;refine Rx6 (λw' q=>ldOr (q.k6 hk6) qE (qA 0 38)) ?_;refine Rx6 (λw' q=>lvI 0 (q.ob.bk B8 ng8) (IsI.gstb _ _ _ _ _ q.ob.gr hz8) qE (qB 8)) ?_;refine Rx6 (λw' q=>cl2 (en func144) (qA (fP:=IsOr (k+k) lo (min lo z)) 1 39) (qA (fP:=IsI (k+k) z) 2 40) (λx0 x1 w' hE d0 d1=>d0.elim (λd0=>lessv_f d0 d1 ze) (λd0=>jC (lessv_f d0 d1 ze) λ_ _ h=>h.iup zb (jJ _)))) ?_;refine Rx6 (λw' q=>fa (qP g6 0) (qB 6)) ?_;refine Rx6 (λw' q=>ldHi (q.k6 hk6) qE (qA 4 42)) ?_;refine Rx6 (λw' q=>lvI 0 (q.ob.bk B8 ng8) (IsI.gstb _ _ _ _ _ q.ob.gr hz8) qE (qB 8)) ?_;refine Rx6 (λw' q=>cl2 (en func145) (qA (fP:=IsI (k+k) hi) 5 43) (qA (fP:=IsI (k+k) z) 6 44) (λx0 x1 w' hE d0 d1=>greaterv_f d0 d1 ze)) ?_;refine Rx6 (λw' q=>fa (qQ g6 0) (qB 6)) ?_;refine st6 hk6 st_Int (λw'=>qA 8 46) (λw'=>qA 3 41) ?_;refine Rx6 (λw' q=>fa (qP g6 0) (qB 6)) ?_;exact RgAllx.nil
   intro v W6 q hZ;have S9:S6 (k+k) (min lo z) hi g6 W6:=hZ 9 dcx;obtain⟨s7,a7,n7,c7,hv7,hm⟩:=hZ 7 dcx;replace hm:IsI (k+k) (max hi z) (.agg #[.bool s7,.slice a7 n7 c7]) W6:=⟨_,_,_,_,rfl,hm⟩;obtain⟨O9,S9'⟩:=S9.putH hm;replace S:=S.ob (q.ob.trans O9) S9';simp only[lxE,Nat.reduceAdd];rw[hv7,show v 10=.pointer (some ⟨g6,2,none⟩)from hZ 10 dcx];clear hv7 hZ q S9' O9;obtain⟨s0,a0',n0,c0,s',a',n',c',B9,_⟩:=S9;refine stA 11 (h:=λK hK=>?_);refine st_wp (p:=.pointer (some ⟨g6,2,none⟩)) (u:=.agg #[.bool s7,.slice a7 n7 c7]) rfl za za (st_Int W6 g6 2 s' a' n' c' s7 a7 n7 c7 (B9.c 2 _ rfl) (B9.c 3 _ rfl) (B9.f 2) (B9.f 3)) (hK _ _ ?_);generalize(W6.setCell ⟨g6,2,none⟩ (.bool s7)).setCell ⟨g6,3,none⟩ (.slice a7 n7 c7)=W6a at S ⊢;clear B9 hK K hm;refine jL za ?_ _;go_upto_region 7 with fail;refine rgs 1 [some 48] [iV ((j:Int)+1)] [] ?_ ?_
   ·refine Rc (bn (r:=.int .i64 ((j:Int)+1)) (qB (x:=.int .i64 (j:Int)) 34) qF (hr:=λw=>by have hx9:=HI1.out;go_simp)) ?_;exact rn0
   intro v W7 e1 hZ _;replace S:=S.ext e1;simp only[qZ,Act.put,uAx];rw[show v 0=.int .i64 ((j:Int)+1)from hZ 0 dcx];clear hZ e1;refine jP λK hK=>?_;go_simp;refine hK _ _ ?_;clear hK K
   refine jE ?_;have S':=hid S;clear S B8 hz8 hk6;go_wp2_with fail
   go_roundg (gk-1)
   case measure=>have:=HG.out;have:=HLT.out;omega
   case rel=>
    refine⟨j+1,by rw[Int.natCast_add];rfl,by have:=HG.out;have:=HLT.out;omega,by have:=HLT.out;omega,?_⟩;have h1:=HLO.out;rw[List.take_add_one,HZI.out,Option.toList_some,List.foldl_append,List.foldl_append,h1.1,h1.2];exact S'
  ·obtain rfl:j=3:=by omega
   rw[show zs.take 3=zs by rw[<-HZL.out,List.take_length]]at S;clear hg hj hlt;go_upto_region 4 with fail;refine rgs 1 [some 35] [IsV (.bool false)] [] ?_ ?_
   ·refine Rc (bn (r:=.bool false) (qB (x:=.int .i64 ((3:Nat):Int)) 34) (qB (x:=.int .i64 3) 33) (hr:=λw=>by go_simp)) ?_;exact rn0
   intro v W4 e1 hZ _;replace S:=S.ext e1;simp only[lxE];rw[show v 0=.bool false from hZ 0 dcx];clear hZ e1;refine jE ?_;go_upto_region 8 with fail;obtain⟨E,B3,⟨s0,a0',n0,c0,s',a',n',c',B6,q1,q2⟩,_,_,_,_⟩:=S;refine rgs 1 [some 49] [IsV (.agg #[.bool s0,.slice a0' n0 c0,.bool s',.slice a' n' c',.bool false])] [] ?_ ?_
   ·refine Rc (lvV B6 ld_Kn (qB 6)) ?_;exact rn0
   intro v W8 e1 hZ _;replace E:=E.trans e1;replace B3:=B3.ext e1;replace q1:=q1.ext e1;replace q2:=q2.ext e1;simp only[lxE];rw[show v 0=_ from hZ 0 dcx];clear hZ e1 B6;have hQ:IsKn (k+k) (zs.foldl min p0) (zs.foldl max p0) false (.agg #[.bool s0,.slice a0' n0 c0,.bool s',.slice a' n' c',.bool false]) W8:=⟨_,_,_,_,_,_,_,_,rfl,q1,q2⟩;have hc:=short_f hQ ze;rw[<-HMU.out]at hc;obtain⟨r,hr⟩:∃r,xP (mul4 ⟨l1,u1,f1⟩ ⟨l2,u2,f2⟩)=r:=⟨_,rfl⟩;rw[hr]at hc;have HR:=hid hr;clear hr;refine stL (λK hK=>?_);refine wp_call1 (en func139) za hc (λv2 W8a h=>hK _ _ ?_) (λch W8a h=>?_) (λW8a h=>?_)
   ·obtain⟨e2,h⟩:=h;cases r with
    |error n=>cases h
    | ok q=>
     obtain⟨_,hv,s5,a5,n5,c5,s6,a6,n6,c6,hv2,g1,g2⟩:=h;cases hv;subst hv2;replace E:=E.trans e2;replace B3:=B3.ext e2;clear hK K
     go_simp
     refine stL (λK hK=>?_);refine stV (us:= [.bool s5,.slice a5 n5 c5,.bool s6,.slice a6 n6 c6,.bool q.fin]) B3 xL rfl rfl nw5 E zb (λW8b B4 E2 G2 _ _=>hK _ _ ?_);refine jE ?_;have d0:=B4.c 0 _ rfl;have d1:=B4.c 1 _ rfl;have d2:=B4.c 2 _ rfl;have d3:=B4.c 3 _ rfl;have d4:=B4.c 4 _ rfl;go_wp2_with fail;exact jD (v:=.agg #[.bool s5,.slice a5 n5 c5,.bool s6,.slice a6 n6 c6,.bool q.fin]) (by simp[results,results143,go_sem,d0,d1,d2,d3,d4]) rfl (show OpP w (xP (mul4 ⟨l1,u1,f1⟩ ⟨l2,u2,f2⟩)) _ _ from by{rw[HR.out];exact⟨E2,_,rfl,_,_,_,_,_,_,_,_,rfl,IsI.gstb _ _ _ _ _ G2 g1,IsI.gstb _ _ _ _ _ G2 g2⟩})
   ·obtain⟨e2,h⟩:=h;cases r with
    |ok q=>obtain⟨_,hv,_⟩:=h;cases hv
    | error n=>
     cases h;exact⟨rfl,(show OpP w (xP (mul4 ⟨l1,u1,f1⟩ ⟨l2,u2,f2⟩)) _ _ from by{rw[HR.out];exact⟨E.trans e2,rfl⟩})⟩
   ·obtain⟨e2,h⟩:=h;cases r with
    |ok q=>obtain⟨_,hv,_⟩:=h;cases hv
    |error n=>cases h
end
section
open Go Go.RowKit
open Go.Proofs.Tryz
theorem ji{P:Prop}(h:P:=by simp[results,results84,go_sem,d0,d1,d2,d3,d4]):P:=h
theorem jm{P:Prop}(h:P:=by simp only;omega):P:=h
theorem jw{P:Prop}(h:P:=by have h8:=HQ.out;have:=HBD.out;simp only at h8;omega):P:=h
theorem yu{P:Prop}(h:P:=by exact mv (qB (x:=.int .i64 (i:Int)) 7)):P:=h
set_option maxRecDepth 100000
set_option maxHeartbeats 8000000
structure EIv {σ:Type} (m:Mc) (J:σ->World->Prop) (w:World) (us:List Value) (st:Mst σ) (W:World):Prop where
  rm:Rm m.h w W
  mat:MAt m st.1 W
  j:J st.2 W
  b4:Bk W w.heap.size us
  b6:Bk W (w.heap.size+1) [.bool false,.slice none 0 0,.bool false,.slice none 0 0,.bool false]
section
variable {σ:Type} {m:Mc} {J:σ->World->Prop} {w:World} {us:List Value} {g:Nat} {st st':Mst σ} {W W':World}
theorem EIv.start(hJ:MapInv m.h J)(hh:m.h+3<=w.heap.size)(hM:MAt m st.1 w)(hj:J st.2 w)(us:Array Value)(T T':TypeId):
    EIv m J w us.toList st ((w.alloc (.cells us T)).alloc (.cells #[.bool false,.slice none 0 0,.bool false,.slice none 0 0,.bool false] T')):=by
  have e:Ext w ((w.alloc (.cells us T)).alloc (.cells #[.bool false,.slice none 0 0,.bool false,.slice none 0 0,.bool false] T')):=((Ext.refl w).alloc _).alloc _;exact⟨Rm.ext e,hM.ext e,hJ.ext hj e hh,(Bk.new w us T).ext ((Ext.refl _).alloc _),Bk.newE _ _ zd _ _⟩
theorem EIv.ext(S:EIv m J w us st W)(hJ:MapInv m.h J)(hh:m.h+3<=w.heap.size)(e:Ext W W'):EIv m J w us st W':=
  ⟨S.rm.trans (Rm.ext e),S.mat.ext e,hJ.ext S.j e (jK hh S.rm.size),S.b4.ext e,S.b6.ext e⟩
theorem EIv.only(S:EIv m J w us st W)(hJ:MapInv m.h J)(hh:m.h+3<=w.heap.size)(O:OnlyB g W W')(hg:w.heap.size+2<=g):EIv m J w us st W':=
  ⟨O.rm S.rm zb,⟨O.bk S.mat.bk zb,S.mat.fit⟩,hJ.only S.j O zb,O.bk S.b4 zb,O.bk S.b6 zb⟩
theorem EIv.call(S:EIv m J w us st W)(hh:m.h+3<=w.heap.size)(R:Rm m.h W W')(M:MAt m st'.1 W')(j:J st'.2 W'):EIv m J w us st' W':=
  ⟨S.rm.trans R,M,j,R.bk S.b4 zb,R.bk S.b6 zb⟩
theorem EIv.last(S:EIv m J w us st W)(hJ:MapInv m.h J)(hh:m.h+3<=w.heap.size)(O:OnlyB (w.heap.size+1) W W'):Rm m.h w W'/\MAt m st.1 W'/\J st.2 W':=
  ⟨O.rm S.rm zb,⟨O.bk S.mat.bk zb,S.mat.fit⟩,hJ.only S.j O zb⟩
theorem EIv.sz(S:EIv m J w us st W):w.heap.size+2<=W.heap.size:=S.b6.lt
end
section
variable {P:Program} {Q:Exit->Act->World->Prop} {o:Oper} {f:FuncId} {c:Call} {x y z t:Operand} {u1 u2 u3 u4:Value} {a:Act} {w:World} {K:Act->World->Prop} {R:Ending->World->Prop}
theorem xC{xs:List Operand}{us:List Value}(he:∀args w,(callFunc f args).run P w=.ok (.enter f args) w)(hx:xs.map a.eval=us)
    (h:Calls P f us.toArray w R) (h1:∀v w',R (.returned v) w'->K (a.put o.dst v) w') (h2:∀ch w',R (.panicked ch) w'->Q (.panic ch) a w') (h3:∀w',¬R .outgrown w')
    (ho:o.op=.call c:=by rfl) (hc:c.callee=.value (.func f):=by rfl) (ha:c.args=xs.toArray:=by rfl):Oper.wp P o a w K Q:=by
  have hr:(execOp a.eval o).run P w=.ok (.enter f (c.args.map a.eval)) w:=by
    unfold execOp;rw[ho];dsimp only;unfold resolve;rw[hc];simp[invoke,he,Deferred.ofValue,show a.eval (.func f)=.func (.func f) #[] #[]from rfl]
  unfold Oper.wp;rw[hr,Oper.upon_enter,ha,List.map_toArray,hx];refine jC h ?_;intro e w2 hR;cases e with
  |returned v=>exact h1 v w2 hR
  |panicked ch=>exact h2 ch w2 hR
  |outgrown=>exact absurd hR (h3 w2)
theorem xK{T:Nat}{vs:List Value}(hr:∀w,(Instr.alloc T true (.tuple #[])).run P w=.ok (.pointer (some ⟨w.heap.size,0,none⟩)) (w.alloc (.cells vs.toArray T)))
    (h:Bk (w.alloc (.cells vs.toArray T)) w.heap.size vs->Ext w (w.alloc (.cells vs.toArray T))->K (a.put o.dst (.pointer (some ⟨w.heap.size,0,none⟩))) (w.alloc (.cells vs.toArray T))) (ho:o.op=.alloc T:=by rfl):Oper.wp P o a w K Q:=by
  have h9:(execOp a.eval o).run P w=.ok (.value (.pointer (some ⟨w.heap.size,0,none⟩))) (w.alloc (.cells vs.toArray T)):=by
    unfold execOp;rw[ho];simp[hr]
  unfold Oper.wp;rw[h9];exact h (by simpa using Bk.new w vs.toArray T) ((Ext.refl _).alloc _)
end
def lpR{σ:Type}(fst:Bool)(hi:Int)(rr:Res Tr×Mst σ):Res Kn×Mst σ:=
  match rr with
  | (.error n,st')=>(.error n,st')
  | (.ok t,st')=>(.ok (if fst then⟨t.first,t.last,t.fin⟩else⟨t.sure,t.sure+t.opn+hi+1-t.next,t.fin⟩),st')
theorem srch_bd{σ:Type}(f:Int->Mst σ->Res Kn×Mst σ)(fst:Bool)(lo hi:Int)(t':Tr)(st':Mst σ):∀(k:Nat) (t:Tr) (st:Mst σ),
    (lo<=t.next/\t.next<=hi+1/\0<=t.sure/\0<=t.opn/\t.sure+t.opn<=t.next-lo/\lo<=t.first/\t.first<=hi+1/\lo<=t.last/\t.last<=hi+1)->xO f fst hi k t st=(.ok t',st')->
    lo<=t'.next/\t'.next<=hi+1/\0<=t'.sure/\0<=t'.opn/\t'.sure+t'.opn<=t'.next-lo+1/\lo<=t'.first/\t'.first<=hi+1/\lo<=t'.last/\t'.last<=hi+1
  | 0,t,st,hb,h=>by
    simp only[xO,Prod.mk.injEq,Except.ok.injEq]at h;obtain⟨rfl,_⟩:=h;simp only[Tr.stop];omega
  | k+1,t,st,hb,h=>by
    rw[xO]at h;by_cases hg:t.next<=hi/\0<st.1
    · rw [if_pos hg]at h
      split at h
      ·simp at h
      · rename_i q st2 he
        simp only[Tr.step]at h;by_cases c1:q.lo=0/\q.hi=0
        · rw[if_pos c1]at h
          exact srch_bd f fst lo hi t' st' k _ _ jm h
        · rw [if_neg c1]at h
          by_cases c2:q.lo<=0/\0<=q.hi
          · rw[if_pos c2]at h
            exact srch_bd f fst lo hi t' st' k _ _ jm h
          · rw [if_neg c2]at h
            cases fst with
            | true=>
              simp only[if_true,Prod.mk.injEq,Except.ok.injEq]at h;obtain⟨rfl,_⟩:=h;simp only;omega
            | false=>
              simp only[Bool.false_eq_true,if_false]at h;exact srch_bd f false lo hi t' st' k _ _ jm h
    · rw[if_neg hg]at h
      simp only[Prod.mk.injEq,Except.ok.injEq]at h;obtain⟨rfl,_⟩:=h;simp only[Tr.stop];omega
theorem ba_beq(x y:ByteArray):(x==y)=decide (x=y):=by
  cases x with|mk a=>
  cases y with|mk b=>
  have:((ByteArray.mk a)==(ByteArray.mk b))=(a==b):=rfl;rw[this];by_cases h:a=b
  ·subst h;simp
  ·simp[h]
theorem ba_listE(x y:ByteArray):(x.toList==y.toList)=decide (x=y):=by
  rw[ByteArray.toList_eq,ByteArray.toList_eq];by_cases h:x=y
  ·subst h;simp
  · have h2:¬x.data=y.data:=λe=>h (by cases x;cases y;simpa using e)
    simp[h,h2]
theorem look_at:∀(env:Env) (i:Nat) (x:ByteArray) (k:Int),env[i]? =some (x,k)->(env.drop (i+1)).any (λp=>p.1==x)=false->look env x=k
  | (y,k') ::t,0,x,k,h,hd=>by
    simp only[List.getElem?_cons_zero,Option.some.injEq,Prod.mk.injEq]at h;simp only[dxE]at hd;rw[look,hd];simp[h.2]
  | (y,k') ::t,i+1,x,k,h,hd=>by
    have h':t[i]? =some (x,k):=yj
    have ha:t.any (λp=>p.1==x)=true:=by
      rw[List.any_eq_true];exact⟨(x,k),List.mem_of_getElem? h',by simp[ba_beq]⟩
    rw[look,ha]
    simpa using look_at t i x k h' (by simpa using hd)
theorem look_step(env:Env)(i:Nat)(x y:ByteArray)(k:Int)(h:env[i]? =some (y,k))(hy:y≠x)(hd:(env.drop (i+1)).any (λp=>p.1==x)=false)(ha:env.any (λp=>p.1==x)=true):0<i/\(env.drop i).any (λp=>p.1==x)=false:=by
  have hi:i<env.length:=(List.getElem?_eq_some_iff.1 h).1;have e:env.drop i=env[i] ::env.drop (i+1):=List.drop_eq_getElem_cons hi;have e2:env[i]=(y,k):=(List.getElem?_eq_some_iff.1 h).2
  have h2:(env.drop i).any (λp=>p.1==x)=false:=by
    rw[e,e2,List.any_cons,hd];simp[ba_beq,hy]
  refine⟨?_,h2⟩;rcases jH i with rfl|h3
  ·rw[List.drop_zero,ha]at h2;cases h2
  ·exact h3
theorem ix_V(g n c j:Nat)(h:j<n)(w:World):(Instr.indexAt 197 (.slice (some ⟨g,0,none⟩) n c) (.int .i64 (j:Int))).run prog w=.ok (.pointer (some ⟨g,2*j,none⟩)) w:=by
  have h1:(0:Int)<=(j:Int):=zb
  have h2:(j:Int)<(n:Int):=zb
  have h3:0+j*2=2*j:=zb
  have h4:j*2=2*j:=zb
  go_simp
theorem fa_V0(g f:Nat)(w:World):(Instr.fieldAt 200 (.pointer (some ⟨g,f,none⟩)) 0).run prog w=.ok (.pointer (some ⟨g,f,none⟩)) w:=by go_simp
theorem fa_V1(g f:Nat)(w:World):(Instr.fieldAt 200 (.pointer (some ⟨g,f,none⟩)) 1).run prog w=.ok (.pointer (some ⟨g,f+1,none⟩)) w:=by go_simp
theorem eval_num{σ:Type}{m:Mc}{J:σ->World->Prop}{w:World}{st:Mst σ}{nm:ByteArray}{kk lo hi:Int}{s:Bool}{a:Option Addr}{n c:Nat}{A ve:Value}{z:Int}(hJ:MapInv m.h J)(hh:m.h+3<=w.heap.size)(hM:MAt m st.1 w)(hj:J st.2 w)(hz:IsI 128 z (.agg #[.bool s,.slice a n c]) w):
    Calls prog 84 #[.pointer (some ⟨m.h+2,0,none⟩),.agg #[.int .i64 1,.string nm,.int .i64 kk,.bool s,.slice a n c,.int .i64 lo,.int .i64 hi,A],ve] w (EvP m J w (.ok ⟨z,z,true⟩,st)):=by
  obtain⟨W,hW,S⟩:∃W,W=(w.alloc (.cells #[.int .i64 1,.string nm,.int .i64 kk,.bool s,.slice a n c,.int .i64 lo,.int .i64 hi,A] 31)).alloc (.cells #[.bool false,.slice none 0 0,.bool false,.slice none 0 0,.bool false] 176)/\EIv m J w [.int .i64 1,.string nm,.int .i64 kk,.bool s,.slice a n c,.int .i64 lo,.int .i64 hi,A] st W:=⟨_,rfl,EIv.start hJ hh hM hj _ _ _⟩;have hs0:=S.sz;replace hz:=IsI.gstb _ _ _ _ _ S.rm.gr hz;go_enter func84,ntmps84;go_upto_region 1 with fail;rw[<-hW];clear hW;have d0:=S.b4.c 0 _ rfl;go_upto_region 3 with fail;clear d0;refine rgs 3 (dR 19 3) [IsP (w.heap.size) 3,IsI 128 z,IsKn 128 z z true] [] ?_ ?_
  · refine Rc (fa (fa_Nd3 w.heap.size) (qB 4)) ?_
    refine Rc (lvI 3 S.b4 hz qE (qA 0 19)) ?_;refine Rc (cl1 (en func109) (qA (fP:=IsI 128 z) 1 20) (λx0 w' hE d0=>exact_f d0)) ?_;exact rn0
  intro v X1 e1 hZ _;replace S:=S.ext hJ hh e1;obtain⟨s5,a5,n5,c5,s6,a6,n6,c6,hv,g1,g2⟩:=hZ 2 dcx;obtain⟨fq,hfq⟩:∃f,true=f:=⟨_,rfl⟩;simp only[lxE,Nat.reduceAdd];rw[hv];clear hv hZ e1 hz;rw[hfq];refine stL (λK hK=>?_);refine qX (us:= [.bool s5,.slice a5 n5 c5,.bool s6,.slice a6 n6 c6,.bool fq]) S.b6 xL rfl rfl nw5 (λX9 B9 O=>hK _ _ ?_);obtain⟨f1,f2,f3⟩:=S.last hJ hh O;replace g1:=IsI.gstb _ _ _ _ _ O.gr g1;replace g2:=IsI.gstb _ _ _ _ _ O.gr g2;refine jE ?_;have d0:=B9.c 0 _ rfl;have d1:=B9.c 1 _ rfl;have d2:=B9.c 2 _ rfl;have d3:=B9.c 3 _ rfl;have d4:=B9.c 4 _ rfl;clear hK K O B9 S;go_wp2_with fail;exact jD (v:=.agg #[.bool s5,.slice a5 n5 c5,.bool s6,.slice a6 n6 c6,.bool fq]) ji rfl ⟨f1,f2,f3,_,rfl,_,_,_,_,_,_,_,_,by rw[hfq],g1,g2⟩
theorem tEv9_1{P:Prop}(h:P:=by
  obtain⟨hR,hMA,hJA,h⟩:=h;obtain⟨res,st2⟩:=rr;cases res with
  |error nn=>cases h
  | ok q=>
    obtain⟨_,hv,s5,a5,n5,c5,s6,a6,n6,c6,hv2,g1,g2⟩:=h;cases hv;subst hv2;replace S:=S.call hh hR hMA hJA;clear hK K
    go_simp
    obtain⟨fq,hfq⟩:∃f,q.fin=f:=⟨_,rfl⟩;rw[hfq];refine stL (λK hK=>?_);refine qX (us:= [.bool s5,.slice a5 n5 c5,.bool s6,.slice a6 n6 c6,.bool fq]) S.b6 xL rfl rfl nw5 (λX9 B9 O=>hK _ _ ?_);obtain⟨f1,f2,f3⟩:=S.last hJ hh O;replace g1:=IsI.gstb _ _ _ _ _ O.gr g1;replace g2:=IsI.gstb _ _ _ _ _ O.gr g2;refine jE ?_;have d0:=B9.c 0 _ rfl;have d1:=B9.c 1 _ rfl;have d2:=B9.c 2 _ rfl;have d3:=B9.c 3 _ rfl;have d4:=B9.c 4 _ rfl;clear hK K O B9 S;go_wp2_with fail;exact jD (v:=.agg #[.bool s5,.slice a5 n5 c5,.bool s6,.slice a6 n6 c6,.bool fq]) ji rfl ⟨f1,f2,f3,_,rfl,_,_,_,_,_,_,_,_,by rw[hfq],g1,g2⟩
  ):P:=h
theorem tEv9_3{P:Prop}(h:P:=by
  obtain⟨hR,hMA,hJA,h⟩:=h;obtain⟨res,st2⟩:=rr;cases res with
  |ok q=>obtain⟨_,hv,_⟩:=h;cases hv
  | error nn=>
    cases h;exact⟨rfl,S.rm.trans hR,hMA,hJA,rfl⟩
  ):P:=h
theorem tEv9_5{P:Prop}(h:P:=by
  obtain⟨hR,hMA,hJA,h⟩:=h;obtain⟨res,st2⟩:=rr;cases res with
  |ok q=>obtain⟨_,hv,_⟩:=h;cases hv
  |error nn=>cases h
  ):P:=h
theorem eval_cell{σ:Type}{m:Mc}{J:σ->World->Prop}{w:World}{st:Mst σ}{x:ByteArray}{kk lo hi:Int}{s:Bool}{a:Option Addr}{n c:Nat}{A ve:Value}{rr:Res Kn×Mst σ}(hJ:MapInv m.h J)(hh:m.h+3<=w.heap.size)(hM:MAt m st.1 w)(hj:J st.2 w)(HC:∀w',Rm m.h w w'->MAt m st.1 w'->J st.2 w'->w.heap.size<=w'.heap.size->Calls prog 111 #[.pointer (some ⟨m.h+2,0,none⟩),.string x] w' (EvP m J w' rr)):
    Calls prog 84 #[.pointer (some ⟨m.h+2,0,none⟩),.agg #[.int .i64 2,.string x,.int .i64 kk,.bool s,.slice a n c,.int .i64 lo,.int .i64 hi,A],ve] w (EvP m J w rr):=by
  obtain⟨W,hW,S⟩:∃W,W=(w.alloc (.cells #[.int .i64 2,.string x,.int .i64 kk,.bool s,.slice a n c,.int .i64 lo,.int .i64 hi,A] 31)).alloc (.cells #[.bool false,.slice none 0 0,.bool false,.slice none 0 0,.bool false] 176)/\EIv m J w [.int .i64 2,.string x,.int .i64 kk,.bool s,.slice a n c,.int .i64 lo,.int .i64 hi,A] st W:=⟨_,rfl,EIv.start hJ hh hM hj _ _ _⟩;have hs0:=S.sz;go_enter func84,ntmps84;go_upto_region 1 with fail;rw[<-hW];clear hW;have d0:=S.b4.c 0 _ rfl;go_upto_region 10 with fail;clear d0;refine rgs 3 (dR 46 3) [IsP (m.h+2) 0,IsP (w.heap.size) 1,IsV (.string x)] [] ?_ ?_
  · refine Rc zt ?_
    refine Rc xb ?_;refine Rc (lvC 1 S.b4 ld_str (qA 1 47)) ?_;exact rn0
  intro v X1 e1 hZ _;replace S:=S.ext hJ hh e1;simp only[lxE,Nat.reduceAdd];rw[show v 0=.pointer (some ⟨m.h+2,0,none⟩)from hZ 0 dcx,show v 2=.string x from hZ 2 dcx];clear hZ e1;refine stL (λK hK=>?_);refine xC (us:= [.pointer (some ⟨m.h+2,0,none⟩),.string x]) (en func111) za (HC _ S.rm S.mat S.j S.rm.size) (λv2 X2 h=>hK _ _ ?_) (λch X2 h=>?_) (λX2 h=>?_)
  ·exact tEv9_1
  ·exact tEv9_3
  ·exact tEv9_5
theorem eval_val{σ:Type}{m:Mc}{J:σ->World->Prop}{w:World}{st:Mst σ}{x:ByteArray}{kk lo hi:Int}{s:Bool}{a:Option Addr}{n c:Nat}{A ve:Value}{rr:Res Kn×Mst σ}(hJ:MapInv m.h J)(hh:m.h+3<=w.heap.size)(hM:MAt m st.1 w)(hj:J st.2 w)(HC:∀w',Rm m.h w w'->MAt m st.1 w'->J st.2 w'->w.heap.size<=w'.heap.size->Calls prog 112 #[.pointer (some ⟨m.h+2,0,none⟩),.string x,.int .i64 kk,ve] w' (EvP m J w' rr)):
    Calls prog 84 #[.pointer (some ⟨m.h+2,0,none⟩),.agg #[.int .i64 3,.string x,.int .i64 kk,.bool s,.slice a n c,.int .i64 lo,.int .i64 hi,A],ve] w (EvP m J w rr):=by
  obtain⟨W,hW,S⟩:∃W,W=(w.alloc (.cells #[.int .i64 3,.string x,.int .i64 kk,.bool s,.slice a n c,.int .i64 lo,.int .i64 hi,A] 31)).alloc (.cells #[.bool false,.slice none 0 0,.bool false,.slice none 0 0,.bool false] 176)/\EIv m J w [.int .i64 3,.string x,.int .i64 kk,.bool s,.slice a n c,.int .i64 lo,.int .i64 hi,A] st W:=⟨_,rfl,EIv.start hJ hh hM hj _ _ _⟩;have hs0:=S.sz;go_enter func84,ntmps84;go_upto_region 1 with fail;rw[<-hW];clear hW;have d0:=S.b4.c 0 _ rfl;go_upto_region 12 with fail;clear d0;refine rgs 6 (dR 52 6) [IsP (m.h+2) 0,IsP (w.heap.size) 1,IsV (.string x),IsP (w.heap.size) 2,iV kk,IsV ve] [] ?_ ?_
  · refine Rc zt ?_
    refine Rc xb ?_;refine Rc (lvC 1 S.b4 ld_str (qA 1 53)) ?_;refine Rc (fa (fa_Nd2 w.heap.size) (qB 4)) ?_;refine Rc (lvC 2 S.b4 xF (qA 3 55)) ?_;refine Rc yw ?_;exact rn0
  intro v X1 e1 hZ _;replace S:=S.ext hJ hh e1;simp only[lxE,Nat.reduceAdd];rw[show v 0=.pointer (some ⟨m.h+2,0,none⟩)from hZ 0 dcx,show v 2=.string x from hZ 2 dcx,show v 4=.int .i64 kk from hZ 4 dcx,show v 5=ve from hZ 5 dcx];clear hZ e1;refine stL (λK hK=>?_);refine xC (us:= [.pointer (some ⟨m.h+2,0,none⟩),.string x,.int .i64 kk,ve]) (en func112) za (HC _ S.rm S.mat S.j S.rm.size) (λv2 X2 h=>hK _ _ ?_) (λch X2 h=>?_) (λX2 h=>?_)
  ·exact tEv9_1
  ·exact tEv9_3
  ·exact tEv9_5
theorem eval_var{σ:Type}{m:Mc}{J:σ->World->Prop}{w:World}{st:Mst σ}{x:ByteArray}{kk lo hi:Int}{s:Bool}{a:Option Addr}{n c:Nat}{A ve:Value}{env:Env}(hJ:MapInv m.h J)(hh:m.h+3<=w.heap.size)(hM:MAt m st.1 w)(hj:J st.2 w)(hE:IsEnv m.h env ve w)(ha:env.any (λp=>p.1==x)=true)(hb: -9223372036854775808<=look env x/\look env x<=9223372036854775807):
    Calls prog 84 #[.pointer (some ⟨m.h+2,0,none⟩),.agg #[.int .i64 11,.string x,.int .i64 kk,.bool s,.slice a n c,.int .i64 lo,.int .i64 hi,A],ve] w (EvP m J w (.ok ⟨look env x,look env x,true⟩,st)):=by
  obtain⟨h0,ao,cp,rfl,hcp,hle,hnil,hcs⟩:=hE;obtain⟨ge,rfl,hge,hge2,hcells⟩:=hcs (by intro he;subst he;simp at ha);obtain⟨n0,hn0⟩:∃n0,env.length=n0:=⟨_,rfl⟩
  have hn1:0<n0:=by
    rw[<-hn0];rcases env with _| ⟨p,t⟩;·simp at ha
    ·simp
  have HB:=hid (jI (jI hn0 hn1) (jI hcp hle));have HLB:=hid hb;have HAN:=hid ha;have HCE:=hid hcells;rw[hn0];clear hnil hcs hn0 hcp hle hb ha hcells;obtain⟨W,hW,S⟩:∃W,W=(w.alloc (.cells #[.int .i64 11,.string x,.int .i64 kk,.bool s,.slice a n c,.int .i64 lo,.int .i64 hi,A] 31)).alloc (.cells #[.bool false,.slice none 0 0,.bool false,.slice none 0 0,.bool false] 176)/\EIv m J w [.int .i64 11,.string x,.int .i64 kk,.bool s,.slice a n c,.int .i64 lo,.int .i64 hi,A] st W:=⟨_,rfl,EIv.start hJ hh hM hj _ _ _⟩;have hs0:=S.sz;have HW1:=hid (show IntKind.i64.wrap ((n0:Int)-1)=(n0:Int)-1 by have:=HB.out;simp only[IntKind.wrap_i64];omega);clear hn1;go_enter func84,ntmps84;go_upto_region 1 with fail;rw[<-hW];clear hW;have d0:=S.b4.c 0 _ rfl;go_upto_region 5 with fail;clear d0;refine rgs 4 [some 24,some 25,some 26,some 7] [IsV (.slice (some ⟨ge,0,none⟩) n0 cp),iV (n0:Int),iV ((n0:Int)-1),iV ((n0:Int)-1)] [] ?_ ?_
  · refine Rc yw ?_
    refine Rc (lenV (qA (fP:=IsV (.slice (some ⟨ge,0,none⟩) n0 cp)) 0 24)) ?_;refine Rc (bn (r:=.int .i64 ((n0:Int)-1)) (qC 1 25) qF (hr:=λw=>by have hx9:=HW1.out;go_simp)) ?_;refine Rc (mv (qA 2 26)) ?_;exact rn0
  intro v X1 e1 hZ _;replace S:=S.ext hJ hh e1;simp only[lxE,Nat.reduceAdd];rw[show v 3=.int .i64 ((n0:Int)-1)from hZ 3 dcx];clear hZ e1;refine jE ?_;go_wp2_with fail;have S0:=hid S;clear S
  go_loopg [7] n0 (λgk v7 wr=>∃(i:Nat),v7=.int .i64 (i:Int)/\i+1=gk/\i<n0/\Hid ((env.drop (i+1)).any (λp=>p.1==x)=false)/\Hid (EIv m J w [.int .i64 11,.string x,.int .i64 kk,.bool s,.slice a n c,.int .i64 lo,.int .i64 hi,A] st wr))
  case atStart=>exact⟨n0-1,by have:=HB.out;rw[Int.ofNat_sub (by omega)];rfl,by have:=HB.out;omega,by have:=HB.out;omega,hid (by have:=HB.out;rw[show n0-1+1=env.length by omega,List.drop_length];rfl),S0⟩
  case round=>
    clear S0;obtain⟨i,rfl,hg,hi,hd,S⟩:=hrel;have S:=S.out;obtain⟨⟨y,k⟩,hyk⟩:∃p,env[i]? =some p:=⟨_,List.getElem?_eq_getElem (by have:=HB.out;omega)⟩;have HYK:=hid hyk;have HCY:=hid (HCE.out i y k hyk);have HG:=hid (jI hg hi);clear hyk hg hi;go_upto_region 6 with fail;obtain⟨bne,hbne⟩:∃b,(!decide (y=x))=b:=⟨_,rfl⟩;have HBN:=hid (show(y.toList==x.toList)= !bne by rw[ba_listE,<-hbne,Bool.not_not]);have hrm:=S.rm;refine rg 8 (dR 27 8) [IsV (.slice (some ⟨ge,0,none⟩) n0 cp),iV (i:Int),IsP ge (2*i),IsP ge (2*i),IsV (.string y),IsP (w.heap.size) 1,IsV (.string x),IsV (.bool bne)] [] 0 ?_ ?_
    · refine Rc yw ?_
      refine Rc yu ?_;refine Rc (ixq (ix_V ge n0 cp i HG.out.2) (qA 0 27) (qA 1 28)) ?_;refine Rc (fa (fa_V0 ge (2*i)) (qA 2 29)) ?_;refine Rc (lv (fP:=IsV (.string y)) _ (λw' e=>ld_str w' _ _ (e.cell (S.rm.cell HCY.out.1 (.inr hge)))) (qA 3 30) (λ_ _=>rfl)) ?_;refine Rc xb ?_;refine Rc (lvC 1 S.b4 ld_str (qA 5 32)) ?_;refine Rc (bn (r:=.bool bne) (qC 4 31) (qC 6 33) (hr:=λw=>by have hx9:=HBN.out;go_simp)) ?_;exact rn0
    intro v X2 e1 hZ _;replace S:=S.ext hJ hh e1;simp only[lxE,Nat.reduceAdd];rw[show v 7=.bool bne from hZ 7 dcx];clear hZ e1;refine jL za ?_ _;cases bne with
    | true=>
      have hyx:y≠x:=by simpa using hbne
      obtain⟨h1,h2⟩:=look_step env i x y k HYK.out hyx hd.out HAN.out;have H1:=hid h1;have H2:=hid h2;have HW2:=hid (show IntKind.i64.wrap ((i:Int)-1)=((i-1:Nat):Int)by have:=HB.out;have:=HG.out;simp only[IntKind.wrap_i64];omega);clear h1 h2 hyx hbne hd;go_upto_region 7 with fail;refine rgs 2 [some 35,some 36] [iV (i:Int),iV ((i-1:Nat):Int)] [] ?_ ?_
      · refine Rc yu ?_
        refine Rc (bn (r:=.int .i64 ((i-1:Nat):Int)) (qC 0 35) qF (hr:=λw=>by have hx9:=HW2.out;go_simp)) ?_;exact rn0
      intro v X3 e1 hZ _;replace S:=S.ext hJ hh e1;simp only[lxE,Nat.reduceAdd];rw[show v 1=.int .i64 ((i-1:Nat):Int)from hZ 1 dcx];clear hZ e1;refine jP λK hK=>?_;go_simp;refine hK _ _ ?_;clear hK K
      refine jE ?_;have S':=hid S;clear S hrm;go_wp2_with fail
      go_roundg (gk-1)
      case measure=>have:=HG.out;have:=H1.out;omega
      case rel=>exact⟨i-1,rfl,by have:=HG.out;have:=H1.out;omega,by have:=HG.out;omega,hid (by have:=H1.out;rw[show i-1+1=i by omega];exact H2.out),S'⟩
    | false=>
      obtain rfl:y=x:=by simpa using hbne
      have HLK:=hid (look_at env i y k HYK.out hd.out);rw[HLK.out]at HLB;clear hbne hd;go_upto_region 8 with fail;refine rgs 7 (dR 37 7) [IsV (.slice (some ⟨ge,0,none⟩) n0 cp),iV (i:Int),IsP ge (2*i),IsP ge (2*i+1),iV k,IsI 2 k,IsKn 2 k k true] [] ?_ ?_
      · refine Rc yw ?_
        refine Rc yu ?_;refine Rc (ixq (ix_V ge n0 cp i HG.out.2) (qA 0 37) (qA 1 38)) ?_;refine Rc (fa (fa_V1 ge (2*i)) (qA 2 39)) ?_;refine Rc (lv (fP:=iV k) _ (λw' e=>xF w' _ _ (e.cell (S.rm.cell HCY.out.2 (.inr hge)))) (qA 3 40) (λ_ _=>rfl)) ?_;refine Rc (cl1 (en func110) (qA (fP:=iV k) 4 41) (λx0 w' hE d0=>by{obtain rfl:x0=.int .i64 k:=d0;exact of_f w' k HLB.out})) ?_;refine Rc (cl1 (en func109) (qA (fP:=IsI 2 k) 5 42) (λx0 w' hE d0=>exact_f d0)) ?_;exact rn0
      intro v X8 e1 hZ _;replace S:=S.ext hJ hh e1;obtain⟨s5,a5,n5,c5,s6,a6,n6,c6,hv,g1,g2⟩:=hZ 6 dcx;obtain⟨fq,hfq⟩:∃f,true=f:=⟨_,rfl⟩;simp only[lxE,Nat.reduceAdd];rw[hv];clear hv hZ e1 hrm;rw[hfq];replace g1:=g1.mono (show 2<=128 by decide);replace g2:=g2.mono (show 2<=128 by decide);rw[<-HLK.out]at g1 g2;refine stL (λK hK=>?_);refine qX (us:= [.bool s5,.slice a5 n5 c5,.bool s6,.slice a6 n6 c6,.bool fq]) S.b6 xL rfl rfl nw5 (λX9 B9 O=>hK _ _ ?_);obtain⟨f1,f2,f3⟩:=S.last hJ hh O;replace g1:=IsI.gstb _ _ _ _ _ O.gr g1;replace g2:=IsI.gstb _ _ _ _ _ O.gr g2;refine jE ?_;have d0:=B9.c 0 _ rfl;have d1:=B9.c 1 _ rfl;have d2:=B9.c 2 _ rfl;have d3:=B9.c 3 _ rfl;have d4:=B9.c 4 _ rfl;clear hK K O B9 S;go_wp2_with fail;exact jD (v:=.agg #[.bool s5,.slice a5 n5 c5,.bool s6,.slice a6 n6 c6,.bool fq]) ji rfl ⟨f1,f2,f3,_,rfl,_,_,_,_,_,_,_,_,by first|rfl|rw[hfq],g1,g2⟩
theorem tEv9_2{P:Prop}(h:P:=by
  refine qX (us:= [.bool s5,.slice a5 n5 c5,.bool s6,.slice a6 n6 c6,.bool fq]) S.b6 xL rfl rfl nw5 (λX9 B9 O=>hK _ _ ?_);obtain⟨f1,f2,f3⟩:=S.last hJ hh O;replace g1:=IsI.gstb _ _ _ _ _ O.gr g1;replace g2:=IsI.gstb _ _ _ _ _ O.gr g2;refine jL za ?_ _;have d0:=B9.c 0 _ rfl;have d1:=B9.c 1 _ rfl;have d2:=B9.c 2 _ rfl;have d3:=B9.c 3 _ rfl;have d4:=B9.c 4 _ rfl;clear hK K O B9 S;go_wp2_with fail;exact jD (v:=.agg #[.bool s5,.slice a5 n5 c5,.bool s6,.slice a6 n6 c6,.bool fq]) ji rfl ⟨f1,f2,f3,_,rfl,_,_,_,_,_,_,_,_,rfl,g1,g2⟩
  ):P:=h
theorem tEv9_4{P:Prop}(h:P:=by
  obtain⟨hR,hMA,hJA,h⟩:=h;obtain⟨res,st2⟩:=rr;cases res with
  |ok q=>cases h
  | error nn=>
    cases h;exact⟨rfl,S.rm.trans hR,hMA,hJA,rfl⟩
  ):P:=h
theorem eval_count{σ:Type}{m:Mc}{J:σ->World->Prop}{w:World}{st:Mst σ}{x:ByteArray}{kk lo hi:Int}{s:Bool}{a:Option Addr}{n c:Nat}{g o mm cp:Nat}{ve:Value}{rr:Res Tr×Mst σ}(hJ:MapInv m.h J)(hh:m.h+3<=w.heap.size)(hM:MAt m st.1 w)(hj:J st.2 w)(HC:∀w',Rm m.h w w'->MAt m st.1 w'->J st.2 w'->w.heap.size<=w'.heap.size->Calls prog 113 #[.pointer (some ⟨m.h+2,0,none⟩),.agg #[.int .i64 9,.string x,.int .i64 kk,.bool s,.slice a n c,.int .i64 lo,.int .i64 hi,.slice (some ⟨g,o,none⟩) mm cp],ve] w' (SrP m J w' rr))(HBD:Hid (-1099511627776<=lo/\lo<=hi+1/\hi<=1099511627776))(HT:Hid (∀t st',rr=(.ok t,st')->lo<=t.next/\t.next<=hi+1/\0<=t.sure/\0<=t.opn/\t.sure+t.opn<=t.next-lo+1/\lo<=t.first/\t.first<=hi+1/\lo<=t.last/\t.last<=hi+1)):
    Calls prog 84 #[.pointer (some ⟨m.h+2,0,none⟩),.agg #[.int .i64 9,.string x,.int .i64 kk,.bool s,.slice a n c,.int .i64 lo,.int .i64 hi,.slice (some ⟨g,o,none⟩) mm cp],ve] w (EvP m J w (lpR false hi rr)):=by
  obtain⟨W,hW,S⟩:∃W,W=(w.alloc (.cells #[.int .i64 9,.string x,.int .i64 kk,.bool s,.slice a n c,.int .i64 lo,.int .i64 hi,.slice (some ⟨g,o,none⟩) mm cp] 31)).alloc (.cells #[.bool false,.slice none 0 0,.bool false,.slice none 0 0,.bool false] 176)/\EIv m J w [.int .i64 9,.string x,.int .i64 kk,.bool s,.slice a n c,.int .i64 lo,.int .i64 hi,.slice (some ⟨g,o,none⟩) mm cp] st W:=⟨_,rfl,EIv.start hJ hh hM hj _ _ _⟩;have hs0:=S.sz;go_enter func84,ntmps84;go_upto_region 1 with fail;rw[<-hW];clear hW;have d0:=S.b4.c 0 _ rfl;go_upto_region 14 with fail;clear d0;have hld:LdV prog 31 8:=λw' g' vs' hl B=>ld_Nd hl (λj v hj=>by rw[Nat.zero_add];exact B.c j v hj)
  refine rgs 3 (dR 61 3) [IsP (m.h+2) 0,IsV (.agg #[.int .i64 9,.string x,.int .i64 kk,.bool s,.slice a n c,.int .i64 lo,.int .i64 hi,.slice (some ⟨g,o,none⟩) mm cp]),IsV ve] [] ?_ ?_
  · refine Rc zt ?_
    refine Rc (lvV S.b4 hld (qB 4)) ?_;refine Rc yw ?_;exact rn0
  intro v X1 e1 hZ _;replace S:=S.ext hJ hh e1;simp only[lxE,Nat.reduceAdd];rw[show v 0=.pointer (some ⟨m.h+2,0,none⟩)from hZ 0 dcx,show v 1=.agg #[.int .i64 9,.string x,.int .i64 kk,.bool s,.slice a n c,.int .i64 lo,.int .i64 hi,.slice (some ⟨g,o,none⟩) mm cp]from hZ 1 dcx,show v 2=ve from hZ 2 dcx];clear hZ e1;refine stL (λK hK=>?_);refine xC (us:= [.pointer (some ⟨m.h+2,0,none⟩),.agg #[.int .i64 9,.string x,.int .i64 kk,.bool s,.slice a n c,.int .i64 lo,.int .i64 hi,.slice (some ⟨g,o,none⟩) mm cp],ve]) (en func113) za (HC _ S.rm S.mat S.j S.rm.size) (λv2 X2 h=>hK _ _ ?_) (λch X2 h=>?_) (λX2 h=>?_)
  · obtain⟨hR,hMA,hJA,h⟩:=h
    obtain⟨res,st2⟩:=rr;cases res with
    |error nn=>cases h
    | ok q=>
      cases h;have HQ:=hid (HT.out q st2 rfl);obtain⟨sure,opn,first,last,next,fq⟩:=q;replace S:=S.call hh hR hMA hJA;clear hK K hR hMA hJA;have hs2:=S.sz
      go_simp
      refine stL (λK hK=>?_);refine xK (vs:= [.int .i64 0,.int .i64 0,.int .i64 0,.int .i64 0,.int .i64 0,.bool false]) al_Tr (λB8 e1=>hK _ _ ?_);replace S:=S.ext hJ hh e1;obtain⟨g8,hg8⟩:∃g,X2.heap.size=g:=⟨_,rfl⟩;rw[hg8]at B8 hs2 ⊢;generalize X2.alloc (.cells [Value.int .i64 0,.int .i64 0,.int .i64 0,.int .i64 0,.int .i64 0,.bool false].toArray 205)=X3 at S B8 ⊢;clear hK K e1 hg8
      go_simp
      refine stL (λK hK=>?_);refine qX (us:= [.int .i64 sure,.int .i64 opn,.int .i64 first,.int .i64 last,.int .i64 next,.bool fq]) B8 st_Tr rfl rfl nwT (λX4 B8' O=>hK _ _ ?_);replace S:=S.only hJ hh O hs2;clear B8 hK K O;refine jE ?_;go_upto_region 15 with fail;have HA1:=hid (show IntKind.i64.wrap (sure+opn)=sure+opn by have h8:=HQ.out;have:=HBD.out;simp only at h8;simp only[IntKind.wrap_i64];omega);have HA2:=hid (show IntKind.i64.wrap (sure+opn+hi)=sure+opn+hi by have h8:=HQ.out;have:=HBD.out;simp only at h8;simp only[IntKind.wrap_i64];omega);have HA3:=hid (show IntKind.i64.wrap (sure+opn+hi+1)=sure+opn+hi+1 by have h8:=HQ.out;have:=HBD.out;simp only at h8;simp only[IntKind.wrap_i64];omega);have HA4:=hid (show IntKind.i64.wrap (sure+opn+hi+1-next)=sure+opn+hi+1-next by have h8:=HQ.out;have:=HBD.out;simp only at h8;simp only[IntKind.wrap_i64];omega);refine rg 19 (dR 65 19) [IsP g8 0,iV (sure),IsI 2 sure,IsP g8 0,iV (sure),IsP g8 1,iV (opn),iV (sure+opn),IsP (w.heap.size) 6,iV (hi),iV (sure+opn+hi),iV (sure+opn+hi+1),IsP g8 4,iV (next),iV (sure+opn+hi+1-next),IsI 2 (sure+opn+hi+1-next),IsP g8 5,IsV (.bool fq),IsKn 2 sure (sure+opn+hi+1-next) fq] [] 1 ?_ ?_
      · refine Rc (fa (fa_Tr0 g8) (qB 8)) ?_
        refine Rc (lvC 0 B8' xF (qA 0 65)) ?_;refine Rc (cl1 (en func110) (qA (fP:=iV (sure)) 1 66) (λx0 w' hE d0=>by{obtain rfl:x0=.int .i64 (sure):=d0;exact of_f w' (sure) jw})) ?_;refine Rc (fa (fa_Tr0 g8) (qB 8)) ?_;refine Rc (lvC 0 B8' xF (qA 3 68)) ?_;refine Rc (fa (fa_Tr1 g8) (qB 8)) ?_;refine Rc (lvC 1 B8' xF (qA 5 70)) ?_;refine Rc (bn (r:=.int .i64 (sure+opn)) (qC 4 69) (qC 6 71) (hr:=λw=>by have hx9:=HA1.out;go_simp)) ?_;refine Rc xa ?_;refine Rc (lvC 6 S.b4 xF (qA 8 73)) ?_;refine Rc (bn (r:=.int .i64 (sure+opn+hi)) (qC 7 72) (qC 9 74) (hr:=λw=>by have hx9:=HA2.out;go_simp)) ?_;refine Rc (bn (r:=.int .i64 (sure+opn+hi+1)) (qC 10 75) qF (hr:=λw=>by have hx9:=HA3.out;go_simp)) ?_;refine Rc (fa (jA g8) (qB 8)) ?_;refine Rc (lvC 4 B8' xF (qA 12 77)) ?_;refine Rc (bn (r:=.int .i64 (sure+opn+hi+1-next)) (qC 11 76) (qC 13 78) (hr:=λw=>by have hx9:=HA4.out;go_simp)) ?_;refine Rc (cl1 (en func110) (qA (fP:=iV (sure+opn+hi+1-next)) 14 79) (λx0 w' hE d0=>by{obtain rfl:x0=.int .i64 (sure+opn+hi+1-next):=d0;exact of_f w' (sure+opn+hi+1-next) jw})) ?_;refine Rc (fa (fa_Tr5 g8) (qB 8)) ?_;refine Rc (lvC 5 B8' ld_b (qA 16 81)) ?_;refine Rc (bkf (k1:=2) (qC 2 67) (qC 15 80) (qC 17 82) bd_Kn3) ?_;exact rn0
      intro v X5 e1 hZ _;replace S:=S.ext hJ hh e1;obtain⟨s5,a5,n5,c5,s6,a6,n6,c6,hv,g1,g2⟩:=hZ 18 dcx;simp only[lxE,Nat.reduceAdd];rw[hv];clear hv hZ e1 B8';replace g1:=g1.mono (show 2<=128 by decide);replace g2:=g2.mono (show 2<=128 by decide);refine stA 19 (h:=λK hK=>?_);exact tEv9_2
  ·exact tEv9_4
  · obtain⟨hR,hMA,hJA,h⟩:=h
    obtain⟨res,st2⟩:=rr;cases res with
    |ok q=>cases h
    |error nn=>cases h
theorem eval_first{σ:Type}{m:Mc}{J:σ->World->Prop}{w:World}{st:Mst σ}{x:ByteArray}{kk lo hi:Int}{s:Bool}{a:Option Addr}{n c:Nat}{g o mm cp:Nat}{ve:Value}{rr:Res Tr×Mst σ}(hJ:MapInv m.h J)(hh:m.h+3<=w.heap.size)(hM:MAt m st.1 w)(hj:J st.2 w)(HC:∀w',Rm m.h w w'->MAt m st.1 w'->J st.2 w'->w.heap.size<=w'.heap.size->Calls prog 113 #[.pointer (some ⟨m.h+2,0,none⟩),.agg #[.int .i64 10,.string x,.int .i64 kk,.bool s,.slice a n c,.int .i64 lo,.int .i64 hi,.slice (some ⟨g,o,none⟩) mm cp],ve] w' (SrP m J w' rr))(HBD:Hid (-1099511627776<=lo/\lo<=hi+1/\hi<=1099511627776))(HT:Hid (∀t st',rr=(.ok t,st')->lo<=t.next/\t.next<=hi+1/\0<=t.sure/\0<=t.opn/\t.sure+t.opn<=t.next-lo+1/\lo<=t.first/\t.first<=hi+1/\lo<=t.last/\t.last<=hi+1)):
    Calls prog 84 #[.pointer (some ⟨m.h+2,0,none⟩),.agg #[.int .i64 10,.string x,.int .i64 kk,.bool s,.slice a n c,.int .i64 lo,.int .i64 hi,.slice (some ⟨g,o,none⟩) mm cp],ve] w (EvP m J w (lpR true hi rr)):=by
  obtain⟨W,hW,S⟩:∃W,W=(w.alloc (.cells #[.int .i64 10,.string x,.int .i64 kk,.bool s,.slice a n c,.int .i64 lo,.int .i64 hi,.slice (some ⟨g,o,none⟩) mm cp] 31)).alloc (.cells #[.bool false,.slice none 0 0,.bool false,.slice none 0 0,.bool false] 176)/\EIv m J w [.int .i64 10,.string x,.int .i64 kk,.bool s,.slice a n c,.int .i64 lo,.int .i64 hi,.slice (some ⟨g,o,none⟩) mm cp] st W:=⟨_,rfl,EIv.start hJ hh hM hj _ _ _⟩;have hs0:=S.sz;go_enter func84,ntmps84;go_upto_region 1 with fail;rw[<-hW];clear hW;have d0:=S.b4.c 0 _ rfl;go_upto_region 17 with fail;clear d0;have hld:LdV prog 31 8:=λw' g' vs' hl B=>ld_Nd hl (λj v hj=>by rw[Nat.zero_add];exact B.c j v hj)
  refine rgs 3 (dR 86 3) [IsP (m.h+2) 0,IsV (.agg #[.int .i64 10,.string x,.int .i64 kk,.bool s,.slice a n c,.int .i64 lo,.int .i64 hi,.slice (some ⟨g,o,none⟩) mm cp]),IsV ve] [] ?_ ?_
  · refine Rc zt ?_
    refine Rc (lvV S.b4 hld (qB 4)) ?_;refine Rc yw ?_;exact rn0
  intro v X1 e1 hZ _;replace S:=S.ext hJ hh e1;simp only[lxE,Nat.reduceAdd];rw[show v 0=.pointer (some ⟨m.h+2,0,none⟩)from hZ 0 dcx,show v 1=.agg #[.int .i64 10,.string x,.int .i64 kk,.bool s,.slice a n c,.int .i64 lo,.int .i64 hi,.slice (some ⟨g,o,none⟩) mm cp]from hZ 1 dcx,show v 2=ve from hZ 2 dcx];clear hZ e1;refine stL (λK hK=>?_);refine xC (us:= [.pointer (some ⟨m.h+2,0,none⟩),.agg #[.int .i64 10,.string x,.int .i64 kk,.bool s,.slice a n c,.int .i64 lo,.int .i64 hi,.slice (some ⟨g,o,none⟩) mm cp],ve]) (en func113) za (HC _ S.rm S.mat S.j S.rm.size) (λv2 X2 h=>hK _ _ ?_) (λch X2 h=>?_) (λX2 h=>?_)
  · obtain⟨hR,hMA,hJA,h⟩:=h
    obtain⟨res,st2⟩:=rr;cases res with
    |error nn=>cases h
    | ok q=>
      cases h;have HQ:=hid (HT.out q st2 rfl);obtain⟨sure,opn,first,last,next,fq⟩:=q;replace S:=S.call hh hR hMA hJA;clear hK K hR hMA hJA;have hs2:=S.sz
      go_simp
      refine stL (λK hK=>?_);refine xK (vs:= [.int .i64 0,.int .i64 0,.int .i64 0,.int .i64 0,.int .i64 0,.bool false]) al_Tr (λB8 e1=>hK _ _ ?_);replace S:=S.ext hJ hh e1;obtain⟨g8,hg8⟩:∃g,X2.heap.size=g:=⟨_,rfl⟩;rw[hg8]at B8 hs2 ⊢;generalize X2.alloc (.cells [Value.int .i64 0,.int .i64 0,.int .i64 0,.int .i64 0,.int .i64 0,.bool false].toArray 205)=X3 at S B8 ⊢;clear hK K e1 hg8
      go_simp
      refine stL (λK hK=>?_);refine qX (us:= [.int .i64 sure,.int .i64 opn,.int .i64 first,.int .i64 last,.int .i64 next,.bool fq]) B8 st_Tr rfl rfl nwT (λX4 B8' O=>hK _ _ ?_);replace S:=S.only hJ hh O hs2;clear B8 hK K O;refine jE ?_;go_upto_region 18 with fail;refine rg 9 (dR 90 9) [IsP g8 2,iV (first),IsI 2 first,IsP g8 3,iV (last),IsI 2 last,IsP g8 5,IsV (.bool fq),IsKn 2 first last fq] [] 1 ?_ ?_
      · refine Rc (fa (fa_Tr2 g8) (qB 9)) ?_
        refine Rc (lvC 2 B8' xF (qA 0 90)) ?_;refine Rc (cl1 (en func110) (qA (fP:=iV (first)) 1 91) (λx0 w' hE d0=>by{obtain rfl:x0=.int .i64 (first):=d0;exact of_f w' (first) jw})) ?_;refine Rc (fa (fa_Tr3 g8) (qB 9)) ?_;refine Rc (lvC 3 B8' xF (qA 3 93)) ?_;refine Rc (cl1 (en func110) (qA (fP:=iV (last)) 4 94) (λx0 w' hE d0=>by{obtain rfl:x0=.int .i64 (last):=d0;exact of_f w' (last) jw})) ?_;refine Rc (fa (fa_Tr5 g8) (qB 9)) ?_;refine Rc (lvC 5 B8' ld_b (qA 6 96)) ?_;refine Rc (bkf (k1:=2) (qC 2 92) (qC 5 95) (qC 7 97) bd_Kn3) ?_;exact rn0
      intro v X5 e1 hZ _;replace S:=S.ext hJ hh e1;obtain⟨s5,a5,n5,c5,s6,a6,n6,c6,hv,g1,g2⟩:=hZ 8 dcx;simp only[lxE,Nat.reduceAdd];rw[hv];clear hv hZ e1 B8';replace g1:=g1.mono (show 2<=128 by decide);replace g2:=g2.mono (show 2<=128 by decide);refine stA 9 (h:=λK hK=>?_);exact tEv9_2
  ·exact tEv9_4
  · obtain⟨hR,hMA,hJA,h⟩:=h
    obtain⟨res,st2⟩:=rr;cases res with
    |ok q=>cases h
    |error nn=>cases h
end
end Go.Proofs.YtkeikfekkdplgaaGreatDoor
