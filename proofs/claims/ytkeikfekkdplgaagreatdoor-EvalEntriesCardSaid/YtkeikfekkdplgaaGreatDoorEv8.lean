/- Lemmas. -/
import Derived.Test.YtkeikfekkdplgaaGreatDoorEv3
import Derived.Tactics
import Derived.Tactics2
import Derived.Defers
import Derived.Recover
import Derived.Laws.Pointers
import Derived.Maps.RangeWalk
import Derived.Maps.OwnSet
namespace Go.Proofs.YtkeikfekkdplgaaGreatDoor
section
open Go Go.RowKit
open Go.Proofs.Tryz
theorem zl{P:Prop}(h:P:=by exact⟨_,List.getElem?_eq_getElem (by have:=HN.out;omega)⟩):P:=h
set_option maxRecDepth 100000
set_option maxHeartbeats 8000000
structure Ob (g:Nat) (w w':World):Prop where
 os:w'.os=w.os
 tape:w'.tape=w.tape
 output:w'.output=w.output
 size:w.heap.size<=w'.heap.size
 block:∀k,k<w.heap.size->k≠g->w'.heap[k]? =w.heap[k]?
 gr:Gr w w'
theorem Ob.trans{g:Nat}{a b c:World}(x:Ob g a b)(y:Ob g b c):Ob g a c:=
 ⟨y.os.trans x.os,y.tape.trans x.tape,y.output.trans x.output,jQ x.size y.size,λk hk hg=>(y.block k (Nat.lt_of_lt_of_le hk x.size) hg).trans (x.block k hk hg),x.gr.trans y.gr⟩
theorem Ob.of{g:Nat}{a b:World}(e:Ext a b):Ob g a b:=⟨e.os,e.tape,e.output,e.size,λk hk _=>e.block k hk,e.gr⟩
theorem Ob.only{g:Nat}{a b:World}(e:OnlyB g a b):Ob g a b:=⟨e.os,e.tape,e.output,by rw[e.size];exact jP _,λk _ hg=>e.block k hg,e.gr⟩
theorem Ob.ext{g:Nat}{w0 w w':World}(h:Ob g w w')(e:Ext w0 w)(hg:w0.heap.size<=g):Ext w0 w':=
 ⟨h.os.trans e.os,h.tape.trans e.tape,h.output.trans e.output,jQ e.size h.size,λk hk=>(h.block k (Nat.lt_of_lt_of_le hk e.size) (by omega)).trans (e.block k hk)⟩
theorem Ob.bk{g g':Nat}{w w':World}{vs:List Value}(h:Ob g w w')(B:Bk w g' vs)(hg:g'≠g):Bk w' g' vs:=by
 have hb:=h.block g' B.lt hg;exact⟨λj v hj=>(World.cell?_of_block (w:=w) (a:=⟨g',j,none⟩) hb).trans (B.c j v hj),λj=>(World.frozen?_of_block (w:=w) (a:=⟨g',j,none⟩) hb).trans (B.f j),Nat.lt_of_lt_of_le B.lt h.size⟩
theorem Ob.bo{g g' i n c:Nat}{s:Bool}{a:Option Addr}{w w':World}(h:Ob g w w')(B:Bo w g' i s a n c)(hg:g'≠g):Bo w' g' i s a n c:=by
 have hb:=h.block g' B.lt hg;exact⟨(World.cell?_of_block (w:=w) (a:=⟨g',_,none⟩) hb).trans B.c0,(World.cell?_of_block (w:=w) (a:=⟨g',_,none⟩) hb).trans B.c1,(World.frozen?_of_block (w:=w) (a:=⟨g',_,none⟩) hb).trans B.f0,(World.frozen?_of_block (w:=w) (a:=⟨g',_,none⟩) hb).trans B.f1⟩
def S6(k:Nat)(lo hi:Int)(g:Nat)(w:World):Prop:=∃s a n c s' a' n' c',Bk w g [.bool s,.slice a n c,.bool s',.slice a' n' c',.bool false]/\IsI k lo (.agg #[.bool s,.slice a n c]) w/\IsI k hi (.agg #[.bool s',.slice a' n' c']) w
def K6(k:Nat)(lo m hi:Int)(g:Nat)(w:World):Prop:=S6 k lo hi g w\/S6 k m hi g w
theorem S6.ext{k:Nat}{lo hi:Int}{g:Nat}{w w':World}(h:S6 k lo hi g w)(e:Ext w w'):S6 k lo hi g w':=by
 obtain⟨s,a,n,c,s',a',n',c',B,h1,h2⟩:=h;exact⟨s,a,n,c,s',a',n',c',B.ext e,h1.ext e,h2.ext e⟩
theorem S6.ob{k:Nat}{lo hi:Int}{g g':Nat}{w w':World}(h:S6 k lo hi g w)(e:Ob g' w w')(hg:g≠g'):S6 k lo hi g w':=by
 obtain⟨s,a,n,c,s',a',n',c',B,h1,h2⟩:=h;exact⟨s,a,n,c,s',a',n',c',e.bk B hg,IsI.gstb _ _ _ _ _ e.gr h1,IsI.gstb _ _ _ _ _ e.gr h2⟩
structure R6 (k:Nat) (lo m hi:Int) (g:Nat) (w w':World):Prop where
 ob:Ob g w w'
 k6:K6 k lo m hi g w->K6 k lo m hi g w'
 s6:S6 k m hi g w->S6 k m hi g w'
theorem R6.trans{k:Nat}{lo m hi:Int}{g:Nat}{a b c:World}(x:R6 k lo m hi g a b)(y:R6 k lo m hi g b c):R6 k lo m hi g a c:=⟨x.ob.trans y.ob,λh=>y.k6 (x.k6 h),λh=>y.s6 (x.s6 h)⟩
theorem R6.of{k:Nat}{lo m hi:Int}{g:Nat}{a b:World}(e:Ext a b):R6 k lo m hi g a b:=⟨Ob.of e,λh=>h.imp (λx=>x.ext e) (λx=>x.ext e),λh=>h.ext e⟩
theorem S6.put{k:Nat}{lo hi m:Int}{g:Nat}{w:World}(h:S6 k lo hi g w){s:Bool}{a:Option Addr}{n c:Nat}(hv:IsI k m (.agg #[.bool s,.slice a n c]) w):
  Ob g w ((w.setCell ⟨g,0,none⟩ (.bool s)).setCell ⟨g,1,none⟩ (.slice a n c))/\S6 k m hi g ((w.setCell ⟨g,0,none⟩ (.bool s)).setCell ⟨g,1,none⟩ (.slice a n c)):=by
 obtain⟨s0,a0,n0,c0,s',a',n',c',B,_,hh⟩:=h;obtain⟨O1,B1⟩:=B.setO 0 (by simp) (.bool s) (NoWord.bool _);obtain⟨O2,B2⟩:=B1.setO 1 (by simp) (.slice a n c) (NoWord.slice _ _ _);have O:=(Ob.only O1).trans (Ob.only O2);exact⟨O,s,a,n,c,s',a',n',c',B2,IsI.gstb _ _ _ _ _ O.gr hv,IsI.gstb _ _ _ _ _ O.gr hh⟩
theorem S6.putH{k:Nat}{lo hi m:Int}{g:Nat}{w:World}(h:S6 k lo hi g w){s:Bool}{a:Option Addr}{n c:Nat}(hv:IsI k m (.agg #[.bool s,.slice a n c]) w):
  Ob g w ((w.setCell ⟨g,2,none⟩ (.bool s)).setCell ⟨g,3,none⟩ (.slice a n c))/\S6 k lo m g ((w.setCell ⟨g,2,none⟩ (.bool s)).setCell ⟨g,3,none⟩ (.slice a n c)):=by
 obtain⟨s0,a0,n0,c0,s',a',n',c',B,hh,_⟩:=h;obtain⟨O1,B1⟩:=B.setO 2 (by simp) (.bool s) (NoWord.bool _);obtain⟨O2,B2⟩:=B1.setO 3 (by simp) (.slice a n c) (NoWord.slice _ _ _);have O:=(Ob.only O1).trans (Ob.only O2);exact⟨O,s0,a0,n0,c0,s,a,n,c,B2,IsI.gstb _ _ _ _ _ O.gr hh,IsI.gstb _ _ _ _ _ O.gr hv⟩
def IsOr(k:Nat)(lo m:Int):Value->World->Prop:=λx w=>IsI k lo x w\/IsI k m x w
section
variable {P:Program} {ops:Array Oper} {Q:Exit->Act->World->Prop} {R:World->World->Prop} {ds:List (Option Tmp)} {a0:Act} {w0:World} {L:List (Value->World->Prop)} {boxes:List Nat} {i k:Nat} {o:Oper} {os:List Oper}
theorem RgLx.ofOk(hRe:∀ {a b},Ext a b->R a b)(h:∀w,R w0 w->Ok P ops Q ds a0 w L [] i o)(hg:o.guard=none:=by rfl):RgLx P ops Q R ds a0 w0 L i o:=
 RgLx.mk hg λv a w hR hd hf K hK=>(h w hR).out v a w (Ext.refl w) hd hf K (by intro x w' e hL _;exact hK.out x w' (hRe e) hL)
theorem Rx6{k:Nat}{lo m hi:Int}{g q:Nat}{os:List Oper}(h:∀w,R6 k lo m hi g w0 w->Ok P ops Q ds a0 w L [] i o)(hs:RgAllx P ops Q (R6 k lo m hi g) ds a0 w0 L (i+1) q os)(hg:o.guard=none:=by rfl):RgAllx P ops Q (R6 k lo m hi g) ds a0 w0 L i (q+1) (o ::os):=
 RgAllx.cons (RgLx.ofOk R6.of h hg) hs
theorem ldOr{kz g T:Nat}{lo m hi:Int}{x:Operand}(h:K6 kz lo m hi g w0)(hT:LdI P T)(hx:Od ops ds a0 w0 L i x (IsP g 0))(ho:o.op=.load T x:=by rfl)
  (hL:L.getD i (λ_ _=>True)=IsOr kz lo m:=by kernel_rfl) (hb:boxes.contains i=false:=by kernel_rfl):Ok P ops Q ds a0 w0 L boxes i o:=by
 rcases h with⟨s,a,n,c,s',a',n',c',B,h1,h2⟩| ⟨s,a,n,c,s',a',n',c',B,h1,h2⟩
 ·exact lv _ (λw e=>hT w g 0 s a n c ((B.ext e).c 0 _ rfl) ((B.ext e).c 1 _ rfl)) hx (λw e=> .inl (h1.ext e)) ho hL hb
 ·exact lv _ (λw e=>hT w g 0 s a n c ((B.ext e).c 0 _ rfl) ((B.ext e).c 1 _ rfl)) hx (λw e=> .inr (h1.ext e)) ho hL hb
theorem ldHi{kz g T:Nat}{lo m hi:Int}{x:Operand}(h:K6 kz lo m hi g w0)(hT:LdI P T)(hx:Od ops ds a0 w0 L i x (IsP g 2))(ho:o.op=.load T x:=by rfl)
  (hL:L.getD i (λ_ _=>True)=IsI kz hi:=by kernel_rfl) (hb:boxes.contains i=false:=by kernel_rfl):Ok P ops Q ds a0 w0 L boxes i o:=by
 rcases h with⟨s,a,n,c,s',a',n',c',B,h1,h2⟩| ⟨s,a,n,c,s',a',n',c',B,h1,h2⟩
 ·exact lv _ (λw e=>hT w g 2 s' a' n' c' ((B.ext e).c 2 _ rfl) ((B.ext e).c 3 _ rfl)) hx (λw e=>h2.ext e) ho hL hb
 ·exact lv _ (λw e=>hT w g 2 s' a' n' c' ((B.ext e).c 2 _ rfl) ((B.ext e).c 3 _ rfl)) hx (λw e=>h2.ext e) ho hL hb
theorem st6{kz g q T:Nat}{lo m hi:Int}{x y:Operand}{os:List Oper}(hk:K6 kz lo m hi g w0)(hT:StI P T)(hx:∀w,Od ops ds a0 w L i x (IsP g 0))(hy:∀w,Od ops ds a0 w L i y (IsI kz m))(hs:RgAllx P ops Q (R6 kz lo m hi g) ds a0 w0 L (i+1) q os)(ho:o.op=.store T x y:=by rfl)
  (hL:L.getD i (λ_ _=>True)=(λ_ w=>S6 kz m hi g w):=by kernel_rfl) (hg:o.guard=none:=by rfl):RgAllx P ops Q (R6 kz lo m hi g) ds a0 w0 L i (q+1) (o ::os):=by
 refine RgAllx.cons (RgLx.mk hg λv a w hR hdd hf K hK=>?_) hs;have h1:a.eval x=_:=(hx w).out v a w (Ext.refl w) hdd hf;obtain⟨s,b,n,c,e,hI⟩:=(hy w).out v a w (Ext.refl w) hdd hf
 have key:∃s0 a0 n0 c0 s' a' n' c',Bk w g [.bool s0,.slice a0 n0 c0,.bool s',.slice a' n' c',.bool false]:=by
  rcases hR.k6 hk with⟨s0,a0,n0,c0,s',a',n',c',B,_⟩| ⟨s0,a0,n0,c0,s',a',n',c',B,_⟩
  ·exact⟨_,_,_,_,_,_,_,_,B⟩
  ·exact⟨_,_,_,_,_,_,_,_,B⟩
 obtain⟨s0,a0',n0,c0,s',a',n',c',B⟩:=key
 have hput:Ob g w ((w.setCell ⟨g,0,none⟩ (.bool s)).setCell ⟨g,1,none⟩ (.slice b n c))/\S6 kz m hi g ((w.setCell ⟨g,0,none⟩ (.bool s)).setCell ⟨g,1,none⟩ (.slice b n c)):=by
  rcases hR.k6 hk with h|h
  ·exact h.put ⟨_,_,_,_,rfl,hI⟩
  ·exact h.put ⟨_,_,_,_,rfl,hI⟩
 refine st_wp ho h1 e (hT w g 0 s0 a0' n0 c0 s b n c (B.c 0 _ rfl) (B.c 1 _ rfl) (B.f 0) (B.f 1)) ?_;exact hK.out undef _ ⟨hput.1,λ_=> .inr hput.2,λ_=>hput.2⟩ (by rw[hL];exact hput.2)
end
def OpP(w:World)(r:Res Kn):Ending->World->Prop:=λe w'=>Ext w w'/\match r with
 | .ok q=>∃v,e=.returned v/\IsK 128 q v w'
 | .error n=>e=.panicked (pan n)
theorem bitLen_ltN{m N:Nat}(h:bitLen m<=N):m<2^N:=by
 unfold bitLen at h
 split at h
 ·subst m;exact Nat.two_pow_pos _
 ·rename_i h0
  exact Nat.lt_of_lt_of_le ((Nat.log2_lt h0).1 (Nat.lt_succ_self _)) (Nat.pow_le_pow_right dcx h)
theorem bitLen_lt{m:Nat}(h:bitLen m<=4096):m<4294967296^128:=by
 obtain⟨N,hN⟩:∃N,N=32*128:=⟨_,rfl⟩;have h2:=bitLen_ltN (m:=m) (N:=N) (by omega);have e:∀n:Nat,(4294967296:Nat)^n=2^(32*n):=λn=>by rw[Nat.pow_mul]
 rw[e,<-hN];exact h2
theorem short_f{k:Nat}{lo hi:Int}{f:Bool}{x:Value}{w:World}(hx:IsKn k lo hi f x w)(HK:k<=268435456):Calls prog 139 #[x] w (OpP w (xU ⟨lo,hi,f⟩)):=by
 by_cases hb:4096<max (bitLen lo.natAbs) (bitLen hi.natAbs)
 ·rw[xU,if_pos hb];refine jJ (short_n hx (hid HK) (hid rfl) (hid rfl) (hid rfl) (hid ?_)) λe w' h=>⟨h.2,h.1⟩
  split <;> omega
 ·rw[xU,if_neg hb];refine jJ (short_y hx (hid HK) (hid rfl) (hid rfl) (hid rfl) (hid ?_)) λe w' h=>?_
  ·split <;> omega
  ·obtain⟨v,rfl,e,h⟩:=h;exact⟨e,v,rfl,h.tight (bitLen_lt (by omega)) (bitLen_lt (by omega))⟩
theorem wp_call1{P:Program}{Q:Exit->Act->World->Prop}{o:Oper}{f:FuncId}{c:Call}{x:Operand}{u1:Value}{a:Act}{w:World}{K:Act->World->Prop}{R:Ending->World->Prop}(he:∀args w,(callFunc f args).run P w=.ok (.enter f args) w)(hx:a.eval x=u1)
  (h:Calls P f #[u1] w R) (h1:∀v w',R (.returned v) w'->K (a.put o.dst v) w') (h2:∀ch w',R (.panicked ch) w'->Q (.panic ch) a w') (h3:∀w',¬R .outgrown w')
  (ho:o.op=.call c:=by rfl) (hc:c.callee=.value (.func f):=by rfl) (ha:c.args= #[x]:=by rfl):Oper.wp P o a w K Q:=by
 have hr:(execOp a.eval o).run P w=.ok (.enter f (c.args.map a.eval)) w:=by
  unfold execOp;rw[ho];dsimp only;unfold resolve;rw[hc];simp[invoke,he,Deferred.ofValue,show a.eval (.func f)=.func (.func f) #[] #[]from rfl]
 unfold Oper.wp;rw[hr,Oper.upon_enter,ha,show(#[x]:Array Operand).map a.eval= #[a.eval x]by simp,hx];refine jJ h ?_;intro e w2 hR;cases e with
 |returned v=>exact h1 v w2 hR
 |panicked ch=>exact h2 ch w2 hR
 |outgrown=>exact absurd hR (h3 w2)
def IsLi(B0 K:Nat)(zs:List Int):Value->World->Prop:=λx w=>∃g,x=.slice (some ⟨g,0,none⟩) zs.length zs.length/\B0<=g/\
 ∀j z,zs[j]? =some z->∃s a n c,Bo w g j s a n c/\IsI K z (.agg #[.bool s,.slice a n c]) w
theorem IsLi.stb(B0 K:Nat)(zs:List Int):Stb (IsLi B0 K zs):=λ_ _ _ e ⟨g,h1,h2,h3⟩=>⟨g,h1,h2,λj z hj=>let ⟨s,a,n,c,b,k⟩:=h3 j z hj;⟨s,a,n,c,b.ext e,k.ext e⟩⟩
instance (B0 K:Nat) (zs:List Int):StbC (IsLi B0 K zs):=⟨IsLi.stb B0 K zs⟩
section
variable {ops:Array Oper} {Q:Exit->Act->World->Prop} {ds:List (Option Tmp)} {a0:Act} {w0:World} {L:List (Value->World->Prop)} {boxes:List Nat} {i:Nat} {o:Oper}
theorem Bo.newI(w:World)(cs:Array Value)(T:TypeId)(i:Nat)(s:Bool)(a:Option Addr)(n c:Nat)(h0:cs[2*i]? =some (.bool s))(h1:cs[2*i+1]? =some (.slice a n c)):Bo (w.alloc (.cells cs T)) w.heap.size i s a n c:=⟨by simp[h0],by simp[h1],by simp,by simp⟩
set_option maxRecDepth 100000
theorem bI3{x1 x2 x3:Operand}{B0 K k1 k2 k3:Nat}{z1 z2 z3:Int}(hx1:Od ops ds a0 w0 L i x1 (IsI k1 z1))(hx2:Od ops ds a0 w0 L i x2 (IsI k2 z2))(hx3:Od ops ds a0 w0 L i x3 (IsI k3 z3))(l1:k1<=K)(l2:k2<=K)(l3:k3<=K)(hB:B0<=w0.heap.size)
  (ho:o.op=.buildSlice 69 3 #[(0,x1),(1,x2),(2,x3)]:=by rfl) (hi:L.getD i (λ_ _=>True)=IsLi B0 K [z1,z2,z3]:=by kernel_rfl) (hb:boxes.contains i=false:=by kernel_rfl):Ok prog ops Q ds a0 w0 L boxes i o:=
 ⟨fun v a w hE hd hf K' hK=>by
  obtain⟨s1,a1,n1,c1,q1,h1⟩:=hx1.out v a w hE hd hf;obtain⟨s2,a2,n2,c2,q2,h2⟩:=hx2.out v a w hE hd hf;obtain⟨s3,a3,n3,c3,q3,h3⟩:=hx3.out v a w hE hd hf;have hr:(Instr.buildSlice 69 3 #[(0,.agg #[.bool s1,.slice a1 n1 c1]),(1,.agg #[.bool s2,.slice a2 n2 c2]),(2,.agg #[.bool s3,.slice a3 n3 c3])]).run prog w=.ok (.slice (some ⟨w.heap.size,0,none⟩) 3 3) (w.alloc (.cells #[.bool s1,.slice a1 n1 c1,.bool s2,.slice a2 n2 c2,.bool s3,.slice a3 n3 c3] 28)):=ja
  have hrun:(execOp a.eval o).run prog w=.ok (.value (.slice (some ⟨w.heap.size,0,none⟩) 3 3)) (w.alloc (.cells #[.bool s1,.slice a1 n1 c1,.bool s2,.slice a2 n2 c2,.bool s3,.slice a3 n3 c3] 28)):=by
   unfold execOp;rw[ho];dsimp only;simp only[List.map_toArray,List.map_cons,List.map_nil];rw[q1,q2,q3];simp[hr]
  unfold Oper.wp;rw[hrun];have e9:Ext w (w.alloc (.cells #[.bool s1,.slice a1 n1 c1,.bool s2,.slice a2 n2 c2,.bool s3,.slice a3 n3 c3] 28)):=(Ext.refl _).alloc _;refine hK.out _ _ e9 ?_ (FreshIf.no hb);rw[hi];refine⟨_,rfl,jQ hB hE.size,λj q hq=>?_⟩;rcases j with _|_|_|j
  ·obtain rfl:z1=q:=by simpa using hq
   exact⟨_,_,_,_,Bo.newI _ _ _ _ _ _ _ _ rfl rfl,(IsI.ext ⟨_,_,_,_,rfl,h1.mono l1⟩ e9)⟩
  ·obtain rfl:z2=q:=by simpa using hq
   exact⟨_,_,_,_,Bo.newI _ _ _ _ _ _ _ _ rfl rfl,(IsI.ext ⟨_,_,_,_,rfl,h2.mono l2⟩ e9)⟩
  ·obtain rfl:z3=q:=by simpa using hq
   exact⟨_,_,_,_,Bo.newI _ _ _ _ _ _ _ _ rfl rfl,(IsI.ext ⟨_,_,_,_,rfl,h3.mono l3⟩ e9)⟩
  ·simp at hq⟩
theorem ldIX{g q T:Nat}{x:Operand}{fP:Value->World->Prop}(h:∀w,Ext w0 w->∃s a n c,Bo w g q s a n c/\fP (.agg #[.bool s,.slice a n c]) w)
  (hx:Od ops ds a0 w0 L i x (IsP g (2*q))) (hT:LdI prog T) (ho:o.op=.load T x:=by rfl) (hi:L.getD i (λ_ _=>True)=fP:=by kernel_rfl) (hb:boxes.contains i=false:=by kernel_rfl):Ok prog ops Q ds a0 w0 L boxes i o:=
 Ok.of hb λv a w hE hd hf=>by
  have h0:a.eval x=_:=hx.out v a w hE hd hf;obtain⟨s,a1,n,c,b,k1⟩:=h w hE;exact⟨_,ld_run ho h0 (hT w g (2*q) _ _ _ _ b.c0 b.c1),by rw[hi];exact k1⟩
theorem lenLi{B0 K:Nat}{zs:List Int}{x:Operand}(hx:Od ops ds a0 w0 L i x (IsLi B0 K zs))(ho:o.op=.call {callee:=.builtin .len,args:= #[x],argTypes:= #[69]} :=by rfl)(hi:L.getD i (λ_ _=>True)=iV ((zs.length:Nat):Int):=by kernel_rfl)(hb:boxes.contains i=false:=by kernel_rfl):Ok prog ops Q ds a0 w0 L boxes i o:=
 Ok.of hb λv a w hE hd hf=>by
  obtain⟨g,h1,_⟩:=hx.out v a w hE hd hf;refine⟨_,?_,by rw[hi];exact rfl⟩;unfold execOp;rw[ho];dsimp only;unfold resolve;simp only[List.map_toArray,List.map_cons,List.map_nil,h1]
  go_simp
theorem ix_Int(g n c j:Nat)(h:j<n)(w:World):(Instr.indexAt 69 (.slice (some ⟨g,0,none⟩) n c) (.int .i64 (j:Int))).run prog w=.ok (.pointer (some ⟨g,2*j,none⟩)) w:=by
 have h1:(0:Int)<=(j:Int):=by omega
 have h2:(j:Int)<(n:Int):=by omega
 have h3:0+j*2=2*j:=by omega
 have h4:j*2=2*j:=by omega
 go_simp
end
structure LIv (w W:World) (g6 gz k:Nat) (lo hi:Int) (zs:List Int):Prop where
 E:Ext w W
 b3:Bk W (w.heap.size+2) [.bool false,.slice none 0 0,.bool false,.slice none 0 0,.bool false]
 s6:S6 k lo hi g6 W
 zs:∀j z,zs[j]? =some z->∃s a n c,Bo W gz j s a n c/\IsI k z (.agg #[.bool s,.slice a n c]) W
 p6:w.heap.size+3<=g6
 ne:gz≠g6
 sz:w.heap.size+3<=W.heap.size/\g6<W.heap.size/\gz<W.heap.size
theorem LIv.ext{w W W':World}{g6 gz k:Nat}{lo hi:Int}{zs:List Int}(S:LIv w W g6 gz k lo hi zs)(e:Ext W W'):LIv w W' g6 gz k lo hi zs:=
 ⟨S.E.trans e,S.b3.ext e,S.s6.ext e,λj z h=>let ⟨s,a,n,c,b,q⟩:=S.zs j z h;⟨s,a,n,c,b.ext e,q.ext e⟩,S.p6,S.ne,by have:=S.sz;have:=e.size;omega⟩
theorem LIv.only{w W W':World}{g6 gz k g8:Nat}{lo hi:Int}{zs:List Int}(S:LIv w W g6 gz k lo hi zs)(O:OnlyB g8 W W')(h1:w.heap.size+3<=g8)(h2:g8≠g6)(h3:gz≠g8):LIv w W' g6 gz k lo hi zs:=
 ⟨O.ext S.E (by omega),O.bk S.b3 (by omega),S.s6.ob (Ob.only O) (Ne.symm h2),λj z h=>let ⟨s,a,n,c,b,q⟩:=S.zs j z h;⟨s,a,n,c,(Ob.only O).bo b h3,IsI.gstb _ _ _ _ _ O.gr q⟩,S.p6,S.ne,by have:=S.sz;rw[O.size];omega⟩
theorem LIv.ob{w W W':World}{g6 gz k:Nat}{lo hi lo' hi':Int}{zs:List Int}(S:LIv w W g6 gz k lo hi zs)(O:Ob g6 W W')(h:S6 k lo' hi' g6 W'):LIv w W' g6 gz k lo' hi' zs:=
 ⟨O.ext S.E (by have:=S.p6;omega),O.bk S.b3 (by have:=S.p6;omega),h,λj z h=>let ⟨s,a,n,c,b,q⟩:=S.zs j z h;⟨s,a,n,c,O.bo b S.ne,IsI.gstb _ _ _ _ _ O.gr q⟩,S.p6,S.ne,by have:=S.sz;have:=O.size;omega⟩
theorem al_In(w:World):(Instr.alloc 28 true (.tuple #[])).run prog w=.ok (.pointer (some ⟨w.heap.size,0,none⟩)) (w.alloc (.cells [.bool false,.slice none 0 0].toArray 28)):=by go_simp
theorem opM_f{k:Nat}{l1 u1 l2 u2:Int}{f1 f2:Bool}{x y:Value}{w:World}(hx:IsKn k l1 u1 f1 x w)(hy:IsKn k l2 u2 f2 y w)(HK:Hid (k<=1000)):Calls prog 143 #[x,y] w (OpP w (xU (mul4 ⟨l1,u1,f1⟩ ⟨l2,u2,f2⟩))):=by
 obtain⟨s1,a1,n1,c1,s2,a2,n2,c2,rfl,h1,h2⟩:=hx;obtain⟨s3,a3,n3,c3,s4,a4,n4,c4,rfl,h3,h4⟩:=hy
 obtain⟨W,hW,E,B1,B2,B3⟩:∃W,W=((w.alloc (.cells #[.bool s1,.slice a1 n1 c1,.bool s2,.slice a2 n2 c2,.bool f1] 176)).alloc (.cells #[.bool s3,.slice a3 n3 c3,.bool s4,.slice a4 n4 c4,.bool f2] 176)).alloc (.cells #[.bool false,.slice none 0 0,.bool false,.slice none 0 0,.bool false] 176)/\Ext w W/\Bk W w.heap.size [.bool s1,.slice a1 n1 c1,.bool s2,.slice a2 n2 c2,.bool f1]/\Bk W (w.heap.size+1) [.bool s3,.slice a3 n3 c3,.bool s4,.slice a4 n4 c4,.bool f2]/\Bk W (w.heap.size+2) [.bool false,.slice none 0 0,.bool false,.slice none 0 0,.bool false]:=
  ⟨_,rfl,(((Ext.refl w).alloc _).alloc _).alloc _,(Bk.new w _ _).ext (((Ext.refl _).alloc _).alloc _),(Bk.newE _ _ (by simp) _ _).ext ((Ext.refl _).alloc _),Bk.newE _ _ (by simp) _ _⟩
 replace h1:=h1.ext E;replace h2:=h2.ext E;replace h3:=h3.ext E;replace h4:=h4.ext E;go_enter func143,ntmps143;go_upto_region 1 with fail;rw[<-hW];clear hW;have hs0:=B3.lt;refine rgs 6 [some 9,some 10,some 11,some 12,some 13,some 5] [IsP (w.heap.size) 0,IsI k l1,IsP (w.heap.size+1) 0,IsI k l2,IsI (k+k) (l1*l2),IsNb W.heap.size [.bool false,.slice none 0 0]] [] ?_ ?_
 ·refine Rc zp ?_;refine Rc (lvI 0 B1 h1 qF (qA 0 9)) ?_;refine Rc zj ?_;refine Rc (lvI 0 B2 h3 qF (qA 2 11)) ?_;refine Rc (cl2 (en func129) (qA (fP:=IsI k l1) 1 10) (qA (fP:=IsI k l2) 3 12) (λx0 x1 w' hE d0 d1=>Mul_f d0 d1 zc zc)) ?_;refine Rc (alB al_In (jP _)) ?_;exact rn0
 intro v W1 e1 hZ _;replace E:=E.trans e1;replace B1:=B1.ext e1;replace B2:=B2.ext e1;replace B3:=B3.ext e1;replace h1:=h1.ext e1;replace h2:=h2.ext e1;replace h3:=h3.ext e1;replace h4:=h4.ext e1;obtain⟨s5,a5,n5,c5,hv4,hp⟩:=hZ 4 dcx;obtain⟨g5,hv5,hg5,B5⟩:=hZ 5 dcx;replace hp:IsI (k+k) (l1*l2) (.agg #[.bool s5,.slice a5 n5 c5]) W1:=⟨_,_,_,_,rfl,hp⟩;simp only[lxE,Nat.reduceAdd];rw[hv4,hv5];clear hv4 hv5 hZ e1;refine stL (λK hK=>?_);refine qZ (us:= [.bool s5,.slice a5 n5 c5]) B5 st_In rfl rfl nw2 (λW1a B5' O=>hK _ _ ?_);clear B5;have B5:=B5';clear B5';replace E:=O.ext E (by omega);replace B1:=O.bk B1 (by omega);replace B2:=O.bk B2 (by omega);replace B3:=O.bk B3 (by omega);replace h1:=IsI.gstb _ _ _ _ _ O.gr h1;replace h2:=IsI.gstb _ _ _ _ _ O.gr h2;replace h3:=IsI.gstb _ _ _ _ _ O.gr h3;replace h4:=IsI.gstb _ _ _ _ _ O.gr h4;replace hp:=IsI.gstb _ _ _ _ _ O.gr hp;clear O hK K;refine jL ?_;have hs1:=B5.lt;go_upto_region 2 with fail;refine rgs 4 [some 14,some 15,some 16,some 6] [IsI (k+k) (l1*l2),IsI (k+k) (l1*l2),IsKn (k+k) (l1*l2) (l1*l2) false,IsNb W1a.heap.size [.bool false,.slice none 0 0,.bool false,.slice none 0 0,.bool false]] [] ?_ ?_
 ·refine Rc (lvI 0 B5 hp qF (qB 5)) ?_;refine Rc (lvI 0 B5 hp qF (qB 5)) ?_;refine Rc (bkn (qC 0 14) (qC 1 15) bd_Kn) ?_;refine Rc (alB al_Kn (jP _)) ?_;exact rn0
 intro v W2 e1 hZ _;replace E:=E.trans e1;replace B1:=B1.ext e1;replace B2:=B2.ext e1;replace B3:=B3.ext e1;replace h1:=h1.ext e1;replace h2:=h2.ext e1;replace h3:=h3.ext e1;replace h4:=h4.ext e1;obtain⟨s6,a6,n6,c6,s7,a7,n7,c7,hv2,hp1,hp2⟩:=hZ 2 dcx;obtain⟨g6,hv3,hg6,B6⟩:=hZ 3 dcx;simp only[lxE,Nat.reduceAdd];rw[hv2,hv3];clear hv2 hv3 hZ e1 hp B5;refine stL (λK hK=>?_);refine qZ (us:= [.bool s6,.slice a6 n6 c6,.bool s7,.slice a7 n7 c7,.bool false]) B6 xP rfl rfl nw5 (λW2a B6' O=>hK _ _ ?_);replace E:=O.ext E (by omega);replace B1:=O.bk B1 (by omega);replace B2:=O.bk B2 (by omega);replace B3:=O.bk B3 (by omega);replace h1:=IsI.gstb _ _ _ _ _ O.gr h1;replace h2:=IsI.gstb _ _ _ _ _ O.gr h2;replace h3:=IsI.gstb _ _ _ _ _ O.gr h3;replace h4:=IsI.gstb _ _ _ _ _ O.gr h4;have S:S6 (k+k) (l1*l2) (l1*l2) g6 W2a:=⟨_,_,_,_,_,_,_,_,B6',IsI.gstb _ _ _ _ _ O.gr hp1,IsI.gstb _ _ _ _ _ O.gr hp2⟩;have hs2:=B6'.lt;have hg6':w.heap.size+3<=g6:=by omega
 clear O hK K B6 B6' hp1 hp2;refine jL ?_;go_upto_region 3 with fail;refine rg 18 (dR 17 18) [IsP (w.heap.size) 0,IsI k l1,IsP (w.heap.size+1) 2,IsI k u2,IsI (k+k) (l1*u2),IsP (w.heap.size) 2,IsI k u1,IsP (w.heap.size+1) 0,IsI k l2,IsI (k+k) (u1*l2),IsP (w.heap.size) 2,IsI k u1,IsP (w.heap.size+1) 2,IsI k u2,IsI (k+k) (u1*u2),IsLi W2a.heap.size (k+k) [l1*u2,u1*l2,u1*u2],iV 3,iV 0] [] 0 ?_ ?_
 ·refine Rc zp ?_;refine Rc (lvI 0 B1 h1 qF (qA 0 17)) ?_;refine Rc zk ?_;refine Rc (lvI 2 B2 h4 qF (qA 2 19)) ?_;refine Rc (cl2 (en func129) (qA (fP:=IsI k l1) 1 18) (qA (fP:=IsI k u2) 3 20) (λx0 x1 w' hE d0 d1=>Mul_f d0 d1 zc zc)) ?_;refine Rc zq ?_;refine Rc (lvI 2 B1 h2 qF (qA 5 22)) ?_;refine Rc zj ?_;refine Rc (lvI 0 B2 h3 qF (qA 7 24)) ?_;refine Rc (cl2 (en func129) (qA (fP:=IsI k u1) 6 23) (qA (fP:=IsI k l2) 8 25) (λx0 x1 w' hE d0 d1=>Mul_f d0 d1 zc zc)) ?_;refine Rc zq ?_;refine Rc (lvI 2 B1 h2 qF (qA 10 27)) ?_;refine Rc zk ?_;refine Rc (lvI 2 B2 h4 qF (qA 12 29)) ?_;refine Rc (cl2 (en func129) (qA (fP:=IsI k u1) 11 28) (qA (fP:=IsI k u2) 13 30) (λx0 x1 w' hE d0 d1=>Mul_f d0 d1 zc zc)) ?_;refine Rc (bI3 (K:=k+k) (qC 4 21) (qC 9 26) (qC 14 31) (jP _) (jP _) (jP _) (jP _)) ?_;refine Rc (lenLi (qA (fP:=IsLi W2a.heap.size (k+k) [l1*u2,u1*l2,u1*u2]) 15 32)) ?_;refine Rc (mv qE) ?_;exact rn0
 intro v W3 e1 hZ _;replace E:=E.trans e1;replace B3:=B3.ext e1;replace S:=S.ext e1;obtain⟨gz,hv15,hnw,hz⟩:=hZ 15 dcx;simp only[lxE,Nat.reduceAdd];rw[hv15,show v 16=.int .i64 3 from hZ 16 dcx,show v 17=.int .i64 0 from hZ 17 dcx];simp only[List.length_cons,List.length_nil,Nat.reduceAdd];have he1:=e1.size;clear hv15 hZ e1 B1 B2 h1 h2 h3 h4;refine jR za ?_ _;obtain⟨zs,hzs⟩:∃zs, [l1*u2,u1*l2,u1*u2]=zs:=⟨_,rfl⟩;have hzl:zs.length=3:=by rw[<-hzs];rfl
 have hgz:gz≠g6:=by{have:=hnw;omega}
 have hzt:gz<W3.heap.size:=by{obtain⟨s,a,n,c,b,_⟩:=hz 0 _ rfl;exact b.lt}
 rw[hzs]at hz;have L0:LIv w W3 g6 gz (k+k) (l1*l2) (l1*l2) zs:=⟨E,B3,S,hz,hg6',hgz,by omega⟩;have HMU:Hid (mul4 ⟨l1,u1,f1⟩ ⟨l2,u2,f2⟩=⟨zs.foldl min (l1*l2),zs.foldl max (l1*l2),false⟩):=hid (by rw[<-hzs];rfl);clear hz hzs hgz E B3 S hg6';generalize hp0:l1*l2=p0 at L0 HMU;clear hp0;go_wp2_with fail;have L0:=hid L0;have HZL:=hid hzl;clear hzl
 go_loopg [34] 4 (λgk v34 wr=>∃(j:Nat),v34=.int .i64 (j:Int)/\j+gk=4/\j<=3/\Hid (LIv w wr g6 gz (k+k) ((zs.take j).foldl min p0) ((zs.take j).foldl max p0) zs))
 case atStart=>exact⟨0,rfl,by omega,by omega,by simpa using L0⟩
 case round=>
  clear L0;obtain⟨j,rfl,hg,hj,S⟩:=hrel;have S:=S.out;have HG:=hid (jO hg hj);by_cases hlt:j<3
  ·obtain⟨z,hz⟩:∃z,zs[j]? =some z:=⟨_,List.getElem?_eq_getElem (by rw[HZL.out];exact hlt)⟩;have HZI:=hid hz;have HLT:=hid hlt;have HLI:=hid (show(j:Int)<3 by omega);have HI1:=hid (show IntKind.i64.wrap ((j:Int)+1)=(j:Int)+1 by simp only[IntKind.wrap_i64];omega);generalize hlo:(zs.take j).foldl min p0=lo at S;generalize hhi:(zs.take j).foldl max p0=hi at S;have HLO:=hid (jO hlo hhi);clear hz hg hj hlt hlo hhi;go_upto_region 4 with fail;refine rgs 1 [some 35] [IsV (.bool true)] [] ?_ ?_
   ·refine Rc (bn (r:=.bool true) (qB (x:=.int .i64 (j:Int)) 34) (qB (x:=.int .i64 3) 33) (hr:=λw=>by have hx9:=HLT.out;have hx8:=HLI.out;go_simp)) ?_;exact rn0
   intro v W4 e1 hZ _;replace S:=S.ext e1;simp only[lxE];rw[show v 0=.bool true from hZ 0 dcx];clear hZ e1;refine jL ?_;go_upto_region 5 with fail;refine rgs 3 [some 36,some 37,some 8] [IsP gz (2*j),IsI (k+k) z,IsNb W4.heap.size [.bool false,.slice none 0 0]] [] ?_ ?_
   ·refine Rc (ixq (ix_Int gz 3 3 j HLT.out) (qB 32) (qB (x:=.int .i64 (j:Int)) 34)) ?_;refine Rc (ldIX (λw' e=>let ⟨s,a,n,c,b,q⟩:=S.zs j z HZI.out;⟨s,a,n,c,b.ext e,q.ext e⟩) (qC 0 36) qF) ?_;refine Rc (alB al_In (jP _)) ?_;exact rn0
   have hsz:=S.sz;intro v W5 e1 hZ _;replace S:=S.ext e1;obtain⟨s8,a8,n8,c8,hv1,hz8⟩:=hZ 1 dcx;obtain⟨g8,hv2,hg8,B8⟩:=hZ 2 dcx;replace hz8:IsI (k+k) z (.agg #[.bool s8,.slice a8 n8 c8]) W5:=⟨_,_,_,_,rfl,hz8⟩;simp only[lxE,Nat.reduceAdd];rw[hv1,hv2];clear hv1 hv2 hZ e1;refine stL (λK hK=>?_);refine qZ (us:= [.bool s8,.slice a8 n8 c8]) B8 st_In rfl rfl nw2 (λW5a B8' O=>hK _ _ ?_);have ng8:g8≠g6:=by omega
   replace S:=S.only O (by omega) ng8 (by omega);replace hz8:=IsI.gstb _ _ _ _ _ O.gr hz8;clear B8;have B8:=B8';clear B8' O hK K;refine jL ?_;go_upto_region 6 with fail;have hk6:K6 (k+k) lo (min lo z) hi g6 W5a:=.inl S.s6;refine wp_region_rgx (R6 (k+k) lo (min lo z) hi g6) 11 [some 38,some 39,some 40,some 41,some 42,some 43,some 44,some 45,some 46,none,some 47] [IsP g6 0,IsOr (k+k) lo (min lo z),IsI (k+k) z,IsI (k+k) (min lo z),IsP g6 2,IsI (k+k) hi,IsI (k+k) z,IsI (k+k) (max hi z),IsP g6 0,(λ_ w=>S6 (k+k) (min lo z) hi g6 w),IsP g6 2] za za za za za za R6.trans R6.of ?_ ?_ ?_
   ·exact⟨λ_ _ _ _ h=>h,λ_ _ _ q h=>h.imp (IsI.gstb _ _ _ _ _ q.ob.gr) (IsI.gstb _ _ _ _ _ q.ob.gr),λ_ _ _ q h=>IsI.gstb _ _ _ _ _ q.ob.gr h,λ_ _ _ q h=>IsI.gstb _ _ _ _ _ q.ob.gr h,λ_ _ _ _ h=>h,λ_ _ _ q h=>IsI.gstb _ _ _ _ _ q.ob.gr h,λ_ _ _ q h=>IsI.gstb _ _ _ _ _ q.ob.gr h,λ_ _ _ q h=>IsI.gstb _ _ _ _ _ q.ob.gr h,λ_ _ _ _ h=>h,λ_ _ _ q h=>q.s6 h,λ_ _ _ _ h=>h,trivial⟩
   ·refine Rx6 (λw' q=>fa (qR g6 0) (qB 6)) ?_;refine Rx6 (λw' q=>ldOr (q.k6 hk6) qF (qA 0 38)) ?_;refine Rx6 (λw' q=>lvI 0 (q.ob.bk B8 ng8) (IsI.gstb _ _ _ _ _ q.ob.gr hz8) qF (qB 8)) ?_;refine Rx6 (λw' q=>cl2 (en func144) (qA (fP:=IsOr (k+k) lo (min lo z)) 1 39) (qA (fP:=IsI (k+k) z) 2 40) (λx0 x1 w' hE d0 d1=>d0.elim (λd0=>lessv_f d0 d1 zc) (λd0=>jJ (lessv_f d0 d1 zc) λ_ _ h=>h.iup (by omega) (jP _)))) ?_;refine Rx6 (λw' q=>fa (qQ g6 0) (qB 6)) ?_;refine Rx6 (λw' q=>ldHi (q.k6 hk6) qF (qA 4 42)) ?_;refine Rx6 (λw' q=>lvI 0 (q.ob.bk B8 ng8) (IsI.gstb _ _ _ _ _ q.ob.gr hz8) qF (qB 8)) ?_;refine Rx6 (λw' q=>cl2 (en func145) (qA (fP:=IsI (k+k) hi) 5 43) (qA (fP:=IsI (k+k) z) 6 44) (λx0 x1 w' hE d0 d1=>greaterv_f d0 d1 zc)) ?_;refine Rx6 (λw' q=>fa (qR g6 0) (qB 6)) ?_;refine st6 hk6 st_Int (λw'=>qA 8 46) (λw'=>qA 3 41) ?_;refine Rx6 (λw' q=>fa (qQ g6 0) (qB 6)) ?_;exact RgAllx.nil
   intro v W6 q hZ;have S9:S6 (k+k) (min lo z) hi g6 W6:=hZ 9 dcx;obtain⟨s7,a7,n7,c7,hv7,hm⟩:=hZ 7 dcx;replace hm:IsI (k+k) (max hi z) (.agg #[.bool s7,.slice a7 n7 c7]) W6:=⟨_,_,_,_,rfl,hm⟩;obtain⟨O9,S9'⟩:=S9.putH hm;replace S:=S.ob (q.ob.trans O9) S9';simp only[lxE,Nat.reduceAdd];rw[hv7,show v 10=.pointer (some ⟨g6,2,none⟩)from hZ 10 dcx];clear hv7 hZ q S9' O9;obtain⟨s0,a0',n0,c0,s',a',n',c',B9,_⟩:=S9;refine stA 11 (h:=λK hK=>?_);refine st_wp (p:=.pointer (some ⟨g6,2,none⟩)) (u:=.agg #[.bool s7,.slice a7 n7 c7]) rfl za za (st_Int W6 g6 2 s' a' n' c' s7 a7 n7 c7 (B9.c 2 _ rfl) (B9.c 3 _ rfl) (B9.f 2) (B9.f 3)) (hK _ _ ?_);generalize(W6.setCell ⟨g6,2,none⟩ (.bool s7)).setCell ⟨g6,3,none⟩ (.slice a7 n7 c7)=W6a at S ⊢;clear B9 hK K hm;refine jR za ?_ _;go_upto_region 7 with fail;refine rgs 1 [some 48] [iV ((j:Int)+1)] [] ?_ ?_
   ·refine Rc (bn (r:=.int .i64 ((j:Int)+1)) (qB (x:=.int .i64 (j:Int)) 34) qE (hr:=λw=>by have hx9:=HI1.out;go_simp)) ?_;exact rn0
   intro v W7 e1 hZ _;replace S:=S.ext e1;simp only[qW,Act.put,uAx];rw[show v 0=.int .i64 ((j:Int)+1)from hZ 0 dcx];clear hZ e1;refine jX λK hK=>?_;go_simp;refine hK _ _ ?_;clear hK K
   refine jL ?_;have S':=hid S;clear S B8 hz8 hk6;go_wp2_with fail
   go_roundg (gk-1)
   case measure=>have:=HG.out;have:=HLT.out;omega
   case rel=>
    refine⟨j+1,by rw[Int.natCast_add];rfl,by have:=HG.out;have:=HLT.out;omega,by have:=HLT.out;omega,?_⟩;have h1:=HLO.out;rw[List.take_add_one,HZI.out,Option.toList_some,List.foldl_append,List.foldl_append,h1.1,h1.2];exact S'
  ·obtain rfl:j=3:=by omega
   rw[show zs.take 3=zs by rw[<-HZL.out,List.take_length]]at S;clear hg hj hlt;go_upto_region 4 with fail;refine rgs 1 [some 35] [IsV (.bool false)] [] ?_ ?_
   ·refine Rc (bn (r:=.bool false) (qB (x:=.int .i64 ((3:Nat):Int)) 34) (qB (x:=.int .i64 3) 33) (hr:=λw=>by go_simp)) ?_;exact rn0
   intro v W4 e1 hZ _;replace S:=S.ext e1;simp only[lxE];rw[show v 0=.bool false from hZ 0 dcx];clear hZ e1;refine jL ?_;go_upto_region 8 with fail;obtain⟨E,B3,⟨s0,a0',n0,c0,s',a',n',c',B6,q1,q2⟩,_,_,_,_⟩:=S;refine rgs 1 [some 49] [IsV (.agg #[.bool s0,.slice a0' n0 c0,.bool s',.slice a' n' c',.bool false])] [] ?_ ?_
   ·refine Rc (lvV B6 ld_Kn (qB 6)) ?_;exact rn0
   intro v W8 e1 hZ _;replace E:=E.trans e1;replace B3:=B3.ext e1;replace q1:=q1.ext e1;replace q2:=q2.ext e1;simp only[lxE];rw[show v 0=_ from hZ 0 dcx];clear hZ e1 B6;have hQ:IsKn (k+k) (zs.foldl min p0) (zs.foldl max p0) false (.agg #[.bool s0,.slice a0' n0 c0,.bool s',.slice a' n' c',.bool false]) W8:=⟨_,_,_,_,_,_,_,_,rfl,q1,q2⟩;have hc:=short_f hQ zc;rw[<-HMU.out]at hc;obtain⟨r,hr⟩:∃r,xU (mul4 ⟨l1,u1,f1⟩ ⟨l2,u2,f2⟩)=r:=⟨_,rfl⟩;rw[hr]at hc;have HR:=hid hr;clear hr;refine stL (λK hK=>?_);refine wp_call1 (en func139) za hc (λv2 W8a h=>hK _ _ ?_) (λch W8a h=>?_) (λW8a h=>?_)
   ·obtain⟨e2,h⟩:=h;cases r with
    |error n=>cases h
    | ok q=>
     obtain⟨_,hv,s5,a5,n5,c5,s6,a6,n6,c6,hv2,g1,g2⟩:=h;cases hv;subst hv2;replace E:=E.trans e2;replace B3:=B3.ext e2;clear hK K
     go_simp
     refine stL (λK hK=>?_);refine stV (us:= [.bool s5,.slice a5 n5 c5,.bool s6,.slice a6 n6 c6,.bool q.fin]) B3 xP rfl rfl nw5 E (by omega) (λW8b B4 E2 G2 _ _=>hK _ _ ?_);refine jL ?_;have d0:=B4.c 0 _ rfl;have d1:=B4.c 1 _ rfl;have d2:=B4.c 2 _ rfl;have d3:=B4.c 3 _ rfl;have d4:=B4.c 4 _ rfl;go_wp2_with fail;exact jK (v:=.agg #[.bool s5,.slice a5 n5 c5,.bool s6,.slice a6 n6 c6,.bool q.fin]) (by simp[results,results143,go_sem,d0,d1,d2,d3,d4]) rfl (show OpP w (xU (mul4 ⟨l1,u1,f1⟩ ⟨l2,u2,f2⟩)) _ _ from by{rw[HR.out];exact⟨E2,_,rfl,_,_,_,_,_,_,_,_,rfl,IsI.gstb _ _ _ _ _ G2 g1,IsI.gstb _ _ _ _ _ G2 g2⟩})
   ·obtain⟨e2,h⟩:=h;cases r with
    |ok q=>obtain⟨_,hv,_⟩:=h;cases hv
    | error n=>
     cases h;exact⟨rfl,(show OpP w (xU (mul4 ⟨l1,u1,f1⟩ ⟨l2,u2,f2⟩)) _ _ from by{rw[HR.out];exact⟨E.trans e2,rfl⟩})⟩
   ·obtain⟨e2,h⟩:=h;cases r with
    |ok q=>obtain⟨_,hv,_⟩:=h;cases hv
    |error n=>cases h
end
section
open Go Go.RowKit
open Go.Proofs.Tryz
theorem zi{P:Prop}(h:P:=by exact⟨_,rfl,(Ext.refl w).alloc _,Bk.new w _ _⟩):P:=h
theorem jq{P:Prop}(h:P:=by simp[results,results84,go_sem,d0,d1,d2,d3,d4]):P:=h
theorem ju{P:Prop}(h:P:=by simp only;omega):P:=h
theorem yc{P:Prop}(h:P:=by have h8:=HQ.out;have:=HBD.out;simp only at h8;omega):P:=h
theorem xd{P:Prop}(h:P:=by exact mv (qB (x:=.int .i64 (i:Int)) 7)):P:=h
set_option maxRecDepth 100000
set_option maxHeartbeats 8000000
structure EIv {σ:Type} (m:Mc) (J:σ->World->Prop) (w:World) (us:List Value) (st:Mst σ) (W:World):Prop where
  rm:Rm m.h w W
  mat:MAt m st.1 W
  j:J st.2 W
  b4:Bk W w.heap.size us
  b6:Bk W (w.heap.size+1) [.bool false,.slice none 0 0,.bool false,.slice none 0 0,.bool false]
section
variable {σ:Type} {m:Mc} {J:σ->World->Prop} {w:World} {us:List Value} {g:Nat} {st st':Mst σ} {W W':World}
theorem EIv.start(hJ:MapInv m.h J)(hh:m.h+3<=w.heap.size)(hM:MAt m st.1 w)(hj:J st.2 w)(us:Array Value)(T T':TypeId):
    EIv m J w us.toList st ((w.alloc (.cells us T)).alloc (.cells #[.bool false,.slice none 0 0,.bool false,.slice none 0 0,.bool false] T')):=by
  have e:Ext w ((w.alloc (.cells us T)).alloc (.cells #[.bool false,.slice none 0 0,.bool false,.slice none 0 0,.bool false] T')):=((Ext.refl w).alloc _).alloc _;exact⟨Rm.ext e,hM.ext e,hJ.ext hj e hh,(Bk.new w us T).ext ((Ext.refl _).alloc _),Bk.newE _ _ (by simp) _ _⟩
theorem EIv.ext(S:EIv m J w us st W)(hJ:MapInv m.h J)(hh:m.h+3<=w.heap.size)(e:Ext W W'):EIv m J w us st W':=
  ⟨S.rm.trans (Rm.ext e),S.mat.ext e,hJ.ext S.j e (jQ hh S.rm.size),S.b4.ext e,S.b6.ext e⟩
theorem EIv.only(S:EIv m J w us st W)(hJ:MapInv m.h J)(hh:m.h+3<=w.heap.size)(O:OnlyB g W W')(hg:w.heap.size+2<=g):EIv m J w us st W':=
  ⟨O.rm S.rm (by omega),⟨O.bk S.mat.bk (by omega),S.mat.fit⟩,hJ.only S.j O (by omega),O.bk S.b4 (by omega),O.bk S.b6 (by omega)⟩
theorem EIv.call(S:EIv m J w us st W)(hh:m.h+3<=w.heap.size)(R:Rm m.h W W')(M:MAt m st'.1 W')(j:J st'.2 W'):EIv m J w us st' W':=
  ⟨S.rm.trans R,M,j,R.bk S.b4 (by omega),R.bk S.b6 (by omega)⟩
theorem EIv.last(S:EIv m J w us st W)(hJ:MapInv m.h J)(hh:m.h+3<=w.heap.size)(O:OnlyB (w.heap.size+1) W W'):Rm m.h w W'/\MAt m st.1 W'/\J st.2 W':=
  ⟨O.rm S.rm (by omega),⟨O.bk S.mat.bk (by omega),S.mat.fit⟩,hJ.only S.j O (by omega)⟩
theorem EIv.sz(S:EIv m J w us st W):w.heap.size+2<=W.heap.size:=S.b6.lt
end
section
variable {P:Program} {Q:Exit->Act->World->Prop} {o:Oper} {f:FuncId} {c:Call} {x y z t:Operand} {u1 u2 u3 u4:Value} {a:Act} {w:World} {K:Act->World->Prop} {R:Ending->World->Prop}
theorem xB{xs:List Operand}{us:List Value}(he:∀args w,(callFunc f args).run P w=.ok (.enter f args) w)(hx:xs.map a.eval=us)
    (h:Calls P f us.toArray w R) (h1:∀v w',R (.returned v) w'->K (a.put o.dst v) w') (h2:∀ch w',R (.panicked ch) w'->Q (.panic ch) a w') (h3:∀w',¬R .outgrown w')
    (ho:o.op=.call c:=by rfl) (hc:c.callee=.value (.func f):=by rfl) (ha:c.args=xs.toArray:=by rfl):Oper.wp P o a w K Q:=by
  have hr:(execOp a.eval o).run P w=.ok (.enter f (c.args.map a.eval)) w:=by
    unfold execOp;rw[ho];dsimp only;unfold resolve;rw[hc];simp[invoke,he,Deferred.ofValue,show a.eval (.func f)=.func (.func f) #[] #[]from rfl]
  unfold Oper.wp;rw[hr,Oper.upon_enter,ha,List.map_toArray,hx];refine jJ h ?_;intro e w2 hR;cases e with
  |returned v=>exact h1 v w2 hR
  |panicked ch=>exact h2 ch w2 hR
  |outgrown=>exact absurd hR (h3 w2)
theorem xF{T:Nat}{vs:List Value}(hr:∀w,(Instr.alloc T true (.tuple #[])).run P w=.ok (.pointer (some ⟨w.heap.size,0,none⟩)) (w.alloc (.cells vs.toArray T)))
    (h:Bk (w.alloc (.cells vs.toArray T)) w.heap.size vs->Ext w (w.alloc (.cells vs.toArray T))->K (a.put o.dst (.pointer (some ⟨w.heap.size,0,none⟩))) (w.alloc (.cells vs.toArray T))) (ho:o.op=.alloc T:=by rfl):Oper.wp P o a w K Q:=by
  have h9:(execOp a.eval o).run P w=.ok (.value (.pointer (some ⟨w.heap.size,0,none⟩))) (w.alloc (.cells vs.toArray T)):=by
    unfold execOp;rw[ho];simp[hr]
  unfold Oper.wp;rw[h9];exact h (by simpa using Bk.new w vs.toArray T) ((Ext.refl _).alloc _)
end
def lpR{σ:Type}(fst:Bool)(hi:Int)(rr:Res Tr×Mst σ):Res Kn×Mst σ:=
  match rr with
  | (.error n,st')=>(.error n,st')
  | (.ok t,st')=>(.ok (if fst then⟨t.first,t.last,t.fin⟩else⟨t.sure,t.sure+t.opn+hi+1-t.next,t.fin⟩),st')
theorem srch_bd{σ:Type}(f:Int->Mst σ->Res Kn×Mst σ)(fst:Bool)(lo hi:Int)(t':Tr)(st':Mst σ):∀(k:Nat) (t:Tr) (st:Mst σ),
    (lo<=t.next/\t.next<=hi+1/\0<=t.sure/\0<=t.opn/\t.sure+t.opn<=t.next-lo/\lo<=t.first/\t.first<=hi+1/\lo<=t.last/\t.last<=hi+1)->xQ f fst hi k t st=(.ok t',st')->
    lo<=t'.next/\t'.next<=hi+1/\0<=t'.sure/\0<=t'.opn/\t'.sure+t'.opn<=t'.next-lo+1/\lo<=t'.first/\t'.first<=hi+1/\lo<=t'.last/\t'.last<=hi+1
  | 0,t,st,hb,h=>by
    simp only[xQ,Prod.mk.injEq,Except.ok.injEq]at h;obtain⟨rfl,_⟩:=h;simp only[Tr.stop];omega
  | k+1,t,st,hb,h=>by
    rw[xQ]at h;by_cases hg:t.next<=hi/\0<st.1
    · rw [if_pos hg]at h
      split at h
      ·simp at h
      · rename_i q st2 he
        simp only[Tr.step]at h;by_cases c1:q.lo=0/\q.hi=0
        · rw[if_pos c1]at h
          exact srch_bd f fst lo hi t' st' k _ _ ju h
        · rw [if_neg c1]at h
          by_cases c2:q.lo<=0/\0<=q.hi
          · rw[if_pos c2]at h
            exact srch_bd f fst lo hi t' st' k _ _ ju h
          · rw [if_neg c2]at h
            cases fst with
            | true=>
              simp only[if_true,Prod.mk.injEq,Except.ok.injEq]at h;obtain⟨rfl,_⟩:=h;simp only;omega
            | false=>
              simp only[Bool.false_eq_true,if_false]at h;exact srch_bd f false lo hi t' st' k _ _ ju h
    · rw[if_neg hg]at h
      simp only[Prod.mk.injEq,Except.ok.injEq]at h;obtain⟨rfl,_⟩:=h;simp only[Tr.stop];omega
theorem ba_beq(x y:ByteArray):(x==y)=decide (x=y):=by
  cases x with|mk a=>
  cases y with|mk b=>
  have:((ByteArray.mk a)==(ByteArray.mk b))=(a==b):=rfl;rw[this];by_cases h:a=b
  ·subst h;simp
  ·simp[h]
theorem ba_listE(x y:ByteArray):(x.toList==y.toList)=decide (x=y):=by
  rw[ByteArray.toList_eq,ByteArray.toList_eq];by_cases h:x=y
  ·subst h;simp
  · have h2:¬x.data=y.data:=λe=>h (by cases x;cases y;simpa using e)
    simp[h,h2]
theorem look_at:∀(env:Env) (i:Nat) (x:ByteArray) (k:Int),env[i]? =some (x,k)->(env.drop (i+1)).any (λp=>p.1==x)=false->look env x=k
  | (y,k') ::t,0,x,k,h,hd=>by
    simp only[List.getElem?_cons_zero,Option.some.injEq,Prod.mk.injEq]at h;simp only[dxE]at hd;rw[look,hd];simp[h.2]
  | (y,k') ::t,i+1,x,k,h,hd=>by
    have h':t[i]? =some (x,k):=yw
    have ha:t.any (λp=>p.1==x)=true:=by
      rw[List.any_eq_true];exact⟨(x,k),List.mem_of_getElem? h',by simp[ba_beq]⟩
    rw[look,ha]
    simpa using look_at t i x k h' (by simpa using hd)
theorem look_step(env:Env)(i:Nat)(x y:ByteArray)(k:Int)(h:env[i]? =some (y,k))(hy:y≠x)(hd:(env.drop (i+1)).any (λp=>p.1==x)=false)(ha:env.any (λp=>p.1==x)=true):0<i/\(env.drop i).any (λp=>p.1==x)=false:=by
  have hi:i<env.length:=(List.getElem?_eq_some_iff.1 h).1;have e:env.drop i=env[i] ::env.drop (i+1):=List.drop_eq_getElem_cons hi;have e2:env[i]=(y,k):=(List.getElem?_eq_some_iff.1 h).2
  have h2:(env.drop i).any (λp=>p.1==x)=false:=by
    rw[e,e2,List.any_cons,hd];simp[ba_beq,hy]
  refine⟨?_,h2⟩;rcases jN i with rfl|h3
  ·rw[List.drop_zero,ha]at h2;cases h2
  ·exact h3
theorem ix_V(g n c j:Nat)(h:j<n)(w:World):(Instr.indexAt 197 (.slice (some ⟨g,0,none⟩) n c) (.int .i64 (j:Int))).run prog w=.ok (.pointer (some ⟨g,2*j,none⟩)) w:=by
  have h1:(0:Int)<=(j:Int):=by omega
  have h2:(j:Int)<(n:Int):=by omega
  have h3:0+j*2=2*j:=by omega
  have h4:j*2=2*j:=by omega
  go_simp
theorem fa_V0(g f:Nat)(w:World):(Instr.fieldAt 200 (.pointer (some ⟨g,f,none⟩)) 0).run prog w=.ok (.pointer (some ⟨g,f,none⟩)) w:=by go_simp
theorem fa_V1(g f:Nat)(w:World):(Instr.fieldAt 200 (.pointer (some ⟨g,f,none⟩)) 1).run prog w=.ok (.pointer (some ⟨g,f+1,none⟩)) w:=by go_simp
theorem eval_num{σ:Type}{m:Mc}{J:σ->World->Prop}{w:World}{st:Mst σ}{nm:ByteArray}{kk lo hi:Int}{s:Bool}{a:Option Addr}{n c:Nat}{A ve:Value}{z:Int}(hJ:MapInv m.h J)(hh:m.h+3<=w.heap.size)(hM:MAt m st.1 w)(hj:J st.2 w)(hz:IsI 128 z (.agg #[.bool s,.slice a n c]) w):
    Calls prog 84 #[.pointer (some ⟨m.h+2,0,none⟩),.agg #[.int .i64 1,.string nm,.int .i64 kk,.bool s,.slice a n c,.int .i64 lo,.int .i64 hi,A],ve] w (EvP m J w (.ok ⟨z,z,true⟩,st)):=by
  obtain⟨W,hW,S⟩:∃W,W=(w.alloc (.cells #[.int .i64 1,.string nm,.int .i64 kk,.bool s,.slice a n c,.int .i64 lo,.int .i64 hi,A] 31)).alloc (.cells #[.bool false,.slice none 0 0,.bool false,.slice none 0 0,.bool false] 176)/\EIv m J w [.int .i64 1,.string nm,.int .i64 kk,.bool s,.slice a n c,.int .i64 lo,.int .i64 hi,A] st W:=⟨_,rfl,EIv.start hJ hh hM hj _ _ _⟩;have hs0:=S.sz;replace hz:=IsI.gstb _ _ _ _ _ S.rm.gr hz;go_enter func84,ntmps84;go_upto_region 1 with fail;rw[<-hW];clear hW;have d0:=S.b4.c 0 _ rfl;go_upto_region 3 with fail;clear d0;refine rgs 3 (dR 19 3) [IsP (w.heap.size) 3,IsI 128 z,IsKn 128 z z true] [] ?_ ?_
  · refine Rc (fa (fa_Nd3 w.heap.size) (qB 4)) ?_
    refine Rc (lvI 3 S.b4 hz qF (qA 0 19)) ?_;refine Rc (cl1 (en func109) (qA (fP:=IsI 128 z) 1 20) (λx0 w' hE d0=>exact_f d0)) ?_;exact rn0
  intro v X1 e1 hZ _;replace S:=S.ext hJ hh e1;obtain⟨s5,a5,n5,c5,s6,a6,n6,c6,hv,g1,g2⟩:=hZ 2 dcx;obtain⟨fq,hfq⟩:∃f,true=f:=⟨_,rfl⟩;simp only[lxE,Nat.reduceAdd];rw[hv];clear hv hZ e1 hz;rw[hfq];refine stL (λK hK=>?_);refine qZ (us:= [.bool s5,.slice a5 n5 c5,.bool s6,.slice a6 n6 c6,.bool fq]) S.b6 xP rfl rfl nw5 (λX9 B9 O=>hK _ _ ?_);obtain⟨f1,f2,f3⟩:=S.last hJ hh O;replace g1:=IsI.gstb _ _ _ _ _ O.gr g1;replace g2:=IsI.gstb _ _ _ _ _ O.gr g2;refine jL ?_;have d0:=B9.c 0 _ rfl;have d1:=B9.c 1 _ rfl;have d2:=B9.c 2 _ rfl;have d3:=B9.c 3 _ rfl;have d4:=B9.c 4 _ rfl;clear hK K O B9 S;go_wp2_with fail;exact jK (v:=.agg #[.bool s5,.slice a5 n5 c5,.bool s6,.slice a6 n6 c6,.bool fq]) jq rfl ⟨f1,f2,f3,_,rfl,_,_,_,_,_,_,_,_,by rw[hfq],g1,g2⟩
theorem tEv9_1{P:Prop}(h:P:=by
  obtain⟨hR,hMA,hJA,h⟩:=h;obtain⟨res,st2⟩:=rr;cases res with
  |error nn=>cases h
  | ok q=>
    obtain⟨_,hv,s5,a5,n5,c5,s6,a6,n6,c6,hv2,g1,g2⟩:=h;cases hv;subst hv2;replace S:=S.call hh hR hMA hJA;clear hK K
    go_simp
    obtain⟨fq,hfq⟩:∃f,q.fin=f:=⟨_,rfl⟩;rw[hfq];refine stL (λK hK=>?_);refine qZ (us:= [.bool s5,.slice a5 n5 c5,.bool s6,.slice a6 n6 c6,.bool fq]) S.b6 xP rfl rfl nw5 (λX9 B9 O=>hK _ _ ?_);obtain⟨f1,f2,f3⟩:=S.last hJ hh O;replace g1:=IsI.gstb _ _ _ _ _ O.gr g1;replace g2:=IsI.gstb _ _ _ _ _ O.gr g2;refine jL ?_;have d0:=B9.c 0 _ rfl;have d1:=B9.c 1 _ rfl;have d2:=B9.c 2 _ rfl;have d3:=B9.c 3 _ rfl;have d4:=B9.c 4 _ rfl;clear hK K O B9 S;go_wp2_with fail;exact jK (v:=.agg #[.bool s5,.slice a5 n5 c5,.bool s6,.slice a6 n6 c6,.bool fq]) jq rfl ⟨f1,f2,f3,_,rfl,_,_,_,_,_,_,_,_,by rw[hfq],g1,g2⟩
  ):P:=h
theorem tEv9_3{P:Prop}(h:P:=by
  obtain⟨hR,hMA,hJA,h⟩:=h;obtain⟨res,st2⟩:=rr;cases res with
  |ok q=>obtain⟨_,hv,_⟩:=h;cases hv
  | error nn=>
    cases h;exact⟨rfl,S.rm.trans hR,hMA,hJA,rfl⟩
  ):P:=h
theorem tEv9_5{P:Prop}(h:P:=by
  obtain⟨hR,hMA,hJA,h⟩:=h;obtain⟨res,st2⟩:=rr;cases res with
  |ok q=>obtain⟨_,hv,_⟩:=h;cases hv
  |error nn=>cases h
  ):P:=h
theorem eval_cell{σ:Type}{m:Mc}{J:σ->World->Prop}{w:World}{st:Mst σ}{x:ByteArray}{kk lo hi:Int}{s:Bool}{a:Option Addr}{n c:Nat}{A ve:Value}{rr:Res Kn×Mst σ}(hJ:MapInv m.h J)(hh:m.h+3<=w.heap.size)(hM:MAt m st.1 w)(hj:J st.2 w)(HC:∀w',Rm m.h w w'->MAt m st.1 w'->J st.2 w'->w.heap.size<=w'.heap.size->Calls prog 111 #[.pointer (some ⟨m.h+2,0,none⟩),.string x] w' (EvP m J w' rr)):
    Calls prog 84 #[.pointer (some ⟨m.h+2,0,none⟩),.agg #[.int .i64 2,.string x,.int .i64 kk,.bool s,.slice a n c,.int .i64 lo,.int .i64 hi,A],ve] w (EvP m J w rr):=by
  obtain⟨W,hW,S⟩:∃W,W=(w.alloc (.cells #[.int .i64 2,.string x,.int .i64 kk,.bool s,.slice a n c,.int .i64 lo,.int .i64 hi,A] 31)).alloc (.cells #[.bool false,.slice none 0 0,.bool false,.slice none 0 0,.bool false] 176)/\EIv m J w [.int .i64 2,.string x,.int .i64 kk,.bool s,.slice a n c,.int .i64 lo,.int .i64 hi,A] st W:=⟨_,rfl,EIv.start hJ hh hM hj _ _ _⟩;have hs0:=S.sz;go_enter func84,ntmps84;go_upto_region 1 with fail;rw[<-hW];clear hW;have d0:=S.b4.c 0 _ rfl;go_upto_region 10 with fail;clear d0;refine rgs 3 (dR 46 3) [IsP (m.h+2) 0,IsP (w.heap.size) 1,IsV (.string x)] [] ?_ ?_
  · refine Rc zv ?_
    refine Rc xl ?_;refine Rc (lvC 1 S.b4 ld_str (qA 1 47)) ?_;exact rn0
  intro v X1 e1 hZ _;replace S:=S.ext hJ hh e1;simp only[lxE,Nat.reduceAdd];rw[show v 0=.pointer (some ⟨m.h+2,0,none⟩)from hZ 0 dcx,show v 2=.string x from hZ 2 dcx];clear hZ e1;refine stL (λK hK=>?_);refine xB (us:= [.pointer (some ⟨m.h+2,0,none⟩),.string x]) (en func111) za (HC _ S.rm S.mat S.j S.rm.size) (λv2 X2 h=>hK _ _ ?_) (λch X2 h=>?_) (λX2 h=>?_)
  ·exact tEv9_1
  ·exact tEv9_3
  ·exact tEv9_5
theorem eval_val{σ:Type}{m:Mc}{J:σ->World->Prop}{w:World}{st:Mst σ}{x:ByteArray}{kk lo hi:Int}{s:Bool}{a:Option Addr}{n c:Nat}{A ve:Value}{rr:Res Kn×Mst σ}(hJ:MapInv m.h J)(hh:m.h+3<=w.heap.size)(hM:MAt m st.1 w)(hj:J st.2 w)(HC:∀w',Rm m.h w w'->MAt m st.1 w'->J st.2 w'->w.heap.size<=w'.heap.size->Calls prog 112 #[.pointer (some ⟨m.h+2,0,none⟩),.string x,.int .i64 kk,ve] w' (EvP m J w' rr)):
    Calls prog 84 #[.pointer (some ⟨m.h+2,0,none⟩),.agg #[.int .i64 3,.string x,.int .i64 kk,.bool s,.slice a n c,.int .i64 lo,.int .i64 hi,A],ve] w (EvP m J w rr):=by
  obtain⟨W,hW,S⟩:∃W,W=(w.alloc (.cells #[.int .i64 3,.string x,.int .i64 kk,.bool s,.slice a n c,.int .i64 lo,.int .i64 hi,A] 31)).alloc (.cells #[.bool false,.slice none 0 0,.bool false,.slice none 0 0,.bool false] 176)/\EIv m J w [.int .i64 3,.string x,.int .i64 kk,.bool s,.slice a n c,.int .i64 lo,.int .i64 hi,A] st W:=⟨_,rfl,EIv.start hJ hh hM hj _ _ _⟩;have hs0:=S.sz;go_enter func84,ntmps84;go_upto_region 1 with fail;rw[<-hW];clear hW;have d0:=S.b4.c 0 _ rfl;go_upto_region 12 with fail;clear d0;refine rgs 6 (dR 52 6) [IsP (m.h+2) 0,IsP (w.heap.size) 1,IsV (.string x),IsP (w.heap.size) 2,iV kk,IsV ve] [] ?_ ?_
  · refine Rc zv ?_
    refine Rc xl ?_;refine Rc (lvC 1 S.b4 ld_str (qA 1 53)) ?_;refine Rc (fa (fa_Nd2 w.heap.size) (qB 4)) ?_;refine Rc (lvC 2 S.b4 xE (qA 3 55)) ?_;refine Rc yj ?_;exact rn0
  intro v X1 e1 hZ _;replace S:=S.ext hJ hh e1;simp only[lxE,Nat.reduceAdd];rw[show v 0=.pointer (some ⟨m.h+2,0,none⟩)from hZ 0 dcx,show v 2=.string x from hZ 2 dcx,show v 4=.int .i64 kk from hZ 4 dcx,show v 5=ve from hZ 5 dcx];clear hZ e1;refine stL (λK hK=>?_);refine xB (us:= [.pointer (some ⟨m.h+2,0,none⟩),.string x,.int .i64 kk,ve]) (en func112) za (HC _ S.rm S.mat S.j S.rm.size) (λv2 X2 h=>hK _ _ ?_) (λch X2 h=>?_) (λX2 h=>?_)
  ·exact tEv9_1
  ·exact tEv9_3
  ·exact tEv9_5
theorem eval_var{σ:Type}{m:Mc}{J:σ->World->Prop}{w:World}{st:Mst σ}{x:ByteArray}{kk lo hi:Int}{s:Bool}{a:Option Addr}{n c:Nat}{A ve:Value}{env:Env}(hJ:MapInv m.h J)(hh:m.h+3<=w.heap.size)(hM:MAt m st.1 w)(hj:J st.2 w)(hE:IsEnv m.h env ve w)(ha:env.any (λp=>p.1==x)=true)(hb: -9223372036854775808<=look env x/\look env x<=9223372036854775807):
    Calls prog 84 #[.pointer (some ⟨m.h+2,0,none⟩),.agg #[.int .i64 11,.string x,.int .i64 kk,.bool s,.slice a n c,.int .i64 lo,.int .i64 hi,A],ve] w (EvP m J w (.ok ⟨look env x,look env x,true⟩,st)):=by
  obtain⟨h0,ao,cp,rfl,hcp,hle,hnil,hcs⟩:=hE;obtain⟨ge,rfl,hge,hge2,hcells⟩:=hcs (by intro he;subst he;simp at ha);obtain⟨n0,hn0⟩:∃n0,env.length=n0:=⟨_,rfl⟩
  have hn1:0<n0:=by
    rw[<-hn0];rcases env with _| ⟨p,t⟩;·simp at ha
    ·simp
  have HB:=hid (jO (jO hn0 hn1) (jO hcp hle));have HLB:=hid hb;have HAN:=hid ha;have HCE:=hid hcells;rw[hn0];clear hnil hcs hn0 hcp hle hb ha hcells;obtain⟨W,hW,S⟩:∃W,W=(w.alloc (.cells #[.int .i64 11,.string x,.int .i64 kk,.bool s,.slice a n c,.int .i64 lo,.int .i64 hi,A] 31)).alloc (.cells #[.bool false,.slice none 0 0,.bool false,.slice none 0 0,.bool false] 176)/\EIv m J w [.int .i64 11,.string x,.int .i64 kk,.bool s,.slice a n c,.int .i64 lo,.int .i64 hi,A] st W:=⟨_,rfl,EIv.start hJ hh hM hj _ _ _⟩;have hs0:=S.sz;have HW1:=hid (show IntKind.i64.wrap ((n0:Int)-1)=(n0:Int)-1 by have:=HB.out;simp only[IntKind.wrap_i64];omega);clear hn1;go_enter func84,ntmps84;go_upto_region 1 with fail;rw[<-hW];clear hW;have d0:=S.b4.c 0 _ rfl;go_upto_region 5 with fail;clear d0;refine rgs 4 [some 24,some 25,some 26,some 7] [IsV (.slice (some ⟨ge,0,none⟩) n0 cp),iV (n0:Int),iV ((n0:Int)-1),iV ((n0:Int)-1)] [] ?_ ?_
  · refine Rc yj ?_
    refine Rc (lenV (qA (fP:=IsV (.slice (some ⟨ge,0,none⟩) n0 cp)) 0 24)) ?_;refine Rc (bn (r:=.int .i64 ((n0:Int)-1)) (qC 1 25) qE (hr:=λw=>by have hx9:=HW1.out;go_simp)) ?_;refine Rc (mv (qA 2 26)) ?_;exact rn0
  intro v X1 e1 hZ _;replace S:=S.ext hJ hh e1;simp only[lxE,Nat.reduceAdd];rw[show v 3=.int .i64 ((n0:Int)-1)from hZ 3 dcx];clear hZ e1;refine jL ?_;go_wp2_with fail;have S0:=hid S;clear S
  go_loopg [7] n0 (λgk v7 wr=>∃(i:Nat),v7=.int .i64 (i:Int)/\i+1=gk/\i<n0/\Hid ((env.drop (i+1)).any (λp=>p.1==x)=false)/\Hid (EIv m J w [.int .i64 11,.string x,.int .i64 kk,.bool s,.slice a n c,.int .i64 lo,.int .i64 hi,A] st wr))
  case atStart=>exact⟨n0-1,by have:=HB.out;rw[Int.ofNat_sub (by omega)];rfl,by have:=HB.out;omega,by have:=HB.out;omega,hid (by have:=HB.out;rw[show n0-1+1=env.length by omega,List.drop_length];rfl),S0⟩
  case round=>
    clear S0;obtain⟨i,rfl,hg,hi,hd,S⟩:=hrel;have S:=S.out;obtain⟨⟨y,k⟩,hyk⟩:∃p,env[i]? =some p:=⟨_,List.getElem?_eq_getElem (by have:=HB.out;omega)⟩;have HYK:=hid hyk;have HCY:=hid (HCE.out i y k hyk);have HG:=hid (jO hg hi);clear hyk hg hi;go_upto_region 6 with fail;obtain⟨bne,hbne⟩:∃b,(!decide (y=x))=b:=⟨_,rfl⟩;have HBN:=hid (show(y.toList==x.toList)= !bne by rw[ba_listE,<-hbne,Bool.not_not]);have hrm:=S.rm;refine rg 8 (dR 27 8) [IsV (.slice (some ⟨ge,0,none⟩) n0 cp),iV (i:Int),IsP ge (2*i),IsP ge (2*i),IsV (.string y),IsP (w.heap.size) 1,IsV (.string x),IsV (.bool bne)] [] 0 ?_ ?_
    · refine Rc yj ?_
      refine Rc xd ?_;refine Rc (ixq (ix_V ge n0 cp i HG.out.2) (qA 0 27) (qA 1 28)) ?_;refine Rc (fa (fa_V0 ge (2*i)) (qA 2 29)) ?_;refine Rc (lv (fP:=IsV (.string y)) _ (λw' e=>ld_str w' _ _ (e.cell (S.rm.cell HCY.out.1 (.inr hge)))) (qA 3 30) (λ_ _=>rfl)) ?_;refine Rc xl ?_;refine Rc (lvC 1 S.b4 ld_str (qA 5 32)) ?_;refine Rc (bn (r:=.bool bne) (qC 4 31) (qC 6 33) (hr:=λw=>by have hx9:=HBN.out;go_simp)) ?_;exact rn0
    intro v X2 e1 hZ _;replace S:=S.ext hJ hh e1;simp only[lxE,Nat.reduceAdd];rw[show v 7=.bool bne from hZ 7 dcx];clear hZ e1;refine jR za ?_ _;cases bne with
    | true=>
      have hyx:y≠x:=by simpa using hbne
      obtain⟨h1,h2⟩:=look_step env i x y k HYK.out hyx hd.out HAN.out;have H1:=hid h1;have H2:=hid h2;have HW2:=hid (show IntKind.i64.wrap ((i:Int)-1)=((i-1:Nat):Int)by have:=HB.out;have:=HG.out;simp only[IntKind.wrap_i64];omega);clear h1 h2 hyx hbne hd;go_upto_region 7 with fail;refine rgs 2 [some 35,some 36] [iV (i:Int),iV ((i-1:Nat):Int)] [] ?_ ?_
      · refine Rc xd ?_
        refine Rc (bn (r:=.int .i64 ((i-1:Nat):Int)) (qC 0 35) qE (hr:=λw=>by have hx9:=HW2.out;go_simp)) ?_;exact rn0
      intro v X3 e1 hZ _;replace S:=S.ext hJ hh e1;simp only[lxE,Nat.reduceAdd];rw[show v 1=.int .i64 ((i-1:Nat):Int)from hZ 1 dcx];clear hZ e1;refine jX λK hK=>?_;go_simp;refine hK _ _ ?_;clear hK K
      refine jL ?_;have S':=hid S;clear S hrm;go_wp2_with fail
      go_roundg (gk-1)
      case measure=>have:=HG.out;have:=H1.out;omega
      case rel=>exact⟨i-1,rfl,by have:=HG.out;have:=H1.out;omega,by have:=HG.out;omega,hid (by have:=H1.out;rw[show i-1+1=i by omega];exact H2.out),S'⟩
    | false=>
      obtain rfl:y=x:=by simpa using hbne
      have HLK:=hid (look_at env i y k HYK.out hd.out);rw[HLK.out]at HLB;clear hbne hd;go_upto_region 8 with fail;refine rgs 7 (dR 37 7) [IsV (.slice (some ⟨ge,0,none⟩) n0 cp),iV (i:Int),IsP ge (2*i),IsP ge (2*i+1),iV k,IsI 2 k,IsKn 2 k k true] [] ?_ ?_
      · refine Rc yj ?_
        refine Rc xd ?_;refine Rc (ixq (ix_V ge n0 cp i HG.out.2) (qA 0 37) (qA 1 38)) ?_;refine Rc (fa (fa_V1 ge (2*i)) (qA 2 39)) ?_;refine Rc (lv (fP:=iV k) _ (λw' e=>xE w' _ _ (e.cell (S.rm.cell HCY.out.2 (.inr hge)))) (qA 3 40) (λ_ _=>rfl)) ?_;refine Rc (cl1 (en func110) (qA (fP:=iV k) 4 41) (λx0 w' hE d0=>by{obtain rfl:x0=.int .i64 k:=d0;exact of_f w' k HLB.out})) ?_;refine Rc (cl1 (en func109) (qA (fP:=IsI 2 k) 5 42) (λx0 w' hE d0=>exact_f d0)) ?_;exact rn0
      intro v X8 e1 hZ _;replace S:=S.ext hJ hh e1;obtain⟨s5,a5,n5,c5,s6,a6,n6,c6,hv,g1,g2⟩:=hZ 6 dcx;obtain⟨fq,hfq⟩:∃f,true=f:=⟨_,rfl⟩;simp only[lxE,Nat.reduceAdd];rw[hv];clear hv hZ e1 hrm;rw[hfq];replace g1:=g1.mono (show 2<=128 by decide);replace g2:=g2.mono (show 2<=128 by decide);rw[<-HLK.out]at g1 g2;refine stL (λK hK=>?_);refine qZ (us:= [.bool s5,.slice a5 n5 c5,.bool s6,.slice a6 n6 c6,.bool fq]) S.b6 xP rfl rfl nw5 (λX9 B9 O=>hK _ _ ?_);obtain⟨f1,f2,f3⟩:=S.last hJ hh O;replace g1:=IsI.gstb _ _ _ _ _ O.gr g1;replace g2:=IsI.gstb _ _ _ _ _ O.gr g2;refine jL ?_;have d0:=B9.c 0 _ rfl;have d1:=B9.c 1 _ rfl;have d2:=B9.c 2 _ rfl;have d3:=B9.c 3 _ rfl;have d4:=B9.c 4 _ rfl;clear hK K O B9 S;go_wp2_with fail;exact jK (v:=.agg #[.bool s5,.slice a5 n5 c5,.bool s6,.slice a6 n6 c6,.bool fq]) jq rfl ⟨f1,f2,f3,_,rfl,_,_,_,_,_,_,_,_,by first|rfl|rw[hfq],g1,g2⟩
theorem tEv9_2{P:Prop}(h:P:=by
  refine qZ (us:= [.bool s5,.slice a5 n5 c5,.bool s6,.slice a6 n6 c6,.bool fq]) S.b6 xP rfl rfl nw5 (λX9 B9 O=>hK _ _ ?_);obtain⟨f1,f2,f3⟩:=S.last hJ hh O;replace g1:=IsI.gstb _ _ _ _ _ O.gr g1;replace g2:=IsI.gstb _ _ _ _ _ O.gr g2;refine jR za ?_ _;have d0:=B9.c 0 _ rfl;have d1:=B9.c 1 _ rfl;have d2:=B9.c 2 _ rfl;have d3:=B9.c 3 _ rfl;have d4:=B9.c 4 _ rfl;clear hK K O B9 S;go_wp2_with fail;exact jK (v:=.agg #[.bool s5,.slice a5 n5 c5,.bool s6,.slice a6 n6 c6,.bool fq]) jq rfl ⟨f1,f2,f3,_,rfl,_,_,_,_,_,_,_,_,rfl,g1,g2⟩
  ):P:=h
theorem tEv9_4{P:Prop}(h:P:=by
  obtain⟨hR,hMA,hJA,h⟩:=h;obtain⟨res,st2⟩:=rr;cases res with
  |ok q=>cases h
  | error nn=>
    cases h;exact⟨rfl,S.rm.trans hR,hMA,hJA,rfl⟩
  ):P:=h
theorem eval_count{σ:Type}{m:Mc}{J:σ->World->Prop}{w:World}{st:Mst σ}{x:ByteArray}{kk lo hi:Int}{s:Bool}{a:Option Addr}{n c:Nat}{g o mm cp:Nat}{ve:Value}{rr:Res Tr×Mst σ}(hJ:MapInv m.h J)(hh:m.h+3<=w.heap.size)(hM:MAt m st.1 w)(hj:J st.2 w)(HC:∀w',Rm m.h w w'->MAt m st.1 w'->J st.2 w'->w.heap.size<=w'.heap.size->Calls prog 113 #[.pointer (some ⟨m.h+2,0,none⟩),.agg #[.int .i64 9,.string x,.int .i64 kk,.bool s,.slice a n c,.int .i64 lo,.int .i64 hi,.slice (some ⟨g,o,none⟩) mm cp],ve] w' (SrP m J w' rr))(HBD:Hid (-1099511627776<=lo/\lo<=hi+1/\hi<=1099511627776))(HT:Hid (∀t st',rr=(.ok t,st')->lo<=t.next/\t.next<=hi+1/\0<=t.sure/\0<=t.opn/\t.sure+t.opn<=t.next-lo+1/\lo<=t.first/\t.first<=hi+1/\lo<=t.last/\t.last<=hi+1)):
    Calls prog 84 #[.pointer (some ⟨m.h+2,0,none⟩),.agg #[.int .i64 9,.string x,.int .i64 kk,.bool s,.slice a n c,.int .i64 lo,.int .i64 hi,.slice (some ⟨g,o,none⟩) mm cp],ve] w (EvP m J w (lpR false hi rr)):=by
  obtain⟨W,hW,S⟩:∃W,W=(w.alloc (.cells #[.int .i64 9,.string x,.int .i64 kk,.bool s,.slice a n c,.int .i64 lo,.int .i64 hi,.slice (some ⟨g,o,none⟩) mm cp] 31)).alloc (.cells #[.bool false,.slice none 0 0,.bool false,.slice none 0 0,.bool false] 176)/\EIv m J w [.int .i64 9,.string x,.int .i64 kk,.bool s,.slice a n c,.int .i64 lo,.int .i64 hi,.slice (some ⟨g,o,none⟩) mm cp] st W:=⟨_,rfl,EIv.start hJ hh hM hj _ _ _⟩;have hs0:=S.sz;go_enter func84,ntmps84;go_upto_region 1 with fail;rw[<-hW];clear hW;have d0:=S.b4.c 0 _ rfl;go_upto_region 14 with fail;clear d0;have hld:LdV prog 31 8:=λw' g' vs' hl B=>ld_Nd hl (λj v hj=>by rw[Nat.zero_add];exact B.c j v hj)
  refine rgs 3 (dR 61 3) [IsP (m.h+2) 0,IsV (.agg #[.int .i64 9,.string x,.int .i64 kk,.bool s,.slice a n c,.int .i64 lo,.int .i64 hi,.slice (some ⟨g,o,none⟩) mm cp]),IsV ve] [] ?_ ?_
  · refine Rc zv ?_
    refine Rc (lvV S.b4 hld (qB 4)) ?_;refine Rc yj ?_;exact rn0
  intro v X1 e1 hZ _;replace S:=S.ext hJ hh e1;simp only[lxE,Nat.reduceAdd];rw[show v 0=.pointer (some ⟨m.h+2,0,none⟩)from hZ 0 dcx,show v 1=.agg #[.int .i64 9,.string x,.int .i64 kk,.bool s,.slice a n c,.int .i64 lo,.int .i64 hi,.slice (some ⟨g,o,none⟩) mm cp]from hZ 1 dcx,show v 2=ve from hZ 2 dcx];clear hZ e1;refine stL (λK hK=>?_);refine xB (us:= [.pointer (some ⟨m.h+2,0,none⟩),.agg #[.int .i64 9,.string x,.int .i64 kk,.bool s,.slice a n c,.int .i64 lo,.int .i64 hi,.slice (some ⟨g,o,none⟩) mm cp],ve]) (en func113) za (HC _ S.rm S.mat S.j S.rm.size) (λv2 X2 h=>hK _ _ ?_) (λch X2 h=>?_) (λX2 h=>?_)
  · obtain⟨hR,hMA,hJA,h⟩:=h
    obtain⟨res,st2⟩:=rr;cases res with
    |error nn=>cases h
    | ok q=>
      cases h;have HQ:=hid (HT.out q st2 rfl);obtain⟨sure,opn,first,last,next,fq⟩:=q;replace S:=S.call hh hR hMA hJA;clear hK K hR hMA hJA;have hs2:=S.sz
      go_simp
      refine stL (λK hK=>?_);refine xF (vs:= [.int .i64 0,.int .i64 0,.int .i64 0,.int .i64 0,.int .i64 0,.bool false]) al_Tr (λB8 e1=>hK _ _ ?_);replace S:=S.ext hJ hh e1;obtain⟨g8,hg8⟩:∃g,X2.heap.size=g:=⟨_,rfl⟩;rw[hg8]at B8 hs2 ⊢;generalize X2.alloc (.cells [Value.int .i64 0,.int .i64 0,.int .i64 0,.int .i64 0,.int .i64 0,.bool false].toArray 205)=X3 at S B8 ⊢;clear hK K e1 hg8
      go_simp
      refine stL (λK hK=>?_);refine qZ (us:= [.int .i64 sure,.int .i64 opn,.int .i64 first,.int .i64 last,.int .i64 next,.bool fq]) B8 st_Tr rfl rfl nwT (λX4 B8' O=>hK _ _ ?_);replace S:=S.only hJ hh O hs2;clear B8 hK K O;refine jL ?_;go_upto_region 15 with fail;have HA1:=hid (show IntKind.i64.wrap (sure+opn)=sure+opn by have h8:=HQ.out;have:=HBD.out;simp only at h8;simp only[IntKind.wrap_i64];omega);have HA2:=hid (show IntKind.i64.wrap (sure+opn+hi)=sure+opn+hi by have h8:=HQ.out;have:=HBD.out;simp only at h8;simp only[IntKind.wrap_i64];omega);have HA3:=hid (show IntKind.i64.wrap (sure+opn+hi+1)=sure+opn+hi+1 by have h8:=HQ.out;have:=HBD.out;simp only at h8;simp only[IntKind.wrap_i64];omega);have HA4:=hid (show IntKind.i64.wrap (sure+opn+hi+1-next)=sure+opn+hi+1-next by have h8:=HQ.out;have:=HBD.out;simp only at h8;simp only[IntKind.wrap_i64];omega);refine rg 19 (dR 65 19) [IsP g8 0,iV (sure),IsI 2 sure,IsP g8 0,iV (sure),IsP g8 1,iV (opn),iV (sure+opn),IsP (w.heap.size) 6,iV (hi),iV (sure+opn+hi),iV (sure+opn+hi+1),IsP g8 4,iV (next),iV (sure+opn+hi+1-next),IsI 2 (sure+opn+hi+1-next),IsP g8 5,IsV (.bool fq),IsKn 2 sure (sure+opn+hi+1-next) fq] [] 1 ?_ ?_
      · refine Rc (fa (fa_Tr0 g8) (qB 8)) ?_
        refine Rc (lvC 0 B8' xE (qA 0 65)) ?_;refine Rc (cl1 (en func110) (qA (fP:=iV (sure)) 1 66) (λx0 w' hE d0=>by{obtain rfl:x0=.int .i64 (sure):=d0;exact of_f w' (sure) yc})) ?_;refine Rc (fa (fa_Tr0 g8) (qB 8)) ?_;refine Rc (lvC 0 B8' xE (qA 3 68)) ?_;refine Rc (fa (fa_Tr1 g8) (qB 8)) ?_;refine Rc (lvC 1 B8' xE (qA 5 70)) ?_;refine Rc (bn (r:=.int .i64 (sure+opn)) (qC 4 69) (qC 6 71) (hr:=λw=>by have hx9:=HA1.out;go_simp)) ?_;refine Rc xk ?_;refine Rc (lvC 6 S.b4 xE (qA 8 73)) ?_;refine Rc (bn (r:=.int .i64 (sure+opn+hi)) (qC 7 72) (qC 9 74) (hr:=λw=>by have hx9:=HA2.out;go_simp)) ?_;refine Rc (bn (r:=.int .i64 (sure+opn+hi+1)) (qC 10 75) qE (hr:=λw=>by have hx9:=HA3.out;go_simp)) ?_;refine Rc (fa (jE g8) (qB 8)) ?_;refine Rc (lvC 4 B8' xE (qA 12 77)) ?_;refine Rc (bn (r:=.int .i64 (sure+opn+hi+1-next)) (qC 11 76) (qC 13 78) (hr:=λw=>by have hx9:=HA4.out;go_simp)) ?_;refine Rc (cl1 (en func110) (qA (fP:=iV (sure+opn+hi+1-next)) 14 79) (λx0 w' hE d0=>by{obtain rfl:x0=.int .i64 (sure+opn+hi+1-next):=d0;exact of_f w' (sure+opn+hi+1-next) yc})) ?_;refine Rc (fa (fa_Tr5 g8) (qB 8)) ?_;refine Rc (lvC 5 B8' ld_b (qA 16 81)) ?_;refine Rc (bkf (k1:=2) (qC 2 67) (qC 15 80) (qC 17 82) bd_Kn3) ?_;exact rn0
      intro v X5 e1 hZ _;replace S:=S.ext hJ hh e1;obtain⟨s5,a5,n5,c5,s6,a6,n6,c6,hv,g1,g2⟩:=hZ 18 dcx;simp only[lxE,Nat.reduceAdd];rw[hv];clear hv hZ e1 B8';replace g1:=g1.mono (show 2<=128 by decide);replace g2:=g2.mono (show 2<=128 by decide);refine stA 19 (h:=λK hK=>?_);exact tEv9_2
  ·exact tEv9_4
  · obtain⟨hR,hMA,hJA,h⟩:=h
    obtain⟨res,st2⟩:=rr;cases res with
    |ok q=>cases h
    |error nn=>cases h
theorem eval_first{σ:Type}{m:Mc}{J:σ->World->Prop}{w:World}{st:Mst σ}{x:ByteArray}{kk lo hi:Int}{s:Bool}{a:Option Addr}{n c:Nat}{g o mm cp:Nat}{ve:Value}{rr:Res Tr×Mst σ}(hJ:MapInv m.h J)(hh:m.h+3<=w.heap.size)(hM:MAt m st.1 w)(hj:J st.2 w)(HC:∀w',Rm m.h w w'->MAt m st.1 w'->J st.2 w'->w.heap.size<=w'.heap.size->Calls prog 113 #[.pointer (some ⟨m.h+2,0,none⟩),.agg #[.int .i64 10,.string x,.int .i64 kk,.bool s,.slice a n c,.int .i64 lo,.int .i64 hi,.slice (some ⟨g,o,none⟩) mm cp],ve] w' (SrP m J w' rr))(HBD:Hid (-1099511627776<=lo/\lo<=hi+1/\hi<=1099511627776))(HT:Hid (∀t st',rr=(.ok t,st')->lo<=t.next/\t.next<=hi+1/\0<=t.sure/\0<=t.opn/\t.sure+t.opn<=t.next-lo+1/\lo<=t.first/\t.first<=hi+1/\lo<=t.last/\t.last<=hi+1)):
    Calls prog 84 #[.pointer (some ⟨m.h+2,0,none⟩),.agg #[.int .i64 10,.string x,.int .i64 kk,.bool s,.slice a n c,.int .i64 lo,.int .i64 hi,.slice (some ⟨g,o,none⟩) mm cp],ve] w (EvP m J w (lpR true hi rr)):=by
  obtain⟨W,hW,S⟩:∃W,W=(w.alloc (.cells #[.int .i64 10,.string x,.int .i64 kk,.bool s,.slice a n c,.int .i64 lo,.int .i64 hi,.slice (some ⟨g,o,none⟩) mm cp] 31)).alloc (.cells #[.bool false,.slice none 0 0,.bool false,.slice none 0 0,.bool false] 176)/\EIv m J w [.int .i64 10,.string x,.int .i64 kk,.bool s,.slice a n c,.int .i64 lo,.int .i64 hi,.slice (some ⟨g,o,none⟩) mm cp] st W:=⟨_,rfl,EIv.start hJ hh hM hj _ _ _⟩;have hs0:=S.sz;go_enter func84,ntmps84;go_upto_region 1 with fail;rw[<-hW];clear hW;have d0:=S.b4.c 0 _ rfl;go_upto_region 17 with fail;clear d0;have hld:LdV prog 31 8:=λw' g' vs' hl B=>ld_Nd hl (λj v hj=>by rw[Nat.zero_add];exact B.c j v hj)
  refine rgs 3 (dR 86 3) [IsP (m.h+2) 0,IsV (.agg #[.int .i64 10,.string x,.int .i64 kk,.bool s,.slice a n c,.int .i64 lo,.int .i64 hi,.slice (some ⟨g,o,none⟩) mm cp]),IsV ve] [] ?_ ?_
  · refine Rc zv ?_
    refine Rc (lvV S.b4 hld (qB 4)) ?_;refine Rc yj ?_;exact rn0
  intro v X1 e1 hZ _;replace S:=S.ext hJ hh e1;simp only[lxE,Nat.reduceAdd];rw[show v 0=.pointer (some ⟨m.h+2,0,none⟩)from hZ 0 dcx,show v 1=.agg #[.int .i64 10,.string x,.int .i64 kk,.bool s,.slice a n c,.int .i64 lo,.int .i64 hi,.slice (some ⟨g,o,none⟩) mm cp]from hZ 1 dcx,show v 2=ve from hZ 2 dcx];clear hZ e1;refine stL (λK hK=>?_);refine xB (us:= [.pointer (some ⟨m.h+2,0,none⟩),.agg #[.int .i64 10,.string x,.int .i64 kk,.bool s,.slice a n c,.int .i64 lo,.int .i64 hi,.slice (some ⟨g,o,none⟩) mm cp],ve]) (en func113) za (HC _ S.rm S.mat S.j S.rm.size) (λv2 X2 h=>hK _ _ ?_) (λch X2 h=>?_) (λX2 h=>?_)
  · obtain⟨hR,hMA,hJA,h⟩:=h
    obtain⟨res,st2⟩:=rr;cases res with
    |error nn=>cases h
    | ok q=>
      cases h;have HQ:=hid (HT.out q st2 rfl);obtain⟨sure,opn,first,last,next,fq⟩:=q;replace S:=S.call hh hR hMA hJA;clear hK K hR hMA hJA;have hs2:=S.sz
      go_simp
      refine stL (λK hK=>?_);refine xF (vs:= [.int .i64 0,.int .i64 0,.int .i64 0,.int .i64 0,.int .i64 0,.bool false]) al_Tr (λB8 e1=>hK _ _ ?_);replace S:=S.ext hJ hh e1;obtain⟨g8,hg8⟩:∃g,X2.heap.size=g:=⟨_,rfl⟩;rw[hg8]at B8 hs2 ⊢;generalize X2.alloc (.cells [Value.int .i64 0,.int .i64 0,.int .i64 0,.int .i64 0,.int .i64 0,.bool false].toArray 205)=X3 at S B8 ⊢;clear hK K e1 hg8
      go_simp
      refine stL (λK hK=>?_);refine qZ (us:= [.int .i64 sure,.int .i64 opn,.int .i64 first,.int .i64 last,.int .i64 next,.bool fq]) B8 st_Tr rfl rfl nwT (λX4 B8' O=>hK _ _ ?_);replace S:=S.only hJ hh O hs2;clear B8 hK K O;refine jL ?_;go_upto_region 18 with fail;refine rg 9 (dR 90 9) [IsP g8 2,iV (first),IsI 2 first,IsP g8 3,iV (last),IsI 2 last,IsP g8 5,IsV (.bool fq),IsKn 2 first last fq] [] 1 ?_ ?_
      · refine Rc (fa (fa_Tr2 g8) (qB 9)) ?_
        refine Rc (lvC 2 B8' xE (qA 0 90)) ?_;refine Rc (cl1 (en func110) (qA (fP:=iV (first)) 1 91) (λx0 w' hE d0=>by{obtain rfl:x0=.int .i64 (first):=d0;exact of_f w' (first) yc})) ?_;refine Rc (fa (fa_Tr3 g8) (qB 9)) ?_;refine Rc (lvC 3 B8' xE (qA 3 93)) ?_;refine Rc (cl1 (en func110) (qA (fP:=iV (last)) 4 94) (λx0 w' hE d0=>by{obtain rfl:x0=.int .i64 (last):=d0;exact of_f w' (last) yc})) ?_;refine Rc (fa (fa_Tr5 g8) (qB 9)) ?_;refine Rc (lvC 5 B8' ld_b (qA 6 96)) ?_;refine Rc (bkf (k1:=2) (qC 2 92) (qC 5 95) (qC 7 97) bd_Kn3) ?_;exact rn0
      intro v X5 e1 hZ _;replace S:=S.ext hJ hh e1;obtain⟨s5,a5,n5,c5,s6,a6,n6,c6,hv,g1,g2⟩:=hZ 8 dcx;simp only[lxE,Nat.reduceAdd];rw[hv];clear hv hZ e1 B8';replace g1:=g1.mono (show 2<=128 by decide);replace g2:=g2.mono (show 2<=128 by decide);refine stA 9 (h:=λK hK=>?_);exact tEv9_2
  ·exact tEv9_4
  · obtain⟨hR,hMA,hJA,h⟩:=h
    obtain⟨res,st2⟩:=rr;cases res with
    |ok q=>cases h
    |error nn=>cases h
end
section
open Go Go.RowKit
open Go.Proofs.Tryz
theorem zr{P:Prop}(h:P:=by simpa [xS]using h):P:=h
set_option maxRecDepth 100000
set_option maxHeartbeats 8000000
def xS:List (Int×FuncId):= [(4,138),(5,141),(6,143),(7,146),(8,147),(12,148),(13,151)]
def opsC:List Value:= [.int .i64 4,.func (.func 138) #[] #[],.int .i64 5,.func (.func 141) #[] #[],.int .i64 6,.func (.func 143) #[] #[],.int .i64 7,.func (.func 146) #[] #[],.int .i64 8,.func (.func 147) #[] #[],.int .i64 12,.func (.func 148) #[] #[],.int .i64 13,.func (.func 151) #[] #[]]
def IsOps(B:Nat):Value->World->Prop:=λx w=>∃g,x=.slice (some ⟨g,0,none⟩) 7 7/\B<=g/\Bk w g opsC
theorem IsOps.stb(B:Nat):Stb (IsOps B):=λ_ _ _ e ⟨g,h1,h2,h3⟩=>⟨g,h1,h2,h3.ext e⟩
instance (B:Nat):StbC (IsOps B):=⟨IsOps.stb B⟩
theorem operations_f(w:World)(B:Nat)(hB:B<=w.heap.size):Calls prog 114 #[] w (Ret w (IsOps B)):=by
  go_enter func114,ntmps114;go_wp2_with fail
  go_ret
  exact⟨_,rfl,(Ext.refl _).alloc _,_,rfl,hB,Bk.new w _ _⟩
theorem opsT_at:∀ {j:Nat} {op:Int} {f:FuncId},xS[j]? =some (op,f)->j<7/\opsC[2*j]? =some (.int .i64 op)/\opsC[2*j+1]? =some (.func (.func f) #[] #[])
  | 0,_,_,h=>by
    obtain⟨rfl,rfl⟩:(4:Int)=_/\(138:FuncId)=_:=zr
    exact⟨by decide,rfl,rfl⟩
  | 1,_,_,h=>by
    obtain⟨rfl,rfl⟩:(5:Int)=_/\(141:FuncId)=_:=zr
    exact⟨by decide,rfl,rfl⟩
  | 2,_,_,h=>by
    obtain⟨rfl,rfl⟩:(6:Int)=_/\(143:FuncId)=_:=zr
    exact⟨by decide,rfl,rfl⟩
  | 3,_,_,h=>by
    obtain⟨rfl,rfl⟩:(7:Int)=_/\(146:FuncId)=_:=zr
    exact⟨by decide,rfl,rfl⟩
  | 4,_,_,h=>by
    obtain⟨rfl,rfl⟩:(8:Int)=_/\(147:FuncId)=_:=zr
    exact⟨by decide,rfl,rfl⟩
  | 5,_,_,h=>by
    obtain⟨rfl,rfl⟩:(12:Int)=_/\(148:FuncId)=_:=zr
    exact⟨by decide,rfl,rfl⟩
  | 6,_,_,h=>by
    obtain⟨rfl,rfl⟩:(13:Int)=_/\(151:FuncId)=_:=zr
    exact⟨by decide,rfl,rfl⟩
  |j+7,_,_,h=>by simp[xS]at h
theorem opsT_inj{j k:Nat}{op:Int}{f f':FuncId}(h:xS[j]? =some (op,f))(h':xS[k]? =some (op,f')):j=k:=by
  have h1:=(opsT_at h).1;have h2:=(opsT_at h').1;have:∀j k:Fin 7,(xS[j.1]?).map (·.1)=(xS[k.1]?).map (·.1)->j=k:=by decide
  have:=this ⟨j,h1⟩ ⟨k,h2⟩ (by rw[h,h'];rfl)
  simpa using this
theorem opsT_of{op:Int}(h:op=4\/op=5\/op=6\/op=7\/op=8\/op=12\/op=13):∃(j:Nat) (f:FuncId),xS[j]? =some (op,f):=by
  rcases h with rfl|rfl|rfl|rfl|rfl|rfl|rfl
  ·exact⟨0,_,rfl⟩
  ·exact⟨1,_,rfl⟩
  ·exact⟨2,_,rfl⟩
  ·exact⟨3,_,rfl⟩
  ·exact⟨4,_,rfl⟩
  ·exact⟨5,_,rfl⟩
  ·exact⟨6,_,rfl⟩
theorem opsT_en{j:Nat}{op:Int}{f:FuncId}(h:xS[j]? =some (op,f)):∀args w,(callFunc f args).run prog w=.ok (.enter f args) w:=by
  have h1:=(opsT_at h).1
  match j,h1,h with
  | 0,_,h=>
    obtain⟨rfl,rfl⟩:(4:Int)=_/\(138:FuncId)=_:=zr
    exact en func138
  | 1,_,h=>
    obtain⟨rfl,rfl⟩:(5:Int)=_/\(141:FuncId)=_:=zr
    exact en func141
  | 2,_,h=>
    obtain⟨rfl,rfl⟩:(6:Int)=_/\(143:FuncId)=_:=zr
    exact en func143
  | 3,_,h=>
    obtain⟨rfl,rfl⟩:(7:Int)=_/\(146:FuncId)=_:=zr
    exact en func146
  | 4,_,h=>
    obtain⟨rfl,rfl⟩:(8:Int)=_/\(147:FuncId)=_:=zr
    exact en func147
  | 5,_,h=>
    obtain⟨rfl,rfl⟩:(12:Int)=_/\(148:FuncId)=_:=zr
    exact en func148
  | 6,_,h=>
    obtain⟨rfl,rfl⟩:(13:Int)=_/\(151:FuncId)=_:=zr
    exact en func151
theorem cmpI_neg(a b:Int):decide (qM a b<0)=decide (a<b):=by
  unfold qM;by_cases h:a<b
  ·simp[h]
  ·by_cases h2:b<a <;> simp[h,h2]
theorem cmpI_nn(a b:Int):decide (0<=qM a b)=decide (b<=a):=by
  unfold qM;by_cases h:a<b
  · have:¬b<=a:=by omega
    simp[h,this]
  · have h1:b<=a:=by omega
    by_cases h2:b<a <;> simp[h,h1,h2]
theorem cmpI_zero(a b:Int):(qM a b==0)=decide (a=b):=by
  unfold qM;by_cases h:a<b
  · have:¬a=b:=by omega
    simp[h,this]
  · by_cases h2:b<a
    · have:¬a=b:=by omega
      simp[h,h2,this]
    · have:a=b:=by omega
      simp[this]
theorem cmpI_z{a b:Int}:qM a b=0↔a=b:=by
  have:=cmpI_zero a b;constructor
  ·intro h;rw[h]at this;simpa using this.symm
  ·intro h;simpa [h]using this
theorem OpP.of{w:World}{k:Nat}{q:Kn}{e:Ending}{w':World}(h:Ret w (IsK k q) e w')(hk:k<=128):OpP w (.ok q) e w':=let ⟨v,h1,h2,h3⟩:=h;⟨h2,v,h1,h3.mono hk⟩
theorem shortP{k:Nat}{u v:Int}{w:World}{P:FuncId}{args:Array Value}
    (hy:∀m1 m2 r:Int,Hid (((bitLen u.natAbs:Nat):Int)=m1)->Hid (((bitLen v.natAbs:Nat):Int)=m2)->Hid ((if m2 >m1 then m2 else m1)=r)->Hid (¬r >4096)->Calls prog P args w (Ret w (IsKn k u v false)))
    (hn:∀m1 m2 r:Int,Hid (((bitLen u.natAbs:Nat):Int)=m1)->Hid (((bitLen v.natAbs:Nat):Int)=m2)->Hid ((if m2 >m1 then m2 else m1)=r)->Hid (r >4096)->Calls prog P args w (λe w'=>e=.panicked (pan 2)/\Ext w w')):Calls prog P args w (OpP w (xU ⟨u,v,false⟩)):=by
  by_cases hb:4096<max (bitLen u.natAbs) (bitLen v.natAbs)
  · rw[xU,if_pos hb]
    exact jJ (hn _ _ _ (hid rfl) (hid rfl) (hid rfl) (hid (by split <;> omega))) λe w' h=>⟨h.2,h.1⟩
  · rw[xU,if_neg hb]
    exact jJ (hy _ _ _ (hid rfl) (hid rfl) (hid rfl) (hid (by split <;> omega))) λe w' h=>let ⟨v,h1,h2,h3⟩:=h;⟨h2,v,h1,h3.tight (bitLen_lt (by omega)) (bitLen_lt (by omega))⟩
theorem op_all{j:Nat}{op:Int}{f:FuncId}(h:xS[j]? =some (op,f)){p q:Kn}{x y:Value}{w:World}(hx:IsK 128 p x w)(hy:IsK 128 q y w):Calls prog f #[x,y] w (OpP w (opV op p q)):=by
  obtain⟨l1,u1,f1⟩:=p;obtain⟨l2,u2,f2⟩:=q;have hK:Hid (128<=1000):=hid dcx;have h1:=(opsT_at h).1
  match j,h1,h with
  | 0,_,h=>
    obtain⟨rfl,rfl⟩:(4:Int)=_/\(138:FuncId)=_:=zr
    rw[show opV 4 ⟨l1,u1,f1⟩ ⟨l2,u2,f2⟩=xU ⟨l1+l2,u1+u2,false⟩from rfl];exact shortP (λm1 m2 r a b c d=>opA_y hx hy hK (hid rfl) (hid rfl) a b c d) (λm1 m2 r a b c d=>opA_n hx hy hK (hid rfl) (hid rfl) a b c d)
  | 1,_,h=>
    obtain⟨rfl,rfl⟩:(5:Int)=_/\(141:FuncId)=_:=zr
    rw[show opV 5 ⟨l1,u1,f1⟩ ⟨l2,u2,f2⟩=xU ⟨l1-u2,u1-l2,false⟩from rfl];exact shortP (λm1 m2 r a b c d=>opS_y hx hy hK (hid rfl) (hid rfl) a b c d) (λm1 m2 r a b c d=>opS_n hx hy hK (hid rfl) (hid rfl) a b c d)
  | 2,_,h=>
    obtain⟨rfl,rfl⟩:(6:Int)=_/\(143:FuncId)=_:=zr
    exact opM_f hx hy hK
  | 3,_,h=>
    obtain⟨rfl,rfl⟩:(7:Int)=_/\(146:FuncId)=_:=zr
    exact jJ (opL_f hx hy hK) λe w' h=>OpP.of (q:=⟨min l1 l2,min u1 u2,false⟩) h dcx
  | 4,_,h=>
    obtain⟨rfl,rfl⟩:(8:Int)=_/\(147:FuncId)=_:=zr
    exact jJ (opG_f hx hy hK) λe w' h=>OpP.of (q:=⟨max l1 l2,max u1 u2,false⟩) h dcx
  | 5,_,h=>
    obtain⟨rfl,rfl⟩:(12:Int)=_/\(148:FuncId)=_:=zr
    rw[show opV 12 ⟨l1,u1,f1⟩ ⟨l2,u2,f2⟩=.ok (xI (decide (u1<l2)) (decide (u2<=l1)))from rfl,<-cmpI_neg,<-cmpI_nn];exact jJ (opLess_f hx hy hK (hid rfl) (hid rfl) (hid rfl) (hid rfl)) λe w' h=>OpP.of h dcx
  | 6,_,h=>
    obtain⟨rfl,rfl⟩:(13:Int)=_/\(151:FuncId)=_:=zr
    rw[show opV 13 ⟨l1,u1,f1⟩ ⟨l2,u2,f2⟩=.ok (xI (decide (l1=u2)&&decide (l2=u1)) (decide (u1<l2)||decide (u2<l1)))from rfl];by_cases c1:u1<l2
    · have d1:decide (qM u1 l2<0)=true:=by rw[cmpI_neg];exact decide_eq_true c1
      rw[decide_eq_true c1,Bool.true_or];by_cases c3:l1=u2
      · rw[decide_eq_true c3,Bool.true_and,<-cmpI_zero]
        exact jJ (opEq_tt (_b2:=true) (_c2':=0) hx hy hK (hid rfl) (hid d1) (hid rfl) (hid (cmpI_z.2 c3)) (hid rfl) (hid rfl)) λe w' h=>OpP.of h dcx
      · rw[decide_eq_false c3,Bool.false_and]
        exact jJ (opEq_tf (_b2:=true) (_b4:=true) (_c2':=0) (_c4':=0) hx hy hK (hid rfl) (hid d1) (hid rfl) (hid (λhh=>c3 (cmpI_z.1 hh)))) λe w' h=>OpP.of h dcx
    · have d1:decide (qM u1 l2<0)=false:=by rw[cmpI_neg];exact decide_eq_false c1
      rw[decide_eq_false c1,Bool.false_or,<-cmpI_neg u2 l1];by_cases c3:l1=u2
      · rw[decide_eq_true c3,Bool.true_and,<-cmpI_zero]
        exact jJ (opEq_ft hx hy hK (hid rfl) (hid d1) (hid rfl) (hid rfl) (hid rfl) (hid (cmpI_z.2 c3)) (hid rfl) (hid rfl)) λe w' h=>OpP.of h dcx
      · rw[decide_eq_false c3,Bool.false_and]
        exact jJ (opEq_ff (_b4:=true) (_c4':=0) hx hy hK (hid rfl) (hid d1) (hid rfl) (hid rfl) (hid rfl) (hid (λhh=>c3 (cmpI_z.1 hh)))) λe w' h=>OpP.of h dcx
theorem wp_callV{P:Program}{Q:Exit->Act->World->Prop}{o:Oper}{f:FuncId}{c:Call}{t:Operand}{a:Act}{w:World}{K:Act->World->Prop}{R:Ending->World->Prop}{xs:List Operand}{us:List Value}(he:∀args w,(callFunc f args).run P w=.ok (.enter f args) w)(ht:a.eval t=.func (.func f) #[] #[])(hx:xs.map a.eval=us)
    (h:Calls P f us.toArray w R) (h1:∀v w',R (.returned v) w'->K (a.put o.dst v) w') (h2:∀ch w',R (.panicked ch) w'->Q (.panic ch) a w') (h3:∀w',¬R .outgrown w')
    (ho:o.op=.call c:=by rfl) (hc:c.callee=.value t:=by rfl) (ha:c.args=xs.toArray:=by rfl):Oper.wp P o a w K Q:=by
  have hr:(execOp a.eval o).run P w=.ok (.enter f (c.args.map a.eval)) w:=by
    unfold execOp;rw[ho];dsimp only;unfold resolve;rw[hc];simp[invoke,he,ht,Deferred.ofValue]
  unfold Oper.wp;rw[hr,Oper.upon_enter,ha,List.map_toArray,hx];refine jJ h ?_;intro e w2 hR;cases e with
  |returned v=>exact h1 v w2 hR
  |panicked ch=>exact h2 ch w2 hR
  |outgrown=>exact absurd hR (h3 w2)
set_option maxRecDepth 100000
theorem lenOps{B:Nat}{ops:Array Oper}{Q:Exit->Act->World->Prop}{ds:List (Option Tmp)}{a0:Act}{w0:World}{L:List (Value->World->Prop)}{boxes:List Nat}{i:Nat}{o:Oper}{x:Operand}(hx:Od ops ds a0 w0 L i x (IsOps B))(ho:o.op=.call {callee:=.builtin .len,args:= #[x],argTypes:= #[207]} :=by rfl)(hi:L.getD i (λ_ _=>True)=iV 7:=by kernel_rfl)(hb:boxes.contains i=false:=by kernel_rfl):Ok prog ops Q ds a0 w0 L boxes i o:=
  Ok.of hb λv a w hE hd hf=>by
    obtain⟨g,h1,_⟩:=hx.out v a w hE hd hf;refine⟨_,?_,by rw[hi];exact rfl⟩;unfold execOp;rw[ho];dsimp only;unfold resolve;simp only[List.map_toArray,List.map_cons,List.map_nil,h1]
    go_simp
theorem ix_Op(g j:Nat)(h:j<7)(w:World):(Instr.indexAt 207 (.slice (some ⟨g,0,none⟩) 7 7) (.int .i64 (j:Int))).run prog w=.ok (.pointer (some ⟨g,2*j,none⟩)) w:=by
  have h1:(0:Int)<=(j:Int):=by omega
  have h2:(j:Int)<7:=by omega
  have h3:0+j*2=2*j:=by omega
  have h4:j*2=2*j:=by omega
  go_simp
theorem ld_Op(g f:Nat)(w:World)(z:Int)(u:FuncId)(h0:World.cell? w ⟨g,f,none⟩=some (.int .i64 z))(h1:World.cell? w ⟨g,f+1,none⟩=some (.func (.func u) #[] #[])):(Instr.loadAt 211 (.pointer (some ⟨g,f,none⟩))).run prog w=.ok (.agg #[.int .i64 z,.func (.func u) #[] #[]]) w:=by go_simp
theorem al_Op(w:World):(Instr.alloc 211 true (.tuple #[])).run prog w=.ok (.pointer (some ⟨w.heap.size,0,none⟩)) (w.alloc (.cells [.int .i64 0,.nilFunc].toArray 211)):=by go_simp
theorem fa_Op0(g:Nat)(w:World):(Instr.fieldAt 211 (.pointer (some ⟨g,0,none⟩)) 0).run prog w=.ok (.pointer (some ⟨g,0,none⟩)) w:=by go_simp
theorem fa_Op1(g:Nat)(w:World):(Instr.fieldAt 211 (.pointer (some ⟨g,0,none⟩)) 1).run prog w=.ok (.pointer (some ⟨g,1,none⟩)) w:=by go_simp
theorem opsT_mem{j:Nat}{op:Int}{f:FuncId}(h:xS[j]? =some (op,f)):op=4\/op=5\/op=6\/op=7\/op=8\/op=12\/op=13:=by
  have h2:(op,f)∈xS:=List.mem_of_getElem? h;simp only[xS,List.mem_cons,Prod.mk.injEq,List.not_mem_nil,or_false]at h2;rcases h2 with h|h|h|h|h|h|h
  ·exact .inl h.1
  ·exact .inr (.inl h.1)
  ·exact .inr (.inr (.inl h.1))
  ·exact .inr (.inr (.inr (.inl h.1)))
  ·exact .inr (.inr (.inr (.inr (.inl h.1))))
  ·exact .inr (.inr (.inr (.inr (.inr (.inl h.1)))))
  ·exact .inr (.inr (.inr (.inr (.inr (.inr h.1)))))
def binR{σ:Type}(op:Int)(r1 r2:Res Kn×Mst σ):Res Kn×Mst σ:=
  match r1 with
  | (.error n,st')=>(.error n,st')
  | (.ok p,_)=>match r2 with
    | (.error n,st2)=>(.error n,st2)
    | (.ok q,st2)=>match opV op p q with
      | .error n=>(.error n,st2)
      | .ok r=>(.ok ⟨r.lo,r.hi,p.fin&&q.fin⟩,st2)
theorem binR_ok{σ:Type}{op:Int}{p q r:Kn}{s1 s2:Mst σ}(h:opV op p q=.ok r):binR op (.ok p,s1) (.ok q,s2)=(.ok ⟨r.lo,r.hi,p.fin&&q.fin⟩,s2):=by simp only[binR,h]
theorem binR_er{σ:Type}{op:Int}{p q:Kn}{n:Int}{s1 s2:Mst σ}(h:opV op p q=.error n):binR op (.ok p,s1) (.ok q,s2)=(.error n,s2):=by simp only[binR,h]
theorem ld_Fn:LdC1 prog 209:=λw a v h=>by go_simp
theorem st_Op:StV prog 211 2:=by
  intro w g vs us h1 h2 hs B
  match vs,h1 with
  | [v0,v1],_=>
    match us,h2 with
    | [u0,u1],_=>
      simp only[List.all_cons,List.all_nil,Bool.and_true,Bool.and_eq_true]at hs;obtain⟨s0,s1⟩:=hs;have r0:=λw a m=>run_store prog w a u0 m s0;have r1:=λw a m=>run_store prog w a u1 m s1
      have c0:=B.c 0 _ rfl;have c1:=B.c 1 _ rfl;have f0:=B.f 0;have f1:=B.f 1;clear B s0 s1;simp only[xJ]
      go_simp
theorem nwO:∀v∈ [Value.int .i64 0,.nilFunc],NoWord v:=by
  intro v hv;simp only[List.mem_cons,List.not_mem_nil,or_false]at hv;rcases hv with rfl|rfl
  ·exact NoWord.int64 _
  ·exact λx=>by simp
structure BIv {σ:Type} (m:Mc) (J:σ->World->Prop) (w:World) (us:List Value) (st:Mst σ) (gA gB gC gD:Nat) (cA cB:List Value) (pl ph ql qh:Int) (x1 x2 x3 x4:Value) (ro:Option Kn) (W:World):Prop where
  s:EIv m J w us st W
  ba:Bk W gA cA
  bb:Bk W gB cB
  bd:Bk W gD opsC
  k1:IsI 128 pl x1 W
  k2:IsI 128 ph x2 W
  k3:IsI 128 ql x3 W
  k4:IsI 128 qh x4 W
  r:match ro with
    |none=>Bk W gC [.bool false,.slice none 0 0,.bool false,.slice none 0 0,.bool false]
    |some r=>∃s a n c s' a' n' c',Bk W gC [.bool s,.slice a n c,.bool s',.slice a' n' c',.bool r.fin]/\IsI 128 r.lo (.agg #[.bool s,.slice a n c]) W/\IsI 128 r.hi (.agg #[.bool s',.slice a' n' c']) W
section
variable {σ:Type} {m:Mc} {J:σ->World->Prop} {w:World} {us:List Value} {st:Mst σ} {gA gB gC gD gE:Nat} {cA cB:List Value} {pl ph ql qh:Int} {x1 x2 x3 x4:Value} {ro:Option Kn} {W W':World}
theorem BIv.bn(S:BIv m J w us st gA gB gC gD cA cB pl ph ql qh x1 x2 x3 x4 none W):Bk W gC [.bool false,.slice none 0 0,.bool false,.slice none 0 0,.bool false]:=S.r
theorem BIv.ext(S:BIv m J w us st gA gB gC gD cA cB pl ph ql qh x1 x2 x3 x4 ro W)(hJ:MapInv m.h J)(hh:m.h+3<=w.heap.size)(e:Ext W W'):BIv m J w us st gA gB gC gD cA cB pl ph ql qh x1 x2 x3 x4 ro W':=
  ⟨S.s.ext hJ hh e,S.ba.ext e,S.bb.ext e,S.bd.ext e,S.k1.ext e,S.k2.ext e,S.k3.ext e,S.k4.ext e,by
    have:=S.r;cases ro with
    |none=>exact Bk.ext this e
    |some r=>obtain⟨s,a,n,c,s',a',n',c',B,h1,h2⟩:=this;exact⟨s,a,n,c,s',a',n',c',B.ext e,h1.ext e,h2.ext e⟩⟩
theorem BIv.only(S:BIv m J w us st gA gB gC gD cA cB pl ph ql qh x1 x2 x3 x4 ro W)(hJ:MapInv m.h J)(hh:m.h+3<=w.heap.size)(O:OnlyB gE W W')(hg:w.heap.size+2<=gE/\gA<gE/\gB<gE/\gC<gE/\gD<gE):BIv m J w us st gA gB gC gD cA cB pl ph ql qh x1 x2 x3 x4 ro W':=
  ⟨S.s.only hJ hh O hg.1,O.bk S.ba (by omega),O.bk S.bb (by omega),O.bk S.bd (by omega),IsI.gstb _ _ _ _ _ O.gr S.k1,IsI.gstb _ _ _ _ _ O.gr S.k2,IsI.gstb _ _ _ _ _ O.gr S.k3,IsI.gstb _ _ _ _ _ O.gr S.k4,by
    have:=S.r;cases ro with
    |none=>exact O.bk this (by omega)
    |some r=>obtain⟨s,a,n,c,s',a',n',c',B,h1,h2⟩:=this;exact⟨s,a,n,c,s',a',n',c',O.bk B (by omega),IsI.gstb _ _ _ _ _ O.gr h1,IsI.gstb _ _ _ _ _ O.gr h2⟩⟩
theorem BIv.put{r:Kn}{s:Bool}{a:Option Addr}{n c:Nat}{s':Bool}{a':Option Addr}{n' c':Nat}(S:BIv m J w us st gA gB gC gD cA cB pl ph ql qh x1 x2 x3 x4 none W)(hJ:MapInv m.h J)(hh:m.h+3<=w.heap.size)(hg:w.heap.size+2<=gA/\gA<gB/\gB<gC/\gC<gD)(O:OnlyB gC W W')
    (B:Bk W' gC [.bool s,.slice a n c,.bool s',.slice a' n' c',.bool r.fin]) (h1:IsI 128 r.lo (.agg #[.bool s,.slice a n c]) W) (h2:IsI 128 r.hi (.agg #[.bool s',.slice a' n' c']) W):BIv m J w us st gA gB gC gD cA cB pl ph ql qh x1 x2 x3 x4 (some r) W':=
  ⟨S.s.only hJ hh O (by omega),O.bk S.ba (by omega),O.bk S.bb (by omega),O.bk S.bd (by omega),IsI.gstb _ _ _ _ _ O.gr S.k1,IsI.gstb _ _ _ _ _ O.gr S.k2,IsI.gstb _ _ _ _ _ O.gr S.k3,IsI.gstb _ _ _ _ _ O.gr S.k4,s,a,n,c,s',a',n',c',B,IsI.gstb _ _ _ _ _ O.gr h1,IsI.gstb _ _ _ _ _ O.gr h2⟩
end
theorem tEv10_1{P:Prop}(h:P:=by
  refine Rc (bn (r:=.int .i64 ((j:Int)+1)) (qB (x:=.int .i64 (j:Int)) 115) qE (hr:=λw=>by have hx9:=HI1.out;go_simp)) ?_;exact rn0
  ):P:=h
theorem tEv10_2{P:Prop}(h:P:=by
  cases res with
  |ok q=>obtain⟨_,hv,_⟩:=h;cases hv
  | error nn=>
    cases h;exact⟨rfl,S.rm.trans hR,hMA,hJA,rfl⟩
  ):P:=h
theorem eval_bin {σ:Type}{m:Mc}{J:σ->World->Prop}{w:World}{st:Mst σ}{op kk lo hi:Int}{x:ByteArray}{s:Bool}{a:Option Addr}{n c:Nat}{g o mm cp:Nat}{ve:Value}{vs1 vs2:List Value}{j0:Nat}{f0:FuncId}{r1 r2:Res Kn×Mst σ}(hJ:MapInv m.h J)(hh:m.h+3<=w.heap.size)(hM:MAt m st.1 w)(hj:J st.2 w)(HM:Hid (2<=mm/\mm<=9223372036854775807/\g<m.h))(HV1:Hid (vs1.length=8/\∀j v,vs1[j]? =some v->World.cell? w ⟨g,o+j,none⟩=some v))(HV2:Hid (vs2.length=8/\∀j v,vs2[j]? =some v->World.cell? w ⟨g,o+8+j,none⟩=some v))(HOP:Hid (xS[j0]? =some (op,f0)))
    (HC1:Hid (∀w',Rm m.h w w'->MAt m st.1 w'->J st.2 w'->w.heap.size<=w'.heap.size->Calls prog 84 #[.pointer (some ⟨m.h+2,0,none⟩),.agg vs1.toArray,ve] w' (EvP m J w' r1))) (HC2:Hid (∀w',Rm m.h w w'->MAt m r1.2.1 w'->J r1.2.2 w'->w.heap.size<=w'.heap.size->Calls prog 84 #[.pointer (some ⟨m.h+2,0,none⟩),.agg vs2.toArray,ve] w' (EvP m J w' r2))):
    Calls prog 84 #[.pointer (some ⟨m.h+2,0,none⟩),.agg #[.int .i64 op,.string x,.int .i64 kk,.bool s,.slice a n c,.int .i64 lo,.int .i64 hi,.slice (some ⟨g,o,none⟩) mm cp],ve] w (EvP m J w (binR op r1 r2)):=by
  obtain⟨n1,n2,n3,n4,n5,n6⟩:(op==1)=false/\(op==11)=false/\(op==2)=false/\(op==3)=false/\(op==9)=false/\(op==10)=false:=by
    have h:=opsT_mem HOP.out;rcases h with rfl|rfl|rfl|rfl|rfl|rfl|rfl <;> decide
  obtain⟨W,hW,S⟩:∃W,W=(w.alloc (.cells #[.int .i64 op,.string x,.int .i64 kk,.bool s,.slice a n c,.int .i64 lo,.int .i64 hi,.slice (some ⟨g,o,none⟩) mm cp] 31)).alloc (.cells #[.bool false,.slice none 0 0,.bool false,.slice none 0 0,.bool false] 176)/\EIv m J w [.int .i64 op,.string x,.int .i64 kk,.bool s,.slice a n c,.int .i64 lo,.int .i64 hi,.slice (some ⟨g,o,none⟩) mm cp] st W:=⟨_,rfl,EIv.start hJ hh hM hj _ _ _⟩;have hs0:=S.sz;go_enter func84,ntmps84;go_upto_region 1 with fail;rw[<-hW];clear hW;have d0:=S.b4.c 0 _ rfl;go_upto_region 19 with fail;clear d0 n1 n2 n3 n4 n5 n6;refine rgs 6 (dR 99 6) [IsP (m.h+2) 0,IsP (w.heap.size) 7,IsV (.slice (some ⟨g,o,none⟩) mm cp),IsP g o,IsV (.agg vs1.toArray),IsV ve] [] ?_ ?_
  · refine Rc zv ?_
    refine Rc zax ?_;refine Rc (lvC 7 S.b4 ld_Nds (qA 1 100)) ?_;refine Rc (ixq (ia_Nd0 (g:=g) (o:=o) (n:=mm) (c:=cp) (by have:=HM.out;omega)) (qA 2 101) qE) ?_;refine Rc (lv (fP:=IsV (.agg vs1.toArray)) _ (λw' e=>ld_Nd (o:=o) HV1.out.1 (λj v hj=>e.cell (S.rm.cell (HV1.out.2 j v hj) (.inl HM.out.2.2)))) (qA 3 102) (λ_ _=>rfl)) ?_;refine Rc yj ?_;exact rn0
  intro v X1 e1 hZ _;replace S:=S.ext hJ hh e1;simp only[lxE,Nat.reduceAdd];rw[show v 0=.pointer (some ⟨m.h+2,0,none⟩)from hZ 0 dcx,show v 4=.agg vs1.toArray from hZ 4 dcx,show v 5=ve from hZ 5 dcx];clear hZ e1;refine stL (λK hK=>?_);refine xB (us:= [.pointer (some ⟨m.h+2,0,none⟩),.agg vs1.toArray,ve]) (en func84) za (HC1.out _ S.rm S.mat S.j S.rm.size) (λv2 X2 h=>hK _ _ ?_) (λch X2 h=>?_) (λX2 h=>?_)
  · obtain ⟨hR,hMA,hJA,h⟩:=h
    obtain⟨res,st1⟩:=r1;cases res with
    |error nn=>cases h
    | ok p=>
      obtain⟨_,hv,sA1,aA1,nA1,cA1,sA2,aA2,nA2,cA2,hv2,kA1,kA2⟩:=h;cases hv;subst hv2;replace S:=S.call hh hR hMA hJA;obtain⟨pl,ph,fA⟩:=p;simp only at kA1 kA2;clear hK K hR hMA hJA;have hs2:=S.sz
      go_simp
      refine stL (λK hK=>?_);refine xF (vs:= [.bool false,.slice none 0 0,.bool false,.slice none 0 0,.bool false]) al_Kn (λBA e1=>hK _ _ ?_);replace S:=S.ext hJ hh e1;replace kA1:=IsI.gstb _ _ _ _ _ e1.gr kA1;replace kA2:=IsI.gstb _ _ _ _ _ e1.gr kA2;obtain⟨gA,hgA⟩:∃g,X2.heap.size=g:=⟨_,rfl⟩;rw[hgA]at BA hs2 ⊢;have hGA:=BA.lt;generalize X2.alloc (.cells [Value.bool false,.slice none 0 0,.bool false,.slice none 0 0,.bool false].toArray 176)=Y1 at S BA kA1 kA2 hGA ⊢;clear hK K e1
      go_simp
      refine stL (λK hK=>?_);refine qZ (us:= [.bool sA1,.slice aA1 nA1 cA1,.bool sA2,.slice aA2 nA2 cA2,.bool fA]) BA xP rfl rfl nw5 (λZ1 BA' O=>hK _ _ ?_);replace S:=S.only hJ hh O (by omega);replace kA1:=IsI.gstb _ _ _ _ _ O.gr kA1;replace kA2:=IsI.gstb _ _ _ _ _ O.gr kA2;clear BA hK K O hgA;have BA:=BA';clear BA';have hGA:=BA.lt;refine jL ?_;go_upto_region 20 with fail;refine rgs 6 (dR 106 6) [IsP (m.h+2) 0,IsP (w.heap.size) 7,IsV (.slice (some ⟨g,o,none⟩) mm cp),IsP g (o+8),IsV (.agg vs2.toArray),IsV ve] [] ?_ ?_
      · refine Rc zv ?_
        refine Rc zax ?_;refine Rc (lvC 7 S.b4 ld_Nds (qA 1 107)) ?_;refine Rc (ixq (ia_Nd1 (g:=g) (o:=o) (n:=mm) (c:=cp) (by have:=HM.out;omega)) (qA 2 108) qE) ?_;refine Rc (lv (fP:=IsV (.agg vs2.toArray)) _ (λw' e=>ld_Nd (o:=o+8) HV2.out.1 (λj v hj=>e.cell (S.rm.cell (HV2.out.2 j v hj) (.inl HM.out.2.2)))) (qA 3 109) (λ_ _=>rfl)) ?_;refine Rc yj ?_;exact rn0
      intro v X2 e1 hZ _;replace S:=S.ext hJ hh e1;replace BA:=BA.ext e1;replace kA1:=IsI.gstb _ _ _ _ _ e1.gr kA1;replace kA2:=IsI.gstb _ _ _ _ _ e1.gr kA2;simp only[lxE,Nat.reduceAdd];rw[show v 0=.pointer (some ⟨m.h+2,0,none⟩)from hZ 0 dcx,show v 4=.agg vs2.toArray from hZ 4 dcx,show v 5=ve from hZ 5 dcx];clear hZ e1;refine stL (λK hK=>?_);refine xB (us:= [.pointer (some ⟨m.h+2,0,none⟩),.agg vs2.toArray,ve]) (en func84) za (HC2.out _ S.rm S.mat S.j S.rm.size) (λv2 X4 h=>hK _ _ ?_) (λch X4 h=>?_) (λX4 h=>?_)
      · obtain ⟨hR,hMA,hJA,h⟩:=h
        obtain⟨res,st2⟩:=r2;cases res with
        |error nn=>cases h
        | ok q=>
          obtain⟨_,hv,sB1,aB1,nB1,cB1,sB2,aB2,nB2,cB2,hv2,kB1,kB2⟩:=h;cases hv;subst hv2;replace S:=S.call hh hR hMA hJA;replace BA:=hR.bk BA (by omega);replace kA1:=IsI.gstb _ _ _ _ _ hR.gr kA1;replace kA2:=IsI.gstb _ _ _ _ _ hR.gr kA2;have hAl:=BA.lt;obtain⟨ql,qh,fB⟩:=q;simp only at kB1 kB2;clear hK K hR hMA hJA;have hs3:=S.sz
          go_simp
          refine stL (λK hK=>?_);refine xF (vs:= [.bool false,.slice none 0 0,.bool false,.slice none 0 0,.bool false]) al_Kn (λBB e1=>hK _ _ ?_);replace S:=S.ext hJ hh e1;replace BA:=BA.ext e1;replace kA1:=IsI.gstb _ _ _ _ _ e1.gr kA1;replace kA2:=IsI.gstb _ _ _ _ _ e1.gr kA2;replace kB1:=IsI.gstb _ _ _ _ _ e1.gr kB1;replace kB2:=IsI.gstb _ _ _ _ _ e1.gr kB2;obtain⟨gB,hgB⟩:∃g,X4.heap.size=g:=⟨_,rfl⟩;rw[hgB]at BB hs3 hAl ⊢;have hGB:=BB.lt;generalize X4.alloc (.cells [Value.bool false,.slice none 0 0,.bool false,.slice none 0 0,.bool false].toArray 176)=Y2 at S BB BA kA1 kA2 kB1 kB2 hGB ⊢;clear hK K e1
          go_simp
          refine stL (λK hK=>?_);refine qZ (us:= [.bool sB1,.slice aB1 nB1 cB1,.bool sB2,.slice aB2 nB2 cB2,.bool fB]) BB xP rfl rfl nw5 (λZ2 BB' O=>hK _ _ ?_);have hAB:gA<gB:=hAl;replace S:=S.only hJ hh O (by omega);replace BA:=O.bk BA (by omega);replace kA1:=IsI.gstb _ _ _ _ _ O.gr kA1;replace kA2:=IsI.gstb _ _ _ _ _ O.gr kA2;replace kB1:=IsI.gstb _ _ _ _ _ O.gr kB1;replace kB2:=IsI.gstb _ _ _ _ _ O.gr kB2;clear BB hK K O hgB;have BB:=BB';clear BB';have hGB:=BB.lt;refine jL ?_;go_upto_region 21 with fail;have hs4:=S.sz;refine rgs 1 [some 12] [IsNb Z2.heap.size [.bool false,.slice none 0 0,.bool false,.slice none 0 0,.bool false]] [] ?_ ?_
          · refine Rc (alB al_Kn (jP _)) ?_
            exact rn0
          intro v X21 e1 hZ _;replace S:=S.ext hJ hh e1;replace BA:=BA.ext e1;replace BB:=BB.ext e1;replace kA1:=IsI.gstb _ _ _ _ _ e1.gr kA1;replace kA2:=IsI.gstb _ _ _ _ _ e1.gr kA2;replace kB1:=IsI.gstb _ _ _ _ _ e1.gr kB1;replace kB2:=IsI.gstb _ _ _ _ _ e1.gr kB2;obtain⟨gC,hv0,hgC,BC⟩:=hZ 0 dcx;simp only[lxE];rw[hv0];clear hv0 hZ;have he1:=e1.size;clear e1;have hGC:=BC.lt;refine jL ?_;go_upto_region 22 with fail;refine rgs 3 (dR 113 3) [IsOps X21.heap.size,iV 7,iV 0] [] ?_ ?_
          · refine Rc (cl0 (en func114) (λw' hE=>operations_f w' _ hE.size)) ?_
            refine Rc (lenOps (qA (fP:=IsOps X21.heap.size) 0 113)) ?_;refine Rc (mv qE) ?_;exact rn0
          intro v X22 e1 hZ _;replace S:=S.ext hJ hh e1;replace BA:=BA.ext e1;replace BB:=BB.ext e1;replace BC:=BC.ext e1;replace kA1:=IsI.gstb _ _ _ _ _ e1.gr kA1;replace kA2:=IsI.gstb _ _ _ _ _ e1.gr kA2;replace kB1:=IsI.gstb _ _ _ _ _ e1.gr kB1;replace kB2:=IsI.gstb _ _ _ _ _ e1.gr kB2;obtain⟨gD,hv0,hgD,BD⟩:=hZ 0 dcx;simp only[lxE,Nat.reduceAdd];rw[hv0,show v 1=.int .i64 7 from hZ 1 dcx,show v 2=.int .i64 0 from hZ 2 dcx];clear hv0 hZ e1;have hGD:=BD.lt;refine jL ?_;have HGG:=hid (show w.heap.size+2<=gA/\gA<gB/\gB<gC/\gC<gD by omega);clear hs0 hs2 hs3 hs4 hGA hGB hGC hGD hgC hgD he1 hAB;go_wp2_with fail;have F0:BIv m J w [.int .i64 op,.string x,.int .i64 kk,.bool s,.slice a n c,.int .i64 lo,.int .i64 hi,.slice (some ⟨g,o,none⟩) mm cp] st2 gA gB gC gD [.bool sA1,.slice aA1 nA1 cA1,.bool sA2,.slice aA2 nA2 cA2,.bool fA] [.bool sB1,.slice aB1 nB1 cB1,.bool sB2,.slice aB2 nB2 cB2,.bool fB] pl ph ql qh (.agg #[.bool sA1,.slice aA1 nA1 cA1]) (.agg #[.bool sA2,.slice aA2 nA2 cA2]) (.agg #[.bool sB1,.slice aB1 nB1 cB1]) (.agg #[.bool sB2,.slice aB2 nB2 cB2]) none X22:=⟨S,BA,BB,BD,kA1,kA2,kB1,kB2,BC⟩;have F0:=hid F0;clear S BA BB BC BD kA1 kA2 kB1 kB2
          go_loopg [115] 8 (λgk v7 wr=>∃(j:Nat) (ro:Option Kn),v7=.int .i64 (j:Int)/\j+gk=8/\j<=7/\Hid ((j<=j0->ro=none)/\(j0<j->∃r,ro=some r/\opV op ⟨pl,ph,fA⟩ ⟨ql,qh,fB⟩=.ok r))/\Hid (BIv m J w [.int .i64 op,.string x,.int .i64 kk,.bool s,.slice a n c,.int .i64 lo,.int .i64 hi,.slice (some ⟨g,o,none⟩) mm cp] st2 gA gB gC gD [.bool sA1,.slice aA1 nA1 cA1,.bool sA2,.slice aA2 nA2 cA2,.bool fA] [.bool sB1,.slice aB1 nB1 cB1,.bool sB2,.slice aB2 nB2 cB2,.bool fB] pl ph ql qh (.agg #[.bool sA1,.slice aA1 nA1 cA1]) (.agg #[.bool sA2,.slice aA2 nA2 cA2]) (.agg #[.bool sB1,.slice aB1 nB1 cB1]) (.agg #[.bool sB2,.slice aB2 nB2 cB2]) ro wr))
          case atStart=>exact⟨0,none,rfl,by omega,by omega,hid ⟨λ_=>rfl,λh=>by omega⟩,F0⟩
          case round=>
            clear F0;obtain⟨j,ro,rfl,hg,hj7,hro,S⟩:=hrel;have S:=S.out;have HRO:=hid hro.out;have HG:=hid (jO hg hj7);clear hro;have hj0:j0<7:=(opsT_at HOP.out).1;by_cases hlt:j<7
            · have HLT:=hid hlt
              have HLI:=hid (show(j:Int)<7 by omega);have HI1:=hid (show IntKind.i64.wrap ((j:Int)+1)=(j:Int)+1 by simp only[IntKind.wrap_i64];omega)
              obtain⟨opj,fj,hoj⟩:∃(opj:Int) (fj:FuncId),xS[j]? =some (opj,fj):=by
                have:∃p,xS[j]? =some p:=⟨_,List.getElem?_eq_getElem (by simpa [xS]using hlt)⟩;obtain⟨⟨a,b⟩,h⟩:=this;exact⟨a,b,h⟩
              have HOJ:=hid hoj;obtain⟨bq,hbq⟩:∃b,(opj==op)=b:=⟨_,rfl⟩;have HBQ:=hid hbq;clear hg hj7 hlt hoj hj0 hbq;go_upto_region 23 with fail;refine rgs 1 [some 116] [IsV (.bool true)] [] ?_ ?_
              · refine Rc (bn (r:=.bool true) (qB (x:=.int .i64 (j:Int)) 115) (qB (x:=.int .i64 7) 114) (hr:=λw=>by have hx9:=HLT.out;have hx8:=HLI.out;go_simp)) ?_
                exact rn0
              intro v V1 e1 hZ _;replace S:=S.ext hJ hh e1;simp only[lxE];rw[show v 0=.bool true from hZ 0 dcx];clear hZ e1;refine jL ?_;go_upto_region 24 with fail;have hsz:=S.s.sz;have hszz:=S.bd.lt;refine rgs 3 [some 117,some 118,some 14] [IsP gD (2*j),IsV (.agg #[.int .i64 opj,.func (.func fj) #[] #[]]),IsNb V1.heap.size [.int .i64 0,.nilFunc]] [] ?_ ?_
              · refine Rc (ixq (ix_Op gD j HLT.out) (qB 113) (qB (x:=.int .i64 (j:Int)) 115)) ?_
                refine Rc (lv (fP:=IsV (.agg #[.int .i64 opj,.func (.func fj) #[] #[]])) _ (λw' e=>ld_Op gD (2*j) w' opj fj ((S.bd.ext e).c _ _ (opsT_at HOJ.out).2.1) ((S.bd.ext e).c _ _ (opsT_at HOJ.out).2.2)) (qA 0 117) (λ_ _=>rfl)) ?_;refine Rc (alB al_Op (jP _)) ?_;exact rn0
              intro v V2 e1 hZ _;replace S:=S.ext hJ hh e1;obtain⟨gE,hv2,hgE,BE⟩:=hZ 2 dcx;simp only[lxE,Nat.reduceAdd];rw[hv2,show v 1=.agg #[.int .i64 opj,.func (.func fj) #[] #[]]from hZ 1 dcx];clear hv2 hZ e1;refine stL (λK hK=>?_);refine qZ (us:= [.int .i64 opj,.func (.func fj) #[] #[]]) BE st_Op rfl rfl nwO (λV3 BE' O=>hK _ _ ?_);replace S:=S.only hJ hh O (by have:=HGG.out;omega);clear BE hK K O;refine jL ?_;go_upto_region 25 with fail;refine rgs 5 (dR 119 5) [IsP gE 0,iV opj,IsP (w.heap.size) 0,iV op,IsV (.bool bq)] [] ?_ ?_
              · refine Rc (fa (fa_Op0 gE) (qB 14)) ?_
                refine Rc (lvC 0 BE' xE (qA 0 119)) ?_;refine Rc (fa (fa_Nd0 w.heap.size) (qB 4)) ?_;refine Rc (lvC 0 S.s.b4 xE (qA 2 121)) ?_;refine Rc (bn (r:=.bool bq) (qC 1 120) (qC 3 122) (hr:=λw=>by have hx9:=HBQ.out;go_simp)) ?_;exact rn0
              intro v V4 e1 hZ _;replace S:=S.ext hJ hh e1;replace BE':=BE'.ext e1;simp only[lxE,Nat.reduceAdd];rw[show v 4=.bool bq from hZ 4 dcx];clear hZ e1;refine jL ?_;cases bq with
              | true=>
                obtain rfl:op=opj:=by have:=HBQ.out;simp at this;exact this.symm
                obtain rfl:j=j0:=opsT_inj HOJ.out HOP.out;obtain rfl:fj=f0:=by have:=HOJ.out.symm.trans HOP.out;simpa using this
                obtain rfl:ro=none:=HRO.out.1 (jP _);go_upto_region 26 with fail;refine rgs 4 (dR 124 4) [IsP gE 1,IsV (.func (.func fj) #[] #[]),IsV (.agg #[.bool sA1,.slice aA1 nA1 cA1,.bool sA2,.slice aA2 nA2 cA2,.bool fA]),IsV (.agg #[.bool sB1,.slice aB1 nB1 cB1,.bool sB2,.slice aB2 nB2 cB2,.bool fB])] [] ?_ ?_
                · refine Rc (fa (fa_Op1 gE) (qB 14)) ?_
                  refine Rc (lvC 1 BE' ld_Fn (qA 0 124)) ?_;refine Rc (lvV S.ba ld_Kn (qB 10)) ?_;refine Rc (lvV S.bb ld_Kn (qB 11)) ?_;exact rn0
                intro v V5 e1 hZ _;replace S:=S.ext hJ hh e1;simp only[lxE,Nat.reduceAdd];rw[show v 1=.func (.func fj) #[] #[]from hZ 1 dcx,show v 2=.agg #[.bool sA1,.slice aA1 nA1 cA1,.bool sA2,.slice aA2 nA2 cA2,.bool fA]from hZ 2 dcx,show v 3=.agg #[.bool sB1,.slice aB1 nB1 cB1,.bool sB2,.slice aB2 nB2 cB2,.bool fB]from hZ 3 dcx];clear hZ e1;have hcl:=op_all (w:=V5) HOJ.out (p:=⟨pl,ph,fA⟩) (q:=⟨ql,qh,fB⟩) ⟨_,_,_,_,_,_,_,_,rfl,S.k1,S.k2⟩ ⟨_,_,_,_,_,_,_,_,rfl,S.k3,S.k4⟩;obtain⟨rv,hrv⟩:∃r,opV op ⟨pl,ph,fA⟩ ⟨ql,qh,fB⟩=r:=⟨_,rfl⟩;rw[hrv]at hcl;refine stL (λK hK=>?_);refine wp_callV (us:= [.agg #[.bool sA1,.slice aA1 nA1 cA1,.bool sA2,.slice aA2 nA2 cA2,.bool fA],.agg #[.bool sB1,.slice aB1 nB1 cB1,.bool sB2,.slice aB2 nB2 cB2,.bool fB]]) (opsT_en HOJ.out) za za hcl (λv2 V6 h=>hK _ _ ?_) (λch V6 h=>?_) (λV6 h=>?_)
                · obtain⟨e2,h⟩:=h
                  cases rv with
                  |error nn=>cases h
                  | ok r=>
                    obtain⟨_,hv,s7,a7,n7,c7,s8,a8,n8,c8,hv2,g1,g2⟩:=h;cases hv;subst hv2;replace S:=S.ext hJ hh e2;clear hK K hcl
                    go_simp
                    refine stL (λK hK=>?_);refine qZ (us:= [.bool s7,.slice a7 n7 c7,.bool s8,.slice a8 n8 c8,.bool r.fin]) S.bn xP rfl rfl nw5 (λV7 BC' O=>hK _ _ ?_);replace S:=S.put hJ hh HGG.out O BC' g1 g2;clear BC' hK K O g1 g2;refine jL ?_;go_upto_region 27 with fail;refine rgs 1 [some 129] [iV ((j:Int)+1)] [] ?_ ?_
                    ·exact tEv10_1
                    intro v V8 e1 hZ _;replace S:=S.ext hJ hh e1;simp only[lxE];rw[show v 0=.int .i64 ((j:Int)+1)from hZ 0 dcx];clear hZ e1;refine jX λK hK=>?_;go_simp;refine hK _ _ ?_;clear hK K
                    refine jL ?_;have S':=hid S;clear S BE';go_wp2_with fail
                    go_roundg (gk-1)
                    case measure=>have:=HG.out;have:=HLT.out;omega
                    case rel=>exact⟨j+1,some r,by rw[Int.natCast_add];rfl,by have:=HG.out;omega,by have:=HLT.out;omega,hid ⟨λh=>by omega,λ_=>⟨r,rfl,hrv⟩⟩,S'⟩
                · obtain⟨e2,h⟩:=h
                  cases rv with
                  |ok r=>obtain⟨_,hv,_⟩:=h;cases hv
                  | error nn=>
                    cases h;replace S:=S.ext hJ hh e2;exact⟨rfl,(show EvP m J w (binR op (.ok ⟨pl,ph,fA⟩,st1) (.ok ⟨ql,qh,fB⟩,st2)) _ _ from by{rw[binR_er hrv];exact⟨S.s.rm,S.s.mat,S.s.j,rfl⟩})⟩
                · obtain⟨e2,h⟩:=h
                  cases rv with
                  |ok r=>obtain⟨_,hv,_⟩:=h;cases hv
                  |error nn=>cases h
              | false=>
                have hne:j≠j0:=by
                  intro he;subst he;have:=HOJ.out.symm.trans HOP.out;have h2:opj=op:=by simp at this;exact this.1
                  have h3:=HBQ.out;simp[h2]at h3
                go_upto_region 27 with fail;refine rgs 1 [some 129] [iV ((j:Int)+1)] [] ?_ ?_
                ·exact tEv10_1
                intro v V5 e1 hZ _;replace S:=S.ext hJ hh e1;simp only[lxE];rw[show v 0=.int .i64 ((j:Int)+1)from hZ 0 dcx];clear hZ e1;refine jX λK hK=>?_;go_simp;refine hK _ _ ?_;clear hK K
                refine jL ?_;have S':=hid S;clear S BE';go_wp2_with fail
                go_roundg (gk-1)
                case measure=>have:=HG.out;have:=HLT.out;omega
                case rel=>exact⟨j+1,ro,by rw[Int.natCast_add];rfl,by have:=HG.out;have:=HLT.out;omega,by have:=HLT.out;omega,hid ⟨λh=>HRO.out.1 (by omega),λh=>HRO.out.2 (by omega)⟩,S'⟩
            · obtain rfl:j=7:=by omega
              obtain⟨r,rfl,hr⟩:=HRO.out.2 hj0;clear hg hj7 hlt hj0;go_upto_region 23 with fail;refine rgs 1 [some 116] [IsV (.bool false)] [] ?_ ?_
              · refine Rc (bn (r:=.bool false) (qB (x:=.int .i64 ((7:Nat):Int)) 115) (qB (x:=.int .i64 7) 114) (hr:=λw=>by go_simp)) ?_
                exact rn0
              intro v V1 e1 hZ _;replace S:=S.ext hJ hh e1;simp only[lxE];rw[show v 0=.bool false from hZ 0 dcx];clear hZ e1;refine jL ?_;go_upto_region 28 with fail;obtain⟨S,BA,BB,BD,kA1,kA2,kB1,kB2,s7,a7,n7,c7,s8,a8,n8,c8,BC,g1,g2⟩:=S;clear BD kA1 kA2 kB1 kB2;obtain⟨fR,hfR⟩:∃f,(fA&&fB)=f:=⟨_,rfl⟩;have HFR:=hid hfR;refine rgs 7 (dR 130 7) [IsP gA 4,IsV (.bool fA),IsV (.bool fA),IsIf fA (IsP gB 4),IsIf fA (IsV (.bool fB)),IsV (.bool fR),IsP gC 4] [] ?_ ?_
              · refine Rc (fa (fa_Kn2 gA 0) (qB 10)) ?_
                refine Rc (lvC 4 BA ld_b (qA 0 130)) ?_;refine Rc (mv (qA 1 131)) ?_;refine RcB 2 132 fA true (λhb=>by subst hb;exact fa (fa_Kn2 gB 0) (qB 11)) ?_;refine RcB 2 132 fA true (λhb=>by subst hb;exact lvC 4 BB ld_b (qA 3 133)) ?_;refine Rc (pkA (b2:=fB) (qC 2 132) (λhb=>by subst hb;exact qA 4 134) HFR.out) ?_;refine Rc (fa (fa_Kn2 gC 0) (qB 12)) ?_;exact rn0
              intro v V2 e1 hZ _;replace S:=S.ext hJ hh e1;replace BC:=BC.ext e1;replace g1:=IsI.gstb _ _ _ _ _ e1.gr g1;replace g2:=IsI.gstb _ _ _ _ _ e1.gr g2;simp only[lxE,Nat.reduceAdd];rw[show v 5=.bool fR from hZ 5 dcx,show v 6=.pointer (some ⟨gC,4,none⟩)from hZ 6 dcx];clear hZ e1 BA BB;refine stL (λK hK=>?_);refine stCO 4 BC (st_b fR) rfl (NoWord.bool _) (λV3 BC' O=>hK _ _ ?_);replace S:=S.only hJ hh O (by have:=HGG.out;omega);replace g1:=IsI.gstb _ _ _ _ _ O.gr g1;replace g2:=IsI.gstb _ _ _ _ _ O.gr g2;simp only[u0x,u1x]at BC';clear BC hK K O;refine jL ?_;go_upto_region 29 with fail;refine rgs 1 [some 137] [IsV (.agg #[.bool s7,.slice a7 n7 c7,.bool s8,.slice a8 n8 c8,.bool fR])] [] ?_ ?_
              · refine Rc (lvV BC' ld_Kn (qB 12)) ?_
                exact rn0
              intro v V4 e1 hZ _;replace S:=S.ext hJ hh e1;replace g1:=IsI.gstb _ _ _ _ _ e1.gr g1;replace g2:=IsI.gstb _ _ _ _ _ e1.gr g2;simp only[lxE];rw[show v 0=_ from hZ 0 dcx];clear hZ e1 BC';refine stL (λK hK=>?_);refine qZ (us:= [.bool s7,.slice a7 n7 c7,.bool s8,.slice a8 n8 c8,.bool fR]) S.b6 xP rfl rfl nw5 (λX9 B9 O=>hK _ _ ?_);obtain⟨f1,f2,f3⟩:=S.last hJ hh O;replace g1:=IsI.gstb _ _ _ _ _ O.gr g1;replace g2:=IsI.gstb _ _ _ _ _ O.gr g2;refine jL ?_;have d0:=B9.c 0 _ rfl;have d1:=B9.c 1 _ rfl;have d2:=B9.c 2 _ rfl;have d3:=B9.c 3 _ rfl;have d4:=B9.c 4 _ rfl;clear hK K O B9 S;go_wp2_with fail;exact jK (v:=.agg #[.bool s7,.slice a7 n7 c7,.bool s8,.slice a8 n8 c8,.bool fR]) jq rfl (show EvP m J w (binR op (.ok ⟨pl,ph,fA⟩,st1) (.ok ⟨ql,qh,fB⟩,st2)) _ _ from by{rw[binR_ok hr,hfR];exact⟨f1,f2,f3,_,rfl,_,_,_,_,_,_,_,_,rfl,g1,g2⟩})
      · obtain⟨hR,hMA,hJA,h⟩:=h
        obtain⟨res,st2⟩:=r2;exact tEv10_2
      · obtain⟨hR,hMA,hJA,h⟩:=h
        obtain⟨res,st2⟩:=r2;cases res with
        |ok q=>obtain⟨_,hv,_⟩:=h;cases hv
        |error nn=>cases h
  · obtain⟨hR,hMA,hJA,h⟩:=h
    obtain⟨res,st1⟩:=r1;exact tEv10_2
  · obtain⟨hR,hMA,hJA,h⟩:=h
    obtain⟨res,st1⟩:=r1;cases res with
    |ok q=>obtain⟨_,hv,_⟩:=h;cases hv
    |error nn=>cases h
theorem eval_f{σ:Type}(M:Mem σ)(m:Mc)(J:σ->World->Prop)(hJ:MapInv m.h J)(C:ByteArray->Prop)(V:ByteArray->Int->Env->Prop)
    (HCL:∀(x:ByteArray) (st:Mst σ) (w:World),C x->MAt m st.1 w->J st.2 w->m.h+3<=w.heap.size->Calls prog 111 #[.pointer (some ⟨m.h+2,0,none⟩),.string x] w (EvP m J w ((M.cl x st.2).1,(st.1,(M.cl x st.2).2))))
    (HVL:∀(x:ByteArray) (n:Int) (env:Env) (ve:Value) (st:Mst σ) (w:World),V x n env->IsEnv m.h env ve w->MAt m st.1 w->J st.2 w->m.h+3<=w.heap.size->Calls prog 112 #[.pointer (some ⟨m.h+2,0,none⟩),.string x,.int .i64 n,ve] w (EvP m J w ((M.vl x n env st.2).1,(st.1,(M.vl x n env st.2).2)))):
    ∀ (e:Ex) (env:Env) (us:List Value) (ve:Value) (st:Mst σ) (w:World),wfE C V e env->IsNd m.h e us w->IsEnv m.h env ve w->MAt m st.1 w->J st.2 w->m.h+3<=w.heap.size->
      Calls prog 84 #[.pointer (some ⟨m.h+2,0,none⟩),.agg us.toArray,ve] w (EvP m J w (ev M e env st))
  | .num z,env,us,ve,st,w,hw,hn,hE,hM,hj,hh=>by
    obtain⟨nm,k,s,a,n,c,lo,hi,A,rfl,hz⟩:=hn;exact eval_num hJ hh hM hj hz
  | .var x,env,us,ve,st,w,hw,hn,hE,hM,hj,hh=>by
    obtain⟨k,s,a,n,c,lo,hi,A,rfl⟩:=hn;exact eval_var hJ hh hM hj hE hw.1 hw.2
  | .cell x,env,us,ve,st,w,hw,hn,hE,hM,hj,hh=>by
    obtain⟨k,s,a,n,c,lo,hi,A,rfl⟩:=hn;exact eval_cell hJ hh hM hj (λw' hR hM' hj' hs=>HCL x st w' hw hM' hj' (jQ hh hs))
  | .val x j,env,us,ve,st,w,hw,hn,hE,hM,hj,hh=>by
    obtain⟨s,a,n,c,lo,hi,A,rfl⟩:=hn;exact eval_val hJ hh hM hj (λw' hR hM' hj' hs=>HVL x j env ve st w' hw (hE.rm hR) hM' hj' (jQ hh hs))
  | .loop fst x lo hi b,env,us,ve,st,w,hw,hn,hE,hM,hj,hh=>by
    obtain⟨k,s,a,n,c,g,o,mm,cp,rfl,h1,h2,h3,vs,h4,h5,h6⟩:=hn;obtain⟨q1,q2,q3,q4,q5⟩:=hw;have HBD:=hid (jO q2 (jO q3 q4))
    have key:∀(opc:Int),Hid ((opc==10)=fst)->∀w',Rm m.h w w'->MAt m st.1 w'->J st.2 w'->w.heap.size<=w'.heap.size->
        Calls prog 113 #[.pointer (some ⟨m.h+2,0,none⟩),.agg #[.int .i64 opc,.string x,.int .i64 k,.bool s,.slice a n c,.int .i64 lo,.int .i64 hi,.slice (some ⟨g,o,none⟩) mm cp],ve] w' (SrP m J w' (xQ (λn st=>ev M b (env++ [(x,n)]) st) fst hi (hi+1-lo).toNat ⟨0,0,hi+1,hi+1,lo,true⟩ st)):=by
      intro opc ho w' hR hM' hj' hs;have hh':=jQ hh hs
      exact search_f M m J hJ fst x lo hi b env opc k s a n c g o mm cp vs st ve w' _ ho HBD (hid q1) (hid ⟨h1,h2,h3⟩) (hid ⟨h4,λj v hjv=>hR.cell (h5 j v hjv) (.inl h3),IsNd.rm hR h6⟩) (hid (hE.rm hR))
        (hid λnx st2 ve2 w2 g1 g2 g3 g4 g5 g6 g7=>eval_f M m J hJ C V HCL HVL b (env++ [(x,nx)]) vs ve2 st2 w2 (q5 nx g1 g2) g4 g3 g5 g6 g7) hM' hj' hh' (hid rfl)
    have hT:∀t st',xQ (λn st=>ev M b (env++ [(x,n)]) st) fst hi (hi+1-lo).toNat ⟨0,0,hi+1,hi+1,lo,true⟩ st=(.ok t,st')->lo<=t.next/\t.next<=hi+1/\0<=t.sure/\0<=t.opn/\t.sure+t.opn<=t.next-lo+1/\lo<=t.first/\t.first<=hi+1/\lo<=t.last/\t.last<=hi+1:=
      λt st' h=>srch_bd _ fst lo hi t st' _ _ _ ju h
    have e:lpR fst hi (xQ (λn st=>ev M b (env++ [(x,n)]) st) fst hi (hi+1-lo).toNat ⟨0,0,hi+1,hi+1,lo,true⟩ st)=ev M (.loop fst x lo hi b) env st:=by rw[ev];rfl
    rw[<-e];cases fst with
    |true=>exact eval_first hJ hh hM hj (key 10 (hid dcx)) HBD (hid hT)
    |false=>exact eval_count hJ hh hM hj (key 9 (hid dcx)) HBD (hid hT)
  | .bin op p q,env,us,ve,st,w,hw,hn,hE,hM,hj,hh=>by
    obtain⟨x,k,s,a,n,c,lo,hi,g,o,mm,cp,rfl,h1,h2,h3,⟨vs,h4,h5,h6⟩,vs',h4',h5',h6'⟩:=hn;obtain⟨q1,q2,q3⟩:=hw;obtain⟨j0,f0,hop⟩:=opsT_of q1
    have e:binR op (ev M p env st) (ev M q env (ev M p env st).2)=ev M (.bin op p q) env st:=by
      rw[ev];unfold binR;rcases ev M p env st with⟨_|p',st1⟩
      ·rfl
      · dsimp only
        rcases ev M q env st1 with⟨_|q',st2⟩ <;> rfl
    rw[<-e]
    exact eval_bin (r1:=ev M p env st) (r2:=ev M q env (ev M p env st).2) hJ hh hM hj (hid ⟨h1,h2,h3⟩) (hid ⟨h4,h5⟩) (hid ⟨h4',h5'⟩) (hid hop)
      (hid λw' hR hM' hj' hs=>eval_f M m J hJ C V HCL HVL p env vs ve st w' q2 (IsNd.rm hR h6) (hE.rm hR) hM' hj' (jQ hh hs))
      (hid λw' hR hM' hj' hs=>eval_f M m J hJ C V HCL HVL q env vs' ve _ w' q3 (IsNd.rm hR h6') (hE.rm hR) hM' hj' (jQ hh hs))
end
section
open Go Go.RowKit
open Go.Proofs.Tryz
set_option maxRecDepth 100000
set_option maxHeartbeats 4000000
theorem value1_f{k:Nat}{z:Int}{x:Value}{w:World}(hx:IsI k z x w)(HK:Hid (k<=1000))(q:Rat)(HQ:Hid (Rat.divInt z 1=q)):Calls prog 106 #[x] w (Ret w (IsRat (max (k+2) 2) q)):=by
 obtain⟨s1,a1,n1,c1,rfl,h1⟩:=hx;have h1:IsI _ _ _ w:=⟨_,_,_,_,rfl,h1⟩;obtain⟨W,hW,S⟩:∃W,W=(w.alloc (.cells #[.bool s1,.slice a1 n1 c1] 28)).alloc (.cells #[.bool false,.slice none 0 0,.bool false,.slice none 0 0] 45)/\Sto w W [((w.heap.size+1,1),IsI 0 0),((w.heap.size+1,0),IsI 0 0),((w.heap.size,0),IsI k z)]:=⟨_,rfl,(((Sto.start w).new1 (w.heap.size) (by simp) s1 a1 n1 c1 28 (IsI k z) (IsI.gstb _ _) (h1)).new2 (w.heap.size+1) (by simp) false false none none 0 0 0 0 45 (IsI 0 0) (IsI 0 0) (IsI.gstb _ _) (IsI.nil _ _) (IsI.gstb _ _) (IsI.nil _ _))⟩;clear h1;go_enter func106,ntmps106;go_upto_region 1 with fail;rw[<-hW];clear hW;have hl:=hid S.lt;have hw:=S.ext.size;refine rgn 9 [some 6,some 7,some 8,some 5,some 9,some 10,some 3,none,some 4] [IsI k z,IsI 2 1,IsT2 (IsQ (IsI (max (k+2) 2) q.num) (IsI (max (k+2) 2) (((q.den:Nat):Int)))) (iV 0),IsT2 (IsQ (IsI (max (k+2) 2) q.num) (IsI (max (k+2) 2) (((q.den:Nat):Int)))) (iV 0),IsQ (IsI (max (k+2) 2) q.num) (IsI (max (k+2) 2) (((q.den:Nat):Int))),iV 0,IsNw W 2,TT,iV 0] [6] [none,none,none,none,none,none,none,some (6, [IsI (max (k+2) 2) q.num,IsI (max (k+2) 2) (((q.den:Nat):Int))]),none] [none,none,none,none,none,none,none,some 6,none] 0 ?_ ?_
 ·refine RcK (ldI S 2 (w.heap.size) 0 (qB 1) qF) ?_;refine RcK (cl1 (en func108) qE (λx0 w' hE d0=>by{obtain rfl:x0=.int .i64 1:=d0;exact Of_f _ 1 dcx dcx})) ?_;refine RcK (cl2 (en func107) (qA (fP:=IsI k z) 0 6) (qA (fP:=IsI 2 1) 1 7) (λx0 x1 w' hE d0 d1=>qNew_c d0 d1 zc dcx dcx q HQ.out)) ?_;refine RcK (mv (qA 2 8)) ?_;refine RcK (ex (qC 3 5) t20) ?_;refine RcK (ex (qC 3 5) t21) ?_;refine RcK (alN al_Rat) ?_;refine RcS 6 (sQ st_Rat (qA (fP:=IsQ (IsI (max (k+2) 2) q.num) (IsI (max (k+2) 2) (((q.den:Nat):Int)))) 4 9) (IsI.gstb _ _) (IsI.gstb _ _)) ?_;refine RcK (mv (qA 5 10)) ?_;exact RgAllN.nil
 intro v W1 e1 hZ hS _;replace S:=S.mono e1;obtain⟨g3,v6,q1,S2⟩:=S.addQ (hZ 6 dcx rfl) (hS 7 dcx _ _ rfl) hw (IsI.gstb _ _) (IsI.gstb _ _);replace S:=S2 (ApartO.old hl.out q1);clear S2;simp only[lxE,Nat.reduceAdd];rw[v6];clear hl hw v6 hZ hS e1;refine jR za ?_ _;go_upto_region 2 with fail;refine rgs 1 [some 11] [IsQ (IsI (max (k+2) 2) q.num) (IsI (max (k+2) 2) (((q.den:Nat):Int)))] [] ?_ ?_
 ·refine Rc (ldQ S 1 0 (g3) 0 (qB 3) ld_Rat rfl rfl) ?_;exact rn0
 intro v W2 e1 hZ _;replace S:=S.mono e1;have h11:=hZ 0 dcx;simp only[lxE];clear hZ e1
 try simp only[dxE]
 (with_reducible refine stL ?_ zb6);intro KK hKK;refine stQ S 3 2 (w.heap.size+1) 0 h11 (IsI.gstb _ _) (IsI.gstb _ _) st_Rat (λW2a S2 G2=>hKK _ _ ?_) rfl rfl
 replace S:=S2;clear S2 G2 hKK KK h11;simp only[u0x,u1x]at S;refine jL ?_;go_wp2_with fail;obtain⟨s90x,a90x,n90x,c90x,b90x,h90x⟩:=S.at 3 (w.heap.size+1) 0 (IsI (max (k+2) 2) q.num) rfl;have L90xa:World.cell? W2a ⟨w.heap.size+1,0,none⟩=some (.bool s90x):=b90x.c0;have L90xb:World.cell? W2a ⟨w.heap.size+1,1,none⟩=some (.slice a90x n90x c90x):=b90x.c1;obtain⟨s90y,a90y,n90y,c90y,b90y,h90y⟩:=S.at 2 (w.heap.size+1) 1 (IsI (max (k+2) 2) (((q.den:Nat):Int))) rfl;have L90ya:World.cell? W2a ⟨w.heap.size+1,2,none⟩=some (.bool s90y):=b90y.c0;have L90yb:World.cell? W2a ⟨w.heap.size+1,3,none⟩=some (.slice a90y n90y c90y):=b90y.c1;exact jK (v:=.agg #[.bool s90x,.slice a90x n90x c90x,.bool s90y,.slice a90y n90y c90y]) (by simp[results,results106,go_sem,L90xa,L90xb,L90ya,L90yb]) rfl (⟨_,rfl,S.ext,⟨_,_,_,_,_,_,_,_,rfl,h90x,h90y⟩⟩)
def IsVl(r:Res Kn)(hy:Value):Value->World->Prop:=λx w=>match r with
 | .ok q=>∃s1 a1 n1 c1 s2 a2 n2 c2 s3 a3 n3 c3 s4 a4 n4 c4,x=.agg #[.bool s1,.slice a1 n1 c1,.bool s2,.slice a2 n2 c2,.bool s3,.slice a3 n3 c3,.bool s4,.slice a4 n4 c4,.bool q.fin,hy,.int .i64 0]/\
   IsRat 130 (Rat.divInt q.lo 1) (.agg #[.bool s1,.slice a1 n1 c1,.bool s2,.slice a2 n2 c2]) w/\IsRat 130 (Rat.divInt q.hi 1) (.agg #[.bool s3,.slice a3 n3 c3,.bool s4,.slice a4 n4 c4]) w
 | .error n=>x=.agg #[.bool false,.slice none 0 0,.bool false,.slice none 0 0,.bool false,.slice none 0 0,.bool false,.slice none 0 0,.bool true,hy,.int .i64 n]
theorem IsRat.gstb(k:Nat)(q:Rat):GStb (IsRat k q):=IsQ.gstb (IsI.gstb _ _) (IsI.gstb _ _)
theorem IsVl.gstb(r:Res Kn)(hy:Value):GStb (IsVl r hy):=λx w w' e h=>by
 cases r with
 |error n=>exact h
 | ok q=>
  obtain⟨s1,a1,n1,c1,s2,a2,n2,c2,s3,a3,n3,c3,s4,a4,n4,c4,h1,h2,h3⟩:=h;exact⟨s1,a1,n1,c1,s2,a2,n2,c2,s3,a3,n3,c3,s4,a4,n4,c4,h1,IsRat.gstb _ _ _ _ _ e h2,IsRat.gstb _ _ _ _ _ e h3⟩
set_option maxRecDepth 100000
theorem st_Vl:StV prog 50 11:=by
 intro w g vs us h1 h2 hs B
 match vs,h1 with
 | [v0,v1,v2,v3,v4,v5,v6,v7,v8,v9,v10],_=>
  match us,h2 with
  | [u0,u1,u2,u3,u4,u5,u6,u7,u8,u9,u10],_=>
   simp only[List.all_cons,List.all_nil,Bool.and_true,Bool.and_eq_true]at hs;obtain⟨s0,s1,s2,s3,s4,s5,s6,s7,s8,s9,s10⟩:=hs;have r0:=λw a m=>run_store prog w a u0 m s0;have r1:=λw a m=>run_store prog w a u1 m s1;have r2:=λw a m=>run_store prog w a u2 m s2;have r3:=λw a m=>run_store prog w a u3 m s3;have r4:=λw a m=>run_store prog w a u4 m s4;have r5:=λw a m=>run_store prog w a u5 m s5
   have r6:=λw a m=>run_store prog w a u6 m s6;have r7:=λw a m=>run_store prog w a u7 m s7;have r8:=λw a m=>run_store prog w a u8 m s8;have r9:=λw a m=>run_store prog w a u9 m s9;have r10:=λw a m=>run_store prog w a u10 m s10
   have c0:=B.c 0 _ rfl;have c1:=B.c 1 _ rfl;have c2:=B.c 2 _ rfl;have c3:=B.c 3 _ rfl;have c4:=B.c 4 _ rfl;have c5:=B.c 5 _ rfl;have c6:=B.c 6 _ rfl;have c7:=B.c 7 _ rfl;have c8:=B.c 8 _ rfl;have c9:=B.c 9 _ rfl;have c10:=B.c 10 _ rfl;have f0:=B.f 0;have f1:=B.f 1;have f2:=B.f 2;have f3:=B.f 3;have f4:=B.f 4;have f5:=B.f 5;have f6:=B.f 6;have f7:=B.f 7;have f8:=B.f 8;have f9:=B.f 9;have f10:=B.f 10;clear B s0 s1 s2 s3 s4 s5 s6 s7 s8 s9 s10;simp only[xJ]
   go_simp
theorem ld_Vl:LdV prog 50 11:=by
 intro w g vs h1 B
 match vs,h1 with
 | [v0,v1,v2,v3,v4,v5,v6,v7,v8,v9,v10],_=>
  have c0:=B.c 0 _ rfl;have c1:=B.c 1 _ rfl;have c2:=B.c 2 _ rfl;have c3:=B.c 3 _ rfl;have c4:=B.c 4 _ rfl;have c5:=B.c 5 _ rfl;have c6:=B.c 6 _ rfl;have c7:=B.c 7 _ rfl;have c8:=B.c 8 _ rfl;have c9:=B.c 9 _ rfl;have c10:=B.c 10 _ rfl;clear B
  go_simp
theorem nwVl{s1 s2 s3 s4:Bool}{a1 a2 a3 a4 a5:Option Addr}{n1 n2 n3 n4 n5 c1 c2 c3 c4 c5:Nat}{f:Bool}{e:Int}:∀v∈ [Value.bool s1,.slice a1 n1 c1,.bool s2,.slice a2 n2 c2,.bool s3,.slice a3 n3 c3,.bool s4,.slice a4 n4 c4,.bool f,.slice a5 n5 c5,.int .i64 e],NoWord v:=by
 intro v hv;simp only[List.mem_cons,List.not_mem_nil,or_false]at hv;rcases hv with rfl|rfl|rfl|rfl|rfl|rfl|rfl|rfl|rfl|rfl|rfl
 all_goals first|exact NoWord.bool _|exact NoWord.slice _ _ _|exact NoWord.int64 _
def IsIv(k:Nat)(p q:Rat):Value->World->Prop:=IsJ (IsI k p.num) (IsI k ((p.den:Nat):Int)) (IsI k q.num) (IsI k ((q.den:Nat):Int))
section
variable {ops:Array Oper} {Q:Exit->Act->World->Prop} {ds:List (Option Tmp)} {a0:Act} {w0:World} {L:List (Value->World->Prop)} {boxes:List Nat} {i k:Nat} {o:Oper} {os:List Oper}
theorem bdIv{k:Nat}{p q:Rat}{x y:Operand}(hx:Od ops ds a0 w0 L i x (IsRat k p))(hy:Od ops ds a0 w0 L i y (IsRat k q))(ho:o.op=.build 47 #[(0,x),(1,y)]:=by rfl)(hi:L.getD i (λ_ _=>True)=IsIv k p q:=by kernel_rfl)(hb:boxes.contains i=false:=by kernel_rfl):Ok prog ops Q ds a0 w0 L boxes i o:=
 Ok.of hb λv a w hE hd hf=>by
  obtain⟨s1,a1,n1,c1,s2,a2,n2,c2,e1,h1,h2⟩:=hx.out v a w hE hd hf;obtain⟨s3,a3,n3,c3,s4,a4,n4,c4,e2,h3,h4⟩:=hy.out v a w hE hd hf;have hr:(Instr.build 47 #[(0,.agg #[.bool s1,.slice a1 n1 c1,.bool s2,.slice a2 n2 c2]),(1,.agg #[.bool s3,.slice a3 n3 c3,.bool s4,.slice a4 n4 c4])]).run prog w=.ok (.agg #[.bool s1,.slice a1 n1 c1,.bool s2,.slice a2 n2 c2,.bool s3,.slice a3 n3 c3,.bool s4,.slice a4 n4 c4]) w:=ja
  exact⟨_,bd_run ho e1 e2 hr,by rw[hi];exact⟨_,_,_,_,_,_,_,_,_,_,_,_,_,_,_,_,rfl,h1,h2,h3,h4⟩⟩
theorem bdVl{q:Kn}{x y:Operand}(hx:Od ops ds a0 w0 L i x (IsIv 130 (Rat.divInt q.lo 1) (Rat.divInt q.hi 1)))(hy:Od ops ds a0 w0 L i y (IsV (.bool q.fin)))(ho:o.op=.build 50 #[(0,x),(1,y)]:=by rfl)(hi:L.getD i (λ_ _=>True)=IsVl (.ok q) (.slice none 0 0):=by kernel_rfl)(hb:boxes.contains i=false:=by kernel_rfl):Ok prog ops Q ds a0 w0 L boxes i o:=
 Ok.of hb λv a w hE hd hf=>by
  obtain⟨s1,a1,n1,c1,s2,a2,n2,c2,s3,a3,n3,c3,s4,a4,n4,c4,e1,h1,h2,h3,h4⟩:=hx.out v a w hE hd hf;have hr:(Instr.build 50 #[(0,.agg #[.bool s1,.slice a1 n1 c1,.bool s2,.slice a2 n2 c2,.bool s3,.slice a3 n3 c3,.bool s4,.slice a4 n4 c4]),(1,.bool q.fin)]).run prog w=.ok (.agg #[.bool s1,.slice a1 n1 c1,.bool s2,.slice a2 n2 c2,.bool s3,.slice a3 n3 c3,.bool s4,.slice a4 n4 c4,.bool q.fin,.slice none 0 0,.int .i64 0]) w:=ja
  exact⟨_,bd_run ho e1 (hy.out v a w hE hd hf) hr,by rw[hi];exact⟨_,_,_,_,_,_,_,_,_,_,_,_,_,_,_,_,rfl,⟨_,_,_,_,_,_,_,_,rfl,h1,h2⟩,⟨_,_,_,_,_,_,_,_,rfl,h3,h4⟩⟩⟩
end
theorem IsVl.stb(r:Res Kn)(hy:Value):Stb (IsVl r hy):=λx w w' e h=>IsVl.gstb r hy x w w' e.gr h
instance (r:Res Kn) (hy:Value):StbC (IsVl r hy):=⟨IsVl.stb r hy⟩
theorem IsIv.stb(k:Nat)(p q:Rat):Stb (IsIv k p q):=IsJ.stb (IsI.stb _ _) (IsI.stb _ _) (IsI.stb _ _) (IsI.stb _ _)
instance (k:Nat) (p q:Rat):StbC (IsIv k p q):=⟨IsIv.stb k p q⟩
theorem IsRat.stbE(k:Nat)(q:Rat):Stb (IsRat k q):=IsQ.stb (IsI.stb _ _) (IsI.stb _ _)
instance (k:Nat) (q:Rat):StbC (IsRat k q):=⟨IsRat.stbE k q⟩
theorem value_f{q:Kn}{x:Value}{w:World}(hx:IsK 128 q x w):Calls prog 83 #[x] w (Ret w (IsVl (.ok q) (.slice none 0 0))):=by
 obtain⟨s,a,n,c,s',a',n',c',rfl,h1,h2⟩:=hx
 obtain⟨W,hW,E,B1,B2⟩:∃W,W=(w.alloc (.cells #[.bool s,.slice a n c,.bool s',.slice a' n' c',.bool q.fin] 176)).alloc (.cells #[.bool false,.slice none 0 0,.bool false,.slice none 0 0,.bool false,.slice none 0 0,.bool false,.slice none 0 0,.bool false,.slice none 0 0,.int .i64 0] 50)/\Ext w W/\Bk W w.heap.size [.bool s,.slice a n c,.bool s',.slice a' n' c',.bool q.fin]/\Bk W (w.heap.size+1) [.bool false,.slice none 0 0,.bool false,.slice none 0 0,.bool false,.slice none 0 0,.bool false,.slice none 0 0,.bool false,.slice none 0 0,.int .i64 0]:=
  ⟨_,rfl,((Ext.refl w).alloc _).alloc _,(Bk.new w _ _).ext ((Ext.refl _).alloc _),Bk.newE _ _ (by simp) _ _⟩
 replace h1:=h1.ext E;replace h2:=h2.ext E;go_enter func83,ntmps83;go_upto_region 2 with fail;rw[<-hW];clear hW;refine rg 12 (dR 4 12) [IsV (.func (.func 106) #[] #[]),IsP (w.heap.size) 0,IsI 128 q.lo,IsRat 130 (Rat.divInt q.lo 1),IsV (.func (.func 106) #[] #[]),IsP (w.heap.size) 2,IsI 128 q.hi,IsRat 130 (Rat.divInt q.hi 1),IsIv 130 (Rat.divInt q.lo 1) (Rat.divInt q.hi 1),IsP (w.heap.size) 4,IsV (.bool q.fin),IsVl (.ok q) (.slice none 0 0)] [] 1 ?_ ?_
 ·refine Rc (mv (qB 3)) ?_;refine Rc (fa (qR w.heap.size 0) (qB 1)) ?_;refine Rc (lvI 0 B1 h1 qF (qA 1 5)) ?_;refine Rc (cv1 (caps:= []) (en func106) (qA (fP:=IsV (.func (.func 106) #[] #[])) 0 4) (qA (fP:=IsI 128 q.lo) 2 6) (λx0 w' hE d0=>value1_f d0 (hid dcx) _ (hid rfl))) ?_;refine Rc (mv (qB 3)) ?_;refine Rc (fa (qQ w.heap.size 0) (qB 1)) ?_;refine Rc (lvI 2 B1 h2 qF (qA 5 9)) ?_;refine Rc (cv1 (caps:= []) (en func106) (qA (fP:=IsV (.func (.func 106) #[] #[])) 4 8) (qA (fP:=IsI 128 q.hi) 6 10) (λx0 w' hE d0=>value1_f d0 (hid dcx) _ (hid rfl))) ?_;refine Rc (bdIv (qC 3 7) (qC 7 11)) ?_;refine Rc (fa (fa_Kn2 w.heap.size 0) (qB 1)) ?_;refine Rc (lvC 4 B1 ld_b (qA 9 13)) ?_;refine Rc (bdVl (q:=q) (qC 8 12) (qC 10 14)) ?_;exact rn0
 intro v W2 e1 hZ _;replace E:=E.trans e1;replace B2:=B2.ext e1;obtain⟨s1,a1,n1,c1,s2,a2,n2,c2,s3,a3,n3,c3,s4,a4,n4,c4,hv,g1,g2⟩:=hZ 11 dcx;simp only[lxE,Nat.reduceAdd];rw[hv];clear hv hZ e1 B1 h1 h2;refine stA 12 (h:=λK hK=>?_);refine stV (us:= [.bool s1,.slice a1 n1 c1,.bool s2,.slice a2 n2 c2,.bool s3,.slice a3 n3 c3,.bool s4,.slice a4 n4 c4,.bool q.fin,.slice none 0 0,.int .i64 0]) B2 st_Vl rfl rfl nwVl E (by omega) (λW2a B4 E2 G2 _ _=>hK _ _ ?_);refine jR za ?_ _;have d0:=B4.c 0 _ rfl;have d1:=B4.c 1 _ rfl;have d2:=B4.c 2 _ rfl;have d3:=B4.c 3 _ rfl;have d4:=B4.c 4 _ rfl;have d5:=B4.c 5 _ rfl;have d6:=B4.c 6 _ rfl;have d7:=B4.c 7 _ rfl;have d8:=B4.c 8 _ rfl;have d9:=B4.c 9 _ rfl;have d10:=B4.c 10 _ rfl;go_wp2_with fail;exact jK (v:=.agg #[.bool s1,.slice a1 n1 c1,.bool s2,.slice a2 n2 c2,.bool s3,.slice a3 n3 c3,.bool s4,.slice a4 n4 c4,.bool q.fin,.slice none 0 0,.int .i64 0]) (by simp[results,results83,go_sem,d0,d1,d2,d3,d4,d5,d6,d7,d8,d9,d10]) rfl ⟨_,rfl,E2,_,_,_,_,_,_,_,_,_,_,_,_,_,_,_,_,rfl,IsRat.gstb _ _ _ _ _ G2 g1,IsRat.gstb _ _ _ _ _ G2 g2⟩
end
section
open Go Go.RowKit
open Go.Proofs.Tryz
set_option maxRecDepth 100000
set_option maxHeartbeats 4000000
def zVl:List Value:= [.bool false,.slice none 0 0,.bool false,.slice none 0 0,.bool false,.slice none 0 0,.bool false,.slice none 0 0,.bool false,.slice none 0 0,.int .i64 0]
def eVl(n:Int):List Value:= [.bool false,.slice none 0 0,.bool false,.slice none 0 0,.bool false,.slice none 0 0,.bool false,.slice none 0 0,.bool true,.slice none 0 0,.int .i64 n]
theorem ta_f(n:Int)(w:World):(Instr.typeAssert (.iface 172 (.agg #[.int .i64 n])) 20 172 true).run prog w=.ok (.tuple #[.agg #[.int .i64 n],.bool true]) w:=by
 first|rfl|go_simp
theorem catch_f(n:Int)(w:World)(g:Nat)(B:Bk w g zVl):CallsD prog 82 #[.pointer (some ⟨g,0,none⟩)] (.panicking (pan n)) w λe u' w'=>
  e=.returned (.tuple #[])/\u'=.panicking [{v:=failV n,recovered:=true}]/\∃W0,Ext w W0/\w'=xJ W0 g 0 (eVl n)/\Bk W0 g zVl:=by
 refine callsD_of_wpS func82 rfl λc₀ cs hu=>?_
 apply wpS_seq;apply wpS_region
 obtain⟨W0,hW1,E1,c1⟩:∃W0,W0=w.alloc (.cells #[.int .i64 n] 172)/\Ext w W0/\W0.cell? ⟨w.heap.size,0,none⟩=some (.int .i64 n):=
  ⟨_,rfl,(Ext.refl w).alloc _,by simp⟩
 have hta:=ta_f n;have B1:=B.ext E1;have k0:=B1.c 0 _ rfl;have k1:=B1.c 1 _ rfl;have k2:=B1.c 2 _ rfl;have k3:=B1.c 3 _ rfl;have k4:=B1.c 4 _ rfl;have k5:=B1.c 5 _ rfl;have k6:=B1.c 6 _ rfl;have k7:=B1.c 7 _ rfl;have k8:=B1.c 8 _ rfl;have k9:=B1.c 9 _ rfl;have k10:=B1.c 10 _ rfl;have f0:=B1.f 0;have f1:=B1.f 1;have f2:=B1.f 2;have f3:=B1.f 3;have f4:=B1.f 4;have f5:=B1.f 5;have f6:=B1.f 6;have f7:=B1.f 7;have f8:=B1.f 8;have f9:=B1.f 9;have f10:=B1.f 10;have hbd:∀w,(Instr.build 50 #[(1,.bool true),(3,.int .i64 n)]).run prog w=.ok (.agg (eVl n).toArray) w:=λw=>by unfold eVl;go_simp
 simp[wpOpsS,hta,go_sem,recoverD,hu,ntmps82,Exit.thenS,pan,failV];rw[<-hW1];apply wpS_seq;apply wpS_region;simp[wpOpsS,go_sem,Exit.thenS];refine wpS_cond (t:=true) (by simp[Act.eval]) ?_;simp only[if_true];apply wpS_region;simp[wpOpsS,go_sem,c1,bodyPostS,results,results82,k0,k1,k2,k3,k4,k5,k6,k7,k8,k9,k10,f0,f1,f2,f3,f4,f5,f6,f7,f8,f9,f10];exact⟨W0,E1,rfl,B1⟩
theorem ta_n(w:World):(Instr.typeAssert .nilIface 20 172 true).run prog w=.ok (.tuple #[.agg #[.int .i64 0],.bool false]) w:=by
 first|rfl|go_simp
theorem idle_f(w:World)(g:Nat):CallsD prog 82 #[.pointer (some ⟨g,0,none⟩)] .returning w λe u' w'=>e=.returned (.tuple #[])/\u'=.returning/\Ext w w':=by
 refine callsD_of_wpS func82 rfl λc₀ cs hu=>?_
 apply wpS_seq;apply wpS_region;obtain⟨W0,hW1,E1⟩:∃W0,W0=w.alloc (.cells #[.int .i64 0] 172)/\Ext w W0:=⟨_,rfl,(Ext.refl w).alloc _⟩;have hta:=ta_n;simp[wpOpsS,hta,go_sem,recoverD,hu,ntmps82,Exit.thenS];rw[<-hW1];apply wpS_seq;apply wpS_region;simp[wpOpsS,go_sem,Exit.thenS];refine wpS_cond (t:=false) (by simp[Act.eval]) ?_;simp only[Bool.false_eq_true,if_false];refine wpS_of_wp (wp_skip ?_);cases c₀
 simp_all [bodyPostS,results,results82]
theorem xN:LdV prog 31 8:=λw' g' vs' hl B=>ld_Nd hl (λj v hj=>by rw[Nat.zero_add];exact B.c j v hj)
theorem len8{us:List Value}(hl:us.length=8):∃u0 u1 u2 u3 u4 u5 u6 u7,us= [u0,u1,u2,u3,u4,u5,u6,u7]:=by
 match us,hl with
 | [u0,u1,u2,u3,u4,u5,u6,u7],_=>exact⟨_,_,_,_,_,_,_,_,rfl⟩
theorem result_f{σ:Type}{m:Mc}{J:σ->World->Prop}{w:World}{st:Mst σ}{us:List Value}(hl:us.length=8)(hJ:MapInv m.h J)(hh:m.h+3<=w.heap.size)(hM:MAt m st.1 w)(hj:J st.2 w){r:Res Kn×Mst σ}
  (HC:Hid (∀w',Rm m.h w w'->MAt m st.1 w'->J st.2 w'->w.heap.size<=w'.heap.size->Calls prog 84 #[.pointer (some ⟨m.h+2,0,none⟩),.agg us.toArray,.slice none 0 0] w' (EvP m J w' r))):
  Calls prog 66 #[.pointer (some ⟨m.h+2,0,none⟩),.agg us.toArray] w (λe w'=>Rm m.h w w'/\MAt m r.2.1 w'/\J r.2.2 w'/\∃v,e=.returned v/\IsVl r.1 (.slice none 0 0) v w'):=by
 obtain⟨u0,u1,u2,u3,u4,u5,u6,u7,rfl⟩:=len8 hl;clear hl;have hmf:∀(fn:Fn) (first cap:Array Value) (w:World),(Instr.makeFunc fn first cap).run prog w=.ok (.func fn first cap) w:=λ_ _ _ _=>rfl
 obtain⟨W,hW,E,B3,B4⟩:∃W,W=(w.alloc (.cells #[u0,u1,u2,u3,u4,u5,u6,u7] 31)).alloc (.cells #[.bool false,.slice none 0 0,.bool false,.slice none 0 0,.bool false,.slice none 0 0,.bool false,.slice none 0 0,.bool false,.slice none 0 0,.int .i64 0] 50)/\Ext w W/\Bk W w.heap.size [u0,u1,u2,u3,u4,u5,u6,u7]/\Bk W (w.heap.size+1) zVl:=
  ⟨_,rfl,((Ext.refl w).alloc _).alloc _,(Bk.new w _ _).ext ((Ext.refl _).alloc _),Bk.newE _ _ (by simp) _ _⟩
 go_enter_defers func66,ntmps66
 go_upto_region 2 with fail;rw[<-hW];clear hW;refine rgs 2 [some 6,some 7] [IsP (m.h+2) 0,IsV (.agg #[u0,u1,u2,u3,u4,u5,u6,u7])] [] ?_ ?_
 ·refine Rc zv ?_;refine Rc (lvV B3 xN (qB 3)) ?_;exact rn0
 intro v X1 e1 hZ _;replace E:=E.trans e1;replace B4:=B4.ext e1;simp only[lxE,Nat.reduceAdd];rw[show v 0=.pointer (some ⟨m.h+2,0,none⟩)from hZ 0 dcx,show v 1=.agg #[u0,u1,u2,u3,u4,u5,u6,u7]from hZ 1 dcx];clear hZ e1 B3;refine stL (λK hK=>?_);refine xB (us:= [.pointer (some ⟨m.h+2,0,none⟩),.agg #[u0,u1,u2,u3,u4,u5,u6,u7],.slice none 0 0]) (en func84) za (HC.out _ (Rm.ext E) (hM.ext E) (hJ.ext hj E hh) E.size) (λv2 X2 h=>hK _ _ ?_) (λch X2 h=>?_) (λX2 h=>?_)
 ·obtain⟨hR,hMA,hJA,h⟩:=h;obtain⟨res,st2⟩:=r;cases res with
  |error nn=>cases h
  | ok q=>
   obtain⟨v3,hv,hq⟩:=h;cases hv;have R:=(Rm.ext E).trans hR;have hs2:=R.size;replace B4:=hR.bk B4 (by omega);clear hK K hR E
   go_simp
   refine stL (λK hK=>?_);refine wp_call1 (en func83) za (value_f hq) (λv4 X3 h=>hK _ _ ?_) (λch X3 h=>by obtain⟨x,hx,_⟩:=h;cases hx) (λX3 h=>by obtain⟨x,hx,_⟩:=h;cases hx);obtain⟨v5,hv5,e3,s1,a1,n1,c1,s2,a2,n2,c2,s3,a3,n3,c3,s4,a4,n4,c4,hv6,g1,g2⟩:=h;cases hv5;subst hv6;replace R:=R.trans (Rm.ext e3);replace B4:=B4.ext e3;replace hMA:=hMA.ext e3;replace hJA:=hJ.ext hJA e3 (jQ hh hs2);clear hK K e3
   go_simp
   refine stL (λK hK=>?_);refine qZ (us:= [.bool s1,.slice a1 n1 c1,.bool s2,.slice a2 n2 c2,.bool s3,.slice a3 n3 c3,.bool s4,.slice a4 n4 c4,.bool q.fin,.slice none 0 0,.int .i64 0]) B4 st_Vl rfl rfl nwVl (λX4 B9 O=>hK _ _ ?_);refine jL ?_;replace g1:=IsRat.gstb _ _ _ _ _ O.gr g1;replace g2:=IsRat.gstb _ _ _ _ _ O.gr g2;have f1:=O.rm R (by omega);have f2:MAt m st2.1 X4:=⟨O.bk hMA.bk (by omega),hMA.fit⟩;have f3:=hJ.only hJA O (by omega);clear hK K O R hMA hJA B4;go_wp2_with fail;refine leaves_cons (f:=82) (args:= #[.pointer (some ⟨w.heap.size+1,0,none⟩)]) (by simp) (by simp[go_sem]) ?_;refine(idle_f X4 (w.heap.size+1)).mono ?_;rintro e u' w'' ⟨rfl,rfl,e5⟩;replace B9:=B9.ext e5;have d0:=B9.c 0 _ rfl;have d1:=B9.c 1 _ rfl;have d2:=B9.c 2 _ rfl;have d3:=B9.c 3 _ rfl;have d4:=B9.c 4 _ rfl;have d5:=B9.c 5 _ rfl;have d6:=B9.c 6 _ rfl;have d7:=B9.c 7 _ rfl;have d8:=B9.c 8 _ rfl;have d9:=B9.c 9 _ rfl;have d10:=B9.c 10 _ rfl;simp[Leaves,settle,results,results66,go_sem,d0,d1,d2,d3,d4,d5,d6,d7,d8,d9,d10];exact⟨f1.trans (Rm.ext e5),f2.ext e5,hJ.ext f3 e5 (jQ hh f1.size),_,_,_,_,_,_,_,_,_,_,_,_,_,_,_,_,rfl,IsRat.gstb _ _ _ _ _ e5.gr g1,IsRat.gstb _ _ _ _ _ e5.gr g2⟩
 ·obtain⟨hR,hMA,hJA,h⟩:=h;obtain⟨res,st2⟩:=r;cases res with
  |ok q=>obtain⟨_,hv,_⟩:=h;cases hv
  | error nn=>
   cases h;have R:=(Rm.ext E).trans hR;replace B4:=hR.bk B4 (by omega);show Leaves _ _ _ _ _ _ _;refine leaves_cons (f:=82) (args:= #[.pointer (some ⟨w.heap.size+1,0,none⟩)]) (by simp) (by simp[go_sem]) ?_;refine(catch_f nn X2 (w.heap.size+1) B4).mono ?_;rintro e u' w'' ⟨rfl,rfl,W2,e5,rfl,B5⟩;obtain⟨O,B9⟩:=B5.putO (us:=eVl nn) rfl nwVl;have f1:=O.rm (R.trans (Rm.ext e5)) (by omega);have f2:MAt m st2.1 _:=⟨O.bk (hMA.ext e5).bk (by omega),hMA.fit⟩;have f3:=hJ.only (hJ.ext hJA e5 (jQ hh R.size)) O (by omega);have d0:=B9.c 0 _ rfl;have d1:=B9.c 1 _ rfl;have d2:=B9.c 2 _ rfl;have d3:=B9.c 3 _ rfl;have d4:=B9.c 4 _ rfl;have d5:=B9.c 5 _ rfl;have d6:=B9.c 6 _ rfl;have d7:=B9.c 7 _ rfl;have d8:=B9.c 8 _ rfl;have d9:=B9.c 9 _ rfl;have d10:=B9.c 10 _ rfl;generalize xJ W2 (w.heap.size+1) 0 (eVl nn)=X5 at*;simp[Leaves,settle,results,results66,go_sem,d0,d1,d2,d3,d4,d5,d6,d7,d8,d9,d10];exact⟨f1,f2,f3,rfl⟩
 ·obtain⟨hR,hMA,hJA,h⟩:=h;obtain⟨res,st2⟩:=r;cases res with
  |ok q=>obtain⟨_,hv,_⟩:=h;cases hv
  |error nn=>cases h
end
section
open Go Go.RowKit
open Go.Proofs.Tryz
theorem zu{P:Prop}(h:P:=by simp[results,go_sem]):P:=h
theorem jg{P:Prop}(h:P:=by simp[results,results115,go_sem]):P:=h
theorem jh{P:Prop}(h:P:=by simp[results,results117,go_sem]):P:=h
theorem xu{P:Prop}(h:P:=by simp[results,results152,go_sem]):P:=h
theorem xw{P:Prop}(h:P:=by simp[results,results163,go_sem]):P:=h
theorem xy{P:Prop}(h:P:=by simp[results,results85,go_sem]):P:=h
theorem xz{P:Prop}(h:P:=by simp[results,results86,go_sem]):P:=h
set_option maxRecDepth 100000
set_option maxHeartbeats 4000000
theorem ins_int(ao:Option Addr)(n c:Nat)(w:World)(hn:n<=1):Calls prog 152 #[.slice ao n c,.int .i64 0,.int .i64 (n:Int)] w (λe w'=>e=.returned (.tuple #[])/\Ext w w'):=by
 obtain rfl|rfl:n=0\/n=1:=by omega
 ·go_enter func152,ntmps152
  go_wp2
  refine wp_loop_rounds 1 ?_;rw[rounds_succ];go_wp2_with fail
  first|exact jK (v:=.tuple #[]) zu rfl ⟨rfl,Ext.refl _⟩|exact jK (v:=.tuple #[]) zu rfl ⟨rfl,e1⟩|exact bodyPost_end (v:=.tuple #[]) xu rfl ⟨rfl,Ext.refl _⟩|exact bodyPost_end (v:=.tuple #[]) xu rfl ⟨rfl,e1⟩|trace_state
 ·go_enter func152,ntmps152
  go_wp2
  refine wp_loop_rounds 1 ?_;rw[rounds_succ];go_wp2_with fail
  first|exact jK (v:=.tuple #[]) zu rfl ⟨rfl,Ext.refl _⟩|exact jK (v:=.tuple #[]) zu rfl ⟨rfl,e1⟩|exact bodyPost_end (v:=.tuple #[]) xu rfl ⟨rfl,Ext.refl _⟩|exact bodyPost_end (v:=.tuple #[]) xu rfl ⟨rfl,e1⟩|trace_state
theorem pdq_int(ao:Option Addr)(n c:Nat)(w:World)(hn:n<=1)(l:Int):Calls prog 115 #[.slice ao n c,.int .i64 0,.int .i64 (n:Int),.int .i64 l] w (λe w'=>e=.returned (.tuple #[])/\Ext w w'):=by
 obtain rfl|rfl:n=0\/n=1:=by omega
 ·go_enter func115,ntmps115
  go_wp2
  refine wp_loop_rounds 1 ?_;rw[rounds_succ];go_wp2_with (go_at_call 152;refine(ins_int ao 0 c _ dcx).mono ?_;rintro e w1 ⟨rfl,e1⟩)
  first|exact jK (v:=.tuple #[]) jg rfl ⟨rfl,Ext.refl _⟩|exact jK (v:=.tuple #[]) jg rfl ⟨rfl,e1⟩|exact bodyPost_end (v:=.tuple #[]) jg rfl ⟨rfl,Ext.refl _⟩|exact bodyPost_end (v:=.tuple #[]) jg rfl ⟨rfl,e1⟩|trace_state
 ·go_enter func115,ntmps115
  go_wp2
  refine wp_loop_rounds 1 ?_;rw[rounds_succ];go_wp2_with (go_at_call 152;refine(ins_int ao 1 c _ dcx).mono ?_;rintro e w1 ⟨rfl,e1⟩)
  first|exact jK (v:=.tuple #[]) jg rfl ⟨rfl,Ext.refl _⟩|exact jK (v:=.tuple #[]) jg rfl ⟨rfl,e1⟩|exact bodyPost_end (v:=.tuple #[]) jg rfl ⟨rfl,Ext.refl _⟩|exact bodyPost_end (v:=.tuple #[]) jg rfl ⟨rfl,e1⟩|trace_state
theorem sort_int(ao:Option Addr)(n c:Nat)(w:World)(hn:n<=1):Calls prog 85 #[.slice ao n c] w (λe w'=>e=.returned (.tuple #[])/\Ext w w'):=by
 obtain rfl|rfl:n=0\/n=1:=by omega
 ·go_enter func85,ntmps85;go_wp2_with (first| (go_at_call 116;refine(Tryz.bits_Len _ _ (by omega) (by omega)).mono ?_;rintro e w1 ⟨rfl,rfl⟩)| (go_at_call 115;refine(pdq_int ao 0 c _ dcx _).mono ?_;rintro e w1 ⟨rfl,e1⟩))
  first|exact jK (v:=.tuple #[]) zu rfl ⟨rfl,Ext.refl _⟩|exact jK (v:=.tuple #[]) zu rfl ⟨rfl,e1⟩|exact bodyPost_end (v:=.tuple #[]) xy rfl ⟨rfl,Ext.refl _⟩|exact bodyPost_end (v:=.tuple #[]) xy rfl ⟨rfl,e1⟩|trace_state
 ·go_enter func85,ntmps85;go_wp2_with (first| (go_at_call 116;refine(Tryz.bits_Len _ _ (by omega) (by omega)).mono ?_;rintro e w1 ⟨rfl,rfl⟩)| (go_at_call 115;refine(pdq_int ao 1 c _ dcx _).mono ?_;rintro e w1 ⟨rfl,e1⟩))
  first|exact jK (v:=.tuple #[]) zu rfl ⟨rfl,Ext.refl _⟩|exact jK (v:=.tuple #[]) zu rfl ⟨rfl,e1⟩|exact bodyPost_end (v:=.tuple #[]) xy rfl ⟨rfl,Ext.refl _⟩|exact bodyPost_end (v:=.tuple #[]) xy rfl ⟨rfl,e1⟩|trace_state
theorem ins_string(ao:Option Addr)(n c:Nat)(w:World)(hn:n<=1):Calls prog 163 #[.slice ao n c,.int .i64 0,.int .i64 (n:Int)] w (λe w'=>e=.returned (.tuple #[])/\Ext w w'):=by
 obtain rfl|rfl:n=0\/n=1:=by omega
 ·go_enter func163,ntmps163
  go_wp2
  refine wp_loop_rounds 1 ?_;rw[rounds_succ];go_wp2_with fail
  first|exact jK (v:=.tuple #[]) zu rfl ⟨rfl,Ext.refl _⟩|exact jK (v:=.tuple #[]) zu rfl ⟨rfl,e1⟩|exact bodyPost_end (v:=.tuple #[]) xw rfl ⟨rfl,Ext.refl _⟩|exact bodyPost_end (v:=.tuple #[]) xw rfl ⟨rfl,e1⟩|trace_state
 ·go_enter func163,ntmps163
  go_wp2
  refine wp_loop_rounds 1 ?_;rw[rounds_succ];go_wp2_with fail
  first|exact jK (v:=.tuple #[]) zu rfl ⟨rfl,Ext.refl _⟩|exact jK (v:=.tuple #[]) zu rfl ⟨rfl,e1⟩|exact bodyPost_end (v:=.tuple #[]) xw rfl ⟨rfl,Ext.refl _⟩|exact bodyPost_end (v:=.tuple #[]) xw rfl ⟨rfl,e1⟩|trace_state
theorem pdq_string(ao:Option Addr)(n c:Nat)(w:World)(hn:n<=1)(l:Int):Calls prog 117 #[.slice ao n c,.int .i64 0,.int .i64 (n:Int),.int .i64 l] w (λe w'=>e=.returned (.tuple #[])/\Ext w w'):=by
 obtain rfl|rfl:n=0\/n=1:=by omega
 ·go_enter func117,ntmps117
  go_wp2
  refine wp_loop_rounds 1 ?_;rw[rounds_succ];go_wp2_with (go_at_call 163;refine(ins_string ao 0 c _ dcx).mono ?_;rintro e w1 ⟨rfl,e1⟩)
  first|exact jK (v:=.tuple #[]) jh rfl ⟨rfl,Ext.refl _⟩|exact jK (v:=.tuple #[]) jh rfl ⟨rfl,e1⟩|exact bodyPost_end (v:=.tuple #[]) jh rfl ⟨rfl,Ext.refl _⟩|exact bodyPost_end (v:=.tuple #[]) jh rfl ⟨rfl,e1⟩|trace_state
 ·go_enter func117,ntmps117
  go_wp2
  refine wp_loop_rounds 1 ?_;rw[rounds_succ];go_wp2_with (go_at_call 163;refine(ins_string ao 1 c _ dcx).mono ?_;rintro e w1 ⟨rfl,e1⟩)
  first|exact jK (v:=.tuple #[]) jh rfl ⟨rfl,Ext.refl _⟩|exact jK (v:=.tuple #[]) jh rfl ⟨rfl,e1⟩|exact bodyPost_end (v:=.tuple #[]) jh rfl ⟨rfl,Ext.refl _⟩|exact bodyPost_end (v:=.tuple #[]) jh rfl ⟨rfl,e1⟩|trace_state
theorem sort_string(ao:Option Addr)(n c:Nat)(w:World)(hn:n<=1):Calls prog 86 #[.slice ao n c] w (λe w'=>e=.returned (.tuple #[])/\Ext w w'):=by
 obtain rfl|rfl:n=0\/n=1:=by omega
 ·go_enter func86,ntmps86;go_wp2_with (first| (go_at_call 116;refine(Tryz.bits_Len _ _ (by omega) (by omega)).mono ?_;rintro e w1 ⟨rfl,rfl⟩)| (go_at_call 117;refine(pdq_string ao 0 c _ dcx _).mono ?_;rintro e w1 ⟨rfl,e1⟩))
  first|exact jK (v:=.tuple #[]) zu rfl ⟨rfl,Ext.refl _⟩|exact jK (v:=.tuple #[]) zu rfl ⟨rfl,e1⟩|exact bodyPost_end (v:=.tuple #[]) xz rfl ⟨rfl,Ext.refl _⟩|exact bodyPost_end (v:=.tuple #[]) xz rfl ⟨rfl,e1⟩|trace_state
 ·go_enter func86,ntmps86;go_wp2_with (first| (go_at_call 116;refine(Tryz.bits_Len _ _ (by omega) (by omega)).mono ?_;rintro e w1 ⟨rfl,rfl⟩)| (go_at_call 117;refine(pdq_string ao 1 c _ dcx _).mono ?_;rintro e w1 ⟨rfl,e1⟩))
  first|exact jK (v:=.tuple #[]) zu rfl ⟨rfl,Ext.refl _⟩|exact jK (v:=.tuple #[]) zu rfl ⟨rfl,e1⟩|exact bodyPost_end (v:=.tuple #[]) xz rfl ⟨rfl,Ext.refl _⟩|exact bodyPost_end (v:=.tuple #[]) xz rfl ⟨rfl,e1⟩|trace_state
end
section
open Go Go.RowKit Go.Maps
open Go.Proofs.Tryz
abbrev DU:=DataW Unit
theorem ty_int:prog.underlying 3=some (.int .i64):=by kernel_rfl
theorem ty_str:prog.underlying 9=some .string:=by kernel_rfl
theorem ty_bool:prog.underlying 4=some .bool:=by kernel_rfl
theorem ty_mi:prog.underlying 152=some (.map 3 4):=by kernel_rfl
theorem ty_ms:prog.underlying 151=some (.map 9 4):=by kernel_rfl
theorem ty_ai:prog.underlying 41=some (.slice 3):=by kernel_rfl
theorem ty_as:prog.underlying 51=some (.slice 9):=by kernel_rfl
theorem lawI:Keyed prog 3:=int_keyed ty_int
theorem lawS:Keyed prog 9:=string_keyed ty_str
theorem boolV{v:Value}{z:DU×List MemPlace}(h:plainElem prog 4 v=some z):∃q:Nat,v=.bool (Nat.beq q 0):=by
 unfold plainElem at h;rw[ty_bool]at h;cases v <;> simp at h
 rename_i c
 cases c
 ·exact⟨1,rfl⟩
 ·exact⟨0,rfl⟩
end
section
open Go Go.RowKit Go.Maps
structure RS (g:Nat) (z u:List Value) (w w':World):Prop where
 ob:Ob g w w'
 k:Bk w g z\/Bk w g u->Bk w' g z\/Bk w' g u
 s:Bk w g u->Bk w' g u
theorem RS.trans{g:Nat}{z u:List Value}{a b c:World}(x:RS g z u a b)(y:RS g z u b c):RS g z u a c:=⟨x.ob.trans y.ob,λh=>y.k (x.k h),λh=>y.s (x.s h)⟩
theorem RS.of{g:Nat}{z u:List Value}{a b:World}(e:Ext a b):RS g z u a b:=⟨Ob.of e,λh=>h.imp (λx=>x.ext e) (λx=>x.ext e),λh=>h.ext e⟩
section
variable {P:Program} {ops:Array Oper} {Q:Exit->Act->World->Prop} {ds:List (Option Tmp)} {a0:Act} {w0:World} {L:List (Value->World->Prop)} {boxes:List Nat} {i k:Nat} {o:Oper} {os:List Oper}
theorem RxS{g q:Nat}{z u:List Value}{os:List Oper}(h:∀w,RS g z u w0 w->Ok P ops Q ds a0 w L [] i o)(hs:RgAllx P ops Q (RS g z u) ds a0 w0 L (i+1) q os)(hg:o.guard=none:=by rfl):RgAllx P ops Q (RS g z u) ds a0 w0 L i (q+1) (o ::os):=
 RgAllx.cons (RgLx.ofOk RS.of h hg) hs
theorem stS{g q T m:Nat}{z u:List Value}{x y:Operand}{os:List Oper}(hk:Bk w0 g z\/Bk w0 g u)(hT:StV P T m)(hz:z.length=m)(hu:u.length=m)(nz:∀v∈z,NoWord v)(nu:∀v∈u,NoWord v)(hone:u.all (λu=>u.oneCell')=true)(hx:∀w,Od ops ds a0 w L i x (IsP g 0))(hy:∀w,Od ops ds a0 w L i y (IsV (.agg u.toArray)))
  (hs:RgAllx P ops Q (RS g z u) ds a0 w0 L (i+1) q os) (ho:o.op=.store T x y:=by rfl) (hL:L.getD i (λ_ _=>True)=(λ_ w=>Bk w g u):=by kernel_rfl) (hg:o.guard=none:=by rfl):RgAllx P ops Q (RS g z u) ds a0 w0 L i (q+1) (o ::os):=by
 refine RgAllx.cons (RgLx.mk hg λv a w hR hdd hf K hK=>?_) hs;have h1:a.eval x=_:=(hx w).out v a w (Ext.refl w) hdd hf;have h2:a.eval y=_:=(hy w).out v a w (Ext.refl w) hdd hf
 have key:(Instr.storeAt T (.pointer (some ⟨g,0,none⟩)) (.agg u.toArray)).run P w=.ok () (xJ w g 0 u)/\OnlyB g w (xJ w g 0 u)/\Bk (xJ w g 0 u) g u:=by
  rcases hR.k hk with B|B
  ·exact⟨hT w g z u hz hu hone B,B.putO (by omega) nz⟩
  ·exact⟨hT w g u u hu hu hone B,B.putO rfl nu⟩
 obtain⟨hr,O,B⟩:=key;refine st_wp ho h1 h2 hr ?_;exact hK.out undef _ ⟨Ob.only O,λ_=> .inr B,λ_=>B⟩ (by rw[hL];exact B)
end
theorem tEv15_1{P:Prop}(h:P:=by
  intro v hv;simp only[u1x,u0x,List.mem_cons,List.not_mem_nil,or_false]at hv;rcases hv with rfl|rfl|rfl|rfl|rfl|rfl|rfl|rfl|rfl|rfl|rfl
  all_goals first|exact h1|exact NoWord.bool _|exact NoWord.slice _ _ _|exact NoWord.int64 _
  ):P:=h
theorem IsVl.cells{r:Res Kn}{x:Value}{w:World}(h:IsVl r (.slice none 0 0) x w):∃ul:List Value,x=.agg ul.toArray/\ul.length=11/\(∀v∈ul,NoWord v)/\ul.all (λu=>u.oneCell')=true/\(∃y,ul[9]? =some y/\NoWord y)/\
  (∀hy,NoWord hy->hy.oneCell'=true->(∀v∈ul.set 9 hy,NoWord v)/\(ul.set 9 hy).all (λu=>u.oneCell')=true/\∀w',Gr w w'->IsVl r hy (.agg (ul.set 9 hy).toArray) w'):=by
 cases r with
 | error n=>
  refine⟨_,h,rfl,nwVl,rfl,⟨_,rfl,NoWord.slice _ _ _⟩,λhy h1 h2=>⟨?_,by{simp only[u1x,u0x,List.all_cons,h2];rfl},λw' e=>rfl⟩⟩;exact tEv15_1
 | ok q=>
  obtain⟨s1,a1,n1,c1,s2,a2,n2,c2,s3,a3,n3,c3,s4,a4,n4,c4,h,g1,g2⟩:=h;refine⟨_,h,rfl,nwVl,rfl,⟨_,rfl,NoWord.slice _ _ _⟩,λhy h1 h2=>⟨?_,by{simp only[u1x,u0x,List.all_cons,h2];rfl},λw' e=>⟨_,_,_,_,_,_,_,_,_,_,_,_,_,_,_,_,rfl,IsRat.gstb _ _ _ _ _ e g1,IsRat.gstb _ _ _ _ _ e g2⟩⟩⟩;exact tEv15_1
theorem len11{us:List Value}(hl:us.length=11):∃u0 u1 u2 u3 u4 u5 u6 u7 u8 u9 u10,us= [u0,u1,u2,u3,u4,u5,u6,u7,u8,u9,u10]:=by
 match us,hl with
 | [u0,u1,u2,u3,u4,u5,u6,u7,u8,u9,u10],_=>exact⟨_,_,_,_,_,_,_,_,_,_,_,rfl⟩
theorem Rm.extAll{h:Nat}{b w w':World}(R:Rm h w w')(e:Ext b w)(hb:b.heap.size<=h):Ext b w':=
 ⟨R.os.trans e.os,R.tape.trans e.tape,R.output.trans e.output,jQ e.size R.size,λk hk=>(R.block k (Nat.lt_of_lt_of_le hk e.size) (.inl (by omega))).trans (e.block k hk)⟩
theorem al_Vl(w:World):(Instr.alloc 50 true (.tuple #[])).run Tryz.prog w=.ok (.pointer (some ⟨w.heap.size,0,none⟩)) (w.alloc (.cells zVl.toArray 50)):=by unfold zVl;go_simp
theorem fa_Mc5(g:Nat)(w:World):(Instr.fieldAt 154 (.pointer (some ⟨g,0,none⟩)) 5).run Tryz.prog w=.ok (.pointer (some ⟨g,5,none⟩)) w:=by go_simp
theorem fa_Mc6(g:Nat)(w:World):(Instr.fieldAt 154 (.pointer (some ⟨g,0,none⟩)) 6).run Tryz.prog w=.ok (.pointer (some ⟨g,6,none⟩)) w:=by go_simp
theorem fa_Vl2(g:Nat)(w:World):(Instr.fieldAt 50 (.pointer (some ⟨g,0,none⟩)) 2).run Tryz.prog w=.ok (.pointer (some ⟨g,9,none⟩)) w:=by go_simp
theorem ld_mi:LdC1 Tryz.prog 152:=λw a v h=>by go_simp
theorem ld_ms:LdC1 Tryz.prog 151:=λw a v h=>by go_simp
theorem st_ai(a:Option Addr)(n c:Nat):StC1 Tryz.prog 41 (.slice a n c):=λw p v h2 h3=>by go_simp
theorem nwZ:∀v∈zVl,NoWord v:=nwVl
end
section
section
variable {σ:Type} {f:Int->Mst σ->Res Kn×Mst σ} {fst:Bool} {hi:Int} {s:σ} {c:Nat} {opn last:Int} {q:Kn}
end
section
variable {σ:Type} (M:Mem σ) (s:σ) (x:ByteArray)
theorem look_one(i:Int):look ([]++ [(x,i)]) x=i:=rfl
end
end
end Go.Proofs.YtkeikfekkdplgaaGreatDoor
