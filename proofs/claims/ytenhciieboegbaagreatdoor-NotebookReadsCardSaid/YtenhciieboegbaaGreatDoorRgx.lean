/-
  Boxes of structs made of integers: each field of two cells has its place (block, number of the field). No condition on the program. Values of four fields (intervals), and their boxes. No condition. Short lemmas for the operations of a region: an operand's fact (Od), an operation's (Ok). No condition on the program.
  The rule for a region that makes boxes and fills them, where the stores may come early: facts of the values, and of each new box what was stored there. No condition on the program.
  The rule of XRg for a region whose stores may come early: each operation, stores among them, is shown once, in whatever world the others led to; the boxes that are written are read by none. No condition on the program.
-/
import Derived.Test.YtenhciieboegbaaGreatDoorRwn
namespace Go.Proofs.YtenhciieboegbaaGreatDoor
open Go Go.RowKit
structure Bo (w:World) (g i:Nat) (s:Bool) (a:Option Addr) (n c:Nat):Prop where
  c0:w.cell? ⟨g,2 * i,none⟩=some (.bool s)
  c1:w.cell? ⟨g,2 * i + 1,none⟩=some (.slice a n c)
  f0:w.frozen? ⟨g,2 * i,none⟩=false
  f1:w.frozen? ⟨g,2 * i + 1,none⟩=false
theorem Bo.lt{w:World}{g i n c:Nat}{s:Bool}{a:Option Addr}(h:Bo w g i s a n c):g < w.heap.size:=World.block_lt_of_cell? w ⟨g,2 * i,none⟩ h.c0
theorem Bo.ext{w w':World}{g i n c:Nat}{s:Bool}{a:Option Addr}(h:Bo w g i s a n c)(e:Ext w w'):Bo w' g i s a n c:=
  ⟨e.cell h.c0,e.cell h.c1,(e.frozen h.lt).trans h.f0,(e.frozen h.lt).trans h.f1⟩
def IsBo(w0:World)(m:Nat):Value ->World ->Prop:=λx w =>∃g,x =.pointer (some ⟨g,0,none⟩)/\w0.heap.size <=g/\ (∀i,i < m ->Bo w g i false none 0 0)/\g < w.heap.size
theorem IsBo.stb(w0:World)(m:Nat):Stb (IsBo w0 m) :=λ_ _ _ e ⟨g,h1,h2,h3,h4⟩ =>⟨g,h1,h2,λi hi =>(h3 i hi).ext e,Nat.lt_of_lt_of_le h4 e.size⟩
instance (w0:World) (m:Nat):StbC (IsBo w0 m) :=⟨IsBo.stb w0 m⟩
theorem IsBo.box(w0:World)(m:Nat):IsBox (IsBo w0 m) :=λ_ _ ⟨g,h1,_,_,h4⟩ =>⟨g,h1,h4⟩
def IsQ(fP fR:Value ->World ->Prop):Value ->World ->Prop:=λx w =>∃s a n c s' a' n' c',x =.agg #[.bool s,.slice a n c,.bool s',.slice a' n' c']/\fP (.agg #[.bool s,.slice a n c]) w/\fR (.agg #[.bool s',.slice a' n' c']) w
theorem IsQ.stb{fP fR:Value ->World ->Prop}(h:Stb fP)(k:Stb fR):Stb (IsQ fP fR) :=λ_ _ _ e ⟨s,a,n,c,s',a',n',c',h1,h2,h3⟩ =>⟨s,a,n,c,s',a',n',c',h1,h _ _ _ e h2,k _ _ _ e h3⟩
instance {fP fR:Value ->World ->Prop} [StbC fP] [StbC fR]:StbC (IsQ fP fR) :=⟨IsQ.stb StbC.out StbC.out⟩
def IsJ(fP fR fQ fS:Value ->World ->Prop):Value ->World ->Prop:=λx w =>∃s a n c s' a' n' c' s2 a2 n2 c2 s3 a3 n3 c3,
  x =.agg #[.bool s,.slice a n c,.bool s',.slice a' n' c',.bool s2,.slice a2 n2 c2,.bool s3,.slice a3 n3 c3]/\fP (.agg #[.bool s,.slice a n c]) w/\fR (.agg #[.bool s',.slice a' n' c']) w/\fQ (.agg #[.bool s2,.slice a2 n2 c2]) w/\fS (.agg #[.bool s3,.slice a3 n3 c3]) w
theorem IsJ.stb{fP fR fQ fS:Value ->World ->Prop}(h:Stb fP)(k:Stb fR)(l:Stb fQ)(m:Stb fS):Stb (IsJ fP fR fQ fS) :=
  λ_ _ _ e ⟨s,a,n,c,s',a',n',c',s2,a2,n2,c2,s3,a3,n3,c3,h1,h2,h3,h4,h5⟩ =>⟨s,a,n,c,s',a',n',c',s2,a2,n2,c2,s3,a3,n3,c3,h1,h _ _ _ e h2,k _ _ _ e h3,l _ _ _ e h4,m _ _ _ e h5⟩
instance {fP fR fQ fS:Value ->World ->Prop} [StbC fP] [StbC fR] [StbC fQ] [StbC fS]:StbC (IsJ fP fR fQ fS) :=⟨IsJ.stb StbC.out StbC.out StbC.out StbC.out⟩
section
variable {P:Program} {ops:Array Oper} {Q:Exit ->Act ->World ->Prop} {ds:List (Option Tmp)} {a0:Act} {w0:World} {L:List (Value ->World ->Prop)} {boxes:List Nat} {i k:Nat} {o:Oper} {os:List Oper}
structure Od (ops:Array Oper) (ds:List (Option Tmp)) (a0:Act) (w0:World) (L:List (Value ->World ->Prop)) (i:Nat) (x:Operand) (fP:Value ->World ->Prop):Prop where
  out:∀(v:Nat ->Value) (a:Act) (w:World),Ext w0 w ->(∀j,(ups .any ops i).contains j =true ->L.getD j (λ_ _ =>True) (v j) w) ->Fr ds a0 v a ->fP (a.eval x) w
structure Ok (P:Program) (ops:Array Oper) (Q:Exit ->Act ->World ->Prop) (ds:List (Option Tmp)) (a0:Act) (w0:World) (L:List (Value ->World ->Prop)) (boxes:List Nat) (i:Nat) (o:Oper):Prop where
  out:OpOk P .any ops Q ds a0 w0 L boxes i o
theorem xB(a:Act)(t:Nat):a.eval (.tmp t)=a.tmps[t]?.getD undef:=by simp[Act.eval]
theorem xQ(j t:Nat)(hu:(ups .any ops i).contains j =true:=by kernel_rfl)(h1:ds[j]? =some (some t) :=by kernel_rfl)(h2:(ds.drop (j + 1)).contains (some t)=false:=by kernel_rfl)(h3:decide (t < a0.tmps.size)=true:=by kernel_rfl):
    Od ops ds a0 w0 L i (.tmp t) (L.getD j (λ_ _ =>True)) :=
  ⟨λv a w _ hd hf =>by rw[xB,hf.val j t _ rfl h1 h2 h3];exact hd j hu⟩
theorem qA(j t:Nat){fP:Value ->World ->Prop}(hL:L.getD j (λ_ _ =>True)=fP:=by kernel_rfl)(hu:(ups .any ops i).contains j =true:=by kernel_rfl)(h1:ds[j]? =some (some t) :=by kernel_rfl)(h2:(ds.drop (j + 1)).contains (some t)=false:=by kernel_rfl)(h3:decide (t < a0.tmps.size)=true:=by kernel_rfl):
    Od ops ds a0 w0 L i (.tmp t) fP:=hL ▸ xQ j t hu h1 h2 h3
theorem qC(t:Nat){x:Value}(h1:ds.contains (some t)=false:=by kernel_rfl)(h2:a0.tmps[t]? =some x:=by kernel_rfl):Od ops ds a0 w0 L i (.tmp t) (IsV x) :=
  ⟨λv a w _ _ hf =>by rw[xB,hf.lit t x h1 h2];exact rfl⟩
theorem qD{x:Value}:Od ops ds a0 w0 L i (.const x) (IsV x) :=⟨λ_ _ _ _ _ _ =>rfl⟩
theorem Rc(h:Ok P ops Q ds a0 w0 L boxes i o)(hs:RgAll P .any ops Q ds a0 w0 L boxes (i + 1) k os)(hg:o.guard =none:=by rfl):RgAll P .any ops Q ds a0 w0 L boxes i (k + 1) (o ::os) :=
  ⟨RgL.mk hg h.out,hs⟩
theorem RcG(g t:Nat)(b:Bool)(h:Ok P ops Q ds a0 w0 L boxes i o)(hs:RgAll P .any ops Q ds a0 w0 L boxes (i + 1) k os)(hg:o.guard =some (g,b) :=by rfl)(hdst:xG ops g =some t:=by kernel_rfl)(h1:ds[g]? =some (some t) :=by kernel_rfl)(h2:(ds.drop (g + 1)).contains (some t)=false:=by kernel_rfl)(h3:decide (t < a0.tmps.size)=true:=by kernel_rfl)(hu:(ups .any ops i).contains g =true:=by kernel_rfl)
    (hL:L.getD g (λ_ _ =>True)=IsV (.bool b) :=by kernel_rfl):RgAll P .any ops Q ds a0 w0 L boxes i (k + 1) (o ::os) :=
  ⟨RgL.mkG g t b hg hdst h1 h2 h3 hu (λ_ _ h =>by rw[hL]at h;exact h) h.out,hs⟩
theorem RcN(g t:Nat)(b:Bool)(hs:RgAll P .any ops Q ds a0 w0 L boxes (i + 1) k os)(hg:o.guard =some (g,!b) :=by rfl)(hdst:xG ops g =some t:=by kernel_rfl)(h1:ds[g]? =some (some t) :=by kernel_rfl)(h2:(ds.drop (g + 1)).contains (some t)=false:=by kernel_rfl)(h3:decide (t < a0.tmps.size)=true:=by kernel_rfl)(hu:(ups .any ops i).contains g =true:=by kernel_rfl)
    (hL:L.getD g (λ_ _ =>True)=IsV (.bool b) :=by kernel_rfl) (hb:boxes.contains i =false:=by kernel_rfl) (hi:L.getD i (λ_ _ =>True)=IsV undef:=by kernel_rfl):RgAll P .any ops Q ds a0 w0 L boxes i (k + 1) (o ::os) :=
  ⟨RgL.mkN g t b hg hdst h1 h2 h3 hu (λ_ _ h =>by rw[hL]at h;exact h) hb (λ_ =>by rw[hi];exact rfl),hs⟩
theorem Ok.of(hb:boxes.contains i =false)(h:∀(v:Nat ->Value) (a:Act) (w:World),Ext w0 w ->(∀j,(ups .any ops i).contains j =true ->L.getD j (λ_ _ =>True) (v j) w) ->Fr ds a0 v a ->
    ∃x,(execOp a.eval o).run P w =.ok (.value x) w/\L.getD i (λ_ _ =>True) x w):Ok P ops Q ds a0 w0 L boxes i o:=
  ⟨fun v a w hE hd hf K hK =>by
    obtain⟨x,hr,hx⟩ :=h v a w hE hd hf
    unfold Oper.wp
    rw[hr]
    exact hK.out x w (Ext.refl _) hx (FreshIf.no hb)⟩
theorem mv{x:Operand}(hx:Od ops ds a0 w0 L i x (L.getD i (λ_ _ =>True)))(ho:(o.op =.move x\/o.op =.assign x) :=by first|exact .inl rfl|exact .inr rfl)(hb:boxes.contains i =false:=by kernel_rfl):Ok P ops Q ds a0 w0 L boxes i o:=
  Ok.of hb λv a w hE hd hf =>by
    have h:=hx.out v a w hE hd hf
    refine⟨a.eval x,?_,h⟩
    unfold execOp
    rcases ho with ho|ho <;> rw[ho] <;> rfl
theorem fa{x:Operand}{T f:Nat}{p r:Value}(hr:∀w,(Instr.fieldAt T p f).run P w =.ok r w)(hx:Od ops ds a0 w0 L i x (IsV p))(ho:o.op =.fieldAddr T x f:=by rfl)(hi:L.getD i (λ_ _ =>True)=IsV r:=by kernel_rfl)(hb:boxes.contains i =false:=by kernel_rfl):Ok P ops Q ds a0 w0 L boxes i o:=
  Ok.of hb λv a w hE hd hf =>by
    have h:a.eval x =p:=hx.out v a w hE hd hf
    refine⟨r,?_,by rw[hi];exact rfl⟩
    have:=hr w
    unfold execOp
    rw[ho]
    dsimp only
    rw[h]
    simp[this]
theorem ld_run{x:Operand}{T:Nat}{a:Act}{p u:Value}{w:World}(ho:o.op =.load T x)(h:a.eval x =p)(hr:(Instr.loadAt T p).run P w =.ok u w):(execOp a.eval o).run P w =.ok (.value u) w:=by
  unfold execOp
  rw[ho]
  dsimp only
  rw[h]
  simp[hr]
theorem cl{f:FuncId}{c:Call}{fQ:Value ->World ->Prop}(he:∀args w,(callFunc f args).run P w =.ok (.enter f args) w)(ho:o.op =.call c)(hc:c.callee =.value (.func f))(hi:L.getD i (λ_ _ =>True)=fQ)(hb:boxes.contains i =false)
    (h:∀(v:Nat ->Value) (a:Act) (w:World),Ext w0 w ->(∀j,(ups .any ops i).contains j =true ->L.getD j (λ_ _ =>True) (v j) w) ->Fr ds a0 v a ->Calls P f (c.args.map a.eval) w (Ret w fQ)):Ok P ops Q ds a0 w0 L boxes i o:=
  ⟨fun v a w hE hd hf K hK =>by
    have hr:(execOp a.eval o).run P w =.ok (.enter f (c.args.map a.eval)) w:=by
      unfold execOp
      rw[ho]
      dsimp only
      unfold resolve
      rw[hc]
      simp[invoke,he,Deferred.ofValue,show a.eval (.func f)=.func (.func f) #[] #[]from rfl]
    unfold Oper.wp
    rw[hr,Oper.upon_enter]
    refine zG (h v a w hE hd hf) ?_
    rintro e w2 ⟨x,rfl,e2,hx⟩
    exact hK.out _ _ e2 (by rw[hi];exact hx) (FreshIf.no hb)⟩
theorem clv{f:FuncId}{c:Call}{t:Operand}{caps:Array Value}{fQ:Value ->World ->Prop}(ht:Od ops ds a0 w0 L i t (IsV (.func (.func f) #[] caps)))(he:∀args w,(callFunc f args).run P w =.ok (.enter f args) w)(ho:o.op =.call c)(hc:c.callee =.value t)(hi:L.getD i (λ_ _ =>True)=fQ)(hb:boxes.contains i =false)
    (h:∀(v:Nat ->Value) (a:Act) (w:World),Ext w0 w ->(∀j,(ups .any ops i).contains j =true ->L.getD j (λ_ _ =>True) (v j) w) ->Fr ds a0 v a ->Calls P f (c.args.map a.eval ++caps) w (Ret w fQ)):Ok P ops Q ds a0 w0 L boxes i o:=
  ⟨fun v a w hE hd hf K hK =>by
    have h0:a.eval t =_:=ht.out v a w hE hd hf
    have hr:(execOp a.eval o).run P w =.ok (.enter f (c.args.map a.eval ++caps)) w:=by
      unfold execOp
      rw[ho]
      dsimp only
      unfold resolve
      rw[hc]
      simp[invoke,he,h0,Deferred.ofValue]
    unfold Oper.wp
    rw[hr,Oper.upon_enter]
    refine zG (h v a w hE hd hf) ?_
    rintro e w2 ⟨x,rfl,e2,hx⟩
    exact hK.out _ _ e2 (by rw[hi];exact hx) (FreshIf.no hb)⟩
theorem cl0{f:FuncId}{c:Call}{fQ:Value ->World ->Prop}(he:∀args w,(callFunc f args).run P w =.ok (.enter f args) w)(h:∀w,Ext w0 w ->Calls P f #[] w (Ret w fQ))
    (ho:o.op =.call c:=by rfl) (hc:c.callee =.value (.func f) :=by rfl) (ha:c.args = #[] :=by rfl) (hi:L.getD i (λ_ _ =>True)=fQ:=by kernel_rfl) (hb:boxes.contains i =false:=by kernel_rfl):Ok P ops Q ds a0 w0 L boxes i o:=
  cl he ho hc hi hb λv a w hE hd hf =>by rw[ha,show(#[]:Array Operand).map a.eval = #[]by simp];exact h w hE
theorem cl1{f:FuncId}{c:Call}{x:Operand}{fP fQ:Value ->World ->Prop}(he:∀args w,(callFunc f args).run P w =.ok (.enter f args) w)(hx:Od ops ds a0 w0 L i x fP)(h:∀u w,Ext w0 w ->fP u w ->Calls P f #[u] w (Ret w fQ))
    (ho:o.op =.call c:=by rfl) (hc:c.callee =.value (.func f) :=by rfl) (ha:c.args = #[x] :=by rfl) (hi:L.getD i (λ_ _ =>True)=fQ:=by kernel_rfl) (hb:boxes.contains i =false:=by kernel_rfl):Ok P ops Q ds a0 w0 L boxes i o:=
  cl he ho hc hi hb λv a w hE hd hf =>by rw[ha,show(#[x]:Array Operand).map a.eval = #[a.eval x]by simp];exact h _ w hE (hx.out v a w hE hd hf)
theorem cl2{f:FuncId}{c:Call}{x y:Operand}{fP fR fQ:Value ->World ->Prop}(he:∀args w,(callFunc f args).run P w =.ok (.enter f args) w)(hx:Od ops ds a0 w0 L i x fP)(hy:Od ops ds a0 w0 L i y fR)(h:∀u u' w,Ext w0 w ->fP u w ->fR u' w ->Calls P f #[u,u'] w (Ret w fQ))
    (ho:o.op =.call c:=by rfl) (hc:c.callee =.value (.func f) :=by rfl) (ha:c.args = #[x,y] :=by rfl) (hi:L.getD i (λ_ _ =>True)=fQ:=by kernel_rfl) (hb:boxes.contains i =false:=by kernel_rfl):Ok P ops Q ds a0 w0 L boxes i o:=
  cl he ho hc hi hb λv a w hE hd hf =>by rw[ha,show(#[x,y]:Array Operand).map a.eval = #[a.eval x,a.eval y]by simp];exact h _ _ w hE (hx.out v a w hE hd hf) (hy.out v a w hE hd hf)
theorem cl3{f:FuncId}{c:Call}{x y z:Operand}{fP fR fS fQ:Value ->World ->Prop}(he:∀args w,(callFunc f args).run P w =.ok (.enter f args) w)(hx:Od ops ds a0 w0 L i x fP)(hy:Od ops ds a0 w0 L i y fR)(hz:Od ops ds a0 w0 L i z fS)(h:∀u u' u2 w,Ext w0 w ->fP u w ->fR u' w ->fS u2 w ->Calls P f #[u,u',u2] w (Ret w fQ))
    (ho:o.op =.call c:=by rfl) (hc:c.callee =.value (.func f) :=by rfl) (ha:c.args = #[x,y,z] :=by rfl) (hi:L.getD i (λ_ _ =>True)=fQ:=by kernel_rfl) (hb:boxes.contains i =false:=by kernel_rfl):Ok P ops Q ds a0 w0 L boxes i o:=
  cl he ho hc hi hb λv a w hE hd hf =>by rw[ha,show(#[x,y,z]:Array Operand).map a.eval = #[a.eval x,a.eval y,a.eval z]by simp];exact h _ _ _ w hE (hx.out v a w hE hd hf) (hy.out v a w hE hd hf) (hz.out v a w hE hd hf)
theorem cv2{f:FuncId}{c:Call}{t x y:Operand}{caps:List Value}{fP fR fQ:Value ->World ->Prop}(he:∀args w,(callFunc f args).run P w =.ok (.enter f args) w)(ht:Od ops ds a0 w0 L i t (IsV (.func (.func f) #[] caps.toArray)))(hx:Od ops ds a0 w0 L i x fP)(hy:Od ops ds a0 w0 L i y fR)(h:∀u u' w,Ext w0 w ->fP u w ->fR u' w ->Calls P f (u ::u' ::caps).toArray w (Ret w fQ))
    (ho:o.op =.call c:=by rfl) (hc:c.callee =.value t:=by rfl) (ha:c.args = #[x,y] :=by rfl) (hi:L.getD i (λ_ _ =>True)=fQ:=by kernel_rfl) (hb:boxes.contains i =false:=by kernel_rfl):Ok P ops Q ds a0 w0 L boxes i o:=
  clv ht he ho hc hi hb λv a w hE hd hf =>by rw[ha,show(#[x,y]:Array Operand).map a.eval ++caps.toArray =(a.eval x ::a.eval y ::caps).toArray by simp];exact h _ _ w hE (hx.out v a w hE hd hf) (hy.out v a w hE hd hf)
theorem ex{x:Operand}{n:Nat}{fP fQ:Value ->World ->Prop}(hx:Od ops ds a0 w0 L i x fP)(h:∀u w,fP u w ->∃vs:Array Value,u =.tuple vs/\∃y,vs[n]? =some y/\fQ y w)(ho:o.op =.extract x n:=by rfl)(hi:L.getD i (λ_ _ =>True)=fQ:=by kernel_rfl)(hb:boxes.contains i =false:=by kernel_rfl):Ok P ops Q ds a0 w0 L boxes i o:=
  Ok.of hb λv a w hE hd hf =>by
    obtain⟨vs,hu,y,hy,hχ⟩ :=h _ _ (hx.out v a w hE hd hf)
    refine⟨y,?_,by rw[hi];exact hχ⟩
    unfold execOp
    rw[ho]
    dsimp only
    rw[hu]
    simp[Instr.extract,hy]
theorem t20{fP fR:Value ->World ->Prop}(u:Value)(w:World)(h:IsT2 fP fR u w):∃vs:Array Value,u =.tuple vs/\∃y,vs[0]? =some y/\fP y w:=let ⟨_,_,h1,h2,_⟩ :=h;⟨_,h1,_,rfl,h2⟩
theorem t21{fP fR:Value ->World ->Prop}(u:Value)(w:World)(h:IsT2 fP fR u w):∃vs:Array Value,u =.tuple vs/\∃y,vs[1]? =some y/\fR y w:=let ⟨_,_,h1,_,h2⟩ :=h;⟨_,h1,_,rfl,h2⟩
theorem t31{fP fR fQ:Value ->World ->Prop}(u:Value)(w:World)(h:IsT3 fP fR fQ u w):∃vs:Array Value,u =.tuple vs/\∃y,vs[1]? =some y/\fR y w:=let ⟨_,_,_,h1,_,h2,_⟩ :=h;⟨_,h1,_,rfl,h2⟩
theorem bn{x y:Operand}{b:BinOp}{T T2:Nat}{p q r:Value}(hx:Od ops ds a0 w0 L i x (IsV p))(hy:Od ops ds a0 w0 L i y (IsV q))(ho:o.op =.binOp b T x y T2:=by rfl)(hr:∀w,Sem.run P (do eqGuard b T x y p q;binOp b T p q) w =.ok r w)(hi:L.getD i (λ_ _ =>True)=IsV r:=by kernel_rfl)(hb:boxes.contains i =false:=by kernel_rfl):Ok P ops Q ds a0 w0 L boxes i o:=
  Ok.of hb λv a w hE hd hf =>by
    have h1:a.eval x =p:=hx.out v a w hE hd hf
    have h2:a.eval y =q:=hy.out v a w hE hd hf
    refine⟨r,?_,by rw[hi];exact rfl⟩
    have:=hr w
    unfold execOp
    rw[ho]
    dsimp only
    rw[h1,h2]
    cases hg:Sem.run P (eqGuard b T x y p q) w with
    |ok u w1 =>simp[hg]at this ⊢;rw[this];simp
    |halt e w1 =>simp[hg]at this
theorem pk{c x y z:Operand}{b:Bool}(hc:Od ops ds a0 w0 L i c (IsV (.bool b)))(hx:Od ops ds a0 w0 L i z (L.getD i (λ_ _ =>True)))(ho:o.op =.pick c x y:=by rfl)(hz:(bif b then x else y)=z:=by rfl)(hb:boxes.contains i =false:=by kernel_rfl):Ok P ops Q ds a0 w0 L boxes i o:=
  Ok.of hb λv a w hE hd hf =>by
    have h1:a.eval c =.bool b:=hc.out v a w hE hd hf
    have h2:=hx.out v a w hE hd hf
    refine⟨a.eval z,?_,h2⟩
    subst hz
    unfold execOp
    rw[ho]
    dsimp only
    rw[h1]
    cases b <;> simp[asBool]
def AlO(P:Program)(T:TypeId)(m:Nat):Prop:=∀w0 w:World,w0.heap.size <=w.heap.size ->∃w',(Instr.alloc T true (.tuple #[])).run P w =.ok (.pointer (some ⟨w.heap.size,0,none⟩)) w'/\Ext w w'/\IsBo w0 m (.pointer (some ⟨w.heap.size,0,none⟩)) w'
theorem al{T m:Nat}(hr:AlO P T m)(ho:o.op =.alloc T:=by rfl)(hi:L.getD i (λ_ _ =>True)=IsBo w0 m:=by kernel_rfl):Ok P ops Q ds a0 w0 L boxes i o:=
  ⟨fun v a w hE hd hf K hK =>by
    obtain⟨w',h1,h2,h3⟩ :=hr w0 w hE.size
    have hrun:(execOp a.eval o).run P w =.ok (.value (.pointer (some ⟨w.heap.size,0,none⟩))) w':=by
      unfold execOp
      rw[ho]
      dsimp only
      simp[h1]
    unfold Oper.wp
    rw[hrun]
    exact hK.out _ w' h2 (by rw[hi];exact h3) FreshIf.yes⟩
def BdQ(P:Program)(T:TypeId):Prop:=∀(w:World) (s:Bool) (a:Option Addr) (n c:Nat) (s':Bool) (a':Option Addr) (n' c':Nat),(Instr.build T #[(0,.agg #[.bool s,.slice a n c]),(1,.agg #[.bool s',.slice a' n' c'])]).run P w =.ok (.agg #[.bool s,.slice a n c,.bool s',.slice a' n' c']) w
theorem bd_run{x y:Operand}{T:Nat}{a:Act}{p q u:Value}{w:World}(ho:o.op =.build T #[(0,x),(1,y)])(h:a.eval x =p)(h':a.eval y =q)(hr:(Instr.build T #[(0,p),(1,q)]).run P w =.ok u w):(execOp a.eval o).run P w =.ok (.value u) w:=by
  unfold execOp
  rw[ho]
  dsimp only
  simp only[List.map_toArray,List.map_cons,List.map_nil]
  rw[h,h']
  simp[hr]
theorem bq{x y:Operand}{T k1 k2:Nat}{z1 z2:Int}(hx:Od ops ds a0 w0 L i x (IsI k1 z1))(hy:Od ops ds a0 w0 L i y (IsI k2 z2))(hT:BdQ P T)(ho:o.op =.build T #[(0,x),(1,y)] :=by rfl)
    (hi:L.getD i (λ_ _ =>True)=IsQ (IsI k1 z1) (IsI k2 z2) :=by kernel_rfl) (hb:boxes.contains i =false:=by kernel_rfl):Ok P ops Q ds a0 w0 L boxes i o:=
  Ok.of hb λv a w hE hd hf =>by
    obtain⟨s,a1,n,c,e1,h1⟩ :=hx.out v a w hE hd hf
    obtain⟨s',a1',n',c',e2,h2⟩ :=hy.out v a w hE hd hf
    exact⟨_,bd_run ho e1 e2 (hT w _ _ _ _ _ _ _ _),by rw[hi];exact⟨_,_,_,_,_,_,_,_,rfl,⟨_,_,_,_,rfl,h1⟩,⟨_,_,_,_,rfl,h2⟩⟩⟩
theorem b0{T:Nat}{z:Value}{fP:Value ->World ->Prop}(hr:∀w,(Instr.build T #[]).run P w =.ok z w)(hz:∀w,fP z w)(ho:o.op =.build T #[] :=by rfl)(hi:L.getD i (λ_ _ =>True)=fP:=by kernel_rfl)(hb:boxes.contains i =false:=by kernel_rfl):Ok P ops Q ds a0 w0 L boxes i o:=
  Ok.of hb λv a w hE hd hf =>by
    refine⟨z,?_,by rw[hi];exact hz w⟩
    have:=hr w
    unfold execOp
    rw[ho]
    dsimp only
    simp[this]
theorem st_wp{x y:Operand}{T:Nat}{a:Act}{p u:Value}{w w':World}{K:Act ->World ->Prop}(ho:o.op =.store T x y)(h:a.eval x =p)(h':a.eval y =u)(hr:(Instr.storeAt T p u).run P w =.ok () w')(hK:K (a.put o.dst undef) w'):Oper.wp P o a w K Q:=by
  have:(execOp a.eval o).run P w =.ok .skip w':=by
    unfold execOp
    rw[ho]
    dsimp only
    rw[h,h']
    simp[hr]
  unfold Oper.wp
  rw[this]
  exact hK
def AllBox(L:List (Value ->World ->Prop)):List Nat ->Prop
  | [] =>True
  |b ::bs =>IsBox (L.getD b (λ_ _ =>True))/\AllBox L bs
theorem AllBox.get{L:List (Value ->World ->Prop)}:∀ {bs:List Nat},AllBox L bs ->∀i∈bs,IsBox (L.getD i (λ_ _ =>True))
  | [],_,_,h =>by cases h
  | b ::bs,h,i,hi =>by
    rcases List.mem_cons.1 hi with rfl|hi
    ·exact h.1
    ·exact AllBox.get h.2 i hi
theorem rg(n:Nat)(ds:List (Option Tmp))(L:List (Value ->World ->Prop))(boxes:List Nat)(fuel:Nat){id:Nat}
    (hop:RgAll P .any ops Q ds a0 w0 L boxes 0 n ops.toList)
    (hend:∀v w,Ext w0 w ->(∀i,i < n ->L.getD i (λ_ _ =>True) (v i) w) ->(∀i j,i∈boxes ->j∈boxes ->i < n ->j < n ->i≠j ->v i≠v j) ->
      wpAny P .any ops Q fuel (qU ops.size n) (xZ v a0 0 ds) w)
    (hm:P.follows .mixedOrders =true:=by kernel_rfl) (hn:n <=ops.size:=by decide) (hf:ops.size - n =fuel:=by kernel_rfl) (hds:(List.range n).map (xG ops)=ds:=by kernel_rfl) (hap:xJ ops n =true:=by kernel_rfl) (htp:jG .any ops n []=true:=by kernel_rfl) (hns:Region.noSelect ops =true:=by kernel_rfl)
    (hst:AllStb L:=by exact AStb.out) (hbx:AllBox L boxes:=by repeat' (first|exact trivial|exact IsBo.box _ _|apply zL)) :
    (Code.region id ops true).wp P Q a0 w0:=wp_region_rg n ds L boxes fuel hm hn hf hds hap htp hns hst hbx.get hop hend
theorem rgs(n:Nat)(ds:List (Option Tmp))(L:List (Value ->World ->Prop))(boxes:List Nat){id:Nat}
    (hop:RgAll P .any ops Q ds a0 w0 L boxes 0 n ops.toList)
    (hend:∀v w,Ext w0 w ->(∀i,i < n ->L.getD i (λ_ _ =>True) (v i) w) ->(∀i j,i∈boxes ->j∈boxes ->i < n ->j < n ->i≠j ->v i≠v j) ->
      wpList P ops Q (ops.toList.drop n) (xZ v a0 0 ds) w)
    (hn:n <=ops.size:=by decide) (hds:(List.range n).map (xG ops)=ds:=by kernel_rfl) (hap:xJ ops n =true:=by kernel_rfl) (htp:backOk ops n =true:=by kernel_rfl)
    (hst:AllStb L:=by exact AStb.out) (hbx:AllBox L boxes:=by repeat' (first|exact trivial|exact IsBo.box _ _|apply zL)) :
    (Code.region id ops false).wp P Q a0 w0:=wp_region_rgs n ds L boxes hn hds hap htp hst hbx.get hop hend
theorem stA{fuel:Nat}{listed:Array Bool}{a:Act}{w:World}(j:Nat)(ho:ops[j]? =some o:=by rfl)(h:∀K:Act ->World ->Prop,(∀a w,wpAny P .any ops Q fuel (listed.setIfInBounds j true) a w ->K a w) ->Oper.wp P o a w K Q)
    (hr:Region.ready .any ops listed = [j] :=by kernel_rfl) (hg:o.guard =none:=by rfl):wpAny P .any ops Q (fuel + 1) listed a w:=
  wpAny_ready (rs:= [j]) hr zo (AllReady.cons ho (λK hK =>by rw[if_pos (by simp[Region.wanted,hg])];exact h K hK) AllReady.nil)
theorem stL{a:Act}{w:World}(h:∀K:Act ->World ->Prop,(∀a w,wpList P ops Q os a w ->K a w) ->Oper.wp P o a w K Q)(hg:o.guard =none:=by rfl):wpList P ops Q (o ::os) a w:=wpList_plain hg h
end
/-! ### This program's types -/
theorem en{f:FuncId}{fn:Func}{c:Code}(hf:Tryz.prog.funcs[f]? =some fn)(hn:(fn.name == "runtime.NumGoroutine")=false:=by kernel_rfl)(hb:fn.body =some c:=by rfl):∀args w,(callFunc f args).run Tryz.prog w =.ok (.enter f args) w:=enters_of hf hn hb
section
variable {P:Program} {ops:Array Oper} {Q:Exit ->Act ->World ->Prop}
abbrev Tg:=Option (Nat×List (Value ->World ->Prop))
variable {ds:List (Option Tmp)} {a0:Act} {w0:World} {L:List (Value ->World ->Prop)} {boxes:List Nat} {tg:List Tg} {i:Nat} {o:Oper}
/-! The rule,its side conditions found by themselves. -/
abbrev TT:Value ->World ->Prop:=λ_ _ =>True
/-! Its rows. -/
variable {os:List Oper} {k:Nat}
end
section
variable {P:Program} {ops:Array Oper} {Q:Exit ->Act ->World ->Prop}
def StbR(R:World ->World ->Prop)(p:Value ->World ->Prop):Prop:=∀x w w',R w w' ->p x w ->p x w'
def AllStbR(R:World ->World ->Prop):List (Value ->World ->Prop) ->Prop
  | [] =>True
  |p ::ps =>StbR R p/\AllStbR R ps
theorem AllStbR.get{R:World ->World ->Prop}:∀ {L:List (Value ->World ->Prop)},AllStbR R L ->∀i,StbR R (L.getD i (λ_ _ =>True))
  | [],_,i =>λ_ _ _ _ _ =>by simp
  |p ::ps,h,0 =>by simpa using h.1
  |p ::ps,h,i + 1 =>by simpa using AllStbR.get h.2 i
def RgLx(P:Program)(ops:Array Oper)(Q:Exit ->Act ->World ->Prop)(R:World ->World ->Prop)(ds:List (Option Tmp))(a0:Act)(w0:World)(L:List (Value ->World ->Prop))(i:Nat)(o:Oper):Prop:=
  ∀ (v:Nat ->Value) (w:World),R w0 w ->(∀j,(ups .any ops i).contains j =true ->L.getD j (λ_ _ =>True) (v j) w) ->
    ∀K:Act ->World ->Prop,Shut (∀x w',R w w' ->L.getD i (λ_ _ =>True) x w' ->K ((xZ v a0 0 ds).put o.dst x) w') ->
    if Region.wanted o (yielded ops (xZ v a0 0 ds).tmps)=true then Oper.wp P o (xZ v a0 0 ds) w K Q else K ((xZ v a0 0 ds).put o.dst undef) w
variable {R:World ->World ->Prop} {ds:List (Option Tmp)} {a0:Act} {w0:World} {L:List (Value ->World ->Prop)} {i:Nat} {o:Oper}
theorem RgLx.mk(hg:o.guard =none)
    (h :∀(v:Nat ->Value) (a:Act) (w:World),R w0 w ->(∀j,(ups .any ops i).contains j =true ->L.getD j (λ_ _ =>True) (v j) w) ->Fr ds a0 v a ->
      ∀K:Act ->World ->Prop,Shut (∀x w',R w w' ->L.getD i (λ_ _ =>True) x w' ->K (a.put o.dst x) w') ->Oper.wp P o a w K Q):RgLx P ops Q R ds a0 w0 L i o:=by
  intro v w hE hd K hK
  rw[if_pos (by simp[Region.wanted,hg])]
  exact h v _ w hE hd (Fr.of ds a0 v) K hK
end
end Go.Proofs.YtenhciieboegbaaGreatDoor
