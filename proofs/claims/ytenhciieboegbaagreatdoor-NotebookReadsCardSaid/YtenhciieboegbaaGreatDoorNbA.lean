/-
  Blocks of cells, stores into them, loads out of them, single boxes that change. No condition on the program. (Joined by wip/gen/nba.py from the Ev texts.)
-/
import Derived.Test.YtenhciieboegbaaGreatDoorFact
import Derived.Test.YtenhciieboegbaaGreatDoorRwn
import Derived.Test.YtenhciieboegbaaGreatDoorRgx
import Derived.Deep.MidRow
import Derived.ArgAppend
namespace Go.Proofs.YtenhciieboegbaaGreatDoor
open Go Go.RowKit
open Go.Proofs.Tryz
section
structure Bk (W:World) (g:Nat) (vs:List Value):Prop where
  c:∀j v,vs[j]? =some v->World.cell? W ⟨g,j,none⟩=some v
  f:∀j,World.frozen? W ⟨g,j,none⟩=false
  lt:g<W.heap.size
theorem Bk.ext{W W':World}{g:Nat}{vs:List Value}(h:Bk W g vs)(E:Ext W W'):Bk W' g vs:=⟨λj v hj=>E.cell (h.c j v hj),λj=>(E.frozen (p:=⟨g,j,none⟩) h.lt).trans (h.f j),Nat.lt_of_lt_of_le h.lt E.size⟩
theorem Bk.new(w:World)(cs:Array Value)(T:TypeId):Bk (w.alloc (.cells cs T)) w.heap.size cs.toList:=
  ⟨λj v hj=>cells_new w cs T j v hj,λj=>by simp,by simp⟩
theorem Bk.newE(w:World)(g:Nat)(hg:w.heap.size=g)(cs:Array Value)(T:TypeId):Bk (w.alloc (.cells cs T)) g cs.toList:=by subst hg;exact Bk.new w cs T
theorem Bk.put{W w:World}{g:Nat}{vs us:List Value}(B:Bk W g vs)(hl:us.length=vs.length)(hn:∀v∈vs,NoWord v)(E:Ext w W)(hg:w.heap.size<=g):
    ∃W',zF W g 0 us=W'/\Bk W' g us/\Ext w W'/\Gr W W'/\(∀g' vs',g'≠g->Bk W g' vs'->Bk W' g' vs')/\W'.heap.size=W.heap.size:=by
  have hc:∀i,i<us.length->∃u,World.cell? W ⟨g,0+i,none⟩=some u/\NoWord u:=λi hi=>by
    have:i<vs.length:=ze
    rw[Nat.zero_add];exact⟨vs[i],B.c i _ (List.getElem?_eq_getElem this),hn _ (List.getElem_mem this)⟩
  have hsz:(zF W g 0 us).heap.size=W.heap.size:=by
    have:∀(us:List Value) (W:World) (j:Nat),(zF W g j us).heap.size=W.heap.size:=by
      intro us
      induction us with
      |nil=>intro W j;rfl
      |cons u us ih=>intro W j;unfold zF;rw[ih];simp[World.setCell]
    exact this us W 0
  refine⟨_,rfl,⟨λj v hj=>?_,λj=>?_,by rw[hsz];exact B.lt⟩,setL_below us W w g 0 _ E hg,setL_gr us W g 0 hc,λg' vs' hne B'=>⟨λj v hj=>?_,λj=>?_,by rw[hsz];exact B'.lt⟩,hsz⟩
  · have:=setL_cell us W g 0 (λi hi=>by obtain⟨u,hu,_⟩:=hc i hi;rw[hu];rfl) j v hj
    rwa [Nat.zero_add]at this
  ·rw[setL_frozen];exact B.f j
  ·rw[setL_other us W g 0 ⟨g',j,none⟩ (.inl hne)];exact B'.c j v hj
  ·rw[setL_frozen];exact B'.f j
theorem Bk.set1{W w:World}{g:Nat}{vs:List Value}(B:Bk W g vs)(j:Nat)(hj:j<vs.length)(u:Value)(hn:NoWord (vs[j]))(E:Ext w W)(hg:w.heap.size<=g):
    ∃W',W.setCell ⟨g,j,none⟩ u=W'/\Bk W' g (vs.set j u)/\Ext w W'/\Gr W W'/\(∀g' vs',g'≠g->Bk W g' vs'->Bk W' g' vs')/\W'.heap.size=W.heap.size:=by
  have hc:=B.c j _ (List.getElem?_eq_getElem hj);refine⟨_,rfl,⟨λi v hi=>?_,λi=>?_,by simp[World.setCell];exact B.lt⟩,E.set (p:=⟨g,j,none⟩) hg u,(Gr.refl W).set hc hn u,λg' vs' hne B'=>⟨λi v hi=>?_,λi=>?_,by simp[World.setCell];exact B'.lt⟩,by simp[World.setCell]⟩
  · by_cases hij:j=i
    · subst hij
      rw[List.getElem?_set_self hj]at hi;rw[World.cell?_setCell_same _ _ _ hc,hi]
    · rw[List.getElem?_set_ne hij]at hi
      rw[World.cell?_setCell_other _ _ _ _ (by intro e;injection e with e1 e2;exact hij e2)];exact B.c i v hi
  ·rw[World.frozen?_setCell];exact B.f i
  ·rw[World.cell?_setCell_other _ _ _ _ (by intro e;injection e with e1 e2;exact hne e1.symm)];exact B'.c i v hi
  ·rw[World.frozen?_setCell];exact B'.f i
section
variable {P:Program} {ops:Array Oper} {Q:Exit->Act->World->Prop} {ds:List (Option Tmp)} {a0:Act} {w0:World} {L:List (Value->World->Prop)} {boxes:List Nat} {i k:Nat} {o:Oper} {os:List Oper}
theorem lv{T:Nat}{x:Operand}{p:Value}(u:Value){fP:Value->World->Prop}(hr:∀w,Ext w0 w->(Instr.loadAt T p).run P w=.ok u w)(hx:Od ops ds a0 w0 L i x (IsV p))(hΦ:∀w,Ext w0 w->fP u w)(ho:o.op=.load T x:=by rfl)
    (hi:L.getD i (λ_ _=>True)=fP:=by kernel_rfl) (hb:boxes.contains i=false:=by kernel_rfl):Ok P ops Q ds a0 w0 L boxes i o:=
  Ok.of hb λv a w hE hd hf=>⟨u,ld_run ho (hx.out v a w hE hd hf) (hr w hE),by rw[hi];exact hΦ w hE⟩
def LdV(P:Program)(T:TypeId)(m:Nat):Prop:=∀(w:World) (g:Nat) (vs:List Value),vs.length=m->Bk w g vs->(Instr.loadAt T (.pointer (some ⟨g,0,none⟩))).run P w=.ok (.agg vs.toArray) w
theorem lvV{T g m:Nat}{x:Operand}{vs:List Value}(B:Bk w0 g vs)(hT:LdV P T m)(hx:Od ops ds a0 w0 L i x (IsP g 0))(hl:vs.length=m:=by rfl)(ho:o.op=.load T x:=by rfl)
    (hi:L.getD i (λ_ _=>True)=IsV (.agg vs.toArray):=by kernel_rfl) (hb:boxes.contains i=false:=by kernel_rfl):Ok P ops Q ds a0 w0 L boxes i o:=
  lv _ (λw e=>hT w g vs hl (B.ext e)) hx (λ_ _=>rfl) ho hi hb
def LdC1(P:Program)(T:TypeId):Prop:=∀(w:World) (a:Addr) (v:Value),w.cell? a=some v->(Instr.loadAt T (.pointer (some a))).run P w=.ok v w
theorem lvC(f:Nat){T g:Nat}{x:Operand}{vs:List Value}{u:Value}(B:Bk w0 g vs)(hT:LdC1 P T)(hx:Od ops ds a0 w0 L i x (IsP g f))(h0:vs[f]? =some u:=by rfl)(ho:o.op=.load T x:=by rfl)
    (hi:L.getD i (λ_ _=>True)=IsV u:=by kernel_rfl) (hb:boxes.contains i=false:=by kernel_rfl):Ok P ops Q ds a0 w0 L boxes i o:=
  lv _ (λw e=>hT w _ u ((B.ext e).c f _ h0)) hx (λ_ _=>rfl) ho hi hb
def StV(P:Program)(T:TypeId)(m:Nat):Prop:=∀(w:World) (g:Nat) (vs us:List Value),vs.length=m->us.length=m->us.all (λu=>u.oneCell')=true->Bk w g vs->(Instr.storeAt T (.pointer (some ⟨g,0,none⟩)) (.agg us.toArray)).run P w=.ok () (zF w g 0 us)
end
theorem nw2{s:Bool}{a:Option Addr}{n c:Nat}:∀v∈ [Value.bool s,.slice a n c],NoWord v:=by
  intro v hv;simp only[List.mem_cons,List.not_mem_nil,or_false]at hv;rcases hv with rfl|rfl
  ·exact NoWord.bool _
  ·exact NoWord.slice _ _ _
theorem st_In:StV prog 29 2:=by
  intro w g vs us h1 h2 hs B
  match vs,h1 with
  | [v0,v1],_=>
    match us,h2 with
    | [u0,u1],_=>
      simp only[List.all_cons,List.all_nil,Bool.and_true,Bool.and_eq_true]at hs;obtain⟨s0,s1⟩:=hs;have r0:=λw a m=>run_store prog w a u0 m s0;have r1:=λw a m=>run_store prog w a u1 m s1
      have c0:=B.c 0 _ rfl;have c1:=B.c 1 _ rfl;have f0:=B.f 0;have f1:=B.f 1;clear B s0 s1;simp only[zF]
      go_simp
end
section
section
variable {P:Program} {ops:Array Oper} {Q:Exit->Act->World->Prop} {ds:List (Option Tmp)} {a0:Act} {w0:World} {L:List (Value->World->Prop)} {boxes:List Nat} {i k:Nat} {o:Oper} {os:List Oper}
end
end
section
section
variable {P:Program} {md:Region.Mode} {ops:Array Oper} {Q:Exit->Act->World->Prop}
end
section
variable {P:Program} {ops:Array Oper} {Q:Exit->Act->World->Prop} {ds:List (Option Tmp)} {a0:Act} {w0:World} {L:List (Value->World->Prop)} {boxes:List Nat} {i k:Nat} {o:Oper} {os:List Oper}
end
end
section
structure OnlyB (g:Nat) (w w':World):Prop where
  os:w'.os=w.os
  tape:w'.tape=w.tape
  output:w'.output=w.output
  size:w'.heap.size=w.heap.size
  block:∀k,k≠g->w'.heap[k]? =w.heap[k]?
  gr:Gr w w'
theorem OnlyB.ext{g:Nat}{b w w':World}(h:OnlyB g w w')(E:Ext b w)(hg:b.heap.size<=g):Ext b w':=
  ⟨h.os.trans E.os,h.tape.trans E.tape,h.output.trans E.output,by rw[h.size];exact E.size,λk hk=>(h.block k ze).trans (E.block k hk)⟩
theorem OnlyB.bk{g g':Nat}{w w':World}{vs:List Value}(h:OnlyB g w w')(B:Bk w g' vs)(hg:g'≠g):Bk w' g' vs:=by
  have hb:=h.block g' hg;exact⟨λj v hj=>(World.cell?_of_block (w:=w) (a:=⟨g',j,none⟩) hb).trans (B.c j v hj),λj=>(World.frozen?_of_block (w:=w) (a:=⟨g',j,none⟩) hb).trans (B.f j),by rw[h.size];exact B.lt⟩
theorem Bk.setO{w:World}{g:Nat}{vs:List Value}(B:Bk w g vs)(j:Nat)(hj:j<vs.length)(u:Value)(hn:NoWord (vs[j])):OnlyB g w (w.setCell ⟨g,j,none⟩ u)/\Bk (w.setCell ⟨g,j,none⟩ u) g (vs.set j u):=by
  obtain⟨W',h1,h2,_,h4,_,h6⟩:=B.set1 j hj u hn (Below.refl 0 w |> λh=>(show Ext ⟨#[],w.tape,w.drawn,w.os,w.output⟩ w from⟨h.os,h.tape,h.output,Nat.zero_le _,λk hk=>absurd hk (Nat.not_lt_zero _)⟩)) (Nat.zero_le _);subst h1;exact⟨⟨rfl,rfl,rfl,h6,λk hk=>Below.heap_setCell w ⟨g,j,none⟩ u k hk,h4⟩,h2⟩
theorem setL_block:∀(us:List Value) (W:World) (g j k:Nat),k≠g->(zF W g j us).heap[k]? =W.heap[k]?
  | [],_,_,_,_,_=>rfl
  | u ::us,W,g,j,k,hk=>by
    unfold zF;rw[setL_block us _ g (j+1) k hk];exact Below.heap_setCell W ⟨g,j,none⟩ u k hk
theorem setL_same:∀(us:List Value) (W:World) (g j:Nat),(zF W g j us).os=W.os/\(zF W g j us).tape=W.tape/\(zF W g j us).output=W.output
  | [],_,_,_=>⟨rfl,rfl,rfl⟩
  | u ::us,W,g,j=>by
    unfold zF;exact setL_same us _ g (j+1)
theorem Bk.putO{w:World}{g:Nat}{vs us:List Value}(B:Bk w g vs)(hl:us.length=vs.length)(hn:∀v∈vs,NoWord v):OnlyB g w (zF w g 0 us)/\Bk (zF w g 0 us) g us:=by
  obtain⟨W',h1,h2,_,h4,_,h6⟩:=B.put hl hn (show Ext ⟨#[],w.tape,w.drawn,w.os,w.output⟩ w from⟨rfl,rfl,rfl,Nat.zero_le _,λk hk=>absurd hk (Nat.not_lt_zero _)⟩) (Nat.zero_le _);subst h1;obtain⟨s1,s2,s3⟩:=setL_same us w g 0;exact⟨⟨s1,s2,s3,h6,λk hk=>setL_block us w g 0 k hk,h4⟩,h2⟩
theorem NoWord.int64(z:Int):NoWord (.int .i64 z):=λx=>by simp
theorem NoWord.string(s:ByteArray):NoWord (.string s):=λx=>by simp
section
variable {P:Program} {ops:Array Oper} {Q:Exit->Act->World->Prop} {ds:List (Option Tmp)} {a0:Act} {w0:World} {L:List (Value->World->Prop)} {boxes:List Nat} {i k:Nat} {o:Oper} {os:List Oper}
theorem zE{W:World}{g m:Nat}{vs us:List Value}{a:Act}{K:Act->World->Prop}{T:Nat}{x y:Operand}(B:Bk W g vs)(hT:StV P T m)(hl:vs.length=m)(hl':us.length=m)(hn:∀v∈vs,NoWord v)
    (h:∀W',Bk W' g us->OnlyB g W W'->K a W')
    (ho:o.op=.store T x y:=by rfl) (hd:o.dst=none:=by rfl) (hx:a.eval x=.pointer (some ⟨g,0,none⟩):=by kernel_rfl) (hy:a.eval y=.agg us.toArray:=by kernel_rfl) (ho1:us.all (λu=>u.oneCell')=true:=by rfl):Oper.wp P o a W K Q:=by
  obtain⟨h1,h2⟩:=B.putO (us:=us) ze hn;refine st_wp ho hx hy (hT W g vs us hl hl' ho1 B) ?_;rw[hd];exact h _ h2 h1
def StC1(P:Program)(T:TypeId)(u:Value):Prop:=∀(w:World) (a:Addr) (v:Value),w.cell? a=some v->w.frozen? a=false->(Instr.storeAt T (.pointer (some a)) u).run P w=.ok () (w.setCell a u)
theorem stCO{W:World}{g:Nat}(j:Nat){vs:List Value}{u v:Value}{a:Act}{K:Act->World->Prop}{T:Nat}{x y:Operand}(B:Bk W g vs)(hT:StC1 P T u)(hv:vs[j]? =some v)(hn:NoWord v)
    (h:∀W',Bk W' g (vs.set j u)->OnlyB g W W'->K a W')
    (ho:o.op=.store T x y:=by rfl) (hd:o.dst=none:=by rfl) (hx:a.eval x=.pointer (some ⟨g,j,none⟩):=by kernel_rfl) (hy:a.eval y=u:=by kernel_rfl):Oper.wp P o a W K Q:=by
  have hj:j<vs.length:=(List.getElem?_eq_some_iff.1 hv).1;have hvj:vs[j]=v:=(List.getElem?_eq_some_iff.1 hv).2;obtain⟨h1,h2⟩:=B.setO j hj u (by rw[hvj];exact hn);refine st_wp ho hx hy (hT W _ v (B.c j v hv) (B.f j)) ?_;rw[hd];exact h _ h2 h1
theorem nc{x:Operand}{p:Addr}(hx:Od ops ds a0 w0 L i x (IsV (.pointer (some p))))(ho:o.op=.nilCheck x:=by rfl)(hi:L.getD i (λ_ _=>True)=IsV (.pointer (some p)):=by kernel_rfl)(hb:boxes.contains i=false:=by kernel_rfl):Ok P ops Q ds a0 w0 L boxes i o:=
  Ok.of hb λv a w hE hd hf=>by
    have h1:a.eval x=_:=hx.out v a w hE hd hf;refine⟨_,?_,by rw[hi];exact rfl⟩;unfold execOp;rw[ho];dsimp only;rw[h1]
    go_simp
theorem ixq{x y:Operand}{T:Nat}{p u r:Value}(hr:∀w,(Instr.indexAt T p u).run P w=.ok r w)(hx:Od ops ds a0 w0 L i x (IsV p))(hy:Od ops ds a0 w0 L i y (IsV u))(ho:o.op=.indexAddr T x y:=by rfl)(hi:L.getD i (λ_ _=>True)=IsV r:=by kernel_rfl)(hb:boxes.contains i=false:=by kernel_rfl):Ok P ops Q ds a0 w0 L boxes i o:=
  Ok.of hb λv a w hE hd hf=>by
    have h1:a.eval x=p:=hx.out v a w hE hd hf;have h2:a.eval y=u:=hy.out v a w hE hd hf;refine⟨r,?_,by rw[hi];exact rfl⟩;have:=hr w;unfold execOp;rw[ho];dsimp only;rw[h1,h2];simp[this]
end
set_option maxRecDepth 100000
section
variable {ops:Array Oper} {Q:Exit->Act->World->Prop} {ds:List (Option Tmp)} {a0:Act} {w0:World} {L:List (Value->World->Prop)} {boxes:List Nat} {i k:Nat} {o:Oper} {os:List Oper}
end
theorem ext_of_grown{w w':World}(h:w.grownBy w' none):Ext w w':=(Below.refl w.heap.size w).grown h (zN _) (λk hk=>by cases hk)
section
variable {ops:Array Oper} {Q:Exit->Act->World->Prop} {ds:List (Option Tmp)} {a0:Act} {w0:World} {L:List (Value->World->Prop)} {boxes:List Nat} {i k:Nat} {o:Oper} {os:List Oper}
end
theorem qP:LdC1 prog 9:=λw a v h=>by go_simp
theorem xL:LdC1 prog 3:=λw a v h=>by go_simp
theorem qQ:LdC1 prog 30:=λw a v h=>by go_simp
theorem st_i(z:Int):StC1 prog 3 (.int .i64 z):=λw a v h2 h3=>by go_simp
end
section
structure Ob (g:Nat) (w w':World):Prop where
  os:w'.os=w.os
  tape:w'.tape=w.tape
  output:w'.output=w.output
  size:w.heap.size<=w'.heap.size
  block:∀k,k<w.heap.size->k≠g->w'.heap[k]? =w.heap[k]?
  gr:Gr w w'
theorem Ob.trans{g:Nat}{a b c:World}(x:Ob g a b)(y:Ob g b c):Ob g a c:=
  ⟨y.os.trans x.os,y.tape.trans x.tape,y.output.trans x.output,zO x.size y.size,λk hk hg=>(y.block k (Nat.lt_of_lt_of_le hk x.size) hg).trans (x.block k hk hg),x.gr.trans y.gr⟩
theorem Ob.of{g:Nat}{a b:World}(e:Ext a b):Ob g a b:=⟨e.os,e.tape,e.output,e.size,λk hk _=>e.block k hk,e.gr⟩
theorem Ob.only{g:Nat}{a b:World}(e:OnlyB g a b):Ob g a b:=⟨e.os,e.tape,e.output,by rw[e.size];exact zN _,λk _ hg=>e.block k hg,e.gr⟩
theorem Ob.ext{g:Nat}{w0 w w':World}(h:Ob g w w')(e:Ext w0 w)(hg:w0.heap.size<=g):Ext w0 w':=
  ⟨h.os.trans e.os,h.tape.trans e.tape,h.output.trans e.output,zO e.size h.size,λk hk=>(h.block k (Nat.lt_of_lt_of_le hk e.size) ze).trans (e.block k hk)⟩
theorem Ob.bk{g g':Nat}{w w':World}{vs:List Value}(h:Ob g w w')(B:Bk w g' vs)(hg:g'≠g):Bk w' g' vs:=by
  have hb:=h.block g' B.lt hg;exact⟨λj v hj=>(World.cell?_of_block (w:=w) (a:=⟨g',j,none⟩) hb).trans (B.c j v hj),λj=>(World.frozen?_of_block (w:=w) (a:=⟨g',j,none⟩) hb).trans (B.f j),Nat.lt_of_lt_of_le B.lt h.size⟩
section
variable {P:Program} {ops:Array Oper} {Q:Exit->Act->World->Prop} {R:World->World->Prop} {ds:List (Option Tmp)} {a0:Act} {w0:World} {L:List (Value->World->Prop)} {boxes:List Nat} {i k:Nat} {o:Oper} {os:List Oper}
end
section
variable {ops:Array Oper} {Q:Exit->Act->World->Prop} {ds:List (Option Tmp)} {a0:Act} {w0:World} {L:List (Value->World->Prop)} {boxes:List Nat} {i:Nat} {o:Oper}
end
end
section
section
end
section
variable {P:Program} {Q:Exit->Act->World->Prop} {o:Oper} {f:FuncId} {c:Call} {x y z t:Operand} {u1 u2 u3 u4:Value} {a:Act} {w:World} {K:Act->World->Prop} {R:Ending->World->Prop}
theorem qM{xs:List Operand}{us:List Value}(he:∀args w,(callFunc f args).run P w=.ok (.enter f args) w)(hx:xs.map a.eval=us)
    (h:Calls P f us.toArray w R) (h1:∀v w',R (.returned v) w'->K (a.put o.dst v) w') (h2:∀ch w',R (.panicked ch) w'->Q (.panic ch) a w') (h3:∀w',¬R .outgrown w')
    (ho:o.op=.call c:=by rfl) (hc:c.callee=.value (.func f):=by rfl) (ha:c.args=xs.toArray:=by rfl):Oper.wp P o a w K Q:=by
  have hr:(execOp a.eval o).run P w=.ok (.enter f (c.args.map a.eval)) w:=by
    unfold execOp;rw[ho];dsimp only;unfold resolve;rw[hc];simp[invoke,he,Deferred.ofValue,show a.eval (.func f)=.func (.func f) #[] #[]from rfl]
  unfold Oper.wp;rw[hr,Oper.upon_enter,ha,List.map_toArray,hx];refine zG h ?_;intro e w2 hR;cases e with
  |returned v=>exact h1 v w2 hR
  |panicked ch=>exact h2 ch w2 hR
  |outgrown=>exact absurd hR (h3 w2)
theorem jJ{T:Nat}{vs:List Value}(hr:∀w,(Instr.alloc T true (.tuple #[])).run P w=.ok (.pointer (some ⟨w.heap.size,0,none⟩)) (w.alloc (.cells vs.toArray T)))
    (h:Bk (w.alloc (.cells vs.toArray T)) w.heap.size vs->Ext w (w.alloc (.cells vs.toArray T))->K (a.put o.dst (.pointer (some ⟨w.heap.size,0,none⟩))) (w.alloc (.cells vs.toArray T))) (ho:o.op=.alloc T:=by rfl):Oper.wp P o a w K Q:=by
  have h9:(execOp a.eval o).run P w=.ok (.value (.pointer (some ⟨w.heap.size,0,none⟩))) (w.alloc (.cells vs.toArray T)):=by
    unfold execOp;rw[ho];simp[hr]
  unfold Oper.wp;rw[h9];exact h (by simpa using Bk.new w vs.toArray T) ((Ext.refl _).alloc _)
end
theorem ba_listE(x y:ByteArray):(x.toList==y.toList)=decide (x=y):=by
  rw[ByteArray.toList_eq,ByteArray.toList_eq];by_cases h:x=y
  ·subst h;simp
  · have h2:¬x.data=y.data:=λe=>h (by cases x;cases y;simpa using e)
    simp[h,h2]
end
section
theorem rowOf{T:TypeId}(h:((prog.underlying T).any (·.isRow))=true):∃d,prog.underlying T=some d/\d.isRow=true:=by
  cases hq:prog.underlying T with
  |none=>rw[hq]at h;cases h
  |some d=>rw[hq]at h;exact⟨d,rfl,h⟩
theorem setCellsL:∀(us:List Value) (W:World) (g j:Nat),W.setCells g j us=zF W g j us
  | [],W,g,j=>rfl
  | u ::us,W,g,j=>by
    unfold zF;rw[<-setCellsL us];rfl
theorem ldM{T m:Nat}(hu:((prog.underlying T).any (·.isRow))=true)(hi:(prog.info? T).map (·.size)=some m){w:World}{g f:Nat}{vs:List Value}(hl:vs.length=m)(hc:∀j v,vs[j]? =some v->World.cell? w ⟨g,f+j,none⟩=some v):(Instr.loadAt T (.pointer (some ⟨g,f,none⟩))).run prog w=.ok (.agg vs.toArray) w:=by
  obtain⟨d,h1,h2⟩:=rowOf hu;exact run_loadAt_mid w g f T vs d hc h1 h2 (by rw[hl];exact hi)
theorem stM{T m:Nat}(hi:(prog.info? T).map (·.size)=some m):StV prog T m:=λw g vs us hl hl' h1 B=>by
  have ht:w.there g 0 us.toArray.size:=λj hj=>by
    have hj':j<vs.length:=by simp at hj;omega
    rw[Nat.zero_add];exact⟨by rw[B.c j _ (List.getElem?_eq_getElem hj')];rfl,B.f j⟩
  rw[run_storeAt_mid w g 0 T us.toArray ht (by simp only[List.size_toArray];rw[hl'];exact hi) (by simpa using h1),setCellsL]
theorem lvM{T m:Nat}(hu:((prog.underlying T).any (·.isRow))=true)(hi:(prog.info? T).map (·.size)=some m){w:World}{g:Nat}{vs:List Value}(hl:vs.length=m)(B:Bk w g vs):(loadVar T ⟨g,0,none⟩).run prog w=.ok (.agg vs.toArray) w:=by
  obtain⟨d,h1,h2⟩:=rowOf hu;exact run_loadVar_mid w g 0 T vs d (λj v hj=>by rw[Nat.zero_add];exact B.c j v hj) h1 h2 (by rw[hl];exact hi)
theorem jU{P:Program}{fn:Func}{a:Tmp}{t:TypeId}{tmps:Array Value}{w:World}{p:Addr}{v:Value}(h:fn.results= #[.cell a t])(ha:tmps.getD a undef=.pointer (some p))(hl:(loadVar t p).run P w=.ok v w):(results fn tmps).run P w=.ok v w:=by
  have ha':tmps[a]?.getD undef=.pointer (some p):=by simpa using ha
  simp[results,h,ha',hl,asAddr]
end
section
theorem OnlyB.trans{g:Nat}{a b c:World}(x:OnlyB g a b)(y:OnlyB g b c):OnlyB g a c:=
  ⟨y.os.trans x.os,y.tape.trans x.tape,y.output.trans x.output,y.size.trans x.size,λk hk=>(y.block k hk).trans (x.block k hk),x.gr.trans y.gr⟩
theorem OnlyB.refl(g:Nat)(w:World):OnlyB g w w:=⟨rfl,rfl,rfl,rfl,λ_ _=>rfl,Gr.refl w⟩
theorem Bk.ovr:∀(us:List Value) {w:World} {g:Nat} (f:Nat) {cs:List Value},Bk w g cs->f+us.length<=cs.length->(∀v∈cs,NoWord v)->(∀v∈us,NoWord v)->
    ∃cs',OnlyB g w (zF w g f us)/\Bk (zF w g f us) g cs'/\cs'.length=cs.length/\(∀v∈cs',NoWord v)/\∀j,cs'[j]? =if f<=j/\j<f+us.length then us[j-f]? else cs[j]?
  | [],w,g,f,cs,B,hl,hn,hu=>⟨cs,OnlyB.refl g w,B,rfl,hn,λj=>by rw[if_neg (by simp)]⟩
  | u ::us,w,g,f,cs,B,hl,hn,hu=>by
    have hf:f<cs.length:=by simp only[List.length_cons]at hl;omega
    obtain⟨O,B1⟩:=B.setO f hf u (hn _ (List.getElem_mem hf));have hn1:∀v∈cs.set f u,NoWord v:=λv hv=>(List.mem_or_eq_of_mem_set hv).elim (hn v) (λe=>e▸hu u List.mem_cons_self)
    obtain⟨cs',O2,B2,h1,h2,h3⟩:=Bk.ovr us (f+1) B1 (by simp only[List.length_cons,List.length_set]at hl ⊢;omega) hn1 (λv hv=>hu v (List.mem_cons_of_mem _ hv));refine⟨cs',O.trans O2,B2,by rw[h1,List.length_set],h2,λj=>?_⟩;rw[h3 j,List.getElem?_set];simp only[List.length_cons];by_cases c1:j=f
    · subst c1
      rw[if_neg (by omega),if_pos rfl,if_pos hf,if_pos (by omega)];simp
    · by_cases c2:f+1<=j/\j<f+1+us.length
      · rw[if_pos c2,if_pos (by omega),show j-f=j-(f+1)+1 by omega]
        simp
      ·rw[if_neg c2,if_neg (by omega),if_neg (by omega)]
theorem apL{j:Nat}{v:Value}(xs ys:List Value)(h:xs[j]? =some v):(xs++ys)[j]? =some v:=by rw[List.getElem?_append_left (List.getElem?_eq_some_iff.1 h).1];exact h
theorem apR{j:Nat}{v:Value}(xs ys:List Value)(h:ys[j]? =some v):(xs++ys)[xs.length+j]? =some v:=by rw[List.getElem?_append_right (Nat.le_add_right _ _),Nat.add_sub_cancel_left];exact h
end
section
theorem getE_app{j:Nat}{v:Value}(xs ys:List Value)(h:xs[j]? =some v):(xs++ys)[j]? =some v:=by rw[List.getElem?_append_left (List.getElem?_eq_some_iff.1 h).1];exact h
theorem getE_app2{j:Nat}{v:Value}(xs ys:List Value)(h:ys[j]? =some v):(xs++ys)[xs.length+j]? =some v:=by rw[List.getElem?_append_right (Nat.le_add_right _ _),Nat.add_sub_cancel_left];exact h
theorem nwNd{a b c d:Int}{s:ByteArray}{t:Bool}{p q:Option Addr}{n m k l:Nat}:∀v∈ [Value.int .i64 a,.string s,.int .i64 b,.bool t,.slice p n m,.int .i64 c,.int .i64 d,.slice q k l],NoWord v:=by
  intro v hv;simp only[List.mem_cons,List.not_mem_nil,or_false]at hv;rcases hv with rfl|rfl|rfl|rfl|rfl|rfl|rfl|rfl
  all_goals first|exact NoWord.bool _|exact NoWord.slice _ _ _|exact NoWord.int64 _|exact NoWord.string _
def zNd:List Value:= [.int .i64 0,.string ⟨#[]⟩,.int .i64 0,.bool false,.slice none 0 0,.int .i64 0,.int .i64 0,.slice none 0 0]
set_option maxRecDepth 100000
theorem st_Nd:StV prog 32 8:=by
  intro w g vs us h1 h2 hs B
  match vs,h1 with
  | [v0,v1,v2,v3,v4,v5,v6,v7],_=>
    match us,h2 with
    | [u0,u1,u2,u3,u4,u5,u6,u7],_=>
      simp only[List.all_cons,List.all_nil,Bool.and_true,Bool.and_eq_true]at hs;obtain⟨s0,s1,s2,s3,s4,s5,s6,s7⟩:=hs;have r0:=λw a m=>run_store prog w a u0 m s0;have r1:=λw a m=>run_store prog w a u1 m s1;have r2:=λw a m=>run_store prog w a u2 m s2;have r3:=λw a m=>run_store prog w a u3 m s3;have r4:=λw a m=>run_store prog w a u4 m s4;have r5:=λw a m=>run_store prog w a u5 m s5;have r6:=λw a m=>run_store prog w a u6 m s6;have r7:=λw a m=>run_store prog w a u7 m s7
      have c0:=B.c 0 _ rfl;have c1:=B.c 1 _ rfl;have c2:=B.c 2 _ rfl;have c3:=B.c 3 _ rfl;have c4:=B.c 4 _ rfl;have c5:=B.c 5 _ rfl;have c6:=B.c 6 _ rfl;have c7:=B.c 7 _ rfl;have f0:=B.f 0;have f1:=B.f 1;have f2:=B.f 2;have f3:=B.f 3;have f4:=B.f 4;have f5:=B.f 5;have f6:=B.f 6;have f7:=B.f 7;clear B s0 s1 s2 s3 s4 s5 s6 s7;simp only[zF]
      go_simp
theorem al_Nd(w:World):(Instr.alloc 32 true (.tuple #[])).run prog w=.ok (.pointer (some ⟨w.heap.size,0,none⟩)) (w.alloc (.cells zNd.toArray 32)):=by unfold zNd;go_simp
theorem nwZN:∀v∈zNd,NoWord v:=nwNd
theorem bdG{P:Program}{T:Nat}{ps:Array (Nat×Operand)}{a:Act}{v:Value}{w:World}{o:Oper}(ho:o.op=.build T ps)(hr:(Instr.build T (ps.map λp=>(p.1,a.eval p.2))).run P w=.ok v w):(execOp a.eval o).run P w=.ok (.value v) w:=by
  unfold execOp;rw[ho];dsimp only;simp[hr]
section
variable {ops:Array Oper} {Q:Exit->Act->World->Prop} {ds:List (Option Tmp)} {a0:Act} {w0:World} {L:List (Value->World->Prop)} {boxes:List Nat} {i k:Nat} {o:Oper} {os:List Oper}
end
end
end Go.Proofs.YtenhciieboegbaaGreatDoor
