/- Lemmas. -/
import Derived.Test.YtkeikfekkdplgaaGreatDoorEv3
import Derived.ArgAppend
namespace Go.Proofs.YtkeikfekkdplgaaGreatDoor
open Go Go.RowKit
open Go.Proofs.Tryz
theorem zy{P:Prop}(h:P:=by go_simp):P:=h
theorem xt{P:Prop}(h:P:=by simp[Value.oneCell']):P:=h
/-! ### What is computed -/
inductive Ex where
 |num (z:Int)
 |var (s:ByteArray)
 |cell (s:ByteArray)
 |val (s:ByteArray) (n:Int)
 |loop (fst:Bool) (s:ByteArray) (lo hi:Int) (b:Ex)
 |bin (op:Int) (a b:Ex)
abbrev Env:=List (ByteArray×Int)
def look:Env ->ByteArray ->Int
 | [],_ =>0
 | (_y,k) ::t,x =>if t.any (λp =>p.1 ==x)then look t x else k
structure Tr where
 sure:Int
 opn:Int
 first:Int
 last:Int
 next:Int
 fin:Bool
abbrev Res(α:Type):=Except Int α
def Tr.step(fst:Bool)(t:Tr)(q:Kn):Tr×Bool:=
 if q.lo =0/\q.hi =0 then(⟨t.sure,t.opn,t.first,t.last,t.next + 1,t.fin && q.fin⟩,false)
 else if q.lo <=0/\0 <=q.hi then(⟨t.sure,t.opn + 1,min t.first t.next,t.last,t.next + 1,t.fin && q.fin⟩,false)
 else if fst then(⟨t.sure + 1,t.opn,min t.first t.next,t.next,t.next,t.fin && q.fin⟩,true)
 else(⟨t.sure + 1,t.opn,min t.first t.next,t.last,t.next + 1,t.fin && q.fin⟩,false)
def Tr.stop(hi:Int)(t:Tr):Tr:=⟨t.sure,t.opn,min t.first t.next,t.last,t.next,t.fin && decide (hi < t.next)⟩
section
variable {σ:Type}
abbrev Mst(σ:Type):=Nat×σ
def xO(f:Int ->Mst σ ->Res Kn×Mst σ)(fst:Bool)(hi:Int):Nat ->Tr ->Mst σ ->Res Tr×Mst σ
 |0,t,st =>(.ok (t.stop hi),st)
 | k + 1,t,st =>
  if t.next <=hi/\0 < st.1 then
   match f t.next (st.1 - 1,st.2)with
   | (.error n,st') =>(.error n,st')
   | (.ok q,st') =>match t.step fst q with
    | (t',true) =>(.ok t',st')
    | (t',false) =>xO f fst hi k t' st'
  else(.ok (t.stop hi),st)
def xP(q:Kn):Res Kn:=if 4096 < max (bitLen q.lo.natAbs) (bitLen q.hi.natAbs)then .error 2 else .ok q
def mul4(a b:Kn):Kn:=⟨min (min (min (a.lo * b.lo) (a.lo * b.hi)) (a.hi * b.lo)) (a.hi * b.hi),max (max (max (a.lo * b.lo) (a.lo * b.hi)) (a.hi * b.lo)) (a.hi * b.hi),false⟩
def opV(op:Int)(a b:Kn):Res Kn:=
 if op =4 then xP ⟨a.lo + b.lo,a.hi + b.hi,false⟩
 else if op =5 then xP ⟨a.lo - b.hi,a.hi - b.lo,false⟩
 else if op =6 then xP (mul4 a b)
 else if op =7 then .ok ⟨min a.lo b.lo,min a.hi b.hi,false⟩
 else if op =8 then .ok ⟨max a.lo b.lo,max a.hi b.hi,false⟩
 else if op =12 then .ok (qU (decide (a.hi < b.lo)) (decide (b.hi <=a.lo)))
 else .ok (qU (decide (a.lo =b.hi) && decide (b.lo =a.hi)) (decide (a.hi < b.lo) || decide (b.hi < a.lo)))
structure Mem (σ:Type) where
 cl:ByteArray ->σ ->Res Kn×σ
 vl:ByteArray ->Int ->Env ->σ ->Res Kn×σ
def ev(M:Mem σ):Ex ->Env ->Mst σ ->Res Kn×Mst σ
 | .num z,_,st =>(.ok ⟨z,z,true⟩,st)
 | .var x,env,st =>(.ok ⟨look env x,look env x,true⟩,st)
 | .cell x,_,st =>((M.cl x st.2).1,(st.1,(M.cl x st.2).2))
 | .val x n,env,st =>((M.vl x n env st.2).1,(st.1,(M.vl x n env st.2).2))
 | .loop fst x lo hi b,env,st =>
  match xO (λn st =>ev M b (env ++ [(x,n)]) st) fst hi (hi + 1 - lo).toNat ⟨0,0,hi + 1,hi + 1,lo,true⟩ st with
  | (.error n,st') =>(.error n,st')
  | (.ok t,st') =>(.ok (if fst then⟨t.first,t.last,t.fin⟩else⟨t.sure,t.sure + t.opn + hi + 1 - t.next,t.fin⟩),st')
 | .bin op a b,env,st =>
  match ev M a env st with
  | (.error n,st') =>(.error n,st')
  | (.ok p,st') =>match ev M b env st' with
   | (.error n,st2) =>(.error n,st2)
   | (.ok q,st2) =>match opV op p q with
    | .error n =>(.error n,st2)
    | .ok r =>(.ok ⟨r.lo,r.hi,p.fin && q.fin⟩,st2)
end
def wfE(C:ByteArray ->Prop)(V:ByteArray ->Int ->Env ->Prop):Ex ->Env ->Prop
 | .num z,_ =>z.natAbs < 4294967296 ^ 128
 | .var x,env =>env.any (λp =>p.1 ==x)=true/\ -9223372036854775808 <=look env x/\look env x <=9223372036854775807
 | .cell x,_ =>C x
 | .val x n,env =>V x n env
 | .loop _ x lo hi b,env =>env.length < 1000000/\ -1099511627776 <=lo/\lo <=hi + 1/\hi <=1099511627776/\∀n,lo <=n ->n <=hi ->wfE C V b (env ++ [(x,n)])
 | .bin op a b,env =>(op =4\/op =5\/op =6\/op =7\/op =8\/op =12\/op =13)/\wfE C V a env/\wfE C V b env
/-! ### The machine in memory -/
structure Rm (h:Nat) (w w':World):Prop where
 os:w'.os =w.os
 tape:w'.tape =w.tape
 output:w'.output =w.output
 size:w.heap.size <=w'.heap.size
 block:∀k,k < w.heap.size ->(k < h\/h + 3 <=k) ->w'.heap[k]? =w.heap[k]?
 gr:Gr w w'
theorem Rm.refl(h:Nat)(w:World):Rm h w w:=⟨rfl,rfl,rfl,jJ _,λ_ _ _ =>rfl,Gr.refl w⟩
theorem Rm.trans{h:Nat}{a b c:World}(x:Rm h a b)(y:Rm h b c):Rm h a c:=
 ⟨y.os.trans x.os,y.tape.trans x.tape,y.output.trans x.output,jK x.size y.size,λk hk hh =>(y.block k (Nat.lt_of_lt_of_le hk x.size) hh).trans (x.block k hk hh),x.gr.trans y.gr⟩
theorem Rm.ext{h:Nat}{w w':World}(e:Ext w w'):Rm h w w':=⟨e.os,e.tape,e.output,e.size,λk hk _ =>e.block k hk,e.gr⟩
theorem Rm.bk{h:Nat}{w w':World}(r:Rm h w w'){g:Nat}{vs:List Value}(B:Bk w g vs)(hg:g < h\/h + 3 <=g):Bk w' g vs:=by
 have hb:=r.block g B.lt hg
 exact⟨λj v hj =>(World.cell?_of_block (w:=w) (a:=⟨g,j,none⟩) hb).trans (B.c j v hj),λj =>(World.frozen?_of_block (w:=w) (a:=⟨g,j,none⟩) hb).trans (B.f j),Nat.lt_of_lt_of_le B.lt r.size⟩
theorem Rm.cell{h:Nat}{w w':World}(r:Rm h w w'){p:Addr}{v:Value}(hc:World.cell? w p =some v)(hg:p.block < h\/h + 3 <=p.block):World.cell? w' p =some v:=
 (World.cell?_of_block (w:=w) (r.block p.block (World.block_lt_of_cell? w p hc) hg)).trans hc
structure Mc where
 h:Nat
 cs:Value
 vs:Value
 sv:Value
 gs:Value
def Mc.cells(m:Mc)(left:Nat):List Value:= [m.cs,m.vs,m.sv,m.gs,.int .i64 (left:Int),.map (some m.h),.map (some (m.h + 1))]
structure MAt (m:Mc) (left:Nat) (w:World):Prop where
 bk:Bk w (m.h + 2) (m.cells left)
 fit:left <=100000
theorem MAt.ext{m:Mc}{left:Nat}{w w':World}(x:MAt m left w)(e:Ext w w'):MAt m left w':=⟨x.bk.ext e,x.fit⟩
def MapInv{σ:Type}(h:Nat)(J:σ ->World ->Prop):Prop:=∀s w w',J s w ->Below h w w' ->w'.heap[h]? =w.heap[h]? ->w'.heap[h + 1]? =w.heap[h + 1]? ->J s w'
def EvP{σ:Type}(m:Mc)(J:σ ->World ->Prop)(w:World)(r:Res Kn×Mst σ):Ending ->World ->Prop:=λe w' =>
 Rm m.h w w'/\MAt m r.2.1 w'/\J r.2.2 w'/\match r.1 with
  | .ok q =>∃v,e =.returned v/\IsK 128 q v w'
  | .error n =>e =.panicked (pan n)
/-! ### Expressions and bound variables in memory -/
def IsNd(h:Nat):Ex ->List Value ->World ->Prop
 | .num z,us,w =>∃(nm:ByteArray) (k:Int) (s:Bool) (a:Option Addr) (n c:Nat) (lo hi:Int) (A:Value),us = [.int .i64 1,.string nm,.int .i64 k,.bool s,.slice a n c,.int .i64 lo,.int .i64 hi,A]/\IsI 128 z (.agg #[.bool s,.slice a n c]) w
 | .var x,us,_ =>∃(k:Int) (s:Bool) (a:Option Addr) (n c:Nat) (lo hi:Int) (A:Value),us = [.int .i64 11,.string x,.int .i64 k,.bool s,.slice a n c,.int .i64 lo,.int .i64 hi,A]
 | .cell x,us,_ =>∃(k:Int) (s:Bool) (a:Option Addr) (n c:Nat) (lo hi:Int) (A:Value),us = [.int .i64 2,.string x,.int .i64 k,.bool s,.slice a n c,.int .i64 lo,.int .i64 hi,A]
 | .val x j,us,_ =>∃(s:Bool) (a:Option Addr) (n c:Nat) (lo hi:Int) (A:Value),us = [.int .i64 3,.string x,.int .i64 j,.bool s,.slice a n c,.int .i64 lo,.int .i64 hi,A]
 | .loop fst x lo hi b,us,w =>∃(k:Int) (s:Bool) (a:Option Addr) (n c:Nat) (g o m cp:Nat),us = [.int .i64 (if fst then 10 else 9),.string x,.int .i64 k,.bool s,.slice a n c,.int .i64 lo,.int .i64 hi,.slice (some ⟨g,o,none⟩) m cp]/\1 <=m/\m <=9223372036854775807/\g < h/\
   ∃vs:List Value,vs.length =8/\ (∀j v,vs[j]? =some v ->World.cell? w ⟨g,o + j,none⟩=some v)/\IsNd h b vs w
 | .bin op p q,us,w =>∃(x:ByteArray) (k:Int) (s:Bool) (a:Option Addr) (n c:Nat) (lo hi:Int) (g o m cp:Nat),us = [.int .i64 op,.string x,.int .i64 k,.bool s,.slice a n c,.int .i64 lo,.int .i64 hi,.slice (some ⟨g,o,none⟩) m cp]/\2 <=m/\m <=9223372036854775807/\g < h/\
   (∃vs:List Value,vs.length =8/\ (∀j v,vs[j]? =some v ->World.cell? w ⟨g,o + j,none⟩=some v)/\IsNd h p vs w)/\
   ∃vs:List Value,vs.length =8/\ (∀j v,vs[j]? =some v ->World.cell? w ⟨g,o + 8 + j,none⟩=some v)/\IsNd h q vs w
theorem IsNd.rm{h:Nat}{w w':World}(r:Rm h w w'):∀ {e:Ex} {us:List Value},IsNd h e us w ->IsNd h e us w'
 | .num _z,_us,⟨nm,k,s,a,n,c,lo,hi,A,h1,h2⟩ =>⟨nm,k,s,a,n,c,lo,hi,A,h1,IsI.gstb _ _ _ _ _ r.gr h2⟩
 | .var _x,_us,H =>H
 | .cell _x,_us,H =>H
 | .val _x _j,_us,H =>H
 | .loop _fst _x _lo _hi _b,_us,⟨k,s,a,n,c,g,o,m,cp,h1,h2,h3,h4,vs,h5,h6,h7⟩ =>⟨k,s,a,n,c,g,o,m,cp,h1,h2,h3,h4,vs,h5,λj v hj =>r.cell (h6 j v hj) (.inl h4),IsNd.rm r h7⟩
 | .bin _op _p _q,_us,⟨x,k,s,a,n,c,lo,hi,g,o,m,cp,h1,h2,h3,h4,⟨vs,h5,h6,h7⟩,vs',h5',h6',h7'⟩ =>
  ⟨x,k,s,a,n,c,lo,hi,g,o,m,cp,h1,h2,h3,h4,⟨vs,h5,λj v hj =>r.cell (h6 j v hj) (.inl h4),IsNd.rm r h7⟩,vs',h5',λj v hj =>r.cell (h6' j v hj) (.inl h4),IsNd.rm r h7'⟩
theorem IsNd.len{h:Nat}{e:Ex}{us:List Value}{w:World}(H:IsNd h e us w):us.length =8:=by
 cases e <;> simp only[IsNd]at H
 ·obtain⟨_,_,_,_,_,_,_,_,_,rfl,_⟩ :=H;rfl
 ·obtain⟨_,_,_,_,_,_,_,_,rfl⟩ :=H;rfl
 ·obtain⟨_,_,_,_,_,_,_,_,rfl⟩ :=H;rfl
 ·obtain⟨_,_,_,_,_,_,_,rfl⟩ :=H;rfl
 ·obtain⟨_,_,_,_,_,_,_,_,_,rfl,_⟩ :=H;rfl
 ·obtain⟨_,_,_,_,_,_,_,_,_,_,_,_,rfl,_⟩ :=H;rfl
def IsEnv(h:Nat)(env:Env):Value ->World ->Prop:=λx w =>env.length <=1000000/\∃ao cp,x =.slice ao env.length cp/\cp <=9223372036854775807/\env.length <=cp/\ (env = [] ->ao =none/\cp =0)/\
 (env≠ [] ->∃g,ao =some ⟨g,0,none⟩/\h + 3 <=g/\g < w.heap.size/\∀i y k,env[i]? =some (y,k) ->World.cell? w ⟨g,2 * i,none⟩=some (.string y)/\World.cell? w ⟨g,2 * i + 1,none⟩=some (.int .i64 k))
theorem IsEnv.rm{h:Nat}{env:Env}{x:Value}{w w':World}(H:IsEnv h env x w)(r:Rm h w w'):IsEnv h env x w':=by
 obtain⟨h0,ao,cp,h1,h2,h3,h4,h5⟩ :=H
 refine⟨h0,ao,cp,h1,h2,h3,h4,λhne =>?_⟩
 obtain⟨g,g1,g2,g3,g4⟩ :=h5 hne
 exact⟨g,g1,g2,Nat.lt_of_lt_of_le g3 r.size,λi y k hi =>⟨r.cell (g4 i y k hi).1 (.inr g2),r.cell (g4 i y k hi).2 (.inr g2)⟩⟩
instance (h:Nat) (env:Env):StbC (IsEnv h env) :=⟨λ_ _ _ e H =>IsEnv.rm H (Rm.ext e)⟩
theorem IsEnv.nil(h:Nat)(w:World):IsEnv h [] (.slice none 0 0) w:=⟨by decide,none,0,rfl,by decide,by decide,λ_ =>⟨rfl,rfl⟩,λh =>absurd rfl h⟩
structure OnlyB (g:Nat) (w w':World):Prop where
 os:w'.os =w.os
 tape:w'.tape =w.tape
 output:w'.output =w.output
 size:w'.heap.size =w.heap.size
 block:∀k,k≠g ->w'.heap[k]? =w.heap[k]?
 gr:Gr w w'
theorem OnlyB.ext{g:Nat}{b w w':World}(h:OnlyB g w w')(E:Ext b w)(hg:b.heap.size <=g):Ext b w':=
 ⟨h.os.trans E.os,h.tape.trans E.tape,h.output.trans E.output,by rw[h.size];exact E.size,λk hk =>(h.block k zb).trans (E.block k hk)⟩
theorem OnlyB.rm{g m:Nat}{b w w':World}(h:OnlyB g w w')(R:Rm m b w)(hg:b.heap.size <=g):Rm m b w':=
 ⟨h.os.trans R.os,h.tape.trans R.tape,h.output.trans R.output,by rw[h.size];exact R.size,λk hk hm =>(h.block k zb).trans (R.block k hk hm),R.gr.trans h.gr⟩
theorem OnlyB.own{m:Nat}{w w':World}(h:OnlyB (m + 2) w w'):Rm m w w':=
 ⟨h.os,h.tape,h.output,by rw[h.size];exact jJ _,λk _ hm =>h.block k zb,h.gr⟩
theorem OnlyB.bk{g g':Nat}{w w':World}{vs:List Value}(h:OnlyB g w w')(B:Bk w g' vs)(hg:g'≠g):Bk w' g' vs:=by
 have hb:=h.block g' hg
 exact⟨λj v hj =>(World.cell?_of_block (w:=w) (a:=⟨g',j,none⟩) hb).trans (B.c j v hj),λj =>(World.frozen?_of_block (w:=w) (a:=⟨g',j,none⟩) hb).trans (B.f j),by rw[h.size];exact B.lt⟩
theorem Bk.setO{w:World}{g:Nat}{vs:List Value}(B:Bk w g vs)(j:Nat)(hj:j < vs.length)(u:Value)(hn:NoWord (vs[j])):OnlyB g w (w.setCell ⟨g,j,none⟩ u)/\Bk (w.setCell ⟨g,j,none⟩ u) g (vs.set j u) :=by
 obtain⟨W',h1,h2,_,h4,_,h6⟩ :=B.set1 j hj u hn (Below.refl 0 w |> λh =>(show Ext ⟨#[],w.tape,w.drawn,w.os,w.output⟩ w from⟨h.os,h.tape,h.output,Nat.zero_le _,λk hk =>absurd hk (Nat.not_lt_zero _)⟩)) (Nat.zero_le _)
 subst h1
 exact⟨⟨rfl,rfl,rfl,h6,λk hk =>Below.heap_setCell w ⟨g,j,none⟩ u k hk,h4⟩,h2⟩
theorem setL_block:∀(us:List Value) (W:World) (g j k:Nat),k≠g ->(xD W g j us).heap[k]? =W.heap[k]?
 | [],_,_,_,_,_ =>rfl
 | u ::us,W,g,j,k,hk =>by
  unfold xD
  rw[setL_block us _ g (j + 1) k hk]
  exact Below.heap_setCell W ⟨g,j,none⟩ u k hk
theorem setL_same:∀(us:List Value) (W:World) (g j:Nat),(xD W g j us).os =W.os/\ (xD W g j us).tape =W.tape/\ (xD W g j us).output =W.output
 | [],_,_,_ =>⟨rfl,rfl,rfl⟩
 | u ::us,W,g,j =>by
  unfold xD
  exact setL_same us _ g (j + 1)
theorem Bk.putO{w:World}{g:Nat}{vs us:List Value}(B:Bk w g vs)(hl:us.length =vs.length)(hn:∀v∈vs,NoWord v):OnlyB g w (xD w g 0 us)/\Bk (xD w g 0 us) g us:=by
 obtain⟨W',h1,h2,_,h4,_,h6⟩ :=B.put hl hn (show Ext ⟨#[],w.tape,w.drawn,w.os,w.output⟩ w from⟨rfl,rfl,rfl,Nat.zero_le _,λk hk =>absurd hk (Nat.not_lt_zero _)⟩) (Nat.zero_le _)
 subst h1
 obtain⟨s1,s2,s3⟩ :=setL_same us w g 0
 exact⟨⟨s1,s2,s3,h6,λk hk =>setL_block us w g 0 k hk,h4⟩,h2⟩
theorem NoWord.int64(z:Int):NoWord (.int .i64 z) :=λx =>by simp
theorem NoWord.string(s:ByteArray):NoWord (.string s) :=λx =>by simp
section
variable {P:Program} {ops:Array Oper} {Q:Exit ->Act ->World ->Prop} {ds:List (Option Tmp)} {a0:Act} {w0:World} {L:List (Value ->World ->Prop)} {boxes:List Nat} {i k:Nat} {o:Oper} {os:List Oper}
theorem qX{W:World}{g m:Nat}{vs us:List Value}{a:Act}{K:Act ->World ->Prop}{T:Nat}{x y:Operand}(B:Bk W g vs)(hT:StV P T m)(hl:vs.length =m)(hl':us.length =m)(hn:∀v∈vs,NoWord v)
  (h:∀W',Bk W' g us ->OnlyB g W W' ->K a W')
  (ho:o.op =.store T x y:=by rfl) (hd:o.dst =none:=by rfl) (hx:a.eval x =.pointer (some ⟨g,0,none⟩) :=by kernel_rfl) (hy:a.eval y =.agg us.toArray:=by kernel_rfl) (ho1:us.all (λu =>u.oneCell')=true:=by rfl):Oper.wp P o a W K Q:=by
 obtain⟨h1,h2⟩ :=B.putO (us:=us) zb hn
 refine st_wp ho hx hy (hT W g vs us hl hl' ho1 B) ?_
 rw[hd]
 exact h _ h2 h1
def StC1(P:Program)(T:TypeId)(u:Value):Prop:=∀(w:World) (a:Addr) (v:Value),w.cell? a =some v ->w.frozen? a =false ->(Instr.storeAt T (.pointer (some a)) u).run P w =.ok () (w.setCell a u)
theorem stCO{W:World}{g:Nat}(j:Nat){vs:List Value}{u v:Value}{a:Act}{K:Act ->World ->Prop}{T:Nat}{x y:Operand}(B:Bk W g vs)(hT:StC1 P T u)(hv:vs[j]? =some v)(hn:NoWord v)
  (h:∀W',Bk W' g (vs.set j u) ->OnlyB g W W' ->K a W')
  (ho:o.op =.store T x y:=by rfl) (hd:o.dst =none:=by rfl) (hx:a.eval x =.pointer (some ⟨g,j,none⟩) :=by kernel_rfl) (hy:a.eval y =u:=by kernel_rfl):Oper.wp P o a W K Q:=by
 have hj:j < vs.length:=(List.getElem?_eq_some_iff.1 hv).1
 have hvj:vs[j]=v:=(List.getElem?_eq_some_iff.1 hv).2
 obtain⟨h1,h2⟩ :=B.setO j hj u (by rw[hvj];exact hn)
 refine st_wp ho hx hy (hT W _ v (B.c j v hv) (B.f j)) ?_
 rw[hd]
 exact h _ h2 h1
theorem nc{x:Operand}{p:Addr}(hx:Od ops ds a0 w0 L i x (IsV (.pointer (some p))))(ho:o.op =.nilCheck x:=by rfl)(hi:L.getD i (λ_ _ =>True)=IsV (.pointer (some p)) :=by kernel_rfl)(hb:boxes.contains i =false:=by kernel_rfl):Ok P ops Q ds a0 w0 L boxes i o:=
 Ok.of hb λv a w hE hd hf =>by
  have h1:a.eval x =_:=hx.out v a w hE hd hf
  refine⟨_,?_,by rw[hi];exact rfl⟩
  unfold execOp
  rw[ho]
  dsimp only
  rw[h1]
  go_simp
theorem ixq{x y:Operand}{T:Nat}{p u r:Value}(hr:∀w,(Instr.indexAt T p u).run P w =.ok r w)(hx:Od ops ds a0 w0 L i x (IsV p))(hy:Od ops ds a0 w0 L i y (IsV u))(ho:o.op =.indexAddr T x y:=by rfl)(hi:L.getD i (λ_ _ =>True)=IsV r:=by kernel_rfl)(hb:boxes.contains i =false:=by kernel_rfl):Ok P ops Q ds a0 w0 L boxes i o:=
 Ok.of hb λv a w hE hd hf =>by
  have h1:a.eval x =p:=hx.out v a w hE hd hf
  have h2:a.eval y =u:=hy.out v a w hE hd hf
  refine⟨r,?_,by rw[hi];exact rfl⟩
  have:=hr w
  unfold execOp
  rw[ho]
  dsimp only
  rw[h1,h2]
  simp[this]
end
set_option maxRecDepth 100000
section
variable {ops:Array Oper} {Q:Exit ->Act ->World ->Prop} {ds:List (Option Tmp)} {a0:Act} {w0:World} {L:List (Value ->World ->Prop)} {boxes:List Nat} {i k:Nat} {o:Oper} {os:List Oper}
theorem lenV{ao:Option Addr}{n c:Nat}{x:Operand}(hx:Od ops ds a0 w0 L i x (IsV (.slice ao n c)))(ho:o.op =.call {callee:=.builtin .len,args:= #[x],argTypes:= #[197]} :=by rfl)(hi:L.getD i (λ_ _ =>True)=iV (n:Int) :=by kernel_rfl)(hb:boxes.contains i =false:=by kernel_rfl):Ok prog ops Q ds a0 w0 L boxes i o:=
 Ok.of hb λv a w hE hd hf =>by
  have h1:a.eval x =_:=hx.out v a w hE hd hf
  refine⟨_,?_,by rw[hi];exact rfl⟩
  unfold execOp
  rw[ho]
  dsimp only
  unfold resolve
  simp only[List.map_toArray,List.map_cons,List.map_nil,h1]
  go_simp
theorem slV{ao:Option Addr}{n c:Nat}{x y z:Operand}(hao:ao =none ->n =0/\c =0)(hnc:n <=c)(hc:c <=9223372036854775807)(hx:Od ops ds a0 w0 L i x (IsV (.slice ao n c)))(hy:Od ops ds a0 w0 L i y (iV (n:Int)))(hz:Od ops ds a0 w0 L i z (iV (n:Int)))(ho:o.op =.slice 197 x none (some y) (some z) :=by rfl)(hi:L.getD i (λ_ _ =>True)=IsV (.slice ao n n) :=by kernel_rfl)(hb:boxes.contains i =false:=by kernel_rfl):Ok prog ops Q ds a0 w0 L boxes i o:=
 Ok.of hb λv a w hE hd hf =>by
  have h1:a.eval x =_:=hx.out v a w hE hd hf
  have h2:a.eval y =_:=hy.out v a w hE hd hf
  have h3:a.eval z =_:=hz.out v a w hE hd hf
  refine⟨_,?_,by rw[hi];exact rfl⟩
  unfold execOp
  rw[ho]
  dsimp only
  rw[h1]
  simp only[Option.map_some,h2,h3]
  cases ao with
  | none =>
   obtain⟨rfl,rfl⟩ :=hao rfl
   go_simp
  | some p =>
   have e1:(n:Int) <=(c:Int) :=zb
   have e2:(0:Int) <=(n:Int) :=zb
   go_simp
theorem bdV{x y:Operand}{s:ByteArray}{z:Int}(hx:Od ops ds a0 w0 L i x (IsV (.string s)))(hy:Od ops ds a0 w0 L i y (iV z))(ho:o.op =.build 200 #[(0,x),(1,y)] :=by rfl)(hi:L.getD i (λ_ _ =>True)=IsV (.agg #[.string s,.int .i64 z]) :=by kernel_rfl)(hb:boxes.contains i =false:=by kernel_rfl):Ok prog ops Q ds a0 w0 L boxes i o:=
 Ok.of hb λv a w hE hd hf =>⟨.agg #[.string s,.int .i64 z],bd_run ho (hx.out v a w hE hd hf) (hy.out v a w hE hd hf) zy,by rw[hi];exact rfl⟩
def IsOne(s:ByteArray)(z:Int):Value ->World ->Prop:=λx w =>∃g,x =.slice (some ⟨g,0,none⟩) 1 1/\World.cell? w ⟨g,0,none⟩=some (.string s)/\World.cell? w ⟨g,1,none⟩=some (.int .i64 z)
theorem IsOne.stb(s:ByteArray)(z:Int):Stb (IsOne s z) :=λ_ _ _ e ⟨g,h1,h2,h3⟩ =>⟨g,h1,e.cell h2,e.cell h3⟩
instance (s:ByteArray) (z:Int):StbC (IsOne s z) :=⟨IsOne.stb s z⟩
theorem bsV{x:Operand}{s:ByteArray}{z:Int}(hx:Od ops ds a0 w0 L i x (IsV (.agg #[.string s,.int .i64 z])))(ho:o.op =.buildSlice 197 1 #[(0,x)] :=by rfl)(hi:L.getD i (λ_ _ =>True)=IsOne s z:=by kernel_rfl)(hb:boxes.contains i =false:=by kernel_rfl):Ok prog ops Q ds a0 w0 L boxes i o:=
 ⟨fun v a w hE hd hf K hK =>by
  have h1:a.eval x =_:=hx.out v a w hE hd hf
  have hr:(Instr.buildSlice 197 1 #[(0,.agg #[.string s,.int .i64 z])]).run prog w =.ok (.slice (some ⟨w.heap.size,0,none⟩) 1 1) (w.alloc (.cells #[.string s,.int .i64 z] 200)) :=zy
  have hrun:(execOp a.eval o).run prog w =.ok (.value (.slice (some ⟨w.heap.size,0,none⟩) 1 1)) (w.alloc (.cells #[.string s,.int .i64 z] 200)) :=by
   unfold execOp
   rw[ho]
   dsimp only
   simp only[List.map_toArray,List.map_cons,List.map_nil]
   rw[h1]
   simp[hr]
  unfold Oper.wp
  rw[hrun]
  refine hK.out _ _ ((Ext.refl _).alloc _) ?_ (FreshIf.no hb)
  rw[hi]
  exact⟨_,rfl,by simp,by simp⟩⟩
end
def envL:Env ->List Value
 | [] => []
 | (y,k) ::t => .string y :: .int .i64 k ::envL t
theorem envL_len:∀env:Env,(envL env).length =env.length * 2
 | [] =>rfl
 | (y,k) ::t =>by simp only[envL,List.length_cons,envL_len t];omega
theorem envL_snoc(s:ByteArray)(z:Int):∀env:Env,envL (env ++ [(s,z)])=envL env ++ [.string s,.int .i64 z]
 | [] =>rfl
 | (y,k) ::t =>by simp only[List.cons_append,envL,envL_snoc s z t]
theorem envL_get:∀(env:Env) (i:Nat) (y:ByteArray) (k:Int),env[i]? =some (y,k) ->(envL env)[2 * i]? =some (.string y)/\ (envL env)[2 * i + 1]? =some (.int .i64 k)
 | (y',k') ::t,0,y,k,h =>by
  simp only[List.getElem?_cons_zero,Option.some.injEq,Prod.mk.injEq]at h
  obtain⟨rfl,rfl⟩ :=h
  exact⟨rfl,rfl⟩
 | (y',k') ::t,i + 1,y,k,h =>by
  have:=envL_get t i y k yj
  rw[show 2 * (i + 1)=2 * i + 1 + 1 by omega]
  simpa only[envL,List.getElem?_cons_succ]using this
theorem envL_at:∀(env:Env) (j:Nat) (u:Value),(envL env)[j]? =some u ->∃i y k,env[i]? =some (y,k)/\ ((j =2 * i/\u =.string y)\/ (j =2 * i + 1/\u =.int .i64 k))
 | (y',k') ::t,0,u,h =>⟨0,y',k',rfl,.inl ⟨rfl,by simpa [envL]using h.symm⟩⟩
 | (y',k') ::t,1,u,h =>⟨0,y',k',rfl,.inr ⟨rfl,by simpa [envL]using h.symm⟩⟩
 | (y',k') ::t,j + 2,u,h =>by
  obtain⟨i,y,k,h1,h2⟩ :=envL_at t j u (by simpa [envL]using h)
  exact⟨i + 1,y,k,by simpa using h1,h2.imp (λh =>⟨by omega,h.2⟩) (λh =>⟨by omega,h.2⟩)⟩
theorem ext_of_grown{w w':World}(h:w.grownBy w' none):Ext w w':=(Below.refl w.heap.size w).grown h (jJ _) (λk hk =>by cases hk)
theorem apV_run{w:World}{h:Nat}{env:Env}{ao:Option Addr}{s:ByteArray}{z:Int}{g:Nat}{ty:TypeId}(hh:h + 3 <=w.heap.size)(henv:IsEnv h env (.slice ao env.length env.length) w)(hlen:env.length < 1000000)(c0:World.cell? w ⟨g,0,none⟩=some (.string s))(c1:World.cell? w ⟨g,1,none⟩=some (.int .i64 z)):
  ∃v' w',(Builtin.append_ #[197,197] ty #[.slice ao env.length env.length,.slice (some ⟨g,0,none⟩) 1 1]).run prog w =.ok v' w'/\Ext w w'/\IsEnv h (env ++ [(s,z)]) v' w':=by
 obtain⟨i,hi,hz0,hz1,hz2⟩ :=info_parts (P:=prog) (e:=200) (z:=.agg #[.string ⟨#[]⟩,.int .i64 0]) (size:=2) (bytes:=24) za
 have ht:prog.underlying 197 =some (.slice 200) :=za
 have hnews:∀j u, [Value.string s,.int .i64 z][j]? =some u ->World.cell? w ((⟨g,0,none⟩:Addr).add j)=some u:=by
  intro j u hj
  rcases j with _|_|j
  ·obtain rfl:Value.string s =u:=by simpa using hj
   simpa [Addr.add]using c0
  ·obtain rfl:Value.int .i64 z =u:=by simpa using hj
   simpa [Addr.add]using c1
  ·simp at hj
 have key:∃v' w',(Builtin.append_ #[197,197] ty #[.slice ao env.length env.length,.slice (some ⟨g,0,none⟩) 1 1]).run prog w =.ok v' w'/\w'.ownsRow w.heap.size 200 2 v' (env.length + 1) (envL env ++ [.string s,.int .i64 z])/\w.grownBy w' none:=by
  obtain⟨_,ao',cp,e1,_,_,e4,e5⟩ :=henv
  injection e1 with e1 _ e3
  subst e1
  cases env with
  | nil =>
   obtain⟨rfl,_⟩ :=e4 rfl
   obtain⟨v',w',hrun,r1,r2,_⟩ :=run_append_own (P:=prog) w w.heap.size 197 ty 200 i _ 2 24 ht hi hz0 hz1 hz2 zbq dcx (.slice none 0 0) 0 [] (World.ownsRow_nil w _ _ _) ⟨g,0,none⟩ 1 1 [.string s,.int .i64 z] rfl hnews xt dcx dcx (jJ _)
   exact⟨v',w',hrun,r1,r2⟩
  | cons p t =>
   obtain⟨g',rfl,_,_,hc⟩ :=e5 zd
   obtain⟨v',w',hrun,r1,r2⟩ :=run_append_arg_grows (P:=prog) w 197 ty 200 i _ 2 24 ht hi hz0 hz1 hz2 zbq dcx ⟨g',0,none⟩ (p ::t).length (p ::t).length (envL (p ::t)) (envL_len _) (λj u hj =>by
     obtain⟨i,y,k,h1,h2⟩ :=envL_at _ j u hj
     have hci:=hc i y k h1
     rcases h2 with⟨rfl,rfl⟩| ⟨rfl,rfl⟩
     ·rw[Addr.add_lit,Nat.zero_add];exact hci.1
     ·rw[Addr.add_lit,Nat.zero_add];exact hci.2) ⟨g,0,none⟩ 1 1 [.string s,.int .i64 z] rfl hnews zb (by unfold maxLen;omega) zb
   exact⟨v',w',hrun,r1,r2⟩
 obtain⟨v',w',hrun,r1,r2⟩ :=key
 refine⟨v',w',hrun,ext_of_grown r2,by rw[jM];simp only[List.length_cons,List.length_nil];omega,?_⟩
 obtain⟨ao2,cp,hv,hn,hc,hl,hcells⟩ :=Rwg.shape (e:=200) (k:=2) r1
 refine⟨ao2,cp,by rw[hv,jM];rfl,hc,by rw[jM];simpa using hn,λhe =>by simp at he,λ_ =>?_⟩
 obtain⟨g2,q1,q2,q3,q4⟩ :=hcells zd
 refine⟨g2,q1,by omega,q3,λi y k hik =>?_⟩
 have:=envL_get _ i y k hik
 rw[envL_snoc]at this
 exact⟨q4 _ _ this.1,q4 _ _ this.2⟩
section
variable {ops:Array Oper} {Q:Exit ->Act ->World ->Prop} {ds:List (Option Tmp)} {a0:Act} {w0:World} {L:List (Value ->World ->Prop)} {boxes:List Nat} {i k:Nat} {o:Oper} {os:List Oper}
theorem apV{h:Nat}{env:Env}{ao:Option Addr}{s:ByteArray}{z:Int}{x y:Operand}(hh:h + 3 <=w0.heap.size)(henv:IsEnv h env (.slice ao env.length env.length) w0)(hlen:env.length < 1000000)(hx:Od ops ds a0 w0 L i x (IsV (.slice ao env.length env.length)))(hy:Od ops ds a0 w0 L i y (IsOne s z))
  (ho:o.op =.call {callee:=.builtin .append,args:= #[x,y],argTypes:= #[197,197]} :=by rfl) (hi:L.getD i (λ_ _ =>True)=IsEnv h (env ++ [(s,z)]) :=by kernel_rfl) (hb:boxes.contains i =false:=by kernel_rfl):Ok prog ops Q ds a0 w0 L boxes i o:=
 ⟨fun v a w hE hd hf K hK =>by
  have h1:a.eval x =_:=hx.out v a w hE hd hf
  obtain⟨g1,h2,c0,c1⟩ :=hy.out v a w hE hd hf
  obtain⟨v',w',hrun,hE',henv'⟩ :=apV_run (ty:=o.type) (jK hh hE.size) (henv.rm (Rm.ext hE)) hlen c0 c1
  unfold Oper.wp
  simp[execOp,ho,resolve,invoke,builtin,h1,h2,hrun,Result.andThen]
  exact hK.out _ _ hE' (by rw[hi];exact henv') (FreshIf.no hb)⟩
end
theorem ld_str:LdC1 prog 9:=λw a v h =>by go_simp
theorem xF:LdC1 prog 3:=λw a v h =>by go_simp
theorem ld_b:LdC1 prog 4:=λw a v h =>by go_simp
theorem ld_Nds:LdC1 prog 29:=λw a v h =>by go_simp
theorem st_i(z:Int):StC1 prog 3 (.int .i64 z) :=λw a v h2 h3 =>by go_simp
theorem st_b(z:Bool):StC1 prog 4 (.bool z) :=λw a v h2 h3 =>by go_simp
end Go.Proofs.YtkeikfekkdplgaaGreatDoor
