/-
  Words persist: what a walk needs where boxes are made and written in whatever order. No condition. A rule for a region that draws its order of evaluation: every operation of its first part (loads, calls, allocations) is shown once, in whatever world the others have led to; its stores follow when all of these are done. No condition on the program.
-/
import Derived.Test.YtenhciieboegbaaGreatDoorInt1
import Derived.Orders
import Derived.Deep.RegionHeld3
namespace Go.Proofs.YtenhciieboegbaaGreatDoor
open Go Go.RowKit
theorem xf{P:Prop}(h:P:=by simpa using ho):P:=h
abbrev zS:=@decide_eq_true_eq
abbrev zL:=@And.intro
def Gr(w w':World):Prop:=w.heap.size <=w'.heap.size/\∀p x,w.cell? p =some (.int .u32 x) ->w'.cell? p =some (.int .u32 x)
theorem Gr.refl(w:World):Gr w w:=⟨zN _,λ_ _ h =>h⟩
theorem Gr.trans{a b c:World}(h:Gr a b)(k:Gr b c):Gr a c:=⟨zO h.1 k.1,λp x hp =>k.2 p x (h.2 p x hp)⟩
theorem Ext.gr{a b:World}(h:Ext a b):Gr a b:=⟨h.size,λ_ _ hp =>h.cell hp⟩
theorem Gr.set{a b:World}(h:Gr a b){p:Addr}{u:Value}(hp:b.cell? p =some u)(hu:NoWord u)(v:Value):Gr a (b.setCell p v) :=by
  refine h.trans ⟨by simp[World.setCell],λq x hq =>?_⟩
  rw[World.cell?_setCell_other]
  ·exact hq
  · intro he
    rw[he,hq]at hp
    exact hu _ (Option.some.inj hp).symm
theorem Wd.gr{w w':World}{ao:Option Addr}{n cap:Nat}{xs:List Nat}(h:Wd w ao n cap xs)(e:Gr w w'):Wd w' ao n cap xs:=
  ⟨h.len,h.capo,h.big,h.lt,h.at_.imp id λ⟨b,off,h1,h2,h3⟩ =>⟨b,off,h1,Nat.lt_of_lt_of_le h2 e.1,λj hj =>e.2 _ _ (h3 j hj)⟩⟩
theorem NatAt.gr{w w':World}{k n cap m:Nat}{ao:Option Addr}(h:NatAt w k ao n cap m)(e:Gr w w'):NatAt w' k ao n cap m:=
  let ⟨xs,h1,h2⟩ :=h;⟨xs,h1.gr e,h2⟩
theorem IntAt.gr{w w':World}{k n cap:Nat}{s:Bool}{ao:Option Addr}{z:Int}(h:IntAt w k s ao n cap z)(e:Gr w w'):IntAt w' k s ao n cap z:=
  let ⟨m,h1,h2⟩ :=h;⟨m,h1.gr e,h2⟩
structure Bx (w:World) (g:Nat) (s:Bool) (a:Option Addr) (n c:Nat):Prop where
  c0:w.cell? ⟨g,0,none⟩=some (.bool s)
  c1:w.cell? ⟨g,1,none⟩=some (.slice a n c)
  f0:w.frozen? ⟨g,0,none⟩=false
  f1:w.frozen? ⟨g,1,none⟩=false
theorem Bx.lt{w:World}{g n c:Nat}{s:Bool}{a:Option Addr}(h:Bx w g s a n c):g < w.heap.size:=World.block_lt_of_cell? w ⟨g,0,none⟩ h.c0
theorem Bx.ext{w w':World}{g n c:Nat}{s:Bool}{a:Option Addr}(h:Bx w g s a n c)(e:Ext w w'):Bx w' g s a n c:=
  ⟨e.cell h.c0,e.cell h.c1,(e.frozen h.lt).trans h.f0,(e.frozen h.lt).trans h.f1⟩
section
variable {P:Program} {md:Region.Mode} {ops:Array Oper} {Q:Exit ->Act ->World ->Prop}
def xG(ops:Array Oper)(i:Nat):Option Tmp:=(ops[i]?).bind (·.dst)
def jV(ops:Array Oper)(v:Nat ->Value)(a:Act):Nat ->Act
  |0 =>a
  |n + 1 =>(jV ops v a n).put (xG ops n) (v n)
def xZ(v:Nat ->Value):Act ->Nat ->List (Option Tmp) ->Act
  |a,_, [] =>a
  |a,k,d ::ds =>xZ v (a.put d (v k)) (k + 1) ds
def dR(m:Nat):Nat->List (Option Tmp)|0=>[]|n+1=>some m ::dR (m+1) n
theorem lxE:(∀(v:Nat->Value) (a:Act) (k:Nat),xZ v a k []=a)/\(∀(v:Nat->Value) (a:Act) (k:Nat) (d:Option Tmp) (ds:List (Option Tmp)),xZ v a k (d ::ds)=xZ v (a.put d (v k)) (k+1) ds)/\(∀(a:Act) (d:Tmp) (v:Value),a.put (some d) v={a with tmps:=a.tmps.setIfInBounds d v})/\(∀(a:Act) (v:Value),a.put none v=a)/\(∀(l:List Value) (i:Nat) (a:Value),l.toArray.setIfInBounds i a=(l.set i a).toArray)/\(∀(a b:Value) (l:List Value),(a ::l).set 0 b=b ::l)/\(∀(a b:Value) (l:List Value) (i:Nat),(a ::l).set (i+1) b=a ::l.set i b)/\(∀(v:Nat->Value) (a:Act) (k m n:Nat),xZ v a k (dR m (n+1))=xZ v (a.put (some m) (v k)) (k+1) (dR (m+1) n))/\(∀(v:Nat->Value) (a:Act) (k m:Nat),xZ v a k (dR m 0)=a):=
  ⟨λ_ _ _=>rfl,λ_ _ _ _ _=>rfl,λ_ _ _=>rfl,λ_ _=>rfl,λ_ _ _=>by simp,λ_ _ _=>rfl,λ_ _ _ _=>rfl,λ_ _ _ _ _=>rfl,λ_ _ _ _=>rfl⟩
theorem dxE{α:Type _}:(∀(a:α) (l:List α) (n:Nat),(a ::l).drop (n+1)=l.drop n)/\(∀l:List α,l.drop 0=l):=⟨λ_ _ _=>rfl,λ_=>rfl⟩
def xJ(ops:Array Oper)(n:Nat):Bool:=
  (List.range n).all λi =>(List.range n).all λj =>i ==j || (match xG ops i with|some d =>xG ops j !=some d|none =>true)
def xW(md:Region.Mode)(ops:Array Oper)(i:Nat):List Nat:=
  match ops[i]? with
  |some o =>(o.after.toList.filter (Region.binds md)).map (·.on)
  |none => []
def sweep(md:Region.Mode)(ops:Array Oper):Nat ->List Nat ->List Nat
  |0,s =>s
  |i + 1,s =>sweep md ops i (if s.contains i then s ++xW md ops i else s)
def ups(md:Region.Mode)(ops:Array Oper)(i:Nat):List Nat:=sweep md ops i (xW md ops i)
def jG(md:Region.Mode)(ops:Array Oper)(n:Nat)(T:List Nat):Bool:=
  ((List.range ops.size).all λj =>j < n || (List.range n).all λi =>(ups md ops j).contains i || T.contains i) &&
  (List.range n).all λi =>(xW md ops i).all λe =>e < i
theorem put_put(a:Act)(d:Option Tmp)(x y:Value):(a.put d x).put d y =a.put d y:=by
  cases d
  ·rfl
  ·simp only[Act.put,Array.setIfInBounds_setIfInBounds]
theorem put_swap(a:Act){d e:Option Tmp}(x y:Value)(h:∀t,d =some t ->e≠some t):(a.put d x).put e y =(a.put e y).put d x:=by
  cases d <;> cases e <;> simp only[Act.put]
  rename_i t u
  have:t≠u:=λhe =>h t rfl (by rw[he])
  rw[Array.setIfInBounds_comm _ _ this]
def jD(v:Nat ->Value)(i:Nat)(x:Value):Nat ->Value:=λj =>if j =i then x else v j
theorem layN_congr(a:Act)(u v:Nat ->Value):∀n,(∀i,i < n ->u i =v i) ->jV ops u a n =jV ops v a n:=by
  intro n
  induction n with
  |zero =>intro _;rfl
  |succ n ih =>intro h;rw[jV,jV,ih (λi hi =>h i (by omega)),h n (by omega)]
theorem jN{n:Nat}(h:xJ ops n =true){i j:Nat}(hi:i < n)(hj:j < n)(hij:i≠j):∀t,xG ops i =some t ->xG ops j≠some t:=by
  intro t ht hjt
  simp only[xJ,List.all_eq_true,List.mem_range,Bool.or_eq_true,beq_iff_eq]at h
  have:=(h i hi j hj).resolve_left hij
  rw[ht]at this
  simp[hjt]at this
theorem layN_put(a:Act)(v:Nat ->Value)(i:Nat)(x:Value):∀n,i < n ->(∀j k,j < n ->k < n ->j≠k ->∀t,xG ops j =some t ->xG ops k≠some t) ->
    (jV ops v a n).put (xG ops i) x =jV ops (jD v i x) a n:=by
  intro n
  induction n with
  |zero =>intro h;omega
  | succ n ih =>
    intro hi hd
    rcases zR i n with h|h
    · rw[jV,jV,put_swap _ _ _ (hd n i (by omega) (by omega) (by omega)),ih h (λj k hj hk =>hd j k (by omega) (by omega))]
      simp only[jD];rw[if_neg (by omega)]
    · have:i =n:=by omega
      subst this
      rw[jV,jV,put_put,layN_congr a (jD v i x) v i (λj hj =>by simp only[jD];rw[if_neg (by omega)])]
      simp only[jD,if_true]
theorem put_self(a:Act)(d:Option Tmp):a.put d (match d with|some t =>a.tmps.getD t undef|none =>undef)=a:=by
  cases d with
  |none =>rfl
  | some t =>
    have :a.tmps.setIfInBounds t (a.tmps.getD t undef)=a.tmps:=by
      apply Array.ext zo
      intro i h1 h2
      rw[Array.getElem_setIfInBounds]
      · split
        ·rename_i h;subst h;simp[h2]
        ·rfl
    simp only[Act.put,this]
theorem layN_self(a:Act):∀n,jV ops (λi =>match xG ops i with|some t =>a.tmps.getD t undef|none =>undef) a n =a:=by
  intro n
  induction n with
  |zero =>rfl
  |succ n ih =>rw[jV,ih];exact put_self a _
theorem xT(v:Nat ->Value)(a:Act):∀n ds,((List.range n).map (xG ops))=ds ->jV ops v a n =xZ v a 0 ds:=by
  have key:∀(ds:List (Option Tmp)) (d:Option Tmp) (k:Nat) (b:Act),xZ v b k (ds ++ [d])=(xZ v b k ds).put d (v (k + ds.length)) :=by
    intro ds
    induction ds with
    |nil =>intro d k b;simp[xZ]
    |cons e ds ih =>intro d k b;simp only[List.cons_append,xZ,ih,List.length_cons];congr 2;omega
  intro n
  induction n with
  |zero =>intro ds h;subst h;rfl
  | succ n ih =>
    intro ds h
    subst h
    rw[List.range_succ,List.map_append,List.map_cons,List.map_nil,key,jV,ih _ rfl]
    simp
theorem xK{listed:Array Bool}(hc:∀i,listed.getD i false =true ->∀e∈xW md ops i,listed.getD e false =true):
    ∀i s,(∀e∈s,listed.getD e false =true) ->∀e∈sweep md ops i s,listed.getD e false =true:=by
  intro i
  induction i with
  |zero =>intro s h;exact h
  | succ i ih =>
    intro s h
    refine ih _ ?_
    intro e he
    split at he
    · rename_i hm
      rcases List.mem_append.1 he with h1|h1
      ·exact h e h1
      ·exact hc i (h i (List.contains_iff_mem.1 hm)) e h1
    ·exact h e he
theorem xA{listed:Array Bool}{i:Nat}(h:i∈Region.ready md ops listed):∀e∈xW md ops i,listed.getD e false =true:=by
  obtain⟨_,o,ho,hall⟩ :=mem_ready.1 h
  intro e he
  simp only[xW,ho,List.mem_map,List.mem_filter]at he
  obtain⟨x,⟨hx,hb⟩,rfl⟩ :=he
  exact hall x (by simpa using hx) hb
theorem ready_of_needs{listed:Array Bool}{i:Nat}(h0:listed.getD i true =false)(hi:i < ops.size)(h:∀e∈xW md ops i,listed.getD e false =true):i∈Region.ready md ops listed:=by
  have ho:ops[i]? =some ops[i] :=by simp[hi]
  refine mem_ready.2 ⟨h0,_,ho,λe he hb =>h _ ?_⟩
  simp only[xW,ho,List.mem_map,List.mem_filter]
  exact⟨e,⟨by simpa using he,hb⟩,rfl⟩
def jC(listed:Array Bool)(n:Nat):Nat:=(List.range n).countP (λi =>listed.getD i false)
theorem doneN_set(listed:Array Bool)(i:Nat)(h:listed.getD i true =false):∀n,jC (listed.setIfInBounds i true) n =jC listed n + if i < n then 1 else 0:=by
  have hi:i < listed.size:=by
    rcases zR i listed.size with h'|h'
    ·exact h'
    ·simp[Array.getElem?_eq_none h']at h
  intro n
  induction n with
  |zero =>rfl
  | succ n ih =>
    unfold jC at *
    rw[List.range_succ,List.countP_append,List.countP_append,ih]
    by_cases hn:i =n
    · subst hn
      have h2:listed.getD i false =false:=by simp[hi]at h ⊢;exact h
      simp[hi]at h2 ⊢
      simp[h2]
    · simp only[List.countP_cons,List.countP_nil,getD_set_ne false hn]
      split <;> split <;> first|omega| (split <;> omega)
theorem doneN_all{listed:Array Bool}:∀n,(∀i,i < n ->listed.getD i false =true) ->jC listed n =n:=by
  intro n h
  unfold jC
  rw[List.countP_eq_length.2,List.length_range]
  intro i hi
  exact h i (List.mem_range.1 hi)
theorem doneN_lt{listed:Array Bool}{n i:Nat}(hi:i < n)(h:listed.getD i false =false):jC listed n < n:=by
  unfold jC
  rcases Nat.lt_or_eq_of_le (List.countP_le_length (p:=λi =>listed.getD i false) (l:=List.range n))with h1|h1
  ·simpa using h1
  · have:=List.countP_eq_length.1 h1 i (List.mem_range.2 hi)
    simp[h]at this
def qU(size n:Nat):Array Bool:=((List.range size).map λi =>decide (i < n)).toArray
theorem exists_least(p:Nat ->Bool):∀n,(∃i,i < n/\p i =true) ->∃i,i < n/\p i =true/\∀j,j < i ->p j =false:=by
  intro n
  induction n with
  |zero =>rintro⟨i,hi,_⟩;omega
  | succ n ih =>
    rintro⟨i,hi,hp⟩
    by_cases h:∃i,i < n/\p i =true
    · obtain⟨j,h1,h2,h3⟩ :=ih h
      exact⟨j,by omega,h2,h3⟩
    · have hin:i =n:=by
        rcases zR i n with h4|h4
        ·exact absurd ⟨i,h4,hp⟩ h
        ·omega
      refine⟨n,by omega,hin ▸ hp,λj hj =>?_⟩
      cases hpj:p j
      ·rfl
      ·exact absurd ⟨j,hj,hpj⟩ h
def RgOp(P:Program)(md:Region.Mode)(ops:Array Oper)(Q:Exit ->Act ->World ->Prop)(n:Nat)(a0:Act)(w0:World)(R:World ->World ->Prop)(fP:Nat ->Value ->World ->Prop)(boxes:List Nat)(i:Nat)(o:Oper):Prop:=
  ∀ (v:Nat ->Value) (w:World),R w0 w ->(∀j,(ups md ops i).contains j =true ->fP j (v j) w) ->
    ∀K:Act ->World ->Prop,Shut (∀x w',R w w' ->fP i x w' ->(boxes.contains i =true ->∃g,x =.pointer (some ⟨g,0,none⟩)/\w.heap.size <=g) ->K ((jV ops v a0 n).put o.dst x) w') ->
    if Region.wanted o (yielded ops (jV ops v a0 n).tmps)=true then Oper.wp P o (jV ops v a0 n) w K Q else K ((jV ops v a0 n).put o.dst undef) w
def AllOps(p:Nat ->Prop):Nat ->Prop
  |0 =>True
  |n + 1 =>AllOps p n/\p n
theorem AllOps.get{p:Nat ->Prop}:∀ {n:Nat},AllOps p n ->∀i,i < n ->p i:=by
  intro n
  induction n with
  |zero =>intro _ i hi;omega
  | succ n ih =>
    intro h i hi
    rcases zR i n with h1|h1
    ·exact ih h.1 i h1
    · have:i =n:=by omega
      exact this ▸ h.2
def optOk(md:Region.Mode)(ops:Array Oper)(n:Nat)(opt:List Nat):Bool:=
  Region.noSelect ops && opt.all λi =>decide (i < n) && (List.range ops.size).all λj =>j ==i || (decide (j < n) && !opt.contains j) ||
    match ops[i]?,ops[j]? with
    |some oi,some oj =>oj.after.any (λe =>Region.binds md e && e.on ==i) || oi.apart ops oj
    |_,_ =>true
def OptY(P:Program)(md:Region.Mode)(ops:Array Oper)(Q:Exit ->Act ->World ->Prop)(n:Nat)(a0:Act)(w0:World)(R:World ->World ->Prop)(fP:Nat ->Value ->World ->Prop)(boxes:List Nat)(i:Nat):Prop:=
  boxes.contains i =false/\ (∀c a d v w,Q (.panic c) (Act.put a d v) w ->Q (.panic c) a w)/\
  ∀(v:Nat ->Value) (w:World),R w0 w ->(∀j,(ups md ops i).contains j =true ->fP j (v j) w) ->∃x o,ops[i]? =some o/\Yields P ops o x (jV ops v a0 n)/\fP i x w
theorem rg_opt(n:Nat)(opt:List Nat)(R:World ->World ->Prop)(fP:Nat ->Value ->World ->Prop)(boxes:List Nat){a0:Act}{w0:World}
    (hn:n <=ops.size) (hap:xJ ops n =true) (htp2:∀i,i < n ->∀e∈xW md ops i,e < i)
    (ho:optOk md ops n opt =true) (hY:∀i∈opt,OptY P md ops Q n a0 w0 R fP boxes i)
    (hend:∀v w,R w0 w ->(∀i,i < n ->fP i (v i) w) ->(∀i j,i < n ->j < n ->i≠j ->boxes.contains i =true ->boxes.contains j =true ->v i≠v j) ->
      wpAny P md ops Q (ops.size - n) (qU ops.size n) (jV ops v a0 n) w) :
    ∀ (m fuel:Nat) (listed:Array Bool) (v:Nat ->Value) (w:World),listed.size =ops.size ->(∀j,n <=j ->listed.getD j false =false) ->
      fuel + jC listed n =ops.size ->jC listed n + m =n ->(∀i,listed.getD i false =true ->∀e∈xW md ops i,listed.getD e false =true) ->R w0 w ->
      (∀i,i < n ->listed.getD i false =true ->fP i (v i) w) ->
      (∀i j,i < n ->j < n ->i≠j ->boxes.contains i =true ->boxes.contains j =true ->listed.getD i false =true ->listed.getD j false =true ->v i≠v j) ->
      (∀i,i < n ->listed.getD i false =false ->i∈opt) ->
      wpAny P md ops Q fuel listed (jV ops v a0 n) w:=by
  intro m
  induction m with
  | zero =>
    intro fuel listed v w hsz hbig hcnt hm hcl hR hΦ hdis hopt
    have hall':∀i,i < n ->listed.getD i false =true:=λi hi =>by
      cases h:listed.getD i false
      ·have:=doneN_lt hi h;omega
      ·rfl
    have hl:listed =qU ops.size n:=by
      apply Array.ext (by simp[qU,hsz])
      intro i h1 h2
      have h3:listed[i]=listed.getD i false:=by simp[h1]
      rw[h3]
      rcases zR i n with h|h
      ·rw[hall' i h];simp[qU,h]
      ·rw[hbig i h];simp[qU];omega
    have:=hend v w hR (λi hi =>hΦ i hi (hall' i hi)) (λi j hi hj hij hbi hbj =>hdis i j hi hj hij hbi hbj (hall' i hi) (hall' j hj))
    rw[hl]
    rwa [show ops.size - n =fuel by omega]at this
  | succ m ih =>
    intro fuel listed v w hsz hbig hcnt hm hcl hR hΦ hdis hopt
    have hex:∃i,i < n/\ (!listed.getD i false)=true:=by
      rcases Classical.em (∃i,i < n/\ (!listed.getD i false)=true)with h|h
      ·exact h
      · have:=doneN_all n (λi hi =>by
          cases h':listed.getD i false
          ·exact absurd ⟨i,hi,by simp[h']⟩ h
          ·rfl)
        omega
    obtain⟨i,hi,h0,hmin⟩ :=exists_least (λi => !listed.getD i false) n hex
    have h0':listed.getD i false =false:=by simpa using h0
    have his:i < listed.size:=ze
    have hun:listed.getD i true =false:=by simp[his]at h0' ⊢;exact h0'
    have hio:=hopt i hi h0'
    have hr:i∈Region.ready md ops listed:=ready_of_needs hun ze (λe he =>by
      have:=hmin e (htp2 i hi e he)
      simpa using this)
    obtain⟨hb,hQ,hy⟩ :=hY i hio
    obtain⟨x,o,hoi,hyx,hPx⟩ :=hy v w hR (λj hj =>by
      have hjl:=xK hcl i (xW md ops i) (xA hr) j (List.contains_iff_mem.1 hj)
      refine hΦ j ?_ hjl
      rcases zR j n with h|h
      ·exact h
      ·rw[hbig j h]at hjl;cases hjl)
    obtain⟨f,rfl⟩:∃f,fuel =f + 1:=⟨fuel - 1,by omega⟩
    simp only[optOk,Bool.and_eq_true,List.all_eq_true,List.mem_range,zS,Bool.or_eq_true,beq_iff_eq,Bool.not_eq_true']at ho
    refine wpAny_first hoi (Region.noSelect_spec ho.1) (λc a w =>hQ c a _ x w) f listed _ _ ?_ hr hyx ?_
    · intro j oj hoj hji hjun hno
      have hjs:j < ops.size:=(Array.getElem?_eq_some_iff.1 hoj).1
      rcases(ho.2 i hio).2 j hjs with(h1|h1)|h1
      ·exact absurd h1 hji
      · have hjf:listed.getD j false =false:=by simp[hsz,hjs]at hjun ⊢;exact hjun
        have:=hopt j h1.1 hjf
        have h2:opt.contains j =true:=List.contains_iff_mem.2 this
        rw[h1.2]at h2;cases h2
      · rw [hoi,hoj]at h1
        simp only[Bool.or_eq_true]at h1
        rcases h1 with h1|h1
        · obtain⟨e,he,hbb⟩ :=Array.any_eq_true'.1 h1
          simp only[Bool.and_eq_true,beq_iff_eq]at hbb
          exact absurd hbb.2 (hno e he hbb.1)
        ·exact h1
    · have hdst:o.dst =xG ops i:=by simp[xG,hoi]
      rw[hdst,layN_put a0 v i x n hi (λj k hj hk hjk =>jN hap hj hk hjk)]
      have hdn:=doneN_set _ _ hun n
      rw[if_pos hi]at hdn
      refine ih f _ _ w (by simp[hsz]) (λj hj =>?_) ze ze (λj hj e he =>?_) hR (λj hj hlj =>?_) (λj k hj hk hjk hbj hbk hlj hlk =>?_) (λj hj hlj =>?_)
      ·rw[getD_set_ne false (by omega)];exact hbig j hj
      · by_cases hij:i =j
        · subst hij
          exact getD_set_true (xA hr e he)
        · rw[getD_set_ne false hij]at hj
          exact getD_set_true (hcl j hj e he)
      · by_cases hij:j =i
        ·subst hij;simpa only[jD,if_true]using hPx
        · rw[getD_set_ne false (Ne.symm hij)]at hlj
          simp only[jD];rw[if_neg hij]
          exact hΦ j hj hlj
      · simp only[jD]
        have hji:j≠i:=λh =>by rw[h,hb]at hbj;cases hbj
        have hki:k≠i:=λh =>by rw[h,hb]at hbk;cases hbk
        rw[if_neg hji,if_neg hki]
        rw[getD_set_ne false (Ne.symm hji)]at hlj
        rw[getD_set_ne false (Ne.symm hki)]at hlk
        exact hdis j k hj hk hjk hbj hbk hlj hlk
      · by_cases hij:i =j
        · subst hij
          have h1:(listed.setIfInBounds i true).getD i false =true:=by simp[his]
          rw[h1]at hlj;cases hlj
        · rw[getD_set_ne false hij]at hlj
          exact hopt j hj hlj
theorem rg_main(n:Nat)(T opt:List Nat)(R:World ->World ->Prop)(fP:Nat ->Value ->World ->Prop)(boxes:List Nat){a0:Act}{w0:World}
    (hn:n <=ops.size) (hap:xJ ops n =true) (htp:jG md ops n (T ++opt)=true) (hoo:optOk md ops n opt =true) (hY:∀i∈opt,OptY P md ops Q n a0 w0 R fP boxes i)
    (hRt:∀ {a b c},R a b ->R b c ->R a c)
    (hst:∀i,i < n ->∀x w w',R w w' ->fP i x w ->fP i x w')
    (hbx:∀i,i < n ->boxes.contains i =true ->∀x w,fP i x w ->∃g,x =.pointer (some ⟨g,0,none⟩)/\g < w.heap.size)
    (hop:AllOps (λi =>∀o,ops[i]? =some o ->RgOp P md ops Q n a0 w0 R fP boxes i o) n)
    (hend:∀v w,R w0 w ->(∀i,i < n ->fP i (v i) w) ->(∀i j,i < n ->j < n ->i≠j ->boxes.contains i =true ->boxes.contains j =true ->v i≠v j) ->
      wpAny P md ops Q (ops.size - n) (qU ops.size n) (jV ops v a0 n) w) :
    ∀ (fuel:Nat) (listed:Array Bool) (v:Nat ->Value) (w:World),listed.size =ops.size ->(∀j,n <=j ->listed.getD j false =false) ->
      fuel + jC listed n =ops.size ->(∀i,listed.getD i false =true ->∀e∈xW md ops i,listed.getD e false =true) ->R w0 w ->(∀i∈T,listed.getD i false =true) ->
      (∀i,i < n ->listed.getD i false =true ->fP i (v i) w) ->
      (∀i j,i < n ->j < n ->i≠j ->boxes.contains i =true ->boxes.contains j =true ->listed.getD i false =true ->listed.getD j false =true ->v i≠v j) ->
      wpAny P md ops Q fuel listed (jV ops v a0 n) w:=by
  simp only[jG,Bool.and_eq_true,List.all_eq_true,List.mem_range,Bool.or_eq_true,zS]at htp
  obtain⟨htp1,htp2⟩ :=htp
  have late:∀(fuel:Nat) (listed:Array Bool) (v:Nat ->Value) (w:World),listed.size =ops.size ->(∀j,n <=j ->listed.getD j false =false) ->
      fuel + jC listed n =ops.size ->(∀i,listed.getD i false =true ->∀e∈xW md ops i,listed.getD e false =true) ->R w0 w ->
      (∀i,i < n ->listed.getD i false =true ->fP i (v i) w) ->
      (∀i j,i < n ->j < n ->i≠j ->boxes.contains i =true ->boxes.contains j =true ->listed.getD i false =true ->listed.getD j false =true ->v i≠v j) ->
      (¬∃i,i < n/\ (!listed.getD i false && !opt.contains i)=true) ->wpAny P md ops Q fuel listed (jV ops v a0 n) w:=by
    intro fuel listed v w hsz hbig hcnt hcl hR hΦ hdis hall
    have hle:jC listed n <=n:=by
      have:=List.countP_le_length (p:=λi =>listed.getD i false) (l:=List.range n)
      simpa [jC]using this
    refine rg_opt n opt R fP boxes hn hap (λi hi e he =>by simpa using htp2 i hi e he) hoo hY hend (n - jC listed n) fuel listed v w hsz hbig hcnt ze hcl hR hΦ hdis (λi hi h =>?_)
    cases h1:opt.contains i
    ·exact absurd ⟨i,hi,by rw[h,h1];rfl⟩ hall
    ·exact List.contains_iff_mem.1 h1
  intro fuel
  induction fuel with
  | zero =>
    intro listed v w hsz hbig hcnt hcl hR hT hΦ hdis
    refine late 0 listed v w hsz hbig hcnt hcl hR hΦ hdis ?_
    rintro⟨i,hi,h⟩
    have:=doneN_lt hi (show listed.getD i false =false by simp at h ⊢;exact h.1)
    omega
  | succ fuel ih =>
    intro listed v w hsz hbig hcnt hcl hR hT hΦ hdis
    by_cases hall:∃i,i < n/\ (!listed.getD i false && !opt.contains i)=true
    · obtain ⟨i1,hi1,h1⟩ :=hall
      have hu1:listed.getD i1 false =false:=by simp at h1 ⊢;exact h1.1
      have ho1:opt.contains i1 =false:=by simp at h1 ⊢;exact h1.2
      obtain⟨i0,hi0,h0,hmin⟩ :=exists_least (λi => !listed.getD i false) n ⟨i1,hi1,by rw[hu1];rfl⟩
      have hi0s:i0 < listed.size:=ze
      have hr0:i0∈Region.ready md ops listed:=ready_of_needs (by simpa [hi0s]using h0) ze (λe he =>by
        have:=hmin e (by simpa using htp2 i0 hi0 e he)
        simpa using this)
      refine⟨λh =>(by rw[h]at hr0;cases hr0),λi hi =>?_⟩
      have hin :i < n:=by
        rcases zR i n with h|h
        ·exact h
        · exfalso
          obtain⟨_,o,ho,_⟩ :=mem_ready.1 hi
          have his:i < ops.size:=(Array.getElem?_eq_some_iff.1 ho).1
          rcases(htp1 i his).resolve_left ze i1 hi1 with h2|h2
          · have h3:=xK hcl i (xW md ops i) (xA hi) i1 (List.contains_iff_mem.1 h2)
            rw[hu1]at h3;cases h3
          · rcases List.mem_append.1 (List.contains_iff_mem.1 h2)with h4|h4
            · have h3:=hT i1 h4
              rw[hu1]at h3;cases h3
            ·rw[List.contains_iff_mem.2 h4]at ho1;cases ho1
      obtain⟨hun,o,ho,_⟩ :=mem_ready.1 hi
      have hil:i < listed.size:=ze
      have hunf:listed.getD i false =false:=by simp[hil]at hun ⊢;exact hun
      refine wpOp_step ho λK hK =>?_
      refine hop.get i hin o ho v w hR (λj hj =>hΦ j ?_ ?_) K ?_
      · have hjl:=xK hcl i (xW md ops i) (xA hi) j (List.contains_iff_mem.1 hj)
        rcases zR j n with h|h
        ·exact h
        ·rw[hbig j h]at hjl;cases hjl
      ·exact xK hcl i (xW md ops i) (xA hi) j (List.contains_iff_mem.1 hj)
      · intro x w' hRw hx hbx'
        refine hK _ _ ?_
        have hdst:o.dst =xG ops i:=by simp[xG,ho]
        rw[hdst,layN_put a0 v i x n hin (λj k hj hk hjk =>jN hap hj hk hjk)]
        refine ih _ _ _ (by simp[hsz]) (λj hj =>?_) ?_ (λj hj e he =>?_) (hRt hR hRw) (λj hj =>getD_set_true (hT j hj)) (λj hj hlj =>?_) (λj k hj hk hjk hbj hbk hlj hlk =>?_)
        ·rw[getD_set_ne false (by omega)];exact hbig j hj
        ·rw[doneN_set _ _ hun,if_pos hin];omega
        · by_cases hij:i =j
          · subst hij
            exact getD_set_true (xA hi e he)
          · rw[getD_set_ne false hij]at hj
            exact getD_set_true (hcl j hj e he)
        · by_cases hij:j =i
          ·subst hij;simpa only[jD,if_true]using hx
          · rw[getD_set_ne false (Ne.symm hij)]at hlj
            simp only[jD];rw[if_neg hij]
            exact hst j hj _ _ _ hRw (hΦ j hj hlj)
        · simp only[jD]
          by_cases hji:j =i
          · subst hji
            rw[if_pos rfl,if_neg (Ne.symm hjk)]
            rw[getD_set_ne false hjk]at hlk
            obtain⟨g,hg,hlt⟩ :=hbx k hk hbk _ _ (hΦ k hk hlk)
            obtain⟨g',hg',hge⟩ :=hbx' hbj
            rw[hg,hg']
            intro h;injection h with h;injection h with h;injection h with h;omega
          · rw [if_neg hji]
            rw[getD_set_ne false (Ne.symm hji)]at hlj
            by_cases hki:k =i
            · subst hki
              rw[if_pos rfl]
              obtain⟨g,hg,hlt⟩ :=hbx j hj hbj _ _ (hΦ j hj hlj)
              obtain⟨g',hg',hge⟩ :=hbx' hbk
              rw[hg,hg']
              intro h;injection h with h;injection h with h;injection h with h;omega
            · rw[if_neg hki]
              rw[getD_set_ne false (Ne.symm hki)]at hlk
              exact hdis j k hj hk hjk hbj hbk hlj hlk
    ·exact late (fuel + 1) listed v w hsz hbig hcnt hcl hR hΦ hdis hall
theorem xF(size i:Nat):(Array.replicate size false)[i]?.getD false =false:=by
  rcases zR i size with h|h
  ·simp[h]
  ·simp[h]
def slotVal(ops:Array Oper)(a:Act)(i:Nat):Value:=match xG ops i with|some t =>a.tmps.getD t undef|none =>undef
def startOk(md:Region.Mode)(ops:Array Oper)(n:Nat)(T:List Nat)(fuel:Nat)(listed:Array Bool):Bool:=
  listed.size ==ops.size && ((List.range ops.size).all λj =>j < n || !listed.getD j false) && fuel + jC listed n ==ops.size &&
  ((List.range n).all λi => !listed.getD i false || (T.contains i && (xW md ops i).all λe =>listed.getD e false)) && T.all λi =>listed.getD i false
/-! ### The rule with the facts in a row -/
def Stb(p:Value ->World ->Prop):Prop:=∀x w w',Ext w w' ->p x w ->p x w'
def AllStb:List (Value ->World ->Prop) ->Prop
  | [] =>True
  |p ::ps =>Stb p/\AllStb ps
class StbC (fP:Value ->World ->Prop):Prop where out:Stb fP
class AStb (L:List (Value ->World ->Prop)):Prop where out:AllStb L
instance:AStb [] :=⟨trivial⟩
instance {fP:Value ->World ->Prop} {L:List (Value ->World ->Prop)} [StbC fP] [AStb L]:AStb (fP ::L) :=⟨zL StbC.out AStb.out⟩
theorem AllStb.get:∀ {L:List (Value ->World ->Prop)},AllStb L ->∀i,Stb (L.getD i (λ_ _ =>True))
  | [],_,i =>λ_ _ _ _ _ =>by simp
  |p ::ps,h,0 =>by simpa using h.1
  |p ::ps,h,i + 1 =>by simpa using AllStb.get h.2 i
def IsBox(p:Value ->World ->Prop):Prop:=∀x w,p x w ->∃g,x =.pointer (some ⟨g,0,none⟩)/\g < w.heap.size
def FreshIf(b:Bool)(x:Value)(w:World):Prop:=b =true ->∃g,x =.pointer (some ⟨g,0,none⟩)/\w.heap.size <=g
theorem FreshIf.no{b:Bool}{x:Value}{w:World}(h:b =false):FreshIf b x w:=λh' =>by rw[h]at h';cases h'
theorem FreshIf.yes{b:Bool}{w:World}:FreshIf b (.pointer (some ⟨w.heap.size,0,none⟩)) w:=λ_ =>⟨_,rfl,zN _⟩
def RgL(P:Program)(md:Region.Mode)(ops:Array Oper)(Q:Exit ->Act ->World ->Prop)(ds:List (Option Tmp))(a0:Act)(w0:World)(L:List (Value ->World ->Prop))(boxes:List Nat)(i:Nat)(o:Oper):Prop:=
  ∀ (v:Nat ->Value) (w:World),Ext w0 w ->(∀j,(ups md ops i).contains j =true ->L.getD j (λ_ _ =>True) (v j) w) ->
    ∀K:Act ->World ->Prop,Shut (∀x w',Ext w w' ->L.getD i (λ_ _ =>True) x w' ->FreshIf (boxes.contains i) x w ->K ((xZ v a0 0 ds).put o.dst x) w') ->
    if Region.wanted o (yielded ops (xZ v a0 0 ds).tmps)=true then Oper.wp P o (xZ v a0 0 ds) w K Q else K ((xZ v a0 0 ds).put o.dst undef) w
def RgAll(P:Program)(md:Region.Mode)(ops:Array Oper)(Q:Exit ->Act ->World ->Prop)(ds:List (Option Tmp))(a0:Act)(w0:World)(L:List (Value ->World ->Prop))(boxes:List Nat):Nat ->Nat ->List Oper ->Prop
  |_,0,_ =>True
  |_,_ + 1, [] =>True
  |i,k + 1,o ::os =>RgL P md ops Q ds a0 w0 L boxes i o/\RgAll P md ops Q ds a0 w0 L boxes (i + 1) k os
theorem RgAll.get{ds:List (Option Tmp)}{a0:Act}{w0:World}{L:List (Value ->World ->Prop)}{boxes:List Nat}:
    ∀(k i:Nat) (os:List Oper),RgAll P md ops Q ds a0 w0 L boxes i k os ->∀j,j < k ->∀o,os[j]? =some o ->RgL P md ops Q ds a0 w0 L boxes (i + j) o
  |0,_,_,_,j,h,_,_ =>by omega
  |_ + 1,_, [],_,_,_,_,ho =>by simp at ho
  |k + 1,i,o ::os,h,0,_,o',ho =>by simp at ho;subst ho;exact h.1
  | k + 1,i,o ::os,h,j + 1,hj,o',ho =>by
    have:=RgAll.get k (i + 1) os h.2 j ze o' xf
    rwa [show i + (j + 1)=i + 1 + j by omega]
theorem RgAll.nil{ds:List (Option Tmp)}{a0:Act}{w0:World}{L:List (Value ->World ->Prop)}{boxes:List Nat}{i:Nat}{os:List Oper}:RgAll P md ops Q ds a0 w0 L boxes i 0 os:=by
  cases os <;> trivial
theorem rn0{ds:List (Option Tmp)}{a0:Act}{w0:World}{L:List (Value ->World ->Prop)}{boxes:List Nat}{i:Nat}{os:List Oper}:RgAll P md ops Q ds a0 w0 L boxes i 0 os:=RgAll.nil
theorem wpAny_rgO(n:Nat)(T opt:List Nat)(ds:List (Option Tmp))(L:List (Value ->World ->Prop))(boxes:List Nat)(fuel:Nat){f0:Nat}{listed:Array Bool}{a0:Act}{w0:World}
    (hok:startOk .any ops n T f0 listed =true) (hn:n <=ops.size) (hf:ops.size - n =fuel) (hds:(List.range n).map (xG ops)=ds) (hap:xJ ops n =true) (htp:jG .any ops n (T ++opt)=true) (hoo:optOk .any ops n opt =true)
    (hst:AllStb L) (hbx:∀i∈boxes,IsBox (L.getD i (λ_ _ =>True))) (hTb:T.all (λi => !boxes.contains i)=true)
    (hT:∀i∈T,L.getD i (λ_ _ =>True) (slotVal ops a0 i) w0)
    (hY:∀i∈opt,boxes.contains i =false/\ (∀c a d v w,Q (.panic c) (Act.put a d v) w ->Q (.panic c) a w)/\
      ∀(v:Nat ->Value) (w:World),Ext w0 w ->(∀j,(ups .any ops i).contains j =true ->L.getD j (λ_ _ =>True) (v j) w) ->∃x o,ops[i]? =some o/\Yields P ops o x (xZ v a0 0 ds)/\L.getD i (λ_ _ =>True) x w)
    (hop:RgAll P .any ops Q ds a0 w0 L boxes 0 n ops.toList)
    (hend:∀v w,Ext w0 w ->(∀i,i < n ->L.getD i (λ_ _ =>True) (v i) w) ->(∀i j,i∈boxes ->j∈boxes ->i < n ->j < n ->i≠j ->v i≠v j) ->
      wpAny P .any ops Q fuel (qU ops.size n) (xZ v a0 0 ds) w) :
    wpAny P .any ops Q f0 listed a0 w0:=by
  simp only[startOk,Bool.and_eq_true,List.all_eq_true,List.mem_range,Bool.or_eq_true,zS,beq_iff_eq,Bool.not_eq_true']at hok
  obtain⟨⟨⟨⟨hsz,hbig⟩,hcnt⟩,hcl⟩,hTl⟩ :=hok
  have hout:∀j,n <=j ->listed.getD j false =false:=λj hj =>by
    rcases zR j ops.size with h|h
    ·exact(hbig j h).resolve_left ze
    ·simp[hsz,h]
  have key:∀m,m <=n ->AllOps (λi =>∀o,ops[i]? =some o ->RgOp P .any ops Q n a0 w0 Ext (λi =>L.getD i (λ_ _ =>True)) boxes i o) m:=by
    intro m
    induction m with
    |zero =>intro _;trivial
    | succ m ih =>
      intro hm
      refine⟨ih ze,λo ho v w hR hd K hK =>?_⟩
      have:=RgAll.get n 0 ops.toList hop m ze o xf
      rw[Nat.zero_add]at this
      have:=this v w hR hd K
      rw[<-xT v a0 n ds hds]at this
      exact this hK
  have :=rg_main n T opt Ext (λi =>L.getD i (λ_ _ =>True)) boxes (w0:=w0) (a0:=a0) hn hap htp hoo
    (λi hi =>⟨(hY i hi).1,(hY i hi).2.1,λv w hR hd =>by rw[xT v a0 n ds hds];exact(hY i hi).2.2 v w hR hd⟩) (λh k =>h.trans k) (λi _ =>hst.get i)
    (λi _ hi =>hbx i (List.contains_iff_mem.1 hi)) (key n (zN _))
    (fun v w hR hΦ hne =>by
      rw[xT v a0 n ds hds,hf]
      exact hend v w hR hΦ (λi j hi hj hin hjn hij =>hne i j hin hjn hij (List.contains_iff_mem.2 hi) (List.contains_iff_mem.2 hj)))
    f0 listed (slotVal ops a0) w0 hsz hout hcnt
    (fun i hi e he =>by
      rcases zR i n with h|h
      · rcases hcl i h with h1|h1
        ·rw[hi]at h1;cases h1
        ·exact h1.2 e he
      ·rw[hout i h]at hi;cases hi)
    (Ext.refl _) hTl
    (fun i hi h =>by
      rcases hcl i hi with h1|h1
      ·rw[h]at h1;cases h1
      ·exact hT i (List.contains_iff_mem.1 h1.1))
    (fun i j hi _ _ hbi _ hli _ =>by
      rcases hcl i hi with h1|h1
      ·rw[hli]at h1;cases h1
      · simp only[List.all_eq_true,Bool.not_eq_true']at hTb
        rw[hTb i (List.contains_iff_mem.1 h1.1)]at hbi;cases hbi)
  have hlay:jV ops (slotVal ops a0) a0 n =a0:=layN_self a0 n
  rwa [hlay]at this
theorem wpAny_rgT(n:Nat)(T:List Nat)(ds:List (Option Tmp))(L:List (Value ->World ->Prop))(boxes:List Nat)(fuel:Nat){f0:Nat}{listed:Array Bool}{a0:Act}{w0:World}
    (hok:startOk .any ops n T f0 listed =true) (hn:n <=ops.size) (hf:ops.size - n =fuel) (hds:(List.range n).map (xG ops)=ds) (hap:xJ ops n =true) (htp:jG .any ops n T =true) (hns:Region.noSelect ops =true)
    (hst:AllStb L) (hbx:∀i∈boxes,IsBox (L.getD i (λ_ _ =>True))) (hTb:T.all (λi => !boxes.contains i)=true)
    (hT:∀i∈T,L.getD i (λ_ _ =>True) (slotVal ops a0 i) w0)
    (hop:RgAll P .any ops Q ds a0 w0 L boxes 0 n ops.toList)
    (hend:∀v w,Ext w0 w ->(∀i,i < n ->L.getD i (λ_ _ =>True) (v i) w) ->(∀i j,i∈boxes ->j∈boxes ->i < n ->j < n ->i≠j ->v i≠v j) ->
      wpAny P .any ops Q fuel (qU ops.size n) (xZ v a0 0 ds) w) :
    wpAny P .any ops Q f0 listed a0 w0:=
  wpAny_rgO n T [] ds L boxes fuel hok hn hf hds hap (by rw[List.append_nil];exact htp) (by simp[optOk,hns]) hst hbx hTb hT zo hop hend
theorem wp_region_rg(n:Nat)(ds:List (Option Tmp))(L:List (Value ->World ->Prop))(boxes:List Nat)(fuel:Nat){a0:Act}{w0:World}{id:Nat}
    (hm:P.follows .mixedOrders =true) (hn:n <=ops.size) (hf:ops.size - n =fuel) (hds:(List.range n).map (xG ops)=ds) (hap:xJ ops n =true) (htp:jG .any ops n []=true) (hns:Region.noSelect ops =true)
    (hst:AllStb L) (hbx:∀i∈boxes,IsBox (L.getD i (λ_ _ =>True)))
    (hop:RgAll P .any ops Q ds a0 w0 L boxes 0 n ops.toList)
    (hend:∀v w,Ext w0 w ->(∀i,i < n ->L.getD i (λ_ _ =>True) (v i) w) ->(∀i j,i∈boxes ->j∈boxes ->i < n ->j < n ->i≠j ->v i≠v j) ->
      wpAny P .any ops Q fuel (qU ops.size n) (xZ v a0 0 ds) w) :
    (Code.region id ops true).wp P Q a0 w0:=by
  refine wp_region_any hm ?_
  have hE:Ext w0 w0.drew:=(Ext.refl w0).drew
  have hD:∀m,jC (Array.replicate ops.size false) m =0:=λm =>by
    unfold jC
    rw[List.countP_eq_zero.2]
    intro i _
    simp[xF]
  refine wpAny_rgT n [] ds L boxes fuel ?_ hn hf hds hap htp hns hst hbx zo zo ?_ (λv w hR =>hend v w (hE.trans hR))
  ·simp[startOk,hD,xF]
  · have key:∀(k i:Nat) (os:List Oper),RgAll P .any ops Q ds a0 w0 L boxes i k os ->RgAll P .any ops Q ds a0 w0.drew L boxes i k os:=by
      intro k
      induction k with
      |zero =>intro i os _;cases os <;> trivial
      | succ k ih =>
        intro i os h
        cases os with
        |nil =>trivial
        |cons o os =>exact⟨λv w hR =>h.1 v w (hE.trans hR),ih _ _ h.2⟩
    exact key n 0 ops.toList hop
end
/-! ### Facts -/
def IsV(u:Value):Value ->World ->Prop:=λx _ =>x =u
abbrev IsP(g o:Nat):=IsV (.pointer (some ⟨g,o,none⟩))
abbrev iV(z:Int):Value->World->Prop:=IsV (.int .i64 z)
def IsI(k:Nat)(z:Int):Value ->World ->Prop:=λx w =>∃s a n c,x =.agg #[.bool s,.slice a n c]/\IntAt w k s a n c z
theorem IsV.stb(u:Value):Stb (IsV u) :=λ_ _ _ _ h =>h
instance (u:Value):StbC (IsV u) :=⟨IsV.stb u⟩
theorem IsI.stb(k:Nat)(z:Int):Stb (IsI k z) :=λ_ _ _ e ⟨s,a,n,c,h1,h2⟩ =>⟨s,a,n,c,h1,h2.ext e⟩
instance (k:Nat) (z:Int):StbC (IsI k z) :=⟨IsI.stb k z⟩
theorem Kq.bx{w w':World}{L:List (Nat×List Value)}(h:Kq w w' L)(b:Nat)(s:Bool)(a:Option Addr)(n c:Nat)(hi:(b, [.bool s,.slice a n c])∈L):Bx w' b s a n c:=
  ⟨h.cell b 0 _ _ hi rfl,h.cell b 1 _ _ hi rfl,h.free b 0 _ hi,h.free b 1 _ hi⟩
theorem Bx.put{w:World}{g n c:Nat}{s:Bool}{a:Option Addr}(b:Bx w g s a n c)(s':Bool)(a':Option Addr)(n' c':Nat):
    ∃ W,W =(w.setCell ⟨g,0,none⟩ (.bool s')).setCell ⟨g,1,none⟩ (.slice a' n' c')/\Bx W g s' a' n' c'/\
      (∀ {g2 s2 a2 n2 c2},g2≠g ->Bx w g2 s2 a2 n2 c2 ->Bx W g2 s2 a2 n2 c2)/\Gr w W/\ (∀ {w0:World},Ext w0 w ->w0.heap.size <=g ->Ext w0 W) :=by
  refine⟨_,rfl,⟨?_,?_,?_,?_⟩,λhg b2 =>⟨?_,?_,?_,?_⟩,?_,λe hg =>(e.set hg _).set hg _⟩
  ·rw[World.cell?_setCell_other _ _ _ _ (by simp),World.cell?_setCell_same _ _ _ b.c0]
  · refine World.cell?_setCell_same _ _ _ (u:=.slice a n c) ?_
    rw[World.cell?_setCell_other _ _ _ _ (by simp)];exact b.c1
  ·simp[b.f0]
  ·simp[b.f1]
  ·rw[World.cell?_setCell_far _ _ _ _ (Ne.symm hg),World.cell?_setCell_far _ _ _ _ (Ne.symm hg)];exact b2.c0
  ·rw[World.cell?_setCell_far _ _ _ _ (Ne.symm hg),World.cell?_setCell_far _ _ _ _ (Ne.symm hg)];exact b2.c1
  ·simp[b2.f0]
  ·simp[b2.f1]
  · refine((Gr.refl w).set b.c0 (NoWord.bool _) _).set (p:=⟨g,1,none⟩) (u:=.slice a n c) ?_ (NoWord.slice _ _ _) _
    rw[World.cell?_setCell_other _ _ _ _ (by simp)];exact b.c1
end Go.Proofs.YtenhciieboegbaaGreatDoor
