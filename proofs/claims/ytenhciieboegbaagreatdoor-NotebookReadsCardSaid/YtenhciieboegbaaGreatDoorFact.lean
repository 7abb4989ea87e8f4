/-
  Rows that a call makes by append, of elements of any size: reading, keeping, and the append itself.
  Integers of package integer: Add, Sub, Of. Every integer of at most 2^28 words. Integers of package integer: Of. Every int64.
  Integers of package integer: DivMod. Every two integers of at most 2^28 words, the divisor not 0. Integers of package integer: DivMod by 0. No condition. Integers of package integer: mod. Every two integers of at most 2^27 words, the divisor not 0. Integers of package integer: Gcd. Every two integers of at most 2^27 words.
  The arithmetic of Bezout's loop. No condition. Boxes of integers that are written one after another. No condition.
  Integers of package integer: Cmp. Every two integers of at most 2^28 words. Integers of package integer: Pow. Every integer of at most 2^28 words, every int as an exponent.
  Contracts with facts on values: what a call hands back, as a value that represents an integer. No condition beyond those of the contracts. Plain laws for roots: Newton's step from above. No condition. The rule of XRg for a region whose operations run in the order of the text. No condition on the program.
-/
import Derived.Maps.AppendAt
import Derived.RangeFuncBox
import Derived.Test.YtenhciieboegbaaGreatDoorBase
import Derived.Test.YtenhciieboegbaaGreatDoorRg
import Derived.Test.YtenhciieboegbaaGreatDoorInt1
namespace Go.Proofs.YtenhciieboegbaaGreatDoor
open Go Go.RowKit
abbrev zG:=@Calls.mono
theorem Ext.heap'{w w':World}(e:Ext w w'){g:Nat}{o:Obj}(h:w.heap[g]? =some o):w'.heap[g]? =some o:=(e.block g (Array.getElem?_eq_some_iff.1 h).1).trans h
def Rwg(e k base:Nat)(w:World)(v:Value)(n:Nat)(xs:List Value):Prop:=w.ownsRow base e k v n xs
theorem Rwg.nil(e k base:Nat)(w:World):Rwg e k base w (.slice none 0 0) 0 [] :=⟨by simp,.inl ⟨rfl,rfl⟩⟩
theorem Rwg.ext{e k base n:Nat}{w w':World}{v:Value}{xs:List Value}(h:Rwg e k base w v n xs)(E:Ext w w'):Rwg e k base w' v n xs:=by
  obtain⟨h1,h2| ⟨g,cap,cur,hv,hb,hg,hr⟩⟩ :=h
  ·exact⟨h1,.inl h2⟩
  ·exact⟨h1,.inr ⟨g,cap,cur,hv,hb,E.heap' hg,hr⟩⟩
theorem Rwg.shape{e k base n:Nat}{w:World}{v:Value}{xs:List Value}(h:Rwg e k base w v n xs):∃ao cap,v =.slice ao n cap/\n <=cap/\cap <=9223372036854775807/\xs.length =n * k/\
    (n≠0 ->∃g,ao =some ⟨g,0,none⟩/\base <=g/\g < w.heap.size/\∀j u,xs[j]? =some u ->w.cell? ⟨g,j,none⟩=some u) :=by
  obtain⟨h1,⟨h2,h3⟩| ⟨g,cap,cur,hv,hb,hg,hn,hc,hsz,ht⟩⟩ :=h
  · subst h3
    exact⟨none,0,h2,zN _,by decide,h1,λh =>absurd rfl h⟩
  · refine⟨_,cap,hv,hn,hc,h1,λ_ =>⟨g,rfl,hb,(Array.getElem?_eq_some_iff.1 hg).1,λj u hj =>?_⟩⟩
    have hjl:j < xs.length:=(List.getElem?_eq_some_iff.1 hj).1
    simp only[World.cell?];rw[hg]
    show cur[j]? =some u
    rw[<-ht,List.getElem?_take,if_pos (by omega)]at hj
    simpa using hj
theorem wpl_rwg{P:Program}{w:World}{ops:Array Oper}{rest:List Oper}{o:Oper}{a:Act}{Q:Exit ->Act ->World ->Prop}(hgd:o.guard =none)(s x:Operand)(t:TypeId)
    (ho:o.op =.call {callee:=.builtin .append,args:= #[s,x],argTypes:= #[t,t]}) (base e:Nat) (z:Value) (k bytes:Nat) (ht:P.underlying t =some (.slice e)) (hinfo:(P.info? e).map (λi =>(i.zero,i.size,i.bytes))=some (some z,k,bytes))
    (hzs:z.cells.size =k) (hk:0 < k) (v:Value) (n:Nat) (xs:List Value) (hs:a.eval s =v) (hown:Rwg e k base w v n xs) (g m c:Nat) (news:List Value) (hx:a.eval x =.slice (some ⟨g,0,none⟩) m c) (hl:news.length =m * k)
    (hnews:∀j u,news[j]? =some u ->w.cell? ⟨g,j,none⟩=some u) (h1:∀u∈news,u.oneCell' =true) (h63:n + m <=140737488355328) (hbytes:(n + m) * bytes <=140737488355328) (hbase:base <=w.heap.size)
    (h:∀v' w',Rwg e k base w' v' (n + m) (xs ++news) ->w.grownBy w' v.ownBlock ->Below base w w' ->wpList P ops Q rest (a.put o.dst v') w') :
    wpList P ops Q (o ::rest) a w:=by
  obtain⟨i,hi,hz0,hz1,hz2⟩ :=info_parts hinfo
  refine wpList_append_own_at w hgd s x t ho base e i z k bytes ht hi hz0 hz1 hz2 hzs hk v n xs hs hown ⟨g,0,none⟩ m c news hx hl (λj u hj =>by cases j <;> simpa [Addr.add]using hnews _ u hj) h1 (by unfold maxLen;omega) hbytes hbase ?_
  intro v' w' h2 h3 _ _
  refine h v' w' h2 h3 ((Below.refl base w).grown h3 hbase λb hb =>?_)
  obtain⟨_,⟨hv,_⟩| ⟨g,cap,cur,hv,hb2,_⟩⟩ :=hown
  ·rw[hv]at hb;cases hb
  ·rw[hv]at hb;cases hb;exact hb2
theorem cells_new(w:World)(cs:Array Value)(t:Nat):∀j u,cs.toList[j]? =some u ->(w.alloc (.cells cs t)).cell? ⟨w.heap.size,j,none⟩=some u:=by
  intro j u hj
  simp only[World.cell?]
  have:(w.alloc (.cells cs t)).heap[w.heap.size]? =some (.cells cs t) :=by show(w.heap.push _)[w.heap.size]? =_;simp
  rw[this]
  show cs[j]? =some u
  simpa using hj
theorem cells_newE(w:World)(cs:Array Value)(t g:Nat)(hg:w.heap.size =g):∀j u,cs.toList[j]? =some u ->(w.alloc (.cells cs t)).cell? ⟨g,j,none⟩=some u:=by subst hg;exact cells_new w cs t
def zF:World ->Nat ->Nat ->List Value ->World
  |W,_,_, [] =>W
  |W,b,j,v ::vs =>zF (W.setCell ⟨b,j,none⟩ v) b (j + 1) vs
theorem setL_other:∀(vs:List Value) (W:World) (b j:Nat) (p:Addr),(p.block≠b\/ (p =⟨b,p.off,none⟩/\p.off < j)) ->World.cell? (zF W b j vs) p =World.cell? W p
  | [],_,_,_,_,_ =>rfl
  | v ::vs,W,b,j,p,h =>by
    unfold zF
    rw[setL_other vs _ b (j + 1) p (h.imp id λ⟨h1,h2⟩ =>⟨h1,by omega⟩)]
    refine World.cell?_setCell_other _ _ _ _ ?_
    rintro rfl
    rcases h with h| ⟨_,h⟩
    ·exact h rfl
    ·exact Nat.lt_irrefl _ h
theorem setL_frozen:∀(vs:List Value) (W:World) (b j:Nat) (p:Addr),World.frozen? (zF W b j vs) p =World.frozen? W p
  | [],_,_,_,_ =>rfl
  | v ::vs,W,b,j,p =>by
    unfold zF
    rw[setL_frozen vs,World.frozen?_setCell]
theorem setL_cell:∀(vs:List Value) (W:World) (b j:Nat),(∀i,i < vs.length ->(World.cell? W ⟨b,j + i,none⟩).isSome) ->∀(i:Nat) (v:Value),vs[i]? =some v ->World.cell? (zF W b j vs) ⟨b,j + i,none⟩=some v
  | [],_,_,_,_,i,v,h =>by simp at h
  | u :: vs,W,b,j,hs,i,v,h =>by
    unfold zF
    cases i with
    | zero =>
      simp at h
      subst h
      rw[setL_other vs _ b (j + 1) ⟨b,j + 0,none⟩ (.inr ⟨rfl,by simp⟩)]
      exact World.cell?_setCell_same' _ _ _ (hs 0 zo)
    | succ i =>
      simp at h
      have:=setL_cell vs (W.setCell ⟨b,j,none⟩ u) b (j + 1) (λk hk =>?_) i v h
      ·rw[show j + (i + 1)=j + 1 + i by omega];exact this
      · rw[World.cell?_setCell_other _ _ _ _ (by intro e;injection e with e1 e2;omega)]
        have:=hs (k + 1) jv
        rwa [show j + (k + 1)=j + 1 + k by omega]at this
theorem setL_below:∀(vs:List Value) (W w:World) (b j base:Nat),Below base w W ->base <=b ->Below base w (zF W b j vs)
  | [],_,_,_,_,_,h,_ =>h
  | v ::vs,W,w,b,j,base,h,hb =>by
    unfold zF
    exact setL_below vs _ w b (j + 1) base (h.setCell (p:=⟨b,j,none⟩) hb v) hb
theorem setL_gr:∀(vs:List Value) (W:World) (b j:Nat),(∀i,i < vs.length ->∃u,World.cell? W ⟨b,j + i,none⟩=some u/\NoWord u) ->Gr W (zF W b j vs)
  | [],W,_,_,_ =>Gr.refl W
  | v ::vs,W,b,j,h =>by
    unfold zF
    obtain⟨u,hu,hn⟩ :=h 0 zo
    refine((Gr.refl W).set (p:=⟨b,j,none⟩) hu hn v).trans (setL_gr vs _ b (j + 1) λi hi =>?_)
    obtain⟨u,hu,hn⟩ :=h (i + 1) jv
    refine⟨u,?_,hn⟩
    rw[World.cell?_setCell_other _ _ _ _ (by intro e;injection e with e1 e2;omega),show j + 1 + i =j + (i + 1)by omega]
    exact hu

theorem wd_new2(w:World)(a b:Nat)(ha:a < 4294967296)(hb:b < 4294967296):Wd (w.alloc (.cells #[.int .u32 (a:Nat),.int .u32 (b:Nat)] 97)) (some ⟨w.heap.size,0,none⟩) 2 2 [a,b] :=by
  have ho:Own (w.alloc (.cells #[.int .u32 (a:Nat),.int .u32 (b:Nat)] 97)) w.heap.size [a,b] :=by
    show(w.heap.push _)[w.heap.size]? =_
    simp[qL]
  have:=ho.wd (λi =>by match i with|0 =>simpa using ha|1 =>simpa using hb|i + 2 =>simp) 2 zo ze
  simpa using this
theorem of_val(n:Int)(v a b:Nat)(hv:v =n.natAbs)(ha:a =v % 4294967296)(hb:b =v / 4294967296):n =if decide (n < 0)then -(qF [a,b]:Int)else qF [a,b] :=by
  have:qF [a,b]=v:=by simp only[qF];omega
  rw[this]
  by_cases h:n < 0 <;> simp[h] <;> omega
theorem IntAt.tight{w:World}{k k' n cap:Nat}{s:Bool}{ao:Option Addr}{z:Int}(h:IntAt w k s ao n cap z)(hz:z.natAbs < 4294967296 ^ k'):IntAt w k' s ao n cap z:=by
  obtain⟨m,h1,h2,h3⟩ :=h
  exact⟨m,h1.tight (by rw[h3]at hz;cases s <;> simpa using hz),h2,h3⟩
theorem IntAt.zero_iff{w:World}{k n cap:Nat}{s:Bool}{ao:Option Addr}{z:Int}(h:IntAt w k s ao n cap z):z =0 ↔ n =0:=by
  obtain⟨m,h1,h2,h3⟩ :=h
  rw[<-h1.zero,h3]
  cases s <;> simp
theorem IntAt.neg_iff{w:World}{k n cap:Nat}{s:Bool}{ao:Option Addr}{z:Int}(h:IntAt w k s ao n cap z):z < 0 ↔ s =true:=by
  have hz:=h.zero_iff
  obtain⟨m,h1,h2,h3⟩ :=h
  cases s
  ·simp[h3]
  · have:n≠0:=λh0 =>by have:=h2 h0;cases this
    simp only[iff_true]
    have h4:z≠0:=λh5 =>this (hz.1 h5)
    simp at h3;omega




def Pt(g:Nat)(w w':World):Prop:=
  (∀g2 s a n c,g2≠g ->Bx w g2 s a n c ->Bx w' g2 s a n c)/\Gr w w'/\ (∀w0:World,Ext w0 w ->w0.heap.size <=g ->Ext w0 w')
theorem IntAt.pt{g k n c:Nat}{s:Bool}{a:Option Addr}{z:Int}{w w':World}(h:IntAt w k s a n c z)(p:Pt g w w'):IntAt w' k s a n c z:=h.gr p.2.1
theorem Ext.pt{w0 w w':World}{g:Nat}(e:Ext w0 w)(p:Pt g w w')(hg:w0.heap.size <=g):Ext w0 w':=p.2.2 _ e hg
theorem Bx.put'{w:World}{g n c:Nat}{s:Bool}{a:Option Addr}(b:Bx w g s a n c)(s':Bool)(a':Option Addr)(n' c':Nat):
    ∃W,W =(w.setCell ⟨g,0,none⟩ (.bool s')).setCell ⟨g,1,none⟩ (.slice a' n' c')/\Bx W g s' a' n' c'/\Pt g w W:=by
  obtain⟨W,h1,h2,h3,h4,h5⟩ :=b.put s' a' n' c'
  exact⟨W,h1,h2,λ_ _ _ _ _ hg h =>h3 hg h,h4,λ_ e hg =>h5 e hg⟩
theorem IntAt.nil(w:World)(k:Nat):IntAt w k false none 0 0 0:=IntAt.zero.mono ze
theorem kq20(w:World)(s1 s2:Bool)(a1 a2:Option Addr)(n1 n2 c1 c2:Nat):
    ∃ W,W =(w.alloc (.cells #[.bool s1,.slice a1 n1 c1] 29)).alloc (.cells #[.bool s2,.slice a2 n2 c2] 29)/\
      Kq w W [(w.heap.size + 1, [.bool s2,.slice a2 n2 c2]),(w.heap.size, [.bool s1,.slice a1 n1 c1])] :=by
  refine⟨_,rfl,?_⟩
  have:=((Kq.start w).alloc [.bool s1,.slice a1 n1 c1] 29).alloc [.bool s2,.slice a2 n2 c2] 29
  simpa using this

def Ret(w:World)(fP:Value ->World ->Prop)(e:Ending)(w':World):Prop:=∃x,e =.returned x/\Ext w w'/\fP x w'
def IsT2(fP fR:Value ->World ->Prop):Value ->World ->Prop:=λx w =>∃a b,x =.tuple #[a,b]/\fP a w/\fR b w
def IsT3(fP fR fQ:Value ->World ->Prop):Value ->World ->Prop:=λx w =>∃a b c,x =.tuple #[a,b,c]/\fP a w/\fR b w/\fQ c w
theorem IsT2.stb{fP fR:Value ->World ->Prop}(h:Stb fP)(k:Stb fR):Stb (IsT2 fP fR) :=λ_ _ _ e ⟨a,b,h1,h2,h3⟩ =>⟨a,b,h1,h _ _ _ e h2,k _ _ _ e h3⟩
instance {fP fR:Value ->World ->Prop} [StbC fP] [StbC fR]:StbC (IsT2 fP fR) :=⟨IsT2.stb StbC.out StbC.out⟩
theorem IsT3.stb{fP fR fQ:Value ->World ->Prop}(h:Stb fP)(k:Stb fR)(l:Stb fQ):Stb (IsT3 fP fR fQ) :=λ_ _ _ e ⟨a,b,c,h1,h2,h3,h4⟩ =>⟨a,b,c,h1,h _ _ _ e h2,k _ _ _ e h3,l _ _ _ e h4⟩
instance {fP fR fQ:Value ->World ->Prop} [StbC fP] [StbC fR] [StbC fQ]:StbC (IsT3 fP fR fQ) :=⟨IsT3.stb StbC.out StbC.out StbC.out⟩
def GStb(fP:Value ->World ->Prop):Prop:=∀x w w',Gr w w' ->fP x w ->fP x w'
theorem GStb.stb{fP:Value ->World ->Prop}(h:GStb fP):Stb fP:=λx _ _ e hx =>h x _ _ e.gr hx
theorem IsI.gstb(k:Nat)(z:Int):GStb (IsI k z) :=λ_ _ _ e ⟨s,a,n,c,h1,h2⟩ =>⟨s,a,n,c,h1,h2.gr e⟩
theorem IsI.ext{k:Nat}{z:Int}{x:Value}{w w':World}(h:IsI k z x w)(e:Ext w w'):IsI k z x w':=(IsI.stb k z) _ _ _ e h
theorem IsI.nil(w:World)(k:Nat):IsI k 0 (.agg #[.bool false,.slice none 0 0]) w:=⟨_,_,_,_,rfl,IntAt.nil w k⟩
theorem IsI.mono{k k':Nat}{z:Int}{x:Value}{w:World}(h:IsI k z x w)(hk:k <=k'):IsI k' z x w:=
  let ⟨s,a,n,c,h1,h2⟩ :=h;⟨s,a,n,c,h1,h2.mono hk⟩
def IsR(s:Bool)(xs:List Nat):Value ->World ->Prop:=λx w =>∃a n c,x =.agg #[.bool s,.slice a n c]/\Wd w a n c xs
theorem IsR.gstb(s:Bool)(xs:List Nat):GStb (IsR s xs) :=λ_ _ _ e ⟨a,n,c,h1,h2⟩ =>⟨a,n,c,h1,h2.gr e⟩
theorem IsR.stb(s:Bool)(xs:List Nat):Stb (IsR s xs) :=(IsR.gstb s xs).stb
instance (s:Bool) (xs:List Nat):StbC (IsR s xs) :=⟨IsR.stb s xs⟩
/-! ### The contracts in this form -/
theorem RInt.ret{w:World}{k:Nat}{z:Int}{e:Ending}{w':World}(h:RInt w k z e w'):Ret w (IsI k z) e w':=
  let ⟨s,a,n,c,h1,h2,h3⟩ :=h;⟨_,h1,h2,s,a,n,c,rfl,h3⟩
theorem RVal.ret{w:World}{v:Value}{e:Ending}{w':World}(h:RVal w v e w'):Ret w (IsV v) e w':=⟨_,h.1,h.2,rfl⟩
theorem Bits_f{k1:Nat}{z1:Int}{x:Value}{w:World}(hx:IsI k1 z1 x w)(l1:k1 <=268435456):Calls Tryz.prog 99 #[x] w (Ret w (iV (bitLen z1.natAbs:Nat))) :=by
  obtain⟨s,a,n,c,rfl,h1⟩ :=hx
  exact zG (Bits_c w s a n c k1 z1 h1 l1) λ_ _ h =>h.ret

section
variable {P:Program} {ops:Array Oper} {Q:Exit ->Act ->World ->Prop}
theorem wp_list_rg(n:Nat)(L:List (Value ->World ->Prop))(boxes:List Nat){a0:Act}{w0:World}(ds:List (Option Tmp))
    (hn:n <=ops.size) (hds:(List.range n).map (xG ops)=ds) (hap:xJ ops n =true) (htp2:∀i,i < n ->∀e∈xW .any ops i,e < i)
    (hst:AllStb L) (hbx:∀i∈boxes,IsBox (L.getD i (λ_ _ =>True)))
    (hop:RgAll P .any ops Q ds a0 w0 L boxes 0 n ops.toList)
    (hend:∀v w,Ext w0 w ->(∀i,i < n ->L.getD i (λ_ _ =>True) (v i) w) ->(∀i j,i∈boxes ->j∈boxes ->i < n ->j < n ->i≠j ->v i≠v j) ->
      wpList P ops Q (ops.toList.drop n) (xZ v a0 0 ds) w) :
    ∀ (m k:Nat) (v:Nat ->Value) (w:World),k + m =n ->Ext w0 w ->(∀i,i < k ->L.getD i (λ_ _ =>True) (v i) w) ->
      (∀i j,i < k ->j < k ->i≠j ->i∈boxes ->j∈boxes ->v i≠v j) ->wpList P ops Q (ops.toList.drop k) (jV ops v a0 n) w:=by
  intro m
  induction m with
  | zero =>
    intro k v w hk hR hΦ hd
    obtain rfl:k =n:=ze
    rw[xT v a0 k ds hds]
    exact hend v w hR hΦ (λi j hi hj hin hjn hij =>hd i j hin hjn hij hi hj)
  | succ m ih =>
    intro k v w hk hR hΦ hd
    have hks:k < ops.size:=ze
    have ho:ops[k]? =some ops[k] :=by simp[hks]
    have hdrop:ops.toList.drop k =ops[k] ::ops.toList.drop (k + 1) :=by
      rw[List.drop_eq_getElem_cons (show k < ops.toList.length by rw[Array.length_toList];exact hks)];simp
    rw[hdrop]
    refine wpList_step λK hK =>?_
    have h1:=RgAll.get n 0 ops.toList hop k ze ops[k] zo
    rw[Nat.zero_add]at h1
    have h2:=h1 v w hR (λj hj =>?_) K
    · rw [<- xT v a0 n ds hds]at h2
      refine h2 ?_
      intro x w' hE hx hf
      refine hK _ _ ?_
      have hdst:(ops[k]).dst =xG ops k:=by simp[xG,ho]
      rw[hdst,layN_put a0 v k x n (by omega) (λi j hi hj hij =>jN hap hi hj hij)]
      refine ih (k + 1) _ w' ze (hR.trans hE) (λi hi =>?_) (λi j hi hj hij hbi hbj =>?_)
      · by_cases hik:i =k
        ·subst hik;simpa only[jD,if_true]using hx
        ·simp only[jD];rw[if_neg hik];exact hst.get i _ _ _ hE (hΦ i ze)
      · simp only[jD]
        by_cases hik:i =k
        · subst hik
          rw[if_pos rfl,if_neg (Ne.symm hij)]
          obtain⟨g,hg,hlt⟩ :=hbx j hbj _ _ (hΦ j ze)
          obtain⟨g',hg',hge⟩ :=hf (List.contains_iff_mem.2 hbi)
          rw[hg,hg']
          intro h;injection h with h;injection h with h;injection h with h;omega
        · rw [if_neg hik]
          by_cases hjk:j =k
          · subst hjk
            rw[if_pos rfl]
            obtain⟨g,hg,hlt⟩ :=hbx i hbi _ _ (hΦ i ze)
            obtain⟨g',hg',hge⟩ :=hf (List.contains_iff_mem.2 hbj)
            rw[hg,hg']
            intro h;injection h with h;injection h with h;injection h with h;omega
          ·rw[if_neg hjk];exact hd i j ze ze hij hbi hbj
    · have key :(qU ops.size k).getD j false =true:=
        xK (md :=.any) (ops:=ops) (listed:=qU ops.size k)
          (fun i hi e he =>by
            have hik:i < k/\i < ops.size:=by
              rcases zR i ops.size with h|h
              ·simp[qU,h]at hi;exact⟨hi,h⟩
              ·simp[qU,h]at hi
            have:=htp2 i ze e he
            have hes:e < ops.size:=ze
            simp[qU,hes];omega)
          k (xW .any ops k)
          (fun e he =>by
            have:=htp2 k ze e he
            have hes:e < ops.size:=ze
            simp[qU,hes];omega) j (List.contains_iff_mem.1 hj)
      rcases zR j ops.size with h|h
      ·simp[qU,h]at key;exact hΦ j key
      ·simp[qU,h]at key
def backOk(ops:Array Oper)(n:Nat):Bool:=(List.range n).all λi =>(xW .any ops i).all λe =>decide (e < i)
theorem wp_region_rgs(n:Nat)(ds:List (Option Tmp))(L:List (Value ->World ->Prop))(boxes:List Nat){a0:Act}{w0:World}{id:Nat}
    (hn:n <=ops.size) (hds:(List.range n).map (xG ops)=ds) (hap:xJ ops n =true) (htp:backOk ops n =true)
    (hst:AllStb L) (hbx:∀i∈boxes,IsBox (L.getD i (λ_ _ =>True)))
    (hop:RgAll P .any ops Q ds a0 w0 L boxes 0 n ops.toList)
    (hend:∀v w,Ext w0 w ->(∀i,i < n ->L.getD i (λ_ _ =>True) (v i) w) ->(∀i j,i∈boxes ->j∈boxes ->i < n ->j < n ->i≠j ->v i≠v j) ->
      wpList P ops Q (ops.toList.drop n) (xZ v a0 0 ds) w) :
    (Code.region id ops false).wp P Q a0 w0:=by
  refine wp_region_list ?_
  simp only[backOk,List.all_eq_true,List.mem_range,zS]at htp
  have:=wp_list_rg n L boxes ds hn hds hap htp hst hbx hop hend n 0 (slotVal ops a0) w0 ze (Ext.refl _) (λi hi =>by omega) (λi j hi =>by omega)
  have hlay:jV ops (slotVal ops a0) a0 n =a0:=layN_self a0 n
  rwa [hlay,List.drop_zero]at this
end
/-! ### Words for walks that a program has printed -/
def IsMag(k:Nat)(z:Int):Value ->World ->Prop:=λx w =>∃s a n c,x =.slice a n c/\IntAt w k s a n c z
theorem IsMag.stb(k:Nat)(z:Int):Stb (IsMag k z) :=λ_ _ _ e ⟨s,a,n,c,h1,h2⟩ =>⟨s,a,n,c,h1,h2.ext e⟩
instance (k:Nat) (z:Int):StbC (IsMag k z) :=⟨IsMag.stb k z⟩
def IsPos:Value ->World ->Prop:=λx _ =>∃n:Nat,x =.int .i64 (n:Int)/\0 < n/\n <=9223372036854775807
theorem IsPos.stb:Stb IsPos:=λ_ _ _ _ h =>h
instance:StbC IsPos:=⟨IsPos.stb⟩
end Go.Proofs.YtenhciieboegbaaGreatDoor
