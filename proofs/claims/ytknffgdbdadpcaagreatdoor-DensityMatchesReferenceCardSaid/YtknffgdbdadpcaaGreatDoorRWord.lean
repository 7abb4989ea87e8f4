/-
  Rows of words that a call has made, as slices with room: written, read, appended to. No condition.
  Plain laws on words for the reference package: sums, differences, times a power of two, halves, order, long division bit by bit. No program.
  The reference package: word, size in order (reaches). Every slice of words.
-/
import Derived.Test.YtknffgdbdadpcaaGreatDoorRow
import Derived.Test.YtknffgdbdadpcaaGreatDoorDiv
namespace Go.Proofs.YtknffgdbdadpcaaGreatDoor
open Go Go.RowKit
open Go.Proofs.Tryz
set_option maxRecDepth 100000
set_option maxHeartbeats 1000000
theorem RowOf.set{e:TypeId}{ok:Value ->Prop}{w:World}{base:Nat}{xs:List Value}{g n cap:Nat}(h:RowOf e ok w base (.slice (some ⟨g,0,none⟩) n cap) xs)(j:Nat)(u:Value)(hu:ok u):
    RowOf e ok (w.setCell ⟨g,j,none⟩ u) base (.slice (some ⟨g,0,none⟩) n cap) (xs.set j u)/\Below base w (w.setCell ⟨g,j,none⟩ u) :=by
  rcases h with⟨h,rfl⟩| ⟨g',cap',cur,h1,h2,h3,h4,h5,h6,h7,h8⟩
  ·cases h
  · simp only[Value.slice.injEq,Option.some.injEq,Addr.mk.injEq,and_true]at h1
    obtain⟨rfl,rfl,rfl⟩ :=h1
    refine⟨.inr ⟨g,cap,cur.setIfInBounds j u,by simp,h2,?_,by simpa using h4,h5,by simpa using h6,?_,?_⟩,(Below.refl base w).setCell h2 u⟩
    · simp only[World.setCell,Array.getElem?_modify,if_true]
      rw[h3]
      simp
    ·rw[Array.toList_setIfInBounds,List.length_set,List.take_set,h7]
    · intro i v hv
      rw[Array.getElem?_setIfInBounds]at hv
      split at hv
      · split at hv
        ·simp at hv;rw[<-hv];exact hu
        ·simp at hv
      ·exact h8 i v hv
def isU32(x:Value):Prop:=∃n:Nat,x =.int .u32 (n:Int)
theorem RowOf.wd{w:World}{base n cap:Nat}{ao:Option Addr}{xs:List Nat}(h:RowOf 100 isU32 w base (.slice ao n cap) (qO xs))(hx:∀i,xs.getD i 0 < 4294967296):Wd w ao n cap xs:=by
  have h0:=h
  rcases h with⟨h,hw⟩| ⟨g,cap',cur,h1,h2,h3,h4,h5,h6,h7,h8⟩
  · simp only[Value.slice.injEq]at h
    obtain⟨rfl,rfl,rfl⟩ :=h
    have:xs = [] :=by simpa [qO]using hw
    rw[this];exact wd_nil _ _ _ zb
  · simp only[Value.slice.injEq]at h1
    obtain⟨rfl,rfl,rfl⟩ :=h1
    refine⟨(qI xs).symm,h4,h5,hx,.inr ⟨g,0,rfl,heap_lt h3,λj hj =>?_⟩⟩
    rw[Nat.zero_add]
    exact h0.cell j _ (xP? xs j (by rw[qI]at hj;exact hj))
def Rw(w:World)(base:Nat)(v:Value)(xs:List Nat):Prop:=RowOf 100 isU32 w base v (qO xs)/\∀i,xs.getD i 0 < 4294967296
theorem Rw.ext{w w':World}{base:Nat}{v:Value}{xs:List Nat}(h:Rw w base v xs)(e:Ext w w'):Rw w' base v xs:=⟨h.1.ext e,h.2⟩
theorem Rw.shape{w:World}{base:Nat}{v:Value}{xs:List Nat}(h:Rw w base v xs):∃ao cap,v =.slice ao xs.length cap/\ (xs≠ [] ->∃g,ao =some ⟨g,0,none⟩/\base <=g/\g < w.heap.size)/\xs.length <=cap/\cap <=9223372036854775807:=by
  obtain⟨ao,cap,h1,h2,h3,h4⟩ :=h.1.shape
  rw[qI]at h1 h3
  exact⟨ao,cap,h1,λhx =>h2 (λh =>hx (List.map_eq_nil_iff.1 h)),h3,h4⟩
theorem Rw.wd{w:World}{base:Nat}{v:Value}{xs:List Nat}(h:Rw w base v xs):∃ao cap,v =.slice ao xs.length cap/\Wd w ao xs.length cap xs:=by
  obtain⟨ao,cap,rfl,_⟩ :=h.shape
  exact⟨ao,cap,rfl,h.1.wd h.2⟩
theorem Rw.start(w:World)(base:Nat)(h:base <=w.heap.size):Rw (w.alloc (.cells #[] 100)) base (.slice (some ⟨w.heap.size,0,none⟩) 0 0) [] :=
  ⟨.inr ⟨w.heap.size,0,#[],rfl,h,heap_alloc_new _ _,by simp[qO],by omega,rfl,by simp[qO],by simp⟩,λi =>by simp⟩
theorem Rw.own{w:World}{g base:Nat}{ys:List Nat}(h:Own w g ys)(hb:base <=g)(hx:∀i,ys.getD i 0 < 4294967296)(hl:ys.length <=9223372036854775807):Rw w base (.slice (some ⟨g,0,none⟩) ys.length ys.length) ys:=
  ⟨.inr ⟨g,ys.length,(qO ys).toArray,by rw[qI],hb,h,by rw[qI];omega,hl,by simp[qI],by rw[List.take_of_length_le (by rw[qI];exact zL _)],λj u hu =>by
    have:=List.mem_of_getElem? (by simpa using hu)
    simp only[qO,List.mem_map]at this
    obtain⟨y,_,rfl⟩ :=this
    exact⟨y,rfl⟩⟩,hx⟩
theorem wcells_snoc(xs:List Nat)(y:Nat):qO xs ++ [.int .u32 (y:Int)]=qO (xs ++ [y]) :=by simp[qO]
def IsWk(k m:Nat):Value ->World ->Prop:=λx w =>∃a n c xs,x =.slice a n c/\Wd w a n c xs/\n <=k/\qF xs =m
theorem IsWk.gstb(k m:Nat):GStb (IsWk k m) :=λ_ _ _ e ⟨a,n,c,xs,h1,h2,h3⟩ =>⟨a,n,c,xs,h1,h2.gr e,h3⟩
theorem IsWk.stb(k m:Nat):Stb (IsWk k m) :=(IsWk.gstb k m).stb
theorem Rw.isWk{w:World}{base k m:Nat}{v:Value}{xs:List Nat}(h:Rw w base v xs)(hk:xs.length <=k)(hm:qF xs =m):IsWk k m v w:=by
  obtain⟨ao,cap,rfl,hw⟩ :=h.wd
  exact⟨ao,_,cap,xs,rfl,hw,hk,hm⟩
theorem app_row(w:World)(base g:Nat)(ao:Option Addr)(n cap:Nat)(xs:List Nat)(h:Wd w ao n cap xs)(hn:n <=1099511627776)(hr:Rw w base (.slice (some ⟨g,0,none⟩) 0 0) [])(hbase:base <=w.heap.size)(ty:TypeId):
    ∃v w',(Builtin.append_ #[27,27] ty #[.slice (some ⟨g,0,none⟩) 0 0,.slice ao n cap]).run prog w =.ok v w'/\Ext w w'/\Rw w' base v xs:=by
  obtain⟨i,hi,hz0,hz1,hz2⟩ :=info_parts Tryz.infoU32
  have hu:prog.underlying 27 =some (.slice 100) :=za
  have hlen:=h.len
  rcases zI n with h0|h0
  · subst h0
    obtain rfl:xs = [] :=List.eq_nil_of_length_eq_zero hlen
    have hsrc:Src prog i.size 27 (.slice ao 0 cap) 0 [] w:=by
      cases ao with
      |none =>exact Src.ofNil w hu cap
      |some a =>exact Src.ofSlice w hu a 0 cap [] zh zh (λ_ h =>by cases h)
    have:=run_append_room_src w 27 27 ty 100 i hu hi g 0 0 0 (.slice ao 0 cap) 0 [] hsrc zb (λj hj =>by simp at hj) (λj hj =>by simp at hj)
    exact⟨_,_,this,Ext.refl w,hr⟩
  · rcases h.at_ with h1| ⟨b,off,rfl,hb,hc⟩
    ·omega
    · have hnews:∀j u,(qO xs)[j]? =some u ->w.cell? ((⟨b,off,none⟩:Addr).add j)=some u:=λj u hj =>by
        have hjn:j < n:=by
          rcases zQ j n with h|h
          ·exact h
          ·rw[List.getElem?_eq_none (by rw[qI];omega)]at hj;cases hj
        rw[xP? _ _ (by omega)]at hj
        rw[Addr.add_lit,hc j hjn];exact hj
      have hsrc:Src prog i.size 27 (.slice (some ⟨b,off,none⟩) n cap) n (qO xs) w:=
        Src.ofSlice w hu _ n cap (qO xs) (by rw[qI,hlen,hz1,Nat.mul_one]) hnews (λv hv =>by
          simp only[qO,List.mem_map]at hv
          obtain⟨y,_,rfl⟩ :=hv
          rfl)
      have hge:=grownCap_ge w n 0 100
      have hle:=grownCap_le_maxLen w n 0 100 (by unfold maxLen;omega)
      have hrun:=run_append_grow_src w 27 27 ty 100 i (.int .u32 0) hu hi hz0 (some ⟨g,0,none⟩) 0 0 [] (run_firstCells_some w.drew i.size 0 ⟨g,0,none⟩ 0 0 [] zh zh) (.slice (some ⟨b,off,none⟩) n cap) n (qO xs) hsrc
        zb zb (by rw[Nat.zero_add];exact growslice_fits zb (by rw[hz2];omega))
      rw[Nat.zero_add]at hrun
      refine⟨_,_,hrun,(Ext.refl w).drew.alloc _,⟨.inr ⟨w.heap.size,_,_,by rw[qI,hlen],hbase,heap_alloc_new w.drew _,?_,?_,?_,?_,?_⟩,h.lt⟩⟩
      ·rw[qI,hlen];exact hge
      ·unfold maxLen at hle;omega
      · simp only[List.nil_append,Array.size_append,List.size_toArray,qI,hlen,size_zeroCells]
        first| (simp[Value.cells];done)| (simp[Value.cells];omega)
      ·rw[Array.toList_append];exact List.take_left
      · intro j y hj
        have hmem:=List.mem_of_getElem? (by rw[Array.getElem?_toList];exact hj)
        rw[Array.toList_append]at hmem
        rcases List.mem_append.1 hmem with h|h
        · have h9:y∈qO xs:=by simpa using h
          simp only[qO,List.mem_map]at h9
          obtain⟨z,_,rfl⟩ :=h9
          exact⟨z,rfl⟩
        · have hz:(Value.int .u32 0).cells = #[.int .u32 0] :=rfl
          rw[hz,jK]at h
          rw[(List.mem_replicate.1 h).2];exact⟨0,rfl⟩
theorem wpl_app{w:World}{ops:Array Oper}{rest:List Oper}{o:Oper}{a:Act}{Q:Exit ->Act ->World ->Prop}(hgd:o.guard =none)(s x:Operand)
    (ho:o.op =Op.call {callee:=Callee.builtin Builtin.append,args:= #[s,x],argTypes:= #[27,27]})
    (base g:Nat) (ao:Option Addr) (n cap:Nat) (xs:List Nat) (hs:a.eval s =.slice (some ⟨g,0,none⟩) 0 0) (hx:a.eval x =.slice ao n cap) (h:Wd w ao n cap xs) (hn:n <=1099511627776) (hr:Rw w base (.slice (some ⟨g,0,none⟩) 0 0) []) (hbase:base <=w.heap.size)
    (hK:∀v w',Ext w w' ->Rw w' base v xs ->wpList prog ops Q rest (a.put o.dst v) w'):wpList prog ops Q (o ::rest) a w:=by
  obtain⟨v,w',hrun,e,hv⟩ :=app_row w base g ao n cap xs h hn hr hbase o.type
  refine wpList_plain hgd λK hK' =>?_
  unfold Oper.wp
  simp[execOp,ho,resolve,invoke,builtin,hs,hx,hrun,Result.andThen]
  exact hK' _ _ (hK v w' e hv)
def Upd(g:Nat)(w w':World):Prop:=Below g w w'/\∀b,b≠g ->b < w.heap.size ->w'.heap[b]? =w.heap[b]?
theorem Upd.refl(g:Nat)(w:World):Upd g w w:=⟨Below.refl _ _,λ_ _ _ =>rfl⟩
theorem Upd.trans{g:Nat}{a b c:World}(h:Upd g a b)(k:Upd g b c):Upd g a c:=
  ⟨Below.trans h.1 k.1,λx hx hl =>(k.2 x hx (Nat.lt_of_lt_of_le hl (Below.size h.1))).trans (h.2 x hx hl)⟩
theorem Upd.of{g:Nat}{w w':World}(e:Ext w w')(hg:g <=w.heap.size):Upd g w w':=⟨Below.mono e hg,λ_ _ hl =>Below.block e _ hl⟩
theorem Upd.set(g j:Nat)(w:World)(v:Value):Upd g w (w.setCell ⟨g,j,none⟩ v) :=
  ⟨(Below.refl g w).setCell (zL _) v,λ_ hb _ =>Below.heap_setCell _ _ _ _ hb⟩
theorem Upd.ext{g:Nat}{w0 w w':World}(u:Upd g w w')(e:Ext w0 w)(hg:w0.heap.size <=g):Ext w0 w':=Below.ext e u.1 hg
theorem Upd.heap{g b:Nat}{w w':World}{o:Obj}(u:Upd g w w')(hb:b≠g)(h:w.heap[b]? =some o):w'.heap[b]? =some o:=by
  rw[u.2 b hb (heap_lt h)];exact h
theorem Wd.upd{g:Nat}{w w':World}{ao:Option Addr}{n cap:Nat}{xs:List Nat}(h:Wd w ao n cap xs)(u:Upd g w w')(hb:∀b off,ao =some ⟨b,off,none⟩ ->b≠g):Wd w' ao n cap xs:=by
  refine⟨h.len,h.capo,h.big,h.lt,h.at_.imp id λ⟨b,off,h1,h2,h3⟩ =>⟨b,off,h1,Nat.lt_of_lt_of_le h2 (Below.size u.1),λj hj =>?_⟩⟩
  have h4:=h3 j hj
  have h5:=u.2 b (hb b off h1) h2
  simp only[World.cell?]at h4 ⊢
  rw[h5];exact h4
theorem Rw.upd{g base:Nat}{w w':World}{v:Value}{xs:List Nat}(h:Rw w base v xs)(u:Upd g w w')(hb:∀b n c,v =.slice (some ⟨b,0,none⟩) n c ->b≠g):Rw w' base v xs:=by
  refine⟨?_,h.2⟩
  rcases h.1 with h1| ⟨b,cap,cur,rfl,h2,h3,h4⟩
  ·exact .inl h1
  ·exact .inr ⟨b,cap,cur,rfl,h2,u.heap (hb b _ _ rfl) h3,h4⟩
theorem Bx.upd{g b n c:Nat}{s:Bool}{a:Option Addr}{w w':World}(h:Bx w b s a n c)(u:Upd g w w')(hb:b≠g):Bx w' b s a n c:=by
  have h5:=u.2 b hb h.lt
  obtain⟨h1,h2,h3,h4⟩ :=h
  simp only[World.cell?,World.frozen?]at *
  exact⟨by simp only[World.cell?];rw[h5];exact h1,by simp only[World.cell?];rw[h5];exact h2,by simp only[World.frozen?];rw[h5];exact h3,by simp only[World.frozen?];rw[h5];exact h4⟩
theorem Rw.put{w:World}{base g n cap:Nat}{xs:List Nat}(h:Rw w base (.slice (some ⟨g,0,none⟩) n cap) xs)(j y:Nat)(hj:j < xs.length)(hy:y < 4294967296):Rw (w.setCell ⟨g,j,none⟩ (.int .u32 (y:Int))) base (.slice (some ⟨g,0,none⟩) n cap) (xs.set j y) :=by
  refine⟨?_,λi =>?_⟩
  · have:=(h.1.set j (.int .u32 (y:Int)) ⟨y,rfl⟩).1
    rwa [show(qO xs).set j (Value.int .u32 (y:Int))=qO (xs.set j y)by simp[qO,List.map_set]]at this
  · rw[qN _ _ _ _ hj];split
    ·exact hy
    ·exact h.2 i
theorem Rw.cell{w:World}{base g n cap:Nat}{xs:List Nat}(h:Rw w base (.slice (some ⟨g,0,none⟩) n cap) xs)(j:Nat)(hj:j < xs.length):w.cell? ⟨g,j,none⟩=some (.int .u32 ((xs.getD j 0:Nat):Int)) :=h.1.cell j _ (xP? xs j hj)
theorem Rw.free{w:World}{base g n cap:Nat}{xs:List Nat}(h:Rw w base (.slice (some ⟨g,0,none⟩) n cap) xs)(j:Nat):w.frozen? ⟨g,j,none⟩=false:=h.1.free j
/-! ### rows that grow by one word -/
theorem snoc_getD(xs:List Nat)(y i:Nat):(xs ++ [y]).getD i 0 =if i =xs.length then y else xs.getD i 0:=by
  rw[getD_append]
  by_cases h:i < xs.length
  ·rw[if_pos h,if_neg (by omega)]
  · rw[if_neg h]
    by_cases h2:i =xs.length
    ·rw[if_pos h2,h2,Nat.sub_self];rfl
    ·rw[if_neg h2,xK xs i (by omega),xK _ _ (by simp;omega)]
theorem snoc_val(xs:List Nat)(y:Nat):qF (xs ++ [y])=qF xs + 4294967296 ^ xs.length * y:=by
  rw[jT];simp[qF]
theorem snoc_lt{xs:List Nat}{y:Nat}(hx:∀i,xs.getD i 0 < 4294967296)(hy:y < 4294967296):∀i,(xs ++ [y]).getD i 0 < 4294967296:=by
  intro i;rw[snoc_getD];split
  ·exact hy
  ·exact hx i
def PlusS(A B xs:List Nat)(k c:Nat):Prop:=xs.length =k/\ (∀i,xs.getD i 0 < 4294967296)/\qF xs + 4294967296 ^ k * c =pv A k + pv B k/\c <=1
theorem PlusS.start(A B:List Nat):PlusS A B [] 0 0:=⟨rfl,λi =>by simp,by simp[qF,pv],by omega⟩
theorem PlusS.step{A B xs:List Nat}{k c:Nat}(h:PlusS A B xs k c)(hA:∀i,A.getD i 0 < 4294967296)(hB:∀i,B.getD i 0 < 4294967296):
    PlusS A B (xs ++ [(c + (A.getD k 0 + B.getD k 0)) % 4294967296]) (k + 1) ((c + (A.getD k 0 + B.getD k 0)) / 4294967296) :=by
  obtain⟨h1,h2,h3,h4⟩ :=h
  have a:=hA k
  have b:=hB k
  refine⟨by simp[h1],snoc_lt h2 (zR _ dcx),?_,by omega⟩
  rw[snoc_val,h1,pv,pv]
  exact add_step _ _ _ k _ _ c _ _ h3 (by congr 1;omega) (by congr 1;omega)
theorem PlusS.fin{A B xs:List Nat}{k c:Nat}(h:PlusS A B xs k c)(hA:A.length <=k)(hB:B.length <=k):qF (xs ++ [c])=qF A + qF B/\ (∀i,(xs ++ [c]).getD i 0 < 4294967296) :=by
  obtain⟨h1,h2,h3,h4⟩ :=h
  rw[snoc_val,h1,h3,qS A k hA,qS B k hB]
  exact⟨rfl,snoc_lt h2 zb⟩
def MinusS(A B xs:List Nat)(k c:Nat):Prop:=xs.length =k/\ (∀i,xs.getD i 0 < 4294967296)/\qF xs + pv B k =pv A k + 4294967296 ^ k * c/\c <=1
theorem MinusS.start(A B:List Nat):MinusS A B [] 0 0:=⟨rfl,λi =>by simp,by simp[qF,pv],by omega⟩
theorem MinusS.step{A B xs:List Nat}{k c:Nat}(h:MinusS A B xs k c)(hA:∀i,A.getD i 0 < 4294967296)(hB:∀i,B.getD i 0 < 4294967296):
    MinusS A B (xs ++ [(4294967296 + A.getD k 0 - B.getD k 0 - c) % 4294967296]) (k + 1) (1 - (4294967296 + A.getD k 0 - B.getD k 0 - c) / 4294967296) :=by
  obtain⟨h1,h2,h3,h4⟩ :=h
  have a:=hA k
  have b:=hB k
  refine⟨by simp[h1],snoc_lt h2 (zR _ dcx),?_,by omega⟩
  rw[snoc_val,h1,pv,pv]
  exact sub_step _ _ _ k _ _ c _ _ h3 zb
theorem minus_end(p a b q c:Nat)(h:p + b =a + q * c)(hc:c <=1)(hle:b <=a)(hp:p < q):p =a - b:=by
  rcases zI c with h0|h0
  ·rw[h0]at h;omega
  · have:c =1:=by omega
    rw[this]at h;omega
def TakeS(A B ys:List Nat)(j c:Nat):Prop:=ys.length =A.length/\ (∀i,ys.getD i 0 < 4294967296)/\ (∀i,j <=i ->ys.getD i 0 =A.getD i 0)/\pv ys j + pv B j =pv A j + 4294967296 ^ j * c/\c <=1
theorem TakeS.start{A:List Nat}(B:List Nat)(hA:∀i,A.getD i 0 < 4294967296):TakeS A B A 0 0:=⟨rfl,hA,λ_ _ =>rfl,by simp[pv],by omega⟩
theorem TakeS.step{A B ys:List Nat}{j c:Nat}(h:TakeS A B ys j c)(hj:j < A.length)(hA:∀i,A.getD i 0 < 4294967296)(hB:∀i,B.getD i 0 < 4294967296):
    ys.getD j 0 =A.getD j 0/\TakeS A B (ys.set j ((4294967296 + A.getD j 0 - B.getD j 0 - c) % 4294967296)) (j + 1) (1 - (4294967296 + A.getD j 0 - B.getD j 0 - c) / 4294967296) :=by
  obtain⟨h1,h2,h3,h4,h5⟩ :=h
  have a:=hA j
  have b:=hB j
  refine⟨h3 j (zL _),by simpa using h1,λi =>?_,λi hi =>?_,?_,by omega⟩
  · rw[qN _ _ _ _ (by omega)];split
    ·omega
    ·exact h2 i
  ·rw[qN _ _ _ _ (by omega),if_neg (by omega)];exact h3 i zb
  · rw[pv,pv,pv,pv_set _ _ _ (by omega),qN _ _ _ _ (by omega),if_pos rfl]
    exact sub_step _ _ _ j _ _ c _ _ h4 zb
theorem pv_small(B:List Nat)(k:Nat)(h:qF B < 4294967296 ^ k):pv B k =qF B:=by
  rcases zQ k B.length with hk|hk
  · rw [pv_take]
    have h2:=jT (B.take k) (B.drop k)
    rw[List.take_append_drop,List.length_take,Nat.min_eq_left (by omega)]at h2
    rcases zI (qF (B.drop k))with h0|h0
    ·rw[h0]at h2;omega
    · have:=Nat.le_mul_of_pos_right (4294967296 ^ k) h0
      omega
  ·exact qS B k hk
theorem MinusS.fin{A B xs:List Nat}{k c:Nat}(h:MinusS A B xs k c)(hx:∀i,A.getD i 0 < 4294967296)(hA:A.length <=k)(hle:qF B <=qF A):qF xs =qF A - qF B:=by
  obtain⟨h1,h2,h3,h4⟩ :=h
  have hl:=xD A hx
  have hp:4294967296 ^ A.length <=4294967296 ^ k:=Nat.pow_le_pow_right dcx hA
  rw[qS A k hA,pv_small B k (by omega)]at h3
  have:=xD xs h2
  rw[h1]at this
  exact minus_end _ _ _ _ _ h3 h4 hle this
theorem TakeS.fin{A B ys:List Nat}{c:Nat}(h:TakeS A B ys A.length c)(hA:∀i,A.getD i 0 < 4294967296)(hle:qF B <=qF A):qF ys =qF A - qF B:=by
  obtain⟨h1,h2,h3,h4,h5⟩ :=h
  have hl:=xD A hA
  rw[qS A _ (zL _),pv_small B _ (by omega),qS ys _ (Nat.le_of_eq h1)]at h4
  have:=xD ys h2
  rw[h1]at this
  exact minus_end _ _ _ _ _ h4 h5 hle this
def HalfS(A ys:List Nat)(j:Nat):Prop:=ys.length =A.length/\ (∀i,ys.getD i 0 < 4294967296)/\ (∀i,j <=i ->ys.getD i 0 =A.getD i 0)/\2 * pv ys j + A.getD 0 0 % 2 =pv A j + 4294967296 ^ j * (A.getD j 0 % 2)
theorem HalfS.start{A:List Nat}(hA:∀i,A.getD i 0 < 4294967296):HalfS A A 0:=⟨rfl,hA,λ_ _ =>rfl,by simp[pv]⟩
theorem half_step(p P q x y a b:Nat)(h:2 * p + a =P + q * (x % 2))(hy:y =x / 2 + b % 2 * 2147483648):2 * (p + q * y) + a =P + q * x + q * 4294967296 * (b % 2) :=by
  have h2:q * (2 * y + x % 2)=q * (x + 4294967296 * (b % 2)) :=by congr 1;omega
  grind
theorem HalfS.step{A ys:List Nat}{j:Nat}(h:HalfS A ys j)(hj:j < A.length)(hA:∀i,A.getD i 0 < 4294967296):
    ys.getD j 0 =A.getD j 0/\ys.getD (j + 1) 0 =A.getD (j + 1) 0/\HalfS A (ys.set j (A.getD j 0 / 2 + A.getD (j + 1) 0 % 2 * 2147483648)) (j + 1) :=by
  obtain⟨h1,h2,h3,h4⟩ :=h
  have a:=hA j
  refine⟨h3 j (zL _),h3 (j + 1) zb,by simpa using h1,λi =>?_,λi hi =>?_,?_⟩
  · rw[qN _ _ _ _ (by omega)];split
    ·omega
    ·exact h2 i
  ·rw[qN _ _ _ _ (by omega),if_neg (by omega)];exact h3 i zb
  · rw[pv,pv,pv_set _ _ _ (by omega),qN _ _ _ _ (by omega),if_pos rfl,Nat.pow_succ]
    exact half_step _ _ _ _ _ _ _ h4 rfl
theorem HalfS.fin{A ys:List Nat}(h:HalfS A ys A.length):qF ys =qF A / 2:=by
  obtain⟨h1,h2,h3,h4⟩ :=h
  rw[qS ys _ (Nat.le_of_eq h1),qS A _ (zL _),xK A A.length (zL _)]at h4
  omega
def LeftS(A xs:List Nat)(q R i:Nat):Prop:=xs.length =q + i/\ (∀j,xs.getD j 0 < 4294967296)/\qF xs + 4294967296 ^ (q + i) * ((if i =0 then 0 else A.getD (i - 1) 0) * R / 4294967296)=4294967296 ^ q * R * pv A i
theorem LeftS.start(A:List Nat)(q R:Nat):LeftS A (List.replicate q 0) q R 0:=⟨by simp,λi =>by rw[qZ];omega,by simp[pv,xU]⟩
theorem left_step(v q i o x R y o2 P:Nat)(hv:v + 4294967296 ^ (q + i) * o =4294967296 ^ q * R * P)(hy:y + 4294967296 * o2 =x * R + o):
    v + 4294967296 ^ (q + i) * y + 4294967296 ^ (q + (i + 1)) * o2 =4294967296 ^ q * R * (P + 4294967296 ^ i * x) :=by
  have h2:4294967296 ^ (q + i) * (y + 4294967296 * o2)=4294967296 ^ (q + i) * (x * R + o) :=by rw[hy]
  rw[show q + (i + 1)=(q + i) + 1 from rfl,Nat.pow_succ]
  rw[Nat.pow_add]at *
  grind
theorem LeftS.step{A xs:List Nat}{q R i:Nat}(h:LeftS A xs q R i)(o:Nat)(ho:o =(if i =0 then 0 else A.getD (i - 1) 0) * R / 4294967296)(hs:A.getD i 0 * R % 4294967296 + o < 4294967296):
    LeftS A (xs ++ [A.getD i 0 * R % 4294967296 + o]) q R (i + 1) :=by
  obtain⟨h1,h2,h3⟩ :=h
  refine⟨by simp[h1];omega,snoc_lt h2 hs,?_⟩
  rw[<-ho]at h3
  rw[if_neg (by omega),Nat.add_sub_cancel,snoc_val,h1,pv]
  refine left_step _ q i o _ R _ _ _ h3 ?_
  have:=Nat.mod_add_div (A.getD i 0 * R) 4294967296
  omega
theorem LeftS.fin{A xs:List Nat}{q R:Nat}(h:LeftS A xs q R (A.length + 1)):qF xs =4294967296 ^ q * R * qF A:=by
  obtain⟨h1,h2,h3⟩ :=h
  rw[if_neg (by omega),Nat.add_sub_cancel,xK A _ (zL _),Nat.zero_mul,Nat.zero_div,Nat.mul_zero,Nat.add_zero,qS A _ (by omega)]at h3
  exact h3
/-! ### order -/
def SameUp(A B:List Nat)(j:Nat):Prop:=∀i,j <=i ->A.getD i 0 =B.getD i 0
theorem SameUp.val{A B:List Nat}{j:Nat}(h:SameUp A B j):qF A + pv B j =qF B + pv A j:=by
  have key:∀N,j <=N ->pv A N + pv B j =pv B N + pv A j:=by
    intro N hN
    induction N with
    | zero =>
      obtain rfl:j =0:=zb
      simp[pv]
    | succ N ih =>
      rcases zQ N j with h1|h1
      · obtain rfl:j =N + 1:=by omega
        omega
      · have:=ih h1
        rw[pv,pv,h N h1]
        omega
  have:=key (max j (max A.length B.length)) zb
  rw[qS A (max j (max A.length B.length)) (by omega),qS B (max j (max A.length B.length)) (by omega)]at this
  exact this
theorem SameUp.lt{A B:List Nat}{j:Nat}(h:SameUp A B (j + 1))(hA:∀i,A.getD i 0 < 4294967296)(hj:A.getD j 0 < B.getD j 0):qF A < qF B:=by
  have h1:=h.val
  have h2:=pv_lt A hA j
  rw[pv,pv]at h1
  have h3:4294967296 ^ j * (A.getD j 0 + 1) <=4294967296 ^ j * B.getD j 0:=Nat.mul_le_mul_left _ hj
  rw[Nat.mul_add,Nat.mul_one]at h3
  omega
theorem SameUp.eq{A B:List Nat}(h:SameUp A B 0):qF A =qF B:=by
  have:=h.val
  simpa [pv]using this
theorem SameUp.step{A B:List Nat}{j:Nat}(h:SameUp A B (j + 1))(hj:A.getD j 0 =B.getD j 0):SameUp A B j:=λi hi =>by
  rcases Nat.eq_or_lt_of_le hi with h1|h1
  ·rw[<-h1];exact hj
  ·exact h i h1
theorem SameUp.symm{A B:List Nat}{j:Nat}(h:SameUp A B j):SameUp B A j:=λi hi =>(h i hi).symm
/-! ### long division,bit by bit:what the loop keeps ahead of bit i - 1 (i bits are still to come) -/
def DvS(a b i n r q:Nat):Prop:=a =q * b + r/\r < b * 2 ^ i/\2 ^ i∣q/\q < 2 ^ (n + 1)/\i <=n + 1
theorem DvS.start{a b n:Nat}(h:a < b * 2 ^ (n + 1)):DvS a b (n + 1) n a 0:=⟨by simp,h,Nat.dvd_zero _,Nat.pos_of_ne_zero zh,zL _⟩
theorem DvS.yes{a b i n r q:Nat}(h:DvS a b (i + 1) n r q)(hr:b * 2 ^ i <=r):DvS a b i n (r - b * 2 ^ i) (q + 2 ^ i) :=by
  obtain⟨h1,h2,⟨t,h3⟩,h4,h5⟩ :=h
  rw[Nat.pow_succ]at h2 h3
  have h6:b * (2 ^ i * 2)=b * 2 ^ i + b * 2 ^ i:=by grind
  have h7:(q + 2 ^ i) * b =q * b + b * 2 ^ i:=by grind
  refine⟨by omega,by omega,⟨2 * t + 1,by rw[h3];grind⟩,?_,by omega⟩
  have e:2 ^ (n + 1)=2 ^ i * 2 * 2 ^ (n - i) :=by rw[<-Nat.pow_succ,<-Nat.pow_add];congr 1;omega
  rw[e]at h4 ⊢
  rw[h3]at h4
  have h8:t < 2 ^ (n - i) :=Nat.lt_of_mul_lt_mul_left h4
  have h9:2 ^ i * 2 * (t + 1) <=2 ^ i * 2 * 2 ^ (n - i) :=Nat.mul_le_mul_left _ h8
  have h10:0 < 2 ^ i:=Nat.pos_of_ne_zero zh
  rw[h3]
  rw[Nat.mul_add]at h9
  omega
theorem DvS.no{a b i n r q:Nat}(h:DvS a b (i + 1) n r q)(hr:r < b * 2 ^ i):DvS a b i n r q:=by
  obtain⟨h1,h2,h3,h4,h5⟩ :=h
  exact⟨h1,hr,Nat.dvd_trans (Nat.pow_dvd_pow 2 (Nat.le_succ i)) h3,h4,by omega⟩
theorem DvS.fin{a b n r q:Nat}(h:DvS a b 0 n r q):q =a / b/\r =a % b:=by
  obtain⟨h1,h2,_⟩ :=h
  rw[Nat.pow_zero,Nat.mul_one]at h2
  have hb:0 < b:=zb
  rw[h1]
  constructor
  ·rw[Nat.mul_comm,Nat.mul_add_div hb,Nat.div_eq_of_lt h2];rfl
  ·rw[Nat.mul_comm,Nat.mul_add_mod,Nat.mod_eq_of_lt h2]
theorem word_of(xs:List Nat)(hx:∀i,xs.getD i 0 < 4294967296)(k:Nat):xs.getD k 0 =qF xs / 4294967296 ^ k % 4294967296:=by
  induction xs generalizing k with
  |nil =>simp[qF]
  | cons x xs ih =>
    have h0:=hx 0
    simp at h0
    cases k with
    |zero =>simp[qF];omega
    | succ k =>
      rw[List.getD_cons_succ,ih (λi =>by simpa using hx (i + 1)),qF,Nat.pow_succ,Nat.mul_comm (4294967296 ^ k),<-Nat.div_div_eq_div_mul]
      congr 2
      omega
theorem bit_put{ys:List Nat}{i:Nat}(hx:∀j,ys.getD j 0 < 4294967296)(hd:2 ^ (i + 1)∣qF ys)(hl:i / 32 < ys.length):
    ∃o:Nat,ys.getD (i / 32) 0 =o/\2 ^ (i % 32 + 1)∣o/\o < 4294967296/\o + 2 ^ (i % 32) < 4294967296/\qF (ys.set (i / 32) (o + 2 ^ (i % 32)))=qF ys + 2 ^ i:=by
  have hw:=word_of ys hx (i / 32)
  have hB:(4294967296:Nat) ^ (i / 32)=2 ^ (32 * (i / 32)) :=by rw[show(4294967296:Nat)=2 ^ 32 from rfl,<-Nat.pow_mul]
  have e1:2 ^ (i + 1)=4294967296 ^ (i / 32) * 2 ^ (i % 32 + 1) :=by rw[hB,<-Nat.pow_add];congr 1;omega
  have e2:2 ^ i =4294967296 ^ (i / 32) * 2 ^ (i % 32) :=by rw[hB,<-Nat.pow_add];congr 1;omega
  obtain⟨t,ht⟩ :=hd
  have hd1:2 ^ (i % 32 + 1)∣4294967296:=by
    rw[show(4294967296:Nat)=2 ^ 32 from rfl];exact Nat.pow_dvd_pow 2 zb
  have hd2:2 ^ (i % 32 + 1)∣ys.getD (i / 32) 0:=by
    rw[hw,ht,e1,Nat.mul_assoc,Nat.mul_div_cancel_left _ (Nat.pos_of_ne_zero (by simp))]
    exact(Nat.dvd_mod_iff hd1).2 ⟨t,rfl⟩
  obtain⟨o,ho⟩:∃o,ys.getD (i / 32) 0 =o:=⟨_,rfl⟩
  rw[ho]at hd2
  have hol:o < 4294967296:=by rw[<-ho];exact hx _
  refine⟨o,ho,hd2,hol,?_,?_⟩
  · obtain⟨u,hu⟩ :=hd2
    obtain⟨v,hv⟩ :=hd1
    rw[hv,hu]at hol
    have h8:u < v:=Nat.lt_of_mul_lt_mul_left hol
    have h9:2 ^ (i % 32 + 1) * (u + 1) <=2 ^ (i % 32 + 1) * v:=Nat.mul_le_mul_left _ h8
    rw[<-hv,Nat.mul_add,<-hu,Nat.pow_succ]at h9
    have h10:0 < 2 ^ (i % 32) :=Nat.pos_of_ne_zero zh
    omega
  · have:=xQ ys (i / 32) (o + 2 ^ (i % 32)) hl
    rw[ho,Nat.mul_add,<-e2]at this
    omega
theorem jQ(w:World)(ao:Option Addr)(n cap:Nat)(xs:List Nat)(h:Wd w ao n cap xs)(i:Nat)(hi:i < 9223372036854775807):
    Calls prog 90 #[.slice ao n cap,.int .i64 (i:Int)] w (RSame w (.int .u64 ((xs.getD i 0:Nat):Int))) :=by
  by_cases hl:i < n
  · rcases h.shape with h0| ⟨b,off,rfl,hb⟩
    ·omega
    · have hc:=h.cell i hl
      have hx:=h.lt i
      generalize xs.getD i 0 =x at *
      clear h
      go_enter func90,ntmps90
      go_wp2_with fail
      go_ret
      exact⟨rfl,rfl⟩
  · have hx:xs.getD i 0 =0:=xK _ _ (by rw[h.len];omega)
    rw[hx]
    clear hx h
    go_enter func90,ntmps90
    go_wp2_with fail
    go_ret
    exact⟨rfl,rfl⟩
theorem word_neg(w:World)(ao:Option Addr)(n cap:Nat):
    Calls prog 90 #[.slice ao n cap,.int .i64 (-1)] w (RSame w (.int .u64 0)) :=by
  go_enter func90,ntmps90
  go_wp2_with fail
  go_ret
  exact⟨rfl,rfl⟩
theorem reaches_c(w:World)(a1 a2:Option Addr)(n1 n2 c1 c2:Nat)(A B:List Nat)(h1:Wd w a1 n1 c1 A)(h2:Wd w a2 n2 c2 B)(s1:n1 <=1073741824)(s2:n2 <=1073741824):
    Calls prog 199 #[.slice a1 n1 c1,.slice a2 n2 c2] w (RVal w (.bool (decide (qF B <=qF A)))) :=by
  have HA:=hid h1.lt
  have HB:=hid h2.lt
  have HW1:=hid h1
  have HW2:=hid h2
  obtain⟨N,hN⟩:∃N,N =max n1 n2:=⟨_,rfl⟩
  have hN1:max (n1:Int) (n2:Int)=(N:Int) :=zb
  have hNs:N <=1073741824:=zb
  have I0:Hid (SameUp A B N) :=λi hi =>by rw[xK A i (by rw[h1.len];omega),xK B i (by rw[h2.len];omega)]
  obtain⟨r,hr⟩:∃r,r =decide (qF B <=qF A) :=⟨_,rfl⟩
  rw[<-hr]
  have Hr:=hid hr
  clear h1 h2 hN hr
  go_enter func199,ntmps199
  go_wp2_with fail
  all_goals
    go_loopw [5] (λi wr =>∃z:Int,-1 <=z/\z < N/\i =.int .i64 z/\Hid (SameUp A B (z + 1).toNat)/\Ext w wr) (λi _ =>(intOf i + 1).toNat)
    case atStart =>exact⟨(N:Int) - 1,by omega,by omega,by go_must (rw[show(N:Int)=_ from hN1.symm];try simp;try omega),by rw[show((N:Int) - 1 + 1).toNat =N from by omega];exact I0,Ext.refl _⟩
    case round =>
      clear I0
      obtain⟨z,hz1,hz2,rfl,hsame,hext⟩ :=hrel
      by_cases hz0:0 <=z
      · obtain⟨j,rfl⟩ :=Int.eq_ofNat_of_zero_le hz0
        have hsame':SameUp A B (j + 1) :=hsame.out
        have HC:∀x y:Nat,A.getD j 0 =x ->B.getD j 0 =y ->(x < y ->r =false)/\ (y < x ->r =true)/\ (x =y ->SameUp A B j) :=λx y hx hy =>
          ⟨λh =>by rw[Hr.out];have:=hsame'.lt HA.out (by rw[hx,hy];exact h);simp;omega,λh =>by rw[Hr.out];have:=hsame'.symm.lt HB.out (by rw[hx,hy];exact h);simp;omega,λh =>hsame'.step (by rw[hx,hy];exact h)⟩
        have HC:=hid (HC _ _ rfl rfl)
        have W0:=hid (HW1.out.ext hext)
        have W0a:=hid (HW2.out.ext hext)
        clear hsame hsame'
        have HA':=hid (jQ wr a1 n1 c1 A W0.out j zb)
        have HB':=hid (jQ wr a2 n2 c2 B W0a.out j zb)
        generalize A.getD j 0 =x at HA' HC
        generalize B.getD j 0 =y at HB' HC
        have key:(x =y/\SameUp A B j)\/ (¬x =y/\decide (y < x)=r) :=by
          rcases Nat.lt_trichotomy x y with h|h|h
          ·right;refine⟨by omega,?_⟩;rw[HC.out.1 h];simp;omega
          ·left;exact⟨h,HC.out.2.2 h⟩
          ·right;refine⟨by omega,?_⟩;rw[HC.out.2.1 h];simp;omega
        clear HC W0 W0a
        rcases key with⟨rfl,hg⟩| ⟨hne,hg⟩
        · have hg:=hid hg
          have hv:((x:Int) !=(x:Int))=false:=zh
          go_wp2_with fail
          refine zC HA'.out ?_
          rintro e w9 ⟨rfl,rfl⟩
          go_wp2_with fail
          refine zC HB'.out ?_
          rintro e w9 ⟨rfl,rfl⟩
          go_wp2_with fail
          go_roundw
          case rel =>exact⟨(j:Int) - 1,by omega,by omega,rfl,by rw[show((j:Int) - 1 + 1).toNat =j from by omega];exact hg,hext⟩
          case measure =>simp[intOf]
        · have hv:((x:Int) !=(y:Int))=true:=by rw[bne_iff_ne];omega
          have Hg:=hid hg
          clear hg
          go_wp2_with fail
          refine zC HA'.out ?_
          rintro e w9 ⟨rfl,rfl⟩
          go_wp2_with fail
          refine zC HB'.out ?_
          rintro e w9 ⟨rfl,rfl⟩
          go_wp2_with fail
          refine zC HA'.out ?_
          rintro e w9 ⟨rfl,rfl⟩
          go_wp2_with fail
          refine zC HB'.out ?_
          rintro e w9 ⟨rfl,rfl⟩
          go_wp2_with fail
          go_ret
          exact⟨by rw[<-Hg.out];rfl,hext⟩
      · obtain rfl:z = -1:=by omega
        have hv:SameUp A B 0:=hsame.out
        have hg:=hid (show r =true by rw[Hr.out,hv.eq];simp)
        clear hv hsame
        go_wp2_with fail
        go_ret
        exact⟨by rw[hg.out];rfl,hext⟩
end Go.Proofs.YtknffgdbdadpcaaGreatDoor
