/-
  Words and small laws that all walks of this claim use: 'Ext' (the heap has grown and nothing that was there has changed), slices of words, naturals and integers in memory. No condition. trim of package integer, and of the reference: zeros at the end are taken away. Every slice of words. Rows of words that a call itself has made ('Own'): made, copied into, read, written. No condition. math/bits.Add32, Sub32 and Div32 at words: Add32, Sub32: every two words, the carry 0 or 1; Div32: the high word less than the divisor. Plain laws on the numbers that words stand for: prefixes, sums, differences, products word by word. No program.
-/
import Derived.WalkKit
import Derived.WalkSmall
import Derived.Deep.QuietTactic
import Derived.BigQuiet
import Derived.Test.YtenhciieboegbaaGreatDoorProg
import Derived.WalkLawsBesides
import Derived.WalkSpells
import Derived.Laws.CopyOwn
namespace Go.Proofs.YtenhciieboegbaaGreatDoor
open Go Go.RowKit
open Go.Proofs.Tryz
theorem ze{P:Prop}(h:P:=by omega):P:=h
theorem zo{P:Prop}(h:P:=by simp):P:=h
theorem jv{P:Prop}(h:P:=by simp;omega):P:=h
abbrev zR:=@Nat.lt_or_ge
abbrev zO:=@Nat.le_trans
abbrev zN:=@Nat.le_refl
theorem dcx{p:Prop}[Decidable p](h:decide p=true:=by decide):p:=of_decide_eq_true h
set_option maxHeartbeats 400000
theorem hid{p:Prop}(h:p):Hid p:=h
def Ext(w w':World):Prop:=Below w.heap.size w w'
theorem Ext.refl(w:World):Ext w w:=Below.refl _ _
theorem Ext.trans{a b c:World}(h:Ext a b)(k:Ext b c):Ext a c:=Below.trans h (Below.mono k (Below.size h))
theorem Ext.size{a b:World}(h:Ext a b):a.heap.size <=b.heap.size:=Below.size h
theorem Ext.alloc{a w:World}(h:Ext a w)(o:Obj):Ext a (w.alloc o) :=Below.alloc h (Below.size h) o
theorem Ext.drew{a w:World}(h:Ext a w):Ext a w.drew:=Below.drew h
theorem Ext.drewN{a w:World}(h:Ext a w)(n:Nat):Ext a (w.drewN n) :=below_drewN h n
theorem Ext.set{a w:World}(h:Ext a w){p:Addr}(hp:a.heap.size <=p.block)(u:Value):Ext a (w.setCell p u) :=Below.setCell h hp u
theorem Ext.cell{a w:World}(h:Ext a w){p:Addr}{v:Value}(hc:a.cell? p =some v):w.cell? p =some v:=
  (Below.cell h (World.block_lt_of_cell? a p hc)).trans hc
theorem Ext.frozen{a w:World}(h:Ext a w){p:Addr}(hp:p.block < a.heap.size):w.frozen? p =a.frozen? p:=Below.frozen h hp
def qF:List Nat ->Nat
  | [] =>0
  |x ::xs =>x + 4294967296 * qF xs
structure Wd (w:World) (ao:Option Addr) (n cap:Nat) (xs:List Nat):Prop where
  len:xs.length =n
  capo:n <=cap
  big:cap <=9223372036854775807
  lt:∀i,xs.getD i 0 < 4294967296
  at_:n =0\/∃b off,ao =some ⟨b,off,none⟩/\b < w.heap.size/\∀j,j < n ->w.cell? ⟨b,off + j,none⟩=some (.int .u32 ((xs.getD j 0:Nat):Int))
theorem Wd.ext{w w':World}{ao:Option Addr}{n cap:Nat}{xs:List Nat}(h:Wd w ao n cap xs)(e:Ext w w'):Wd w' ao n cap xs:=
  ⟨h.len,h.capo,h.big,h.lt,h.at_.imp id λ⟨b,off,h1,h2,h3⟩ =>⟨b,off,h1,Nat.lt_of_lt_of_le h2 e.size,λj hj =>e.cell (h3 j hj)⟩⟩
def NatAt(w:World)(k:Nat)(ao:Option Addr)(n cap:Nat)(m:Nat):Prop:=
  ∃xs,Wd w ao n cap xs/\n <=k/\ (0 < n ->xs.getD (n - 1) 0≠0)/\qF xs =m
theorem NatAt.ext{w w':World}{k n cap m:Nat}{ao:Option Addr}(h:NatAt w k ao n cap m)(e:Ext w w'):NatAt w' k ao n cap m:=
  let ⟨xs,h1,h2⟩ :=h;⟨xs,h1.ext e,h2⟩
theorem NatAt.mono{w:World}{k k' n cap m:Nat}{ao:Option Addr}(h:NatAt w k ao n cap m)(e:k <=k'):NatAt w k' ao n cap m:=
  let ⟨xs,h1,h2,h3⟩ :=h;⟨xs,h1,zO h2 e,h3⟩
theorem NatAt.le{w:World}{k n cap m:Nat}{ao:Option Addr}(h:NatAt w k ao n cap m):n <=k:=let ⟨_,_,h2,_⟩ :=h;h2
def IntAt(w:World)(k:Nat)(neg:Bool)(ao:Option Addr)(n cap:Nat)(z:Int):Prop:=
  ∃m,NatAt w k ao n cap m/\ (n =0 ->neg =false)/\z =if neg then -(m:Int)else m
theorem IntAt.ext{w w':World}{k n cap:Nat}{neg:Bool}{z:Int}{ao:Option Addr}(h:IntAt w k neg ao n cap z)(e:Ext w w'):IntAt w' k neg ao n cap z:=
  let ⟨m,h1,h2⟩ :=h;⟨m,h1.ext e,h2⟩
theorem IntAt.mono{w:World}{k k' n cap:Nat}{neg:Bool}{z:Int}{ao:Option Addr}(h:IntAt w k neg ao n cap z)(e:k <=k'):IntAt w k' neg ao n cap z:=
  let ⟨m,h1,h2⟩ :=h;⟨m,h1.mono e,h2⟩
/-! ### What calls hand back -/
def RNat(w0:World)(k m:Nat)(e:Ending)(w':World):Prop:=
  ∃ao n cap,e =.returned (.slice ao n cap)/\Ext w0 w'/\NatAt w' k ao n cap m
def RInt(w0:World)(k:Nat)(z:Int)(e:Ending)(w':World):Prop:=
  ∃neg ao n cap,e =.returned (.agg #[.bool neg,.slice ao n cap])/\Ext w0 w'/\IntAt w' k neg ao n cap z
def RVal(w0:World)(v:Value)(e:Ending)(w':World):Prop:=e =.returned v/\Ext w0 w'
def RSame(w:World)(v:Value)(e:Ending)(w':World):Prop:=e =.returned v/\w =w'
theorem RSame.mk'{w:World}{v u:Value}(h:v =u):RSame w u (.returned v) w:=⟨by rw[h],rfl⟩
/-! ### Plain laws on words -/
theorem natVal_append(xs ys:List Nat):qF (xs ++ys)=qF xs + 4294967296 ^ xs.length * qF ys:=by
  induction xs with
  |nil =>simp[qF]
  |cons x xs ih =>simp[qF,ih,Nat.pow_succ];grind
theorem natVal_lt(xs:List Nat)(h:∀i,xs.getD i 0 < 4294967296):qF xs < 4294967296 ^ xs.length:=by
  induction xs with
  |nil =>simp[qF]
  | cons x xs ih =>
    have h0:=h 0
    have h1:=ih (λi =>by simpa using h (i + 1))
    simp only[qF,List.length_cons,Nat.pow_succ]
    simp at h0
    omega
theorem jQ(xs:List Nat)(k:Nat)(h:k < xs.length):
    qF (xs.take (k + 1))=qF (xs.take k) + 4294967296 ^ k * xs.getD k 0:=by
  rw[List.take_add_one,natVal_append]
  simp[h,qF,List.getD,Nat.min_eq_left (Nat.le_of_lt h)]
theorem getD_take(xs:List Nat)(k i:Nat)(h:i < k):(xs.take k).getD i 0 =xs.getD i 0:=by
  simp[List.getD,h]
theorem natVal_take_zero(xs:List Nat)(k:Nat)(h:xs.getD k 0 =0):qF (xs.take (k + 1))=qF (xs.take k) :=by
  by_cases hk:k < xs.length
  ·rw[jQ xs k hk,h];simp
  ·rw[List.take_of_length_le (by omega),List.take_of_length_le (by omega)]
theorem Wd.take{w:World}{ao:Option Addr}{n cap:Nat}{xs:List Nat}(h:Wd w ao n cap xs)(k:Nat)(hk:k <=n):Wd w ao k cap (xs.take k) :=by
  have hl:=h.len
  refine⟨by simp;omega,by have:=h.capo;omega,h.big,λi =>?_,?_⟩
  · have:=h.lt i
    by_cases hi:i < k
    ·rw[getD_take _ _ _ hi];exact this
    ·simp[List.getD,List.getElem?_take,hi]
  · rcases h.at_ with h0| ⟨b,off,h1,h2,h3⟩
    ·left;omega
    · refine .inr ⟨b,off,h1,h2,λj hj =>?_⟩
      rw[getD_take _ _ _ hj];exact h3 j ze
theorem Wd.shape{w:World}{ao:Option Addr}{n cap:Nat}{xs:List Nat}(h:Wd w ao n cap xs):n <=0\/∃b off,ao =some ⟨b,off,none⟩/\b < w.heap.size:=
  h.at_.imp Nat.le_of_eq λ⟨b,off,h1,h2,_⟩ =>⟨b,off,h1,h2⟩
theorem Wd.cell{w:World}{b off n cap:Nat}{xs:List Nat}(h:Wd w (some ⟨b,off,none⟩) n cap xs)(k:Nat)(hk:k < n):w.cell? ⟨b,off + k,none⟩=some (.int .u32 ((xs.getD k 0:Nat):Int)) :=by
  rcases h.at_ with h0| ⟨b',off',h1,_,h3⟩
  ·omega
  · simp only[Option.some.injEq,Addr.mk.injEq,and_true]at h1
    obtain⟨rfl,rfl⟩ :=h1
    exact h3 k hk
theorem wd_nil(w:World)(ao:Option Addr)(cap:Nat)(h:cap <=9223372036854775807):Wd w ao 0 cap [] :=
  ⟨rfl,Nat.zero_le _,h,λi =>by simp,.inl rfl⟩
theorem trim_wd(w:World)(ao:Option Addr)(n cap:Nat)(xs:List Nat)(h:Wd w ao n cap xs):
    Calls prog 162 #[.slice ao n cap] w λe w' =>∃n',e =.returned (.slice ao n' cap)/\w =w'/\NatAt w n ao n' cap (qF xs) :=by
  have hl:=h.len
  have hcapo:=h.capo
  have hbig:=h.big
  have hfull:qF (xs.take n)=qF xs:=by rw[List.take_of_length_le (by omega)]
  have fin:∀k,k <=n ->qF (xs.take k)=qF (xs.take n) ->(0 < k ->xs.getD (k - 1) 0≠0) ->NatAt w n ao k cap (qF xs) :=λk hk he hz =>
    ⟨xs.take k,h.take k hk,hk,λh0 =>by rw[getD_take _ _ _ (by omega)];exact hz h0,by rw[he,hfull]⟩
  have step:∀k,0 < k ->xs.getD (k - 1) 0 =0 ->qF (xs.take (k - 1))=qF (xs.take k) :=λk h0 hz =>by
    have:=natVal_take_zero xs (k - 1) hz
    rw[show k - 1 + 1 =k from by omega]at this
    exact this.symm
  have Hfin:=hid fin
  have Hstep:=hid step
  have Hfull:=hid hfull
  clear fin step hfull
  rcases h.at_ with rfl| ⟨b,off,rfl,hb,hc⟩
  · clear h
    go_enter func162,ntmps162
    go_wp2
    refine wp_loop_rounds 1 ?_
    rw[rounds_succ]
    go_wp2
    go_ret
    exact⟨0,rfl,rfl,Hfin.out 0 ze rfl ze⟩
  · clear h
    have HC:=hid hc
    clear hc
    go_enter func162,ntmps162
    go_wp2
    go_loop [0] (λv =>∃k:Nat,k <=n/\v =.slice (some ⟨b,off,none⟩) k cap/\Hid (qF (xs.take k)=qF (xs.take n))) (λv =>match v with| .slice _ k _ =>k|_ =>0)
    case atStart =>exact⟨n,by omega,rfl,rfl⟩
    case round =>
      obtain⟨k,hk,rfl,hkeep⟩ :=hrel
      by_cases h0:0 < k
      · have hcell:=HC.out (k - 1) ze
        by_cases hz:xs.getD (k - 1) 0 =0
        · have hz2:((xs.getD (k - 1) 0:Nat):Int)=0:=by omega
          rw[hz2]at hcell
          have Hz:=hid hz
          clear hz hz2
          go_wp2
          go_round
          case rel =>exact⟨k - 1,by omega,rfl,(Hstep.out k h0 Hz.out).trans hkeep⟩
          case measure =>simp;omega
        · obtain⟨x,hx⟩:∃x,x =xs.getD (k - 1) 0:=⟨_,rfl⟩
          rw[<-hx]at hcell
          have hz2:((x:Int) ==0)=false:=by simpa [hx]using hz
          have Hz:=hid hz
          clear hz hx
          go_wp2
          go_ret
          exact⟨k,rfl,rfl,Hfin.out k hk hkeep (λ_ =>Hz.out)⟩
      · go_wp2
        go_ret
        exact⟨k,rfl,rfl,Hfin.out k hk hkeep (λh =>absurd h h0)⟩
theorem trim_c(w:World)(ao:Option Addr)(n cap:Nat)(xs:List Nat)(h:Wd w ao n cap xs):
    Calls prog 162 #[.slice ao n cap] w (RNat w n (qF xs)) :=
  (trim_wd w ao n cap xs h).mono λ_ _ ⟨n',h1,h2,h3⟩ =>⟨ao,n',cap,h1,h2 ▸ Ext.refl _,h2 ▸ h3⟩
theorem Tryz.infoU32:(prog.info? 97).map (λi =>(i.zero,i.size,i.bytes))=some (some (.int .u32 0),1,4) :=by kernel_rfl
theorem Tryz.sizeU32:(prog.info? 97).map (·.size)=some 1:=by kernel_rfl
def qL(ys:List Nat):List Value:=ys.map (λ(y:Nat) =>Value.int .u32 (y:Int))
theorem qK(ys:List Nat):(qL ys).length =ys.length:=by simp[qL]
theorem jA?(ys:List Nat)(i:Nat)(h:i < ys.length):(qL ys)[i]? =some (.int .u32 ((ys.getD i 0:Nat):Int)) :=by
  simp[qL,List.getD,h]
def Own(w:World)(g:Nat)(ys:List Nat):Prop:=w.heap[g]? =some (.cells (qL ys).toArray 97 (0,0))
theorem Own.lt{w:World}{g:Nat}{ys:List Nat}(h:Own w g ys):g < w.heap.size:=by
  rcases zR g w.heap.size with h1|h1
  ·exact h1
  ·unfold Own at h;simp[Array.getElem?_eq_none h1]at h
theorem Own.cell{w:World}{g:Nat}{ys:List Nat}(h:Own w g ys)(i:Nat)(hi:i < ys.length):w.cell? ⟨g,i,none⟩=some (.int .u32 ((ys.getD i 0:Nat):Int)) :=by
  have:=jA? ys i hi
  simp only[World.cell?]
  rw[h]
  simpa using this
theorem Own.free{w:World}{g:Nat}{ys:List Nat}(h:Own w g ys)(i:Nat):w.frozen? ⟨g,i,none⟩=false:=by
  simp only[World.frozen?]
  rw[h]
  simp
theorem Own.set{w:World}{g:Nat}{ys:List Nat}(h:Own w g ys)(i y:Nat):Own (w.setCell ⟨g,i,none⟩ (.int .u32 (y:Int))) g (ys.set i y) :=by
  unfold Own at *
  simp only[World.setCell,Array.getElem?_modify,if_true]
  rw[h]
  simp[qL,List.map_set]
theorem Own.ext{w w':World}{g:Nat}{ys:List Nat}(h:Own w g ys)(e:Ext w w'):Own w' g ys:=by
  have:=Below.block e g h.lt
  unfold Own at *
  rw[this];exact h
theorem Own.wd{w:World}{g:Nat}{ys:List Nat}(h:Own w g ys)(hl:∀i,ys.getD i 0 < 4294967296)(cap:Nat)(hc:ys.length <=cap)(hb:cap <=140737488355328):
    Wd w (some ⟨g,0,none⟩) ys.length cap ys:=
  ⟨rfl,hc,zO hb (by decide),hl,.inr ⟨g,0,rfl,h.lt,λj hj =>by rw[Nat.zero_add];exact h.cell j hj⟩⟩
theorem wcells_replicate(n:Nat):qL (List.replicate n 0)=List.replicate n (.int .u32 0) :=by simp[qL]
theorem wpl_make{w:World}{ops:Array Oper}{rest:List Oper}{o:Oper}{a:Act}{Q:Exit ->Act ->World ->Prop}
    (hg:o.guard =none) (l c:Operand) (t:TypeId) (hop:o.op =Op.makeSlice t l c) (ht:prog.underlying t =some (.slice 97))
    (L C:Int) (n:Nat) (hl:a.eval l =.int .i64 L) (hc:a.eval c =.int .i64 C) (hL:L =(n:Int)) (hC:C =(n:Int)) (hn:n <=1099511627776)
    (hK:∀w',Ext w w' ->w.heap.size < w'.heap.size ->Own w' w.heap.size (List.replicate n 0) ->wpList prog ops Q rest (a.put o.dst (.slice (some ⟨w.heap.size,0,none⟩) n n)) w') :
    wpList prog ops Q (o ::rest) a w:=by
  obtain⟨i,hi,hz0,hz1,hz2⟩ :=info_parts Tryz.infoU32
  refine wpList_make_full w hg l c t hop w.heap.size 97 i (.int .u32 0) 1 ht hi hz0 hz1 .i64 .i64 L C n hl hc hL hC (by rw[hz2];omega) (by unfold maxLen;omega) (zN _) ?_
  intro w' hown hgr
  have hcur:=hown
  obtain⟨hlen,h1| ⟨g,cap,cur,h2,h3,h4,h5,h6,h7,h8⟩⟩ :=hown
  ·simp at h1
  · simp only[Value.slice.injEq,Option.some.injEq,Addr.mk.injEq,and_true,true_and]at h2
    obtain⟨h2,rfl⟩ :=h2
    subst h2
    have hown':Own w' w.heap.size (List.replicate n 0) :=by
      unfold Own
      rw[h4,wcells_replicate]
      have e1:cur.toList =List.replicate n (.int .u32 0) :=by
        rw[List.take_of_length_le (by simp;omega)]at h8
        rw[h8,show(Value.int IntKind.u32 0).cells = #[.int .u32 0]from rfl,toList_madeCells_one]
        simp
      rw[<-e1]
    refine hK w' ?_ hown'.lt hown'
    exact⟨hgr.os,hgr.tape,hgr.output,hgr.size,λk hk =>hgr.block k hk zo⟩
theorem wpl_copy{w:World}{ops:Array Oper}{rest:List Oper}{o:Oper}{a:Act}{Q:Exit ->Act ->World ->Prop}(w0:World)
    (hgd:o.guard =none) (d s:Operand) (dT sT:TypeId)
    (ho:o.op =.call {callee:=.builtin .copy,args:= #[d,s],argTypes:= #[dT,sT]}) (hu:prog.underlying dT =some (.slice 97))
    (g N:Nat) (ao:Option Addr) (n cap:Nat) (hd:a.eval d =.slice (some ⟨g,0,none⟩) N N) (hs:a.eval s =.slice ao n cap)
    (ys xs:List Nat) (hown:Own w g ys) (hN:ys.length =N) (hx:Wd w ao n cap xs) (hnN:n <=N) (he:Ext w0 w) (hg:w0.heap.size <=g)
    (hK:∀w',Own w' g (xs ++ys.drop n) ->Ext w0 w' ->wpList prog ops Q rest (a.put o.dst (.int .i64 n)) w') :
    wpList prog ops Q (o ::rest) a w:=by
  have hlen:=hx.len
  refine wpList_copy_splice hgd d s dT sT ho 97 hu Tryz.sizeU32 _ _ _ _ _ _ hd hs g 0 (qL ys) 97 hown (qL xs) ?_ ?_ ?_ ?_ w0.heap.size w0 he hg ?_
  ·rw[qK,hlen];exact(Nat.min_eq_left hnN).symm
  · intro hpos
    refine⟨rfl,?_⟩
    rw[qK,hlen]at hpos
    rcases hx.at_ with h0| ⟨b,off,h1,h2,h3⟩
    ·omega
    · refine⟨_,h1,λj v hj =>?_⟩
      have hjn:j < n:=by
        rcases zR j n with h|h
        ·exact h
        ·rw[List.getElem?_eq_none (by rw[qK];omega)]at hj;cases hj
      rw[jA? _ _ (by omega)]at hj
      have:=h3 j hjn
      rw[hj]at this
      by_cases hj0:j =0
      ·subst hj0;simpa [Addr.add]using this
      ·simpa [Addr.add,hj0]using this
  ·rw[qK,qK];omega
  · intro v hv
    simp only[qL,List.mem_map]at hv
    obtain⟨y,_,rfl⟩ :=hv
    rfl
  · intro w' h1 h2
    rw[qK,hlen]
    refine hK w' ?_ h2
    have h1':=h1.out
    unfold Own
    rw[h1']
    simp[splice,qL,hlen]
theorem wd_new1(w:World)(r:Nat)(hr:r < 4294967296):Wd (w.alloc (.cells #[.int .u32 (r:Nat)] 97)) (some ⟨w.heap.size,0,none⟩) 1 1 [r] :=by
  have ho:Own (w.alloc (.cells #[.int .u32 (r:Nat)] 97)) w.heap.size [r] :=by
    show(w.heap.push _)[w.heap.size]? =_
    simp[qL]
  have:=ho.wd (λi =>by cases i <;> simp[hr]) 1 zo ze
  simpa using this
theorem tuple2{k l:IntKind}{a b c d:Int}(h:a =c)(h':b =d):Value.tuple #[.int k a,.int l b]=.tuple #[.int k c,.int l d] :=by rw[h,h']
theorem add32_c(x y c:Nat)(hx:x < 4294967296)(hy:y < 4294967296)(hc:c <=1)(w:World):
    Calls prog 186 #[.int .u32 (x:Int),.int .u32 (y:Int),.int .u32 (c:Int)] w
      (RSame w (.tuple #[.int .u32 (((x + y + c) % 4294967296:Nat):Int),.int .u32 (((x + y + c) / 4294967296:Nat):Int)])) :=by
  go_enter func186,ntmps186
  go_wp2
  go_ret2
  exact RSame.mk' (tuple2 ze ze)
theorem div32_c(hi lo d:Nat)(hh:hi < d)(hl:lo < 4294967296)(hd:d < 4294967296)(w:World):
    Calls prog 161 #[.int .u32 (hi:Int),.int .u32 (lo:Int),.int .u32 (d:Int)] w λe w' =>
      e =.returned (.tuple #[.int .u32 (((hi * 4294967296 + lo) / d:Nat):Int),.int .u32 (((hi * 4294967296 + lo) % d:Nat):Int)])/\Ext w w':=by
  have h1:((d:Int) !=0)=true:=by rw[bne_iff_ne];omega
  have h2:decide ((d:Int) <=(hi:Int))=false:=jv
  have h3:bits .or .u64 ((hi:Int) * 4294967296) (lo:Int)=((hi * 4294967296 + lo:Nat):Int) :=by
    have:=u64_or_nat (hi * 4294967296) lo ze ze
    rw[nat_join 32 _ _ (by omega) (by omega)]at this
    simpa using this
  go_enter func161,ntmps161
  go_wp2_with fail
  have hd0:¬(d:Int)=0:=ze
  go_quiet (fail)
  go_wp2
  go_ret2
  have hq:(hi * 4294967296 + lo) / d < 4294967296:=Nat.div_lt_of_lt_mul (by have:=Nat.mul_le_mul_right 4294967296 (show hi + 1 <=d from hh);omega)
  have hr:(hi * 4294967296 + lo) % d < d:=Nat.mod_lt _ ze
  have q1:((hi:Int) * 4294967296 + lo) / d =((hi * 4294967296 + lo) / d:Nat) :=zo
  have r1:((hi:Int) * 4294967296 + lo) % d =((hi * 4294967296 + lo) % d:Nat) :=zo
  refine⟨?_,(Ext.refl w).drewN _⟩
  refine congrArg Ending.returned (tuple2 ?_ ?_)
  ·rw[q1];generalize(hi * 4294967296 + lo) / d =q at hq ⊢;clear q1 r1 hr h3 h2 h1;omega
  ·rw[r1];generalize(hi * 4294967296 + lo) % d =q at hr ⊢;clear q1 r1 hq h3 h2 h1;omega
def pv(xs:List Nat):Nat ->Nat
  |0 =>0
  |k + 1 =>pv xs k + 4294967296 ^ k * xs.getD k 0
theorem pv_take(xs:List Nat)(k:Nat):pv xs k =qF (xs.take k) :=by
  induction k with
  |zero =>simp[pv,qF]
  | succ k ih =>
    rw[pv,ih]
    by_cases h:k < xs.length
    ·rw[jQ xs k h]
    · rw[List.take_of_length_le (by omega),List.take_of_length_le (by omega)]
      simp[List.getD,List.getElem?_eq_none (by omega:xs.length <=k)]
theorem zA(xs:List Nat)(k:Nat)(h:xs.length <=k):pv xs k =qF xs:=by
  rw[pv_take,List.take_of_length_le h]
theorem pv_lt(xs:List Nat)(h:∀i,xs.getD i 0 < 4294967296)(k:Nat):pv xs k < 4294967296 ^ k:=by
  induction k with
  |zero =>simp[pv]
  | succ k ih =>
    rw[pv,Nat.pow_succ]
    have h1:=h k
    have h2:4294967296 ^ k * xs.getD k 0 <=4294967296 ^ k * 4294967295:=Nat.mul_le_mul_left _ ze
    omega
theorem pv_congr{xs ys:List Nat}{k:Nat}(h:∀i,i < k ->xs.getD i 0 =ys.getD i 0):pv xs k =pv ys k:=by
  induction k with
  |zero =>rfl
  |succ k ih =>rw[pv,pv,ih (λi hi =>h i (by omega)),h k (by omega)]
theorem jH(ys:List Nat)(k y i:Nat)(hk:k < ys.length):(ys.set k y).getD i 0 =if i =k then y else ys.getD i 0:=by
  by_cases h:i =k
  ·subst h;simp[List.getD,hk]
  · have h':k≠i:=λe =>h e.symm
    simp[List.getD,h,h']
theorem pv_set(ys:List Nat)(k y:Nat)(hk:k < ys.length):pv (ys.set k y) k =pv ys k:=
  pv_congr λi hi =>by rw[jH _ _ _ _ hk,if_neg (by omega)]
theorem getD_append(xs ys:List Nat)(i:Nat):(xs ++ys).getD i 0 =if i < xs.length then xs.getD i 0 else ys.getD (i - xs.length) 0:=by
  by_cases h:i < xs.length
  ·simp[List.getD,h,List.getElem?_append_left h]
  ·simp[List.getD,h,List.getElem?_append_right (by omega:xs.length <=i)]
theorem getD_zeros(n i:Nat):(List.replicate n 0).getD i 0 =0:=by
  simp only[List.getD,List.getElem?_replicate]
  split <;> rfl
theorem getD_big(xs:List Nat)(i:Nat)(h:xs.length <=i):xs.getD i 0 =0:=by
  simp[List.getD,List.getElem?_eq_none h]
theorem getD_drop_zeros(n k i:Nat):((List.replicate n 0).drop k).getD i 0 =0:=by
  rw[List.drop_replicate];exact getD_zeros _ _
theorem natVal_set(ys:List Nat)(k y:Nat)(hk:k < ys.length):qF (ys.set k y) + 4294967296 ^ k * ys.getD k 0 =qF ys + 4294967296 ^ k * y:=by
  induction ys generalizing k with
  |nil =>simp at hk
  | cons a ys ih =>
    cases k with
    |zero =>simp[qF];omega
    | succ k =>
      have:=ih k (by simpa using hk)
      simp only[List.set_cons_succ,qF,List.getD_cons_succ,Nat.pow_succ]
      grind
theorem natVal_zeros(n:Nat):qF (List.replicate n 0)=0:=by
  induction n with
  |zero =>rfl
  |succ n ih =>rw[List.replicate_succ,qF,ih]
theorem add_step(P A B k a b c q r:Nat)(hinv:P + 4294967296 ^ k * c =A + B)(hq:q =(a + b + c) / 4294967296)(hr:r =(a + b + c) % 4294967296):
    P + 4294967296 ^ k * r + 4294967296 ^ (k + 1) * q =A + 4294967296 ^ k * a + (B + 4294967296 ^ k * b) :=by
  have h:4294967296 * q + r =a + b + c:=by subst hq hr;omega
  have h2:4294967296 ^ k * (4294967296 * q + r)=4294967296 ^ k * (a + b + c) :=by rw[h]
  grind
def qB(l:List UInt8):Value:=.string ⟨l.toArray⟩
end Go.Proofs.YtenhciieboegbaaGreatDoor
