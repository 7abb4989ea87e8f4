/- Lemmas. -/
import Derived.WalkKit
import Derived.WalkSmall
import Derived.Deep.QuietTactic
import Derived.BigQuiet
import Derived.Test.YtkeikfekkdplgaaGreatDoorProg
import Derived.WalkLawsBesides
import Derived.WalkSpells
import Derived.Laws.CopyOwn
namespace Go.Proofs.YtkeikfekkdplgaaGreatDoor
section
open Go Go.RowKit
open Go.Proofs.Tryz
abbrev jY:=@decide_eq_true_eq
abbrev jV:=@Nat.mod_lt
abbrev jU:=@Nat.lt_or_ge
abbrev jS:=@Below.refl
abbrev jQ:=@Nat.le_trans
abbrev jP:=@Nat.le_refl
theorem dcx{p:Prop}[Decidable p](h:decide p=true:=by decide):p:=of_decide_eq_true h
set_option maxHeartbeats 400000
theorem uAx{α:Type _}(l:List α)(i:Nat)(a:α):l.toArray.setIfInBounds i a =(l.set i a).toArray:=by simp
theorem u0x{α:Type _}(a b:α)(l:List α):(a ::l).set 0 b =b ::l:=rfl
theorem u1x{α:Type _}(a b:α)(l:List α)(i:Nat):(a ::l).set (i + 1) b =a ::l.set i b:=rfl
theorem hid{p:Prop}(h:p):Hid p:=h
def Ext(w w':World):Prop:=Below w.heap.size w w'
theorem Ext.refl(w:World):Ext w w:=jS _ _
theorem Ext.trans{a b c:World}(h:Ext a b)(k:Ext b c):Ext a c:=Below.trans h (Below.mono k (Below.size h))
theorem Ext.size{a b:World}(h:Ext a b):a.heap.size <=b.heap.size:=Below.size h
theorem Ext.alloc{a w:World}(h:Ext a w)(o:Obj):Ext a (w.alloc o) :=Below.alloc h (Below.size h) o
theorem Ext.drew{a w:World}(h:Ext a w):Ext a w.drew:=Below.drew h
theorem Ext.drewN{a w:World}(h:Ext a w)(n:Nat):Ext a (w.drewN n) :=below_drewN h n
theorem Ext.set{a w:World}(h:Ext a w){p:Addr}(hp:a.heap.size <=p.block)(u:Value):Ext a (w.setCell p u) :=Below.setCell h hp u
theorem Ext.cell{a w:World}(h:Ext a w){p:Addr}{v:Value}(hc:a.cell? p =some v):w.cell? p =some v:=
 (Below.cell h (World.block_lt_of_cell? a p hc)).trans hc
theorem Ext.frozen{a w:World}(h:Ext a w){p:Addr}(hp:p.block < a.heap.size):w.frozen? p =a.frozen? p:=Below.frozen h hp
def qD:List Nat ->Nat
 | [] =>0
 |x ::xs =>x + 4294967296 * qD xs
structure Wd (w:World) (ao:Option Addr) (n cap:Nat) (xs:List Nat):Prop where
 len:xs.length =n
 capo:n <=cap
 big:cap <=9223372036854775807
 lt:∀i,xs.getD i 0 < 4294967296
 at_:n =0\/∃b off,ao =some ⟨b,off,none⟩/\b < w.heap.size/\∀j,j < n ->w.cell? ⟨b,off + j,none⟩=some (.int .u32 ((xs.getD j 0:Nat):Int))
theorem Wd.ext{w w':World}{ao:Option Addr}{n cap:Nat}{xs:List Nat}(h:Wd w ao n cap xs)(e:Ext w w'):Wd w' ao n cap xs:=
 ⟨h.len,h.capo,h.big,h.lt,h.at_.imp id λ⟨b,off,h1,h2,h3⟩ =>⟨b,off,h1,Nat.lt_of_lt_of_le h2 e.size,λj hj =>e.cell (h3 j hj)⟩⟩
def NatAt(w:World)(k:Nat)(ao:Option Addr)(n cap:Nat)(m:Nat):Prop:=
 ∃xs,Wd w ao n cap xs/\n <=k/\ (0 < n ->xs.getD (n - 1) 0≠0)/\qD xs =m
theorem NatAt.ext{w w':World}{k n cap m:Nat}{ao:Option Addr}(h:NatAt w k ao n cap m)(e:Ext w w'):NatAt w' k ao n cap m:=
 let ⟨xs,h1,h2⟩ :=h;⟨xs,h1.ext e,h2⟩
theorem NatAt.mono{w:World}{k k' n cap m:Nat}{ao:Option Addr}(h:NatAt w k ao n cap m)(e:k <=k'):NatAt w k' ao n cap m:=
 let ⟨xs,h1,h2,h3⟩ :=h;⟨xs,h1,jQ h2 e,h3⟩
theorem NatAt.le{w:World}{k n cap m:Nat}{ao:Option Addr}(h:NatAt w k ao n cap m):n <=k:=let ⟨_,_,h2,_⟩ :=h;h2
def IntAt(w:World)(k:Nat)(neg:Bool)(ao:Option Addr)(n cap:Nat)(z:Int):Prop:=
 ∃m,NatAt w k ao n cap m/\ (n =0 ->neg =false)/\z =if neg then -(m:Int)else m
theorem IntAt.ext{w w':World}{k n cap:Nat}{neg:Bool}{z:Int}{ao:Option Addr}(h:IntAt w k neg ao n cap z)(e:Ext w w'):IntAt w' k neg ao n cap z:=
 let ⟨m,h1,h2⟩ :=h;⟨m,h1.ext e,h2⟩
theorem IntAt.mono{w:World}{k k' n cap:Nat}{neg:Bool}{z:Int}{ao:Option Addr}(h:IntAt w k neg ao n cap z)(e:k <=k'):IntAt w k' neg ao n cap z:=
 let ⟨m,h1,h2⟩ :=h;⟨m,h1.mono e,h2⟩
/-! ### What calls hand back -/
def RNat(w0:World)(k m:Nat)(e:Ending)(w':World):Prop:=
 ∃ao n cap,e =.returned (.slice ao n cap)/\Ext w0 w'/\NatAt w' k ao n cap m
def RInt(w0:World)(k:Nat)(z:Int)(e:Ending)(w':World):Prop:=
 ∃neg ao n cap,e =.returned (.agg #[.bool neg,.slice ao n cap])/\Ext w0 w'/\IntAt w' k neg ao n cap z
def RVal(w0:World)(v:Value)(e:Ending)(w':World):Prop:=e =.returned v/\Ext w0 w'
def RSame(w:World)(v:Value)(e:Ending)(w':World):Prop:=e =.returned v/\w =w'
theorem RSame.mk'{w:World}{v u:Value}(h:v =u):RSame w u (.returned v) w:=⟨by rw[h],rfl⟩
theorem quiet_same{P:Program}{f:FuncId}{args:Array Value}{w:World}{n:Nat}{v:Value}(h:Calls P f args (w.drewN n) (RSame (w.drewN n) v)):
  Calls P f args (w.drewN n) λe w'' =>e =.returned v/\∃m,w'' =w.drewN m:=
 h.mono λ_ _ ⟨he,hm⟩ =>⟨he,n,hm.symm⟩
/-! ### Plain laws on words -/
theorem natVal_append(xs ys:List Nat):qD (xs ++ys)=qD xs + 4294967296 ^ xs.length * qD ys:=by
 induction xs with
 |nil =>simp[qD]
 |cons x xs ih =>simp[qD,ih,Nat.pow_succ];grind
theorem xR(xs:List Nat)(h:∀i,xs.getD i 0 < 4294967296):qD xs < 4294967296 ^ xs.length:=by
 induction xs with
 |nil =>simp[qD]
 | cons x xs ih =>
  have h0:=h 0
  have h1:=ih (λi =>by simpa using h (i + 1))
  simp only[qD,List.length_cons,Nat.pow_succ]
  simp at h0
  omega
theorem natVal_take_succ(xs:List Nat)(k:Nat)(h:k < xs.length):
  qD (xs.take (k + 1))=qD (xs.take k) + 4294967296 ^ k * xs.getD k 0:=by
 rw[List.take_add_one,natVal_append]
 simp[h,qD,List.getD,Nat.min_eq_left (Nat.le_of_lt h)]
theorem getD_take(xs:List Nat)(k i:Nat)(h:i < k):(xs.take k).getD i 0 =xs.getD i 0:=by
 simp[List.getD,h]
theorem natVal_take_zero(xs:List Nat)(k:Nat)(h:xs.getD k 0 =0):qD (xs.take (k + 1))=qD (xs.take k) :=by
 by_cases hk:k < xs.length
 ·rw[natVal_take_succ xs k hk,h];simp
 ·rw[List.take_of_length_le (by omega),List.take_of_length_le (by omega)]
theorem Wd.take{w:World}{ao:Option Addr}{n cap:Nat}{xs:List Nat}(h:Wd w ao n cap xs)(k:Nat)(hk:k <=n):Wd w ao k cap (xs.take k) :=by
 have hl:=h.len
 refine⟨by simp;omega,by have:=h.capo;omega,h.big,λi =>?_,?_⟩
 ·have:=h.lt i
  by_cases hi:i < k
  ·rw[getD_take _ _ _ hi];exact this
  ·simp[List.getD,List.getElem?_take,hi]
 ·rcases h.at_ with h0| ⟨b,off,h1,h2,h3⟩
  ·left;omega
  ·refine .inr ⟨b,off,h1,h2,λj hj =>?_⟩
   rw[getD_take _ _ _ hj];exact h3 j (by omega)
theorem Wd.shape{w:World}{ao:Option Addr}{n cap:Nat}{xs:List Nat}(h:Wd w ao n cap xs):n <=0\/∃b off,ao =some ⟨b,off,none⟩/\b < w.heap.size:=
 h.at_.imp Nat.le_of_eq λ⟨b,off,h1,h2,_⟩ =>⟨b,off,h1,h2⟩
theorem Wd.cell{w:World}{b off n cap:Nat}{xs:List Nat}(h:Wd w (some ⟨b,off,none⟩) n cap xs)(k:Nat)(hk:k < n):w.cell? ⟨b,off + k,none⟩=some (.int .u32 ((xs.getD k 0:Nat):Int)) :=by
 rcases h.at_ with h0| ⟨b',off',h1,_,h3⟩
 ·omega
 ·simp only[Option.some.injEq,Addr.mk.injEq,and_true]at h1
  obtain⟨rfl,rfl⟩ :=h1
  exact h3 k hk
theorem wd_nil(w:World)(ao:Option Addr)(cap:Nat)(h:cap <=9223372036854775807):Wd w ao 0 cap [] :=
 ⟨rfl,Nat.zero_le _,h,λi =>by simp,.inl rfl⟩
theorem trim_wd(w:World)(ao:Option Addr)(n cap:Nat)(xs:List Nat)(h:Wd w ao n cap xs):
  Calls prog 178 #[.slice ao n cap] w λe w' =>∃n',e =.returned (.slice ao n' cap)/\w =w'/\NatAt w n ao n' cap (qD xs) :=by
 have hl:=h.len
 have hcapo:=h.capo
 have hbig:=h.big
 have hfull:qD (xs.take n)=qD xs:=by rw[List.take_of_length_le (by omega)]
 have fin:∀k,k <=n ->qD (xs.take k)=qD (xs.take n) ->(0 < k ->xs.getD (k - 1) 0≠0) ->NatAt w n ao k cap (qD xs) :=λk hk he hz =>
  ⟨xs.take k,h.take k hk,hk,λh0 =>by rw[getD_take _ _ _ (by omega)];exact hz h0,by rw[he,hfull]⟩
 have step:∀k,0 < k ->xs.getD (k - 1) 0 =0 ->qD (xs.take (k - 1))=qD (xs.take k) :=λk h0 hz =>by
  have:=natVal_take_zero xs (k - 1) hz
  rw[show k - 1 + 1 =k from by omega]at this
  exact this.symm
 have Hfin:=hid fin
 have Hstep:=hid step
 have Hfull:=hid hfull
 clear fin step hfull
 rcases h.at_ with rfl| ⟨b,off,rfl,hb,hc⟩
 ·clear h
  go_enter func178,ntmps178
  go_wp2
  refine wp_loop_rounds 1 ?_
  rw[rounds_succ]
  go_wp2
  go_ret
  exact⟨0,rfl,rfl,Hfin.out 0 (by omega) rfl (by omega)⟩
 ·clear h
  have HC:=hid hc
  clear hc
  go_enter func178,ntmps178
  go_wp2
  go_loop [0] (λv =>∃k:Nat,k <=n/\v =.slice (some ⟨b,off,none⟩) k cap/\Hid (qD (xs.take k)=qD (xs.take n))) (λv =>match v with| .slice _ k _ =>k|_ =>0)
  case atStart =>exact⟨n,by omega,rfl,rfl⟩
  case round =>
   obtain⟨k,hk,rfl,hkeep⟩ :=hrel
   by_cases h0:0 < k
   ·have hcell:=HC.out (k - 1) (by omega)
    by_cases hz:xs.getD (k - 1) 0 =0
    ·have hz2:((xs.getD (k - 1) 0:Nat):Int)=0:=by omega
     rw[hz2]at hcell
     have Hz:=hid hz
     clear hz hz2
     go_wp2
     go_round
     case rel =>exact⟨k - 1,by omega,rfl,(Hstep.out k h0 Hz.out).trans hkeep⟩
     case measure =>simp;omega
    ·obtain⟨x,hx⟩:∃x,x =xs.getD (k - 1) 0:=⟨_,rfl⟩
     rw[<-hx]at hcell
     have hz2:((x:Int) ==0)=false:=by simpa [hx]using hz
     have Hz:=hid hz
     clear hz hx
     go_wp2
     go_ret
     exact⟨k,rfl,rfl,Hfin.out k hk hkeep (λ_ =>Hz.out)⟩
   ·go_wp2
    go_ret
    exact⟨k,rfl,rfl,Hfin.out k hk hkeep (λh =>absurd h h0)⟩
theorem trim_c(w:World)(ao:Option Addr)(n cap:Nat)(xs:List Nat)(h:Wd w ao n cap xs):
  Calls prog 178 #[.slice ao n cap] w (RNat w n (qD xs)) :=
 (trim_wd w ao n cap xs h).mono λ_ _ ⟨n',h1,h2,h3⟩ =>⟨ao,n',cap,h1,h2 ▸ Ext.refl _,h2 ▸ h3⟩
theorem Tryz.infoU32:(prog.info? 145).map (λi =>(i.zero,i.size,i.bytes))=some (some (.int .u32 0),1,4) :=by kernel_rfl
theorem Tryz.sizeU32:(prog.info? 145).map (·.size)=some 1:=by kernel_rfl
def xK(ys:List Nat):List Value:=ys.map (λ(y:Nat) =>Value.int .u32 (y:Int))
theorem qN(ys:List Nat):(xK ys).length =ys.length:=by simp[xK]
theorem wcells_getElem?(ys:List Nat)(i:Nat)(h:i < ys.length):(xK ys)[i]? =some (.int .u32 ((ys.getD i 0:Nat):Int)) :=by
 simp[xK,List.getD,h]
def Own(w:World)(g:Nat)(ys:List Nat):Prop:=w.heap[g]? =some (.cells (xK ys).toArray 145 (0,0))
theorem Own.lt{w:World}{g:Nat}{ys:List Nat}(h:Own w g ys):g < w.heap.size:=by
 rcases jU g w.heap.size with h1|h1
 ·exact h1
 ·unfold Own at h;simp[Array.getElem?_eq_none h1]at h
theorem Own.cell{w:World}{g:Nat}{ys:List Nat}(h:Own w g ys)(i:Nat)(hi:i < ys.length):w.cell? ⟨g,i,none⟩=some (.int .u32 ((ys.getD i 0:Nat):Int)) :=by
 have:=wcells_getElem? ys i hi
 simp only[World.cell?]
 rw[h]
 simpa using this
theorem Own.free{w:World}{g:Nat}{ys:List Nat}(h:Own w g ys)(i:Nat):w.frozen? ⟨g,i,none⟩=false:=by
 simp only[World.frozen?]
 rw[h]
 simp
theorem Own.set{w:World}{g:Nat}{ys:List Nat}(h:Own w g ys)(i y:Nat):Own (w.setCell ⟨g,i,none⟩ (.int .u32 (y:Int))) g (ys.set i y) :=by
 unfold Own at *
 simp only[World.setCell,Array.getElem?_modify,if_true]
 rw[h]
 simp[xK,List.map_set]
theorem Own.ext{w w':World}{g:Nat}{ys:List Nat}(h:Own w g ys)(e:Ext w w'):Own w' g ys:=by
 have:=Below.block e g h.lt
 unfold Own at *
 rw[this];exact h
theorem Own.wd{w:World}{g:Nat}{ys:List Nat}(h:Own w g ys)(hl:∀i,ys.getD i 0 < 4294967296)(cap:Nat)(hc:ys.length <=cap)(hb:cap <=140737488355328):
  Wd w (some ⟨g,0,none⟩) ys.length cap ys:=
 ⟨rfl,hc,jQ hb (by decide),hl,.inr ⟨g,0,rfl,h.lt,λj hj =>by rw[Nat.zero_add];exact h.cell j hj⟩⟩
theorem wcells_replicate(n:Nat):xK (List.replicate n 0)=List.replicate n (.int .u32 0) :=by simp[xK]
theorem wpl_make{w:World}{ops:Array Oper}{rest:List Oper}{o:Oper}{a:Act}{Q:Exit ->Act ->World ->Prop}
  (hg:o.guard =none) (l c:Operand) (t:TypeId) (hop:o.op =Op.makeSlice t l c) (ht:prog.underlying t =some (.slice 145))
  (L C:Int) (n:Nat) (hl:a.eval l =.int .i64 L) (hc:a.eval c =.int .i64 C) (hL:L =(n:Int)) (hC:C =(n:Int)) (hn:n <=1099511627776)
  (hK:∀w',Ext w w' ->w.heap.size < w'.heap.size ->Own w' w.heap.size (List.replicate n 0) ->wpList prog ops Q rest (a.put o.dst (.slice (some ⟨w.heap.size,0,none⟩) n n)) w') :
  wpList prog ops Q (o ::rest) a w:=by
 obtain⟨i,hi,hz0,hz1,hz2⟩ :=info_parts Tryz.infoU32
 refine wpList_make_full w hg l c t hop w.heap.size 145 i (.int .u32 0) 1 ht hi hz0 hz1 .i64 .i64 L C n hl hc hL hC (by rw[hz2];omega) (by unfold maxLen;omega) (jP _) ?_
 intro w' hown hgr
 have hcur:=hown
 obtain⟨hlen,h1| ⟨g,cap,cur,h2,h3,h4,h5,h6,h7,h8⟩⟩ :=hown
 ·simp at h1
 ·simp only[Value.slice.injEq,Option.some.injEq,Addr.mk.injEq,and_true,true_and]at h2
  obtain⟨h2,rfl⟩ :=h2
  subst h2
  have hown':Own w' w.heap.size (List.replicate n 0) :=by
   unfold Own
   rw[h4,wcells_replicate]
   have e1:cur.toList =List.replicate n (.int .u32 0) :=by
    rw[List.take_of_length_le (by simp;omega)]at h8
    rw[h8,show(Value.int IntKind.u32 0).cells = #[.int .u32 0]from rfl,toList_madeCells_one]
    simp
   rw[<-e1]
  refine hK w' ?_ hown'.lt hown'
  exact⟨hgr.os,hgr.tape,hgr.output,hgr.size,λk hk =>hgr.block k hk (by simp)⟩
theorem wpl_copy{w:World}{ops:Array Oper}{rest:List Oper}{o:Oper}{a:Act}{Q:Exit ->Act ->World ->Prop}(w0:World)
  (hgd:o.guard =none) (d s:Operand) (dT sT:TypeId)
  (ho:o.op =.call {callee:=.builtin .copy,args:= #[d,s],argTypes:= #[dT,sT]}) (hu:prog.underlying dT =some (.slice 145))
  (g N:Nat) (ao:Option Addr) (n cap:Nat) (hd:a.eval d =.slice (some ⟨g,0,none⟩) N N) (hs:a.eval s =.slice ao n cap)
  (ys xs:List Nat) (hown:Own w g ys) (hN:ys.length =N) (hx:Wd w ao n cap xs) (hnN:n <=N) (he:Ext w0 w) (hg:w0.heap.size <=g)
  (hK:∀w',Own w' g (xs ++ys.drop n) ->Ext w0 w' ->wpList prog ops Q rest (a.put o.dst (.int .i64 n)) w') :
  wpList prog ops Q (o ::rest) a w:=by
 have hlen:=hx.len
 refine wpList_copy_splice hgd d s dT sT ho 145 hu Tryz.sizeU32 _ _ _ _ _ _ hd hs g 0 (xK ys) 145 hown (xK xs) ?_ ?_ ?_ ?_ w0.heap.size w0 he hg ?_
 ·rw[qN,hlen];exact(Nat.min_eq_left hnN).symm
 ·intro hpos
  refine⟨rfl,?_⟩
  rw[qN,hlen]at hpos
  rcases hx.at_ with h0| ⟨b,off,h1,h2,h3⟩
  ·omega
  ·refine⟨_,h1,λj v hj =>?_⟩
   have hjn:j < n:=by
    rcases jU j n with h|h
    ·exact h
    ·rw[List.getElem?_eq_none (by rw[qN];omega)]at hj;cases hj
   rw[wcells_getElem? _ _ (by omega)]at hj
   have:=h3 j hjn
   rw[hj]at this
   by_cases hj0:j =0
   ·subst hj0;simpa [Addr.add]using this
   ·simpa [Addr.add,hj0]using this
 ·rw[qN,qN];omega
 ·intro v hv
  simp only[xK,List.mem_map]at hv
  obtain⟨y,_,rfl⟩ :=hv
  rfl
 ·intro w' h1 h2
  rw[qN,hlen]
  refine hK w' ?_ h2
  have h1':=h1.out
  unfold Own
  rw[h1']
  simp[splice,xK,hlen]
theorem wd_new1(w:World)(r:Nat)(hr:r < 4294967296):Wd (w.alloc (.cells #[.int .u32 (r:Nat)] 145)) (some ⟨w.heap.size,0,none⟩) 1 1 [r] :=by
 have ho:Own (w.alloc (.cells #[.int .u32 (r:Nat)] 145)) w.heap.size [r] :=by
  show(w.heap.push _)[w.heap.size]? =_
  simp[xK]
 have:=ho.wd (λi =>by cases i <;> simp[hr]) 1 (by simp) (by omega)
 simpa using this
theorem tuple2{k l:IntKind}{a b c d:Int}(h:a =c)(h':b =d):Value.tuple #[.int k a,.int l b]=.tuple #[.int k c,.int l d] :=by rw[h,h']
theorem add32_c(x y c:Nat)(hx:x < 4294967296)(hy:y < 4294967296)(hc:c <=1)(w:World):
  Calls prog 222 #[.int .u32 (x:Int),.int .u32 (y:Int),.int .u32 (c:Int)] w
   (RSame w (.tuple #[.int .u32 (((x + y + c) % 4294967296:Nat):Int),.int .u32 (((x + y + c) / 4294967296:Nat):Int)])) :=by
 go_enter func222,ntmps222
 go_wp2
 go_ret2
 exact RSame.mk' (tuple2 (by omega) (by omega))
theorem top32(n:Nat)(h:n < 4294967296):n / 2147483648 =if n.testBit 31 then 1 else 0:=by
 rw[Nat.testBit_eq_decide_div_mod_eq]
 simp only[jY]
 split <;> omega
theorem bit31(n:Nat)(h:n < 4294967296):n.testBit 31 =decide (2147483648 <=n) :=by
 rw[Nat.testBit_eq_decide_div_mod_eq]
 simp only[decide_eq_decide]
 omega
theorem borrow32(x y c:Nat)(hx:x < 4294967296)(hy:y < 4294967296)(hc:c <=1):
  bits BinOp.or IntKind.u32 (bits BinOp.and IntKind.u32 (bits BinOp.xor IntKind.u32 IntKind.u32.max (x:Int)) (y:Int))
   (bits BinOp.and IntKind.u32 (bits BinOp.xor IntKind.u32 IntKind.u32.max (bits BinOp.xor IntKind.u32 (x:Int) (y:Int))) (((x:Int) - y - c) % 4294967296)) / 2147483648
   =((if x < y + c then 1 else 0:Nat):Int) :=by
 have e1:IntKind.u32.max =((4294967295:Nat):Int) :=rfl
 have e2:((x:Int) - y - c) % 4294967296 =(((x + 4294967296 - y - c) % 4294967296:Nat):Int) :=by omega
 generalize hd:(x + 4294967296 - y - c) % 4294967296 =d at e2
 have hdl:d < 4294967296:=by omega
 have x1:∀a b:Nat,a < 4294967296 ->b < 4294967296 ->a ^^^b < 4294967296:=λa b ha hb =>Nat.xor_lt_two_pow (n:=32) ha hb
 have a1:∀a b:Nat,b < 4294967296 ->a &&& b < 4294967296:=λa b hb =>Nat.and_lt_two_pow (n:=32) _ hb
 have o1:∀a b:Nat,a < 4294967296 ->b < 4294967296 ->a ||| b < 4294967296:=λa b ha hb =>Nat.or_lt_two_pow (n:=32) ha hb
 have hm:(4294967295:Nat) < 4294967296:=by omega
 rw[e1,e2,u32_xor_nat _ _ hm hx,u32_xor_nat _ _ hx hy,u32_and_nat _ _ (x1 _ _ hm hx) hy,u32_xor_nat _ _ hm (x1 _ _ hx hy),u32_and_nat _ _ (x1 _ _ hm (x1 _ _ hx hy)) hdl,
  u32_or_nat _ _ (a1 _ _ hy) (a1 _ _ hdl)]
 have ht:=top32 ((4294967295 ^^^x) &&& y ||| (4294967295 ^^^ (x ^^^y)) &&& d) (o1 _ _ (a1 _ _ hy) (a1 _ _ hdl))
 have:((((4294967295 ^^^x) &&& y ||| (4294967295 ^^^ (x ^^^y)) &&& d:Nat):Int)) / 2147483648 =((((4294967295 ^^^x) &&& y ||| (4294967295 ^^^ (x ^^^y)) &&& d) / 2147483648:Nat):Int) :=by
  omega
 rw[this,ht]
 simp only[Nat.testBit_or,Nat.testBit_and,Nat.testBit_xor,bit31 x hx,bit31 y hy,bit31 d hdl,bit31 _ hm]
 by_cases h1:2147483648 <=x <;> by_cases h2:2147483648 <=y <;> by_cases h3:2147483648 <=d <;> by_cases h4:x < y + c <;> simp[h1,h2,h3,h4] <;> omega
theorem sub32_c(x y c:Nat)(hx:x < 4294967296)(hy:y < 4294967296)(hc:c <=1)(w:World):
  Calls prog 224 #[.int .u32 (x:Int),.int .u32 (y:Int),.int .u32 (c:Int)] w
   (RSame w (.tuple #[.int .u32 (((x + 4294967296 - y - c) % 4294967296:Nat):Int),.int .u32 ((if x < y + c then 1 else 0:Nat):Int)])) :=by
 have hb:=hid (borrow32 x y c hx hy hc)
 go_enter func224,ntmps224
 generalize hf:(if x < y + c then 1 else 0:Nat)=f at hb ⊢
 have hf:=hid hf
 go_wp2
 go_ret2
 exact RSame.mk' (tuple2 (by omega) hb.out)
theorem div32_c(hi lo d:Nat)(hh:hi < d)(hl:lo < 4294967296)(hd:d < 4294967296)(w:World):
  Calls prog 250 #[.int .u32 (hi:Int),.int .u32 (lo:Int),.int .u32 (d:Int)] w λe w' =>
   e =.returned (.tuple #[.int .u32 (((hi * 4294967296 + lo) / d:Nat):Int),.int .u32 (((hi * 4294967296 + lo) % d:Nat):Int)])/\Ext w w':=by
 have h1:((d:Int) !=0)=true:=by rw[bne_iff_ne];omega
 have h2:decide ((d:Int) <=(hi:Int))=false:=by simp;omega
 have h3:bits .or .u64 ((hi:Int) * 4294967296) (lo:Int)=((hi * 4294967296 + lo:Nat):Int) :=by
  have:=u64_or_nat (hi * 4294967296) lo (by omega) (by omega)
  rw[nat_join 32 _ _ (by omega) (by omega)]at this
  simpa using this
 go_enter func250,ntmps250
 go_wp2_with fail
 have hd0:¬(d:Int)=0:=by omega
 go_quiet (fail)
 go_wp2
 go_ret2
 have hq:(hi * 4294967296 + lo) / d < 4294967296:=Nat.div_lt_of_lt_mul (by have:=Nat.mul_le_mul_right 4294967296 (show hi + 1 <=d from hh);omega)
 have hr:(hi * 4294967296 + lo) % d < d:=jV _ (by omega)
 have q1:((hi:Int) * 4294967296 + lo) / d =((hi * 4294967296 + lo) / d:Nat) :=by simp
 have r1:((hi:Int) * 4294967296 + lo) % d =((hi * 4294967296 + lo) % d:Nat) :=by simp
 refine⟨?_,(Ext.refl w).drewN _⟩
 refine congrArg Ending.returned (tuple2 ?_ ?_)
 ·rw[q1];generalize(hi * 4294967296 + lo) / d =q at hq ⊢;clear q1 r1 hr h3 h2 h1;omega
 ·rw[r1];generalize(hi * 4294967296 + lo) % d =q at hr ⊢;clear q1 r1 hq h3 h2 h1;omega
def pv(xs:List Nat):Nat ->Nat
 |0 =>0
 |k + 1 =>pv xs k + 4294967296 ^ k * xs.getD k 0
theorem pv_take(xs:List Nat)(k:Nat):pv xs k =qD (xs.take k) :=by
 induction k with
 |zero =>simp[pv,qD]
 | succ k ih =>
  rw[pv,ih]
  by_cases h:k < xs.length
  ·rw[natVal_take_succ xs k h]
  ·rw[List.take_of_length_le (by omega),List.take_of_length_le (by omega)]
   simp[List.getD,List.getElem?_eq_none (by omega:xs.length <=k)]
theorem xL(xs:List Nat)(k:Nat)(h:xs.length <=k):pv xs k =qD xs:=by
 rw[pv_take,List.take_of_length_le h]
theorem pv_lt(xs:List Nat)(h:∀i,xs.getD i 0 < 4294967296)(k:Nat):pv xs k < 4294967296 ^ k:=by
 induction k with
 |zero =>simp[pv]
 | succ k ih =>
  rw[pv,Nat.pow_succ]
  have h1:=h k
  have h2:4294967296 ^ k * xs.getD k 0 <=4294967296 ^ k * 4294967295:=Nat.mul_le_mul_left _ (by omega)
  omega
theorem pv_congr{xs ys:List Nat}{k:Nat}(h:∀i,i < k ->xs.getD i 0 =ys.getD i 0):pv xs k =pv ys k:=by
 induction k with
 |zero =>rfl
 |succ k ih =>rw[pv,pv,ih (λi hi =>h i (by omega)),h k (by omega)]
theorem getD_set(ys:List Nat)(k y i:Nat)(hk:k < ys.length):(ys.set k y).getD i 0 =if i =k then y else ys.getD i 0:=by
 by_cases h:i =k
 ·subst h;simp[List.getD,hk]
 ·have h':k≠i:=λe =>h e.symm
  simp[List.getD,h,h']
theorem pv_set(ys:List Nat)(k y:Nat)(hk:k < ys.length):pv (ys.set k y) k =pv ys k:=
 pv_congr λi hi =>by rw[getD_set _ _ _ _ hk,if_neg (by omega)]
theorem getD_append(xs ys:List Nat)(i:Nat):(xs ++ys).getD i 0 =if i < xs.length then xs.getD i 0 else ys.getD (i - xs.length) 0:=by
 by_cases h:i < xs.length
 ·simp[List.getD,h,List.getElem?_append_left h]
 ·simp[List.getD,h,List.getElem?_append_right (by omega:xs.length <=i)]
theorem getD_zeros(n i:Nat):(List.replicate n 0).getD i 0 =0:=by
 simp only[List.getD,List.getElem?_replicate]
 split <;> rfl
theorem xV(xs:List Nat)(i:Nat)(h:xs.length <=i):xs.getD i 0 =0:=by
 simp[List.getD,List.getElem?_eq_none h]
theorem getD_drop_zeros(n k i:Nat):((List.replicate n 0).drop k).getD i 0 =0:=by
 rw[List.drop_replicate];exact getD_zeros _ _
theorem natVal_set(ys:List Nat)(k y:Nat)(hk:k < ys.length):qD (ys.set k y) + 4294967296 ^ k * ys.getD k 0 =qD ys + 4294967296 ^ k * y:=by
 induction ys generalizing k with
 |nil =>simp at hk
 | cons a ys ih =>
  cases k with
  |zero =>simp[qD];omega
  | succ k =>
   have:=ih k (by simpa using hk)
   simp only[List.set_cons_succ,qD,List.getD_cons_succ,Nat.pow_succ]
   grind
theorem natVal_zeros(n:Nat):qD (List.replicate n 0)=0:=by
 induction n with
 |zero =>rfl
 |succ n ih =>rw[List.replicate_succ,qD,ih]
theorem add_step(P A B k a b c q r:Nat)(hinv:P + 4294967296 ^ k * c =A + B)(hq:q =(a + b + c) / 4294967296)(hr:r =(a + b + c) % 4294967296):
  P + 4294967296 ^ k * r + 4294967296 ^ (k + 1) * q =A + 4294967296 ^ k * a + (B + 4294967296 ^ k * b) :=by
 have h:4294967296 * q + r =a + b + c:=by subst hq hr;omega
 have h2:4294967296 ^ k * (4294967296 * q + r)=4294967296 ^ k * (a + b + c) :=by rw[h]
 grind
theorem sub_step(P A B k a b c q r:Nat)(hinv:P + B =A + 4294967296 ^ k * c)(h:r + b + c =a + 4294967296 * q):
  P + 4294967296 ^ k * r + (B + 4294967296 ^ k * b)=A + 4294967296 ^ k * a + 4294967296 ^ (k + 1) * q:=by
 have h2:4294967296 ^ k * (r + b + c)=4294967296 ^ k * (a + 4294967296 * q) :=by rw[h]
 grind
theorem borrow_eq(a b c:Nat)(ha:a < 4294967296)(hb:b < 4294967296)(hc:c <=1):
  (a + 4294967296 - b - c) % 4294967296 + b + c =a + 4294967296 * (if a < b + c then 1 else 0) :=by
 split <;> omega
end
section
open Go Go.RowKit
open Go.Proofs.Tryz
theorem ji{P:Prop}(h:P:=by omega):P:=h
abbrev jN:=@Nat.eq_zero_or_pos
set_option maxRecDepth 100000
set_option maxHeartbeats 1000000
def AddInv(w0:World)(g N:Nat)(A B:List Nat)(k c:Nat)(wr:World):Prop:=
  ∃ys,Own wr g ys/\ys.length=N/\(∀i,ys.getD i 0<4294967296)/\pv ys k+4294967296^k*c=pv A k+pv B k/\(∀i,k<=i->ys.getD i 0=A.getD i 0)/\Ext w0 wr
theorem tAdd_2{P:Prop}(h:P:=by
  rw[getD_set _ _ _ _ (by omega),if_neg (by omega)];exact h5 i ji
  ):P:=h
theorem AddInv.step{w0:World}{g N:Nat}{A B:List Nat}{k c:Nat}{wr:World}(h:AddInv w0 g N A B k c wr)(hk:k<N)(hg:w0.heap.size<=g):
    AddInv w0 g N A B (k+1) ((A.getD k 0+B.getD k 0+c)/4294967296) (wr.setCell ⟨g,k,none⟩ (.int .u32 (((A.getD k 0+B.getD k 0+c)%4294967296:Nat):Int))):=by
  obtain⟨ys,h1,h2,h3,h4,h5,h6⟩:=h;refine⟨ys.set k ((A.getD k 0+B.getD k 0+c)%4294967296),h1.set _ _,by simpa using h2,λi=>?_,?_,λi hi=>?_,h6.set hg _⟩
  · rw[getD_set _ _ _ _ (by omega)];split
    ·omega
    ·exact h3 i
  · rw[pv,pv,pv,pv_set _ _ _ (by omega),getD_set _ _ _ _ (by omega),if_pos rfl]
    exact add_step _ _ _ k _ _ c _ _ h4 rfl rfl
  ·exact tAdd_2
theorem AddInv.start{w0 wr:World}{g n:Nat}{xs B:List Nat}(h:Own wr g (xs++(List.replicate (n+1) 0).drop n))(hl:xs.length=n)(hx:∀i,xs.getD i 0<4294967296)(he:Ext w0 wr):
    AddInv w0 g (n+1) xs B 0 0 wr:=by
  refine⟨_,h,by simp;omega,λi=>?_,by simp[pv],λi _=>?_,he⟩
  · rw[getD_append];split
    ·exact hx i
    ·rw[getD_drop_zeros];omega
  · rw[getD_append];split
    ·rfl
    ·rw[getD_drop_zeros,xV _ _ (by omega)]
theorem add_fin0(P p q a b c:Nat)(h:P+q*c=a+b)(ha:a<p)(hb:b<p)(hq:2*p<=q):P=a+b:=by
  rcases jN c with hc|hc
  ·rw[hc,Nat.mul_zero,Nat.add_zero]at h;exact h
  · have:=Nat.le_mul_of_pos_right q hc
    omega
theorem add_fin(P p a b c:Nat)(h:P+p*4294967296*c=a+b)(ha:a<p)(hb:b<p):P=a+b:=
  add_fin0 P p _ a b c h ha hb ji
theorem AddInv.cell{w0 wr:World}{g N k c:Nat}{A B:List Nat}(h:AddInv w0 g N A B k c wr)(hk:k<N):
    wr.cell? ⟨g,k,none⟩=some (.int .u32 ((A.getD k 0:Nat):Int))/\wr.frozen? ⟨g,k,none⟩=false/\Ext w0 wr:=by
  obtain⟨ys,h1,h2,h3,h4,h5,h6⟩:=h;exact⟨by rw[<-h5 k (jP _)];exact h1.cell k ji,h1.free k,h6⟩
theorem AddInv.fin{w0 wr:World}{g n c:Nat}{A B:List Nat}(h:AddInv w0 g (n+1) A B (n+1) c wr)(hA:∀i,A.getD i 0<4294967296)(hB:∀i,B.getD i 0<4294967296)
    (hlA:A.length=n) (hlB:B.length<=n) (hn:n<=1073741824):
    ∃ys,Wd wr (some ⟨g,0,none⟩) (n+1) (n+1) ys/\qD ys=qD A+qD B/\Ext w0 wr:=by
  obtain⟨ys,h1,h2,h3,h4,h5,h6⟩:=h;have b0:n+1<=140737488355328:=by clear h4;omega
  have hw:=h1.wd h3 (n+1) (Nat.le_of_eq h2) b0;rw[h2]at hw;refine⟨ys,hw,?_,h6⟩;have l1:B.length<=n+1:=Nat.le_succ_of_le hlB;rw[xL ys _ (Nat.le_of_eq h2),xL A _ (by rw[hlA];exact Nat.le_succ n),xL B _ l1,Nat.pow_succ]at h4;have a1:=xR A hA;have b1:=pv_lt B hB n;rw[xL B _ hlB]at b1;rw[hlA]at a1;exact add_fin _ _ _ _ _ h4 a1 b1
theorem tAdd_1{P:Prop}(h:P:=by
  clear hinv;go_wp2_with (go_at_call 178;refine(trim_c _ _ _ _ _ hz1).mono ?_;rintro e w3 ⟨ao,n,cap,rfl,he,hn⟩)
  go_ret
  exact⟨ao,n,cap,rfl,hz3.trans he,hz2.out▸hn⟩
  ):P:=h
theorem add_wd (w:World)(a1 a2:Option Addr)(n1 n2 c1 c2:Nat)(xs ys:List Nat)(h1:Wd w a1 n1 c1 xs)(h2:Wd w a2 n2 c2 ys)(s1:n1<=1073741824)(s2:n2<=1073741824):
    Calls prog 191 #[.slice a1 n1 c1,.slice a2 n2 c2] w (RNat w (max n1 n2+1) (qD xs+qD ys)):=by
  have key:∀ (aB aS:Option Addr) (nB nS cB cS:Nat) (B S:List Nat) (hB:Wd w aB nB cB B) (hS:Wd w aS nS cS S) (hle:nS<=nB),
      (aB=a1/\nB=n1/\cB=c1/\B=xs/\aS=a2/\nS=n2/\cS=c2/\S=ys/\¬n1<n2)\/(aB=a2/\nB=n2/\cB=c2/\B=ys/\aS=a1/\nS=n1/\cS=c1/\S=xs/\n1<n2)->
      Calls prog 191 #[.slice a1 n1 c1,.slice a2 n2 c2] w (RNat w (nB+1) (qD B+qD S)):=by
    intro aB aS nB nS cB cS B S hB hS hle hor;have hlB:=hB.len;have hlS:=hS.len;have HB:=hid hB.lt;have HS:=hid hS.lt;have HlB:=hid hlB;have HlS:=hid hlS;have sB:nB<=1073741824:=ji
    clear hlB hlS;rcases hor with⟨rfl,rfl,rfl,rfl,rfl,rfl,rfl,rfl,hlt⟩| ⟨rfl,rfl,rfl,rfl,rfl,rfl,rfl,rfl,hlt⟩
    all_goals
      have HWB:=hid hB;have HWS:=hid hS;have hsh:=hS.shape;clear h1 h2 hB hS s1 s2;rcases hsh with hsh| ⟨b,off,rfl,hb⟩
    all_goals
      go_enter func191,ntmps191
      go_wp2_with (first
        | (at_make;refine wpl_make rfl _ _ _ rfl underlying240 _ _ (nB+1) rfl rfl ji ji ji ?_;intro w1 e1 z1 o1)
        | (with_reducible refine wpl_copy w rfl _ _ _ _ rfl underlying240 _ _ _ _ _ rfl rfl _ _ o1 (by simp) (HWB.out.ext e1) ji e1 (jP _) ?_;intro w2 o2 e2))
      have I0:=hid (AddInv.start (B:=S) o2 HlB.out HB.out e2);clear o2 o1 e1 z1 e2
      go_loopw [6,25] (λc i wr=>∃k cc:Nat,k<=nB+1/\cc<=1/\i=.int .i64 k/\c=.int .u32 cc/\Hid (AddInv w w.heap.size (nB+1) B S k cc wr)) (λ_ i _=>nB+1-(intOf i).toNat)
      case atStart=>exact⟨0,0,by omega,by omega,rfl,rfl,I0⟩
      case round=>
        clear I0;obtain⟨k,cc,hk,hcc,rfl,rfl,hinv⟩:=hrel;by_cases hk1:k<nB+1
        · have hst:=hid (hinv.out.step hk1 (jP _))
          obtain⟨hc1,hf1,hext⟩:=hinv.out.cell hk1;have hxl:=HB.out k;have hyl:=HS.out k;have hyz:nS<=k->S.getD k 0=0:=λh=>xV _ _ (by rw[HlS.out];exact h)
          by_cases hs:k<nS
          · first
              | (exfalso;omega)
              | (have hcS:=(HWS.out.ext hext).cell k hs
                 clear hinv hyz;generalize B.getD k 0=x at*;generalize S.getD k 0=y at*;have hcc':(x+y+cc)/4294967296<=1:=ji
                 go_wp2_with (go_at_call 222;refine(add32_c x y cc hxl hyl hcc _).mono ?_;rintro e w' ⟨rfl,rfl⟩)
                 go_roundw
                 case rel=>exact⟨k+1,_,by omega,hcc',by go_num,rfl,hst⟩
                 case measure=>simp[intOf];omega)
          · have hy0:=hyz ji
            clear hinv hyz;generalize B.getD k 0=x at*;generalize S.getD k 0=y at*;subst hy0;have hcc':(x+0+cc)/4294967296<=1:=ji
            go_wp2_with (go_at_call 222;refine(add32_c x 0 cc hxl hyl hcc _).mono ?_;rintro e w' ⟨rfl,rfl⟩)
            go_roundw
            case rel=>exact⟨k+1,_,by omega,hcc',by go_num,rfl,hst⟩
            case measure=>simp[intOf];omega
        · obtain rfl:k=nB+1:=by omega
          obtain⟨zs,hz1,hz2,hz3⟩:=hinv.out.fin HB.out HS.out HlB.out (by rw[HlS.out];exact hle) sB;have hz2:=hid hz2;exact tAdd_1
  rcases jU n1 n2 with h|h
  · have:=key a2 a1 n2 n1 c2 c1 ys xs h2 h1 ji (.inr ⟨rfl,rfl,rfl,rfl,rfl,rfl,rfl,rfl,h⟩)
    rw[Nat.add_comm (qD xs),Nat.max_eq_right (Nat.le_of_lt h)];exact this
  · have:=key a1 a2 n1 n2 c1 c2 xs ys h1 h2 h (.inl ⟨rfl,rfl,rfl,rfl,rfl,rfl,rfl,rfl,by omega⟩)
    rw[Nat.max_eq_left h];exact this
theorem add_c(w:World)(a1 a2:Option Addr)(n1 n2 c1 c2 k1 k2 x y:Nat)(h1:NatAt w k1 a1 n1 c1 x)(h2:NatAt w k2 a2 n2 c2 y)(s1:k1<=1073741824)(s2:k2<=1073741824):
    Calls prog 191 #[.slice a1 n1 c1,.slice a2 n2 c2] w (RNat w (max k1 k2+1) (x+y)):=by
  obtain⟨xs,h1,l1,_,rfl⟩:=h1;obtain⟨ys,h2,l2,_,rfl⟩:=h2;refine(add_wd w a1 a2 n1 n2 c1 c2 xs ys h1 h2 ji ji).mono ?_;rintro e w' ⟨ao,n,cap,he,hx,hn⟩;exact⟨ao,n,cap,he,hx,hn.mono ji⟩
def SubInv(w0:World)(g N:Nat)(A B:List Nat)(k c:Nat)(wr:World):Prop:=
  ∃ys,Own wr g ys/\ys.length=N/\(∀i,ys.getD i 0<4294967296)/\pv ys k+pv B k=pv A k+4294967296^k*c/\(∀i,k<=i->ys.getD i 0=A.getD i 0)/\Ext w0 wr
theorem SubInv.step{w0:World}{g N:Nat}{A B:List Nat}{k c:Nat}{wr:World}(h:SubInv w0 g N A B k c wr)(hk:k<N)(hc:c<=1)(hg:w0.heap.size<=g)
    (hA:∀i,A.getD i 0<4294967296) (hB:∀i,B.getD i 0<4294967296):
    SubInv w0 g N A B (k+1) (if A.getD k 0<B.getD k 0+c then 1 else 0) (wr.setCell ⟨g,k,none⟩ (.int .u32 (((A.getD k 0+4294967296-B.getD k 0-c)%4294967296:Nat):Int))):=by
  obtain⟨ys,h1,h2,h3,h4,h5,h6⟩:=h;refine⟨ys.set k ((A.getD k 0+4294967296-B.getD k 0-c)%4294967296),h1.set _ _,by simpa using h2,λi=>?_,?_,λi hi=>?_,h6.set hg _⟩
  · rw[getD_set _ _ _ _ (by omega)];split
    ·omega
    ·exact h3 i
  · rw[pv,pv,pv,pv_set _ _ _ (by omega),getD_set _ _ _ _ (by omega),if_pos rfl]
    exact sub_step _ _ _ k _ _ c _ _ h4 (borrow_eq _ _ _ (hA k) (hB k) hc)
  ·exact tAdd_2
theorem SubInv.start{w0 wr:World}{g n:Nat}{xs B:List Nat}(h:Own wr g (xs++(List.replicate n 0).drop n))(hl:xs.length=n)(hx:∀i,xs.getD i 0<4294967296)(he:Ext w0 wr):
    SubInv w0 g n xs B 0 0 wr:=by
  simp only[List.drop_replicate,Nat.sub_self,List.replicate_zero,List.append_nil]at h;exact⟨_,h,hl,hx,by simp[pv],λi _=>rfl,he⟩
theorem SubInv.cell{w0 wr:World}{g N k c:Nat}{A B:List Nat}(h:SubInv w0 g N A B k c wr)(hk:k<N):
    wr.cell? ⟨g,k,none⟩=some (.int .u32 ((A.getD k 0:Nat):Int))/\wr.frozen? ⟨g,k,none⟩=false/\Ext w0 wr:=by
  obtain⟨ys,h1,h2,h3,h4,h5,h6⟩:=h;exact⟨by rw[<-h5 k (jP _)];exact h1.cell k ji,h1.free k,h6⟩
theorem sub_fin(P p a b c:Nat)(h:P+b=a+p*c)(hP:P<p)(hb:b<=a):P=a-b:=by
  rcases jN c with hc|hc
  ·rw[hc,Nat.mul_zero,Nat.add_zero]at h;omega
  · have:=Nat.le_mul_of_pos_right p hc
    omega
theorem SubInv.fin{w0 wr:World}{g n c:Nat}{A B:List Nat}(h:SubInv w0 g n A B n c wr)
    (hlA:A.length=n) (hlB:B.length<=n) (hle:qD B<=qD A) (hn:n<=1073741824):
    ∃ys,Wd wr (some ⟨g,0,none⟩) n n ys/\qD ys=qD A-qD B/\Ext w0 wr:=by
  obtain⟨ys,h1,h2,h3,h4,h5,h6⟩:=h;have b0:n<=140737488355328:=by clear h4;omega
  have hw:=h1.wd h3 n (Nat.le_of_eq h2) b0;rw[h2]at hw;refine⟨ys,hw,?_,h6⟩;rw[xL ys _ (Nat.le_of_eq h2),xL A _ (Nat.le_of_eq hlA),xL B _ hlB]at h4;have a1:=xR ys h3;rw[h2]at a1;exact sub_fin _ _ _ _ _ h4 a1 hle
theorem sub_wd (w:World)(aB aS:Option Addr)(nB nS cB cS:Nat)(B S:List Nat)(hB:Wd w aB nB cB B)(hS:Wd w aS nS cS S)(hle:nS<=nB)(hval:qD S<=qD B)(sB:nB<=1073741824):
    Calls prog 193 #[.slice aB nB cB,.slice aS nS cS] w (RNat w nB (qD B-qD S)):=by
  have hlB:=hB.len;have hlS:=hS.len;have HB:=hid hB.lt;have HS:=hid hS.lt;have HlB:=hid hlB;have HlS:=hid hlS;have Hval:=hid hval;clear hlB hlS hval;have HWB:=hid hB;have HWS:=hid hS;have hsh:=hS.shape;clear hB hS;rcases hsh with hsh| ⟨b,off,rfl,hb⟩
  all_goals
    go_enter func193,ntmps193
    go_wp2_with (first
      | (at_make;refine wpl_make rfl _ _ _ rfl underlying240 _ _ nB rfl rfl ji ji ji ?_;intro w1 e1 z1 o1)
      | (with_reducible refine wpl_copy w rfl _ _ _ _ rfl underlying240 _ _ _ _ _ rfl rfl _ _ o1 (by simp) (HWB.out.ext e1) ji e1 (jP _) ?_;intro w2 o2 e2))
    have I0:=hid (SubInv.start (B:=S) o2 HlB.out HB.out e2);clear o2 o1 e1 z1 e2
    go_loopw [6,17] (λc i wr=>∃k cc:Nat,k<=nB/\cc<=1/\i=.int .i64 k/\c=.int .u32 cc/\Hid (SubInv w w.heap.size nB B S k cc wr)) (λ_ i _=>nB-(intOf i).toNat)
    case atStart=>exact⟨0,0,by omega,by omega,rfl,rfl,I0⟩
    case round=>
      clear I0;obtain⟨k,cc,hk,hcc,rfl,rfl,hinv⟩:=hrel;by_cases hk1:k<nB
      · have hst:=hid (hinv.out.step hk1 hcc (jP _) HB.out HS.out)
        obtain⟨hc1,hf1,hext⟩:=hinv.out.cell hk1;have hxl:=HB.out k;have hyl:=HS.out k;have hyz:nS<=k->S.getD k 0=0:=λh=>xV _ _ (by rw[HlS.out];exact h)
        by_cases hs:k<nS
        · first
            | (exfalso;omega)
            | (have hcS:=(HWS.out.ext hext).cell k hs
               clear hinv hyz;generalize B.getD k 0=x at*;generalize S.getD k 0=y at*;have hcc':(if x<y+cc then 1 else 0)<=1:=by split <;> omega
               have hcd:=hid hcc';clear hcc';go_wp2_with (go_at_call 224;refine(sub32_c x y cc hxl hyl hcc _).mono ?_;rintro e w' ⟨rfl,rfl⟩)
               go_roundw
               case rel=>exact⟨k+1,_,by omega,hcd.out,by go_num,rfl,hst⟩
               case measure=>simp[intOf];omega)
        · have hy0:=hyz ji
          clear hinv hyz;generalize B.getD k 0=x at*;generalize S.getD k 0=y at*;subst hy0;have hcc':(if x<0+cc then 1 else 0)<=1:=by split <;> omega
          have hcd:=hid hcc';clear hcc';go_wp2_with (go_at_call 224;refine(sub32_c x 0 cc hxl hyl hcc _).mono ?_;rintro e w' ⟨rfl,rfl⟩)
          go_roundw
          case rel=>exact⟨k+1,_,by omega,hcd.out,by go_num,by simp,hst⟩
          case measure=>simp[intOf];omega
      · obtain rfl:k=nB:=by omega
        obtain⟨zs,hz1,hz2,hz3⟩:=hinv.out.fin HlB.out (by rw[HlS.out];exact hle) Hval.out sB;have hz2:=hid hz2;exact tAdd_1
theorem natVal_ge(xs:List Nat)(h:0<xs.length)(hz:xs.getD (xs.length-1) 0≠0):4294967296^(xs.length-1)<=qD xs:=by
  have e:=xL xs xs.length (jP _);obtain⟨n,hn⟩:∃n,xs.length=n+1:=⟨xs.length-1,by omega⟩;rw[hn]at e hz ⊢;simp only[Nat.add_sub_cancel]at hz ⊢;rw[pv]at e;have:=Nat.le_mul_of_pos_right (4294967296^n) (Nat.pos_of_ne_zero hz);omega
theorem length_le_of_le(xs ys:List Nat)(hz:0<ys.length->ys.getD (ys.length-1) 0≠0)(hx:∀i,xs.getD i 0<4294967296)(h:qD ys<=qD xs):ys.length<=xs.length:=by
  rcases jN ys.length with h0|h0
  ·omega
  · have h1:=natVal_ge ys h0 (hz h0)
    have h2:=xR xs hx;have h3:4294967296^(ys.length-1)<4294967296^xs.length:=ji
    have:=(Nat.pow_lt_pow_iff_right ji).1 h3;omega
theorem sub_c(w:World)(a1 a2:Option Addr)(n1 n2 c1 c2 k1 k2 x y:Nat)(h1:NatAt w k1 a1 n1 c1 x)(h2:NatAt w k2 a2 n2 c2 y)(s1:k1<=1073741824)(hle:y<=x):
    Calls prog 193 #[.slice a1 n1 c1,.slice a2 n2 c2] w (RNat w k1 (x-y)):=by
  obtain⟨xs,h1,l1,_,rfl⟩:=h1;obtain⟨ys,h2,l2,hz,rfl⟩:=h2;have e1:=h1.len;have e2:=h2.len
  have hl:n2<=n1:=by
    have:=length_le_of_le xs ys (by rw[e2];exact hz) h1.lt hle;omega
  refine(sub_wd w a1 a2 n1 n2 c1 c2 xs ys h1 h2 hl hle ji).mono ?_;rintro e w' ⟨ao,n,cap,he,hx,hn⟩;exact⟨ao,n,cap,he,hx,hn.mono l1⟩
def MulInv(w0:World)(g N z e r:Nat)(wr:World):Prop:=
  ∃ys,Own wr g ys/\ys.length=N/\(∀i,ys.getD i 0<4294967296)/\qD ys+e=r/\(∀i,z<=i->ys.getD i 0=0)/\Ext w0 wr
theorem MulInv.cell{w0 wr:World}{g N z e r:Nat}(h:MulInv w0 g N z e r wr)(j:Nat)(hj:j<N):
    ∃ o,wr.cell? ⟨g,j,none⟩=some (.int .u32 (o:Nat))/\o<4294967296/\(z<=j->o=0)/\wr.frozen? ⟨g,j,none⟩=false/\Ext w0 wr/\
      ∀y z' e' r',y<4294967296->w0.heap.size<=g->z<=z'->j<z'->r+4294967296^j*y+e'=r'+e+4294967296^j*o->MulInv w0 g N z' e' r' (wr.setCell ⟨g,j,none⟩ (.int .u32 (y:Nat))):=by
  obtain⟨ys,h1,h2,h3,h4,h5,h6⟩:=h;refine⟨ys.getD j 0,h1.cell j ji,h3 j,h5 j,h1.free j,h6,λy z' e' r' hy hg hz hz' hu=>?_⟩;refine⟨ys.set j y,h1.set _ _,by simpa using h2,λi=>?_,?_,λi hi=>?_,h6.set hg _⟩
  · rw[getD_set _ _ _ _ (by omega)];split
    ·exact hy
    ·exact h3 i
  · have:=natVal_set ys j y ji
    generalize 4294967296^j*ys.getD j 0=p at*;generalize 4294967296^j*y=q at*;omega
  ·exact tAdd_2
theorem MulInv.start{w0 wr:World}{g n:Nat}(h:Own wr g (List.replicate n 0))(he:Ext w0 wr)(z:Nat):MulInv w0 g n z 0 0 wr:=
  ⟨_,h,by simp,λi=>by rw[getD_zeros];omega,by rw[natVal_zeros],λi _=>getD_zeros _ _,he⟩
theorem MulInv.inner{w0 wr:World}{g n1 n2 x i:Nat}{A B:List Nat}(h:MulInv w0 g (n1+n2) (i+n2) 0 (pv A i*qD B) wr):MulInv w0 g (n1+n2) (i+n2) (4294967296^(i+0)*0) (pv A i*qD B+4294967296^i*x*pv B 0) wr:=by
  simpa [pv]using h
theorem MulInv.fin{w0 wr:World}{g N z r:Nat}(h:MulInv w0 g N z 0 r wr)(hN:N<=140737488355328):
    ∃ys,Wd wr (some ⟨g,0,none⟩) N N ys/\qD ys=r/\Ext w0 wr:=by
  obtain⟨ys,h1,h2,h3,h4,h5,h6⟩:=h;have hw:=h1.wd h3 N (Nat.le_of_eq h2) hN;rw[h2]at hw;exact⟨ys,hw,h4,h6⟩
theorem mul_step(r i k x b o c t q s:Nat)(ht:t=x*b+o+c)(hq:q=t/4294967296)(hs:s=t%4294967296):
    r+4294967296^(i+k)*s+4294967296^(i+k+1)*q=(r+4294967296^i*x*(4294967296^k*b))+4294967296^(i+k)*c+4294967296^(i+k)*o:=by
  have h:4294967296*q+s=x*b+o+c:=by rw[<-ht,hq,hs];omega
  have h2:4294967296^(i+k)*(4294967296*q+s)=4294967296^(i+k)*(x*b+o+c):=by rw[h]
  rw[Nat.pow_add]at*
  grind
theorem mul_next(v i k x y o c t q s:Nat)(B:List Nat)(ht:t=x*y+o+c)(hy:B.getD k 0=y)(hq:q=t/4294967296:=by rfl)(hs:s=t%4294967296:=by rfl):
    v+4294967296^i*x*pv B k+4294967296^(i+k)*s+4294967296^(i+(k+1))*q=v+4294967296^i*x*pv B (k+1)+4294967296^(i+k)*c+4294967296^(i+k)*o:=by
  have:=mul_step (v+4294967296^i*x*pv B k) i k x y o c t q s ht hq hs;rw[pv,hy,Nat.mul_add,<-Nat.add_assoc v];exact this
theorem mul_end(v i k x o c:Nat)(A B:List Nat)(ho:o=0)(hk:B.length=k)(hx:A.getD i 0=x)(hv:v=pv A i*qD B:=by rfl):
    v+4294967296^i*x*pv B k+4294967296^(i+k)*c+0=pv A (i+1)*qD B+4294967296^(i+k)*c+4294967296^(i+k)*o:=by
  rw[ho,pv,hx,xL B k (Nat.le_of_eq hk),hv]
  grind
theorem prod_lt(x y o c:Nat)(hx:x<4294967296)(hy:y<4294967296)(ho:o<4294967296)(hc:c<4294967296):x*y+o+c<18446744073709551616/\x*y<=18446744065119617025:=by
  have:=Nat.mul_le_mul (show x<=4294967295 by omega) (show y<=4294967295 by omega);omega
theorem mul_wd (w:World) (a1 a2:Option Addr)(n1 n2 c1 c2:Nat)(A B:List Nat)(h1:Wd w a1 n1 c1 A)(h2:Wd w a2 n2 c2 B)(s1:n1<=536870912)(s2:n2<=536870912):
    Calls prog 177 #[.slice a1 n1 c1,.slice a2 n2 c2] w (RNat w (n1+n2) (qD A*qD B)):=by
  have HA:=hid h1.lt;have HB:=hid h2.lt;have HlA:=hid h1.len;have HlB:=hid h2.len;have HW1:=hid h1;have HW2:=hid h2;have sh1:=h1.shape;have sh2:=h2.shape;clear h1 h2;rcases sh1 with sh1| ⟨b1,off1,rfl,hb1⟩ <;> rcases sh2 with sh2| ⟨b2,off2,rfl,hb2⟩
  all_goals
    go_enter func177,ntmps177;go_wp2_with (at_make;refine wpl_make rfl _ _ _ rfl underlying240 _ _ (n1+n2) rfl rfl ji ji ji ?_;intro w1 e1 z1 o1)
    have I0:=hid (MulInv.start o1 e1 n2);clear o1 e1 z1
    go_loopw [20] (λi wr=>∃k:Nat,k<=n1/\i=.int .i64 k/\Hid (MulInv w w.heap.size (n1+n2) (k+n2) 0 (pv A k*qD B) wr)) (λi _=>n1-(intOf i).toNat)
    case atStart=>exact⟨0,by omega,rfl,by simpa [pv]using I0⟩
    case round=>
      clear I0;obtain⟨i,hi,rfl,hinv⟩:=hrel;by_cases hi1:i<n1
      · first
          | (exfalso;omega)
          | (obtain ⟨o0,hc0,ho0,hz0,hf0,hext,hst0⟩:=hinv.out.cell i ji
             have hcA:=(HW1.out.ext hext).cell i hi1;have hxl:=HA.out i;clear hc0 ho0 hz0 hf0 hst0;have Hx:=hid (rfl:A.getD i 0=A.getD i 0);generalize hxe:A.getD i 0=x at hcA hxl;have Hxe:=hid hxe;clear hxe Hx;have J0:=hid (MulInv.inner (x:=x) hinv.out);clear hinv;go_wp2_with fail
             go_loopw [8,27] (λc j wi=>∃k cc:Nat,k<=n2/\cc<4294967296/\j=.int .i64 k/\c=.int .u64 cc/\Hid (MulInv w w.heap.size (n1+n2) (i+n2) (4294967296^(i+k)*cc) (pv A i*qD B+4294967296^i*x*pv B k) wi)) (λ_ j _=>n2-(intOf j).toNat)
             case atStart=>exact⟨0,0,by omega,by omega,rfl,rfl,J0⟩
             case round=>
               clear J0;obtain⟨k,cc,hk,hcc,rfl,rfl,hin⟩:=hrel;by_cases hk1:k<n2
               · first
                   | (exfalso;omega)
                   | (obtain⟨o,hco,hol,hz0,hfo,hexi,hsto⟩:=hin.out.cell (i+k) ji
                      have hcB:=(HW2.out.ext hexi).cell k hk1;have hyl:=HB.out k;clear hz0 hin;generalize hye:B.getD k 0=y at hcB hyl;have Hye:=hid hye;clear hye;obtain⟨hp1,hp2⟩:=prod_lt x y o cc hxl hyl hol hcc;have Hst:=hid hsto;clear hsto;generalize hpe:x*y=p at hp1 hp2;have hpi:(x:Int)*(y:Int)=(p:Int):=by rw[<-hpe];simp
                      have Hpe:=hid hpe;clear hpe;have hq:(p+o+cc)/4294967296<4294967296:=ji
                      have Hnew:=hid (Hst.out ((p+o+cc)%4294967296) (i+n2) (4294967296^(i+(k+1))*((p+o+cc)/4294967296)) (pv A i*qD B+4294967296^i*x*pv B (k+1)) ji (jP _) (jP _) ji
                        (mul_next _ i k x y o cc (p+o+cc) _ _ B (by rw[Hpe.out]) Hye.out))
                      clear Hst;go_wp2_with fail
                      go_roundw
                      case rel=>exact⟨k+1,_,by omega,hq,by go_num,by go_num,by rw[show(((p:Int)+o+cc)%4294967296)=(((p+o+cc)%4294967296:Nat):Int)from by omega];exact Hnew⟩
                      case measure=>simp[intOf];omega)
               · obtain rfl:k=n2:=by omega
                 obtain⟨o,hco,hol,hz0,hfo,hexi,hsto⟩:=hin.out.cell (i+k) ji;have Hnew:=hid (hsto cc (i+1+k) 0 (pv A (i+1)*qD B) hcc (jP _) ji ji (mul_end _ i k x o cc A B (hz0 (jP _)) HlB.out Hxe.out));clear hsto hz0 hin;go_wp2_with fail
                 go_roundw
                 case rel=>exact⟨i+1,by omega,by go_num,Hnew⟩
                 case measure=>simp[intOf];omega)
      · obtain rfl:i=n1:=by omega
        obtain⟨zs,hz1,hz2,hz3⟩:=hinv.out.fin ji;have hz2:=hid (hz2.trans (by rw[xL A _ (Nat.le_of_eq HlA.out)]));exact tAdd_1
theorem mul_c(w:World)(a1 a2:Option Addr)(n1 n2 c1 c2 k1 k2 x y:Nat)(h1:NatAt w k1 a1 n1 c1 x)(h2:NatAt w k2 a2 n2 c2 y)(s1:k1<=536870912)(s2:k2<=536870912):
    Calls prog 177 #[.slice a1 n1 c1,.slice a2 n2 c2] w (RNat w (k1+k2) (x*y)):=by
  obtain⟨xs,h1,l1,_,rfl⟩:=h1;obtain⟨ys,h2,l2,_,rfl⟩:=h2;refine(mul_wd w a1 a2 n1 n2 c1 c2 xs ys h1 h2 ji ji).mono ?_;rintro e w' ⟨ao,n,cap,he,hx,hn⟩;exact⟨ao,n,cap,he,hx,hn.mono ji⟩
end
end Go.Proofs.YtkeikfekkdplgaaGreatDoor
