/-
  slices.Backward at words, and Low of package integer: a range over a function. Every slice of words (Backward); every integer (Low).
  Package notebook: the reader: small.
  An append from any row of memory (any offset, or nil), to a row whose block holds no word.
  Package notebook: rows of nodes and of cells by append. (Printed by wip/gen/nap.py.)
  Package notebook in plain words: the parts of a read expression, and what is left.
-/
import Derived.RangeFuncBox
import Derived.RangeFuncLeaves
import Derived.Shelf.Abstract
import Derived.OwnWalkIn
import Derived.TacticsInMore
import Derived.LoopNIn
import Derived.LoopIn
import Derived.Test.YtenhciieboegbaaGreatDoorFact
import Derived.Test.YtenhciieboegbaaGreatDoorNnu
import Derived.Test.YtenhciieboegbaaGreatDoorRwn
namespace Go.Proofs.YtenhciieboegbaaGreatDoor
open Go Go.RowKit Go.Shelf
open Go.Proofs.Tryz
theorem xd{P:Prop}(h:P:=by simpa [Value.cells]using hu):P:=h
set_option maxRecDepth 100000
set_option maxHeartbeats 4000000
attribute [local go_sem] Oper.semAt_some
def upto{α:Type}(f:Nat->α)(k:Nat):List α:=(List.range k).map f
theorem upto_succ{α:Type}(f:Nat->α)(k:Nat):upto f (k+1)=upto f k++ [f k]:=by simp[upto,List.range_succ]
theorem upto_length{α:Type}(f:Nat->α)(k:Nat):(upto f k).length=k:=by simp[upto]
def Kpb(n₀ Bs:Nat)(W W':World):Prop:=Below n₀ W W'/\∀v,W.cell? ⟨Bs,0,none⟩=some v->W'.cell? ⟨Bs,0,none⟩=some v
theorem Kpb.refl(n₀ Bs:Nat)(W:World):Kpb n₀ Bs W W:=⟨Below.refl _ _,λ_ h=>h⟩
theorem Kpb.trans{n₀ Bs:Nat}{A B C:World}(h:Kpb n₀ Bs A B)(k:Kpb n₀ Bs B C):Kpb n₀ Bs A C:=⟨h.1.trans k.1,λv e=>k.2 v (h.2 v e)⟩
theorem Kpb.put{n₀ Bs:Nat}{w:World}(hn:n₀<=w.heap.size)(W:World)(l:Nat)(o o':Obj)(hl:w.heap.size<=l)(h:W.heap[l]? =some o)(hc:o.isCells=false)(hw:o.isWalk=false):Kpb n₀ Bs W (W.putObj l o'):=
  ⟨belowK_b hn W l o o' hl h hc hw,λ_ e=>cell_kept e (grownBy_putObj' W l o') (λ_ e=>by cases e;exact⟨o,h,hc⟩)⟩
def bwd(ys:Nat->Nat)(len:Nat):Nat->Nat×Nat:=λk=>(len-1-k,ys (len-1-k))
theorem back1_in(F:Fence)(n:Nat)(h7:F.fn 193)(hro:F.round=none)(hn:1<=n)(l Bs n₀ b off len cap:Nat)(ys:Nat->Nat)(hreach:len*8<=140737488351232)(hb:b<n₀)(J Jx:List (Nat×Nat)->World->Prop)
    (hY:∀pre x W,J pre W->pre.length<len->YieldAt F (n-1) prog l #[.int .i64 (x.1:Int),.int .u32 ((x.2%4294967296:Nat):Int)] W λe W'=>
      (e=.returned (.bool true)/\J (pre++ [x]) W'/\Kpb n₀ Bs W W')\/(e=.returned (.bool false)/\Jx (pre++ [x]) W'))
    (W:World) (hBs:W.cell? ⟨Bs,0,none⟩=some (.slice (some ⟨b,off,none⟩) len cap)) (hc:∀j,j<len->W.cell? ⟨b,off+j,none⟩=some (.int .u32 ((ys j%4294967296:Nat):Int))) (h0:J [] W):
    CallsIn F n prog 193 #[.func (.yield l) #[] #[],.pointer (some ⟨Bs,0,none⟩)] W λe W'=>(∃v,e=.returned v)/\
      ((∃xs,xs=upto (bwd ys len) len/\J xs W')\/(∃pre,(∃k,k<=len/\pre=upto (bwd ys len) k)/\Jx pre W')):=by
  refine callsIn_of_wp func193 rfl h7 ?_ hro;simp only[ntmps193,List.size_toArray,List.length_cons,List.length_nil,Nat.reduceAdd,Nat.reduceSub,Array.replicate_succ,Array.replicate_zero,List.push_toArray,List.append_toArray,List.nil_append,List.cons_append]
  gi_wp2
  gi_loopw [3] (λi wr=>∃j:Nat,j<=len/\i=.int .i64 ((j:Int)-1)/\J (upto (bwd ys len) (len-j)) wr/\Kpb n₀ Bs W wr)
    (λi _=>(intOf i+1).toNat)
  case atStart=>exact⟨len,zN _,rfl,by rw[Nat.sub_self];exact h0,Kpb.refl _ _ _⟩
  case round=>
    obtain⟨j,hj,rfl,hJs,hnx⟩:=hrel;rcases j with _|j
    · rw[show((0:Nat):Int)-1= -1 from rfl]
      gi_wp2
      go_end0
      exact⟨⟨_,rfl⟩,.inl ⟨_,rfl,hJs⟩⟩
    · rw [show((j+1:Nat):Int)-1=(j:Int)by omega]
      have hcx:wr.cell? ⟨b,off+j,none⟩=some (.int .u32 ((ys j%4294967296:Nat):Int)):=(hnx.1.cell (p:=⟨b,off+j,none⟩) hb).trans (hc j ze);have hBx:wr.cell? ⟨Bs,0,none⟩=some (.slice (some ⟨b,off,none⟩) len cap):=hnx.2 _ hBs
      have hf:bwd ys len (len-(j+1))=(j,ys j):=by
        unfold bwd;rw[show len-1-(len-(j+1))=j by omega]
      have hk:len-j=len-(j+1)+1:=ze
      obtain⟨fn,tmps,assign,body,hy,hR⟩:=hY _ (j,ys j) wr hJs (by rw[upto_length];omega);simp only[Int.natCast_emod,Int.cast_ofNat_Int]at hy;have hjl:j<len:=ze
      gi_wp2
      refine hR.mono ?_;rintro e W0 (⟨rfl,hJ3,hk3⟩| ⟨rfl,hJx3⟩)
      · gi_wp2
        go_roundw
        case rel=>exact⟨j,by omega,by simp,by rw[hk,upto_succ,hf];exact hJ3,hnx.trans hk3⟩
        case measure=>simp[intOf]
      · gi_wp2
        refine zH (results_none rfl _ _ _) rfl ?_;exact⟨⟨_,rfl⟩,.inr ⟨_,⟨len-(j+1)+1,by omega,by rw[upto_succ,hf]⟩,hJx3⟩⟩
theorem back1_nil_in(F:Fence)(n:Nat)(h7:F.fn 193)(hro:F.round=none)(l Bs cap:Nat)(ao:Option Addr)(J:List (Nat×Nat)->World->Prop)(W:World)(hBs:W.cell? ⟨Bs,0,none⟩=some (.slice ao 0 cap))(h0:J [] W):
    CallsIn F n prog 193 #[.func (.yield l) #[] #[],.pointer (some ⟨Bs,0,none⟩)] W λe W'=>(∃v,e=.returned v)/\J [] W':=by
  refine callsIn_of_wp func193 rfl h7 ?_ hro;simp only[ntmps193,List.size_toArray,List.length_cons,List.length_nil,Nat.reduceAdd,Nat.reduceSub,Array.replicate_succ,Array.replicate_zero,List.push_toArray,List.append_toArray,List.nil_append,List.cons_append]
  gi_wp2
  gi_loopw [3] (λi wr=>i=.int .i64 (-1)/\J [] wr) (λ_ _=>0)
  case atStart=>exact⟨rfl,h0⟩
  case round=>
    obtain⟨rfl,hJs⟩:=hrel
    gi_wp2
    go_end0
    exact⟨⟨_,rfl⟩,hJs⟩
theorem back_in(F:Fence)(n:Nat)(h5:F.fn 187)(hro:F.round=none)(a:Option Addr)(len cap:Nat)(w:World):
    CallsIn F n prog 187 #[.slice a len cap] w λe w'=>e=.returned (.func (.func 193) #[] #[.pointer (some ⟨w.heap.size,0,none⟩)])/\w'=w.alloc (.cells #[.slice a len cap] 27):=by
  refine callsIn_of_wp func187 rfl h5 ?_ hro;simp only[ntmps187,List.size_toArray,List.length_cons,List.length_nil,Nat.reduceAdd,Nat.reduceSub,Array.replicate_succ,Array.replicate_zero,List.push_toArray,List.append_toArray,List.nil_append,List.cons_append]
  gi_wp2
  go_ret
  exact⟨rfl,rfl⟩
def Wbel(n₀:Nat)(W:World)(a:Option Addr)(len:Nat)(ys:Nat->Nat):Prop:=
  len=0\/∃b off,a=some ⟨b,off,none⟩/\b<n₀/\∀j,j<len->W.cell? ⟨b,off+j,none⟩=some (.int .u32 ((ys j%4294967296:Nat):Int))
theorem Wbel.below{n₀:Nat}{A B:World}(h:Below n₀ A B){a:Option Addr}{len:Nat}{ys:Nat->Nat}:Wbel n₀ A a len ys->Wbel n₀ B a len ys
  | .inl e=> .inl e
  | .inr ⟨b,off,e,hb,hc⟩=> .inr ⟨b,off,e,hb,λj hj=>(h.cell (p:=⟨b,off+j,none⟩) hb).trans (hc j hj)⟩
theorem Wd.wbel{w:World}{a:Option Addr}{n c:Nat}{xs:List Nat}(h:Wd w a n c xs):Wbel w.heap.size w a n (λj=>xs.getD j 0):=by
  rcases h.at_ with h1| ⟨b,off,h1,h2,h3⟩
  ·exact .inl h1
  ·exact .inr ⟨b,off,h1,h2,λj hj=>by rw[h3 j hj,Nat.mod_eq_of_lt (h.lt j)]⟩
theorem back_stops(F:Fence)(n:Nat)(h7:F.fn 193)(hro:F.round=none)(hn:1<=n)(Bs n₀:Nat)(a:Option Addr)(len cap:Nat)(ys:Nat->Nat)(hreach:len*8<=140737488351232)(w:World)(hBs:Bs<w.heap.size)(hn₀:n₀<=w.heap.size)
    (hc:w.cell? ⟨Bs,0,none⟩=some (.slice a len cap)) (hI:Wbel n₀ w a len ys):
    SeqStopsK F n prog 193 #[.pointer (some ⟨Bs,0,none⟩)] (λx:Nat×Nat=> #[Value.int .i64 (x.1:Int),Value.int .u32 ((x.2%4294967296:Nat):Int)]) (Kpb n₀ Bs) (λxs=>xs=upto (bwd ys len) len)
      (λpre=>∃k,k<=len/\pre=upto (bwd ys len) k) len w:=λl J Jx W hW _ _ hY h0=>by
  have hc':=(hW.cell (p:=⟨Bs,0,none⟩) hBs).trans hc;rcases hI.below (hW.mono hn₀)with h| ⟨b,off,rfl,hb,hcs⟩
  · subst h
    exact(back1_nil_in F n h7 hro l Bs cap a J W hc' h0).mono λe W' ⟨he,hj⟩=>⟨he,.inl ⟨_,rfl,hj⟩⟩
  ·exact back1_in F n h7 hro hn l Bs n₀ b off len cap ys hreach hb J Jx hY W hc' hcs h0
def bval(pre:List (Nat×Nat)):Nat:=pre.foldl (λv p=>v*4294967296+p.2%4294967296) 0
theorem bval_snoc(pre:List (Nat×Nat))(x:Nat×Nat):bval (pre++ [x])=bval pre*4294967296+x.2%4294967296:=by simp[bval]
theorem bval_lt(pre:List (Nat×Nat)):bval pre<4294967296^pre.length:=by
  have key:∀(l:List (Nat×Nat)) (a b:Nat),a<4294967296^b->l.foldl (λv p=>v*4294967296+p.2%4294967296) a<4294967296^(b+l.length):=by
    intro l
    induction l with
    |nil=>intro a b h;simpa using h
    | cons x l ih=>
      intro a b h;rw[List.foldl_cons,List.length_cons,show b+(l.length+1)=(b+1)+l.length by omega];refine ih _ _ ?_;have h2:x.2%4294967296<4294967296:=Nat.mod_lt _ dcx;rw[Nat.pow_succ];have:a+1<=4294967296^b:=h;have:=Nat.mul_le_mul_right 4294967296 this;omega
  have:=key pre 0 0 dcx
  simpa [bval]using this
theorem low_bits(v x:Nat)(hv:v<4294967296)(hx:x<4294967296):bits .or .u64 ((v:Int)*4294967296) (x:Int)=((v*4294967296+x:Nat):Int):=by
  have:=u64_or_nat (v*4294967296) x ze ze;rw[nat_join 32 _ _ (by omega) (by omega)]at this
  simpa using this
theorem Low_in(F:Fence)(m:Nat)(hf1:F.fn 167)(hf2:F.fn 187)(hf3:F.fn 193)(hro:F.round=none)(hm:3<=m)
    (w:World) (s:Bool) (a:Option Addr) (n c:Nat) (xs:List Nat) (h:Wd w a n c xs) (hn:n<=2) (t u:Int) (q1 q2:Bool)
    (HT:Hid (IntKind.i64.wrap ((bval (upto (bwd (λj=>xs.getD j 0) n) n):Nat):Int)=t)) (HU:Hid ((if s then IntKind.i64.wrap (-t)else t)=u)) (H1:Hid ((u !=0)=q1)) (H2:Hid (decide (u<0)=q2)):
    CallsIn F m prog 167 #[.agg #[.bool s,.slice a n c]] w λe W'=>e=.returned (if q1&&(s !=q2)then .tuple #[.int .i64 0,.bool false]else .tuple #[.int .i64 u,.bool true])/\Below w.heap.size w W':=by
  have h1:1<=m:=ze
  have hI:=h.wbel;have hn2:decide ((2:Int)<(n:Int))=false:=jh
  have hcb:n<=c/\c<=9223372036854775807:=⟨h.capo,h.big⟩;clear h;refine callsIn_of_wp_marks func167 rfl hf1 ?_ hro;simp only[ntmps167,List.size_toArray,List.length_cons,List.length_nil,Nat.reduceAdd,Nat.reduceSub,Array.replicate_succ,Array.replicate_zero,List.push_toArray,List.append_toArray,List.nil_append,List.cons_append]
  gi_wp2_with (gi_at_call 187;refine(back_in F (m-1) hf2 hro _ _ _ _).mono ?_;rintro e w' ⟨rfl,rfl⟩)
  have bV:=Boxed.new (w.alloc (.cells #[.bool s,.slice a n c] 29)) 95 (.int .u64 0);have bN:=Boxed.new ((w.alloc (.cells #[.bool s,.slice a n c] 29)).alloc (.cells #[.int .u64 0] 95)) 27 (.slice a n c);rw[World.size_alloc]at bV;rw[World.size_alloc,World.size_alloc]at bN;have cS:(((w.alloc (.cells #[.bool s,.slice a n c] 29)).alloc (.cells #[.int .u64 0] 95)).alloc (.cells #[.slice a n c] 27)).cell? ⟨w.heap.size,0,none⟩=some (.bool s):=(((Ext.refl _).alloc _).alloc _).cell (a:=w.alloc (.cells #[.bool s,.slice a n c] 29)) (by show World.cell? _ _=_;unfold World.cell?;dsimp only;rw[World.alloc_heap_new];rfl);have hB0:Below w.heap.size w (((w.alloc (.cells #[.bool s,.slice a n c] 29)).alloc (.cells #[.int .u64 0] 95)).alloc (.cells #[.slice a n c] 27)):=(((Below.refl _ w).alloc (zN _) _).alloc zo _).alloc jh _;have hsz:w.heap.size<=(((w.alloc (.cells #[.bool s,.slice a n c] 29)).alloc (.cells #[.int .u64 0] 95)).alloc (.cells #[.slice a n c] 27)).heap.size:=hB0.size
  refine wpIn_rangeFunc_ownG hro h1 (gf:=193) (lb:= #[.pointer (some ⟨w.heap.size+1+1,0,none⟩)]) rfl hf3 (enters_of func193 zc rfl)
    (back_stops F (m-1) hf3 hro ze (w.heap.size+1+1) w.heap.size a n c (λj=>xs.getD j 0) ze _ zo jh bN.cell (hI.below hB0)) (λh k=>h.trans k) (Kpb.put hsz) (Below.refl _ _) (λ_=>rfl)
    (λpre W=>(W.cell? ⟨w.heap.size+1,0,none⟩=some (.int .u64 (bval pre:Nat))/\W.frozen? ⟨w.heap.size+1,0,none⟩=false/\W.cell? ⟨w.heap.size,0,none⟩=some (.bool s))/\Below w.heap.size w W)
    (λ_ _ _=>False)
    (OwnFrom.and (Own.from (λs A B row hs hg hr=>⟨cell_kept hs.1 hg hr,(frozen_kept hs.1 hg hr).trans hs.2.1,cell_kept hs.2.2 hg hr⟩) _) (ownFrom_below (zN _) jh))
    (λ_ _ _ _ _ hs _ _=>hs)
    ⟨⟨(bV.alloc _).cell,(bV.alloc _).frozen,cS⟩,hB0⟩
    (λx=>{tmps:= #[.agg #[.bool s,.slice a n c],.pointer (some ⟨w.heap.size,0,none⟩),.int .i64 0,.bool false,.pointer (some ⟨w.heap.size+1,0,none⟩),undef,.int .u32 ((x.2%4294967296:Nat):Int),undef,.pointer (some ⟨w.heap.size,1,none⟩),.slice a n c,.int .i64 n,.bool false,.pointer (some ⟨w.heap.size,1,none⟩),.slice a n c,.func (.func 193) #[] #[.pointer (some ⟨w.heap.size+1+1,0,none⟩)],.int .i64 (x.1:Int),.int .u32 ((x.2%4294967296:Nat):Int),undef,undef,undef,undef,undef,undef,undef,undef,undef,undef,undef,undef,undef,undef,undef,undef,undef,undef,undef,undef,undef],defers:= []}) ?assign ?body ?done ?stop
  case assign=>
    intro l x W K hK
    gi_wp2
    exact hK
  case body=>
    rintro l pre x W ⟨⟨hc,hf,hs⟩,hB⟩ hlen;have hbv:=bval_lt pre;have hb1:bval pre<4294967296:=Nat.lt_of_lt_of_le hbv (zO (Nat.pow_le_pow_right dcx (show pre.length<=1 by omega)) dcx);have hx:x.2%4294967296<4294967296:=Nat.mod_lt _ dcx;have hbs:=bval_snoc pre x;have hbits:=low_bits _ _ hb1 hx;rw[<-hbs]at hbits;clear hbs hbv;obtain⟨nx,hnx⟩:∃nx,bval (pre++ [x])=nx:=⟨_,rfl⟩;rw[hnx]at hbits;have Hnx:=hid hnx;clear hnx;generalize bval pre=v at*;generalize x.2%4294967296=y at*
    gi_wp2
    have hne:(⟨w.heap.size+1,0,none⟩:Addr)≠⟨w.heap.size,0,none⟩:=zo
    have hne2:(⟨w.heap.size+1,0,none⟩:Addr)≠⟨w.heap.size+1+1,0,none⟩:=zo
    exact⟨(KeepsOthers.setCell _ _ _).from _,⟨(Below.refl w.heap.size W).setCell (p:=⟨w.heap.size+1,0,none⟩) zo _,λu hu=>(World.cell?_setCell_other (w:=W) _ _ _ hne2).trans hu⟩,
      ⟨by rw[Hnx.out];exact World.cell?_setCell_same' _ _ _ (by rw[hc];rfl),by rw[World.frozen?_setCell];exact hf,(World.cell?_setCell_other (w:=W) _ _ _ hne).trans hs⟩,hB.setCell (p:=⟨w.heap.size+1,0,none⟩) zo _⟩
  case done=>
    rintro D ys W hD rfl ⟨⟨hc,_,hs⟩,hB⟩ hK;have HT:=HT.out;have HU:=HU.out;have H1:=H1.out;have H2:=H2.out;generalize bval (upto (bwd (λj=>xs.getD j 0) n) n)=v at*;have hfin:Below w.heap.size w (W.putObj D (.deferred none)):=hB.trans (belowK_b (w:=w) (zN _) W D _ _ (by simp at hD;omega) hK rfl rfl);cases s
    all_goals
      cases q1
      all_goals
        cases q2
        all_goals
          simp only[if_true,if_false,Bool.false_eq_true]at HU
          gi_wp2
          refine⟨by simp,.inl ⟨_,_,rfl,run_takeDeferred hK,?_⟩⟩
          first
            |exact⟨.tuple #[.int .i64 u,.bool true],by simp[results,results167,go_sem],rfl,hfin⟩
            |exact⟨.tuple #[.int .i64 0,.bool false],by simp[results,results167,go_sem],rfl,hfin⟩
  case stop=>
    rintro D c pre W _ _ h _;exact h.elim
theorem Low_big(w:World)(s:Bool)(a:Option Addr)(n c:Nat)(hn:2<n):Calls prog 167 #[.agg #[.bool s,.slice a n c]] w (Ret w (IsT2 (iV 0) (IsV (.bool false)))):=by
  have hn2:decide ((2:Int)<(n:Int))=true:=jh
  go_enter func167,ntmps167;go_wp2_with fail;exact zH (v:=.tuple #[.int .i64 0,.bool false]) (by simp[results,results167,go_sem]) rfl ⟨_,rfl,(Ext.refl _).alloc _,_,_,rfl,rfl,rfl⟩
theorem low_natVal_two(xs:List Nat)(h:xs.length<=2):qF xs=xs.getD 0 0+4294967296*xs.getD 1 0:=by
  match xs,h with
  | [],_=>rfl
  | [x],_=>simp[qF]
  | [x,y],_=>simp[qF]
theorem bval_nat(xs:List Nat)(hl:∀i,xs.getD i 0<4294967296)(n:Nat)(hn:xs.length=n)(h2:n<=2):bval (upto (bwd (λj=>xs.getD j 0) n) n)=qF xs:=by
  rw[low_natVal_two xs (by omega)];have h0:=hl 0;have h1:=hl 1;have z0:n<=0->xs.getD 0 0=0:=λh=>by rw[List.getD_eq_getElem?_getD,List.getElem?_eq_none (by omega)];rfl
  have z1:n<=1->xs.getD 1 0=0:=λh=>by rw[List.getD_eq_getElem?_getD,List.getElem?_eq_none (by omega)];rfl
  rcases(by omega:n=0\/n=1\/n=2)with rfl|rfl|rfl
  ·rw[z0 (by omega),z1 (by omega)];rfl
  · have:bval (upto (bwd (λj=>xs.getD j 0) 1) 1)=0*4294967296+xs.getD 0 0%4294967296:=rfl
    rw[this,z1 (by omega),Nat.mod_eq_of_lt h0];omega
  · have:bval (upto (bwd (λj=>xs.getD j 0) 2) 2)=(0*4294967296+xs.getD 1 0%4294967296)*4294967296+xs.getD 0 0%4294967296:=rfl
    rw[this,Nat.mod_eq_of_lt h0,Nat.mod_eq_of_lt h1];omega
theorem Low_f{k:Nat}{z:Int}{x:Value}{w:World}(hx:IsI k z x w):
    Calls prog 167 #[x] w (Ret w (if -9223372036854775808<=z/\z<=9223372036854775807 then IsT2 (iV z) (IsV (.bool true))else IsT2 (iV 0) (IsV (.bool false)))):=by
  obtain⟨s,a,n,c,rfl,m,⟨xs,hw,hk,hz,hv⟩,hs,he⟩:=hx;have hlen:=hw.len;rcases zR 2 n with h2|h2
  · rw [if_neg]
    ·exact Low_big w s a n c h2
    · have h3:=jR xs ze (by rw[hlen];exact hz ze)
      have h4:(4294967296:Nat)^2<=4294967296^(xs.length-1):=Nat.pow_le_pow_right dcx ze;cases s
      ·simp only[Bool.false_eq_true,if_false]at he;omega
      ·simp only[if_true]at he;omega
  · have hb:=bval_nat xs hw.lt n hlen h2
    have hlt:m<4294967296^2:=by
      have h3:=natVal_lt xs hw.lt;have h4:(4294967296:Nat)^xs.length<=4294967296^2:=Nat.pow_le_pow_right dcx ze;omega
    have h0:m=0->s=false:=λh=>hs (by
      rcases zK n with h1|h1
      ·exact h1
      · have h3:=jR xs ze (by rw[hlen];exact hz h1)
        have h4:0<(4294967296:Nat)^(xs.length-1):=Nat.pow_pos dcx
        omega)
    rw[hv]at hb;have key:=Low_in {fn:=λ_=>True} 3 trivial trivial trivial rfl (zN _) w s a n c xs hw h2 _ _ _ _ (hid rfl) (hid rfl) (hid rfl) (hid rfl);rw[hb]at key;refine zG (key.calls λ_ d h=>by cases h) λe W' ⟨he2,hB⟩=>?_
    subst he2;have hwr:IntKind.i64.wrap (m:Int)=if m<9223372036854775808 then(m:Int)else(m:Int)-18446744073709551616:=by simp only[IntKind.wrap_i64];split <;> omega
    cases s
    · simp only[Bool.false_eq_true,if_false]at he ⊢
      subst he;rw[hwr];by_cases hm:m<9223372036854775808
      · rw[if_pos hm,if_pos (by omega)]
        refine⟨_,rfl,hB,_,_,?_,rfl,rfl⟩;rw[if_neg];simp <;> omega
      · rw[if_neg hm,if_neg (by omega)]
        refine⟨_,rfl,hB,_,_,?_,rfl,rfl⟩;rw[if_pos];simp <;> omega
    · have h1:0<m:=by
        rcases zK m with h|h
        ·cases h0 h
        ·exact h
      simp only[if_true]at he ⊢;subst he;rw[hwr];by_cases hm:m<9223372036854775808
      · rw[if_pos hm,show IntKind.i64.wrap (-(m:Int))= -(m:Int)by simp only[IntKind.wrap_i64];omega,if_pos (by omega)]
        refine⟨_,rfl,hB,_,_,?_,rfl,rfl⟩;rw[if_neg];simp <;> omega
      · rcases Nat.eq_or_lt_of_le (show 9223372036854775808<=m by omega)with hm2|hm2
        · subst hm2
          rw[if_neg hm,if_pos (by omega)];exact⟨_,rfl,hB,_,_,rfl,rfl,rfl⟩
        · rw[if_neg hm,show IntKind.i64.wrap (-((m:Int)-18446744073709551616))=18446744073709551616-(m:Int)by simp only[IntKind.wrap_i64];omega,if_neg (by omega)]
          refine⟨_,rfl,hB,_,_,?_,rfl,rfl⟩;rw[if_pos];simp <;> omega
open Go Go.RowKit
def SmP:Int->Value->World->Prop:=λz v _=>v=.int .i64 z
section
set_option maxRecDepth 100000
set_option maxHeartbeats 8000000
theorem tNex_1{P:Prop}(h:P:=by
  have HR2:=hid (show smlP s=none by rw[HR.out,if_neg (by omega)]);go_wp2_with (first| (go_at_call 113;refine zG HN.out ?_;rintro e w1 ⟨o1,b1,v1,rfl,hv1⟩;have hv1:=hid hv1)| (go_at_call 167;refine zG (HLW.out _ _ hv1.out) ?_;rintro e w2 ⟨v2,rfl,e2,x1,x2,rfl,d1,d2⟩;obtain rfl:x1=.int .i64 z:=d1;obtain rfl:x2=.bool true:=d2))
  rw[HR2.out];exact⟨rfl,o1.then e2,rfl⟩
  ):P:=h
theorem small_f{R:Nat}{s:List UInt8}{w:World}(B:Bk w R [qB s])(hl:s.length<=1000000):Calls prog 137 #[.pointer (some ⟨R,0,none⟩)] w (RdP R w SmP (smlP s)):=by
  have HN:=hid (number_f B hl);obtain⟨q,hq⟩:∃q,numP s=q:=⟨_,rfl⟩;have HQ1:=hid (show q=none->smlP s=none from λh=>by rw[smlP,hq,h]);have HQ2:=hid (show ∀z t,q=some (z,t)->smlP s=if -1000000<=z/\z<=1000000 then some (z,t)else none from λz t h=>by rw[smlP,hq,h]);rw[hq]at HN;have HN:Hid (Calls prog 113 #[.pointer (some ⟨R,0,none⟩)] w (RdP R w IntP q)):=HN;clear B hl hq;go_enter func137,ntmps137;cases q with
  | none=>
    have HR:=hid (HQ1.out rfl);clear HQ1 HQ2;go_wp2_with (go_at_call 113;refine zG HN.out ?_;rintro e w1 ⟨o1,rfl⟩)
    rw[HR.out];exact⟨rfl,o1,rfl⟩
  | some y=>
    obtain⟨z,t⟩:=y;have HR:=hid (HQ2.out z t rfl);clear HQ1 HQ2;have HLW:=hid (λ(x:Value) (w:World) (h:IsI 136 z x w)=>Low_f h);by_cases hb: -9223372036854775808<=z/\z<=9223372036854775807
    · have HLW:Hid (∀(x:Value) (w:World) (h:IsI 136 z x w),Calls prog 167 #[x] w (Ret w (IsT2 (iV z) (IsV (.bool true))))):=by rw[if_pos hb]at HLW;exact HLW
      have HBB:=hid hb;clear hb;by_cases h1:z< -1000000
      ·exact tNex_1
      · by_cases h2:1000000<z
        ·exact tNex_1
        · have HR2:=hid (show smlP s=some (z,t)by rw[HR.out,if_pos (by omega)])
          go_wp2_with (first| (go_at_call 113;refine zG HN.out ?_;rintro e w1 ⟨o1,b1,v1,rfl,hv1⟩;have hv1:=hid hv1)| (go_at_call 167;refine zG (HLW.out _ _ hv1.out) ?_;rintro e w2 ⟨v2,rfl,e2,x1,x2,rfl,d1,d2⟩;obtain rfl:x1=.int .i64 z:=d1;obtain rfl:x2=.bool true:=d2))
          go_ret
          rw[HR2.out];exact⟨o1.then e2,b1.ext e2,_,rfl,rfl⟩
    · have HLW:Hid (∀(x:Value) (w:World) (h:IsI 136 z x w),Calls prog 167 #[x] w (Ret w (IsT2 (iV 0) (IsV (.bool false))))):=by rw[if_neg hb]at HLW;exact HLW
      have HR2:=hid (show smlP s=none by rw[HR.out,if_neg (by omega)]);clear hb;go_wp2_with (first| (go_at_call 113;refine zG HN.out ?_;rintro e w1 ⟨o1,b1,v1,rfl,hv1⟩;have hv1:=hid hv1)| (go_at_call 167;refine zG (HLW.out _ _ hv1.out) ?_;rintro e w2 ⟨v2,rfl,e2,x1,x2,rfl,d1,d2⟩;obtain rfl:x1=.int .i64 0:=d1;obtain rfl:x2=.bool false:=d2))
      rw[HR2.out];exact⟨rfl,o1.then e2,rfl⟩
end
def SrcR(m:Nat)(news:List Value)(x:Value)(w:World):Prop:=(x=.slice none 0 0/\m=0/\news= [])\/∃g f c,x=.slice (some ⟨g,f,none⟩) m c/\∀j u,news[j]? =some u->World.cell? w ⟨g,f+j,none⟩=some u
theorem SrcR.ext{m:Nat}{news:List Value}{x:Value}{w w':World}(h:SrcR m news x w)(e:Ext w w'):SrcR m news x w':=h.imp id λ⟨g,f,c,h1,h2⟩=>⟨g,f,c,h1,λj u hj=>e.cell (h2 j u hj)⟩
theorem SrcR.new(w:World)(cs:Array Value)(t m c:Nat):SrcR m cs.toList (.slice (some ⟨w.heap.size,0,none⟩) m c) (w.alloc (.cells cs t)):=.inr ⟨_,0,c,rfl,λj u hj=>by rw[Nat.zero_add];exact cells_newE w cs t _ rfl j u hj⟩
theorem wp_rwnS{P:Program}{w:World}{o:Oper}{a:Act}{Q:Exit->Act->World->Prop}{K:Act->World->Prop}(s x:Operand)(t:TypeId)
    (ho:o.op=.call {callee:=.builtin .append,args:= #[s,x],argTypes:= #[t,t]}) (base e:Nat) (z:Value) (k bytes:Nat) (ht:P.underlying t=some (.slice e)) (hinfo:(P.info? e).map (λi=>(i.zero,i.size,i.bytes))=some (some z,k,bytes))
    (hzs:z.cells.size=k) (hk:0<k) (hzn:∀u∈z.cells.toList,NoWord u) (v:Value) (n:Nat) (xs:List Value) (hs:a.eval s=v) (hown:Rwg e k base w v n xs) (hnw:NwB w v) (m:Nat) (news:List Value) (xv:Value) (hx:a.eval x=xv) (hl:news.length=m*k)
    (hnews:SrcR m news xv w) (h1:∀u∈news,u.oneCell'=true) (hnn:∀u∈news,NoWord u) (h63:n+m<=140737488355328) (hbytes:(n+m)*bytes<=140737488355328) (hbase:base<=w.heap.size)
    (h:∀v' w',Rwg e k base w' v' (n+m) (xs++news)->NwB w' v'->w.grownBy w' v.ownBlock->Gr w w'->Below base w w'->(v'.ownBlock=v.ownBlock\/v'.ownBlock=some w.heap.size)->K (a.put o.dst v') w'):
    Oper.wp P o a w K Q:=by
  obtain⟨i,hi,hz0,hz1,hz2⟩:=info_parts hinfo;rcases hnews with⟨rfl,rfl,rfl⟩| ⟨g,f,c,rfl,hc⟩
  · have hr:=run_append_owned_none (P:=P) (w:=w) base t o.type e i k ht hi v n xs hown
    unfold Oper.wp execOp;simp only[ho,resolve,invoke,builtin,Sem.run_bind,Sem.run_pure,Result.andThen_ok,List.map_toArray,List.map_cons,List.map_nil,hs,hx,hr];exact h v w (by simpa using hown) hnw ⟨rfl,rfl,rfl,zN _,λ_ _ _=>rfl⟩ (Gr.refl w) (Below.refl base w) (.inl rfl)
  · obtain⟨v',w',hr,h2,h3,h5,h6⟩:=run_append_nw (P:=P) w base t o.type e i z k bytes ht hi hz0 hz1 hz2 hzs hk hzn v n xs hown hnw ⟨g,f,none⟩ m c news hl (λj u hj=>by have:=hc j u hj;cases j <;> simpa [Addr.add]using this) h1 hnn (by unfold maxLen;omega) hbytes hbase
    unfold Oper.wp execOp;simp only[ho,resolve,invoke,builtin,Sem.run_bind,Sem.run_pure,Result.andThen_ok,List.map_toArray,List.map_cons,List.map_nil,hs,hx,hr];refine h v' w' h2 h6 h3 (gr_of_grown h3 hnw) ((Below.refl base w).grown h3 hbase λb hb=>?_) h5;obtain⟨_,⟨hv,_⟩| ⟨g,cap,cur,hv,hb2,_⟩⟩:=hown
    ·rw[hv]at hb;cases hb
    ·rw[hv]at hb;cases hb;exact hb2
open Go Go.RowKit Go.Maps Go.Shelf
attribute [local go_sem] Oper.semAt_some
set_option maxRecDepth 100000
def RwK(T k base:Nat)(M:List (List Value))(v:Value)(w:World):Prop:=Rwg T k base w v M.length M.flatten/\NwB w v
theorem RwK.ext{T k base:Nat}{M:List (List Value)}{v:Value}{w w':World}(h:RwK T k base M v w)(e:Ext w w'):RwK T k base M v w':=⟨h.1.ext e,h.2.kept λg hg=>e.block g (World.ownsRow.lt h.1 g hg).2⟩
theorem RwK.nil(T k base:Nat)(w:World):RwK T k base [] (.slice none 0 0) w:=⟨Rwg.nil _ _ _ _,NwB.nil _⟩
theorem RwK.ob{T k base R:Nat}{M:List (List Value)}{v:Value}{w w':World}(h:RwK T k base M v w)(O:Ob R w w')(hR:R<base):RwK T k base M v w':=by
  have hb:∀g,v.ownBlock=some g->w'.heap[g]? =w.heap[g]? :=λg hg=>O.block g (World.ownsRow.lt h.1 g hg).2 (by have:=(World.ownsRow.lt h.1 g hg).1;omega)
  refine⟨?_,h.2.kept hb⟩;obtain⟨h1,h2| ⟨g,cap,cur,hv,hb2,hg,hr⟩⟩:=h.1
  ·exact⟨h1,.inl h2⟩
  ·exact⟨h1,.inr ⟨g,cap,cur,hv,hb2,(hb g (by rw[hv];rfl)).trans hg,hr⟩⟩
theorem flat_atK{k:Nat}:∀ {L:List (List Value)},(∀vs∈L,vs.length=k)->∀ {j:Nat} {vs:List Value},L[j]? =some vs->∀ {q:Nat} {u:Value},vs[q]? =some u->L.flatten[k*j+q]? =some u
  | [],_,j,vs,hj,_,_,_=>by simp at hj
  | x ::t,h,0,vs,hj,q,u,hq=>by
    obtain rfl:x=vs:=ja
    rw[List.flatten_cons,Nat.mul_zero,Nat.zero_add,List.getElem?_append_left (List.getElem?_eq_some_iff.1 hq).1];exact hq
  | x ::t,h,j+1,vs,hj,q,u,hq=>by
    have hx:x.length=k:=h x zo;rw[List.flatten_cons,List.getElem?_append_right (by rw[hx,Nat.mul_succ];omega),hx,show k*(j+1)+q-k=k*j+q by rw[Nat.mul_succ];omega];exact flat_atK (λvs hv=>h vs (List.mem_cons_of_mem _ hv)) ja hq
theorem RwK.at{T k base:Nat}{M:List (List Value)}{v:Value}{w:World}(h:RwK T k base M v w)(hk:∀us∈M,us.length=k):∃ao cap,v=.slice ao M.length cap/\M.length<=cap/\cap<=9223372036854775807/\
    (M≠ []->∃g,ao=some ⟨g,0,none⟩/\base<=g/\g<w.heap.size/\∀i us,M[i]? =some us->∀j u,us[j]? =some u->w.cell? ⟨g,k*i+j,none⟩=some u):=by
  obtain⟨ao,cap,h1,h2,h3,h4,h5⟩:=h.1.shape;refine⟨ao,cap,h1,h2,h3,λhne=>?_⟩;obtain⟨g,q1,q2,q3,q4⟩:=h5 (by simpa using hne);refine⟨g,q1,q2,q3,λi us hi j u hj=>q4 _ _ ?_⟩;exact flat_atK hk hi hj
theorem infoNd:∃bytes,(prog.info? 32).map (λi=>(i.zero,i.size,i.bytes))=some (some (.agg zNd.toArray),8,bytes)/\bytes<=1000:=⟨104,by kernel_rfl,by decide⟩
theorem wp_nd{w:World}{o:Oper}{a:Act}{Q:Exit->Act->World->Prop}{K:Act->World->Prop}(t:Tmp)(s x:Operand)
    (ho:o.op=.call {callee:=.builtin .append,args:= #[s,x],argTypes:= #[30,30]}) (base:Nat) (M:List (List Value)) (us:List Value) (v xv:Value) (hs:a.eval s=v) (hx:a.eval x=xv) (hI:RwK 32 8 base M v w) (hu:us.length=8/\(∀v∈us,NoWord v)/\us.all (λu=>u.oneCell')=true) (hsrc:SrcR 1 us xv w) (hl:M.length<=1000000) (hbase:base<=w.heap.size)
    (h:∀v' w',RwK 32 8 base (M++ [us]) v' w'->w.grownBy w' v.ownBlock->Gr w w'->Below base w w'->K (a.put (some t) v') w') (hdt:o.dst=some t:=by rfl):Oper.wp prog o a w K Q:=by
  obtain⟨bytes,hi,hb⟩:=infoNd;refine wp_rwnS s x 30 ho base 32 (.agg zNd.toArray) 8 bytes zc hi rfl dcx (λu hu=>nwZN u xd) v M.length M.flatten hs hI.1 hI.2 1 us xv hx (by rw[hu.1]) hsrc (List.all_eq_true.1 hu.2.2) hu.2.1 ze (by have:=Nat.mul_le_mul (show M.length+1<=1000001 by omega) hb;omega) hbase ?_;intro v' w' r1 r2 r3 r4 r5 r6;rw[hdt];exact h v' w' ⟨by rw[zQ,List.flatten_append];simpa using r1,r2⟩ r3 r4 r5
theorem infoCl:∃bytes,(prog.info? 34).map (λi=>(i.zero,i.size,i.bytes))=some (some (.agg zCl.toArray),9,bytes)/\bytes<=1000:=⟨120,by kernel_rfl,by decide⟩
theorem wp_cl{w:World}{o:Oper}{a:Act}{Q:Exit->Act->World->Prop}{K:Act->World->Prop}(t:Tmp)(s x:Operand)
    (ho:o.op=.call {callee:=.builtin .append,args:= #[s,x],argTypes:= #[25,25]}) (base:Nat) (M:List (List Value)) (us:List Value) (v xv:Value) (hs:a.eval s=v) (hx:a.eval x=xv) (hI:RwK 34 9 base M v w) (hu:us.length=9/\(∀v∈us,NoWord v)/\us.all (λu=>u.oneCell')=true) (hsrc:SrcR 1 us xv w) (hl:M.length<=1000000) (hbase:base<=w.heap.size)
    (h:∀v' w',RwK 34 9 base (M++ [us]) v' w'->w.grownBy w' v.ownBlock->Gr w w'->Below base w w'->K (a.put (some t) v') w') (hdt:o.dst=some t:=by rfl):Oper.wp prog o a w K Q:=by
  obtain⟨bytes,hi,hb⟩:=infoCl;refine wp_rwnS s x 25 ho base 34 (.agg zCl.toArray) 9 bytes zc hi rfl dcx (λu hu=>nwZCl u xd) v M.length M.flatten hs hI.1 hI.2 1 us xv hx (by rw[hu.1]) hsrc (List.all_eq_true.1 hu.2.2) hu.2.1 ze (by have:=Nat.mul_le_mul (show M.length+1<=1000001 by omega) hb;omega) hbase ?_;intro v' w' r1 r2 r3 r4 r5 r6;rw[hdt];exact h v' w' ⟨by rw[zQ,List.flatten_append];simpa using r1,r2⟩ r3 r4 r5
noncomputable def infP (k:Nat) (b:Sc) (t:List UInt8):Option (Nd×List UInt8):=
  (exP k b t).bind λ(x,s1)=>(qG [32] s1).bind λs2=>(qG (opW (opP s2)++ [32]) s2).bind λs3=>
    (exP k b s3).bind λ(y,s4)=>(qG [41] s4).bind λs5=>some (.mk (opP s2) [] 0 0 0 0 [x,y],s5)
noncomputable def valP (s2:List UInt8):Option (Nd×List UInt8):=
  (qG [34] s2).bind λs3=>(qG [44,32] ((s3.dropWhile (· !=34)).drop 1)).bind λs4=>(smlP s4).bind λ(z,s5)=>some (.mk 3 (s3.takeWhile (· !=34)) z 0 0 0 [],s5)
noncomputable def bndP (k:Nat) (b:Sc) (op:Int) (s2:List UInt8):Option (Nd×List UInt8):=
  (qG [44,32] (s2.dropWhile qH)).bind λs3=>(smlP s3).bind λ(lo,s4)=>(qG [44,32] s4).bind λs5=>(smlP s5).bind λ(hi,s6)=>(qG [44,32] s6).bind λs7=>
    (exP k (b++ [s2.takeWhile qH]) s7).bind λ(x,s8)=>some (.mk op (s2.takeWhile qH) 0 0 lo hi [x],s8)
noncomputable def joiP (k:Nat) (b:Sc) (op:Int) (s2:List UInt8):Option (Nd×List UInt8):=
  (exP k b s2).bind λ(x,s3)=>(qG [44,32] s3).bind λs4=>(exP k b s4).bind λ(y,s5)=>some (.mk op [] 0 0 0 0 [x,y],s5)
noncomputable def caP (k:Nat) (b:Sc) (w s2:List UInt8):Option (Nd×List UInt8):=
  if w=wVal then valP s2 else if jE w=0 then none else if qZ (jE w)then bndP k b (jE w) s2 else joiP k b (jE w) s2
theorem exP_nil(k:Nat)(b:Sc):exP k b []=none:=by cases k <;> rfl
theorem exP_inf(k:Nat)(b:Sc)(t:List UInt8):exP (k+1) b (40 ::t)=infP k b t:=by rw[exP];simp only[if_true];rfl
theorem exP_num{k:Nat}{b:Sc}{c:UInt8}{t:List UInt8}(h1:c≠40)(h2:xP c=false):exP (k+1) b (c ::t)=(numP (c ::t)).bind λ(z,t)=>some (.mk 1 [] 0 z 0 0 [],t):=by
  rw[exP];simp only[if_neg h1,h2];rfl
theorem exP_name{k:Nat}{b:Sc}{c:UInt8}{t:List UInt8}(h1:c≠40)(h2:xP c=true)(h3:qG [40] ((c ::t).dropWhile qH)=none):exP (k+1) b (c ::t)=some (.mk (if b.contains ((c ::t).takeWhile qH)then 11 else 2) ((c ::t).takeWhile qH) 0 0 0 0 [],(c ::t).dropWhile qH):=by
  rw[exP];simp only[if_neg h1,h2,if_true];rw[h3]
theorem exP_call{k:Nat}{b:Sc}{c:UInt8}{t s2:List UInt8}(h1:c≠40)(h2:xP c=true)(h3:qG [40] ((c ::t).dropWhile qH)=some s2):exP (k+1) b (c ::t)=(caP k b ((c ::t).takeWhile qH) s2).bind λ(x,s6)=>(qG [41] s6).bind λs7=>some (x,s7):=by
  rw[exP];simp only[if_neg h1,h2,if_true];rw[h3];rfl
theorem qJ{x s t:List UInt8}(h:qG x s=some t):t.length<=s.length:=by
  rw[qG]at h
  split at h
  ·cases h;simp
  ·cases h
theorem xR(p:UInt8->Bool)(s:List UInt8):(s.takeWhile p).length<=s.length/\(s.dropWhile p).length<=s.length:=⟨(List.takeWhile_prefix _).length_le,(List.dropWhile_suffix _).length_le⟩
theorem numP_len{s t:List UInt8}{z:Int}(h:numP s=some (z,t)):t.length<=s.length:=by
  rw[numP]at h
  split at h
  ·cases h
  · simp only[Option.some.injEq,Prod.mk.injEq]at h
    rw[<-h.2];have:=(xR qH (s.drop (xE s).length)).2;simp at this;omega
theorem smlP_len{s t:List UInt8}{z:Int}(h:smlP s=some (z,t)):t.length<=s.length:=by
  rw[smlP]at h;cases hn:numP s with
  |none=>rw[hn]at h;cases h
  | some y=>
    obtain⟨z',t'⟩:=y;rw[hn]at h;dsimp only at h
    split at h
    · simp only[Option.some.injEq,Prod.mk.injEq]at h
      rw[<-h.2];exact numP_len hn
    ·cases h
theorem qI{α β:Type}{o:Option α}{f:α->Option β}{y:β}(h:o.bind f=some y):∃x,o=some x/\f x=some y:=Option.bind_eq_some_iff.1 h
theorem valP_len{s t:List UInt8}{x:Nd}(h:valP s=some (x,t)):t.length<=s.length:=by
  rw[valP]at h;obtain⟨s3,h1,h⟩:=qI h;obtain⟨s4,h2,h⟩:=qI h;obtain⟨⟨z,s5⟩,h3,h⟩:=qI h;simp only[Option.some.injEq,Prod.mk.injEq]at h;have q1:=qJ h1;have q2:=qJ h2;have q3:=smlP_len h3;have q4:=(xR (· !=34) s3).2;simp only[List.length_drop]at q2;rw[<-h.2];omega
theorem exP_len:∀ (k:Nat) {b:Sc} {s t:List UInt8} {x:Nd},exP k b s=some (x,t)->t.length<=s.length:=by
  intro k
  induction k with
  |zero=>intro b s t x h;cases h
  | succ k ih=>
    intro b s t x h;cases s with
    |nil=>rw[exP_nil]at h;cases h
    | cons c u=>
      by_cases h1:c=40
      · subst h1
        rw[exP_inf,infP]at h;obtain⟨⟨y,s1⟩,h1,h⟩:=qI h;obtain⟨s2,h2,h⟩:=qI h;obtain⟨s3,h3,h⟩:=qI h;obtain⟨⟨z,s4⟩,h4,h⟩:=qI h;obtain⟨s5,h5,h⟩:=qI h;simp only[Option.some.injEq,Prod.mk.injEq]at h;have q1:=ih h1;have q2:=qJ h2;have q3:=qJ h3;have q4:=ih h4;have q5:=qJ h5;rw[<-h.2,List.length_cons];omega
      · cases h2:xP c with
        | false=>
          rw[exP_num h1 h2]at h;obtain⟨⟨z,s1⟩,h3,h⟩:=qI h;simp only[Option.some.injEq,Prod.mk.injEq]at h;rw[<-h.2];exact numP_len h3
        | true=>
          cases h3:qG [40] ((c ::u).dropWhile qH)with
          | none=>
            rw[exP_name h1 h2 h3]at h;simp only[Option.some.injEq,Prod.mk.injEq]at h;rw[<-h.2];exact(xR _ _).2
          | some s2=>
            rw[exP_call h1 h2 h3]at h;obtain⟨⟨y,s6⟩,h4,h⟩:=qI h;obtain⟨s7,h5,h⟩:=qI h;simp only[Option.some.injEq,Prod.mk.injEq]at h;have q1:=qJ h3;have q2:=qJ h5;have q3:=(xR qH (c ::u)).2
            have q4:s6.length<=s2.length:=by
              rw[caP]at h4
              split at h4
              ·exact valP_len h4
              · split at h4
                ·cases h4
                · split at h4
                  · rw[bndP]at h4
                    obtain⟨r3,g1,h4⟩:=qI h4;obtain⟨⟨lo,r4⟩,g2,h4⟩:=qI h4;obtain⟨r5,g3,h4⟩:=qI h4;obtain⟨⟨hi,r6⟩,g4,h4⟩:=qI h4;obtain⟨r7,g5,h4⟩:=qI h4;obtain⟨⟨z,r8⟩,g6,h4⟩:=qI h4;simp only[Option.some.injEq,Prod.mk.injEq]at h4;have p0:=(xR qH s2).2;have p1:=qJ g1;have p2:=smlP_len g2;have p3:=qJ g3;have p4:=smlP_len g4;have p5:=qJ g5;have p6:=ih g6;rw[<-h4.2];omega
                  · rw[joiP]at h4
                    obtain⟨⟨y1,r3⟩,g1,h4⟩:=qI h4;obtain⟨r4,g2,h4⟩:=qI h4;obtain⟨⟨y2,r5⟩,g3,h4⟩:=qI h4;simp only[Option.some.injEq,Prod.mk.injEq]at h4;have p1:=ih g1;have p2:=qJ g2;have p3:=ih g3;rw[<-h4.2];omega
            rw[<-h.2];omega
end Go.Proofs.YtenhciieboegbaaGreatDoor
