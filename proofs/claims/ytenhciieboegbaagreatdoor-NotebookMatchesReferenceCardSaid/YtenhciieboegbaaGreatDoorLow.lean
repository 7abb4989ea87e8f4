/-
  slices.Backward at words, and Low of package integer: a range over a function. Every slice of words (Backward); every integer (Low).
-/
import Derived.RangeFuncBox
import Derived.RangeFuncLeaves
import Derived.Shelf.Abstract
import Derived.OwnWalkIn
import Derived.TacticsInMore
import Derived.LoopNIn
import Derived.LoopIn
import Derived.Test.YtenhciieboegbaaGreatDoorFact
namespace Go.Proofs.YtenhciieboegbaaGreatDoor
open Go Go.RowKit Go.Shelf
attribute [local go_sem] Oper.semAt_some
def upto{α:Type}(f:Nat→α)(k:Nat):List α:=(List.range k).map f
theorem upto_succ{α:Type}(f:Nat→α)(k:Nat):upto f (k+1)=upto f k++ [f k]:=by simp[upto,List.range_succ]
theorem upto_length{α:Type}(f:Nat→α)(k:Nat):(upto f k).length=k:=by simp[upto]
def Kpb(n₀ Bs:Nat)(W W':World):Prop:=Below n₀ W W'∧ ∀v,W.cell? ⟨Bs,0,none⟩=some v→W'.cell? ⟨Bs,0,none⟩=some v
theorem Kpb.refl(n₀ Bs:Nat)(W:World):Kpb n₀ Bs W W:=⟨Below.refl _ _,λ_ h=>h⟩
theorem Kpb.trans{n₀ Bs:Nat}{A B C:World}(h:Kpb n₀ Bs A B)(k:Kpb n₀ Bs B C):Kpb n₀ Bs A C:=⟨h.1.trans k.1,λv e=>k.2 v (h.2 v e)⟩
theorem Kpb.put{n₀ Bs:Nat}{w:World}(hn:n₀≤w.heap.size)(W:World)(l:Nat)(o o':Obj)(hl:w.heap.size≤l)(h:W.heap[l]? =some o)(hc:o.isCells=false)(hw:o.isWalk=false):Kpb n₀ Bs W (W.putObj l o'):=
  ⟨belowK_b hn W l o o' hl h hc hw,λ_ e=>cell_kept e (grownBy_putObj' W l o') (λ_ e=>by cases e;exact⟨o,h,hc⟩)⟩
def bwd(ys:Nat→Nat)(len:Nat):Nat→Nat×Nat:=λk=>(len-1-k,ys (len-1-k))
set_option maxRecDepth 100000 in
set_option maxHeartbeats 2000000 in
theorem back1_in(F:Fence)(n:Nat)(h7:F.fn 193)(hro:F.round=none)(hn:1≤n)(l Bs n₀ b off len cap:Nat)(ys:Nat→Nat)(hreach:len*8≤140737488351232)(hb:b<n₀)(J Jx:List (Nat×Nat)→World→Prop)
    (hY:∀pre x W,J pre W→pre.length<len→YieldAt F (n-1) Tryz.prog l #[.int .i64 (x.1:Int),.int .u32 ((x.2%4294967296:Nat):Int)] W λe W'=>
      (e=.returned (.bool true)∧J (pre++ [x]) W'∧Kpb n₀ Bs W W')∨(e=.returned (.bool false)∧Jx (pre++ [x]) W'))
    (W:World) (hBs:W.cell? ⟨Bs,0,none⟩=some (.slice (some ⟨b,off,none⟩) len cap)) (hc:∀j,j<len→W.cell? ⟨b,off+j,none⟩=some (.int .u32 ((ys j%4294967296:Nat):Int))) (h0:J [] W):
    CallsIn F n Tryz.prog 193 #[.func (.yield l) #[] #[],.pointer (some ⟨Bs,0,none⟩)] W λe W'=>(∃v,e=.returned v)∧
      ((∃xs,xs=upto (bwd ys len) len∧J xs W')∨(∃pre,(∃k,k≤len∧pre=upto (bwd ys len) k)∧Jx pre W')):=by
  refine callsIn_of_wp Tryz.func193 rfl h7 ?_ hro;simp only[Tryz.ntmps193,List.size_toArray,List.length_cons,List.length_nil,Nat.reduceAdd,Nat.reduceSub,Array.replicate_succ,Array.replicate_zero,List.push_toArray,List.append_toArray,List.nil_append,List.cons_append]
  gi_wp2
  gi_loopw [3] (λi wr=>∃j:Nat,j≤len∧i=.int .i64 ((j:Int)-1)∧J (upto (bwd ys len) (len-j)) wr∧Kpb n₀ Bs W wr)
    (λi _=>(intOf i+1).toNat)
  case atStart=>exact⟨len,Nat.le_refl _,rfl,by rw[Nat.sub_self];exact h0,Kpb.refl _ _ _⟩
  case round=>
    obtain⟨j,hj,rfl,hJs,hnx⟩:=hrel;rcases j with _|j
    · rw[show((0:Nat):Int)-1= -1 from rfl]
      gi_wp2
      go_end0
      exact⟨⟨_,rfl⟩,.inl ⟨_,rfl,hJs⟩⟩
    · rw [show((j+1:Nat):Int)-1=(j:Int)by omega]
      have hcx:wr.cell? ⟨b,off+j,none⟩=some (.int .u32 ((ys j%4294967296:Nat):Int)):=(hnx.1.cell (p:=⟨b,off+j,none⟩) hb).trans (hc j (by omega));have hBx:wr.cell? ⟨Bs,0,none⟩=some (.slice (some ⟨b,off,none⟩) len cap):=hnx.2 _ hBs
      have hf:bwd ys len (len-(j+1))=(j,ys j):=by
        unfold bwd;rw[show len-1-(len-(j+1))=j by omega]
      have hk:len-j=len-(j+1)+1:=by omega
      obtain⟨fn,tmps,assign,body,hy,hR⟩:=hY _ (j,ys j) wr hJs (by rw[upto_length];omega);simp only[Int.natCast_emod,Int.cast_ofNat_Int]at hy;have hjl:j<len:=by omega
      gi_wp2
      refine hR.mono ?_;rintro e W3 (⟨rfl,hJ3,hk3⟩| ⟨rfl,hJx3⟩)
      · gi_wp2
        go_roundw
        case rel=>exact⟨j,by omega,by simp,by rw[hk,upto_succ,hf];exact hJ3,hnx.trans hk3⟩
        case measure=>simp[intOf]
      · gi_wp2
        refine bodyPost_ret (results_none rfl _ _ _) rfl ?_;exact⟨⟨_,rfl⟩,.inr ⟨_,⟨len-(j+1)+1,by omega,by rw[upto_succ,hf]⟩,hJx3⟩⟩
set_option maxRecDepth 100000 in
set_option maxHeartbeats 1000000 in
theorem back1_nil_in(F:Fence)(n:Nat)(h7:F.fn 193)(hro:F.round=none)(l Bs cap:Nat)(ao:Option Addr)(J:List (Nat×Nat)→World→Prop)(W:World)(hBs:W.cell? ⟨Bs,0,none⟩=some (.slice ao 0 cap))(h0:J [] W):
    CallsIn F n Tryz.prog 193 #[.func (.yield l) #[] #[],.pointer (some ⟨Bs,0,none⟩)] W λe W'=>(∃v,e=.returned v)∧J [] W':=by
  refine callsIn_of_wp Tryz.func193 rfl h7 ?_ hro;simp only[Tryz.ntmps193,List.size_toArray,List.length_cons,List.length_nil,Nat.reduceAdd,Nat.reduceSub,Array.replicate_succ,Array.replicate_zero,List.push_toArray,List.append_toArray,List.nil_append,List.cons_append]
  gi_wp2
  gi_loopw [3] (λi wr=>i=.int .i64 (-1)∧J [] wr) (λ_ _=>0)
  case atStart=>exact⟨rfl,h0⟩
  case round=>
    obtain⟨rfl,hJs⟩:=hrel
    gi_wp2
    go_end0
    exact⟨⟨_,rfl⟩,hJs⟩
set_option maxHeartbeats 1000000 in
theorem back_in(F:Fence)(n:Nat)(h5:F.fn 187)(hro:F.round=none)(a:Option Addr)(len cap:Nat)(w:World):
    CallsIn F n Tryz.prog 187 #[.slice a len cap] w λe w'=>e=.returned (.func (.func 193) #[] #[.pointer (some ⟨w.heap.size,0,none⟩)])∧w'=w.alloc (.cells #[.slice a len cap] 27):=by
  refine callsIn_of_wp Tryz.func187 rfl h5 ?_ hro;simp only[Tryz.ntmps187,List.size_toArray,List.length_cons,List.length_nil,Nat.reduceAdd,Nat.reduceSub,Array.replicate_succ,Array.replicate_zero,List.push_toArray,List.append_toArray,List.nil_append,List.cons_append]
  gi_wp2
  go_ret
  exact⟨rfl,rfl⟩
def Wbel(n₀:Nat)(W:World)(a:Option Addr)(len:Nat)(ys:Nat→Nat):Prop:=
  len=0∨ ∃b off,a=some ⟨b,off,none⟩∧b<n₀∧ ∀j,j<len→W.cell? ⟨b,off+j,none⟩=some (.int .u32 ((ys j%4294967296:Nat):Int))
theorem Wbel.below{n₀:Nat}{A B:World}(h:Below n₀ A B){a:Option Addr}{len:Nat}{ys:Nat→Nat}:Wbel n₀ A a len ys→Wbel n₀ B a len ys
  | .inl e=> .inl e
  | .inr ⟨b,off,e,hb,hc⟩=> .inr ⟨b,off,e,hb,λj hj=>(h.cell (p:=⟨b,off+j,none⟩) hb).trans (hc j hj)⟩
theorem Wd.wbel{w:World}{a:Option Addr}{n c:Nat}{xs:List Nat}(h:Wd w a n c xs):Wbel w.heap.size w a n (λj=>xs.getD j 0):=by
  rcases h.at_ with h1| ⟨b,off,h1,h2,h3⟩
  ·exact .inl h1
  ·exact .inr ⟨b,off,h1,h2,λj hj=>by rw[h3 j hj,Nat.mod_eq_of_lt (h.lt j)]⟩
theorem back_stops(F:Fence)(n:Nat)(h7:F.fn 193)(hro:F.round=none)(hn:1≤n)(Bs n₀:Nat)(a:Option Addr)(len cap:Nat)(ys:Nat→Nat)(hreach:len*8≤140737488351232)(w:World)(hBs:Bs<w.heap.size)(hn₀:n₀≤w.heap.size)
    (hc:w.cell? ⟨Bs,0,none⟩=some (.slice a len cap)) (hI:Wbel n₀ w a len ys):
    SeqStopsK F n Tryz.prog 193 #[.pointer (some ⟨Bs,0,none⟩)] (λx:Nat×Nat=> #[Value.int .i64 (x.1:Int),Value.int .u32 ((x.2%4294967296:Nat):Int)]) (Kpb n₀ Bs) (λxs=>xs=upto (bwd ys len) len)
      (λpre=>∃k,k≤len∧pre=upto (bwd ys len) k) len w:=λl J Jx W hW _ _ hY h0=>by
  have hc':=(hW.cell (p:=⟨Bs,0,none⟩) hBs).trans hc;rcases hI.below (hW.mono hn₀)with h| ⟨b,off,rfl,hb,hcs⟩
  · subst h
    exact(back1_nil_in F n h7 hro l Bs cap a J W hc' h0).mono λe W' ⟨he,hj⟩=>⟨he,.inl ⟨_,rfl,hj⟩⟩
  ·exact back1_in F n h7 hro hn l Bs n₀ b off len cap ys hreach hb J Jx hY W hc' hcs h0
def bval(pre:List (Nat×Nat)):Nat:=pre.foldl (λv p=>v*4294967296+p.2%4294967296) 0
theorem bval_snoc(pre:List (Nat×Nat))(x:Nat×Nat):bval (pre++ [x])=bval pre*4294967296+x.2%4294967296:=by simp[bval]
theorem bval_lt(pre:List (Nat×Nat)):bval pre<4294967296^pre.length:=by
  have key:∀(l:List (Nat×Nat)) (a b:Nat),a<4294967296^b→l.foldl (λv p=>v*4294967296+p.2%4294967296) a<4294967296^(b+l.length):=by
    intro l
    induction l with
    |nil=>intro a b h;simpa using h
    | cons x l ih=>
      intro a b h;rw[List.foldl_cons,List.length_cons,show b+(l.length+1)=(b+1)+l.length by omega];refine ih _ _ ?_;have h2:x.2%4294967296<4294967296:=Nat.mod_lt _ (by decide);rw[Nat.pow_succ];have:a+1≤4294967296^b:=h;have:=Nat.mul_le_mul_right 4294967296 this;omega
  have:=key pre 0 0 (by decide)
  simpa [bval]using this
theorem low_bits(v x:Nat)(hv:v<4294967296)(hx:x<4294967296):bits .or .u64 ((v:Int)*4294967296) (x:Int)=((v*4294967296+x:Nat):Int):=by
  have:=u64_or_nat (v*4294967296) x (by omega) (by omega);rw[nat_join 32 _ _ (by omega) (by omega)]at this
  simpa using this
set_option maxRecDepth 100000 in
set_option maxHeartbeats 4000000 in
theorem Low_in(F:Fence)(m:Nat)(hf1:F.fn 167)(hf2:F.fn 187)(hf3:F.fn 193)(hro:F.round=none)(hm:3≤m)
    (w:World) (s:Bool) (a:Option Addr) (n c:Nat) (xs:List Nat) (h:Wd w a n c xs) (hn:n≤2) (t u:Int) (q1 q2:Bool)
    (HT:Hid (IntKind.i64.wrap ((bval (upto (bwd (λj=>xs.getD j 0) n) n):Nat):Int)=t)) (HU:Hid ((if s then IntKind.i64.wrap (-t)else t)=u)) (H1:Hid ((u !=0)=q1)) (H2:Hid (decide (u<0)=q2)):
    CallsIn F m Tryz.prog 167 #[.agg #[.bool s,.slice a n c]] w λe W'=>e=.returned (if q1&&(s !=q2)then .tuple #[.int .i64 0,.bool false]else .tuple #[.int .i64 u,.bool true])∧Below w.heap.size w W':=by
  have h1:1≤m:=by omega
  have hI:=h.wbel;have hn2:decide ((2:Int)<(n:Int))=false:=by simp;omega
  have hcb:n≤c∧c≤9223372036854775807:=⟨h.capo,h.big⟩;clear h;refine callsIn_of_wp_marks Tryz.func167 rfl hf1 ?_ hro;simp only[Tryz.ntmps167,List.size_toArray,List.length_cons,List.length_nil,Nat.reduceAdd,Nat.reduceSub,Array.replicate_succ,Array.replicate_zero,List.push_toArray,List.append_toArray,List.nil_append,List.cons_append]
  gi_wp2_with (gi_at_call 187;refine(back_in F (m-1) hf2 hro _ _ _ _).mono ?_;rintro e w' ⟨rfl,rfl⟩)
  have bV:=Boxed.new (w.alloc (.cells #[.bool s,.slice a n c] 29)) 95 (.int .u64 0);have bN:=Boxed.new ((w.alloc (.cells #[.bool s,.slice a n c] 29)).alloc (.cells #[.int .u64 0] 95)) 27 (.slice a n c);rw[World.size_alloc]at bV;rw[World.size_alloc,World.size_alloc]at bN;have cS:(((w.alloc (.cells #[.bool s,.slice a n c] 29)).alloc (.cells #[.int .u64 0] 95)).alloc (.cells #[.slice a n c] 27)).cell? ⟨w.heap.size,0,none⟩=some (.bool s):=(((Ext.refl _).alloc _).alloc _).cell (a:=w.alloc (.cells #[.bool s,.slice a n c] 29)) (by show World.cell? _ _=_;unfold World.cell?;dsimp only;rw[World.alloc_heap_new];rfl);have hB0:Below w.heap.size w (((w.alloc (.cells #[.bool s,.slice a n c] 29)).alloc (.cells #[.int .u64 0] 95)).alloc (.cells #[.slice a n c] 27)):=(((Below.refl _ w).alloc (Nat.le_refl _) _).alloc (by simp) _).alloc (by simp;omega) _;have hsz:w.heap.size≤(((w.alloc (.cells #[.bool s,.slice a n c] 29)).alloc (.cells #[.int .u64 0] 95)).alloc (.cells #[.slice a n c] 27)).heap.size:=hB0.size
  refine wpIn_rangeFunc_ownG hro h1 (gf:=193) (lb:= #[.pointer (some ⟨w.heap.size+1+1,0,none⟩)]) rfl hf3 (enters_of Tryz.func193 (by kernel_rfl) rfl)
    (back_stops F (m-1) hf3 hro (by omega) (w.heap.size+1+1) w.heap.size a n c (λj=>xs.getD j 0) (by omega) _ (by simp) (by simp;omega) bN.cell (hI.below hB0)) (λh k=>h.trans k) (Kpb.put hsz) (Below.refl _ _) (λ_=>rfl)
    (λpre W=>(W.cell? ⟨w.heap.size+1,0,none⟩=some (.int .u64 (bval pre:Nat))∧W.frozen? ⟨w.heap.size+1,0,none⟩=false∧W.cell? ⟨w.heap.size,0,none⟩=some (.bool s))∧Below w.heap.size w W)
    (λ_ _ _=>False)
    (OwnFrom.and (Own.from (λs A B row hs hg hr=>⟨cell_kept hs.1 hg hr,(frozen_kept hs.1 hg hr).trans hs.2.1,cell_kept hs.2.2 hg hr⟩) _) (ownFrom_below (Nat.le_refl _) (by simp;omega)))
    (λ_ _ _ _ _ hs _ _=>hs)
    ⟨⟨(bV.alloc _).cell,(bV.alloc _).frozen,cS⟩,hB0⟩
    (λx=>{tmps:= #[.agg #[.bool s,.slice a n c],.pointer (some ⟨w.heap.size,0,none⟩),.int .i64 0,.bool false,.pointer (some ⟨w.heap.size+1,0,none⟩),undef,.int .u32 ((x.2%4294967296:Nat):Int),undef,.pointer (some ⟨w.heap.size,1,none⟩),.slice a n c,.int .i64 n,.bool false,.pointer (some ⟨w.heap.size,1,none⟩),.slice a n c,.func (.func 193) #[] #[.pointer (some ⟨w.heap.size+1+1,0,none⟩)],.int .i64 (x.1:Int),.int .u32 ((x.2%4294967296:Nat):Int),undef,undef,undef,undef,undef,undef,undef,undef,undef,undef,undef,undef,undef,undef,undef,undef,undef,undef,undef,undef,undef],defers:= []}) ?assign ?body ?done ?stop
  case assign=>
    intro l x W K hK
    gi_wp2
    exact hK
  case body=>
    rintro l pre x W ⟨⟨hc,hf,hs⟩,hB⟩ hlen;have hbv:=bval_lt pre;have hb1:bval pre<4294967296:=Nat.lt_of_lt_of_le hbv (Nat.le_trans (Nat.pow_le_pow_right (by decide) (show pre.length≤1 by omega)) (by decide));have hx:x.2%4294967296<4294967296:=Nat.mod_lt _ (by decide);have hbs:=bval_snoc pre x;have hbits:=low_bits _ _ hb1 hx;rw[← hbs]at hbits;clear hbs hbv;obtain⟨nx,hnx⟩:∃nx,bval (pre++ [x])=nx:=⟨_,rfl⟩;rw[hnx]at hbits;have Hnx:=hid hnx;clear hnx;generalize bval pre=v at*;generalize x.2%4294967296=y at*
    gi_wp2
    have hne:(⟨w.heap.size+1,0,none⟩:Addr)≠⟨w.heap.size,0,none⟩:=by simp
    have hne2:(⟨w.heap.size+1,0,none⟩:Addr)≠⟨w.heap.size+1+1,0,none⟩:=by simp
    exact⟨(KeepsOthers.setCell _ _ _).from _,⟨(Below.refl w.heap.size W).setCell (p:=⟨w.heap.size+1,0,none⟩) (by simp) _,λu hu=>(World.cell?_setCell_other (w:=W) _ _ _ hne2).trans hu⟩,
      ⟨by rw[Hnx.out];exact World.cell?_setCell_same' _ _ _ (by rw[hc];rfl),by rw[World.frozen?_setCell];exact hf,(World.cell?_setCell_other (w:=W) _ _ _ hne).trans hs⟩,hB.setCell (p:=⟨w.heap.size+1,0,none⟩) (by simp) _⟩
  case done=>
    rintro D ys W hD rfl ⟨⟨hc,_,hs⟩,hB⟩ hK;have HT:=HT.out;have HU:=HU.out;have H1:=H1.out;have H2:=H2.out;generalize bval (upto (bwd (λj=>xs.getD j 0) n) n)=v at*;have hfin:Below w.heap.size w (W.putObj D (.deferred none)):=hB.trans (belowK_b (w:=w) (Nat.le_refl _) W D _ _ (by simp at hD;omega) hK rfl rfl);cases s
    all_goals
      cases q1
      all_goals
        cases q2
        all_goals
          simp only[if_true,if_false,Bool.false_eq_true]at HU
          gi_wp2
          refine⟨by simp,.inl ⟨_,_,rfl,run_takeDeferred hK,?_⟩⟩
          first
            |exact⟨.tuple #[.int .i64 u,.bool true],by simp[results,Tryz.results167,go_sem],rfl,hfin⟩
            |exact⟨.tuple #[.int .i64 0,.bool false],by simp[results,Tryz.results167,go_sem],rfl,hfin⟩
  case stop=>
    rintro D c pre W _ _ h _;exact h.elim
set_option maxRecDepth 100000 in
theorem Low_big(w:World)(s:Bool)(a:Option Addr)(n c:Nat)(hn:2<n):Calls Tryz.prog 167 #[.agg #[.bool s,.slice a n c]] w (Ret w (IsT2 (IsV (.int .i64 0)) (IsV (.bool false)))):=by
  have hn2:decide ((2:Int)<(n:Int))=true:=by simp;omega
  go_enter Tryz.func167,Tryz.ntmps167;go_wp2_with fail;exact bodyPost_ret (v:=.tuple #[.int .i64 0,.bool false]) (by simp[results,Tryz.results167,go_sem]) rfl ⟨_,rfl,(Ext.refl _).alloc _,_,_,rfl,rfl,rfl⟩
theorem low_natVal_two(xs:List Nat)(h:xs.length≤2):natVal xs=xs.getD 0 0+4294967296*xs.getD 1 0:=by
  match xs,h with
  | [],_=>rfl
  | [x],_=>simp[natVal]
  | [x,y],_=>simp[natVal]
theorem bval_nat(xs:List Nat)(hl:∀i,xs.getD i 0<4294967296)(n:Nat)(hn:xs.length=n)(h2:n≤2):bval (upto (bwd (λj=>xs.getD j 0) n) n)=natVal xs:=by
  rw[low_natVal_two xs (by omega)];have h0:=hl 0;have h1:=hl 1;have z0:n≤0→xs.getD 0 0=0:=λh=>by rw[List.getD_eq_getElem?_getD,List.getElem?_eq_none (by omega)];rfl
  have z1:n≤1→xs.getD 1 0=0:=λh=>by rw[List.getD_eq_getElem?_getD,List.getElem?_eq_none (by omega)];rfl
  rcases(by omega:n=0∨n=1∨n=2)with rfl|rfl|rfl
  ·rw[z0 (by omega),z1 (by omega)];rfl
  · have:bval (upto (bwd (λj=>xs.getD j 0) 1) 1)=0*4294967296+xs.getD 0 0%4294967296:=rfl
    rw[this,z1 (by omega),Nat.mod_eq_of_lt h0];omega
  · have:bval (upto (bwd (λj=>xs.getD j 0) 2) 2)=(0*4294967296+xs.getD 1 0%4294967296)*4294967296+xs.getD 0 0%4294967296:=rfl
    rw[this,Nat.mod_eq_of_lt h0,Nat.mod_eq_of_lt h1];omega
theorem Low_f{k:Nat}{z:Int}{x:Value}{w:World}(hx:IsI k z x w):
    Calls Tryz.prog 167 #[x] w (Ret w (if -9223372036854775808≤z∧z≤9223372036854775807 then IsT2 (IsV (.int .i64 z)) (IsV (.bool true))else IsT2 (IsV (.int .i64 0)) (IsV (.bool false)))):=by
  obtain⟨s,a,n,c,rfl,m,⟨xs,hw,hk,hz,hv⟩,hs,he⟩:=hx;have hlen:=hw.len;rcases Nat.lt_or_ge 2 n with h2|h2
  · rw [if_neg]
    ·exact Low_big w s a n c h2
    · have h3:=natVal_ge xs (by omega) (by rw[hlen];exact hz (by omega))
      have h4:(4294967296:Nat)^2≤4294967296^(xs.length-1):=Nat.pow_le_pow_right (by decide) (by omega);cases s
      ·simp only[Bool.false_eq_true,if_false]at he;omega
      ·simp only[if_true]at he;omega
  · have hb:=bval_nat xs hw.lt n hlen h2
    have hlt:m<4294967296^2:=by
      have h3:=natVal_lt xs hw.lt;have h4:(4294967296:Nat)^xs.length≤4294967296^2:=Nat.pow_le_pow_right (by decide) (by omega);omega
    have h0:m=0→s=false:=λh=>hs (by
      rcases Nat.eq_zero_or_pos n with h1|h1
      ·exact h1
      · have h3:=natVal_ge xs (by omega) (by rw[hlen];exact hz h1)
        have h4:0<(4294967296:Nat)^(xs.length-1):=Nat.pow_pos (by decide)
        omega)
    rw[hv]at hb;have key:=Low_in {fn:=λ_=>True} 3 trivial trivial trivial rfl (Nat.le_refl _) w s a n c xs hw h2 _ _ _ _ (hid rfl) (hid rfl) (hid rfl) (hid rfl);rw[hb]at key;refine Calls.mono (key.calls λ_ d h=>by cases h) λe W' ⟨he2,hB⟩=>?_
    subst he2;have hwr:IntKind.i64.wrap (m:Int)=if m<9223372036854775808 then(m:Int)else(m:Int)-18446744073709551616:=by simp only[IntKind.wrap_i64];split <;> omega
    cases s
    · simp only[Bool.false_eq_true,if_false]at he ⊢
      subst he;rw[hwr];by_cases hm:m<9223372036854775808
      · rw[if_pos hm,if_pos (by omega)]
        refine⟨_,rfl,hB,_,_,?_,rfl,rfl⟩;rw[if_neg];simp <;> omega
      · rw[if_neg hm,if_neg (by omega)]
        refine⟨_,rfl,hB,_,_,?_,rfl,rfl⟩;rw[if_pos];simp <;> omega
    · have h1:0<m:=by
        rcases Nat.eq_zero_or_pos m with h|h
        ·cases h0 h
        ·exact h
      simp only[if_true]at he ⊢;subst he;rw[hwr];by_cases hm:m<9223372036854775808
      · rw[if_pos hm,show IntKind.i64.wrap (-(m:Int))= -(m:Int)by simp only[IntKind.wrap_i64];omega,if_pos (by omega)]
        refine⟨_,rfl,hB,_,_,?_,rfl,rfl⟩;rw[if_neg];simp <;> omega
      · rcases Nat.eq_or_lt_of_le (show 9223372036854775808≤m by omega)with hm2|hm2
        · subst hm2
          rw[if_neg hm,if_pos (by omega)];exact⟨_,rfl,hB,_,_,rfl,rfl,rfl⟩
        · rw[if_neg hm,show IntKind.i64.wrap (-((m:Int)-18446744073709551616))=18446744073709551616-(m:Int)by simp only[IntKind.wrap_i64];omega,if_neg (by omega)]
          refine⟨_,rfl,hB,_,_,?_,rfl,rfl⟩;rw[if_pos];simp <;> omega
end Go.Proofs.YtenhciieboegbaaGreatDoor
