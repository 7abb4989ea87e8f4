/-
 The arguments of the laws of package density as they read: a description of nine numbers, and bytes. And what the row's four listed variables give. No condition.
 slices.Backward at words, and Low of package integer: a range over a function. Every slice of words (Backward); every integer (Low).
 The number of representations as a product over primes: what package density computes, and the relations of the laws DensityProducts and DensityInert. Plain laws, no program.
-/
import Derived.Test.YtknffgdbdadpcaaGreatDoorMod1
import Derived.Test.YtknffgdbdadpcaaGreatDoorMod3
import Derived.OpenShut
import Derived.RangeFuncBox
import Derived.RangeFuncLeaves
import Derived.Shelf.Abstract
import Derived.OwnWalkIn
import Derived.TacticsInMore
import Derived.LoopNIn
import Derived.LoopIn
import Derived.Test.YtknffgdbdadpcaaGreatDoorFact
import Derived.Test.YtknffgdbdadpcaaGreatDoorAdd
namespace Go.Proofs.YtknffgdbdadpcaaGreatDoor
open Go Go.RowKit Go.ChangeShapes Go.WideShapes Go.ChangeAt Go.Joins
open Go.Proofs.Tryz
abbrev zS:=@World.alloc_heap_new
set_option maxRecDepth 100000
set_option maxHeartbeats 4000000
set_option maxRecDepth 100000
section
variable {H:Type} {enc:TypeId×Value->H}
def Dry(enc:TypeId×Value->H)(P:Program)(t:TypeId):Prop:=∀(w:World) (b:Nat) (sp:Nat->Bool) (hd:Bool) (w':World) (b':Nat) (sp':Nat->Bool) (hd':Bool) (fuel:Nat) (cs:List Value) (x:DataW H×List MemPlace),
 DataW.trod enc P w b sp hd fuel t cs=some x->DataW.trod enc P w' b' sp' hd' fuel t cs=some x
theorem mapM_in{α β:Type}{f g:α->Option β}:∀ {l:List α} {r:List β},(∀x∈l,∀y,f x=some y->g x=some y)->l.mapM f=some r->l.mapM g=some r
 | [],r,_,h=>by simpa using h
 | a ::l,r,hfg,h=>by
  simp only[List.mapM_cons]at h ⊢;cases hfa:f a with
  |none=>rw[hfa]at h;simp at h
  | some y=>
   rw[hfa]at h;rw[hfg a (by simp) y hfa];cases hr:l.mapM f with
   |none=>rw[hr]at h;simp at h
   | some ys=>
    rw[hr]at h;rw[mapM_in (λx hx=>hfg x (by simp[hx])) hr];exact h
theorem Dry.int{P:Program}{t:TypeId}{k:IntKind}(ht:P.underlying t=some (.int k)):Dry enc P t:=by
 intro w b sp hd w' b' sp' hd' fuel cs x h;obtain⟨n,rfl,rfl,hw⟩:=DataW.trod_int ht h;cases fuel with
 |zero=>simp[DataW.trod]at h
 |succ m=>exact trod_int_mk m ht hw
theorem Dry.array{P:Program}{t e:TypeId}{n:Nat}(ht:P.underlying t=some (.array n e))(he:Dry enc P e):Dry enc P t:=by
 intro w b sp hd w' b' sp' hd' fuel cs x h;cases fuel with
 |zero=>simp[DataW.trod]at h
 | succ m=>
  unfold DataW.trod at h ⊢;rw[ht]at h ⊢;simp only at h ⊢
  split at h
  ·cases hr:(List.range n).mapM (λi=>DataW.trod enc P w b sp hd m e ((cs.drop (i*P.cellsOf e)).take (P.cellsOf e)))with
   |none=>simp_all
   | some ys=>
    have:=mapM_in (g:=λi=>DataW.trod enc P w' b' sp' hd' m e ((cs.drop (i*P.cellsOf e)).take (P.cellsOf e))) (λi _ y hy=>he _ _ _ _ _ _ _ _ _ _ _ hy) hr
    simp_all
  ·simp_all
theorem Dry.struct{P:Program}{t:TypeId}{fs:Array Field}(ht:P.underlying t=some (.struct fs))(he:∀f∈fs.toList,Dry enc P f.type):Dry enc P t:=by
 intro w b sp hd w' b' sp' hd' fuel cs x h;cases fuel with
 |zero=>simp[DataW.trod]at h
 | succ m=>
  unfold DataW.trod at h ⊢;rw[ht]at h ⊢;simp only at h ⊢
  split at h
  ·cases hr:fs.toList.mapM (λf=>DataW.trod enc P w b sp hd m f.type ((cs.drop f.offset).take (P.cellsOf f.type)))with
   |none=>simp_all
   | some ys=>
    have:=mapM_in (g:=λf=>DataW.trod enc P w' b' sp' hd' m f.type ((cs.drop f.offset).take (P.cellsOf f.type))) (λi hi y hy=>he i hi _ _ _ _ _ _ _ _ _ _ _ hy) hr
    simp_all
  ·simp_all
theorem wf_u16(n:Int)(h:(Lit.int .u16 n).wf=true):0<=n/\n<=65535:=by
 simp only[Lit.wf,Bool.and_eq_true,zU]at h;have h1:IntKind.min .u16=0:=rfl;have h2:IntKind.max .u16=65535:=rfl;rw[h1,h2]at h;exact h
theorem fraw_open{W:World}{b0:Nat}{r:Reach}{v:Value}{d:DataW H}{p:List MemPlace}(hv:Value.okWide prog W r b0 26 v)(h:DataW.Trod enc prog W 0 (λ_=>true) true 26 v d p):
  ∃(n:Nat) (v1 v2 v3 v4 v5 v6 v7 v8:Value),v=.agg #[.int .u16 (n:Int),v1,v2,v3,v4,v5,v6,v7,v8]/\n<65536/\Reads enc W 26 v d p:=by
 have hdry:Dry enc prog 26:=by
  refine Dry.struct underlying26 ?_;intro f hf;simp only[List.mem_cons,List.not_mem_nil,or_false]at hf;have h16:Dry enc prog 22:=Dry.int (k:=.u16) za;have h8:Dry enc prog 5:=Dry.int (k:=.u8) za;rcases hf with rfl|rfl|rfl
  ·exact h16
  ·exact Dry.array (n:=4) (e:=22) za h16
  ·exact Dry.array (n:=4) (e:=5) za h8
 have hC:prog.cellsOf 26=9:=za
 have hE:prog.cellsOf 22=1:=za
 have ht:=underlying26;simp only[Value.okWide,ht]at hv;obtain⟨cs,rfl,hsz,_⟩:=hv;obtain⟨n,hn⟩:=h;have hread:Reads enc W 26 (.agg cs) d p:=λW' sp _ _=>⟨n,hdry _ _ _ _ _ _ _ _ _ _ _ hn⟩
 obtain⟨xs,m,rfl,_,hl,hx,hf⟩:=DataW.trod_struct ht hn;have h0:=hf 0 _ rfl;rw[hC]at hl;obtain⟨cl⟩:=cs;simp only[Value.cells]at hl h0
 match cl,hl with
 | [v0,v1,v2,v3,v4,v5,v6,v7,v8],_=>
  have h0:DataW.trod enc prog W 0 (λ_=>true) true m 22 (([v0,v1,v2,v3,v4,v5,v6,v7,v8].drop 0).take (prog.cellsOf 22))=xs[0]? :=h0;rw[hE]at h0;simp only[List.drop_zero,List.take_succ_cons,List.take_zero]at h0
  match xs,hx with
  | y0 ::_,_=>
   simp only[List.getElem?_cons_zero]at h0;obtain⟨z,hz,_,hw⟩:=DataW.trod_int (k:=.u16) za h0;simp only[List.cons.injEq,and_true]at hz;subst hz;obtain⟨hz0,hz1⟩:=wf_u16 _ hw;obtain⟨k,rfl⟩:=Int.eq_ofNat_of_zero_le hz0;exact⟨k,v1,v2,v3,v4,v5,v6,v7,v8,rfl,by omega,hread⟩
end
def laid4:List (String×DataW Unit):= [("math/bits.deBruijn32tab",Rows.laid_math_bits_deBruijn32tab),("math/bits.deBruijn64tab",Rows.laid_math_bits_deBruijn64tab),("internal/strconv.uint64pow10",Rows.laid_internal_strconv_uint64pow10),("algorist/modular.signs",Rows.laid_algorist_modular_signs)]
theorem door_met4(os:Os)(args:Array Value):laidMetH prog laid4 ((World.doorLaid prog 2000 os).forCall (λ_ _=>0) ⟨#[],args, []⟩).memory:=
 laidMetH_of_parts3 (fuel:=8) (laidMet_of_run' 8 za za) za za
theorem tabs_of_laid{W:World}(h:laidMetH prog laid4 W):Tab W/\Sg W:=by
 rw[MakeChecks.laidMetH_plain _ _ _ (by kernel_rfl)]at h;obtain⟨ps,⟨g0,t0,cs0,f0,p0,q0,hg0,ht0,hv0,hd0,⟨g1,t1,cs1,f1,p1,q1,hg1,ht1,hv1,hd1,⟨g2,t2,cs2,f2,p2,q2,hg2,ht2,hv2,hd2,⟨g3,t3,cs3,f3,p3,q3,hg3,ht3,hv3,hd3,_,_⟩,_⟩,_⟩,_⟩,_,_⟩:=h;constructor
 ·have hty:(prog.globals[g2]?).map (·.type)=some t2:=ht2
  have hg:prog.globalNamed "internal/strconv.uint64pow10" =some 4:=za
  obtain rfl:=Option.some.inj (hg.symm.trans hg2);have ht:(prog.globals[4]?).map (·.type)=some 242:=za
  obtain rfl:=Option.some.inj (ht.symm.trans ht2);unfold Tab Lib.TabIs;rw[hv2,<-Lib.cells_of_tab (n:=20) (k:=.u64) (e:=99) (zs:=Lib.pow10Tab) (by kernel_rfl) (by kernel_rfl) (by kernel_rfl) (by kernel_rfl) hd2]
 ·have hty:(prog.globals[g3]?).map (·.type)=some t3:=ht3
  have hg:prog.globalNamed "algorist/modular.signs" =some 0:=za
  obtain rfl:=Option.some.inj (hg.symm.trans hg3);have ht:(prog.globals[0]?).map (·.type)=some 151:=za
  obtain rfl:=Option.some.inj (ht.symm.trans ht3)
  have hT:Lib.TabIs prog W "algorist/modular.signs" .i64 [0,1,0,-1,0,-1,0,1]:=by
   unfold Lib.TabIs;rw[hv3,<-Lib.cells_of_tab (n:=8) (k:=.i64) (e:=3) (zs:= [0,1,0,-1,0,-1,0,1]) (by kernel_rfl) (by kernel_rfl) (by kernel_rfl) (by kernel_rfl) hd3]
  intro r hr;rw[hT.cell hg r hr];exact congrArg (λz=>some (Value.int .i64 z)) ((show ∀r,r<8->([0,1,0,-1,0,-1,0,1]:List Int).getD r 0=sg8 r by decide) r hr)
open Go Go.RowKit Go.Shelf
attribute [local go_sem] Oper.semAt_some
def upto{α:Type}(f:Nat->α)(k:Nat):List α:=(List.range k).map f
theorem upto_succ{α:Type}(f:Nat->α)(k:Nat):upto f (k+1)=upto f k++ [f k]:=by simp[upto,List.range_succ]
theorem upto_length{α:Type}(f:Nat->α)(k:Nat):(upto f k).length=k:=by simp[upto]
def Kpb(n₀ Bs:Nat)(W W':World):Prop:=Below n₀ W W'/\∀v,W.cell? ⟨Bs,0,none⟩=some v->W'.cell? ⟨Bs,0,none⟩=some v
theorem Kpb.refl(n₀ Bs:Nat)(W:World):Kpb n₀ Bs W W:=⟨Below.refl _ _,λ_ h=>h⟩
theorem Kpb.trans{n₀ Bs:Nat}{A B C:World}(h:Kpb n₀ Bs A B)(k:Kpb n₀ Bs B C):Kpb n₀ Bs A C:=⟨h.1.trans k.1,λv e=>k.2 v (h.2 v e)⟩
theorem Kpb.put{n₀ Bs:Nat}{w:World}(hn:n₀<=w.heap.size)(W:World)(l:Nat)(o o':Obj)(hl:w.heap.size<=l)(h:W.heap[l]? =some o)(hc:o.isCells=false)(hw:o.isWalk=false):Kpb n₀ Bs W (W.putObj l o'):=
 ⟨belowK_b hn W l o o' hl h hc hw,λ_ e=>cell_kept e (grownBy_putObj' W l o') (λ_ e=>by cases e;exact⟨o,h,hc⟩)⟩
def bwd(ys:Nat->Nat)(len:Nat):Nat->Nat×Nat:=λk=>(len-1-k,ys (len-1-k))
theorem back1_in(F:Fence)(n:Nat)(h7:F.fn 136)(hro:F.round=none)(hn:1<=n)(l Bs n₀ b off len cap:Nat)(ys:Nat->Nat)(hreach:len*8<=140737488351232)(hb:b<n₀)(J Jx:List (Nat×Nat)->World->Prop)
  (hY:∀pre x W,J pre W->pre.length<len->YieldAt F (n-1) prog l #[.int .i64 (x.1:Int),.int .u32 ((x.2%4294967296:Nat):Int)] W λe W'=>
   (e=.returned (.bool true)/\J (pre++ [x]) W'/\Kpb n₀ Bs W W')\/(e=.returned (.bool false)/\Jx (pre++ [x]) W'))
  (W:World) (hBs:W.cell? ⟨Bs,0,none⟩=some (.slice (some ⟨b,off,none⟩) len cap)) (hc:∀j,j<len->W.cell? ⟨b,off+j,none⟩=some (.int .u32 ((ys j%4294967296:Nat):Int))) (h0:J [] W):
  CallsIn F n prog 136 #[.func (.yield l) #[] #[],.pointer (some ⟨Bs,0,none⟩)] W λe W'=>(∃v,e=.returned v)/\
   ((∃xs,xs=upto (bwd ys len) len/\J xs W')\/(∃pre,(∃k,k<=len/\pre=upto (bwd ys len) k)/\Jx pre W')):=by
 refine callsIn_of_wp func136 rfl h7 ?_ hro;simp only[ntmps136,List.size_toArray,List.length_cons,List.length_nil,Nat.reduceAdd,Nat.reduceSub,Array.replicate_succ,Array.replicate_zero,List.push_toArray,List.append_toArray,List.nil_append,List.cons_append]
 gi_wp2
 gi_loopw [3] (λi wr=>∃j:Nat,j<=len/\i=.int .i64 ((j:Int)-1)/\J (upto (bwd ys len) (len-j)) wr/\Kpb n₀ Bs W wr)
  (λi _=>(intOf i+1).toNat)
 case atStart=>exact⟨len,zL _,rfl,by rw[Nat.sub_self];exact h0,Kpb.refl _ _ _⟩
 case round=>
  obtain⟨j,hj,rfl,hJs,hnx⟩:=hrel;rcases j with _|j
  ·rw[show((0:Nat):Int)-1= -1 from rfl]
   gi_wp2
   go_end0
   exact⟨⟨_,rfl⟩,.inl ⟨_,rfl,hJs⟩⟩
  ·rw[show((j+1:Nat):Int)-1=(j:Int)by omega];have hcx:wr.cell? ⟨b,off+j,none⟩=some (.int .u32 ((ys j%4294967296:Nat):Int)):=(hnx.1.cell (p:=⟨b,off+j,none⟩) hb).trans (hc j zb);have hBx:wr.cell? ⟨Bs,0,none⟩=some (.slice (some ⟨b,off,none⟩) len cap):=hnx.2 _ hBs
   have hf:bwd ys len (len-(j+1))=(j,ys j):=by
    unfold bwd;rw[show len-1-(len-(j+1))=j by omega]
   have hk:len-j=len-(j+1)+1:=zb
   obtain⟨fn,tmps,assign,body,hy,hR⟩:=hY _ (j,ys j) wr hJs (by rw[upto_length];omega);simp only[zM,Int.cast_ofNat_Int]at hy;have hjl:j<len:=zb
   gi_wp2
   refine hR.mono ?_;rintro e W0 (⟨rfl,hJ3,hk3⟩| ⟨rfl,hJx3⟩)
   ·gi_wp2
    go_roundw
    case rel=>exact⟨j,by omega,by simp,by rw[hk,upto_succ,hf];exact hJ3,hnx.trans hk3⟩
    case measure=>simp[intOf]
   ·gi_wp2
    refine zD (results_none rfl _ _ _) rfl ?_;exact⟨⟨_,rfl⟩,.inr ⟨_,⟨len-(j+1)+1,by omega,by rw[upto_succ,hf]⟩,hJx3⟩⟩
theorem back1_nil_in(F:Fence)(n:Nat)(h7:F.fn 136)(hro:F.round=none)(l Bs cap:Nat)(ao:Option Addr)(J:List (Nat×Nat)->World->Prop)(W:World)(hBs:W.cell? ⟨Bs,0,none⟩=some (.slice ao 0 cap))(h0:J [] W):
  CallsIn F n prog 136 #[.func (.yield l) #[] #[],.pointer (some ⟨Bs,0,none⟩)] W λe W'=>(∃v,e=.returned v)/\J [] W':=by
 refine callsIn_of_wp func136 rfl h7 ?_ hro;simp only[ntmps136,List.size_toArray,List.length_cons,List.length_nil,Nat.reduceAdd,Nat.reduceSub,Array.replicate_succ,Array.replicate_zero,List.push_toArray,List.append_toArray,List.nil_append,List.cons_append]
 gi_wp2
 gi_loopw [3] (λi wr=>i=.int .i64 (-1)/\J [] wr) (λ_ _=>0)
 case atStart=>exact⟨rfl,h0⟩
 case round=>
  obtain⟨rfl,hJs⟩:=hrel
  gi_wp2
  go_end0
  exact⟨⟨_,rfl⟩,hJs⟩
theorem back_in(F:Fence)(n:Nat)(h5:F.fn 88)(hro:F.round=none)(a:Option Addr)(len cap:Nat)(w:World):
  CallsIn F n prog 88 #[.slice a len cap] w λe w'=>e=.returned (.func (.func 136) #[] #[.pointer (some ⟨w.heap.size,0,none⟩)])/\w'=w.alloc (.cells #[.slice a len cap] 27):=by
 refine callsIn_of_wp func88 rfl h5 ?_ hro;simp only[ntmps88,List.size_toArray,List.length_cons,List.length_nil,Nat.reduceAdd,Nat.reduceSub,Array.replicate_succ,Array.replicate_zero,List.push_toArray,List.append_toArray,List.nil_append,List.cons_append]
 gi_wp2
 go_ret
 exact⟨rfl,rfl⟩
def Wbel(n₀:Nat)(W:World)(a:Option Addr)(len:Nat)(ys:Nat->Nat):Prop:=
 len=0\/∃b off,a=some ⟨b,off,none⟩/\b<n₀/\∀j,j<len->W.cell? ⟨b,off+j,none⟩=some (.int .u32 ((ys j%4294967296:Nat):Int))
theorem Wbel.below{n₀:Nat}{A B:World}(h:Below n₀ A B){a:Option Addr}{len:Nat}{ys:Nat->Nat}:Wbel n₀ A a len ys->Wbel n₀ B a len ys
 | .inl e=> .inl e
 | .inr ⟨b,off,e,hb,hc⟩=> .inr ⟨b,off,e,hb,λj hj=>(h.cell (p:=⟨b,off+j,none⟩) hb).trans (hc j hj)⟩
theorem Wd.wbel{w:World}{a:Option Addr}{n c:Nat}{xs:List Nat}(h:Wd w a n c xs):Wbel w.heap.size w a n (λj=>xs.getD j 0):=by
 rcases h.at_ with h1| ⟨b,off,h1,h2,h3⟩
 ·exact .inl h1
 ·exact .inr ⟨b,off,h1,h2,λj hj=>by rw[h3 j hj,Nat.mod_eq_of_lt (h.lt j)]⟩
theorem back_stops(F:Fence)(n:Nat)(h7:F.fn 136)(hro:F.round=none)(hn:1<=n)(Bs n₀:Nat)(a:Option Addr)(len cap:Nat)(ys:Nat->Nat)(hreach:len*8<=140737488351232)(w:World)(hBs:Bs<w.heap.size)(hn₀:n₀<=w.heap.size)
  (hc:w.cell? ⟨Bs,0,none⟩=some (.slice a len cap)) (hI:Wbel n₀ w a len ys):
  SeqStopsK F n prog 136 #[.pointer (some ⟨Bs,0,none⟩)] (λx:Nat×Nat=> #[Value.int .i64 (x.1:Int),Value.int .u32 ((x.2%4294967296:Nat):Int)]) (Kpb n₀ Bs) (λxs=>xs=upto (bwd ys len) len)
   (λpre=>∃k,k<=len/\pre=upto (bwd ys len) k) len w:=λl J Jx W hW _ _ hY h0=>by
 have hc':=(hW.cell (p:=⟨Bs,0,none⟩) hBs).trans hc;rcases hI.below (hW.mono hn₀)with h| ⟨b,off,rfl,hb,hcs⟩
 ·subst h;exact(back1_nil_in F n h7 hro l Bs cap a J W hc' h0).mono λe W' ⟨he,hj⟩=>⟨he,.inl ⟨_,rfl,hj⟩⟩
 ·exact back1_in F n h7 hro hn l Bs n₀ b off len cap ys hreach hb J Jx hY W hc' hcs h0
def bval(pre:List (Nat×Nat)):Nat:=pre.foldl (λv p=>v*4294967296+p.2%4294967296) 0
theorem bval_snoc(pre:List (Nat×Nat))(x:Nat×Nat):bval (pre++ [x])=bval pre*4294967296+x.2%4294967296:=by simp[bval]
theorem bval_lt(pre:List (Nat×Nat)):bval pre<4294967296^pre.length:=by
 have key:∀(l:List (Nat×Nat)) (a b:Nat),a<4294967296^b->l.foldl (λv p=>v*4294967296+p.2%4294967296) a<4294967296^(b+l.length):=by
  intro l
  induction l with
  |nil=>intro a b h;simpa using h
  | cons x l ih=>
   intro a b h;rw[List.foldl_cons,List.length_cons,show b+(l.length+1)=(b+1)+l.length by omega];refine ih _ _ ?_;have h2:x.2%4294967296<4294967296:=zR _ dcx;rw[Nat.pow_succ];have:a+1<=4294967296^b:=h;have:=Nat.mul_le_mul_right 4294967296 this;omega
 have:=key pre 0 0 dcx
 simpa [bval]using this
theorem low_bits(v x:Nat)(hv:v<4294967296)(hx:x<4294967296):bits .or .u64 ((v:Int)*4294967296) (x:Int)=((v*4294967296+x:Nat):Int):=by
 have:=u64_or_nat (v*4294967296) x zb zb;rw[nat_join 32 _ _ (by omega) (by omega)]at this
 simpa using this
theorem Low_in(F:Fence)(m:Nat)(hf1:F.fn 42)(hf2:F.fn 88)(hf3:F.fn 136)(hro:F.round=none)(hm:3<=m)
  (w:World) (s:Bool) (a:Option Addr) (n c:Nat) (xs:List Nat) (h:Wd w a n c xs) (hn:n<=2) (t u:Int) (q1 q2:Bool)
  (HT:Hid (IntKind.i64.wrap ((bval (upto (bwd (λj=>xs.getD j 0) n) n):Nat):Int)=t)) (HU:Hid ((if s then IntKind.i64.wrap (-t)else t)=u)) (H1:Hid ((u !=0)=q1)) (H2:Hid (decide (u<0)=q2)):
  CallsIn F m prog 42 #[.agg #[.bool s,.slice a n c]] w λe W'=>e=.returned (if q1&&(s !=q2)then .tuple #[.int .i64 0,.bool false]else .tuple #[.int .i64 u,.bool true])/\Below w.heap.size w W':=by
 have h1:1<=m:=zb
 have hI:=h.wbel;have hn2:decide ((2:Int)<(n:Int))=false:=jl
 have hcb:n<=c/\c<=9223372036854775807:=⟨h.capo,h.big⟩;clear h;refine callsIn_of_wp_marks func42 rfl hf1 ?_ hro;simp only[ntmps42,List.size_toArray,List.length_cons,List.length_nil,Nat.reduceAdd,Nat.reduceSub,Array.replicate_succ,Array.replicate_zero,List.push_toArray,List.append_toArray,List.nil_append,List.cons_append]
 gi_wp2_with (gi_at_call 88;refine(back_in F (m-1) hf2 hro _ _ _ _).mono ?_;rintro e w' ⟨rfl,rfl⟩)
 have bV:=Boxed.new (w.alloc (.cells #[.bool s,.slice a n c] 33)) 99 (.int .u64 0);have bN:=Boxed.new ((w.alloc (.cells #[.bool s,.slice a n c] 33)).alloc (.cells #[.int .u64 0] 99)) 27 (.slice a n c);rw[World.size_alloc]at bV;rw[World.size_alloc,World.size_alloc]at bN;have cS:(((w.alloc (.cells #[.bool s,.slice a n c] 33)).alloc (.cells #[.int .u64 0] 99)).alloc (.cells #[.slice a n c] 27)).cell? ⟨w.heap.size,0,none⟩=some (.bool s):=(((Ext.refl _).alloc _).alloc _).cell (a:=w.alloc (.cells #[.bool s,.slice a n c] 33)) (by show World.cell? _ _=_;unfold World.cell?;dsimp only;rw[zS];rfl);have hB0:Below w.heap.size w (((w.alloc (.cells #[.bool s,.slice a n c] 33)).alloc (.cells #[.int .u64 0] 99)).alloc (.cells #[.slice a n c] 27)):=(((Below.refl _ w).alloc (zL _) _).alloc zh _).alloc jl _;have hsz:w.heap.size<=(((w.alloc (.cells #[.bool s,.slice a n c] 33)).alloc (.cells #[.int .u64 0] 99)).alloc (.cells #[.slice a n c] 27)).heap.size:=hB0.size
 refine wpIn_rangeFunc_ownG hro h1 (gf:=136) (lb:= #[.pointer (some ⟨w.heap.size+1+1,0,none⟩)]) rfl hf3 (enters_of func136 za rfl)
  (back_stops F (m-1) hf3 hro zb (w.heap.size+1+1) w.heap.size a n c (λj=>xs.getD j 0) zb _ zh jl bN.cell (hI.below hB0)) (λh k=>h.trans k) (Kpb.put hsz) (Below.refl _ _) (λ_=>rfl)
  (λpre W=>(W.cell? ⟨w.heap.size+1,0,none⟩=some (.int .u64 (bval pre:Nat))/\W.frozen? ⟨w.heap.size+1,0,none⟩=false/\W.cell? ⟨w.heap.size,0,none⟩=some (.bool s))/\Below w.heap.size w W)
  (λ_ _ _=>False)
  (OwnFrom.and (Own.from (λs A B row hs hg hr=>⟨cell_kept hs.1 hg hr,(frozen_kept hs.1 hg hr).trans hs.2.1,cell_kept hs.2.2 hg hr⟩) _) (ownFrom_below (zL _) jl))
  (λ_ _ _ _ _ hs _ _=>hs)
  ⟨⟨(bV.alloc _).cell,(bV.alloc _).frozen,cS⟩,hB0⟩
  (λx=>{tmps:= #[.agg #[.bool s,.slice a n c],.pointer (some ⟨w.heap.size,0,none⟩),.int .i64 0,.bool false,.pointer (some ⟨w.heap.size+1,0,none⟩),undef,.int .u32 ((x.2%4294967296:Nat):Int),undef,.pointer (some ⟨w.heap.size,1,none⟩),.slice a n c,.int .i64 n,.bool false,.pointer (some ⟨w.heap.size,1,none⟩),.slice a n c,.func (.func 136) #[] #[.pointer (some ⟨w.heap.size+1+1,0,none⟩)],.int .i64 (x.1:Int),.int .u32 ((x.2%4294967296:Nat):Int),undef,undef,undef,undef,undef,undef,undef,undef,undef,undef,undef,undef,undef,undef,undef,undef,undef,undef,undef,undef,undef],defers:= []}) ?assign ?body ?done ?stop
 case assign=>
  intro l x W K hK
  gi_wp2
  exact hK
 case body=>
  rintro l pre x W ⟨⟨hc,hf,hs⟩,hB⟩ hlen;have hbv:=bval_lt pre;have hb1:bval pre<4294967296:=Nat.lt_of_lt_of_le hbv (zN (Nat.pow_le_pow_right dcx (show pre.length<=1 by omega)) dcx);have hx:x.2%4294967296<4294967296:=zR _ dcx;have hbs:=bval_snoc pre x;have hbits:=low_bits _ _ hb1 hx;rw[<-hbs]at hbits;clear hbs hbv;obtain⟨nx,hnx⟩:∃nx,bval (pre++ [x])=nx:=⟨_,rfl⟩;rw[hnx]at hbits;have Hnx:=hid hnx;clear hnx;generalize bval pre=v at*;generalize x.2%4294967296=y at*
  gi_wp2
  have hne:(⟨w.heap.size+1,0,none⟩:Addr)≠⟨w.heap.size,0,none⟩:=zh
  have hne2:(⟨w.heap.size+1,0,none⟩:Addr)≠⟨w.heap.size+1+1,0,none⟩:=zh
  exact⟨(KeepsOthers.setCell _ _ _).from _,⟨(Below.refl w.heap.size W).setCell (p:=⟨w.heap.size+1,0,none⟩) zh _,λu hu=>(World.cell?_setCell_other (w:=W) _ _ _ hne2).trans hu⟩,
   ⟨by rw[Hnx.out];exact World.cell?_setCell_same' _ _ _ (by rw[hc];rfl),by rw[World.frozen?_setCell];exact hf,(World.cell?_setCell_other (w:=W) _ _ _ hne).trans hs⟩,hB.setCell (p:=⟨w.heap.size+1,0,none⟩) zh _⟩
 case done=>
  rintro D ys W hD rfl ⟨⟨hc,_,hs⟩,hB⟩ hK;have HT:=HT.out;have HU:=HU.out;have H1:=H1.out;have H2:=H2.out;generalize bval (upto (bwd (λj=>xs.getD j 0) n) n)=v at*;have hfin:Below w.heap.size w (W.putObj D (.deferred none)):=hB.trans (belowK_b (w:=w) (zL _) W D _ _ (by simp at hD;omega) hK rfl rfl);cases s
  all_goals
   cases q1
   all_goals
    cases q2
    all_goals
     simp only[if_true,if_false,Bool.false_eq_true]at HU
     gi_wp2
     refine⟨by simp,.inl ⟨_,_,rfl,run_takeDeferred hK,?_⟩⟩
     first
      |exact⟨.tuple #[.int .i64 u,.bool true],by simp[results,results42,go_sem],rfl,hfin⟩
      |exact⟨.tuple #[.int .i64 0,.bool false],by simp[results,results42,go_sem],rfl,hfin⟩
 case stop=>
  rintro D c pre W _ _ h _;exact h.elim
theorem Low_big(w:World)(s:Bool)(a:Option Addr)(n c:Nat)(hn:2<n):Calls prog 42 #[.agg #[.bool s,.slice a n c]] w (Ret w (IsT2 (iV 0) (IsV (.bool false)))):=by
 have hn2:decide ((2:Int)<(n:Int))=true:=jl
 go_enter func42,ntmps42;go_wp2_with fail;exact zD (v:=.tuple #[.int .i64 0,.bool false]) (by simp[results,results42,go_sem]) rfl ⟨_,rfl,(Ext.refl _).alloc _,_,_,rfl,rfl,rfl⟩
theorem low_natVal_two(xs:List Nat)(h:xs.length<=2):qF xs=xs.getD 0 0+4294967296*xs.getD 1 0:=by
 match xs,h with
 | [],_=>rfl
 | [x],_=>simp[qF]
 | [x,y],_=>simp[qF]
theorem bval_nat(xs:List Nat)(hl:∀i,xs.getD i 0<4294967296)(n:Nat)(hn:xs.length=n)(h2:n<=2):bval (upto (bwd (λj=>xs.getD j 0) n) n)=qF xs:=by
 rw[low_natVal_two xs (by omega)];have h0:=hl 0;have h1:=hl 1;have z0:n<=0->xs.getD 0 0=0:=λh=>by rw[List.getD_eq_getElem?_getD,List.getElem?_eq_none (by omega)];rfl
 have z1:n<=1->xs.getD 1 0=0:=λh=>by rw[List.getD_eq_getElem?_getD,List.getElem?_eq_none (by omega)];rfl
 rcases(by omega:n=0\/n=1\/n=2)with rfl|rfl|rfl
 ·rw[z0 (by omega),z1 (by omega)];rfl
 ·have:bval (upto (bwd (λj=>xs.getD j 0) 1) 1)=0*4294967296+xs.getD 0 0%4294967296:=rfl;rw[this,z1 (by omega),Nat.mod_eq_of_lt h0];omega
 ·have:bval (upto (bwd (λj=>xs.getD j 0) 2) 2)=(0*4294967296+xs.getD 1 0%4294967296)*4294967296+xs.getD 0 0%4294967296:=rfl;rw[this,Nat.mod_eq_of_lt h0,Nat.mod_eq_of_lt h1];omega
theorem Low_f{k:Nat}{z:Int}{x:Value}{w:World}(hx:IsI k z x w):
  Calls prog 42 #[x] w (Ret w (if -9223372036854775808<=z/\z<=9223372036854775807 then IsT2 (iV z) (IsV (.bool true))else IsT2 (iV 0) (IsV (.bool false)))):=by
 obtain⟨s,a,n,c,rfl,m,⟨xs,hw,hk,hz,hv⟩,hs,he⟩:=hx;have hlen:=hw.len;rcases zQ 2 n with h2|h2
 ·rw[if_neg]
  ·exact Low_big w s a n c h2
  ·have h3:=xF xs zb (by rw[hlen];exact hz zb);have h4:(4294967296:Nat)^2<=4294967296^(xs.length-1):=Nat.pow_le_pow_right dcx zb;cases s
   ·simp only[Bool.false_eq_true,if_false]at he;omega
   ·simp only[if_true]at he;omega
 ·have hb:=bval_nat xs hw.lt n hlen h2
  have hlt:m<4294967296^2:=by
   have h3:=xD xs hw.lt;have h4:(4294967296:Nat)^xs.length<=4294967296^2:=Nat.pow_le_pow_right dcx zb;omega
  have h0:m=0->s=false:=λh=>hs (by
   rcases zI n with h1|h1
   ·exact h1
   ·have h3:=xF xs zb (by rw[hlen];exact hz h1);have h4:0<(4294967296:Nat)^(xs.length-1):=Nat.pow_pos dcx
    omega)
  rw[hv]at hb;have key:=Low_in {fn:=λ_=>True} 3 trivial trivial trivial rfl (zL _) w s a n c xs hw h2 _ _ _ _ (hid rfl) (hid rfl) (hid rfl) (hid rfl);rw[hb]at key;refine zC (key.calls λ_ d h=>by cases h) λe W' ⟨he2,hB⟩=>?_
  subst he2;have hwr:IntKind.i64.wrap (m:Int)=if m<9223372036854775808 then(m:Int)else(m:Int)-18446744073709551616:=by simp only[IntKind.wrap_i64];split <;> omega
  cases s
  ·simp only[Bool.false_eq_true,if_false]at he ⊢;subst he;rw[hwr];by_cases hm:m<9223372036854775808
   ·rw[if_pos hm,if_pos (by omega)];refine⟨_,rfl,hB,_,_,?_,rfl,rfl⟩;rw[if_neg];simp <;> omega
   ·rw[if_neg hm,if_neg (by omega)];refine⟨_,rfl,hB,_,_,?_,rfl,rfl⟩;rw[if_pos];simp <;> omega
  ·have h1:0<m:=by
    rcases zI m with h|h
    ·cases h0 h
    ·exact h
   simp only[if_true]at he ⊢;subst he;rw[hwr];by_cases hm:m<9223372036854775808
   ·rw[if_pos hm,show IntKind.i64.wrap (-(m:Int))= -(m:Int)by simp only[IntKind.wrap_i64];omega,if_pos (by omega)];refine⟨_,rfl,hB,_,_,?_,rfl,rfl⟩;rw[if_neg];simp <;> omega
   ·rcases Nat.eq_or_lt_of_le (show 9223372036854775808<=m by omega)with hm2|hm2
    ·subst hm2;rw[if_neg hm,if_pos (by omega)];exact⟨_,rfl,hB,_,_,rfl,rfl,rfl⟩
    ·rw[if_neg hm,show IntKind.i64.wrap (-((m:Int)-18446744073709551616))=18446744073709551616-(m:Int)by simp only[IntKind.wrap_i64];omega,if_neg (by omega)];refine⟨_,rfl,hB,_,_,?_,rfl,rfl⟩;rw[if_pos];simp <;> omega
theorem Low_t{k:Nat}{z:Int}{x:Value}{w:World}(hx:IsI k z x w)(h1: -9223372036854775808<=z)(h2:z<=9223372036854775807):Calls prog 42 #[x] w (Ret w (IsT2 (iV z) (IsV (.bool true)))):=by
 have:=Low_f hx
 rwa [if_pos ⟨h1,h2⟩]at this
open Go Go.RowKit
def Pr(p:Nat):Prop:=2<=p/\∀d,d∣p->d=1\/d=p
def vlF:Nat->Nat->Nat->Nat
 |0,_,_=>0
 |f+1,p,n=>if n%p=0 then vlF f p (n/p)+1 else 0
def vl(p n:Nat):Nat:=vlF n p n
theorem vlF_spec:∀(f p n:Nat),2<=p->0<n->n<=f->p^vlF f p n∣n/\¬p∣n/p^vlF f p n:=by
 intro f
 induction f with
 |zero=>intros;omega
 | succ f ih=>
  intro p n hp hn hf;unfold vlF;by_cases h:n%p=0
  ·rw[if_pos h];have hd:p∣n:=Nat.dvd_of_mod_eq_zero h;obtain⟨m,rfl⟩:=hd;have hm:0<m:=Nat.pos_of_ne_zero λk=>by subst k;simp at hn
   have hlt:m<p*m:=by
    have:=Nat.mul_le_mul_right m hp;omega
   rw[Nat.mul_div_cancel_left m (by omega)];obtain⟨h1,h2⟩:=ih p m hp hm zb;refine⟨?_,?_⟩
   ·rw[Nat.pow_succ,Nat.mul_comm];exact Nat.mul_dvd_mul_left p h1
   ·rw[Nat.pow_succ,Nat.mul_comm (p^_),Nat.mul_div_mul_left _ _ (by omega)];exact h2
  ·rw[if_neg h];refine⟨by simp,?_⟩;rw[Nat.pow_zero,Nat.div_one];exact λk=>h (Nat.mod_eq_zero_of_dvd k)
theorem xS{p n:Nat}(hp:2<=p)(hn:0<n):∃m,n=p^vl p n*m/\¬p∣m/\0<m:=by
 obtain⟨h1,h2⟩:=vlF_spec n p n hp hn (zL n);refine⟨n/p^vl p n,(Nat.mul_div_cancel' h1).symm,h2,?_⟩;exact Nat.div_pos (Nat.le_of_dvd hn h1) (Nat.pow_pos zb)
theorem vl_uniq{p n k m:Nat}(hp:2<=p)(hm:0<m)(e:n=p^k*m)(h:¬p∣m):vl p n=k:=by
 have hn:0<n:=by rw[e];exact Nat.mul_pos (Nat.pow_pos zb) hm
 obtain⟨m',e',h',_⟩:=xS hp hn;generalize vl p n=k' at*;rcases Nat.lt_trichotomy k' k with g|g|g
 ·obtain⟨j,rfl⟩:∃j,k=k'+1+j:=⟨k-k'-1,by omega⟩;rw[e,Nat.pow_add,Nat.pow_succ,Nat.mul_assoc,Nat.mul_assoc]at e';have:=Nat.eq_of_mul_eq_mul_left (Nat.pow_pos zb) e';exact absurd ⟨_,this.symm⟩ h'
 ·exact g
 ·obtain⟨j,rfl⟩:∃j,k'=k+1+j:=⟨k'-k-1,by omega⟩;rw[e,Nat.pow_add,Nat.pow_succ,Nat.mul_assoc,Nat.mul_assoc]at e';have:=Nat.eq_of_mul_eq_mul_left (Nat.pow_pos zb) e';exact absurd ⟨_,this⟩ h
theorem Pr.dvd_mul{p a b:Nat}(hp:Pr p)(h:p∣a*b):p∣a\/p∣b:=by
 rcases hp.2 _ (Nat.gcd_dvd_left p a)with g|g
 ·exact .inr ((Nat.Coprime.dvd_of_dvd_mul_left g) h)
 ·exact .inl (g▸Nat.gcd_dvd_right p a)
theorem vl_mul{p a b:Nat}(hp:Pr p)(ha:0<a)(hb:0<b):vl p (a*b)=vl p a+vl p b:=by
 obtain⟨m,e1,h1,m1⟩:=xS hp.1 ha;obtain⟨n,e2,h2,m2⟩:=xS hp.1 hb;refine vl_uniq (m:=m*n) hp.1 (Nat.mul_pos m1 m2) ?_ (λh=>(hp.dvd_mul h).elim h1 h2)
 conv=>lhs;rw[e1,e2]
 rw[Nat.pow_add,Nat.mul_assoc,Nat.mul_assoc]
 congr 1
 rw[<-Nat.mul_assoc,Nat.mul_comm m,Nat.mul_assoc]
theorem xL{p n:Nat}(hp:2<=p)(hn:0<n)(h:¬p∣n):vl p n=0:=vl_uniq (m:=n) hp hn zh h
theorem vl_pos{p n:Nat}(hp:2<=p)(hn:0<n)(h:p∣n):0<vl p n:=by
 refine Nat.pos_of_ne_zero λk=>?_
 obtain⟨m,e,g,_⟩:=xS hp hn;rw[k,Nat.pow_zero,Nat.one_mul]at e;exact g (e▸h)
theorem vl_self{p:Nat}(hp:2<=p):vl p p=1:=vl_uniq (m:=1) hp dcx zh (λh=>by have:=Nat.le_of_dvd dcx h;omega)
theorem vl_pow{p q:Nat}(hp:Pr p)(hq:0<q):∀k,vl p (q^k)=k*vl p q
 |0=>by rw[Nat.pow_zero,Nat.zero_mul];exact xL hp.1 dcx (λh=>by have:=Nat.le_of_dvd dcx h;have:=hp.1;omega)
 |k+1=>by rw[Nat.pow_succ,vl_mul hp (Nat.pow_pos hq) hq,vl_pow hp hq k,Nat.add_mul,Nat.one_mul]
theorem vl_other{p q:Nat}(hp:Pr p)(hq:Pr q)(h:p≠q):vl p q=0:=
 xL hp.1 (by have:=hq.1;omega) (λk=>(hq.2 p k).elim (λe=>by have:=hp.1;omega) h)
def pw:Nat->Nat->Nat->List (Nat×Nat)
 |0,_,_=> []
 | f+1,p,n=>if n<=1 then []else
  let q:=if n<p*p then n else p
  let k:=vl q n
  (if 0<k then [(q,k)]else [])++pw f (q+1) (n/q^k)
def pwP(g:Nat->Nat->Int)(l:List (Nat×Nat)):Int:=l.foldl (λo x=>o*g x.1 x.2) 1
theorem pwP_mul(g:Nat->Nat->Int):∀(l:List (Nat×Nat)) (o:Int),l.foldl (λo x=>o*g x.1 x.2) o=o*pwP g l
 | [],o=>by simp[pwP]
 | x ::l,o=>by
  unfold pwP;rw[List.foldl_cons,List.foldl_cons,pwP_mul g l,pwP_mul g l,Int.one_mul,Int.mul_assoc]
theorem pwP_cons(g:Nat->Nat->Int)(x:Nat×Nat)(l:List (Nat×Nat)):pwP g (x ::l)=g x.1 x.2*pwP g l:=by
 conv=>lhs;unfold pwP
 rw[List.foldl_cons,Int.one_mul,pwP_mul]
open Classical in
noncomputable def Qp (g:Nat->Nat->Int) (n:Nat):Nat->Int
 |0=>1
 |M+1=>Qp g n M*(if Pr (M+1)then g (M+1) (vl (M+1) n)else 1)
theorem Qp_ext{g:Nat->Nat->Int}{n n':Nat}:∀ {M:Nat},(∀p,Pr p->p<=M->vl p n=vl p n')->Qp g n M=Qp g n' M
 |0,_=>rfl
 | M+1,h=>by
  unfold Qp;rw[Qp_ext (λp hp hM=>h p hp (by omega))]
  split
  ·rename_i hp;rw[h _ hp (zL _)]
  ·rfl
theorem Qp_one{g:Nat->Nat->Int}(g0:∀p,g p 0=1):∀M:Nat,Qp g 1 M=1
 |0=>rfl
 | M+1=>by
  unfold Qp;rw[Qp_one g0 M,Int.one_mul]
  split
  ·rename_i hp;rw[xL hp.1 dcx (λh=>by have:=Nat.le_of_dvd dcx h;have:=hp.1;omega),g0]
  ·rfl
theorem Qp_out{g:Nat->Nat->Int}(g0:∀p,g p 0=1){n m q:Nat}(hq:Pr q)(h0:vl q m=0)(h:∀p,Pr p->p≠q->vl p n=vl p m):∀ {M:Nat},q<=M->Qp g n M=g q (vl q n)*Qp g m M
 |0,hM=>by have:=hq.1;omega
 | M+1,hM=>by
  unfold Qp;by_cases e:M+1=q
  ·rw[e,if_pos hq,if_pos hq,h0,g0,Int.mul_one,Int.mul_comm];rw[Qp_ext (λp hp hpM=>h p hp (by omega))]
  ·rw[Qp_out g0 hq h0 h (by omega:q<=M),Int.mul_assoc]
   congr 2
   split
   ·rename_i hp;rw[h _ hp e]
   ·rfl
theorem Qp_mul{g:Nat->Nat->Int}(g0:∀p,g p 0=1){a b:Nat}(ha:0<a)(hb:0<b)(hc:Nat.gcd a b=1):∀M:Nat,Qp g (a*b) M=Qp g a M*Qp g b M
 |0=>rfl
 | M+1=>by
  unfold Qp;rw[Qp_mul g0 ha hb hc M]
  split
  ·rename_i hp
   have e:g (M+1) (vl (M+1) (a*b))=g (M+1) (vl (M+1) a)*g (M+1) (vl (M+1) b):=by
    rw[vl_mul hp ha hb];by_cases h:(M+1)∣a
    ·have hb0:¬(M+1)∣b:=λk=>by
      have:=Nat.dvd_gcd h k;rw[hc]at this;have:=Nat.le_of_dvd dcx this;have:=hp.1;omega
     rw[xL hp.1 hb hb0,g0,Int.mul_one];rfl
    ·rw[xL hp.1 ha h,g0,Nat.zero_add,Int.one_mul]
   rw[e,Int.mul_assoc,Int.mul_assoc]
   congr 1
   rw[<-Int.mul_assoc,Int.mul_comm (Qp g b M),Int.mul_assoc]
  ·simp
def jP(p n:Nat):Prop:=∀d,2<=d->d<p->¬d∣n
theorem least_prime{p n:Nat}(hp:2<=p)(h:jP p n)(hd:p∣n):Pr p:=by
 refine⟨hp,λd hdp=>?_⟩;by_cases h1:d=1
 ·exact .inl h1
 ·right;have hle:=Nat.le_of_dvd zb hdp;have h0:d≠0:=λk=>by subst k;have:=Nat.eq_zero_of_zero_dvd hdp;omega
  rcases zQ d p with k|k
  ·exact absurd (Nat.dvd_trans hdp hd) (h d zb k)
  ·omega
theorem rest_prime{p n:Nat}(hn:2<=n)(h:jP p n)(hs:n<p*p):Pr n:=by
 refine⟨hn,λd ⟨e,he⟩=>?_⟩;by_cases h1:d=1
 ·exact .inl h1
 ·right;have d0:d≠0:=λk=>by subst k;simp at he;omega
  have e0:e≠0:=λk=>by subst k;simp at he;omega
  rcases zQ d p with k|k
  ·exact absurd ⟨e,he⟩ (h d zb k)
  ·by_cases h2:e=1
   ·rw[he,h2,Nat.mul_one]
   ·rcases zQ e p with k2|k2
    ·exact absurd ⟨d,by rw[he,Nat.mul_comm]⟩ (h e zb k2)
    ·have:=Nat.mul_le_mul k k2;omega
theorem tPw_1{P:Prop}(h:P:=by
  rcases zQ d p with k2|k2
  ·exact h d hd k2 (Nat.dvd_trans k hmd)
  ·obtain rfl:d=p:=by omega
   exact hm k
  ):P:=h
theorem tPw_2{P:Prop}(h:P:=by
  obtain⟨j,hj⟩:∃j,vl p n=j+1:=⟨vl p n-1,by omega⟩;rw[hj,Nat.pow_succ,Nat.mul_comm (p^j),Nat.mul_assoc]at e;exact⟨_,e⟩
  ):P:=h
theorem pw_Q{g:Nat->Nat->Int}(g0:∀p,g p 0=1):∀(f p n M:Nat),2<=p->0<n->n<=M->n<p+f->jP p n->pwP g (pw f p n)=Qp g n M:=by
 intro f
 induction f with
 | zero=>
  intro p n M hp hn hM hf h
  have h1:n=1:=by
   rcases zQ n 2 with k|k
   ·omega
   ·exact absurd (Nat.dvd_refl n) (h n k zb)
  subst h1;rw[Qp_one g0];rfl
 | succ f ih=>
  intro p n M hp hn hM hf h;unfold pw;by_cases h1:n<=1
  ·rw[if_pos h1];obtain rfl:n=1:=by omega
   rw[Qp_one g0];rfl
  ·rw [if_neg h1];dsimp only;by_cases hs:n<p*p
   ·rw[if_pos hs];have hq:=rest_prime zb h hs;have hv:vl n n=1:=vl_self zb;rw[hv,if_pos dcx,Nat.pow_one,Nat.div_self hn];show pwP g ((n,1) ::pw f (n+1) 1)=_;have hz:pw f (n+1) 1= []:=by cases f <;> simp[pw]
    rw[pwP_cons,hz,Qp_out g0 (m:=1) hq (xL hq.1 dcx (λk=>by have:=Nat.le_of_dvd dcx k;omega)) (λr hr hne=>?_) hM,hv,Qp_one g0]
    ·rfl
    ·rw[vl_other hr hq hne,xL hr.1 dcx (λk=>by have:=Nat.le_of_dvd dcx k;have:=hr.1;omega)]
   ·rw [if_neg hs];obtain⟨m,e,hm,m0⟩:=xS hp hn;have hpp:0<p^vl p n:=Nat.pow_pos zb
    have hdiv:n/p^vl p n=m:=by
     conv=>lhs;lhs;rw[e]
     exact Nat.mul_div_cancel_left m hpp
    have hmd:m∣n:=⟨p^vl p n,by rw[Nat.mul_comm];exact e⟩;have hmn:m<=n:=Nat.le_of_dvd hn hmd
    have hnb:jP (p+1) m:=λd hd hlt k=>by
     exact tPw_1
    have hrec:=ih (p+1) m M zb m0 zb zb hnb;rw[hdiv];by_cases hk:0<vl p n
    ·rw[if_pos hk]
     have hpn:p∣n:=by
      exact tPw_2
     have hq:=least_prime hp h hpn;show pwP g ((p,vl p n) ::pw f (p+1) m)=_
     have hoth:∀r,Pr r->r≠p->vl r n=vl r m:=λr hr hne=>by
      conv=>lhs;rw[e]
      rw[vl_mul hr hpp m0,vl_pow hr (by omega),vl_other hr hq hne,Nat.mul_zero,Nat.zero_add]
     rw[pwP_cons,hrec,Qp_out g0 (m:=m) hq (xL hp m0 hm) hoth (zN (Nat.le_of_dvd hn hpn) hM)]
    ·rw[if_neg hk];have h0:vl p n=0:=by omega
     rw[h0,Nat.pow_zero,Nat.one_mul]at e;rw[List.nil_append,hrec,e]
theorem pw_mem:∀(f p n:Nat),2<=p->0<n->jP p n->∀x∈pw f p n,Pr x.1/\x.2=vl x.1 n/\0<x.2/\p<=x.1:=by
 intro f
 induction f with
 |zero=>intro p n _ _ _ x hx;simp[pw]at hx
 | succ f ih=>
  intro p n hp hn h x hx;unfold pw at hx;by_cases h1:n<=1
  ·rw[if_pos h1]at hx;simp at hx
  ·rw [if_neg h1]at hx;dsimp only at hx;by_cases hs:n<p*p
   ·rw[if_pos hs]at hx;have hq:=rest_prime zb h hs;have hv:vl n n=1:=vl_self zb;rw[hv,if_pos dcx,Nat.pow_one,Nat.div_self hn]at hx;have hz:pw f (n+1) 1= []:=by cases f <;> simp[pw]
    rw[hz,List.append_nil,List.mem_singleton]at hx;subst hx;refine⟨hq,hv.symm,Nat.one_pos,?_⟩;exact Nat.not_lt.1 λk=>h n zb k (Nat.dvd_refl n)
   ·rw [if_neg hs]at hx;obtain⟨m,e,hm,m0⟩:=xS hp hn;have hpp:0<p^vl p n:=Nat.pow_pos zb
    have hdiv:n/p^vl p n=m:=by
     conv=>lhs;lhs;rw[e]
     exact Nat.mul_div_cancel_left m hpp
    have hmd:m∣n:=⟨p^vl p n,by rw[Nat.mul_comm];exact e⟩
    have hnb:jP (p+1) m:=λd hd hlt k=>by
     exact tPw_1
    rw[hdiv,List.mem_append]at hx;rcases hx with hx|hx
    ·by_cases hk:0<vl p n
     ·rw[if_pos hk,List.mem_singleton]at hx;subst hx
      have hpn:p∣n:=by
       exact tPw_2
      exact⟨least_prime hp h hpn,rfl,hk,zL p⟩
     ·rw[if_neg hk]at hx;simp at hx
    ·obtain⟨g1,g2,g3,g4⟩:=ih (p+1) m zb m0 hnb x hx;refine⟨g1,?_,g3,by omega⟩;rw[g2]
     conv=>rhs;rw[e]
     have hpr:¬p∣x.1:=λk=>(g1.2 p k).elim zb zb
     rw[vl_mul g1 hpp m0,vl_pow g1 (by omega),xL (n:=p) g1.1 (by omega) (λk=>by have:=Nat.le_of_dvd (by omega) k;omega),Nat.mul_zero,Nat.zero_add]
theorem pw_has:∀(f p n:Nat),2<=p->0<n->n<p+f->jP p n->∀r,Pr r->r∣n->(r,vl r n)∈pw f p n:=by
 intro f
 induction f with
 | zero=>
  intro p n hp hn hf h r hr hd;have:=Nat.le_of_dvd hn hd;exact absurd hd (h r hr.1 zb)
 | succ f ih=>
  intro p n hp hn hf h r hr hd;have hrn:=Nat.le_of_dvd hn hd;have hr2:=hr.1;unfold pw;rw[if_neg (by omega)];dsimp only;by_cases hs:n<p*p
  ·rw[if_pos hs];have hq:=rest_prime zb h hs;have hv:vl n n=1:=vl_self zb;have e:r=n:=(hq.2 r hd).elim (λk=>by omega) id;subst e;rw[hv,if_pos dcx];simp
  ·rw [if_neg hs];obtain⟨m,e,hm,m0⟩:=xS hp hn;have hpp:0<p^vl p n:=Nat.pow_pos zb
   have hdiv:n/p^vl p n=m:=by
    conv=>lhs;lhs;rw[e]
    exact Nat.mul_div_cancel_left m hpp
   have hmd:m∣n:=⟨p^vl p n,by rw[Nat.mul_comm];exact e⟩;have hmn:m<=n:=Nat.le_of_dvd hn hmd
   have hnb:jP (p+1) m:=λd hd hlt k=>by
    exact tPw_1
   rw[hdiv,List.mem_append];by_cases hrp:r=p
   ·subst hrp;left;rw[if_pos (vl_pos hr2 hn hd)];simp
   ·right
    have hnp:¬r∣p:=λk=>by
     have hle:=Nat.le_of_dvd zb k;exact h r hr2 zb hd
    have hv:vl r n=vl r m:=by
     conv=>lhs;rw[e]
     rw[vl_mul hr hpp m0,vl_pow hr (by omega),xL hr2 (by omega) hnp,Nat.mul_zero,Nat.zero_add]
    have hdm:r∣m:=by
     refine Classical.byContradiction λk=>?_
     have h1:=vl_pos hr2 hn hd;rw[hv,xL hr2 m0 k]at h1;omega
    rw[hv];exact ih (p+1) m zb m0 zb hnb r hr hdm
theorem noBelow2(n:Nat):jP 2 n:=λd h1 h2=>by omega
def lkP(g:Nat->Nat->Int)(r:Nat):List (Nat×Nat)->Int
 | []=>1
 |x ::l=>if x.1=r then g r x.2 else lkP g r l
theorem lkP_all{g:Nat->Nat->Int}{r v:Nat}(hv:g r v=1\/True):∀(l:List (Nat×Nat)),(∀x∈l,x.1=r->x.2=v)->lkP g r l=if (∃x∈l,x.1=r)then g r v else 1
 | [],_=>by simp[lkP]
 | x ::l,h=>by
  unfold lkP;by_cases e:x.1=r
  ·rw[if_pos e,if_pos ⟨x,by simp,e⟩,h x (by simp) e]
  ·rw[if_neg e,lkP_all hv l (λy hy=>h y (by simp[hy]))]
   congr 1
   simp[e]
theorem lkP_pw{g:Nat->Nat->Int}(g0:∀p,g p 0=1){r n:Nat}(hr:Pr r)(hn:0<n):lkP g r (pw n 2 n)=g r (vl r n):=by
 have hm:=pw_mem n 2 n dcx hn (noBelow2 n);rw[lkP_all (v:=vl r n) (.inr trivial) _ (λx hx e=>by have:=(hm x hx).2.1;rw[e]at this;exact this)];by_cases hd:r∣n
 ·rw[if_pos ⟨_,pw_has n 2 n dcx hn (by omega) (noBelow2 n) r hr hd,rfl⟩]
 ·have h0:vl r n=0:=xL hr.1 hn hd;rw[h0,g0]
  split <;> rfl
def totP(g:Nat->Nat->Int)(n:Nat):Int:=pwP g (pw n 2 n)
theorem totP_Q{g:Nat->Nat->Int}(g0:∀p,g p 0=1){n M:Nat}(hn:0<n)(hM:n<=M):totP g n=Qp g n M:=pw_Q g0 n 2 n M dcx hn hM zb (noBelow2 n)
theorem totP_mul{g:Nat->Nat->Int}(g0:∀p,g p 0=1){a b:Nat}(ha:0<a)(hb:0<b)(hc:Nat.gcd a b=1):totP g (a*b)=totP g a*totP g b:=by
 have h1:a<=a*b:=Nat.le_mul_of_pos_right a hb;have h2:b<=a*b:=Nat.le_mul_of_pos_left b ha;rw[totP_Q g0 (Nat.mul_pos ha hb) (zL _),totP_Q g0 ha h1,totP_Q g0 hb h2];exact Qp_mul g0 ha hb hc _
def qV(ch:Nat->Int)(p k:Nat):Int:=if ch p=0 then 1 else if ch p=1 then(k:Int)+1 else 1-(k:Int)%2
theorem locg_0(ch:Nat->Int)(p:Nat):qV ch p 0=1:=by unfold qV;by_cases h:ch p=0 <;> by_cases h1:ch p=1 <;> simp[h,h1]
theorem locg_nonneg(ch:Nat->Int)(p k:Nat):0<=qV ch p k:=by
 unfold qV
 split
 ·decide
 ·split <;> omega
theorem locg_le(ch:Nat->Int)(p k:Nat):qV ch p k<=(k:Int)+1:=by
 unfold qV
 split
 ·omega
 ·split <;> omega
theorem Qp_le(ch:Nat->Int){n:Nat}(hn:0<n):totP (qV ch) n<=n:=by
 suffices h:∀(f p n:Nat),2<=p->0<n->jP p n->pwP (qV ch) (pw f p n)<=n/\0<=pwP (qV ch) (pw f p n)from(h n 2 n dcx hn (noBelow2 n)).1
 have hk:∀p k:Nat,2<=p->qV ch p k<=((p^k:Nat):Int):=λp k hp=>by
  have h1:=locg_le ch p k;have h2:k<2^k:=Nat.lt_two_pow_self;have h3:2^k<=p^k:=Nat.pow_le_pow_left hp k;omega
 intro f
 induction f with
 |zero=>intro p n _ hn _;simp only[pw,pwP,List.foldl_nil];omega
 | succ f ih=>
  intro p n hp hn h;unfold pw;by_cases h1:n<=1
  ·rw[if_pos h1];simp only[pwP,List.foldl_nil];omega
  ·rw [if_neg h1];dsimp only;by_cases hs:n<p*p
   ·rw[if_pos hs];have hv:vl n n=1:=vl_self zb;have hz:pw f (n+1) 1= []:=by cases f <;> simp[pw]
    rw[hv,if_pos dcx,Nat.pow_one,Nat.div_self hn,hz,List.append_nil,pwP_cons];have h2:=hk n 1 zb;have h3:=locg_nonneg ch n 1;simp only[pwP,List.foldl_nil,Int.mul_one];rw[Nat.pow_one]at h2;exact⟨h2,h3⟩
   ·rw[if_neg hs];obtain⟨m,e,hm,m0⟩:=xS hp hn;have hpp:0<p^vl p n:=Nat.pow_pos zb
    have hdiv:n/p^vl p n=m:=by
     conv=>lhs;lhs;rw[e]
     exact Nat.mul_div_cancel_left m hpp
    have hmd:m∣n:=⟨p^vl p n,by rw[Nat.mul_comm];exact e⟩
    have hnb:jP (p+1) m:=λd hd hlt k=>by
     exact tPw_1
    rw[hdiv];obtain⟨i1,i2⟩:=ih (p+1) m zb m0 hnb;by_cases hk0:0<vl p n
    ·rw[if_pos hk0];show pwP _ ((p,vl p n) ::pw f (p+1) m)<=_/\0<=pwP _ ((p,vl p n) ::pw f (p+1) m);rw[pwP_cons];have h2:=hk p (vl p n) hp;have h3:=locg_nonneg ch p (vl p n);refine⟨?_,Int.mul_nonneg h3 i2⟩;refine Int.le_trans (Int.mul_le_mul h2 i1 i2 zb) ?_;rw[<-Int.natCast_mul,<-e];exact Int.le_refl _
    ·rw[if_neg hk0,List.nil_append];have:=Nat.le_of_dvd hn hmd;omega
end Go.Proofs.YtknffgdbdadpcaaGreatDoor
