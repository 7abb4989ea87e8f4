/-
 Package count: the greatest common divisor of two words, by Euclid's loop. (Printed by wip/gen/cnt.py.)
 A range over an iterator with a box, where the round's variable is a box of its own: the law of the statement. (As in Rfb.)
 Package count: the iterator over the reduced forms.
-/
import Derived.Test.YtknffgdbdadpcaaGreatDoorRfb
import Derived.Test.YtknffgdbdadpcaaGreatDoorRfr
namespace Go.Proofs.YtknffgdbdadpcaaGreatDoor
open Go Go.RowKit
theorem wrapC_small {z:Int} (h: -9223372036854775808≤z) (h':z≤9223372036854775807):IntKind.i64.wrap z=z:=by simp only [IntKind.wrap_i64];omega
theorem cgcd_step (a b:Int):Int.gcd b (a.tmod b)=Int.gcd a b:=by
 rw [Int.gcd_comm a b];have h1:a.tmod b=a+b*(-(a.tdiv b)):=by have:=Int.tmod_add_mul_tdiv a b;rw [Int.mul_neg];omega
 rw [h1];rw [Int.mul_comm];exact Int.gcd_add_mul_right_right ..
set_option maxRecDepth 100000 in
set_option maxHeartbeats 4000000 in
theorem cgcd_f (w:World) (a b:Int) (ha: -1000000≤a∧a≤1000000) (hb: -1000000≤b∧b≤1000000):Calls Tryz.prog 125 #[.int .i64 a,.int .i64 b] w (Ret w (IsV (.int .i64 ((Int.gcd a b:Nat):Int)))):=by
 obtain ⟨g,hg⟩:∃ g,Int.gcd a b=g:=⟨_,rfl⟩;rw [hg];obtain ⟨W,hW,S⟩:∃ W,W=w∧Sto w W []:=⟨_,rfl,(Sto.start w)⟩;go_enter Tryz.func125,Tryz.ntmps125;go_wp2_with fail;rw [hW] at S;clear hW;have S0:=hid S;clear S
 go_loopg [0,1] b.natAbs (fun gk v0 v1 wr=> ∃ x y:Int,v0= .int .i64 x∧v1= .int .i64 y∧Int.gcd x y=g∧(-1000000≤x∧x≤1000000)∧y.natAbs=gk∧gk≤1000000∧Hid (Sto w wr []))
 case atStart=>exact ⟨a,b,rfl,rfl,hg,ha,rfl,by omega,S0⟩
 case round=>
  clear S0;obtain ⟨x,y,rfl,rfl,hgg,hx,hy,hk,S⟩:=hrel;have S:=S.out;by_cases h0:y=0
  ·subst h0;have hgx:(g:Int)=max x (-x):=by rw [← hgg,Int.gcd_zero_right];omega
   have hwx:=wrapC_small (z:= -x) (by omega) (by omega);clear hgg hx hy hk ha hb hg;go_wp2_with fail;exact bodyPost_ret (v:= .int .i64 (max x (-x))) (by simp [results,Tryz.results125,go_sem]) rfl ⟨_,rfl,S.ext,by rw [hgx];rfl⟩
  ·obtain ⟨z,hz⟩:∃ z,x.tmod y=z:=⟨_,rfl⟩;have hz1:z.natAbs<y.natAbs:=by rw [← hz,Int.natAbs_tmod];exact Nat.mod_lt _ (by omega)
   have HZ:=hid (show x.tmod y=z∧IntKind.i64.wrap z=z from ⟨hz,wrapC_small (by omega) (by omega)⟩);have HY:=hid h0;have HG:=hid (show Int.gcd y z=g by rw [← hz,cgcd_step];exact hgg);have HB:=hid (show (-1000000≤y∧y≤1000000)∧z.natAbs<gk∧gk≤1000000 by omega);clear hgg hx hy hk hz hz1 h0 ha hb hg;go_upto_region 1 with (fail);refine rgs 2 [some 5,some 6] [IsV (.int .i64 y),IsV (.bool true)] [] ?_ ?_
   ·refine Rc (mv (Od.lit 1)) ?_;refine Rc (bn (r:= .bool true) (Od.loc 0 5) Od.con (hr:=fun w=>by have hx9:=HY.out;go_simp)) ?_;exact RgAll.nil
   intro v W1 e1 hΦ _;replace S:=S.mono e1;have v1:v 1= .bool true:=hΦ 1 (by decide);simp only [layL,Act.put,uAx,u0x,u1x,Nat.reduceAdd];rw [v1];clear v1 hΦ e1;refine wpList_nil ?_;go_upto_region 2 with (fail);have hx9:=HZ.out.1;have hx8:=HZ.out.2;have hx7:=HY.out;have S':=hid S;clear S
   go_region
   have S':=hid (S'.out.mono (Ext.refl _).drew);go_wp2_with fail
   go_roundg z.natAbs
   case measure=>have:=HB.out;omega
   case rel=>exact ⟨y,z,rfl,rfl,HG.out,HB.out.1,rfl,by have:=HB.out;omega,S'⟩
end Go.Proofs.YtknffgdbdadpcaaGreatDoor
namespace Go.Proofs.YtknffgdbdadpcaaGreatDoor
open Go Go.RowKit
variable {F:Fence} {n:Nat} {P:Program}
def SeqBox0 {α:Type} (F:Fence) (n:Nat) (P:Program) (g:Nat) (lb:Array Value) (encs:α→Array Value) (c:Nat) (S Sp:List α→Prop) (w:World):Prop:=
 ∀ (l:Nat) (J Jx:List α→World→Prop) (W:World),Below w.heap.size w W→
  (∀ pre x W1,J pre W1→Sp (pre++ [x])→YieldAt F (n-1) P l (encs x) W1 fun e W'=>
   (e= .returned (.bool true)∧J (pre++ [x]) W'∧W'.heap[c]? =W1.heap[c]?)∨(e= .returned (.bool false)∧Jx (pre++ [x]) W'))→
  J [] W→
  CallsIn F n P g (#[.func (.yield l) #[] #[]]++lb) W fun e W'=>(∃ v,e= .returned v)∧((∃ xs,S xs∧J xs W')∨(∃ pre,Sp pre∧Jx pre W'))
theorem wpIn_rangeFunc_boxA {α:Type} {g:Operand} {ps:Array Tmp} {assign body:Code} {Q:Exit→Act→World→Prop} {a:Act} {w:World}
  (hro:F.round=none) (h1:1≤n) {gf:Nat} {lb:Array Value} (hg:a.eval g= .func (.func gf) #[] lb) (hFg:F.fn gf) (eg:∀ args w,(callFunc gf args).run P w= .ok (.enter gf args) w)
  {encs:α→Array Value} {c:Nat} {S Sp:List α→Prop} (hc:c<w.heap.size) (hseq:SeqBox0 F (n-1) P gf lb encs c S Sp w) (hps:∀ x,(encs x).size=ps.size)
  (I:List α→World→Prop) (Ix:Code→List α→World→Prop) (hI:OwnFrom w.heap.size I) (hIx:∀ q,OwnFrom w.heap.size (Ix q)) (h0:I [] w) (obj:α→Obj) (a₁:α→Nat→Act)
  (hassign:∀ (l:Nat) (x:α) (W:World) (K:Act→World→Prop),K (a₁ x W.heap.size) (W.alloc (obj x))→
   assign.wpIn (F.inRound l) (n-1-1) P (Exit.then K (fun _ _ _=>False)) { tmps:=(ps.zip (encs x)).foldl (fun t (p,v)=>t.setIfInBounds p v) a.tmps,defers:= []} W)
  (hbody:∀ (l:Nat) (pre:List α) (x:α) (W:World) (b:Nat),I pre W→Sp (pre++ [x])→w.heap.size<b→W.heap[b]? =some (obj x)→body.wpIn (F.inRound l) (n-1-1) P (boxPost w.heap.size c I Ix (pre++ [x]) W) (a₁ x b) W)
  (hdone:∀ (D:Nat) (xs:List α) (W:World),w.heap.size≤D→S xs→I xs W→W.heap[D]? =some (.deferred (some []))→Q .normal { a with defers:= { target:= .collected D,args:= #[]} ::a.defers} W)
  (hstop:∀ (D:Nat) (q:Code) (pre:List α) (W:World),w.heap.size≤D→Sp pre→Ix q pre W→W.heap[D]? =some (.deferred (some []))→q.wpIn F n P Q { a with defers:= { target:= .collected D,args:= #[]} ::a.defers} W):
  (Code.rangeFunc g ps assign body).wpIn F n P Q a w:=by
 refine wpIn_rangeFunc fun fn hfn=> ?_
 rw [hro];generalize hD:w.heap.size=D at hc hI hIx hbody hdone hstop;have hR:∃ R:LoopState→Option Code→Loop,R=fun st pe=> { state:=st,pending:=pe,fn,tmps:=a.tmps,params:=ps,assign,body,defers:=D} :=⟨_,rfl⟩
 obtain ⟨R,hR⟩:=hR;have hV:∃ V,V=(w.alloc (.deferred (some []))).alloc (.loop (R .ready none)):=⟨_,rfl⟩;obtain ⟨V,hV⟩:=hV
 have hVl:V.heap[D+1]? =some (.loop (R .ready none)):=by
  have:=World.alloc_heap_new (w.alloc (.deferred (some []))) (.loop (R .ready none));rw [World.size_alloc,hD] at this;rw [hV];exact this
 have hVd:V.heap[D]? =some (.deferred (some [])):=by
  rw [hV,← hD];exact (Below.heap_alloc _ _ _ (by simp)).trans (World.alloc_heap_new w _)
 have hVb:Below w.heap.size w V:=by
  rw [hV];exact ((Below.refl _ w).alloc (Nat.le_refl _) _).alloc (by simp) _
 have hVI:I [] V:=by rw [hV];exact hI.alloc _ (hI.alloc _ h0)
 have henter:(Instr.enterLoop fn a.tmps ps assign body none).run P w= .ok (D+1, [{ target:= .collected D,args:= #[]}]) V:=by
  rw [run_enterLoop_outer,hD,hV,hR]
 refine ⟨D+1, [{ target:= .collected D,args:= #[]}],V,{ target:= .fn (.func gf) lb,args:= #[.func (.yield (D+1)) #[] #[]]},V,gf,
  #[.func (.yield (D+1)) #[] #[]]++lb,V,henter,?_,?_,?_,fun _=>h1,?_⟩
 ·simp only [resolve,hg];simp [go_sem]
 ·intro f' hf';simp [Target.leads] at hf';subst hf';exact hFg
 ·simp [invoke,go_sem,eg]
 ·have hcl:D+1≠c:=by omega
  have hcd:D≠c:=by omega
  refine (hseq (D+1)
   (fun pre W=>I pre W∧W.heap[D+1]? =some (.loop (R .ready none))∧W.heap[D]? =some (.deferred (some [])))
   (fun pre W=> ∃ q,Ix q pre W∧W.heap[D+1]? =some (.loop (R .done (some q)))∧W.heap[D]? =some (.deferred (some [])))
   V hVb ?_ ⟨hVI,hVl,hVd⟩).mono ?_
  ·rintro pre x W ⟨hi,hl,hd⟩ hlen;have hy:=run_yield (P:=P) (args:=encs x) hl (by rw [hR];exact hps x);rw [hR] at hy;have hlt0:D+1<W.heap.size:=(Array.getElem?_eq_some_iff.1 hl).1;have hkeep:∀ k,k<W.heap.size→(W.alloc (obj x)).heap[k]? =W.heap[k]? :=fun k hk=>Below.heap_alloc _ _ _ hk
   have hlA:(W.alloc (obj x)).heap[D+1]? =_:=(hkeep _ hlt0).trans hl;refine ⟨fn,_,assign,body,hy,roundIn_of_wpIn hfn (hassign _ x W _ ⟨_,run_beginRound hlA (by rw [hR]),?_⟩)⟩;have hlt:D+1<(W.alloc (obj x)).heap.size:=by simp;omega
   generalize hB:(W.alloc (obj x)).putObj (D+1) (.loop { R .ready none with state:= .busy})=B;have hBl:B.heap[D+1]? =some (.loop { R .ready none with state:= .busy}):=by rw [← hB];exact World.putObj_heap_same hlt
   have hBd:B.heap[D]? =some (.deferred (some [])):=by rw [← hB];exact (World.putObj_heap_other (by omega)).trans ((hkeep _ (by omega)).trans hd)
   have hBc:B.heap[c]? =W.heap[c]? :=by rw [← hB];exact (World.putObj_heap_other (by omega)).trans (hkeep _ (by omega))
   have hBI:I pre B:=by rw [← hB];exact hI.putObj _ (hI.alloc _ hi) (by omega) hlA rfl
   have hBo:B.heap[W.heap.size]? =some (obj x):=by rw [← hB];exact (World.putObj_heap_other (by omega)).trans (World.alloc_heap_new _ _)
   refine wpIn_mono (hbody _ pre x B _ hBI hlen (by omega) hBo) ?_;rintro e a3 C ⟨j,hj,hk,hp⟩;have hCl:=hk.same _ _ (by omega) hBl rfl;have hCd:=hk.same _ _ (by omega) hBd rfl;have hlt':D+1<C.heap.size:=(Array.getElem?_eq_some_iff.1 hCl).1;refine roundPost_of hj ⟨_,_,run_endRound j hCl,?_⟩;have hEl:=World.putObj_heap_same (o:= .loop { { R .ready none with state:= .busy} with state:=if j.isNone then .ready else .done,pending:=j}) hlt';have hEd:=(World.putObj_heap_other (w:=C) (o:= .loop { { R .ready none with state:= .busy} with state:=if j.isNone then .ready else .done,pending:=j}) (show D≠D+1 by omega)).trans hCd;cases j with
   | none=>
    refine .inl ⟨rfl,⟨hI.putObj _ hp.2 (by omega) hCl rfl,?_,hEd⟩,?_⟩
    ·rw [hEl,hR];rfl
    ·exact (World.putObj_heap_other (by omega)).trans (hp.1.trans hBc)
   | some q=>
    refine .inr ⟨rfl,q,(hIx q).putObj _ hp (by omega) hCl rfl,?_,hEd⟩;rw [hEl,hR];rfl
  ·rintro e W2 ⟨⟨v,rfl⟩,(⟨xs,hS,hi,hl,hd⟩ | ⟨pre,hSp,q,hi,hl,hd⟩)⟩
   ·have:=run_endLoop (P:=P) hl (by rw [hR];simp);rw [hR] at this;exact ⟨none,_,this,hdone _ xs _ (Nat.le_refl _) hS (hI.putObj _ hi (by omega) hl rfl) ((World.putObj_heap_other (by omega)).trans hd)⟩
   ·have:=run_endLoop (P:=P) hl (by rw [hR];simp);rw [hR] at this;exact ⟨some q,_,this,hstop _ q pre _ (Nat.le_refl _) hSp ((hIx q).putObj _ hi (by omega) hl rfl) ((World.putObj_heap_other (by omega)).trans hd)⟩
end Go.Proofs.YtknffgdbdadpcaaGreatDoor
namespace Go.Proofs.YtknffgdbdadpcaaGreatDoor
open Go Go.RowKit
def fmOk (n a b:Int):Bool:=decide ((b*b+n)%(4*a)=0)&&decide (a≤(b*b+n)/(4*a))&& !(decide (b<0)&&decide (a=(b*b+n)/(4*a)))
def fmB (n a:Int):Nat→Int→List (Int×Int×Int)
 | 0,_=> []
 | k+1,b=>(if fmOk n a b=true then [(a,b,(b*b+n)/(4*a))] else [])++fmB n a k (b+1)
def fmA (n:Int):Nat→Int→List (Int×Int×Int)
 | 0,_=> []
 | k+1,a=>if 3*a*a≤n then fmB n a (2*a).toNat (1-a)++fmA n k (a+1) else []
theorem mul_self_nonneg' (b:Int):0≤b*b:=by
 rcases Int.le_total 0 b with h | h
 ·exact Int.mul_nonneg h h
 ·have:=Int.mul_nonneg (show 0≤ -b by omega) (show 0≤ -b by omega)
  rwa [Int.neg_mul_neg] at this
theorem sq_le' {b:Int} (h1: -3000≤b) (h2:b≤3001):b*b≤9006001:=by
 have e:b*b=((b.natAbs*b.natAbs:Nat):Int):=by rw [Int.natCast_mul,Int.natAbs_mul_self']
 have:=Nat.mul_le_mul (show b.natAbs≤3001 by omega) (show b.natAbs≤3001 by omega);rw [e];omega
set_option maxRecDepth 100000 in
set_option maxHeartbeats 16000000 in
theorem forms1_in (F:Fence) (m:Nat) (h6:F.fn 157) (hro:F.round=none) (hm:1≤m) (w:World) (c:Nat) (n:Nat) (hn:n≤4194304)
  (hc:w.cell? ⟨c,0,none⟩=some (.int .i64 (n:Int))):
  SeqBox0 F m Tryz.prog 157 #[.pointer (some ⟨c,0,none⟩)] (fun x:Int×Int×Int=> #[.agg #[.int .i64 x.1,.int .i64 x.2.1,.int .i64 x.2.2]]) c (fun xs=>xs=fmA n (n+1) 1) (fun pre=>pre <+:fmA n (n+1) 1) w:=fun l J Jx W hBel hY h0=>by
 have hcl:=World.block_lt_of_cell? w _ hc;have hcW:=(hBel.cell hcl).trans hc;clear hc;obtain ⟨T,hT⟩:∃ T,fmA n (n+1) 1=T:=⟨_,rfl⟩;rw [hT] at hY ⊢;refine callsIn_of_wp Tryz.func157 rfl h6 ?_ hro;simp only [Tryz.ntmps157,List.size_toArray,List.length_cons,List.length_nil,Nat.reduceAdd,Nat.reduceSub,Array.replicate_succ,Array.replicate_zero,List.push_toArray,List.append_toArray,List.nil_append,List.cons_append]
 gi_wp2
 gi_loopw [3] (fun p wr=> ∃ (pre:List (Int×Int×Int)) (k:Nat) (a:Int),p= .int .i64 a∧wr.cell? ⟨c,0,none⟩=some (.int .i64 (n:Int))∧
   pre++fmA n k a=T∧1≤a∧a≤3000∧a+k=n+2∧J pre wr)
  (fun p _=>match p with | .int _ z=>(n+3-z).toNat | _=>0)
 case atStart=>exact ⟨[],n+1,1,rfl,hcW,hT,by omega,by omega,by omega,h0⟩
 case round=>
  obtain ⟨pre,k,a,rfl,hcell,hpw,ha1,ha2,hak,hJs⟩:=hrel;have hw1:IntKind.i64.wrap (3*a)=3*a:=wrapC_small (by omega) (by omega);obtain ⟨a3,ha3⟩:∃ x,3*a*a=x:=⟨_,rfl⟩
  have ha4:0≤a3∧a3≤3*3000*3000:=by
   rw [← ha3];exact ⟨Int.mul_nonneg (by omega) (by omega),Int.mul_le_mul (by omega) ha2 (by omega) (by omega)⟩
  have hw2:IntKind.i64.wrap (3*a*a)=a3:=by rw [ha3];exact wrapC_small (by omega) (by omega)
  have hA:=hid (And.intro ha1 (And.intro ha2 (And.intro hak (And.intro ha3 ha4))));clear ha1 ha2 hak ha3 ha4;by_cases hle:a3≤(n:Int)
  ·have hw3:IntKind.i64.wrap (1-a)=1-a:=by have:=hA.out;exact wrapC_small (by omega) (by omega)
   have hk1:1≤k:=by
    have ha:=hA.out;have h2:=Int.mul_le_mul_of_nonneg_left (show 1≤a by omega) (show 0≤3*a by omega);omega
   have hA2:a≤2000:=by
    refine Int.not_lt.1 fun h=> ?_
    have ha:=hA.out;have h2:=Int.mul_le_mul_of_nonneg_left (show 2000≤a by omega) (show 0≤3*a by omega);omega
   obtain ⟨k,rfl⟩:∃ g,k=g+1:=⟨k-1,by omega⟩;clear hk1;have hA2:=hid hA2;rw [fmA,if_pos (show 3*a*a≤(n:Int) by have:=hA.out;omega)] at hpw
   gi_wp2
   clear hw1 hw2 hw3;have hLE:=hid hle;clear hle
   gi_loopw [4] (fun v4 wr2=> ∃ (pre2:List (Int×Int×Int)) (k2:Nat) (b:Int),v4= .int .i64 b∧wr2.cell? ⟨c,0,none⟩=some (.int .i64 (n:Int))∧
     pre2++(fmB n a k2 b++fmA n k (a+1))=T∧ -3000≤b∧b≤3001∧b+k2=a+1∧J pre2 wr2)
    (fun v4 _=>match v4 with | .int _ z=>(a+2-z).toNat | _=>0)
   case atStart=>have:=hA.out;exact ⟨pre,(2*a).toNat,1-a,rfl,hcell,hpw,by omega,by omega,by omega,hJs⟩
   case round=>
    obtain ⟨pre2,k2,b,rfl,hc2,hp2,hb1,hb2,hbk,hJ2⟩:=hrel;by_cases hba:b≤a
    ·obtain ⟨k2,rfl⟩:∃ g,k2=g+1:=⟨k2-1,by omega⟩;rw [fmB] at hp2
     have hbb:0≤b*b∧b*b≤9006001:=by
      constructor
      ·exact mul_self_nonneg' b
      ·exact sq_le' hb1 hb2
     obtain ⟨bb,hbb2⟩:∃ x,b*b=x:=⟨_,rfl⟩;obtain ⟨s,hs⟩:∃ x,bb+(n:Int)=x:=⟨_,rfl⟩;obtain ⟨q,hq⟩:∃ x,s/(4*a)=x:=⟨_,rfl⟩;obtain ⟨r,hr⟩:∃ x,s%(4*a)=x:=⟨_,rfl⟩;have ha:=hA.out;rw [hbb2] at hbb;have hs0:0≤s∧s≤100000000:=by omega
     have hq0:0≤q∧q≤s:=by rw [← hq];exact ⟨Int.ediv_nonneg hs0.1 (by omega),Int.ediv_le_self _ hs0.1⟩
     have hr0:0≤r∧r≤12000:=by rw [← hr];exact ⟨Int.emod_nonneg _ (by omega),by have:=Int.emod_lt_of_pos s (show 0<4*a by omega);omega⟩
     have hv1:IntKind.i64.wrap (b*b)=bb:=by rw [hbb2];exact wrapC_small (by omega) (by omega)
     have hv2:IntKind.i64.wrap (bb+(n:Int))=s:=by rw [hs];exact wrapC_small (by omega) (by omega)
     have hv3:IntKind.i64.wrap (4*a)=4*a:=wrapC_small (by omega) (by omega);have hv4:s.tdiv (4*a)=q:=by rw [Int.tdiv_eq_ediv_of_nonneg hs0.1];exact hq
     have hv5:s.tmod (4*a)=r:=by rw [Int.tmod_eq_emod_of_nonneg hs0.1];exact hr
     have hv6:IntKind.i64.wrap q=q:=wrapC_small (by omega) (by omega);have hv7:IntKind.i64.wrap r=r:=wrapC_small (by omega) (by omega);have hv8:¬ a=0:=by omega
     have hv9:¬ 4*a=0:=by omega
     have hva:IntKind.i64.wrap (b+1)=b+1:=wrapC_small (by omega) (by omega);have hok:fmOk n a b=(decide (r=0)&&decide (a≤q)&& !(decide (b<0)&&decide (a=q))):=by unfold fmOk;rw [hbb2,hs,hq,hr]
     rw [hok,hbb2,hs,hq] at hp2;have hB:=hid (And.intro hb1 (And.intro hb2 hbk));clear hok hbb2 hs hq hr hbb hs0 hq0 hr0 ha hb1 hb2 hbk;by_cases h1:r=0
     ·by_cases h2:a≤q
      ·have h2':¬ q<a:=by omega
       by_cases h3:b<0
       ·by_cases h4:a=q
        ·obtain rfl:a=q:=h4;rw [if_neg (by simp [h3]),List.nil_append] at hp2
         gi_wp2
         go_roundw
         case rel=>have hb:=hB.out;exact ⟨pre2,k2,b+1,rfl,hc2,hp2,by omega,by omega,by omega,hJ2⟩
         case measure=>have hb:=hB.out;show (a+2-(b+1)).toNat<(a+2-b).toNat;omega
        ·have h4b:(a==q)=false:=by rw [beq_eq_false_iff_ne];exact h4
         rw [if_pos (by simp [h1,h2,h4])] at hp2
         gi_wp2
         obtain ⟨fn,tmps,assign,body,hy,hR⟩:=hY pre2 (a,b,q) wr hJ2 ⟨_,by rw [List.append_assoc,← List.append_assoc [_]];exact hp2⟩;dsimp only at hy;rw [hy,Oper.uponIn_round];refine ⟨fun _=>hm,hR.mono ?_⟩;rintro e W3 (⟨rfl,hJ3,hk3⟩ | ⟨rfl,hJx3⟩)
         ·gi_wp2
          go_roundw
          case rel=>have hb:=hB.out;exact ⟨pre2++ [(a,b,q)],k2,b+1,rfl,ps_cell hk3 hc2,by rw [← hp2];simp,by omega,by omega,by omega,hJ3⟩
          case measure=>have hb:=hB.out;show (a+2-(b+1)).toNat<(a+2-b).toNat;omega
         ·gi_wp2
          refine bodyPost_ret (results_none rfl _ _ _) rfl ?_;exact ⟨⟨_,rfl⟩,.inr ⟨_,⟨_,by rw [List.append_assoc,← List.append_assoc [_]];exact hp2⟩,hJx3⟩⟩
       ·rw [if_pos (by simp [h1,h2,h3])] at hp2
        gi_wp2
        obtain ⟨fn,tmps,assign,body,hy,hR⟩:=hY pre2 (a,b,q) wr hJ2 ⟨_,by rw [List.append_assoc,← List.append_assoc [_]];exact hp2⟩;dsimp only at hy;rw [hy,Oper.uponIn_round];refine ⟨fun _=>hm,hR.mono ?_⟩;rintro e W3 (⟨rfl,hJ3,hk3⟩ | ⟨rfl,hJx3⟩)
        ·gi_wp2
         go_roundw
         case rel=>have hb:=hB.out;exact ⟨pre2++ [(a,b,q)],k2,b+1,rfl,ps_cell hk3 hc2,by rw [← hp2];simp,by omega,by omega,by omega,hJ3⟩
         case measure=>have hb:=hB.out;show (a+2-(b+1)).toNat<(a+2-b).toNat;omega
        ·gi_wp2
         refine bodyPost_ret (results_none rfl _ _ _) rfl ?_;exact ⟨⟨_,rfl⟩,.inr ⟨_,⟨_,by rw [List.append_assoc,← List.append_assoc [_]];exact hp2⟩,hJx3⟩⟩
      ·have h2':q<a:=by omega
       rw [if_neg (by simp [h2]),List.nil_append] at hp2
       gi_wp2
       go_roundw
       case rel=>have hb:=hB.out;exact ⟨pre2,k2,b+1,rfl,hc2,hp2,by omega,by omega,by omega,hJ2⟩
       case measure=>have hb:=hB.out;show (a+2-(b+1)).toNat<(a+2-b).toNat;omega
     ·rw [if_neg (by simp [h1]),List.nil_append] at hp2
      gi_wp2
      go_roundw
      case rel=>have hb:=hB.out;exact ⟨pre2,k2,b+1,rfl,hc2,hp2,by omega,by omega,by omega,hJ2⟩
      case measure=>have hb:=hB.out;show (a+2-(b+1)).toNat<(a+2-b).toNat;omega
    ·have hk0:k2=0:=by omega
     have hA':=hA.out;have hw4:IntKind.i64.wrap (a+1)=a+1:=wrapC_small (by omega) (by omega);clear hA'
     gi_wp2
     go_roundw
     case rel=>have ha:=hA.out;have:=hA2.out;exact ⟨pre2,k,a+1,rfl,hc2,by rw [hk0,fmB,List.nil_append] at hp2;exact hp2,by omega,by omega,by omega,hJ2⟩
     case measure=>have ha:=hA.out;show ((n:Int)+3-(a+1)).toNat<((n:Int)+3-a).toNat;omega
  ·obtain rfl:pre=T:=by
    rw [← hpw];cases k with
    | zero=>simp [fmA]
    | succ k=>rw [fmA,if_neg (by have:=hA.out;omega)];simp
   gi_wp2
   go_end0
   exact ⟨⟨_,rfl⟩,.inl hJs⟩
end Go.Proofs.YtknffgdbdadpcaaGreatDoor
