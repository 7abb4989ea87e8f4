/-
  The size of a discriminant of a description, and the discriminant: Size of the reference of package form, disc of the laws of package density.
  A range over an iterator that keeps a state of its own in a box (density.powers divides the n that it has captured): the contract of such an
  iterator, and the law of the statement that ranges over it. Over the kit's lower laws wpIn_rangeFunc and roundIn_of_wpIn.
  The caller of a range over a function, in the plain mode: a function's contract where its body holds such ranges; the statement itself.
  Regions in a round of a range over a function: what the rules on regions show in a function's own frame holds in a round's frame as well.
  Package prime: word.
  Which numbers below 2^20 the strong tests pass: the primes. Plain law, no program: the small theorem of Fermat, and a reckoning.
-/
import Derived.Test.YtknffgdbdadpcaaGreatDoorDen7
import Derived.RangeFuncMany
import Derived.RangeFuncWrites
import Derived.Below
import Derived.RangeFuncLeaves
import Derived.Shelf.Abstract
import Derived.WalkKit
import Derived.OwnWalkIn
import Derived.TacticsInMore
import Derived.LoopNIn
import Derived.LoopIn
import Derived.RangeFuncBox
import Derived.Test.YtknffgdbdadpcaaGreatDoorAdd
import Derived.Test.YtknffgdbdadpcaaGreatDoorSto
import Derived.OrdersIn
import Derived.Test.YtknffgdbdadpcaaGreatDoorPw
namespace Go.Proofs.YtknffgdbdadpcaaGreatDoor
open Go Go.RowKit
open Go.Proofs.Tryz
theorem ym{P:Prop}(h:P:=by decide +kernel):P:=h
theorem zb7{P:Prop}(h:P:=by simp[results,results85,go_sem]):P:=h
set_option maxRecDepth 100000
set_option maxHeartbeats 4000000
def dsz(d:Nat):Nat:=if (3+d%2000)%4=1 then 3+d%2000+2 else if (3+d%2000)%4=2 then 3+d%2000+1 else 3+d%2000
theorem dsz_ok(d:Nat):3<=dsz d/\dsz d<=2003/\(dsz d%4=0\/dsz d%4=3):=by
  unfold dsz
  split
  ·omega
  ·split <;> omega
theorem qH(w:World)(g:Nat)(hg:w.heap.size=g)(cs:Array Value)(T i:Nat)(v:Value)(h:cs[i]? =some v):World.cell? (w.alloc (.cells cs T)) ⟨g,i,none⟩=some v:=by subst hg;simp[h]
theorem tPrt_1{P:Prop}(h:P:=by
  go_wp2_with fail
  go_roundg (gk-1)
  case measure=>have:=HG.out;omega
  case rel=>exact⟨b+1,by rw[zV];rfl,by have:=HG.out;omega,by have:=HG.out;omega,E2⟩
  ):P:=h
theorem tPrt_2{P:Prop}(h:P:=by
  go_wp2_with fail;exact zD (v:=.int .i64 (b:Int)) (by simp[results,results37,go_sem]) rfl ⟨_,rfl,E2.out,rfl⟩
  ):P:=h
theorem Size_f(w:World)(d:Nat)(v1 v2 v3 v4 v5 v6 v7 v8:Value)(hd:d<65536):Calls prog 37 #[.agg #[.int .u16 (d:Int),v1,v2,v3,v4,v5,v6,v7,v8]] w (Ret w (iV ((dsz d:Nat):Int))):=by
  obtain⟨W,hW,hc,E⟩:∃W,W=w.alloc (.cells #[.int .u16 (d:Int),v1,v2,v3,v4,v5,v6,v7,v8] 26)/\World.cell? W ⟨w.heap.size,0,none⟩=some (.int .u16 (d:Int))/\Ext w W:=⟨_,rfl,qH _ _ rfl _ _ _ _ rfl,(Ext.refl _).alloc _⟩;obtain⟨a,ha⟩:∃a,d%2000=a:=⟨_,rfl⟩;obtain⟨b0,hb0⟩:∃b,3+a=b:=⟨_,rfl⟩;obtain⟨T,hT⟩:∃t,dsz d=t:=⟨_,rfl⟩;have hTT:T=if b0%4=1 then b0+2 else if b0%4=2 then b0+1 else b0:=by rw[<-hT];unfold dsz;rw[ha,hb0]
  have hbT:b0<=T/\T<=b0+2/\(T%4=0\/T%4=3)/\∀x,b0<=x->x<T->(x%4=1\/x%4=2):=by
    rw[hTT];by_cases h1:b0%4=1
    ·rw[if_pos h1];exact⟨by omega,by omega,by omega,λx _ _=>by omega⟩
    · rw[if_neg h1]
      by_cases h2:b0%4=2
      ·rw[if_pos h2];exact⟨by omega,by omega,by omega,λx _ _=>by omega⟩
      ·rw[if_neg h2];exact⟨by omega,by omega,by omega,λx _ _=>by omega⟩
  rw[hT];have HB:=hid (zJ hbT (show b0<=2002 by omega));have hx1:(d:Int).tmod 2000=(a:Int):=zab
  have hx2:(d:Int)%2000=(a:Int):=zb
  have hx3:IntKind.u16.wrap (a:Int)=(a:Int):=by rw[IntKind.wrap_u16];omega
  have hx4:IntKind.i64.wrap (a:Int)=(a:Int):=zo
  have hx5:IntKind.i64.wrap (3+(a:Int))=(b0:Int):=zo
  have EH:=hid E;clear ha hb0 hT hTT hbT hd E;go_enter func37,ntmps37;go_upto_region 1 with fail;rw[<-hW];clear hW;go_wp2_with fail;clear hx1 hx2 hx3 hx4 hx5 hc
  go_loopg [3] (T-b0) (λgk v3 wr=>∃b:Nat,v3=.int .i64 (b:Int)/\b+gk=T/\b0<=b/\Hid (Ext w wr))
  case atStart=>exact⟨b0,rfl,by have:=HB.out.1.1;omega,zL _,EH⟩
  case round=>
    obtain⟨b,rfl,hg,hb,E2⟩:=hrel;obtain⟨⟨h1,h2,h3,h4⟩,h5⟩:=HB.out;have hbb:b<=2004:=zb
    obtain⟨r,hr⟩:∃r,b%4=r:=⟨_,rfl⟩;have hx1:(b:Int).tmod 4=(r:Int):=zab
    have hx2:(b:Int)%4=(r:Int):=zb
    rcases zI gk with hg0|hg0
    · obtain rfl:b=T:=by omega
      have hr4:r=0\/r=3:=zb
      clear h1 h2 h3 h4 h5 hr hg hb hg0 hbb;rcases hr4 with rfl|rfl
      ·exact tPrt_2
      ·exact tPrt_2
    · have hr4:=h4 b hb zb
      have hx3:IntKind.i64.wrap ((b:Int)+1)=(b:Int)+1:=zo
      have HG:=hid (zJ hg (zJ hb hg0));rw[hr]at hr4;clear h1 h2 h3 h4 h5 hr hg hb hg0 hbb;rcases hr4 with rfl|rfl
      ·exact tPrt_1
      ·exact tPrt_1
end Go.Proofs.YtknffgdbdadpcaaGreatDoor
namespace Go.Proofs.YtknffgdbdadpcaaGreatDoor
open Go Go.RowKit
open Go.Proofs.Tryz
set_option maxRecDepth 100000
set_option maxHeartbeats 4000000
def Lone{α:Type}(c:Nat)(J:α->World->Prop):Prop:=∀s A B,J s A->A.grownBy B (some c)->J s B
theorem lone_at{A B:World}{c k:Nat}{o:Obj}(hg:A.grownBy B (some c))(hk:A.heap[k]? =some o)(hne:k≠c):B.heap[k]? =some o:=
  (hg.block k (Array.getElem?_eq_some_iff.1 hk).1 (λe=>hne (by cases e;rfl))).trans hk
def SeqBox{α:Type}(F:Fence)(n:Nat)(P:Program)(g:Nat)(lb:Array Value)(encs:α->Array Value)(c:Nat)(S Sp:List α->Prop)(w:World):Prop:=
  ∀ (l:Nat) (J Jx:List α->World->Prop) (W:World),Below w.heap.size w W->Lone c J->Lone c Jx->
    (∀ pre x W0,J pre W0->Sp (pre++ [x])->YieldAt F (n-1) P l (encs x) W0 λe W'=>
      (e=.returned (.bool true)/\J (pre++ [x]) W'/\W'.heap[c]? =W0.heap[c]?)\/(e=.returned (.bool false)/\Jx (pre++ [x]) W'))->
    J [] W->
    CallsIn F n P g (#[.func (.yield l) #[] #[]]++lb) W λe W'=>(∃v,e=.returned v)/\((∃xs,S xs/\J xs W')\/(∃pre,Sp pre/\Jx pre W'))
def jumpOf:Exit->Option (Option Code)
  | .normal=>some none
  | .ret=>some (some .ret)
  | .exit id=>some (some (.exit id))
  | .goto t=>some (some (.goto t))
  | .panic _=>none
  | .outgrown=>none
theorem roundPost_of{P:Program}{l:Nat}{R:Ending->World->Prop}{e:Exit}{j:Option Code}{a:Act}{w:World}(hj:jumpOf e=some j)
    (h:∃v w',(Instr.endRound l j).run P w=.ok v w'/\R (.returned v) w'):roundPost P l R e a w:=by
  cases e <;> simp only[jumpOf,Option.some.injEq,reduceCtorEq]at hj <;> subst hj <;> exact h
def boxPost{α:Type}(B c:Nat)(I:List α->World->Prop)(Ix:Code->List α->World->Prop)(xs:List α)(W:World)(e:Exit)(_:Act)(W':World):Prop:=
  ∃j,jumpOf e=some j/\KeepsFrom B W W'/\(match j with|none=>W'.heap[c]? =W.heap[c]? /\I xs W'|some q=>Ix q xs W')
variable {F:Fence} {n:Nat} {P:Program}
theorem jX{α:Type}{g:Operand}{ps:Array Tmp}{assign body:Code}{Q:Exit->Act->World->Prop}{a:Act}{w:World}
    (hro:F.round=none) (h1:1<=n) {gf:Nat} {lb:Array Value} (hg:a.eval g=.func (.func gf) #[] lb) (hFg:F.fn gf) (eg:∀args w,(callFunc gf args).run P w=.ok (.enter gf args) w)
    {encs:α->Array Value} {c:Nat} {S Sp:List α->Prop} (hc:c<w.heap.size) (hseq:SeqBox F (n-1) P gf lb encs c S Sp w) (hps:∀x,(encs x).size=ps.size)
    (I:List α->World->Prop) (Ix:Code->List α->World->Prop) (hI:OwnFrom w.heap.size I) (hIx:∀q,OwnFrom w.heap.size (Ix q)) (hIc:Lone c I) (hIxc:∀q,Lone c (Ix q)) (h0:I [] w) (a₁:α->Act)
    (hassign:∀(l:Nat) (x:α) (W:World) (K:Act->World->Prop),K (a₁ x) W->
      assign.wpIn (F.inRound l) (n-1-1) P (Exit.then K (λ_ _ _=>False)) {tmps:=(ps.zip (encs x)).foldl (λt (p,v)=>t.setIfInBounds p v) a.tmps,defers:= []} W)
    (hbody:∀(l:Nat) (pre:List α) (x:α) (W:World),I pre W->Sp (pre++ [x])->body.wpIn (F.inRound l) (n-1-1) P (boxPost w.heap.size c I Ix (pre++ [x]) W) (a₁ x) W)
    (hdone:∀(D:Nat) (xs:List α) (W:World),w.heap.size<=D->S xs->I xs W->W.heap[D]? =some (.deferred (some []))->Q .normal {a with defers:= {target:=.collected D,args:= #[]} ::a.defers} W)
    (hstop:∀(D:Nat) (q:Code) (pre:List α) (W:World),w.heap.size<=D->Sp pre->Ix q pre W->W.heap[D]? =some (.deferred (some []))->q.wpIn F n P Q {a with defers:= {target:=.collected D,args:= #[]} ::a.defers} W):
    (Code.rangeFunc g ps assign body).wpIn F n P Q a w:=by
  refine wpIn_rangeFunc λfn hfn=>?_
  rw[hro];generalize hD:w.heap.size=D at hc hI hIx hbody hdone hstop;have hR:∃R:LoopState->Option Code->Loop,R=λst pe=>{state:=st,pending:=pe,fn,tmps:=a.tmps,params:=ps,assign,body,defers:=D} :=⟨_,rfl⟩
  obtain⟨R,hR⟩:=hR;have hV:∃V,V=(w.alloc (.deferred (some []))).alloc (.loop (R .ready none)):=⟨_,rfl⟩;obtain⟨V,hV⟩:=hV
  have hVl:V.heap[D+1]? =some (.loop (R .ready none)):=by
    have:=zS (w.alloc (.deferred (some []))) (.loop (R .ready none));rw[World.size_alloc,hD]at this;rw[hV];exact this
  have hVd:V.heap[D]? =some (.deferred (some [])):=by
    rw[hV,<-hD];exact(Below.heap_alloc _ _ _ zh).trans (zS w _)
  have hVb:Below w.heap.size w V:=by
    rw[hV];exact((Below.refl _ w).alloc (zL _) _).alloc zh _
  have hVI:I [] V:=by rw[hV];exact hI.alloc _ (hI.alloc _ h0)
  have henter:(Instr.enterLoop fn a.tmps ps assign body none).run P w=.ok (D+1, [{target:=.collected D,args:= #[]}]) V:=by
    rw[run_enterLoop_outer,hD,hV,hR]
  refine⟨D+1, [{target:=.collected D,args:= #[]}],V,{target:=.fn (.func gf) lb,args:= #[.func (.yield (D+1)) #[] #[]]},V,gf,
    #[.func (.yield (D+1)) #[] #[]]++lb,V,henter,?_,?_,?_,λ_=>h1,?_⟩
  · simp only[resolve,hg]
    simp[go_sem]
  ·intro f' hf';simp[Target.leads]at hf';subst hf';exact hFg
  ·simp[invoke,go_sem,eg]
  · have hcl:D+1≠c:=by omega
    have hcd:D≠c:=zb
    refine(hseq (D+1)
      (λpre W=>I pre W/\W.heap[D+1]? =some (.loop (R .ready none))/\W.heap[D]? =some (.deferred (some [])))
      (λpre W=>∃q,Ix q pre W/\W.heap[D+1]? =some (.loop (R .done (some q)))/\W.heap[D]? =some (.deferred (some [])))
      V hVb (λs A B h hg=>⟨hIc s A B h.1 hg,lone_at hg h.2.1 hcl,lone_at hg h.2.2 hcd⟩)
      (λs A B ⟨q,h,hl,hd⟩ hg=>⟨q,hIxc q s A B h hg,lone_at hg hl hcl,lone_at hg hd hcd⟩) ?_ ⟨hVI,hVl,hVd⟩).mono ?_
    · rintro pre x W ⟨hi,hl,hd⟩ hlen
      have hy:=run_yield (P:=P) (args:=encs x) hl (by rw[hR];exact hps x);rw[hR]at hy;refine⟨fn,_,assign,body,hy,roundIn_of_wpIn hfn (hassign _ x W _ ⟨_,run_beginRound hl (by rw[hR]),?_⟩)⟩;have hlt:D+1<W.heap.size:=(Array.getElem?_eq_some_iff.1 hl).1;generalize hB:W.putObj (D+1) (.loop {R .ready none with state:=.busy})=B;have hBl:B.heap[D+1]? =some (.loop {R .ready none with state:=.busy}):=by rw[<-hB];exact World.putObj_heap_same hlt
      have hBd:B.heap[D]? =some (.deferred (some [])):=by rw[<-hB];exact(World.putObj_heap_other zb).trans hd
      have hBc:B.heap[c]? =W.heap[c]? :=by rw[<-hB];exact World.putObj_heap_other zb
      have hBI:I pre B:=by rw[<-hB];exact hI.putObj _ hi zb hl rfl
      refine wpIn_mono (hbody _ pre x B hBI hlen) ?_;rintro e a3 C ⟨j,hj,hk,hp⟩;have hCl:=hk.same _ _ zb hBl rfl;have hCd:=hk.same _ _ zb hBd rfl;have hlt':D+1<C.heap.size:=(Array.getElem?_eq_some_iff.1 hCl).1;refine roundPost_of hj ⟨_,_,run_endRound j hCl,?_⟩;have hEl:=World.putObj_heap_same (o:=.loop { {R .ready none with state:=.busy}with state:=if j.isNone then .ready else .done,pending:=j}) hlt';have hEd:=(World.putObj_heap_other (w:=C) (o:=.loop { {R .ready none with state:=.busy}with state:=if j.isNone then .ready else .done,pending:=j}) (show D≠D+1 by omega)).trans hCd;cases j with
      | none=>
        refine .inl ⟨rfl,⟨hI.putObj _ hp.2 zb hCl rfl,?_,hEd⟩,?_⟩
        ·rw[hEl,hR];rfl
        ·exact(World.putObj_heap_other zb).trans (hp.1.trans hBc)
      | some q=>
        refine .inr ⟨rfl,q,(hIx q).putObj _ hp zb hCl rfl,?_,hEd⟩;rw[hEl,hR];rfl
    · rintro e W0 ⟨⟨v,rfl⟩,(⟨xs,hS,hi,hl,hd⟩| ⟨pre,hSp,q,hi,hl,hd⟩)⟩
      · have:=run_endLoop (P:=P) hl (by rw[hR];simp)
        rw[hR]at this;exact⟨none,_,this,hdone _ xs _ (zL _) hS (hI.putObj _ hi zb hl rfl) ((World.putObj_heap_other zb).trans hd)⟩
      · have:=run_endLoop (P:=P) hl (by rw[hR];simp)
        rw[hR]at this;exact⟨some q,_,this,hstop _ q pre _ (zL _) hSp ((hIx q).putObj _ hi zb hl rfl) ((World.putObj_heap_other zb).trans hd)⟩
#print axioms jX
end Go.Proofs.YtknffgdbdadpcaaGreatDoor
namespace Go.Proofs.YtknffgdbdadpcaaGreatDoor
open Go Go.RowKit Go.Shelf
open Go.Proofs.Tryz
set_option maxRecDepth 100000
set_option maxHeartbeats 4000000
theorem jI{P:Program}{f:FuncId}{fn:Func}{c:Code}{args:Array Value}{w:World}{R:Ending->World->Prop}
    (hf:P.funcs[f]? =some fn) (hb:fn.body=some c) (h:c.wp P (bodyPostM Fence.wide 9 P fn R) {tmps:=args++Array.replicate (fn.ntmps-args.size) undef,defers:= []} w):Calls P f args w R:=
  callsIn_wide.1 (callsIn_of_wp_marks hf hb trivial (wpIn_wide.2 h))
theorem jY{P:Program}{fn:Func}{R:Ending->World->Prop}{t:Array Value}{w:World}{v:Value}{D:Nat}(hD:w.heap[D]? =some (.deferred (some [])))
    (h:(results fn t).run P (w.putObj D (.deferred none))=.ok v (w.putObj D (.deferred none))) (hR:R (.returned v) (w.putObj D (.deferred none))):
    bodyPostM Fence.wide 9 P fn R .ret {tmps:=t,defers:= [{target:=.collected D,args:= #[]}]} w:=⟨by simp,.inl ⟨_,_,rfl,run_takeDeferred hD,v,h,hR⟩⟩
theorem in_round{n:Nat}{P:Program}{f:FuncId}{args:Array Value}{w:World}{R:Ending->World->Prop}(l:Nat)(h:Calls P f args w R):CallsIn (Fence.wide.inRound l) n P f args w R:=(callsIn_wide (n:=n)).2 h
theorem ext_keeps{W W':World}(h:Ext W W'):KeepsOthers W W':=⟨h.size,λk _ hk _=>(h.block k (Array.getElem?_eq_some_iff.1 hk).1).trans hk⟩
theorem lone_cell{A B:World}{c:Nat}{p:Addr}{v:Value}(h:A.cell? p=some v)(hg:A.grownBy B (some c))(hne:p.block≠c):B.cell? p=some v:=by
  have hb:B.heap[p.block]? =A.heap[p.block]? :=hg.block _ (World.block_lt_of_cell? A p h) (λe=>hne (by cases e;rfl));exact(World.cell?_of_block (w:=A) hb).trans h
theorem lone_frozen{A B:World}{c:Nat}{p:Addr}{v:Value}(h:A.cell? p=some v)(hg:A.grownBy B (some c))(hne:p.block≠c):B.frozen? p=A.frozen? p:=by
  have hb:B.heap[p.block]? =A.heap[p.block]? :=hg.block _ (World.block_lt_of_cell? A p h) (λe=>hne (by cases e;rfl));exact World.frozen?_of_block (w:=A) hb
theorem lone_below{n:Nat}{W0 A B:World}{c:Nat}(h:Below n W0 A)(hg:A.grownBy B (some c))(hn:n<=W0.heap.size)(hc:n<=c):Below n W0 B:=
  h.grown hg (zN hn h.size) (λk e=>by cases e;exact hc)
theorem boxPost_norm{α:Type}{B c:Nat}{I:List α->World->Prop}{Ix:Code->List α->World->Prop}{xs:List α}{W W':World}{a:Act}(hk:KeepsFrom B W W')(hc:W'.heap[c]? =W.heap[c]?)(hI:I xs W'):boxPost B c I Ix xs W .normal a W':=⟨none,rfl,hk,hc,hI⟩
theorem boxPost_ret{α:Type}{B c:Nat}{I:List α->World->Prop}{Ix:Code->List α->World->Prop}{xs:List α}{W W':World}{a:Act}(hk:KeepsFrom B W W')(hI:Ix .ret xs W'):boxPost B c I Ix xs W .ret a W':=⟨some .ret,rfl,hk,hI⟩
def VarAt(g n0:Nat)(W0:World)(v:Value)(W:World):Prop:=(W.cell? ⟨g,0,none⟩=some v/\W.frozen? ⟨g,0,none⟩=false)/\Below n0 W0 W
theorem varAt_own{α:Type}{g n0 B:Nat}{W0:World}(f:List α->Value)(h0:n0<=W0.heap.size)(hB:n0<=B):OwnFrom B (λpre W=>VarAt g n0 W0 (f pre) W):=
  OwnFrom.and (Own.from (λ_ _ _ _ hs hg hr=>⟨cell_kept hs.1 hg hr,(frozen_kept hs.1 hg hr).trans hs.2⟩) _) (ownFrom_below h0 hB)
theorem varAt_lone{α:Type}{g n0 c:Nat}{W0:World}(f:List α->Value)(h0:n0<=W0.heap.size)(hc:n0<=c)(hne:g≠c):Lone c (λ(pre:List α) W=>VarAt g n0 W0 (f pre) W):=
  λ_ _ _ h hg=>⟨⟨lone_cell h.1.1 hg hne,(lone_frozen h.1.1 hg hne).trans h.1.2⟩,lone_below h.2 hg h0 hc⟩
theorem VarAt.ext{g n0:Nat}{W0 W W':World}{v:Value}(h:VarAt g n0 W0 v W)(e:Ext W W')(hn:n0<=W.heap.size):VarAt g n0 W0 v W':=
  ⟨⟨e.cell (p:=⟨g,0,none⟩) h.1.1,(e.frozen (p:=⟨g,0,none⟩) (World.block_lt_of_cell? W _ h.1.1)).trans h.1.2⟩,h.2.trans (e.mono hn)⟩
theorem VarAt.set{g n0:Nat}{W0 W:World}{v:Value}(h:VarAt g n0 W0 v W)(hg:n0<=g)(u:Value):VarAt g n0 W0 u (W.setCell ⟨g,0,none⟩ u):=
  ⟨⟨World.cell?_setCell_same' _ _ _ (by rw[h.1.1];rfl),by rw[World.frozen?_setCell];exact h.1.2⟩,h.2.setCell hg u⟩
theorem setCell_heap(W:World)(g c:Nat)(u:Value)(h:c≠g):(W.setCell ⟨g,0,none⟩ u).heap[c]? =W.heap[c]? :=Below.heap_setCell W ⟨g,0,none⟩ u c h
theorem inBlock_norm{Q:Exit->Act->World->Prop}{b:Nat}{a:Act}{w:World}(h:Q .normal a w):Exit.inBlock b Q .normal a w:=h
end Go.Proofs.YtknffgdbdadpcaaGreatDoor
namespace Go.Proofs.YtknffgdbdadpcaaGreatDoor
open Go Go.RowKit
open Go.Proofs.Tryz
set_option maxRecDepth 100000
set_option maxHeartbeats 4000000
def noDefer(ops:Array Oper):Bool:=ops.all λo=>match o.op with| .defer _=>false|_=>true
theorem noDefer_spec{ops:Array Oper}(h:noDefer ops=true){i:Nat}{o:Oper}(ho:ops[i]? =some o)(c:Call):o.op≠ .defer c:=λe=>by
  obtain⟨hi,rfl⟩:=Array.getElem?_eq_some_iff.1 ho;have:=Array.all_eq_true.1 h i hi;rw[e]at this;cases this
section
variable {l n:Nat} {P:Program} {ops:Array Oper} {Q:Exit->Act->World->Prop} {md:Region.Mode}
theorem rows_wide{row:String}{args:Array Value}{w:World}{R:Value->World->Prop}(h:Rows P row args w R):RowsIn (Fence.wide.inRound l) n P row args w R:=
  λc cs _=>let ⟨v,w',r,s⟩:=h c cs;⟨v,w',r,stepsIn_wide.2 s⟩
theorem oper_round{o:Oper}{a:Act}{w:World}{K K':Act->World->Prop}(hd:∀c,o.op≠ .defer c)(hK:∀a w,K a w->K' a w)(h:o.wp P a w K Q):o.wpIn (Fence.wide.inRound l) n P a w K' Q:=by
  refine⟨λ_ _=>trivial,?_⟩;rw[Fence.inRound_round,Oper.semAt_some l a.eval o hd];unfold Oper.wp at h;generalize(execOp a.eval o).run P w=r at h;cases r with
  | ok x w'=>
    cases x <;> simp only[Oper.upon,Oper.uponIn]at h ⊢ <;>
      first
        |exact hK _ _ h
        |exact⟨(λe=>by cases e),CallsIn.mono (in_round l h) (λe w'' he=>by cases e <;> first|exact hK _ _ he|exact he)⟩
        |exact⟨(λe=>by cases e),RowsIn.mono (rows_wide h) (λ_ _ he=>hK _ _ he)⟩
        |exact h.elim
  |halt x w'=>cases x <;> simp only[Oper.upon,Oper.uponIn]at h ⊢ <;> exact h
theorem any_round(hQ:¬LetsOut Q)(hd:noDefer ops=true):∀(fuel:Nat) (listed:Array Bool) (a:Act) (w:World),wpAny P md ops Q fuel listed a w->wpAnyIn (Fence.wide.inRound l) n P md ops Q fuel listed a w
  |0,_,_,_,h=>h
  | fuel+1,listed,a,w,h=>by
    refine⟨h.1,λi hi=>?_⟩;have:=h.2 i hi;unfold wpOp at this;unfold wpOpIn;cases ho:ops[i]? with
    |none=>rw[ho]at this;exact any_round hQ hd fuel _ _ _ this
    | some o=>
      rw[ho]at this;dsimp only at this ⊢
      split
      · rename_i hw
        rw[if_pos hw]at this;exact oper_round (noDefer_spec hd ho) (any_round hQ hd fuel _) (this.resolve_right λk=>hQ k.2)
      · rename_i hw
        rw[if_neg hw]at this;exact⟨λ_ _=>trivial,any_round hQ hd fuel _ _ _ this⟩
theorem region_round{id:Nat}{a:Act}{w:World}(hQ:¬LetsOut Q)(hm:P.follows .mixedOrders=true)(hd:noDefer ops=true)(h:wpAny P .any ops Q ops.size (Array.replicate ops.size false) a {w with drawn:=w.drawn+1}):
    (Code.region id ops true).wpIn (Fence.wide.inRound l) n P Q a w:=wpIn_region_any hm (any_round hQ hd _ _ _ _ h)
theorem rgI(n':Nat)(ds:List (Option Tmp))(L:List (Value->World->Prop))(boxes:List Nat)(fuel:Nat){a0:Act}{w0:World}{id:Nat}(hQ:¬LetsOut Q)
    (hop:RgAll P .any ops Q ds a0 w0 L boxes 0 n' ops.toList)
    (hend:∀v w,Ext w0 w->(∀i,i<n'->L.getD i (λ_ _=>True) (v i) w)->(∀i j,i∈boxes->j∈boxes->i<n'->j<n'->i≠j->v i≠v j)->
      wpAny P .any ops Q fuel (xE ops.size n') (jM v a0 0 ds) w)
    (hm:P.follows .mixedOrders=true:=by kernel_rfl) (hn:n'<=ops.size:=by decide) (hf:ops.size-n'=fuel:=by kernel_rfl) (hds:(List.range n').map (xC ops)=ds:=by kernel_rfl) (hap:xG ops n'=true:=by kernel_rfl) (htp:jS .any ops n' []=true:=by kernel_rfl) (hns:Region.noSelect ops=true:=by kernel_rfl)
    (hst:AllStb L:=by repeat' (first|exact trivial|exact IsV.stb _|exact IsW.stb _|exact IsI.stb _ _|exact IsBo.stb _ _|exact IsR.stb _ _|exact IsMag.stb _ _|exact IsPos.stb|apply IsJ.stb|apply IsQ.stb|apply IsT3.stb|apply IsT2.stb|apply zJ)) (hbx:AllBox L boxes:=by repeat' (first|exact trivial|exact IsBo.box _ _|apply zJ)) (hnd:noDefer ops=true:=by kernel_rfl):
    (Code.region id ops true).wpIn (Fence.wide.inRound l) n P Q a0 w0:=by
  refine region_round hQ hm hnd ?_;have hE:Ext w0 w0.drew:=(Ext.refl w0).drew
  have hD:∀m,jH (Array.replicate ops.size false) m=0:=λm=>by
    unfold jH;rw[List.countP_eq_zero.2];intro i _;simp[xI]
  refine wpAny_rgT n' [] ds L boxes fuel ?_ hn hf hds hap htp hns hst hbx.get zh zh ?_ (λv w hR=>hend v w (hE.trans hR))
  ·simp[startOk,hD,xI]
  · have key:∀(k i:Nat) (os:List Oper),RgAll P .any ops Q ds a0 w0 L boxes i k os->RgAll P .any ops Q ds a0 w0.drew L boxes i k os:=by
      intro k
      induction k with
      |zero=>intro i os _;cases os <;> trivial
      | succ k ih=>
        intro i os h;cases os with
        |nil=>trivial
        |cons o os=>exact⟨λv w hR=>h.1 v w (hE.trans hR),ih _ _ h.2⟩
    exact key n' 0 ops.toList hop
end
theorem not_out_box{α:Type}{B c:Nat}{I:List α->World->Prop}{Ix:Code->List α->World->Prop}{xs:List α}{W:World}:¬LetsOut (boxPost B c I Ix xs W):=λ⟨_,_,_,h,_⟩=>by cases h
theorem not_out_block{Q:Exit->Act->World->Prop}(h:¬LetsOut Q)(b:Nat):¬LetsOut (Exit.inBlock b Q):=h
end Go.Proofs.YtknffgdbdadpcaaGreatDoor
namespace Go.Proofs.YtknffgdbdadpcaaGreatDoor
open Go Go.RowKit Go.Shelf
open Go.Proofs.Tryz
set_option maxRecDepth 100000
set_option maxHeartbeats 4000000
attribute [local go_sem] Oper.semAt_some
theorem word_t(w:World)(s:Bool)(b off:Nat)(n c:Nat)(xs:List Nat)(h:Wd w (some ⟨b,off,none⟩) n c xs)(hn:n<=2)(h0:0<n)(V:Int)(HV:Hid (((bval (upto (bwd (λj=>xs.getD j 0) n) n):Nat):Int)=V)):
    Calls prog 85 #[.agg #[.bool s,.slice (some ⟨b,off,none⟩) n c]] w (Ret w (IsT2 (IsV (.int .u64 V)) (IsV (.bool (!s))))):=by
  have hI:=h.wbel;have hn2:decide ((n:Int)<=2)=true:=jl
  have hcb:n<=c/\c<=9223372036854775807:=⟨h.capo,h.big⟩;clear h
  obtain⟨W,hW,E,C1,C2⟩:∃W,W=w.alloc (.cells #[.bool s,.slice (some ⟨b,off,none⟩) n c] 33)/\Ext w W/\World.cell? W ⟨w.heap.size,0,none⟩=some (.bool s)/\World.cell? W ⟨w.heap.size,1,none⟩=some (.slice (some ⟨b,off,none⟩) n c):=
    ⟨_,rfl,(Ext.refl _).alloc _,by simp,by simp⟩
  refine jI func85 rfl ?_;simp only[ntmps85,List.size_toArray,List.length_cons,List.length_nil,Nat.reduceAdd,Nat.reduceSub,Array.replicate_succ,Array.replicate_zero,List.push_toArray,List.append_toArray,List.nil_append,List.cons_append];go_upto_region 1 with fail;rw[<-hW];have hWs:w.heap.size<W.heap.size:=World.block_lt_of_cell? W _ C1;clear hW;go_wp2_with (go_at_call 88;refine zC (callsIn_wide.1 (back_in Fence.wide 3 trivial rfl _ _ _ _)) ?_;rintro e w' ⟨rfl,rfl⟩)
  have hmin:min (n:Int) 2=(n:Int):=zb
  rw[hmin,Int.toNat_natCast];clear hmin;obtain⟨W1,hW2⟩:∃W1,(W.alloc (.cells #[.int .u64 0] 99)).alloc (.cells #[.slice (some ⟨b,off,none⟩) n c] 27)=W1:=⟨_,rfl⟩
  have V2:VarAt W.heap.size W.heap.size W (.int .u64 0) W1:=by
    have bV:=Boxed.new W 99 (.int .u64 0);rw[<-hW2];exact⟨⟨(bV.alloc _).cell,(bV.alloc _).frozen⟩,((Ext.refl _).alloc _).alloc _⟩
  have cN:World.cell? W1 ⟨W.heap.size+1,0,none⟩=some (.slice (some ⟨b,off,none⟩) n c):=by
    have bN:=Boxed.new (W.alloc (.cells #[.int .u64 0] 99)) 27 (.slice (some ⟨b,off,none⟩) n c);rw[World.size_alloc]at bN;rw[<-hW2];exact bN.cell
  have hsz:W1.heap.size=W.heap.size+2:=by rw[<-hW2];simp
  rw[hW2];clear hW2
  refine wpIn_wide.1 (wpIn_rangeFunc_ownG (n:=9) rfl dcx (gf:=136) (lb:= #[.pointer (some ⟨W.heap.size+1,0,none⟩)]) rfl trivial (en func136)
    (back_stops Fence.wide 8 trivial rfl dcx (W.heap.size+1) w.heap.size (some ⟨b,off,none⟩) n c (λj=>xs.getD j 0) zb W1 zb zb cN (hI.below (E.trans V2.2)))
    (λh k=>h.trans k) (Kpb.put zb) (Below.refl _ _) (λ_=>rfl)
    (λpre W'=>VarAt W.heap.size W.heap.size W (.int .u64 (bval pre:Nat)) W') (λ_ _ _=>False)
    (varAt_own _ (zL _) zb) (λ_ _ _ _ _ h _ _=>h) V2 ?_ ?_ ?_ ?_ ?_)
  rotate_left
  · intro l x W' K hK
    gi_wp2
    exact hK
  · rintro l pre x W' V6 hlen
    have hbv:=bval_lt pre;have hb1:bval pre<4294967296:=Nat.lt_of_lt_of_le hbv (zN (Nat.pow_le_pow_right dcx (show pre.length<=1 by omega)) dcx);have hx:x.2%4294967296<4294967296:=zR _ dcx;have hbs:=bval_snoc pre x;have hbits:=low_bits _ _ hb1 hx;rw[<-hbs]at hbits;clear hbs hbv;obtain⟨nx,hnx⟩:∃nx,bval (pre++ [x])=nx:=⟨_,rfl⟩;rw[hnx]at hbits;have Hnx:=hid hnx;clear hnx;generalize bval pre=v at*;rw[zM]at hbits;simp only[Int.cast_ofNat_Int]at hbits;clear hx;have Lg:=V6.1.1;have Fg:=V6.1.2
    gi_wp2
    have hne2:(⟨W.heap.size,0,none⟩:Addr)≠⟨W.heap.size+1,0,none⟩:=zh
    refine⟨(KeepsOthers.setCell _ _ _).from _,⟨(Below.refl w.heap.size W').setCell (p:=⟨W.heap.size,0,none⟩) (Nat.le_of_lt hWs) _,λu hu=>(World.cell?_setCell_other (w:=W') _ _ _ hne2).trans hu⟩,?_⟩;show VarAt W.heap.size W.heap.size W (.int .u64 (bval (pre++ [x]):Nat)) _;rw[Hnx.out];exact V6.set (zL _) _
  · rintro D ys W' hD rfl V6 hK
    have HV:=HV.out;generalize bval (upto (bwd (λj=>xs.getD j 0) n) n)=v at*;have C1':=Ext.cell V6.2 C1;have C2':=Ext.cell V6.2 C2;have Lg:=V6.1.1;have Fg:=V6.1.2;have hfin:Ext w (W'.drew.putObj D (.deferred none)):=Below.trans (E.trans V6.2).drew (belowK_b (w:=w) (zL _) W'.drew D _ _ zb hK rfl rfl);rw[HV]at Lg;clear V6 V2;go_wp2_with fail;cases s
    · go_region
      go_wp2_with fail;exact jY hK (v:=.tuple #[.int .u64 V,.bool true]) zb7 ⟨_,rfl,hfin,_,_,rfl,rfl,rfl⟩
    · go_region
      go_wp2_with fail;exact jY hK (v:=.tuple #[.int .u64 V,.bool false]) zb7 ⟨_,rfl,hfin,_,_,rfl,rfl,rfl⟩
  · intro D q pre W' _ _ h _
    exact h.elim
theorem word_f{z:Int}{x:Value}{w:World}(hx:IsI 2 z x w)(h0:z≠0):Calls prog 85 #[x] w (Ret w (IsT2 (IsV (.int .u64 ((z.natAbs:Nat):Int))) (IsV (.bool (decide (0<z)))))):=by
  obtain⟨s,a,n,c,rfl,m,⟨xs,hw,hk,hz,hv⟩,hs,he⟩:=hx;have hlen:=hw.len
  have hn0:0<n:=by
    rcases zI n with h|h
    · have:xs= []:=List.length_eq_zero_iff.1 zb
      subst this;simp[qF]at hv;subst hv;exfalso;apply h0;rw[he];cases s <;> simp
    ·exact h
  rcases hw.at_ with h| ⟨b,off,rfl,hb,hc⟩
  ·omega
  have hm0:0<m:=by
    have h3:=xF xs zb (by rw[hlen];exact hz zb);have h4:0<(4294967296:Nat)^(xs.length-1):=Nat.pow_pos dcx;omega
  have hb2:=bval_nat xs hw.lt n hlen zb;have key:=word_t w s b off n c xs hw zb hn0 (m:Int) (hid (by rw[hb2,hv]));refine key.mono λe W' h=>?_
  obtain⟨v,rfl,hE,x,y,rfl,rfl,rfl⟩:=h;refine⟨_,rfl,hE,_,_,rfl,?_,?_⟩
  · cases s
    ·simp only[Bool.false_eq_true,if_false]at he;subst he;rfl
    · simp only[if_true]at he;subst he
      show Value.int .u64 _=_
      congr 1
      omega
  · cases s
    · simp only[Bool.false_eq_true,if_false]at he;subst he
      show Value.bool _=_;rw[decide_eq_true (by omega)];rfl
    · simp only[if_true]at he;subst he
      show Value.bool _=_;rw[decide_eq_false (by omega)];rfl
def prBases:List Nat:= [2,3,5,7,11,13,17,19,23,29,31,37,41]
end Go.Proofs.YtknffgdbdadpcaaGreatDoor
namespace Go.Proofs.YtknffgdbdadpcaaGreatDoor
open Go Go.RowKit
open Go.Proofs.Tryz
set_option maxRecDepth 100000
set_option maxHeartbeats 4000000
def bch:Nat->Nat->Nat
  |_,0=>1
  |0,_+1=>0
  |n+1,k+1=>bch n k+bch n (k+1)
theorem bch_0(n:Nat):bch n 0=1:=by cases n <;> rfl
theorem bch_ss(n k:Nat):bch (n+1) (k+1)=bch n k+bch n (k+1):=rfl
theorem bch_big:∀(n k:Nat),n<k->bch n k=0
  |0,0,h=>absurd h (Nat.lt_irrefl _)
  |0,_+1,_=>rfl
  |n+1,0,h=>absurd h (Nat.not_lt_zero _)
  |n+1,k+1,h=>by rw[bch_ss,bch_big n k (by omega),bch_big n (k+1) (by omega)]
theorem bch_abs:∀(n k:Nat),(k+1)*bch (n+1) (k+1)=(n+1)*bch n k
  |0,0=>rfl
  |0,k+1=>by rw[bch_ss,bch_big 0 (k+1) (by omega),bch_big 0 (k+2) (by omega)];rfl
  | n+1,0=>by
    have h:=bch_abs n 0;rw[bch_0,Nat.mul_one]at h;rw[bch_ss (n+1) 0,bch_0,Nat.mul_one,Nat.mul_add,h];omega
  | n+1,k+1=>by
    have h1:=bch_abs n (k+1);have h2:=bch_abs n k;rw[bch_ss (n+1) (k+1),Nat.mul_add,h1];have e:bch (n+1) (k+1)=bch n k+bch n (k+1):=rfl;have e2:(k+2)*bch (n+1) (k+1)=(k+1)*bch (n+1) (k+1)+bch (n+1) (k+1):=by rw[show k+2=(k+1)+1 from rfl,Nat.succ_mul]
    rw[e2,h2,e]
    grind
def bsum(b n:Nat):Nat->Nat
  |0=>0
  |m+1=>bsum b n m+bch n m*b^m
theorem bsum_ss(b n:Nat):∀m,bsum b (n+1) (m+1)=bsum b n (m+1)+b*bsum b n m
  |0=>by simp[bsum,bch_0]
  | m+1=>by
    have h:=bsum_ss b n m;rw[show bsum b (n+1) (m+2)=bsum b (n+1) (m+1)+bch (n+1) (m+1)*b^(m+1)from rfl,h,bch_ss];rw[show bsum b n (m+2)=bsum b n (m+1)+bch n (m+1)*b^(m+1)from rfl,show bsum b n (m+1)=bsum b n m+bch n m*b^m from rfl];rw[Nat.add_mul,Nat.mul_add b,Nat.pow_succ];have:b*(bch n m*b^m)=bch n m*(b^m*b):=by rw[Nat.mul_comm b,Nat.mul_assoc]
    rw[this];omega
theorem bsum_all(b:Nat):∀n,bsum b n (n+1)=(b+1)^n
  |0=>by simp[bsum,bch]
  | n+1=>by
    rw[bsum_ss,show bsum b n (n+1+1)=bsum b n (n+1)+bch n (n+1)*b^(n+1)from rfl,bch_big n (n+1) (by omega),Nat.zero_mul,Nat.add_zero,bsum_all b n,Nat.pow_succ,Nat.mul_add,Nat.mul_one,Nat.mul_comm b];omega
theorem bch_dvd{p k:Nat}(hp:Pr p)(h0:0<k)(h1:k<p):p∣bch p k:=by
  obtain⟨j,rfl⟩:∃j,k=j+1:=⟨k-1,by omega⟩;obtain⟨q,hq⟩:∃q,p=q+1:=⟨p-1,by omega⟩;have h:=bch_abs q j;have:p∣(j+1)*bch p (j+1):=⟨bch q j,by rw[hq];exact h⟩;rcases hp.dvd_mul this with h2|h2
  ·exact absurd (Nat.le_of_dvd zb h2) zb
  ·exact h2
theorem bsum_mod{p:Nat}(hp:Pr p)(b:Nat):∀m,0<m->m<=p->bsum b p m%p=1
  |0,h,_=>absurd h (Nat.lt_irrefl _)
  | 1,_,_=>by
    have:=hp.1;simp[bsum,bch_0];exact Nat.mod_eq_of_lt zb
  | m+2,_,h=>by
    obtain⟨c,hc⟩:=bch_dvd hp (k:=m+1) zb zb;rw[show bsum b p (m+2)=bsum b p (m+1)+bch p (m+1)*b^(m+1)from rfl,hc,Nat.mul_assoc,Nat.add_mul_mod_self_left];exact bsum_mod hp b (m+1) zb zb
theorem fermat0{p:Nat}(hp:Pr p):∀b,b^p%p=b%p
  |0=>by have:=hp.1;rw[Nat.zero_pow (by omega)]
  | b+1=>by
    have h:=bsum_all b p;rw[show bsum b p (p+1)=bsum b p p+bch p p*b^p from rfl]at h
    have h1:∀n,bch n n=1:=by
      intro n
      induction n with
      |zero=>rfl
      |succ n ih=>rw[bch_ss,ih,bch_big n (n+1) (by omega)]
    rw[h1,Nat.one_mul]at h;have hp1:=hp.1;rw[<-h,Nat.add_mod,bsum_mod hp b p (by omega) (zL _),fermat0 hp b,Nat.add_mod b 1,Nat.add_comm,Nat.mod_eq_of_lt (show 1<p by omega)]
theorem fermat{p:Nat}(hp:Pr p){b:Nat}(hb:b%p≠0):b^(p-1)%p=1:=by
  have hp1:=hp.1
  have hb0:0<b:=by
    rcases zI b with h|h;·subst h;simp at hb
    ·exact h
  have h:=fermat0 hp b;have h1:b^p=b*b^(p-1):=by conv=>lhs;rw[show p=(p-1)+1 by omega,Nat.pow_succ,Nat.mul_comm]
  have h2:0<b^(p-1):=Nat.pow_pos hb0
  have h3:p∣b*(b^(p-1)-1):=by
    rw[Nat.mul_sub,Nat.mul_one,<-h1];have h5:b<=b^p:=by rw[h1];exact Nat.le_mul_of_pos_right _ h2
    have d1:=Nat.div_add_mod (b^p) p;have d2:=Nat.div_add_mod b p;rw[h]at d1;refine⟨b^p/p-b/p,?_⟩;rw[Nat.mul_sub];omega
  rcases hp.dvd_mul h3 with h4|h4
  ·exact absurd (Nat.mod_eq_zero_of_dvd h4) hb
  · obtain⟨c,hc⟩:=h4
    rw[show b^(p-1)=1+p*c by omega,Nat.add_mul_mod_self_left];exact Nat.mod_eq_of_lt zb
def sqs(n:Nat):Nat->Nat->Bool
  |0,_=>false
  |s+1,x=>if x=n-1 then true else sqs n s (x*x%n)
def stg(n s d b:Nat):Bool:=decide (b^d%n=1)||sqs n s (b^d%n)
theorem pow_two_sq(x s:Nat):x^2^(s+1)=(x*x)^2^s:=by rw[Nat.pow_succ,Nat.mul_comm,Nat.pow_mul,Nat.pow_two]
theorem sqs_fermat{n:Nat}(hn:1<n):∀(s x:Nat),sqs n s x=true->x^2^s%n=1
  |0,_,h=>by simp[sqs]at h
  | s+1,x,h=>by
    rw[pow_two_sq];by_cases hx:x=n-1
    · have e:x*x%n=1:=by
        have:x*x=1+n*(n-2):=by
          obtain⟨m,hm⟩:∃m,n=m+2:=⟨n-2,by omega⟩;subst hm;rw[hx,show m+2-1=m+1 by omega,Nat.add_sub_cancel]
          grind
        rw[this,Nat.add_mul_mod_self_left,Nat.mod_eq_of_lt hn]
      rw[Nat.pow_mod,e,Nat.one_pow,Nat.mod_eq_of_lt hn]
    · rw[sqs,if_neg hx]at h
      have:=sqs_fermat hn s _ h;rw[Nat.pow_mod];exact this
theorem stg_fermat{n s d b:Nat}(hn:1<n)(hd:n-1=2^s*d)(h:stg n s d b=true):b^(n-1)%n=1:=by
  rw[hd,Nat.mul_comm,Nat.pow_mul];rw[stg,Bool.or_eq_true,zU]at h;rw[Nat.pow_mod];rcases h with h|h
  ·rw[h,Nat.one_pow,Nat.mod_eq_of_lt hn]
  ·exact sqs_fermat hn _ _ h
theorem sqs_prime{n:Nat}(hp:Pr n):∀(s x:Nat),x<n->x≠1->x^2^s%n=1->sqs n s x=true
  |0,x,hx,h1,h=>by rw[Nat.pow_zero,Nat.pow_one,Nat.mod_eq_of_lt hx]at h;exact absurd h h1
  | s+1,x,hx,h1,h=>by
    have hn:=hp.1;rw[sqs];by_cases hm:x=n-1
    ·rw[if_pos hm]
    · rw [if_neg hm]
      rw[pow_two_sq,Nat.pow_mod]at h;refine sqs_prime hp s _ (zR _ zb) ?_ h;intro h2;rcases zI x with h0|h0
      ·subst h0;simp at h2
      have h3:n∣(x-1)*(x+1):=by
        obtain⟨y,rfl⟩:∃y,x=y+1:=⟨x-1,by omega⟩;have e:(y+1-1)*(y+1+1)+1=(y+1)*(y+1):=by rw[Nat.add_sub_cancel];grind
        have e2:=Nat.div_add_mod ((y+1)*(y+1)) n;rw[h2]at e2;exact⟨(y+1)*(y+1)/n,by omega⟩
      rcases hp.dvd_mul h3 with h4|h4
      · have:=Nat.eq_zero_of_dvd_of_lt h4 zb
        omega
      · have:=Nat.le_of_dvd zb h4
        omega
theorem stg_prime{n s d b:Nat}(hp:Pr n)(hd:n-1=2^s*d)(hb:b%n≠0):stg n s d b=true:=by
  have hn:=hp.1;rw[stg,Bool.or_eq_true,zU];by_cases h:b^d%n=1
  ·exact Or.inl h
  · refine Or.inr (sqs_prime hp s _ (zR _ zb) h ?_)
    rw[<-Nat.pow_mod,<-Nat.pow_mul,Nat.mul_comm,<-hd];exact fermat hp hb
theorem and_shift(s a b:Nat):(2^s*a)&&&(2^s*b)=2^s*(a&&&b):=by
  have h:=Nat.shiftLeft_and_distrib (a:=a) (b:=b) (i:=s);rw[Nat.shiftLeft_eq,Nat.shiftLeft_eq,Nat.shiftLeft_eq]at h;rw[Nat.mul_comm _ a,Nat.mul_comm _ b,Nat.mul_comm _ (a&&&b),h]
theorem and_odd(u v:Nat):(2*u+1)&&&(2*v+1)=2*(u&&&v)+1:=by
  apply Nat.eq_of_testBit_eq;intro i;cases i with
  |zero=>simp[Nat.testBit_zero]
  | succ i=>
    rw[Nat.testBit_and,Nat.testBit_succ,Nat.testBit_succ,Nat.testBit_succ,show(2*u+1)/2=u by omega,show(2*v+1)/2=v by omega,show(2*(u&&&v)+1)/2=u&&&v by omega,Nat.testBit_and]
theorem and_compl{u j:Nat}(h:u<2^j):u&&&(2^j-(u+1))=0:=by
  apply Nat.eq_of_testBit_eq;intro i;rw[Nat.testBit_and,Nat.testBit_two_pow_sub_succ h,Nat.zero_testBit];cases u.testBit i <;> simp
theorem low_bit(s d:Nat)(hd:d%2=1)(h:2^s*d<2^64):(2^s*d)&&&(2^64-2^s*d)=2^s:=by
  have hs:s<64:=by
    rcases zQ s 64 with h1|h1
    ·exact h1
    · have h2:=Nat.pow_le_pow_right (n:=2) dcx h1
      have h3:=Nat.le_mul_of_pos_right (2^s) (show 0<d by omega);omega
  obtain⟨j,hj⟩:∃j,64=s+(j+1):=⟨64-s-1,by omega⟩;rw[hj,Nat.pow_add]at h ⊢;have hp:0<2^s:=Nat.pow_pos dcx;have hdk:d<2^(j+1):=Nat.lt_of_mul_lt_mul_left h;rw[<-Nat.mul_sub,and_shift];obtain⟨u,rfl⟩:∃u,d=2*u+1:=⟨d/2,by omega⟩;have hu:u<2^j:=by rw[Nat.pow_succ]at hdk;omega
  rw[show 2^(j+1)-(2*u+1)=2*(2^j-(u+1))+1 by rw[Nat.pow_succ];omega,and_odd,and_compl hu,Nat.mul_zero,Nat.zero_add,Nat.mul_one]
def bsG(n:Nat):Bool:=Nat.beq (Nat.gcd n 304250263527210) 1
def fmS(e m:Nat)(c:Nat):Nat:=Nat.rec 0 (λr _=>Nat.mod (Nat.mul (Nat.mod (Nat.pow (Nat.succ r) (Nat.div m e)) (Nat.succ m)) (Nat.pow 2 (Nat.mod m e))) (Nat.succ m)) c
def fmG(e m:Nat):Nat:=fmS e m (Nat.mod (Nat.pow 2 e) (Nat.succ m))
def fmK(m:Nat):Nat:=fmG 1024 m
def slK(n:Nat):Bool:=(List.range 21).all λs=>cond (Nat.beq (Nat.mod (n-1) (2^s)) 0) (cond (Nat.beq (Nat.mod (Nat.div (n-1) (2^s)) 2) 1) (!(stg n s ((n-1)/2^s) 2&&stg n s ((n-1)/2^s) 3)) true) true
def gdK(n:Nat):Bool:=Nat.rec true (λm _=>cond (bsG (Nat.succ m)) (cond (Nat.beq (fmK m) 1) (slK (Nat.succ m)) true) true) n
def chP(p:Nat)(len:Nat):Bool:=Nat.rec true (λi ih=>cond (gdK (Nat.mul p (Nat.add p i))) ih false) len
def chQ(p:Nat):Bool:=Nat.rec true (λm _=>cond (bsG (Nat.succ m)) (chP (Nat.succ m) (Nat.succ (Nat.sub (Nat.div 1048576 (Nat.succ m)) (Nat.succ m)))) true) p
def chR(lo:Nat)(len:Nat):Bool:=Nat.rec true (λk ih=>cond (chQ (Nat.add lo k)) ih false) len
theorem chR_spec{lo:Nat}:∀len,chR lo len=true->∀n,lo<=n->n<lo+len->chQ n=true
  |0,_,n,h1,h2=>by omega
  | len+1,h,n,h1,h2=>by
    have e:chR lo (len+1)=cond (chQ (lo+len)) (chR lo len) false:=rfl;rw[e]at h;cases hg:chQ (lo+len)with
    |false=>rw[hg]at h;cases h
    | true=>
      rw[hg]at h;by_cases hn:n=lo+len
      ·rw[hn];exact hg
      ·exact chR_spec len h n h1 zb
theorem chP_spec{p:Nat}:∀len,chP p len=true->∀i,i<len->gdK (p*(p+i))=true
  |0,_,i,h1=>by omega
  | len+1,h,i,h1=>by
    have e:chP p (len+1)=cond (gdK (p*(p+len))) (chP p len) false:=rfl;rw[e]at h;cases hg:gdK (p*(p+len))with
    |false=>rw[hg]at h;cases h
    | true=>
      rw[hg]at h;by_cases hn:i=len
      ·rw[hn];exact hg
      ·exact chP_spec len h i zb
theorem fm_gen(e m n:Nat):(2^e%n)^(m/e)%n*2^(m%e)%n=2^m%n:=by
  rw[Nat.mul_mod,Nat.mod_mod,<-Nat.pow_mod,<-Nat.mul_mod,<-Nat.pow_mul,<-Nat.pow_add,Nat.div_add_mod]
theorem fm_pos(e m:Nat)(hm:0<m)(h2:m%2=0):2^e%(m+1)≠0:=by
  intro h;have hd:=Nat.dvd_of_mod_eq_zero h
  have hc:Nat.Coprime (2^e) (m+1):=Nat.Coprime.pow_left _ (by
    rw[Nat.Coprime,Nat.gcd_rec,show(m+1)%2=1 by omega];decide)
  have:=Nat.Coprime.eq_one_of_dvd hc.symm hd;omega
theorem fmS_eq{e m c:Nat}(h:c≠0):fmS e m c=c^(m/e)%(m+1)*2^(m%e)%(m+1):=by
  cases c with
  |zero=>exact absurd rfl h
  |succ r=>rfl
theorem fmG_eq(e:Nat){m:Nat}(hm:0<m)(h2:m%2=0):fmG e m=2^m%(m+1):=by
  show fmS e m (2^e%(m+1))=_;rw[fmS_eq (fm_pos _ _ hm h2)];exact fm_gen _ _ _
theorem fmK_eq{m:Nat}(hm:0<m)(h2:m%2=0):fmK m=2^m%(m+1):=fmG_eq _ hm h2
theorem gdK_spec{n s d:Nat}(hn:3<=n)(hn2:n<1048576)(ho:n%2=1)(hb:bsG n=true)(hg:gdK n=true)(hd:n-1=2^s*d)(hdo:d%2=1)(h2:stg n s d 2=true)(h3:stg n s d 3=true):False:=by
  obtain⟨m,rfl⟩:∃m,n=m+1:=⟨n-1,by omega⟩;have e:gdK (m+1)=cond (bsG (m+1)) (cond (Nat.beq (fmK m) 1) (slK (m+1)) true) true:=rfl;have hf:=stg_fermat zb hd h2;rw[Nat.add_sub_cancel]at hf hd;rw[e,hb,fmK_eq (by omega) (by omega),hf]at hg;have hg:slK (m+1)=true:=hg;rw[slK,List.all_eq_true]at hg
  have hs:s<21:=by
    rcases zQ s 21 with h|h
    ·exact h
    · have h1:=Nat.pow_le_pow_right (n:=2) dcx h
      have h4:0<d:=Nat.pos_of_ne_zero λh0=>by subst h0;simp at hd;omega
      have h5:=Nat.le_mul_of_pos_right (2^s) h4;have:(2:Nat)^21=2097152:=zdp
      omega
  have h1:=hg s (List.mem_range.2 hs);have hp:0<2^s:=Nat.pow_pos dcx;have hdd:m/2^s=d:=by rw[hd,Nat.mul_div_cancel_left _ hp]
  have hmm:m%2^s=0:=by rw[hd,Nat.mul_mod_right]
  have hb2:Nat.beq (Nat.mod (m+1-1) (2^s)) 0=true:=by
    rw[Nat.add_sub_cancel];show Nat.beq (m%2^s) 0=true;rw[hmm];rfl
  have hb3:Nat.beq (Nat.mod (Nat.div (m+1-1) (2^s)) 2) 1=true:=by
    rw[Nat.add_sub_cancel];show Nat.beq (m/2^s%2) 1=true;rw[hdd,hdo];rfl
  rw[hb2,hb3,Nat.add_sub_cancel,hdd,h2,h3]at h1;cases h1
theorem bsG_of{n:Nat}(h2:n%2≠0)(h3:n%3≠0)(h5:n%5≠0)(h7:n%7≠0)(h11:n%11≠0)(h13:n%13≠0)(h17:n%17≠0)(h19:n%19≠0)(h23:n%23≠0)(h29:n%29≠0)(h31:n%31≠0)(h37:n%37≠0)(h41:n%41≠0):bsG n=true:=by
  have key:∀p,(2<=p/\∀d,d<p+1->p%d=0->d=1\/d=p)->n%p≠0->Nat.Coprime n p:=by
    intro p hp h;have hg:=Nat.gcd_dvd_right n p;have hl:=Nat.gcd_dvd_left n p;rcases hp.2 _ (Nat.lt_succ_of_le (Nat.le_of_dvd zb hg)) (Nat.mod_eq_zero_of_dvd hg)with h1|h1
    ·exact h1
    · rw[h1]at hl
      exact absurd (Nat.mod_eq_zero_of_dvd hl) h
  have hc:Nat.Coprime n (2*3*5*7*11*13*17*19*23*29*31*37*41):=by
    refine Nat.Coprime.mul_right (Nat.Coprime.mul_right (Nat.Coprime.mul_right (Nat.Coprime.mul_right (Nat.Coprime.mul_right (Nat.Coprime.mul_right (Nat.Coprime.mul_right (Nat.Coprime.mul_right (Nat.Coprime.mul_right (Nat.Coprime.mul_right (Nat.Coprime.mul_right (Nat.Coprime.mul_right ?_ ?_) ?_) ?_) ?_) ?_) ?_) ?_) ?_) ?_) ?_) ?_) ?_
    all_goals (refine key _ ym ?_;assumption)
  rw[bsG];have e:Nat.gcd n 304250263527210=1:=hc;rw[e];rfl
theorem bsG_dvd{n m:Nat}(h:bsG n=true)(hd:m∣n):bsG m=true:=by
  have h1:Nat.gcd n 304250263527210=1:=Nat.eq_of_beq_eq_true h;have h2:Nat.Coprime m 304250263527210:=Nat.Coprime.coprime_dvd_left hd h1;rw[bsG,show Nat.gcd m 304250263527210=1 from h2];rfl
theorem comp_fail(HK:∀p,43<=p->p<1024->chQ p=true){n s d:Nat}(hn:43<=n)(hn2:n<1048576)(ho:n%2=1)(hb:bsG n=true)(hd:n-1=2^s*d)(hdo:d%2=1)(h2:stg n s d 2=true)(h3:stg n s d 3=true)(hlow:∀p,2<=p->p<43->n%p≠0):Pr n:=by
  refine⟨by omega,?_⟩
  suffices hs:∀p q,n=p*q->2<=p->p<=q->False by
    rintro p ⟨q,hq⟩;rcases zI p with h|h
    ·subst h;omega
    rcases zI q with h'|h'
    ·subst h';omega
    by_cases h1:p=1
    ·exact Or.inl h1
    by_cases h1':q=1
    ·exact Or.inr (by rw[hq,h1',Nat.mul_one])
    rcases Nat.le_total p q with h4|h4
    ·exact(hs p q hq zb h4).elim
    ·exact(hs q p (by rw[hq,Nat.mul_comm]) zb h4).elim
  intro p q hq hp hpq
  have hp43:43<=p:=by
    rcases zQ p 43 with h|h
    ·exact absurd (by rw[hq,Nat.mul_mod_right]) (hlow p hp h)
    ·exact h
  have hp1024:p<1024:=by
    rcases zQ p 1024 with h|h
    ·exact h
    · have:=Nat.mul_le_mul h (zN h hpq)
      omega
  have h:=HK p hp43 hp1024;obtain⟨m,rfl⟩:∃m,p=m+1:=⟨p-1,by omega⟩;have e:chQ (m+1)=cond (bsG (m+1)) (chP (m+1) (1048576/(m+1)-(m+1)+1)) true:=rfl;rw[e,bsG_dvd hb ⟨q,hq⟩]at h;replace h:chP (m+1) (1048576/(m+1)-(m+1)+1)=true:=h
  have hle:q<=1048576/(m+1):=by
    rw[Nat.le_div_iff_mul_le (by omega),Nat.mul_comm];omega
  have h1:=chP_spec _ h (q-(m+1)) zb;rw[show m+1+(q-(m+1))=q by omega,<-hq]at h1;exact gdK_spec zb hn2 ho hb h1 hd hdo h2 h3
theorem prB(j:Nat)(hj:j<13):2<=prBases.getD j 1/\prBases.getD j 1<=41:=by
  revert j;decide
theorem prLow:∀p,p<43->2<=p->∃j,j<13/\p%prBases.getD j 1=0:=by decide +kernel
theorem pr_law(HK:∀p,43<=p->p<1024->chQ p=true){n s d:Nat}(hn:43<=n)(hn2:n<1048576)(hb:∀j,j<13->n%prBases.getD j 1≠0)(hd:n-1=2^s*d)(hdo:d%2=1):(∀j,j<13->stg n s d (prBases.getD j 1)=true)↔Pr n:=by
  constructor
  · intro h
    have h2:=hb 0 dcx;have e2:prBases.getD 0 1=2:=rfl;rw[e2]at h2
    exact comp_fail HK hn hn2 zb (bsG_of (hb 0 dcx) (hb 1 dcx) (hb 2 dcx) (hb 3 dcx) (hb 4 dcx) (hb 5 dcx) (hb 6 dcx) (hb 7 dcx) (hb 8 dcx) (hb 9 dcx) (hb 10 dcx) (hb 11 dcx) (hb 12 dcx)) hd hdo (h 0 dcx) (h 1 dcx) (λp hp hp2 h0=>by
      obtain⟨j,hj,hm⟩:=prLow p hp2 hp
      exact hb j hj (Nat.mod_eq_zero_of_dvd (Nat.dvd_trans (Nat.dvd_of_mod_eq_zero hm) (Nat.dvd_of_mod_eq_zero h0))))
  · intro hp j hj
    have h1:=prB j hj;exact stg_prime hp hd (by rw[Nat.mod_eq_of_lt (by omega)];omega)
theorem pr_small{n j:Nat}(hj:j<13)(hm:n%prBases.getD j 1=0):(n=prBases.getD j 1)↔Pr n:=by
  have h1:=prB j hj;constructor
  · intro h
    rw[h]
    exact(show ∀j,j<13->Pr (prBases.getD j 1)from λj hj=>by
      have hk:∀j,j<13->∀d,d<prBases.getD j 1+1->prBases.getD j 1%d=0->d=1\/d=prBases.getD j 1:=ym
      have h3:=prB j hj
      exact⟨h3.1,λd hd=>hk j hj d (Nat.lt_succ_of_le (Nat.le_of_dvd zb hd)) (Nat.mod_eq_zero_of_dvd hd)⟩) j hj
  · intro hp
    rcases hp.2 _ (Nat.dvd_of_mod_eq_zero hm)with h|h
    ·omega
    ·exact h.symm
end Go.Proofs.YtknffgdbdadpcaaGreatDoor
