/-
 The arguments of the laws of package density as they read: a description of nine numbers, and bytes. And what the row's four listed variables give. No condition.
 A range over an iterator that keeps a state of its own in a box (density.powers divides the n that it has captured): the contract of such an
 iterator, and the law of the statement that ranges over it. Over the kit's lower laws wpIn_rangeFunc and roundIn_of_wpIn.
 The number of representations as a product over primes: what package density computes, and the relations of the laws DensityProducts and DensityInert. Plain laws, no program.
-/
import Derived.Test.YtknffgdbdadpcaaGreatDoorMod1
import Derived.Test.YtknffgdbdadpcaaGreatDoorMod3
import Derived.OpenShut
import Derived.RangeFuncMany
import Derived.RangeFuncWrites
import Derived.Below
import Derived.Test.YtknffgdbdadpcaaGreatDoorBase
namespace Go.Proofs.YtknffgdbdadpcaaGreatDoor
open Go Go.RowKit Go.ChangeShapes Go.WideShapes Go.ChangeAt Go.Joins
open Go.Proofs.Tryz
set_option maxRecDepth 100000
section
variable {H:Type} {enc:TypeId×Value→H}
def Dry (enc:TypeId×Value→H) (P:Program) (t:TypeId):Prop:= ∀ (w:World) (b:Nat) (sp:Nat→Bool) (hd:Bool) (w':World) (b':Nat) (sp':Nat→Bool) (hd':Bool) (fuel:Nat) (cs:List Value) (x:DataW H×List MemPlace),
 DataW.trod enc P w b sp hd fuel t cs=some x→DataW.trod enc P w' b' sp' hd' fuel t cs=some x
theorem mapM_in {α β:Type} {f g:α→Option β} :∀ {l:List α} {r:List β},(∀ x∈l,∀ y,f x=some y→g x=some y)→l.mapM f=some r→l.mapM g=some r
 | [],r,_,h=>by simpa using h
 | a ::l,r,hfg,h=>by
  simp only [List.mapM_cons] at h ⊢;cases hfa:f a with
  | none=>rw [hfa] at h;simp at h
  | some y=>
   rw [hfa] at h;rw [hfg a (by simp) y hfa];cases hr:l.mapM f with
   | none=>rw [hr] at h;simp at h
   | some ys=>
    rw [hr] at h;rw [mapM_in (fun x hx=>hfg x (by simp [hx])) hr];exact h
theorem Dry.int {P:Program} {t:TypeId} {k:IntKind} (ht:P.underlying t=some (.int k)):Dry enc P t:=by
 intro w b sp hd w' b' sp' hd' fuel cs x h;obtain ⟨n,rfl,rfl,hw⟩:=DataW.trod_int ht h;cases fuel with
 | zero=>simp [DataW.trod] at h
 | succ m=>exact trod_int_mk m ht hw
theorem Dry.array {P:Program} {t e:TypeId} {n:Nat} (ht:P.underlying t=some (.array n e)) (he:Dry enc P e):Dry enc P t:=by
 intro w b sp hd w' b' sp' hd' fuel cs x h;cases fuel with
 | zero=>simp [DataW.trod] at h
 | succ m=>
  unfold DataW.trod at h ⊢;rw [ht] at h ⊢;simp only at h ⊢
  split at h
  ·cases hr:(List.range n).mapM (fun i=>DataW.trod enc P w b sp hd m e ((cs.drop (i*P.cellsOf e)).take (P.cellsOf e))) with
   | none=>simp_all
   | some ys=>
    have:=mapM_in (g:=fun i=>DataW.trod enc P w' b' sp' hd' m e ((cs.drop (i*P.cellsOf e)).take (P.cellsOf e))) (fun i _ y hy=>he _ _ _ _ _ _ _ _ _ _ _ hy) hr
    simp_all
  ·simp_all
theorem Dry.struct {P:Program} {t:TypeId} {fs:Array Field} (ht:P.underlying t=some (.struct fs)) (he:∀ f∈fs.toList,Dry enc P f.type):Dry enc P t:=by
 intro w b sp hd w' b' sp' hd' fuel cs x h;cases fuel with
 | zero=>simp [DataW.trod] at h
 | succ m=>
  unfold DataW.trod at h ⊢;rw [ht] at h ⊢;simp only at h ⊢
  split at h
  ·cases hr:fs.toList.mapM (fun f=>DataW.trod enc P w b sp hd m f.type ((cs.drop f.offset).take (P.cellsOf f.type))) with
   | none=>simp_all
   | some ys=>
    have:=mapM_in (g:=fun f=>DataW.trod enc P w' b' sp' hd' m f.type ((cs.drop f.offset).take (P.cellsOf f.type))) (fun i hi y hy=>he i hi _ _ _ _ _ _ _ _ _ _ _ hy) hr
    simp_all
  ·simp_all
theorem wf_u16 (n:Int) (h:(Lit.int .u16 n).wf=true):0≤n∧n≤65535:=by
 simp only [Lit.wf,Bool.and_eq_true,decide_eq_true_eq] at h;have h1:IntKind.min .u16=0:=rfl;have h2:IntKind.max .u16=65535:=rfl;rw [h1,h2] at h;exact h
theorem wf_u8 (n:Int) (h:(Lit.int .u8 n).wf=true):0≤n∧n≤255:=by
 simp only [Lit.wf,Bool.and_eq_true,decide_eq_true_eq] at h;have h1:IntKind.min .u8=0:=rfl;have h2:IntKind.max .u8=255:=rfl;rw [h1,h2] at h;exact h
theorem fraw_open {W:World} {b0:Nat} {r:Reach} {v:Value} {d:DataW H} {p:List MemPlace} (hv:Value.okWide prog W r b0 26 v) (h:DataW.Trod enc prog W 0 (fun _=>true) true 26 v d p):
  ∃ (n:Nat) (v1 v2 v3 v4 v5 v6 v7 v8:Value),v= .agg #[.int .u16 (n:Int),v1,v2,v3,v4,v5,v6,v7,v8]∧n<65536∧Reads enc W 26 v d p:=by
 have hdry:Dry enc prog 26:=by
  refine Dry.struct underlying26 ?_;intro f hf;simp only [List.mem_cons,List.not_mem_nil,or_false] at hf;have h16:Dry enc prog 22:=Dry.int (k:= .u16) (by kernel_rfl);have h8:Dry enc prog 5:=Dry.int (k:= .u8) (by kernel_rfl);rcases hf with rfl | rfl | rfl
  ·exact h16
  ·exact Dry.array (n:=4) (e:=22) (by kernel_rfl) h16
  ·exact Dry.array (n:=4) (e:=5) (by kernel_rfl) h8
 have hC:prog.cellsOf 26=9:=by kernel_rfl
 have hE:prog.cellsOf 22=1:=by kernel_rfl
 have ht:=underlying26;simp only [Value.okWide,ht] at hv;obtain ⟨cs,rfl,hsz,_⟩:=hv;obtain ⟨n,hn⟩:=h;have hread:Reads enc W 26 (.agg cs) d p:=fun W' sp _ _=>⟨n,hdry _ _ _ _ _ _ _ _ _ _ _ hn⟩
 obtain ⟨xs,m,rfl,_,hl,hx,hf⟩:=DataW.trod_struct ht hn;have h0:=hf 0 _ rfl;rw [hC] at hl;obtain ⟨cl⟩:=cs;simp only [Value.cells] at hl h0
 match cl,hl with
 | [v0,v1,v2,v3,v4,v5,v6,v7,v8],_=>
  have h0:DataW.trod enc prog W 0 (fun _=>true) true m 22 (([v0,v1,v2,v3,v4,v5,v6,v7,v8].drop 0).take (prog.cellsOf 22))=xs[0]? :=h0;rw [hE] at h0;simp only [List.drop_zero,List.take_succ_cons,List.take_zero] at h0
  match xs,hx with
  | y0 ::_,_=>
   simp only [List.getElem?_cons_zero] at h0;obtain ⟨z,hz,_,hw⟩:=DataW.trod_int (k:= .u16) (by kernel_rfl) h0;simp only [List.cons.injEq,and_true] at hz;subst hz;obtain ⟨hz0,hz1⟩:=wf_u16 _ hw;obtain ⟨k,rfl⟩:=Int.eq_ofNat_of_zero_le hz0;exact ⟨k,v1,v2,v3,v4,v5,v6,v7,v8,rfl,by omega,hread⟩
end
def laid4:List (String×DataW Unit):= [("math/bits.deBruijn32tab",Rows.laid_math_bits_deBruijn32tab),("math/bits.deBruijn64tab",Rows.laid_math_bits_deBruijn64tab),("internal/strconv.uint64pow10",Rows.laid_internal_strconv_uint64pow10),("algorist/modular.signs",Rows.laid_algorist_modular_signs)]
theorem door_met4 (os:Os) (args:Array Value):laidMetH prog laid4 ((World.doorLaid prog 2000 os).forCall (fun _ _=>0) ⟨#[],args, []⟩).memory:=
 laidMetH_of_parts3 (fuel:=8) (laidMet_of_run' 8 (by kernel_rfl) (by kernel_rfl)) (by kernel_rfl) (by kernel_rfl)
theorem tabs_of_laid {W:World} (h:laidMetH prog laid4 W):Tab W∧Sg W:=by
 rw [MakeChecks.laidMetH_plain _ _ _ (by kernel_rfl)] at h;obtain ⟨ps,⟨g0,t0,cs0,f0,p0,q0,hg0,ht0,hv0,hd0,⟨g1,t1,cs1,f1,p1,q1,hg1,ht1,hv1,hd1,⟨g2,t2,cs2,f2,p2,q2,hg2,ht2,hv2,hd2,⟨g3,t3,cs3,f3,p3,q3,hg3,ht3,hv3,hd3,_,_⟩,_⟩,_⟩,_⟩,_,_⟩:=h;constructor
 ·have hty:(prog.globals[g2]?).map (·.type)=some t2:=ht2
  have hg:prog.globalNamed "internal/strconv.uint64pow10" =some 4:=by kernel_rfl
  obtain rfl:=Option.some.inj (hg.symm.trans hg2);have ht:(prog.globals[4]?).map (·.type)=some 242:=by kernel_rfl
  obtain rfl:=Option.some.inj (ht.symm.trans ht2);unfold Tab Lib.TabIs;rw [hv2,← Lib.cells_of_tab (n:=20) (k:= .u64) (e:=99) (zs:=Lib.pow10Tab) (by kernel_rfl) (by kernel_rfl) (by kernel_rfl) (by kernel_rfl) hd2]
 ·have hty:(prog.globals[g3]?).map (·.type)=some t3:=ht3
  have hg:prog.globalNamed "algorist/modular.signs" =some 0:=by kernel_rfl
  obtain rfl:=Option.some.inj (hg.symm.trans hg3);have ht:(prog.globals[0]?).map (·.type)=some 151:=by kernel_rfl
  obtain rfl:=Option.some.inj (ht.symm.trans ht3)
  have hT:Lib.TabIs prog W "algorist/modular.signs" .i64 [0,1,0,-1,0,-1,0,1]:=by
   unfold Lib.TabIs;rw [hv3,← Lib.cells_of_tab (n:=8) (k:= .i64) (e:=3) (zs:= [0,1,0,-1,0,-1,0,1]) (by kernel_rfl) (by kernel_rfl) (by kernel_rfl) (by kernel_rfl) hd3]
  intro r hr;rw [hT.cell hg r hr];exact congrArg (fun z=>some (Value.int .i64 z)) ((show ∀ r,r<8→([0,1,0,-1,0,-1,0,1]:List Int).getD r 0=sg8 r by decide) r hr)
end Go.Proofs.YtknffgdbdadpcaaGreatDoor
namespace Go.Proofs.YtknffgdbdadpcaaGreatDoor
open Go Go.RowKit
open Go.Proofs.Tryz
def Lone {α:Type} (c:Nat) (J:α→World→Prop):Prop:= ∀ s A B,J s A→A.grownBy B (some c)→J s B
theorem lone_at {A B:World} {c k:Nat} {o:Obj} (hg:A.grownBy B (some c)) (hk:A.heap[k]? =some o) (hne:k≠c):B.heap[k]? =some o:=
 (hg.block k (Array.getElem?_eq_some_iff.1 hk).1 (fun e=>hne (by cases e;rfl))).trans hk
def SeqBox {α:Type} (F:Fence) (n:Nat) (P:Program) (g:Nat) (lb:Array Value) (encs:α→Array Value) (c:Nat) (S Sp:List α→Prop) (w:World):Prop:=
 ∀ (l:Nat) (J Jx:List α→World→Prop) (W:World),Below w.heap.size w W→Lone c J→Lone c Jx→
  (∀ pre x W1,J pre W1→Sp (pre++ [x])→YieldAt F (n-1) P l (encs x) W1 fun e W'=>
   (e= .returned (.bool true)∧J (pre++ [x]) W'∧W'.heap[c]? =W1.heap[c]?)∨(e= .returned (.bool false)∧Jx (pre++ [x]) W'))→
  J [] W→
  CallsIn F n P g (#[.func (.yield l) #[] #[]]++lb) W fun e W'=>(∃ v,e= .returned v)∧((∃ xs,S xs∧J xs W')∨(∃ pre,Sp pre∧Jx pre W'))
def jumpOf:Exit→Option (Option Code)
 | .normal=>some none
 | .ret=>some (some .ret)
 | .exit id=>some (some (.exit id))
 | .goto t=>some (some (.goto t))
 | .panic _=>none
 | .outgrown=>none
theorem roundPost_of {P:Program} {l:Nat} {R:Ending→World→Prop} {e:Exit} {j:Option Code} {a:Act} {w:World} (hj:jumpOf e=some j)
  (h:∃ v w',(Instr.endRound l j).run P w= .ok v w'∧R (.returned v) w'):roundPost P l R e a w:=by
 cases e <;> simp only [jumpOf,Option.some.injEq,reduceCtorEq] at hj <;> subst hj <;> exact h
def boxPost {α:Type} (B c:Nat) (I:List α→World→Prop) (Ix:Code→List α→World→Prop) (xs:List α) (W:World) (e:Exit) (_:Act) (W':World):Prop:=
 ∃ j,jumpOf e=some j∧KeepsFrom B W W'∧(match j with | none=>W'.heap[c]? =W.heap[c]? ∧I xs W' | some q=>Ix q xs W')
variable {F:Fence} {n:Nat} {P:Program}
theorem wpIn_rangeFunc_box {α:Type} {g:Operand} {ps:Array Tmp} {assign body:Code} {Q:Exit→Act→World→Prop} {a:Act} {w:World}
  (hro:F.round=none) (h1:1≤n) {gf:Nat} {lb:Array Value} (hg:a.eval g= .func (.func gf) #[] lb) (hFg:F.fn gf) (eg:∀ args w,(callFunc gf args).run P w= .ok (.enter gf args) w)
  {encs:α→Array Value} {c:Nat} {S Sp:List α→Prop} (hc:c<w.heap.size) (hseq:SeqBox F (n-1) P gf lb encs c S Sp w) (hps:∀ x,(encs x).size=ps.size)
  (I:List α→World→Prop) (Ix:Code→List α→World→Prop) (hI:OwnFrom w.heap.size I) (hIx:∀ q,OwnFrom w.heap.size (Ix q)) (hIc:Lone c I) (hIxc:∀ q,Lone c (Ix q)) (h0:I [] w) (a₁:α→Act)
  (hassign:∀ (l:Nat) (x:α) (W:World) (K:Act→World→Prop),K (a₁ x) W→
   assign.wpIn (F.inRound l) (n-1-1) P (Exit.then K (fun _ _ _=>False)) { tmps:=(ps.zip (encs x)).foldl (fun t (p,v)=>t.setIfInBounds p v) a.tmps,defers:= []} W)
  (hbody:∀ (l:Nat) (pre:List α) (x:α) (W:World),I pre W→Sp (pre++ [x])→body.wpIn (F.inRound l) (n-1-1) P (boxPost w.heap.size c I Ix (pre++ [x]) W) (a₁ x) W)
  (hdone:∀ (D:Nat) (xs:List α) (W:World),w.heap.size≤D→S xs→I xs W→W.heap[D]? =some (.deferred (some []))→Q .normal { a with defers:= { target:= .collected D,args:= #[]} ::a.defers} W)
  (hstop:∀ (D:Nat) (q:Code) (pre:List α) (W:World),w.heap.size≤D→Sp pre→Ix q pre W→W.heap[D]? =some (.deferred (some []))→q.wpIn F n P Q { a with defers:= { target:= .collected D,args:= #[]} ::a.defers} W):
  (Code.rangeFunc g ps assign body).wpIn F n P Q a w:=by
 refine wpIn_rangeFunc fun fn hfn=> ?_
 rw [hro];generalize hD:w.heap.size=D at hc hI hIx hbody hdone hstop;have hR:∃ R:LoopState→Option Code→Loop,R=fun st pe=> { state:=st,pending:=pe,fn,tmps:=a.tmps,params:=ps,assign,body,defers:=D} :=⟨_,rfl⟩
 obtain ⟨R,hR⟩:=hR;have hV:∃ V,V=(w.alloc (.deferred (some []))).alloc (.loop (R .ready none)):=⟨_,rfl⟩;obtain ⟨V,hV⟩:=hV
 have hVl:V.heap[D+1]? =some (.loop (R .ready none)):=by
  have:=World.alloc_heap_new (w.alloc (.deferred (some []))) (.loop (R .ready none));rw [World.size_alloc,hD] at this;rw [hV];exact this
 have hVd:V.heap[D]? =some (.deferred (some [])):=by
  rw [hV,← hD];exact (Below.heap_alloc _ _ _ (by simp)).trans (World.alloc_heap_new w _)
 have hVb:Below w.heap.size w V:=by
  rw [hV];exact ((Below.refl _ w).alloc (Nat.le_refl _) _).alloc (by simp) _
 have hVI:I [] V:=by rw [hV];exact hI.alloc _ (hI.alloc _ h0)
 have henter:(Instr.enterLoop fn a.tmps ps assign body none).run P w= .ok (D+1, [{ target:= .collected D,args:= #[]}]) V:=by
  rw [run_enterLoop_outer,hD,hV,hR]
 refine ⟨D+1, [{ target:= .collected D,args:= #[]}],V,{ target:= .fn (.func gf) lb,args:= #[.func (.yield (D+1)) #[] #[]]},V,gf,
  #[.func (.yield (D+1)) #[] #[]]++lb,V,henter,?_,?_,?_,fun _=>h1,?_⟩
 ·simp only [resolve,hg];simp [go_sem]
 ·intro f' hf';simp [Target.leads] at hf';subst hf';exact hFg
 ·simp [invoke,go_sem,eg]
 ·have hcl:D+1≠c:=by omega
  have hcd:D≠c:=by omega
  refine (hseq (D+1)
   (fun pre W=>I pre W∧W.heap[D+1]? =some (.loop (R .ready none))∧W.heap[D]? =some (.deferred (some [])))
   (fun pre W=> ∃ q,Ix q pre W∧W.heap[D+1]? =some (.loop (R .done (some q)))∧W.heap[D]? =some (.deferred (some [])))
   V hVb (fun s A B h hg=>⟨hIc s A B h.1 hg,lone_at hg h.2.1 hcl,lone_at hg h.2.2 hcd⟩)
   (fun s A B ⟨q,h,hl,hd⟩ hg=>⟨q,hIxc q s A B h hg,lone_at hg hl hcl,lone_at hg hd hcd⟩) ?_ ⟨hVI,hVl,hVd⟩).mono ?_
  ·rintro pre x W ⟨hi,hl,hd⟩ hlen;have hy:=run_yield (P:=P) (args:=encs x) hl (by rw [hR];exact hps x);rw [hR] at hy;refine ⟨fn,_,assign,body,hy,roundIn_of_wpIn hfn (hassign _ x W _ ⟨_,run_beginRound hl (by rw [hR]),?_⟩)⟩;have hlt:D+1<W.heap.size:=(Array.getElem?_eq_some_iff.1 hl).1;generalize hB:W.putObj (D+1) (.loop { R .ready none with state:= .busy})=B;have hBl:B.heap[D+1]? =some (.loop { R .ready none with state:= .busy}):=by rw [← hB];exact World.putObj_heap_same hlt
   have hBd:B.heap[D]? =some (.deferred (some [])):=by rw [← hB];exact (World.putObj_heap_other (by omega)).trans hd
   have hBc:B.heap[c]? =W.heap[c]? :=by rw [← hB];exact World.putObj_heap_other (by omega)
   have hBI:I pre B:=by rw [← hB];exact hI.putObj _ hi (by omega) hl rfl
   refine wpIn_mono (hbody _ pre x B hBI hlen) ?_;rintro e a3 C ⟨j,hj,hk,hp⟩;have hCl:=hk.same _ _ (by omega) hBl rfl;have hCd:=hk.same _ _ (by omega) hBd rfl;have hlt':D+1<C.heap.size:=(Array.getElem?_eq_some_iff.1 hCl).1;refine roundPost_of hj ⟨_,_,run_endRound j hCl,?_⟩;have hEl:=World.putObj_heap_same (o:= .loop { { R .ready none with state:= .busy} with state:=if j.isNone then .ready else .done,pending:=j}) hlt';have hEd:=(World.putObj_heap_other (w:=C) (o:= .loop { { R .ready none with state:= .busy} with state:=if j.isNone then .ready else .done,pending:=j}) (show D≠D+1 by omega)).trans hCd;cases j with
   | none=>
    refine .inl ⟨rfl,⟨hI.putObj _ hp.2 (by omega) hCl rfl,?_,hEd⟩,?_⟩
    ·rw [hEl,hR];rfl
    ·exact (World.putObj_heap_other (by omega)).trans (hp.1.trans hBc)
   | some q=>
    refine .inr ⟨rfl,q,(hIx q).putObj _ hp (by omega) hCl rfl,?_,hEd⟩;rw [hEl,hR];rfl
  ·rintro e W2 ⟨⟨v,rfl⟩,(⟨xs,hS,hi,hl,hd⟩ | ⟨pre,hSp,q,hi,hl,hd⟩)⟩
   ·have:=run_endLoop (P:=P) hl (by rw [hR];simp);rw [hR] at this;exact ⟨none,_,this,hdone _ xs _ (Nat.le_refl _) hS (hI.putObj _ hi (by omega) hl rfl) ((World.putObj_heap_other (by omega)).trans hd)⟩
   ·have:=run_endLoop (P:=P) hl (by rw [hR];simp);rw [hR] at this;exact ⟨some q,_,this,hstop _ q pre _ (Nat.le_refl _) hSp ((hIx q).putObj _ hi (by omega) hl rfl) ((World.putObj_heap_other (by omega)).trans hd)⟩
#print axioms wpIn_rangeFunc_box
end Go.Proofs.YtknffgdbdadpcaaGreatDoor
namespace Go.Proofs.YtknffgdbdadpcaaGreatDoor
open Go Go.RowKit
open Go.Proofs.Tryz
def Pr (p:Nat):Prop:=2≤p∧ ∀ d,d∣p→d=1∨d=p
def vlF:Nat→Nat→Nat→Nat
 | 0,_,_=>0
 | f+1,p,n=>if n%p=0 then vlF f p (n/p)+1 else 0
def vl (p n:Nat):Nat:=vlF n p n
theorem vlF_spec:∀ (f p n:Nat),2≤p→0<n→n≤f→p^vlF f p n∣n∧ ¬ p∣n/p^vlF f p n:=by
 intro f
 induction f with
 | zero=>intros;omega
 | succ f ih=>
  intro p n hp hn hf;unfold vlF;by_cases h:n%p=0
  ·rw [if_pos h];have hd:p∣n:=Nat.dvd_of_mod_eq_zero h;obtain ⟨m,rfl⟩:=hd;have hm:0<m:=Nat.pos_of_ne_zero fun k=>by subst k;simp at hn
   have hlt:m<p*m:=by
    have:=Nat.mul_le_mul_right m hp;omega
   rw [Nat.mul_div_cancel_left m (by omega)];obtain ⟨h1,h2⟩:=ih p m hp hm (by omega);refine ⟨?_,?_⟩
   ·rw [Nat.pow_succ,Nat.mul_comm];exact Nat.mul_dvd_mul_left p h1
   ·rw [Nat.pow_succ,Nat.mul_comm (p^_),Nat.mul_div_mul_left _ _ (by omega)];exact h2
  ·rw [if_neg h];refine ⟨by simp,?_⟩;rw [Nat.pow_zero,Nat.div_one];exact fun k=>h (Nat.mod_eq_zero_of_dvd k)
theorem vl_spec {p n:Nat} (hp:2≤p) (hn:0<n):∃ m,n=p^vl p n*m∧ ¬ p∣m∧0<m:=by
 obtain ⟨h1,h2⟩:=vlF_spec n p n hp hn (Nat.le_refl n);refine ⟨n/p^vl p n,(Nat.mul_div_cancel' h1).symm,h2,?_⟩;exact Nat.div_pos (Nat.le_of_dvd hn h1) (Nat.pow_pos (by omega))
theorem vl_uniq {p n k m:Nat} (hp:2≤p) (hm:0<m) (e:n=p^k*m) (h:¬ p∣m):vl p n=k:=by
 have hn:0<n:=by rw [e];exact Nat.mul_pos (Nat.pow_pos (by omega)) hm
 obtain ⟨m',e',h',_⟩:=vl_spec hp hn;generalize vl p n=k' at*;rcases Nat.lt_trichotomy k' k with g | g | g
 ·obtain ⟨j,rfl⟩:∃ j,k=k'+1+j:=⟨k-k'-1,by omega⟩;rw [e,Nat.pow_add,Nat.pow_succ,Nat.mul_assoc,Nat.mul_assoc] at e';have:=Nat.eq_of_mul_eq_mul_left (Nat.pow_pos (by omega)) e';exact absurd ⟨_,this.symm⟩ h'
 ·exact g
 ·obtain ⟨j,rfl⟩:∃ j,k'=k+1+j:=⟨k'-k-1,by omega⟩;rw [e,Nat.pow_add,Nat.pow_succ,Nat.mul_assoc,Nat.mul_assoc] at e';have:=Nat.eq_of_mul_eq_mul_left (Nat.pow_pos (by omega)) e';exact absurd ⟨_,this⟩ h
theorem Pr.dvd_mul {p a b:Nat} (hp:Pr p) (h:p∣a*b):p∣a∨p∣b:=by
 rcases hp.2 _ (Nat.gcd_dvd_left p a) with g | g
 ·exact .inr ((Nat.Coprime.dvd_of_dvd_mul_left g) h)
 ·exact .inl (g▸Nat.gcd_dvd_right p a)
theorem vl_mul {p a b:Nat} (hp:Pr p) (ha:0<a) (hb:0<b):vl p (a*b)=vl p a+vl p b:=by
 obtain ⟨m,e1,h1,m1⟩:=vl_spec hp.1 ha;obtain ⟨n,e2,h2,m2⟩:=vl_spec hp.1 hb;refine vl_uniq (m:=m*n) hp.1 (Nat.mul_pos m1 m2) ?_ (fun h=>(hp.dvd_mul h).elim h1 h2)
 conv=>lhs;rw [e1,e2]
 rw [Nat.pow_add,Nat.mul_assoc,Nat.mul_assoc]
 congr 1
 rw [← Nat.mul_assoc,Nat.mul_comm m,Nat.mul_assoc]
theorem vl_zero {p n:Nat} (hp:2≤p) (hn:0<n) (h:¬ p∣n):vl p n=0:=vl_uniq (m:=n) hp hn (by simp) h
theorem vl_pos {p n:Nat} (hp:2≤p) (hn:0<n) (h:p∣n):0<vl p n:=by
 refine Nat.pos_of_ne_zero fun k=> ?_
 obtain ⟨m,e,g,_⟩:=vl_spec hp hn;rw [k,Nat.pow_zero,Nat.one_mul] at e;exact g (e▸h)
theorem vl_self {p:Nat} (hp:2≤p):vl p p=1:=vl_uniq (m:=1) hp dcx (by simp) (fun h=>by have:=Nat.le_of_dvd dcx h;omega)
theorem vl_pow {p q:Nat} (hp:Pr p) (hq:0<q):∀ k,vl p (q^k)=k*vl p q
 | 0=>by rw [Nat.pow_zero,Nat.zero_mul];exact vl_zero hp.1 dcx (fun h=>by have:=Nat.le_of_dvd dcx h;have:=hp.1;omega)
 | k+1=>by rw [Nat.pow_succ,vl_mul hp (Nat.pow_pos hq) hq,vl_pow hp hq k,Nat.add_mul,Nat.one_mul]
def pw:Nat→Nat→Nat→List (Nat×Nat)
 | 0,_,_=> []
 | f+1,p,n=>if n≤1 then [] else
  let q:=if n<p*p then n else p
  let k:=vl q n
  (if 0<k then [(q,k)] else [])++pw f (q+1) (n/q^k)
def pwP (g:Nat→Nat→Int) (l:List (Nat×Nat)):Int:=l.foldl (fun o x=>o*g x.1 x.2) 1
theorem pwP_mul (g:Nat→Nat→Int):∀ (l:List (Nat×Nat)) (o:Int),l.foldl (fun o x=>o*g x.1 x.2) o=o*pwP g l
 | [],o=>by simp [pwP]
 | x ::l,o=>by
  unfold pwP;rw [List.foldl_cons,List.foldl_cons,pwP_mul g l,pwP_mul g l,Int.one_mul,Int.mul_assoc]
theorem pwP_cons (g:Nat→Nat→Int) (x:Nat×Nat) (l:List (Nat×Nat)):pwP g (x ::l)=g x.1 x.2*pwP g l:=by
 conv=>lhs;unfold pwP
 rw [List.foldl_cons,Int.one_mul,pwP_mul]
def NoBelow (p n:Nat):Prop:= ∀ d,2≤d→d<p→ ¬ d∣n
theorem least_prime {p n:Nat} (hp:2≤p) (h:NoBelow p n) (hd:p∣n):Pr p:=by
 refine ⟨hp,fun d hdp=> ?_⟩;by_cases h1:d=1
 ·exact .inl h1
 ·right;have hle:=Nat.le_of_dvd (by omega) hdp;have h0:d≠0:=fun k=>by subst k;have:=Nat.eq_zero_of_zero_dvd hdp;omega
  rcases Nat.lt_or_ge d p with k | k
  ·exact absurd (Nat.dvd_trans hdp hd) (h d (by omega) k)
  ·omega
theorem rest_prime {p n:Nat} (hn:2≤n) (h:NoBelow p n) (hs:n<p*p):Pr n:=by
 refine ⟨hn,fun d ⟨e,he⟩=> ?_⟩;by_cases h1:d=1
 ·exact .inl h1
 ·right;have d0:d≠0:=fun k=>by subst k;simp at he;omega
  have e0:e≠0:=fun k=>by subst k;simp at he;omega
  rcases Nat.lt_or_ge d p with k | k
  ·exact absurd ⟨e,he⟩ (h d (by omega) k)
  ·by_cases h2:e=1
   ·rw [he,h2,Nat.mul_one]
   ·rcases Nat.lt_or_ge e p with k2 | k2
    ·exact absurd ⟨d,by rw [he,Nat.mul_comm]⟩ (h e (by omega) k2)
    ·have:=Nat.mul_le_mul k k2;omega
theorem pw_mem:∀ (f p n:Nat),2≤p→0<n→NoBelow p n→ ∀ x∈pw f p n,Pr x.1∧x.2=vl x.1 n∧0<x.2∧p≤x.1:=by
 intro f
 induction f with
 | zero=>intro p n _ _ _ x hx;simp [pw] at hx
 | succ f ih=>
  intro p n hp hn h x hx;unfold pw at hx;by_cases h1:n≤1
  ·rw [if_pos h1] at hx;simp at hx
  ·rw [if_neg h1] at hx;dsimp only at hx;by_cases hs:n<p*p
   ·rw [if_pos hs] at hx;have hq:=rest_prime (by omega) h hs;have hv:vl n n=1:=vl_self (by omega);rw [hv,if_pos dcx,Nat.pow_one,Nat.div_self hn] at hx;have hz:pw f (n+1) 1= []:=by cases f <;> simp [pw]
    rw [hz,List.append_nil,List.mem_singleton] at hx;subst hx;refine ⟨hq,hv.symm,Nat.one_pos,?_⟩;exact Nat.not_lt.1 fun k=>h n (by omega) k (Nat.dvd_refl n)
   ·rw [if_neg hs] at hx;obtain ⟨m,e,hm,m0⟩:=vl_spec hp hn;have hpp:0<p^vl p n:=Nat.pow_pos (by omega)
    have hdiv:n/p^vl p n=m:=by
     conv=>lhs;lhs;rw [e]
     exact Nat.mul_div_cancel_left m hpp
    have hmd:m∣n:=⟨p^vl p n,by rw [Nat.mul_comm];exact e⟩
    have hnb:NoBelow (p+1) m:=fun d hd hlt k=>by
     rcases Nat.lt_or_ge d p with k2 | k2
     ·exact h d hd k2 (Nat.dvd_trans k hmd)
     ·obtain rfl:d=p:=by omega
      exact hm k
    rw [hdiv,List.mem_append] at hx;rcases hx with hx | hx
    ·by_cases hk:0<vl p n
     ·rw [if_pos hk,List.mem_singleton] at hx;subst hx
      have hpn:p∣n:=by
       obtain ⟨j,hj⟩:∃ j,vl p n=j+1:=⟨vl p n-1,by omega⟩;rw [hj,Nat.pow_succ,Nat.mul_comm (p^j),Nat.mul_assoc] at e;exact ⟨_,e⟩
      exact ⟨least_prime hp h hpn,rfl,hk,Nat.le_refl p⟩
     ·rw [if_neg hk] at hx;simp at hx
    ·obtain ⟨g1,g2,g3,g4⟩:=ih (p+1) m (by omega) m0 hnb x hx;refine ⟨g1,?_,g3,by omega⟩;rw [g2]
     conv=>rhs;rw [e]
     have hpr:¬ p∣x.1:=fun k=>(g1.2 p k).elim (by omega) (by omega)
     rw [vl_mul g1 hpp m0,vl_pow g1 (by omega),vl_zero (n:=p) g1.1 (by omega) (fun k=>by have:=Nat.le_of_dvd (by omega) k;omega),Nat.mul_zero,Nat.zero_add]
theorem pw_has:∀ (f p n:Nat),2≤p→0<n→n<p+f→NoBelow p n→ ∀ r,Pr r→r∣n→(r,vl r n)∈pw f p n:=by
 intro f
 induction f with
 | zero=>
  intro p n hp hn hf h r hr hd;have:=Nat.le_of_dvd hn hd;exact absurd hd (h r hr.1 (by omega))
 | succ f ih=>
  intro p n hp hn hf h r hr hd;have hrn:=Nat.le_of_dvd hn hd;have hr2:=hr.1;unfold pw;rw [if_neg (by omega)];dsimp only;by_cases hs:n<p*p
  ·rw [if_pos hs];have hq:=rest_prime (by omega) h hs;have hv:vl n n=1:=vl_self (by omega);have e:r=n:=(hq.2 r hd).elim (fun k=>by omega) id;subst e;rw [hv,if_pos dcx];simp
  ·rw [if_neg hs];obtain ⟨m,e,hm,m0⟩:=vl_spec hp hn;have hpp:0<p^vl p n:=Nat.pow_pos (by omega)
   have hdiv:n/p^vl p n=m:=by
    conv=>lhs;lhs;rw [e]
    exact Nat.mul_div_cancel_left m hpp
   have hmd:m∣n:=⟨p^vl p n,by rw [Nat.mul_comm];exact e⟩;have hmn:m≤n:=Nat.le_of_dvd hn hmd
   have hnb:NoBelow (p+1) m:=fun d hd hlt k=>by
    rcases Nat.lt_or_ge d p with k2 | k2
    ·exact h d hd k2 (Nat.dvd_trans k hmd)
    ·obtain rfl:d=p:=by omega
     exact hm k
   rw [hdiv,List.mem_append];by_cases hrp:r=p
   ·subst hrp;left;rw [if_pos (vl_pos hr2 hn hd)];simp
   ·right
    have hnp:¬ r∣p:=fun k=>by
     have hle:=Nat.le_of_dvd (by omega) k;exact h r hr2 (by omega) hd
    have hv:vl r n=vl r m:=by
     conv=>lhs;rw [e]
     rw [vl_mul hr hpp m0,vl_pow hr (by omega),vl_zero hr2 (by omega) hnp,Nat.mul_zero,Nat.zero_add]
    have hdm:r∣m:=by
     refine Classical.byContradiction fun k=> ?_
     have h1:=vl_pos hr2 hn hd;rw [hv,vl_zero hr2 m0 k] at h1;omega
    rw [hv];exact ih (p+1) m (by omega) m0 (by omega) hnb r hr hdm
theorem noBelow2 (n:Nat):NoBelow 2 n:=fun d h1 h2=>by omega
def lkP (g:Nat→Nat→Int) (r:Nat):List (Nat×Nat)→Int
 | []=>1
 | x ::l=>if x.1=r then g r x.2 else lkP g r l
theorem lkP_all {g:Nat→Nat→Int} {r v:Nat} (hv:g r v=1∨True):∀ (l:List (Nat×Nat)),(∀ x∈l,x.1=r→x.2=v)→lkP g r l=if (∃ x∈l,x.1=r) then g r v else 1
 | [],_=>by simp [lkP]
 | x ::l,h=>by
  unfold lkP;by_cases e:x.1=r
  ·rw [if_pos e,if_pos ⟨x,by simp,e⟩,h x (by simp) e]
  ·rw [if_neg e,lkP_all hv l (fun y hy=>h y (by simp [hy]))]
   congr 1
   simp [e]
theorem lkP_pw {g:Nat→Nat→Int} (g0:∀ p,g p 0=1) {r n:Nat} (hr:Pr r) (hn:0<n):lkP g r (pw n 2 n)=g r (vl r n):=by
 have hm:=pw_mem n 2 n dcx hn (noBelow2 n);rw [lkP_all (v:=vl r n) (.inr trivial) _ (fun x hx e=>by have:=(hm x hx).2.1;rw [e] at this;exact this)];by_cases hd:r∣n
 ·rw [if_pos ⟨_,pw_has n 2 n dcx hn (by omega) (noBelow2 n) r hr hd,rfl⟩]
 ·have h0:vl r n=0:=vl_zero hr.1 hn hd;rw [h0,g0]
  split <;> rfl
def totP (g:Nat→Nat→Int) (n:Nat):Int:=pwP g (pw n 2 n)
def locg (ch:Nat→Int) (p k:Nat):Int:=if ch p=0 then 1 else if ch p=1 then (k:Int)+1 else 1-(k:Int)%2
theorem locg_0 (ch:Nat→Int) (p:Nat):locg ch p 0=1:=by unfold locg;by_cases h:ch p=0 <;> by_cases h1:ch p=1 <;> simp [h,h1]
theorem locg_nonneg (ch:Nat→Int) (p k:Nat):0≤locg ch p k:=by
 unfold locg
 split
 ·decide
 ·split <;> omega
theorem locg_le (ch:Nat→Int) (p k:Nat):locg ch p k≤(k:Int)+1:=by
 unfold locg
 split
 ·omega
 ·split <;> omega
theorem Qp_le (ch:Nat→Int) {n:Nat} (hn:0<n):totP (locg ch) n≤n:=by
 suffices h:∀ (f p n:Nat),2≤p→0<n→NoBelow p n→pwP (locg ch) (pw f p n)≤n∧0≤pwP (locg ch) (pw f p n) from (h n 2 n dcx hn (noBelow2 n)).1
 have hk:∀ p k:Nat,2≤p→locg ch p k≤((p^k:Nat):Int):=fun p k hp=>by
  have h1:=locg_le ch p k;have h2:k<2^k:=Nat.lt_two_pow_self;have h3:2^k≤p^k:=Nat.pow_le_pow_left hp k;omega
 intro f
 induction f with
 | zero=>intro p n _ hn _;simp only [pw,pwP,List.foldl_nil];omega
 | succ f ih=>
  intro p n hp hn h;unfold pw;by_cases h1:n≤1
  ·rw [if_pos h1];simp only [pwP,List.foldl_nil];omega
  ·rw [if_neg h1];dsimp only;by_cases hs:n<p*p
   ·rw [if_pos hs];have hv:vl n n=1:=vl_self (by omega);have hz:pw f (n+1) 1= []:=by cases f <;> simp [pw]
    rw [hv,if_pos dcx,Nat.pow_one,Nat.div_self hn,hz,List.append_nil,pwP_cons];have h2:=hk n 1 (by omega);have h3:=locg_nonneg ch n 1;simp only [pwP,List.foldl_nil,Int.mul_one];rw [Nat.pow_one] at h2;exact ⟨h2,h3⟩
   ·rw [if_neg hs];obtain ⟨m,e,hm,m0⟩:=vl_spec hp hn;have hpp:0<p^vl p n:=Nat.pow_pos (by omega)
    have hdiv:n/p^vl p n=m:=by
     conv=>lhs;lhs;rw [e]
     exact Nat.mul_div_cancel_left m hpp
    have hmd:m∣n:=⟨p^vl p n,by rw [Nat.mul_comm];exact e⟩
    have hnb:NoBelow (p+1) m:=fun d hd hlt k=>by
     rcases Nat.lt_or_ge d p with k2 | k2
     ·exact h d hd k2 (Nat.dvd_trans k hmd)
     ·obtain rfl:d=p:=by omega
      exact hm k
    rw [hdiv];obtain ⟨i1,i2⟩:=ih (p+1) m (by omega) m0 hnb;by_cases hk0:0<vl p n
    ·rw [if_pos hk0];show pwP _ ((p,vl p n) ::pw f (p+1) m)≤_∧0≤pwP _ ((p,vl p n) ::pw f (p+1) m);rw [pwP_cons];have h2:=hk p (vl p n) hp;have h3:=locg_nonneg ch p (vl p n);refine ⟨?_,Int.mul_nonneg h3 i2⟩;refine Int.le_trans (Int.mul_le_mul h2 i1 i2 (by omega)) ?_;rw [← Int.natCast_mul,← e];exact Int.le_refl _
    ·rw [if_neg hk0,List.nil_append];have:=Nat.le_of_dvd hn hmd;omega
end Go.Proofs.YtknffgdbdadpcaaGreatDoor
