/-
 The size of a discriminant of a description, and the discriminant: Size of the reference of package form, disc of the laws of package density.
 disc of the laws of package density: the discriminant of a description. (Printed by wip/gen/den9.py.)
 A range over an iterator that keeps a state of its own in a box (density.powers divides the n that it has captured): the contract of such an
 iterator, and the law of the statement that ranges over it. Over the kit's lower laws wpIn_rangeFunc and roundIn_of_wpIn.
-/
import Derived.Test.YtknffgdbdadpcaaGreatDoorDen7
import Derived.RangeFuncMany
import Derived.RangeFuncWrites
import Derived.Below
namespace Go.Proofs.YtknffgdbdadpcaaGreatDoor
open Go Go.RowKit
def dsz (d:Nat):Nat:=if (3+d%2000)%4=1 then 3+d%2000+2 else if (3+d%2000)%4=2 then 3+d%2000+1 else 3+d%2000
theorem dsz_ok (d:Nat):3≤dsz d∧dsz d≤2003∧(dsz d%4=0∨dsz d%4=3):=by
 unfold dsz
 split
 ·omega
 ·split <;> omega
theorem cell_newAt (w:World) (g:Nat) (hg:w.heap.size=g) (cs:Array Value) (T i:Nat) (v:Value) (h:cs[i]? =some v):World.cell? (w.alloc (.cells cs T)) ⟨g,i,none⟩=some v:=by subst hg;simp [h]
set_option maxRecDepth 100000 in
set_option maxHeartbeats 4000000 in
theorem Size_f (w:World) (d:Nat) (v1 v2 v3 v4 v5 v6 v7 v8:Value) (hd:d<65536):Calls Tryz.prog 37 #[.agg #[.int .u16 (d:Int),v1,v2,v3,v4,v5,v6,v7,v8]] w (Ret w (IsV (.int .i64 ((dsz d:Nat):Int)))):=by
 obtain ⟨W,hW,hc,E⟩:∃ W,W=w.alloc (.cells #[.int .u16 (d:Int),v1,v2,v3,v4,v5,v6,v7,v8] 26)∧World.cell? W ⟨w.heap.size,0,none⟩=some (.int .u16 (d:Int))∧Ext w W:=⟨_,rfl,cell_newAt _ _ rfl _ _ _ _ rfl,(Ext.refl _).alloc _⟩;obtain ⟨a,ha⟩:∃ a,d%2000=a:=⟨_,rfl⟩;obtain ⟨b0,hb0⟩:∃ b,3+a=b:=⟨_,rfl⟩;obtain ⟨T,hT⟩:∃ t,dsz d=t:=⟨_,rfl⟩;have hTT:T=if b0%4=1 then b0+2 else if b0%4=2 then b0+1 else b0:=by rw [← hT];unfold dsz;rw [ha,hb0]
 have hbT:b0≤T∧T≤b0+2∧(T%4=0∨T%4=3)∧ ∀ x,b0≤x→x<T→(x%4=1∨x%4=2):=by
  rw [hTT];by_cases h1:b0%4=1
  ·rw [if_pos h1];exact ⟨by omega,by omega,by omega,fun x _ _=>by omega⟩
  ·rw [if_neg h1];by_cases h2:b0%4=2
   ·rw [if_pos h2];exact ⟨by omega,by omega,by omega,fun x _ _=>by omega⟩
   ·rw [if_neg h2];exact ⟨by omega,by omega,by omega,fun x _ _=>by omega⟩
 rw [hT];have HB:=hid (And.intro hbT (show b0≤2002 by omega));have hx1:(d:Int).tmod 2000=(a:Int):=by rw [Int.tmod_eq_emod_of_nonneg (by omega)];omega
 have hx2:(d:Int)%2000=(a:Int):=by omega
 have hx3:IntKind.u16.wrap (a:Int)=(a:Int):=by rw [IntKind.wrap_u16];omega
 have hx4:IntKind.i64.wrap (a:Int)=(a:Int):=by simp only [IntKind.wrap_i64];omega
 have hx5:IntKind.i64.wrap (3+(a:Int))=(b0:Int):=by simp only [IntKind.wrap_i64];omega
 have EH:=hid E;clear ha hb0 hT hTT hbT hd E;go_enter Tryz.func37,Tryz.ntmps37;go_upto_region 1 with (fail);rw [← hW];clear hW;go_wp2_with fail;clear hx1 hx2 hx3 hx4 hx5 hc
 go_loopg [3] (T-b0) (fun gk v3 wr=> ∃ b:Nat,v3= .int .i64 (b:Int)∧b+gk=T∧b0≤b∧Hid (Ext w wr))
 case atStart=>exact ⟨b0,rfl,by have:=HB.out.1.1;omega,Nat.le_refl _,EH⟩
 case round=>
  obtain ⟨b,rfl,hg,hb,E2⟩:=hrel;obtain ⟨⟨h1,h2,h3,h4⟩,h5⟩:=HB.out;have hbb:b≤2004:=by omega
  obtain ⟨r,hr⟩:∃ r,b%4=r:=⟨_,rfl⟩;have hx1:(b:Int).tmod 4=(r:Int):=by rw [Int.tmod_eq_emod_of_nonneg (by omega)];omega
  have hx2:(b:Int)%4=(r:Int):=by omega
  rcases Nat.eq_zero_or_pos gk with hg0 | hg0
  ·obtain rfl:b=T:=by omega
   have hr4:r=0∨r=3:=by omega
   clear h1 h2 h3 h4 h5 hr hg hb hg0 hbb;rcases hr4 with rfl | rfl
   ·go_wp2_with fail;exact bodyPost_ret (v:= .int .i64 (b:Int)) (by simp [results,Tryz.results37,go_sem]) rfl ⟨_,rfl,E2.out,rfl⟩
   ·go_wp2_with fail;exact bodyPost_ret (v:= .int .i64 (b:Int)) (by simp [results,Tryz.results37,go_sem]) rfl ⟨_,rfl,E2.out,rfl⟩
  ·have hr4:=h4 b hb (by omega);have hx3:IntKind.i64.wrap ((b:Int)+1)=(b:Int)+1:=by simp only [IntKind.wrap_i64];omega
   have HG:=hid (And.intro hg (And.intro hb hg0));rw [hr] at hr4;clear h1 h2 h3 h4 h5 hr hg hb hg0 hbb;rcases hr4 with rfl | rfl
   ·go_wp2_with fail
    go_roundg (gk-1)
    case measure=>have:=HG.out;omega
    case rel=>exact ⟨b+1,by rw [Int.natCast_add];rfl,by have:=HG.out;omega,by have:=HG.out;omega,E2⟩
   ·go_wp2_with fail
    go_roundg (gk-1)
    case measure=>have:=HG.out;omega
    case rel=>exact ⟨b+1,by rw [Int.natCast_add];rfl,by have:=HG.out;omega,by have:=HG.out;omega,E2⟩
end Go.Proofs.YtknffgdbdadpcaaGreatDoor
namespace Go.Proofs.YtknffgdbdadpcaaGreatDoor
open Go Go.RowKit
section
variable {ops:Array Oper} {Q:Exit→Act→World→Prop} {ds:List (Option Tmp)} {a0:Act} {w0:World} {L:List (Value→World→Prop)} {boxes:List Nat} {i:Nat} {o:Oper}
theorem ldRaw {b:Addr} {r:Value} {x:Operand} (hr:∀ w,Ext w0 w→(Instr.loadAt 26 (.pointer (some b))).run Tryz.prog w= .ok r w) (hx:Od ops ds a0 w0 L i x (IsV (.pointer (some b)))) (ho:o.op= .load 26 x:=by rfl) (hi:L.getD i (fun _ _=>True)=IsV r:=by kernel_rfl) (hb:boxes.contains i=false:=by kernel_rfl):Ok Tryz.prog ops Q ds a0 w0 L boxes i o:=
 Ok.of hb fun v' a w hE hd hf=>by
  have h:a.eval x=_:=hx.out v' a w hE hd hf;exact ⟨_,ld_run ho h (hr w hE),by rw [hi];exact rfl⟩
end
theorem raw_run {w0:World} {g:Nat} {d:Nat} {v1 v2 v3 v4 v5 v6 v7 v8:Value} (h:World.cell? w0 ⟨g,0,none⟩=some (.int .u16 (d:Int))∧World.cell? w0 ⟨g,1,none⟩=some v1∧World.cell? w0 ⟨g,2,none⟩=some v2∧World.cell? w0 ⟨g,3,none⟩=some v3∧World.cell? w0 ⟨g,4,none⟩=some v4∧World.cell? w0 ⟨g,5,none⟩=some v5∧World.cell? w0 ⟨g,6,none⟩=some v6∧World.cell? w0 ⟨g,7,none⟩=some v7∧World.cell? w0 ⟨g,8,none⟩=some v8) (w:World) (e:Ext w0 w):
  (Instr.loadAt 26 (.pointer (some ⟨g,0,none⟩))).run Tryz.prog w= .ok (.agg #[.int .u16 (d:Int),v1,v2,v3,v4,v5,v6,v7,v8]) w:=by
 obtain ⟨h0,h1,h2,h3,h4,h5,h6,h7,h8⟩:=h;have h0:=e.cell h0;have h1:=e.cell h1;have h2:=e.cell h2;have h3:=e.cell h3;have h4:=e.cell h4;have h5:=e.cell h5;have h6:=e.cell h6;have h7:=e.cell h7;have h8:=e.cell h8
 go_simp
set_option maxRecDepth 100000 in
set_option maxHeartbeats 4000000 in
theorem disc_f (w:World) (d:Nat) (v1 v2 v3 v4 v5 v6 v7 v8:Value) (hd:d<65536):Calls Tryz.prog 8 #[.agg #[.int .u16 (d:Int),v1,v2,v3,v4,v5,v6,v7,v8]] w (Ret w (IsI 2 (-((dsz d:Nat):Int)))):=by
 obtain ⟨T,hT⟩:∃ t,dsz d=t:=⟨_,rfl⟩;have HD:=hid hd;have HT:=hid hT;have hb:=dsz_ok d;rw [hT] at hb;have HW:=hid (show IntKind.i64.wrap (-(T:Int))= -(T:Int) by simp only [IntKind.wrap_i64];omega);have HO:=hid (show -9223372036854775808≤ -(T:Int)∧ -(T:Int)≤9223372036854775807 by omega);clear hd hT hb;obtain ⟨W,hW,S,cB0,cB1,cB2,cB3,cB4,cB5,cB6,cB7,cB8⟩:∃ W,W=(w.alloc (.cells #[.int .u16 (d:Int),v1,v2,v3,v4,v5,v6,v7,v8] 26)).alloc (.cells #[.bool false,.slice none 0 0] 33)∧Sto w W [((w.heap.size+1,0),IsI 0 0)]∧World.cell? W ⟨w.heap.size,0,none⟩=some (.int .u16 (d:Int))∧World.cell? W ⟨w.heap.size,1,none⟩=some (v1)∧World.cell? W ⟨w.heap.size,2,none⟩=some (v2)∧World.cell? W ⟨w.heap.size,3,none⟩=some (v3)∧World.cell? W ⟨w.heap.size,4,none⟩=some (v4)∧World.cell? W ⟨w.heap.size,5,none⟩=some (v5)∧World.cell? W ⟨w.heap.size,6,none⟩=some (v6)∧World.cell? W ⟨w.heap.size,7,none⟩=some (v7)∧World.cell? W ⟨w.heap.size,8,none⟩=some (v8):=⟨_,rfl,(((Sto.start w).mono ((Ext.refl _).alloc _)).new1 (w.heap.size+1) (by simp) false none 0 0 33 (IsI 0 0) (IsI.gstb _ _) (IsI.nil _ _)),((Ext.refl _).alloc _).cell (cell_newAt _ _ (by simp) _ _ _ _ rfl),((Ext.refl _).alloc _).cell (cell_newAt _ _ (by simp) _ _ _ _ rfl),((Ext.refl _).alloc _).cell (cell_newAt _ _ (by simp) _ _ _ _ rfl),((Ext.refl _).alloc _).cell (cell_newAt _ _ (by simp) _ _ _ _ rfl),((Ext.refl _).alloc _).cell (cell_newAt _ _ (by simp) _ _ _ _ rfl),((Ext.refl _).alloc _).cell (cell_newAt _ _ (by simp) _ _ _ _ rfl),((Ext.refl _).alloc _).cell (cell_newAt _ _ (by simp) _ _ _ _ rfl),((Ext.refl _).alloc _).cell (cell_newAt _ _ (by simp) _ _ _ _ rfl),((Ext.refl _).alloc _).cell (cell_newAt _ _ (by simp) _ _ _ _ rfl)⟩;go_enter Tryz.func8,Tryz.ntmps8;go_upto_region 1 with (fail);rw [← hW];clear hW;refine rgs 4 [some 3,some 4,some 5,some 6] [IsV (.agg #[.int .u16 (d:Int),v1,v2,v3,v4,v5,v6,v7,v8]),IsV (.int .i64 (T:Int)),IsV (.int .i64 (-(T:Int))),IsI 2 (-(T:Int))] [] ?_ ?_
 ·refine Rc (ldRaw (raw_run ⟨cB0,cB1,cB2,cB3,cB4,cB5,cB6,cB7,cB8⟩) (Od.lit 1)) ?_;refine Rc (cl1 (en Tryz.func37) (Od.lc (Φ:=IsV (.agg #[.int .u16 (d:Int),v1,v2,v3,v4,v5,v6,v7,v8])) 0 3) (fun x0 w' hE d0=>by { obtain rfl:x0= .agg #[.int .u16 (d:Int),v1,v2,v3,v4,v5,v6,v7,v8]:=d0;exact (by have hh:=Size_f w' d v1 v2 v3 v4 v5 v6 v7 v8 HD.out;rw [HT.out] at hh;exact hh)})) ?_;refine Rc (un (r:= .int .i64 (-(T:Int))) (Od.loc 1 4) (hr:=fun w=>by have hx9:=HW.out;go_simp)) ?_;refine Rc (cl1 (en Tryz.func22) (Od.lc (Φ:=IsV (.int .i64 (-(T:Int)))) 2 5) (fun x0 w' hE d0=>by { obtain rfl:x0= .int .i64 (-(T:Int)):=d0;exact ROf_f _ (-(T:Int)) HO.out.1 HO.out.2})) ?_;exact RgAll.nil
 intro v W1 e1 hΦ _;replace S:=S.mono e1;have h6:=hΦ 3 (by decide);simp only [layL,Act.put,uAx,u0x,u1x,Nat.reduceAdd];clear hΦ e1
 try simp only [List.drop_succ_cons,List.drop_zero]
 (with_reducible refine stL ?_ (by rfl));intro KK hKK;refine stI S 0 (w.heap.size+1) 0 h6 st_Int (fun W2 S2 G2=>hKK _ _ ?_) rfl
 replace S:=S2;clear S2 G2 hKK KK h6;simp only [u0x] at S;refine wpList_nil ?_;go_wp2_with fail;obtain ⟨s90x,a90x,n90x,c90x,b90x,h90x⟩:=S.at 0 (w.heap.size+1) 0 (IsI 2 (-(T:Int))) rfl;have L90xa:World.cell? W2 ⟨w.heap.size+1,0,none⟩=some (.bool s90x):=b90x.c0;have L90xb:World.cell? W2 ⟨w.heap.size+1,1,none⟩=some (.slice a90x n90x c90x):=b90x.c1;exact bodyPost_ret (v:= .agg #[.bool s90x,.slice a90x n90x c90x]) (by simp [results,Tryz.results8,go_sem,L90xa,L90xb]) rfl (⟨_,rfl,S.ext,HT.out▸h90x⟩)
end Go.Proofs.YtknffgdbdadpcaaGreatDoor
namespace Go.Proofs.YtknffgdbdadpcaaGreatDoor
open Go Go.RowKit
def Lone {α:Type} (c:Nat) (J:α→World→Prop):Prop:= ∀ s A B,J s A→A.grownBy B (some c)→J s B
theorem lone_at {A B:World} {c k:Nat} {o:Obj} (hg:A.grownBy B (some c)) (hk:A.heap[k]? =some o) (hne:k≠c):B.heap[k]? =some o:=
 (hg.block k (Array.getElem?_eq_some_iff.1 hk).1 (fun e=>hne (by cases e;rfl))).trans hk
def SeqBox {α:Type} (F:Fence) (n:Nat) (P:Program) (g:Nat) (lb:Array Value) (encs:α→Array Value) (c:Nat) (S Sp:List α→Prop) (w:World):Prop:=
 ∀ (l:Nat) (J Jx:List α→World→Prop) (W:World),Below w.heap.size w W→Lone c J→Lone c Jx→
  (∀ pre x W1,J pre W1→Sp (pre++ [x])→YieldAt F (n-1) P l (encs x) W1 fun e W'=>
   (e= .returned (.bool true)∧J (pre++ [x]) W'∧W'.heap[c]? =W1.heap[c]?)∨(e= .returned (.bool false)∧Jx (pre++ [x]) W'))→
  J [] W→
  CallsIn F n P g (#[.func (.yield l) #[] #[]]++lb) W fun e W'=>(∃ v,e= .returned v)∧((∃ xs,S xs∧J xs W')∨(∃ pre,Sp pre∧Jx pre W'))
def jumpOf:Exit→Option (Option Code)
 | .normal=>some none
 | .ret=>some (some .ret)
 | .exit id=>some (some (.exit id))
 | .goto t=>some (some (.goto t))
 | .panic _=>none
 | .outgrown=>none
theorem roundPost_of {P:Program} {l:Nat} {R:Ending→World→Prop} {e:Exit} {j:Option Code} {a:Act} {w:World} (hj:jumpOf e=some j)
  (h:∃ v w',(Instr.endRound l j).run P w= .ok v w'∧R (.returned v) w'):roundPost P l R e a w:=by
 cases e <;> simp only [jumpOf,Option.some.injEq,reduceCtorEq] at hj <;> subst hj <;> exact h
def boxPost {α:Type} (B c:Nat) (I:List α→World→Prop) (Ix:Code→List α→World→Prop) (xs:List α) (W:World) (e:Exit) (_:Act) (W':World):Prop:=
 ∃ j,jumpOf e=some j∧KeepsFrom B W W'∧(match j with | none=>W'.heap[c]? =W.heap[c]? ∧I xs W' | some q=>Ix q xs W')
variable {F:Fence} {n:Nat} {P:Program}
theorem wpIn_rangeFunc_box {α:Type} {g:Operand} {ps:Array Tmp} {assign body:Code} {Q:Exit→Act→World→Prop} {a:Act} {w:World}
  (hro:F.round=none) (h1:1≤n) {gf:Nat} {lb:Array Value} (hg:a.eval g= .func (.func gf) #[] lb) (hFg:F.fn gf) (eg:∀ args w,(callFunc gf args).run P w= .ok (.enter gf args) w)
  {encs:α→Array Value} {c:Nat} {S Sp:List α→Prop} (hc:c<w.heap.size) (hseq:SeqBox F (n-1) P gf lb encs c S Sp w) (hps:∀ x,(encs x).size=ps.size)
  (I:List α→World→Prop) (Ix:Code→List α→World→Prop) (hI:OwnFrom w.heap.size I) (hIx:∀ q,OwnFrom w.heap.size (Ix q)) (hIc:Lone c I) (hIxc:∀ q,Lone c (Ix q)) (h0:I [] w) (a₁:α→Act)
  (hassign:∀ (l:Nat) (x:α) (W:World) (K:Act→World→Prop),K (a₁ x) W→
   assign.wpIn (F.inRound l) (n-1-1) P (Exit.then K (fun _ _ _=>False)) { tmps:=(ps.zip (encs x)).foldl (fun t (p,v)=>t.setIfInBounds p v) a.tmps,defers:= []} W)
  (hbody:∀ (l:Nat) (pre:List α) (x:α) (W:World),I pre W→Sp (pre++ [x])→body.wpIn (F.inRound l) (n-1-1) P (boxPost w.heap.size c I Ix (pre++ [x]) W) (a₁ x) W)
  (hdone:∀ (D:Nat) (xs:List α) (W:World),w.heap.size≤D→S xs→I xs W→W.heap[D]? =some (.deferred (some []))→Q .normal { a with defers:= { target:= .collected D,args:= #[]} ::a.defers} W)
  (hstop:∀ (D:Nat) (q:Code) (pre:List α) (W:World),w.heap.size≤D→Sp pre→Ix q pre W→W.heap[D]? =some (.deferred (some []))→q.wpIn F n P Q { a with defers:= { target:= .collected D,args:= #[]} ::a.defers} W):
  (Code.rangeFunc g ps assign body).wpIn F n P Q a w:=by
 refine wpIn_rangeFunc fun fn hfn=> ?_
 rw [hro];generalize hD:w.heap.size=D at hc hI hIx hbody hdone hstop;have hR:∃ R:LoopState→Option Code→Loop,R=fun st pe=> { state:=st,pending:=pe,fn,tmps:=a.tmps,params:=ps,assign,body,defers:=D} :=⟨_,rfl⟩
 obtain ⟨R,hR⟩:=hR;have hV:∃ V,V=(w.alloc (.deferred (some []))).alloc (.loop (R .ready none)):=⟨_,rfl⟩;obtain ⟨V,hV⟩:=hV
 have hVl:V.heap[D+1]? =some (.loop (R .ready none)):=by
  have:=World.alloc_heap_new (w.alloc (.deferred (some []))) (.loop (R .ready none));rw [World.size_alloc,hD] at this;rw [hV];exact this
 have hVd:V.heap[D]? =some (.deferred (some [])):=by
  rw [hV,← hD];exact (Below.heap_alloc _ _ _ (by simp)).trans (World.alloc_heap_new w _)
 have hVb:Below w.heap.size w V:=by
  rw [hV];exact ((Below.refl _ w).alloc (Nat.le_refl _) _).alloc (by simp) _
 have hVI:I [] V:=by rw [hV];exact hI.alloc _ (hI.alloc _ h0)
 have henter:(Instr.enterLoop fn a.tmps ps assign body none).run P w= .ok (D+1, [{ target:= .collected D,args:= #[]}]) V:=by
  rw [run_enterLoop_outer,hD,hV,hR]
 refine ⟨D+1, [{ target:= .collected D,args:= #[]}],V,{ target:= .fn (.func gf) lb,args:= #[.func (.yield (D+1)) #[] #[]]},V,gf,
  #[.func (.yield (D+1)) #[] #[]]++lb,V,henter,?_,?_,?_,fun _=>h1,?_⟩
 ·simp only [resolve,hg];simp [go_sem]
 ·intro f' hf';simp [Target.leads] at hf';subst hf';exact hFg
 ·simp [invoke,go_sem,eg]
 ·have hcl:D+1≠c:=by omega
  have hcd:D≠c:=by omega
  refine (hseq (D+1)
   (fun pre W=>I pre W∧W.heap[D+1]? =some (.loop (R .ready none))∧W.heap[D]? =some (.deferred (some [])))
   (fun pre W=> ∃ q,Ix q pre W∧W.heap[D+1]? =some (.loop (R .done (some q)))∧W.heap[D]? =some (.deferred (some [])))
   V hVb (fun s A B h hg=>⟨hIc s A B h.1 hg,lone_at hg h.2.1 hcl,lone_at hg h.2.2 hcd⟩)
   (fun s A B ⟨q,h,hl,hd⟩ hg=>⟨q,hIxc q s A B h hg,lone_at hg hl hcl,lone_at hg hd hcd⟩) ?_ ⟨hVI,hVl,hVd⟩).mono ?_
  ·rintro pre x W ⟨hi,hl,hd⟩ hlen;have hy:=run_yield (P:=P) (args:=encs x) hl (by rw [hR];exact hps x);rw [hR] at hy;refine ⟨fn,_,assign,body,hy,roundIn_of_wpIn hfn (hassign _ x W _ ⟨_,run_beginRound hl (by rw [hR]),?_⟩)⟩;have hlt:D+1<W.heap.size:=(Array.getElem?_eq_some_iff.1 hl).1;generalize hB:W.putObj (D+1) (.loop { R .ready none with state:= .busy})=B;have hBl:B.heap[D+1]? =some (.loop { R .ready none with state:= .busy}):=by rw [← hB];exact World.putObj_heap_same hlt
   have hBd:B.heap[D]? =some (.deferred (some [])):=by rw [← hB];exact (World.putObj_heap_other (by omega)).trans hd
   have hBc:B.heap[c]? =W.heap[c]? :=by rw [← hB];exact World.putObj_heap_other (by omega)
   have hBI:I pre B:=by rw [← hB];exact hI.putObj _ hi (by omega) hl rfl
   refine wpIn_mono (hbody _ pre x B hBI hlen) ?_;rintro e a3 C ⟨j,hj,hk,hp⟩;have hCl:=hk.same _ _ (by omega) hBl rfl;have hCd:=hk.same _ _ (by omega) hBd rfl;have hlt':D+1<C.heap.size:=(Array.getElem?_eq_some_iff.1 hCl).1;refine roundPost_of hj ⟨_,_,run_endRound j hCl,?_⟩;have hEl:=World.putObj_heap_same (o:= .loop { { R .ready none with state:= .busy} with state:=if j.isNone then .ready else .done,pending:=j}) hlt';have hEd:=(World.putObj_heap_other (w:=C) (o:= .loop { { R .ready none with state:= .busy} with state:=if j.isNone then .ready else .done,pending:=j}) (show D≠D+1 by omega)).trans hCd;cases j with
   | none=>
    refine .inl ⟨rfl,⟨hI.putObj _ hp.2 (by omega) hCl rfl,?_,hEd⟩,?_⟩
    ·rw [hEl,hR];rfl
    ·exact (World.putObj_heap_other (by omega)).trans (hp.1.trans hBc)
   | some q=>
    refine .inr ⟨rfl,q,(hIx q).putObj _ hp (by omega) hCl rfl,?_,hEd⟩;rw [hEl,hR];rfl
  ·rintro e W2 ⟨⟨v,rfl⟩,(⟨xs,hS,hi,hl,hd⟩ | ⟨pre,hSp,q,hi,hl,hd⟩)⟩
   ·have:=run_endLoop (P:=P) hl (by rw [hR];simp);rw [hR] at this;exact ⟨none,_,this,hdone _ xs _ (Nat.le_refl _) hS (hI.putObj _ hi (by omega) hl rfl) ((World.putObj_heap_other (by omega)).trans hd)⟩
   ·have:=run_endLoop (P:=P) hl (by rw [hR];simp);rw [hR] at this;exact ⟨some q,_,this,hstop _ q pre _ (Nat.le_refl _) hSp ((hIx q).putObj _ hi (by omega) hl rfl) ((World.putObj_heap_other (by omega)).trans hd)⟩
#print axioms wpIn_rangeFunc_box
end Go.Proofs.YtknffgdbdadpcaaGreatDoor
