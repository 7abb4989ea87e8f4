/-
  Package notebook: the reader: call. (Printed by wip/gen/ncl.py.)
  A drawn region in which a load may come before a call or behind it.
  A row of one node.
-/
import Derived.Test.YtenhciieboegbaaGreatDoorNex
namespace Go.Proofs.YtenhciieboegbaaGreatDoor
open Go Go.RowKit
section
variable {α:Type} {R:Nat} {w w':World} {fP:α→Value→World→Prop} {q:Option (α×List UInt8)} {ch:List PanicEntry} {v:Value}
theorem RdP.ret(h:RdP R w fP q (.returned v) w'):∃x t,q=some (x,t)∧Ob R w w'∧Bk w' R [encS t]∧fP x v w':=by
  cases q with
  |none=>obtain⟨_,h⟩:=h;cases h
  | some y=>
    obtain⟨h1,h2,v',h3,h4⟩:=h;cases h3;exact⟨y.1,y.2,rfl,h1,h2,h4⟩
theorem RdP.pan(h:RdP R w fP q (.panicked ch) w'):q=none∧ch=pwr∧Ob R w w':=by
  cases q with
  |none=>obtain⟨h1,h⟩:=h;cases h;exact⟨rfl,rfl,h1⟩
  |some y=>obtain⟨_,_,_,h,_⟩:=h;cases h
theorem RdP.big(h:RdP R w fP q .outgrown w'):False:=by
  cases q with
  |none=>obtain⟨_,h⟩:=h;cases h
  |some y=>obtain⟨_,_,_,h,_⟩:=h;cases h
theorem RdP.fail(O:Ob R w w')(h:q=none):RdP R w fP q (.panicked pwr) w':=by subst h;exact⟨O,rfl⟩
theorem RdP.done{x:α}{t:List UInt8}(h:q=some (x,t))(O:Ob R w w')(B:Bk w' R [encS t])(hv:fP x v w'):RdP R w fP q (.returned v) w':=by subst h;exact⟨O,B,v,rfl,hv⟩
theorem take_ret{x s:List UInt8}(h:RdP R w UnitP ((takeP x s).map λt=>((),t)) (.returned v) w'):∃t,takeP x s=some t∧Ob R w w'∧Bk w' R [encS t]∧v=.tuple #[]:=by
  obtain⟨y,t,h1,h2,h3,h4⟩:=h.ret;obtain⟨t',h5,h6⟩:=Option.map_eq_some_iff.1 h1;cases h6;exact⟨_,h5,h2,h3,h4⟩
theorem take_pan{x s:List UInt8}(h:RdP R w UnitP ((takeP x s).map λt=>((),t)) (.panicked ch) w'):takeP x s=none∧ch=pwr∧Ob R w w':=by
  obtain⟨h1,h2,h3⟩:=h.pan;exact⟨Option.map_eq_none_iff.1 h1,h2,h3⟩
end
section
variable {P:Program} {Q:Exit→Act→World→Prop} {o:Oper} {a:Act} {w:World} {K:Act→World→Prop}
theorem wp_mv{x:Operand}(h:K (a.put o.dst (a.eval x)) w)(ho:(o.op=.move x∨o.op=.assign x):=by first|exact .inl rfl|exact .inr rfl):Oper.wp P o a w K Q:=by
  have h9:(execOp a.eval o).run P w=.ok (.value (a.eval x)) w:=by
    unfold execOp;rcases ho with ho|ho <;> rw[ho] <;> rfl
  unfold Oper.wp;rw[h9];exact h
theorem wp_bd{T:Nat}{ps:Array (Nat×Operand)}{v:Value}(hr:(Instr.build T (ps.map λp=>(p.1,a.eval p.2))).run P w=.ok v w)(h:K (a.put o.dst v) w)(ho:o.op=.build T ps:=by rfl):Oper.wp P o a w K Q:=by
  have h9:=bdG ho hr;unfold Oper.wp;rw[h9];exact h
end
theorem smlP_bd{s t:List UInt8}{z:Int}(h:smlP s=some (z,t)): -1000000≤z∧z≤1000000:=by
  rw[smlP]at h;cases hn:numP s with
  |none=>rw[hn]at h;cases h
  | some y=>
    obtain⟨z',t'⟩:=y;rw[hn]at h;dsimp only at h
    split at h
    · rename_i hz
      simp only[Option.some.injEq,Prod.mk.injEq]at h;rw[← h.1];exact hz
    ·cases h
def NdW(w:World):Nd→Value→World→Prop:=λx v w'=>IsNd w.heap.size x v w'
section
set_option maxRecDepth 100000
set_option maxHeartbeats 8000000
theorem call_val{R:Nat}{s:List UInt8}{w:World}{v:Value}{d:Int}{T:Option (Nd×List UInt8)}(B:Bk w R [encS s])(hl:s.length≤1000000)(hT:T=valP s):Calls Tryz.prog 114 #[.pointer (some ⟨R,0,none⟩),encS wVal,v,.int .i64 d] w (RdP R w (NdW w) T):=by
  unfold valP at hT;rw[show encS wVal=.string ⟨#[118,97,108,117,101]⟩from rfl];obtain⟨W,hW,E,B0⟩:∃W,W=w.alloc (.cells zNd.toArray 32)∧Ext w W∧Bk W w.heap.size zNd:=⟨_,rfl,(Ext.refl w).alloc _,Bk.new w _ _⟩;unfold zNd at hW;have HRL:=hid B.lt;have hR:R≠w.heap.size:=Nat.ne_of_lt B.lt;obtain⟨G,hG⟩:∃G,w.heap.size=G:=⟨_,rfl⟩;have HO0:=hid (show Ob R w W from Ob.of E);have HB0:=hid (B.ext E);rw[hG]at B0 hR;have HG0:=hid B0;have HRG:=hid hR;have HGs:=hid hG;have HL0:=hid hl;have HV0:=hid hT;clear hR B0 E B hl hT;go_enter Tryz.func114,Tryz.ntmps114;go_upto_region 1 with(fail)
  try rw[hG]
  rw[← hW];clear hW hG;go_upto_region 2 with(fail);refine wp_region_lit ?_;refine stL (λK hK=>wp_mv (hK _ _ ?_));clear hK K
  go_simp
  refine stL (λK hK=>?_);refine wp_callN (us:= [.pointer (some ⟨R,0,none⟩),encS [34]]) (en Tryz.func77) (by kernel_rfl) (take_f (x:= [34]) HB0.out) (λv X h=>hK _ _ ?_) (λch X h=>by{obtain⟨h1,rfl,h2⟩:=take_pan h;exact⟨rfl,RdP.fail (HO0.out.trans h2) (by rw[HV0.out,h1];rfl)⟩}) (λX h=>(h.big).elim);clear hK K;obtain⟨s3,h1,h2,h3,rfl⟩:=take_ret h;have HO1:=hid (HO0.out.trans h2);have HB1:=hid h3;have HG1:=hid (h2.bk HG0.out (Ne.symm HRG.out));have hv:=HV0.out;rw[h1,Option.bind_some]at hv
  try dsimp only at hv
  have HV1:=hid hv;have HL1:=hid (show s3.length≤1000000 by have:=takeP_len h1;have:=HL0.out;omega);clear h h1 h2 h3 hv HO0 HB0 HG0 HV0
  try go_simp
  refine wpList_nil ?_;obtain⟨dw,hdw⟩:∃y,(s3.dropWhile (· !=34)).drop 1=y:=⟨_,rfl⟩;obtain⟨tw,htw⟩:∃y,s3.takeWhile (· !=34)=y:=⟨_,rfl⟩;obtain⟨tb,htb⟩:∃y,(⟨tw.toArray⟩:ByteArray)=y:=⟨_,rfl⟩;have HTB:=hid (And.intro htb (show tw.length≤1000000 by rw[← htw];have:=(tw_len (· !=34) s3).1;have:=HL1.out;omega));have HLD:=hid (show dw.length≤1000000 by rw[← hdw,List.length_drop];have:=(tw_len (· !=34) s3).2;have:=HL1.out;omega);have hcu:=λw'=>cut34_f w' s3 (by have:=HL1.out;omega)
  rw[hdw,htw]at hcu;simp only[encS]at hcu;rw[htb]at hcu;have hcu2:∀w',Calls Tryz.prog 127 #[encS s3,.string ⟨#[34]⟩] w' λe w''=>e=.returned (.tuple #[.string tb,encS dw,.bool (decide (34∈s3))])∧Ext w' w'':=hcu
  have HCU:=hid hcu2;have hv:=HV1.out;rw[hdw,htw]at hv;have HV1:=hid hv;clear hcu hcu2 hdw htw htb hv;have c0:=HB1.out.c 0 _ rfl;go_upto_region 4 with(go_at_call 127;refine Calls.mono (HCU.out _) ?_;rintro e w2 ⟨rfl,e2⟩);have HO2:=hid (HO1.out.then e2);have HB2:=hid (HB1.out.ext e2);have HG2:=hid (HG1.out.ext e2);clear c0 e2;have HO3:=hid (HB2.out.set0 dw);have hsc:=hid (stC_str w2 R _ dw (HB2.out.c 0 _ rfl) (HB2.out.f 0));clear HB1 HG1 HO1;have c0:=HB2.out.c 0 _ rfl;have f0:=HB2.out.f 0;have HL3:=HLD;go_wp2_with fail;rw[hsc.out];have HO4:=hid (HO2.out.trans HO3.out.1);have HB4:=hid HO3.out.2;have HG4:=hid (HO3.out.1.bk HG2.out (Ne.symm HRG.out));have HV4:=hid HV1.out;have HL4:=hid HLD.out;clear HO2 HB2 HG2 HO3 hsc c0 f0 HV1 HL3;go_upto_region 5 with(fail);refine wp_region_lit ?_;refine stL (λK hK=>wp_mv (hK _ _ ?_));clear hK K
  go_simp
  refine stL (λK hK=>?_);refine wp_callN (us:= [.pointer (some ⟨R,0,none⟩),encS [44,32]]) (en Tryz.func77) (by kernel_rfl) (take_f (x:= [44,32]) HB4.out) (λv X h=>hK _ _ ?_) (λch X h=>by{obtain⟨h1,rfl,h2⟩:=take_pan h;exact⟨rfl,RdP.fail (HO4.out.trans h2) (by rw[HV4.out,h1];rfl)⟩}) (λX h=>(h.big).elim);clear hK K;obtain⟨s4,h1,h2,h3,rfl⟩:=take_ret h;have HO5:=hid (HO4.out.trans h2);have HB5:=hid h3;have HG5:=hid (h2.bk HG4.out (Ne.symm HRG.out));have hv:=HV4.out;rw[h1,Option.bind_some]at hv
  try dsimp only at hv
  have HV5:=hid hv;have HL5:=hid (show s4.length≤1000000 by have:=takeP_len h1;have:=HL4.out;omega);clear h h1 h2 h3 hv HO4 HB4 HG4 HV4
  try go_simp
  refine wpList_nil ?_;go_upto_region 6 with(fail);refine wp_region_lit ?_;refine stL (λK hK=>wp_mv (hK _ _ ?_));clear hK K
  go_simp
  refine stL (λK hK=>wp_mv (hK _ _ ?_));clear hK K
  go_simp
  refine stL (λK hK=>?_);refine wp_callN (us:= [.pointer (some ⟨R,0,none⟩)]) (en Tryz.func137) (by kernel_rfl) (small_f HB5.out HL5.out) (λv X h=>hK _ _ ?_) (λch X h=>by{obtain⟨h1,rfl,h2⟩:=h.pan;exact⟨rfl,RdP.fail (HO5.out.trans h2) (by rw[HV5.out,h1];rfl)⟩}) (λX h=>(h.big).elim);clear hK K;obtain⟨z,s5,h1,h2,h3,rfl⟩:=h.ret;have HO6:=hid (HO5.out.trans h2);have HB6:=hid h3;have HG6:=hid (h2.bk HG5.out (Ne.symm HRG.out));have hv:=HV5.out;rw[h1,Option.bind_some]at hv
  try dsimp only at hv
  have HV6:=hid hv;have HL6:=hid (show s5.length≤1000000 by have:=smlP_len h1;have:=HL5.out;omega);have HZ6:=hid (smlP_bd h1);clear h h1 h2 h3 hv HO5 HB5 HG5 HV5
  try go_simp
  have hbd:∀w',(Instr.build 32 #[(0,.int .i64 3),(1,.string tb),(2,.int .i64 z)]).run Tryz.prog w'=.ok (.agg #[.int .i64 3,.string tb,.int .i64 z,.bool false,.slice none 0 0,.int .i64 0,.int .i64 0,.slice none 0 0]) w':=λw'=>by go_simp
  refine stL (λK hK=>wp_bd (v:=.agg #[.int .i64 3,.string tb,.int .i64 z,.bool false,.slice none 0 0,.int .i64 0,.int .i64 0,.slice none 0 0]) (by simp only[List.map_toArray,List.map_cons,List.map_nil];exact hbd _) (hK _ _ ?_) (ho:=rfl));clear hK K hbd
  go_simp
  refine stL (λK hK=>?_);refine stVO (us:= [.int .i64 3,.string tb,.int .i64 z,.bool false,.slice none 0 0,.int .i64 0,.int .i64 0,.slice none 0 0]) HG6.out st_Nd rfl rfl nwZN (λX7 B8 O=>hK _ _ ?_);have HO7:=hid (HO6.out.new O (Nat.le_of_eq HGs.out));have HB7:=hid (O.bk HB6.out HRG.out);have HR:=hid (show NdW w (.mk 3 tw z 0 0 0 []) (.agg #[.int .i64 3,.string tb,.int .i64 z,.bool false,.slice none 0 0,.int .i64 0,.int .i64 0,.slice none 0 0]) X7 from⟨_,rfl,NdC.mk' ⟨by have:=HTB.out.2;show tw.length≤_;omega,show(-9223372036854775808:Int)≤3 by decide,show(3:Int)≤9223372036854775807 by decide⟩ (by rw[← HTB.out.1];rfl) (IsI.nil _ _) (Nat.le_refl _) (show(0:Nat)≤9223372036854775807 by decide) (λh=>absurd rfl h)⟩);clear hK K O HO6 HB6 HG6;refine wpList_nil ?_;have d0:=B8.c 0 _ rfl;have d1:=B8.c 1 _ rfl;have d2:=B8.c 2 _ rfl;have d3:=B8.c 3 _ rfl;have d4:=B8.c 4 _ rfl;have d5:=B8.c 5 _ rfl;have d6:=B8.c 6 _ rfl;have d7:=B8.c 7 _ rfl;go_wp2_with fail;refine bodyPost_ret (v:=.agg [.int .i64 3,.string tb,.int .i64 z,.bool false,.slice none 0 0,.int .i64 0,.int .i64 0,.slice none 0 0].toArray) (by simp[results,Tryz.results114,go_sem,d0,d1,d2,d3,d4,d5,d6,d7]) rfl ?_;exact RdP.done HV6.out HO7.out HB7.out HR.out
end
end Go.Proofs.YtenhciieboegbaaGreatDoor
namespace Go.Proofs.YtenhciieboegbaaGreatDoor
open Go Go.RowKit
section
variable {P:Program} {ops:Array Oper} {Q:Exit→Act→World→Prop} {o o':Oper}
theorem tk{fuel:Nat}{listed:Array Bool}{a:Act}{w:World}(i:Nat)(v:Value)(hy:∀w,(execOp a.eval o).run P w=.ok (.value v) w)(h:wpAny P .any ops Q fuel (listed.setIfInBounds i true) (a.put o.dst v) w)
    (hi:ops[i]? =some o:=by rfl) (hs:Region.noSelect ops=true:=by kernel_rfl) (hf:Region.free .any ops listed i=true:=by kernel_rfl) (hr:(Region.ready .any ops listed).contains i=true:=by kernel_rfl)
    (hQ:∀c a w,Q (.panic c) (a.put o.dst v) w→Q (.panic c) a w:=by exact λ_ _ _ h=>h) (hg:o.guard=none:=by rfl):wpAny P .any ops Q (fuel+1) listed a w:=
  wpAny_take hi hs hf hr hQ (.inl ⟨by simp[Region.wanted,hg],hy⟩) h
theorem tkM{fuel:Nat}{listed:Array Bool}{a:Act}{w:World}(i:Nat)(p:Value){x:Operand}(h:wpAny P .any ops Q fuel (listed.setIfInBounds i true) (a.put o.dst p) w)
    (hi:ops[i]? =some o:=by rfl) (ho:o.op=.move x:=by rfl) (he:a.eval x=p:=by kernel_rfl) (hs:Region.noSelect ops=true:=by kernel_rfl) (hf:Region.free .any ops listed i=true:=by kernel_rfl) (hr:(Region.ready .any ops listed).contains i=true:=by kernel_rfl)
    (hQ:∀v c a w,Q (.panic c) (a.put o.dst v) w→Q (.panic c) a w:=by exact λ_ _ _ _ h=>h) (hg:o.guard=none:=by rfl):wpAny P .any ops Q (fuel+1) listed a w:=
  tk i _ (λw=>by unfold execOp;rw[ho,← he];rfl) h hi hs hf hr (hQ _) hg
theorem tkF{fuel:Nat}{listed:Array Bool}{a:Act}{w:World}(i:Nat){x:Operand}{T f:Nat}{p r:Value}(hp:∀w,(Instr.fieldAt T p f).run P w=.ok r w)(h:wpAny P .any ops Q fuel (listed.setIfInBounds i true) (a.put o.dst r) w)
    (hi:ops[i]? =some o:=by rfl) (he:a.eval x=p:=by kernel_rfl) (ho:o.op=.fieldAddr T x f:=by rfl) (hs:Region.noSelect ops=true:=by kernel_rfl) (hf:Region.free .any ops listed i=true:=by kernel_rfl) (hr:(Region.ready .any ops listed).contains i=true:=by kernel_rfl)
    (hQ:∀v c a w,Q (.panic c) (a.put o.dst v) w→Q (.panic c) a w:=by exact λ_ _ _ _ h=>h) (hg:o.guard=none:=by rfl):wpAny P .any ops Q (fuel+1) listed a w:=
  tk i _ (λw=>by unfold execOp;rw[ho];dsimp only;rw[he];simp[hp w]) h hi hs hf hr (hQ _) hg
theorem tkB{fuel:Nat}{listed:Array Bool}{a:Act}{w:World}(i:Nat){x y:Operand}{b:BinOp}{T T2:Nat}{p q r:Value}(hp:∀w,Sem.run P (do eqGuard b T x y p q;binOp b T p q) w=.ok r w)(h:wpAny P .any ops Q fuel (listed.setIfInBounds i true) (a.put o.dst r) w)
    (hi:ops[i]? =some o:=by rfl) (hx:a.eval x=p:=by kernel_rfl) (hy:a.eval y=q:=by kernel_rfl) (ho:o.op=.binOp b T x y T2:=by rfl) (hs:Region.noSelect ops=true:=by kernel_rfl) (hf:Region.free .any ops listed i=true:=by kernel_rfl) (hr:(Region.ready .any ops listed).contains i=true:=by kernel_rfl)
    (hQ:∀v c a w,Q (.panic c) (a.put o.dst v) w→Q (.panic c) a w:=by exact λ_ _ _ _ h=>h) (hg:o.guard=none:=by rfl):wpAny P .any ops Q (fuel+1) listed a w:=
  tk i _ (λw=>by unfold execOp;rw[ho];dsimp only;rw[hx,hy];have h9:=hp w;exact(by
    cases hg9:Sem.run P (eqGuard b T x y p q) w with
    |ok u w1=>simp[hg9]at h9 ⊢;rw[h9];simp
    |halt e w1=>simp[hg9]at h9)) h hi hs hf hr (hQ _) hg
theorem wp_ld{T:Nat}{x:Operand}{a:Act}{w:World}{K:Act→World→Prop}{p u:Value}(hr:(Instr.loadAt T p).run P w=.ok u w)(h:K (a.put o.dst u) w)(he:a.eval x=p:=by kernel_rfl)(ho:o.op=.load T x:=by rfl):Oper.wp P o a w K Q:=by
  have h9:(execOp a.eval o).run P w=.ok (.value u) w:=by
    unfold execOp;rw[ho];dsimp only;rw[he];simp[hr]
  unfold Oper.wp;rw[h9];exact h
end
end Go.Proofs.YtenhciieboegbaaGreatDoor
namespace Go.Proofs.YtenhciieboegbaaGreatDoor
open Go Go.RowKit
theorem bs_run{us:List Value}(hu:us.length=8)(h1:us.all (λu=>u.oneCell')=true)(w:World):(Instr.buildSlice 30 1 #[(0,.agg us.toArray)]).run Tryz.prog w=.ok (.slice (some ⟨w.heap.size,0,none⟩) 1 1) (w.alloc (.cells us.toArray 32)):=by
  match us,hu with
  | [u0,u1,u2,u3,u4,u5,u6,u7],_=>
    simp only[List.all_cons,List.all_nil,Bool.and_true,Bool.and_eq_true]at h1
    go_simp
theorem wp_bs{Q:Exit→Act→World→Prop}{o:Oper}{a:Act}{w:World}{K:Act→World→Prop}{x:Operand}{us:List Value}(hu:us.length=8)(h1:us.all (λu=>u.oneCell')=true)
    (h:Bk (w.alloc (.cells us.toArray 32)) w.heap.size us→Ext w (w.alloc (.cells us.toArray 32))→SrcR 1 us (.slice (some ⟨w.heap.size,0,none⟩) 1 1) (w.alloc (.cells us.toArray 32))→K (a.put o.dst (.slice (some ⟨w.heap.size,0,none⟩) 1 1)) (w.alloc (.cells us.toArray 32)))
    (he:a.eval x=.agg us.toArray:=by kernel_rfl) (ho:o.op=.buildSlice 30 1 #[(0,x)]:=by rfl):Oper.wp Tryz.prog o a w K Q:=by
  have h9:(execOp a.eval o).run Tryz.prog w=.ok (.value (.slice (some ⟨w.heap.size,0,none⟩) 1 1)) (w.alloc (.cells us.toArray 32)):=by
    unfold execOp;rw[ho];dsimp only;simp only[List.map_toArray,List.map_cons,List.map_nil];rw[he];simp[bs_run hu h1 w]
  unfold Oper.wp;rw[h9];exact h (by simpa using Bk.new w us.toArray 32) ((Ext.refl _).alloc _) (by simpa using SrcR.new w us.toArray 32 1 1)
theorem ob_grown{R:Nat}{w0 w w':World}{v:Value}(h:Ob R w0 w)(hg:w.grownBy w' v.ownBlock)(gr:Gr w w')(hv:∀g,v.ownBlock=some g→w0.heap.size≤g):Ob R w0 w':=by
  refine⟨hg.os.trans h.os,hg.tape.trans h.tape,hg.output.trans h.output,Nat.le_trans h.size hg.size,λk hk hR=>?_,h.gr.trans gr⟩;refine(hg.block k (Nat.lt_of_lt_of_le hk h.size) (λe=>?_)).trans (h.block k hk hR);have:=hv k e.symm;omega
theorem bk_grown{w w':World}{v:Value}{g:Nat}{us:List Value}(B:Bk w g us)(hg:w.grownBy w' v.ownBlock)(hv:v.ownBlock≠some g):Bk w' g us:=by
  have hb:=hg.block g B.lt (λe=>hv e.symm);exact⟨λj v hj=>(World.cell?_of_block (w:=w) (a:=⟨g,j,none⟩) hb).trans (B.c j v hj),λj=>(World.frozen?_of_block (w:=w) (a:=⟨g,j,none⟩) hb).trans (B.f j),Nat.lt_of_lt_of_le B.lt hg.size⟩
end Go.Proofs.YtenhciieboegbaaGreatDoor
