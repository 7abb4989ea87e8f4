/-
  Package notebook: the reader: call. (Printed by wip/gen/ncl.py.)
  A drawn region in which a load may come before a call or behind it.
  A row of one node.
  A drawn region in which a load may come before a call or behind it: the load is taken first, though a later operation of the region stores into the cell that it reads.
-/
import Derived.Test.YtenhciieboegbaaGreatDoorNex
import Derived.OrdersHeld
namespace Go.Proofs.YtenhciieboegbaaGreatDoor
open Go Go.RowKit
open Go.Proofs.Tryz
theorem xz{P:Prop}(h:P:=by have:=Nat.mul_le_mul (show M.length + 1 <=1000001 by omega) hb;omega):P:=h
theorem zac{P:Prop}(h:P:=by simp only[List.map_toArray,List.map_cons,List.map_nil];exact hbd _):P:=h
section
variable {α:Type} {R:Nat} {w w':World} {fP:α ->Value ->World ->Prop} {q:Option (α×List UInt8)} {ch:List PanicEntry} {v:Value}
theorem RdP.ret(h:RdP R w fP q (.returned v) w'):∃x t,q =some (x,t)/\Ob R w w'/\Bk w' R [qB t]/\fP x v w':=by
  cases q with
  |none =>obtain⟨_,h⟩ :=h;cases h
  | some y =>
    obtain⟨h1,h2,v',h3,h4⟩ :=h
    cases h3
    exact⟨y.1,y.2,rfl,h1,h2,h4⟩
theorem RdP.pan(h:RdP R w fP q (.panicked ch) w'):q =none/\ch =pwr/\Ob R w w':=by
  cases q with
  |none =>obtain⟨h1,h⟩ :=h;cases h;exact⟨rfl,rfl,h1⟩
  |some y =>obtain⟨_,_,_,h,_⟩ :=h;cases h
theorem RdP.big(h:RdP R w fP q .outgrown w'):False:=by
  cases q with
  |none =>obtain⟨_,h⟩ :=h;cases h
  |some y =>obtain⟨_,_,_,h,_⟩ :=h;cases h
theorem RdP.fail(O:Ob R w w')(h:q =none):RdP R w fP q (.panicked pwr) w':=by subst h;exact⟨O,rfl⟩
theorem RdP.done{x:α}{t:List UInt8}(h:q =some (x,t))(O:Ob R w w')(B:Bk w' R [qB t])(hv:fP x v w'):RdP R w fP q (.returned v) w':=by subst h;exact⟨O,B,v,rfl,hv⟩
theorem xU{x s:List UInt8}(h:RdP R w UnitP ((qG x s).map λt =>((),t)) (.returned v) w'):∃t,qG x s =some t/\Ob R w w'/\Bk w' R [qB t]/\v =.tuple #[] :=by
  obtain⟨y,t,h1,h2,h3,h4⟩ :=h.ret
  obtain⟨t',h5,h6⟩ :=Option.map_eq_some_iff.1 h1
  cases h6
  exact⟨_,h5,h2,h3,h4⟩
theorem xV{x s:List UInt8}(h:RdP R w UnitP ((qG x s).map λt =>((),t)) (.panicked ch) w'):qG x s =none/\ch =pwr/\Ob R w w':=by
  obtain⟨h1,h2,h3⟩ :=h.pan
  exact⟨Option.map_eq_none_iff.1 h1,h2,h3⟩
end
section
variable {P:Program} {Q:Exit ->Act ->World ->Prop} {o:Oper} {a:Act} {w:World} {K:Act ->World ->Prop}
theorem qV{x:Operand}(h:K (a.put o.dst (a.eval x)) w)(ho:(o.op =.move x\/o.op =.assign x) :=by first|exact .inl rfl|exact .inr rfl):Oper.wp P o a w K Q:=by
  have h9:(execOp a.eval o).run P w =.ok (.value (a.eval x)) w:=by
    unfold execOp
    rcases ho with ho|ho <;> rw[ho] <;> rfl
  unfold Oper.wp
  rw[h9]
  exact h
theorem wp_bd{T:Nat}{ps:Array (Nat×Operand)}{v:Value}(hr:(Instr.build T (ps.map λp =>(p.1,a.eval p.2))).run P w =.ok v w)(h:K (a.put o.dst v) w)(ho:o.op =.build T ps:=by rfl):Oper.wp P o a w K Q:=by
  have h9:=bdG ho hr
  unfold Oper.wp
  rw[h9]
  exact h
end
theorem smlP_bd{s t:List UInt8}{z:Int}(h:smlP s =some (z,t)): -1000000 <=z/\z <=1000000:=by
  rw[smlP]at h
  cases hn:numP s with
  |none =>rw[hn]at h;cases h
  | some y =>
    obtain⟨z',t'⟩ :=y
    rw[hn]at h
    dsimp only at h
    split at h
    · rename_i hz
      simp only[Option.some.injEq,Prod.mk.injEq]at h
      rw[<-h.1];exact hz
    ·cases h
def NdW(w:World):Nd ->Value ->World ->Prop:=λx v w' =>IsNd w.heap.size x v w'
section
set_option maxRecDepth 100000
set_option maxHeartbeats 8000000
theorem call_val{R:Nat}{s:List UInt8}{w:World}{v:Value}{d:Int}{T:Option (Nd×List UInt8)}(B:Bk w R [qB s])(hl:s.length <=1000000)(hT:T =valP s):Calls prog 114 #[.pointer (some ⟨R,0,none⟩),qB wVal,v,.int .i64 d] w (RdP R w (NdW w) T) :=by
  unfold valP at hT
  rw[show qB wVal =.string ⟨#[118,97,108,117,101]⟩from rfl]
  obtain⟨W,hW,E,B0⟩:∃W,W =w.alloc (.cells zNd.toArray 32)/\Ext w W/\Bk W w.heap.size zNd:=⟨_,rfl,(Ext.refl w).alloc _,Bk.new w _ _⟩
  unfold zNd at hW
  have HRL:=hid B.lt
  have hR:R≠w.heap.size:=Nat.ne_of_lt B.lt
  obtain⟨G,hG⟩:∃G,w.heap.size =G:=⟨_,rfl⟩
  have HO0:=hid (show Ob R w W from Ob.of E)
  have HB0:=hid (B.ext E)
  rw[hG]at B0 hR
  have HG0:=hid B0
  have HRG:=hid hR
  have HGs:=hid hG
  have HL0:=hid hl
  have HV0:=hid hT
  clear hR B0 E B hl hT
  go_enter func114,ntmps114
  go_upto_region 1 with fail
  try rw[hG]
  rw[<-hW]
  clear hW hG
  go_upto_region 2 with fail
  refine wp_region_lit ?_
  refine stL (λK hK =>qV (hK _ _ ?_))
  clear hK K
  go_simp
  refine stL (λK hK =>?_)
  refine qM (us:= [.pointer (some ⟨R,0,none⟩),qB [34]]) (en func77) zc (jZ (x:= [34]) HB0.out) (λv X h =>hK _ _ ?_) (λch X h =>by{obtain⟨h1,rfl,h2⟩ :=xV h;exact⟨rfl,RdP.fail (HO0.out.trans h2) (by rw[HV0.out,h1];rfl)⟩}) (λX h =>(h.big).elim)
  clear hK K
  obtain⟨s3,h1,h2,h3,rfl⟩ :=xU h
  have HO1:=hid (HO0.out.trans h2)
  have HB1:=hid h3
  have HG1:=hid (h2.bk HG0.out (Ne.symm HRG.out))
  have hv:=HV0.out
  rw[h1,Option.bind_some]at hv
  try dsimp only at hv
  have HV1:=hid hv
  have HL1:=hid (show s3.length <=1000000 by have:=qJ h1;have:=HL0.out;omega)
  clear h h1 h2 h3 hv HO0 HB0 HG0 HV0
  try go_simp
  refine zI ?_
  obtain⟨dw,hdw⟩:∃y,(s3.dropWhile (· !=34)).drop 1 =y:=⟨_,rfl⟩
  obtain⟨tw,htw⟩:∃y,s3.takeWhile (· !=34)=y:=⟨_,rfl⟩
  obtain⟨tb,htb⟩:∃y,(⟨tw.toArray⟩:ByteArray)=y:=⟨_,rfl⟩
  have HTB:=hid (zL htb (show tw.length <=1000000 by rw[<-htw];have:=(xR (· !=34) s3).1;have:=HL1.out;omega))
  have HLD:=hid (show dw.length <=1000000 by rw[<-hdw,List.length_drop];have:=(xR (· !=34) s3).2;have:=HL1.out;omega)
  have hcu:=λw' =>cut34_f w' s3 (by have:=HL1.out;omega)
  rw[hdw,htw]at hcu
  simp only[qB]at hcu
  rw[htb]at hcu
  have hcu2:∀w',Calls prog 127 #[qB s3,.string ⟨#[34]⟩] w' λe w'' =>e =.returned (.tuple #[.string tb,qB dw,.bool (decide (34∈s3))])/\Ext w' w'':=hcu
  have HCU:=hid hcu2
  have hv:=HV1.out
  rw[hdw,htw]at hv
  have HV1:=hid hv
  clear hcu hcu2 hdw htw htb hv
  have c0:=HB1.out.c 0 _ rfl
  go_upto_region 4 with(go_at_call 127;refine zG (HCU.out _) ?_;rintro e w2 ⟨rfl,e2⟩)
  have HO2:=hid (HO1.out.then e2)
  have HB2:=hid (HB1.out.ext e2)
  have HG2:=hid (HG1.out.ext e2)
  clear c0 e2
  have HO3:=hid (HB2.out.set0 dw)
  have hsc:=hid (stC_str w2 R _ dw (HB2.out.c 0 _ rfl) (HB2.out.f 0))
  clear HB1 HG1 HO1
  have c0:=HB2.out.c 0 _ rfl
  have f0:=HB2.out.f 0
  have HL3:=HLD
  go_wp2_with fail
  rw[hsc.out]
  have HO4:=hid (HO2.out.trans HO3.out.1)
  have HB4:=hid HO3.out.2
  have HG4:=hid (HO3.out.1.bk HG2.out (Ne.symm HRG.out))
  have HV4:=hid HV1.out
  have HL4:=hid HLD.out
  clear HO2 HB2 HG2 HO3 hsc c0 f0 HV1 HL3
  go_upto_region 5 with fail
  refine wp_region_lit ?_
  refine stL (λK hK =>qV (hK _ _ ?_))
  clear hK K
  go_simp
  refine stL (λK hK =>?_)
  refine qM (us:= [.pointer (some ⟨R,0,none⟩),qB [44,32]]) (en func77) zc (jZ (x:= [44,32]) HB4.out) (λv X h =>hK _ _ ?_) (λch X h =>by{obtain⟨h1,rfl,h2⟩ :=xV h;exact⟨rfl,RdP.fail (HO4.out.trans h2) (by rw[HV4.out,h1];rfl)⟩}) (λX h =>(h.big).elim)
  clear hK K
  obtain⟨s4,h1,h2,h3,rfl⟩ :=xU h
  have HO5:=hid (HO4.out.trans h2)
  have HB5:=hid h3
  have HG5:=hid (h2.bk HG4.out (Ne.symm HRG.out))
  have hv:=HV4.out
  rw[h1,Option.bind_some]at hv
  try dsimp only at hv
  have HV5:=hid hv
  have HL5:=hid (show s4.length <=1000000 by have:=qJ h1;have:=HL4.out;omega)
  clear h h1 h2 h3 hv HO4 HB4 HG4 HV4
  try go_simp
  refine zI ?_
  go_upto_region 6 with fail
  refine wp_region_lit ?_
  refine stL (λK hK =>qV (hK _ _ ?_))
  clear hK K
  go_simp
  refine stL (λK hK =>qV (hK _ _ ?_))
  clear hK K
  go_simp
  refine stL (λK hK =>?_)
  refine qM (us:= [.pointer (some ⟨R,0,none⟩)]) (en func137) zc (small_f HB5.out HL5.out) (λv X h =>hK _ _ ?_) (λch X h =>by{obtain⟨h1,rfl,h2⟩ :=h.pan;exact⟨rfl,RdP.fail (HO5.out.trans h2) (by rw[HV5.out,h1];rfl)⟩}) (λX h =>(h.big).elim)
  clear hK K
  obtain⟨z,s5,h1,h2,h3,rfl⟩ :=h.ret
  have HO6:=hid (HO5.out.trans h2)
  have HB6:=hid h3
  have HG6:=hid (h2.bk HG5.out (Ne.symm HRG.out))
  have hv:=HV5.out
  rw[h1,Option.bind_some]at hv
  try dsimp only at hv
  have HV6:=hid hv
  have HL6:=hid (show s5.length <=1000000 by have:=smlP_len h1;have:=HL5.out;omega)
  have HZ6:=hid (smlP_bd h1)
  clear h h1 h2 h3 hv HO5 HB5 HG5 HV5
  try go_simp
  have hbd:∀w',(Instr.build 32 #[(0,.int .i64 3),(1,.string tb),(2,.int .i64 z)]).run prog w' =.ok (.agg #[.int .i64 3,.string tb,.int .i64 z,.bool false,.slice none 0 0,.int .i64 0,.int .i64 0,.slice none 0 0]) w':=λw' =>by go_simp
  refine stL (λK hK =>wp_bd (v:=.agg #[.int .i64 3,.string tb,.int .i64 z,.bool false,.slice none 0 0,.int .i64 0,.int .i64 0,.slice none 0 0]) zac (hK _ _ ?_) (ho:=rfl))
  clear hK K hbd
  go_simp
  refine stL (λK hK =>?_)
  refine zE (us:= [.int .i64 3,.string tb,.int .i64 z,.bool false,.slice none 0 0,.int .i64 0,.int .i64 0,.slice none 0 0]) HG6.out st_Nd rfl rfl nwZN (λX7 B8 O =>hK _ _ ?_)
  have HO7:=hid (HO6.out.new O (Nat.le_of_eq HGs.out))
  have HB7:=hid (O.bk HB6.out HRG.out)
  have HR:=hid (show NdW w (.mk 3 tw z 0 0 0 []) (.agg #[.int .i64 3,.string tb,.int .i64 z,.bool false,.slice none 0 0,.int .i64 0,.int .i64 0,.slice none 0 0]) X7 from⟨_,rfl,NdC.mk' ⟨by have:=HTB.out.2;show tw.length <=_;omega,show(-9223372036854775808:Int) <=3 by decide,show(3:Int) <=9223372036854775807 by decide⟩ (by rw[<-HTB.out.1];rfl) (IsI.nil _ _) (zN _) (show(0:Nat) <=9223372036854775807 by decide) (λh =>absurd rfl h)⟩)
  clear hK K O HO6 HB6 HG6
  refine zI ?_
  have d0:=B8.c 0 _ rfl;have d1:=B8.c 1 _ rfl;have d2:=B8.c 2 _ rfl;have d3:=B8.c 3 _ rfl;have d4:=B8.c 4 _ rfl;have d5:=B8.c 5 _ rfl;have d6:=B8.c 6 _ rfl;have d7:=B8.c 7 _ rfl
  go_wp2_with fail
  refine zH (v:=.agg [.int .i64 3,.string tb,.int .i64 z,.bool false,.slice none 0 0,.int .i64 0,.int .i64 0,.slice none 0 0].toArray) (by simp[results,results114,go_sem,d0,d1,d2,d3,d4,d5,d6,d7]) rfl ?_
  exact RdP.done HV6.out HO7.out HB7.out HR.out
end
section
variable {P:Program} {ops:Array Oper} {Q:Exit ->Act ->World ->Prop} {o o':Oper}
theorem tk{fuel:Nat}{listed:Array Bool}{a:Act}{w:World}(i:Nat)(v:Value)(hy:∀w,(execOp a.eval o).run P w =.ok (.value v) w)(h:wpAny P .any ops Q fuel (listed.setIfInBounds i true) (a.put o.dst v) w)
    (hi:ops[i]? =some o:=by rfl) (hs:Region.noSelect ops =true:=by kernel_rfl) (hf:Region.free .any ops listed i =true:=by kernel_rfl) (hr:(Region.ready .any ops listed).contains i =true:=by kernel_rfl)
    (hQ:∀c a w,Q (.panic c) (a.put o.dst v) w ->Q (.panic c) a w:=by exact λ_ _ _ h =>h) (hg:o.guard =none:=by rfl):wpAny P .any ops Q (fuel + 1) listed a w:=
  wpAny_take hi hs hf hr hQ (.inl ⟨by simp[Region.wanted,hg],hy⟩) h
theorem tkM{fuel:Nat}{listed:Array Bool}{a:Act}{w:World}(i:Nat)(p:Value){x:Operand}(h:wpAny P .any ops Q fuel (listed.setIfInBounds i true) (a.put o.dst p) w)
    (hi:ops[i]? =some o:=by rfl) (ho:o.op =.move x:=by rfl) (he:a.eval x =p:=by kernel_rfl) (hs:Region.noSelect ops =true:=by kernel_rfl) (hf:Region.free .any ops listed i =true:=by kernel_rfl) (hr:(Region.ready .any ops listed).contains i =true:=by kernel_rfl)
    (hQ:∀v c a w,Q (.panic c) (a.put o.dst v) w ->Q (.panic c) a w:=by exact λ_ _ _ _ h =>h) (hg:o.guard =none:=by rfl):wpAny P .any ops Q (fuel + 1) listed a w:=
  tk i _ (λw =>by unfold execOp;rw[ho,<-he];rfl) h hi hs hf hr (hQ _) hg
theorem tkF{fuel:Nat}{listed:Array Bool}{a:Act}{w:World}(i:Nat){x:Operand}{T f:Nat}{p r:Value}(hp:∀w,(Instr.fieldAt T p f).run P w =.ok r w)(h:wpAny P .any ops Q fuel (listed.setIfInBounds i true) (a.put o.dst r) w)
    (hi:ops[i]? =some o:=by rfl) (he:a.eval x =p:=by kernel_rfl) (ho:o.op =.fieldAddr T x f:=by rfl) (hs:Region.noSelect ops =true:=by kernel_rfl) (hf:Region.free .any ops listed i =true:=by kernel_rfl) (hr:(Region.ready .any ops listed).contains i =true:=by kernel_rfl)
    (hQ:∀v c a w,Q (.panic c) (a.put o.dst v) w ->Q (.panic c) a w:=by exact λ_ _ _ _ h =>h) (hg:o.guard =none:=by rfl):wpAny P .any ops Q (fuel + 1) listed a w:=
  tk i _ (λw =>by unfold execOp;rw[ho];dsimp only;rw[he];simp[hp w]) h hi hs hf hr (hQ _) hg
theorem tkB{fuel:Nat}{listed:Array Bool}{a:Act}{w:World}(i:Nat){x y:Operand}{b:BinOp}{T T2:Nat}{p q r:Value}(hp:∀w,Sem.run P (do eqGuard b T x y p q;binOp b T p q) w =.ok r w)(h:wpAny P .any ops Q fuel (listed.setIfInBounds i true) (a.put o.dst r) w)
    (hi:ops[i]? =some o:=by rfl) (hx:a.eval x =p:=by kernel_rfl) (hy:a.eval y =q:=by kernel_rfl) (ho:o.op =.binOp b T x y T2:=by rfl) (hs:Region.noSelect ops =true:=by kernel_rfl) (hf:Region.free .any ops listed i =true:=by kernel_rfl) (hr:(Region.ready .any ops listed).contains i =true:=by kernel_rfl)
    (hQ:∀v c a w,Q (.panic c) (a.put o.dst v) w ->Q (.panic c) a w:=by exact λ_ _ _ _ h =>h) (hg:o.guard =none:=by rfl):wpAny P .any ops Q (fuel + 1) listed a w:=
  tk i _ (λw =>by unfold execOp;rw[ho];dsimp only;rw[hx,hy];have h9:=hp w;exact(by
    cases hg9:Sem.run P (eqGuard b T x y p q) w with
    |ok u w1 =>simp[hg9]at h9 ⊢;rw[h9];simp
    |halt e w1 =>simp[hg9]at h9)) h hi hs hf hr (hQ _) hg
theorem wp_ld{T:Nat}{x:Operand}{a:Act}{w:World}{K:Act ->World ->Prop}{p u:Value}(hr:(Instr.loadAt T p).run P w =.ok u w)(h:K (a.put o.dst u) w)(he:a.eval x =p:=by kernel_rfl)(ho:o.op =.load T x:=by rfl):Oper.wp P o a w K Q:=by
  have h9:(execOp a.eval o).run P w =.ok (.value u) w:=by
    unfold execOp
    rw[ho]
    dsimp only
    rw[he]
    simp[hr]
  unfold Oper.wp
  rw[h9]
  exact h
end
theorem bs_run{us:List Value}(hu:us.length =8)(h1:us.all (λu =>u.oneCell')=true)(w:World):(Instr.buildSlice 30 1 #[(0,.agg us.toArray)]).run prog w =.ok (.slice (some ⟨w.heap.size,0,none⟩) 1 1) (w.alloc (.cells us.toArray 32)) :=by
  match us,hu with
  | [u0,u1,u2,u3,u4,u5,u6,u7],_ =>
    simp only[List.all_cons,List.all_nil,Bool.and_true,Bool.and_eq_true]at h1
    go_simp
theorem wp_bs{Q:Exit ->Act ->World ->Prop}{o:Oper}{a:Act}{w:World}{K:Act ->World ->Prop}{x:Operand}{us:List Value}(hu:us.length =8)(h1:us.all (λu =>u.oneCell')=true)
    (h:Bk (w.alloc (.cells us.toArray 32)) w.heap.size us ->Ext w (w.alloc (.cells us.toArray 32)) ->SrcR 1 us (.slice (some ⟨w.heap.size,0,none⟩) 1 1) (w.alloc (.cells us.toArray 32)) ->K (a.put o.dst (.slice (some ⟨w.heap.size,0,none⟩) 1 1)) (w.alloc (.cells us.toArray 32)))
    (he:a.eval x =.agg us.toArray:=by kernel_rfl) (ho:o.op =.buildSlice 30 1 #[(0,x)] :=by rfl):Oper.wp prog o a w K Q:=by
  have h9:(execOp a.eval o).run prog w =.ok (.value (.slice (some ⟨w.heap.size,0,none⟩) 1 1)) (w.alloc (.cells us.toArray 32)) :=by
    unfold execOp
    rw[ho]
    dsimp only
    simp only[List.map_toArray,List.map_cons,List.map_nil]
    rw[he]
    simp[bs_run hu h1 w]
  unfold Oper.wp
  rw[h9]
  exact h (by simpa using Bk.new w us.toArray 32) ((Ext.refl _).alloc _) (by simpa using SrcR.new w us.toArray 32 1 1)
theorem ob_grown{R:Nat}{w0 w w':World}{v:Value}(h:Ob R w0 w)(hg:w.grownBy w' v.ownBlock)(gr:Gr w w')(hv:∀g,v.ownBlock =some g ->w0.heap.size <=g):Ob R w0 w':=by
  refine⟨hg.os.trans h.os,hg.tape.trans h.tape,hg.output.trans h.output,zO h.size hg.size,λk hk hR =>?_,h.gr.trans gr⟩
  refine(hg.block k (Nat.lt_of_lt_of_le hk h.size) (λe =>?_)).trans (h.block k hk hR)
  have:=hv k e.symm
  omega
theorem jO{w w':World}{v:Value}{g:Nat}{us:List Value}(B:Bk w g us)(hg:w.grownBy w' v.ownBlock)(hv:v.ownBlock≠some g):Bk w' g us:=by
  have hb:=hg.block g B.lt (λe =>hv e.symm)
  exact⟨λj v hj =>(World.cell?_of_block (w:=w) (a:=⟨g,j,none⟩) hb).trans (B.c j v hj),λj =>(World.frozen?_of_block (w:=w) (a:=⟨g,j,none⟩) hb).trans (B.f j),Nat.lt_of_lt_of_le B.lt hg.size⟩
section
variable {P:Program} {ops:Array Oper} {Q:Exit ->Act ->World ->Prop} {md:Region.Mode} {S:World ->Prop} {D:List Nat}
def wpAnyD(P:Program)(md:Region.Mode)(ops:Array Oper)(Q:Exit ->Act ->World ->Prop)(S:World ->Prop)(D:List Nat):Nat ->Array Bool ->Act ->World ->Prop
  |0,listed,a,w =>Region.ready md ops listed = []/\Q .normal a w
  | fuel + 1,listed,a,w =>
    (Region.ready md ops listed = [] ->Q .normal a w)/\
    ∀i∈Region.ready md ops listed,wpOp P ops Q i (λa' w' =>(i ∉ D ->S w')/\wpAnyD P md ops Q S D fuel (listed.setIfInBounds i true) a' w') a w
theorem wpAny_of_D:∀(fuel:Nat) (listed:Array Bool) (a:Act) (w:World),wpAnyD P md ops Q S D fuel listed a w ->wpAny P md ops Q fuel listed a w
  |0,_,_,_,h =>h
  |fuel + 1,_,_,_,h =>⟨h.1,λi hi =>wpOp_mono (λa' w' h' =>wpAny_of_D fuel _ a' w' h'.2) (h.2 i hi)⟩
theorem qE{l:Array Bool}{j k:Nat}(h:j≠k)(b:Bool):(l.setIfInBounds j true).getD k b =l.getD k b:=by
  simp[Array.getD_eq_getD_getElem?,h]
def waitsD(md:Region.Mode)(ops:Array Oper)(D:List Nat)(i:Nat):Bool:=
  D.all λk =>match ops[k]? with|some o =>(o.after.any λe =>Region.binds md e && (e.on ==i || D.contains e.on))|none =>true
theorem wpAnyD_first{i:Nat}{oi:Oper}{v:Value}(hi:ops[i]? =some oi)(hsel:∀(j:Nat) (o:Oper) cs b,ops[j]? =some o ->o.op≠ .select cs b)
    (hQ:∀c a w,Q (.panic c) (a.put oi.dst v) w ->Q (.panic c) a w) (hD:waitsD md ops D i =true) :
    ∀ (fuel:Nat) (listed:Array Bool) (a:Act) (w:World),
      (∀j oj,ops[j]? =some oj ->j≠i ->listed.getD j true =false ->(∀e∈oj.after,Region.binds md e =true ->e.on≠i) ->oi.apart ops oj =true) ->
      i∈Region.ready md ops listed ->YieldsIf P ops S oi v a ->S w ->(∀k∈D,listed[k]? ≠some true) ->
      wpAnyD P md ops Q S D fuel (listed.setIfInBounds i true) (a.put oi.dst v) w ->wpAny P md ops Q (fuel + 1) listed a w:=by
  intro fuel
  induction fuel with
  | zero =>
    intro listed a w _ hr hy hS _ H
    refine⟨λh =>(by rw[h]at hr;cases hr),λj hj =>?_⟩
    by_cases hji:j =i
    ·subst hji;exact hy.wpOp hi hS ⟨H.1,H.2⟩
    · have:=ready_mono hj hji
      rw[H.1]at this
      cases this
  | succ fuel ih =>
    intro listed a w hfree hr hy hS hun H
    refine⟨λh =>(by rw[h]at hr;cases hr),λj hj =>?_⟩
    by_cases hji:j =i
    ·subst hji;exact hy.wpOp hi hS (wpAny_of_D _ _ _ _ H)
    · have h1:=H.2 j (ready_mono hj hji)
      obtain⟨hjun,oj,hoj,hall⟩ :=mem_ready.1 hj
      have hnot:∀e∈oj.after,Region.binds md e =true ->e.on≠i:=λe he hb heq =>by
        have h1:=hall e he hb
        have h0:=(mem_ready.1 hr).1
        rw[heq]at h1
        rcases zR i listed.size with h'|h'
        ·simp[h']at h0 h1;rw[h0]at h1;cases h1
        ·simp[Array.getElem?_eq_none h']at h1
      have hjD:j ∉ D:=λhm =>by
        have h3:=List.all_eq_true.1 hD j hm
        rw[hoj]at h3
        dsimp only at h3
        rw[<-Array.any_toList]at h3
        obtain⟨e,he,h4⟩ :=List.any_eq_true.1 h3
        have he:e∈oj.after:=by simpa using he
        simp only[Bool.and_eq_true,Bool.or_eq_true,beq_iff_eq,List.contains_iff_mem]at h4
        rcases h4.2 with h5|h5
        ·exact hnot e he h4.1 h5
        · have h6:=hall e he h4.1
          have h7:=hun _ h5
          rcases zR e.on listed.size with h'|h'
          ·simp[h']at h6 h7;rw[h6]at h7;cases h7
          ·simp[Array.getElem?_eq_none h']at h6
      have h2:=wpOp_putIf hoj (hfree j oj hoj hji hjun hnot) (λcs b =>hsel i oi cs b hi) (λcs b =>hsel j oj cs b hoj) hQ hy h1
      have hfree':∀k ok,ops[k]? =some ok ->k≠i ->(listed.setIfInBounds j true).getD k true =false ->
          (∀e∈ok.after,Region.binds md e =true ->e.on≠i) ->oi.apart ops ok =true:=λk ok hk hki hun hno =>by
        refine hfree k ok hk hki ?_ hno
        by_cases hjk:j =k
        ·subst hjk;exact hjun
        ·rw[qE hjk true]at hun;exact hun
      have hun':∀k∈D,(listed.setIfInBounds j true)[k]? ≠some true:=λk hk =>by
        have hne:j≠k:=λe =>hjD (e ▸ hk)
        rw[Array.getElem?_setIfInBounds_ne hne]
        exact hun k hk
      refine wpOp_mono (λa' w' h3 =>ih (listed.setIfInBounds j true) a' w' hfree' (ready_mono hr (Ne.symm hji)) h3.1 (h3.2.1 hjD) hun' ?_) h2
      rw[Array.setIfInBounds_comm _ _ hji]
      exact h3.2.2
theorem tkD{fuel:Nat}{listed:Array Bool}{a:Act}{w:World}(i:Nat)(D:List Nat)(S:World ->Prop){T:Nat}{x:Operand}{o:Oper}{p u:Value}(hl:∀w,S w ->(Instr.loadAt T p).run P w =.ok u w)(hS:S w)
    (h:wpAnyD P .any ops Q S D fuel (listed.setIfInBounds i true) (a.put o.dst u) w)
    (hi:ops[i]? =some o:=by rfl) (ho:o.op =.load T x:=by rfl) (he:a.eval x =p:=by kernel_rfl) (hs:Region.noSelect ops =true:=by kernel_rfl) (hf:Region.free .any ops listed i =true:=by kernel_rfl) (hr:(Region.ready .any ops listed).contains i =true:=by kernel_rfl)
    (hD:waitsD .any ops D i =true:=by kernel_rfl) (hun:(D.all λk =>listed[k]? !=some true)=true:=by kernel_rfl)
    (hQ:∀v c a w,Q (.panic c) (a.put o.dst v) w ->Q (.panic c) a w:=by exact λ_ _ _ _ h =>h) (hg:o.guard =none:=by rfl):wpAny P .any ops Q (fuel + 1) listed a w:=
  wpAnyD_first hi (Region.noSelect_spec hs) (hQ _) hD fuel listed a w (Region.free_spec hi hf) (by simpa using hr)
    (.inl ⟨by simp[Region.wanted,hg],λw hw =>by
      unfold execOp
      rw[ho]
      dsimp only
      rw[he]
      simp[hl w hw]⟩) hS (λk hk =>by simpa using List.all_eq_true.1 hun k hk) h
theorem stD{fuel:Nat}{listed:Array Bool}{a:Act}{w:World}{o:Oper}(j:Nat)(ho:ops[j]? =some o)(h:∀K:Act ->World ->Prop,(∀a w,S w ->wpAnyD P .any ops Q S D fuel (listed.setIfInBounds j true) a w ->K a w) ->Oper.wp P o a w K Q)
    (hr:Region.ready .any ops listed = [j] :=by kernel_rfl) (hg:o.guard =none:=by rfl):wpAnyD P .any ops Q S D (fuel + 1) listed a w:=
  ⟨fun h0 =>(by rw[hr]at h0;cases h0),λi hi =>by
    rw[hr]at hi
    obtain rfl:=List.mem_singleton.1 hi
    unfold wpOp
    simp only[ho]
    rw[if_pos (by simp[Region.wanted,hg])]
    exact .inl (h _ λa w h1 h2 =>⟨λ_ =>h1,h2⟩)⟩
theorem wpAnyD_of_any:∀(fuel:Nat) (listed:Array Bool) (a:Act) (w:World),(∀k ok,ops[k]? =some ok ->listed.getD k true =false ->k∈D) ->wpAny P md ops Q fuel listed a w ->wpAnyD P md ops Q S D fuel listed a w
  |0,_,_,_,_,h =>h
  | fuel + 1,listed,a,w,hun,h =>⟨h.1,λi hi =>by
    have hiD:i∈D:=by
      obtain⟨h1,oi,h2,-⟩ :=mem_ready.1 hi
      exact hun i oi h2 h1
    refine wpOp_mono (λa' w' h' =>⟨λhn =>absurd hiD hn,wpAnyD_of_any fuel _ a' w' (λk ok hk hl =>?_) h'⟩) (h.2 i hi)
    by_cases hik:i =k
    ·subst hik;exact hiD
    ·rw[qE hik true]at hl;exact hun k ok hk hl⟩
theorem enD{fuel:Nat}{listed:Array Bool}{a:Act}{w:World}(h:wpAny P .any ops Q fuel listed a w)(hun:((List.range ops.size).all λk =>listed.getD k true || D.contains k)=true:=by kernel_rfl):wpAnyD P .any ops Q S D fuel listed a w:=
  wpAnyD_of_any fuel listed a w (λk ok hk hl =>by
    have hk':k < ops.size:=by
      rcases zR k ops.size with h|h
      ·exact h
      ·rw[Array.getElem?_eq_none h]at hk;cases hk
    have:=List.all_eq_true.1 hun k (List.mem_range.2 hk')
    simpa [hl]using this) h
end
/-! ### What lies in blocks from B on is kept -/
def Kc(B:Nat)(w w':World):Prop:=(∀(p:Addr) (v:Value),B <=p.block ->World.cell? w p =some v ->World.cell? w' p =some v)/\Gr w w'
section
variable {B g:Nat} {a b c:World} {v:Value}
theorem Kc.refl(B:Nat)(w:World):Kc B w w:=⟨λ_ _ _ h =>h,Gr.refl w⟩
theorem Kc.trans(x:Kc B a b)(y:Kc B b c):Kc B a c:=⟨λp v hp h =>y.1 p v hp (x.1 p v hp h),x.2.trans y.2⟩
theorem Kc.ext(e:Ext a b):Kc B a b:=⟨λ_ _ _ h =>e.cell h,e.gr⟩
theorem Kc.ob(O:Ob g a b)(hg:g < B):Kc B a b:=⟨λ_ _ hp h =>O.cell h ze,O.gr⟩
theorem Kc.only(O:OnlyB g a b)(hg:g < B):Kc B a b:=Kc.ob (Ob.only O) hg
theorem Kc.grown(h:Kc B a b)(hg:b.grownBy c v.ownBlock)(gr:Gr b c)(hv:∀g,v.ownBlock =some g ->a.heap.size <=g):Kc B a c:=
  ⟨fun p u hp hc =>by
    have h1:=h.1 p u hp hc
    have h2:=World.block_lt_of_cell? a p hc
    refine(World.cell?_of_block (w:=b) (a:=p) (hg.block p.block (World.block_lt_of_cell? b p h1) λe =>?_)).trans h1
    have:=hv _ e.symm
    omega,h.2.trans gr⟩
theorem Kc.grown2(hg:a.grownBy b v.ownBlock)(gr:Gr a b)(hv:∀g,v.ownBlock =some g ->g < B):Kc B a b:=
  ⟨fun p u hp h1 =>by
    refine(World.cell?_of_block (w:=a) (a:=p) (hg.block p.block (World.block_lt_of_cell? a p h1) λe =>?_)).trans h1
    have:=hv _ e.symm
    omega,gr⟩
theorem NdC.kc{x:Nd}{us:List Value}(h:NdC B a x us)(K:Kc B a b):NdC B b x us:=NdC.kept K.1 K.2 x us h
theorem RwK.base_le{T k base:Nat}{M:List (List Value)}{v:Value}{w:World}(h:RwK T k base M v w)(hM:M≠ []):base <=w.heap.size:=by
  obtain⟨ao,cap,h1,h2,h3,h4,h5⟩ :=h.1.shape
  obtain⟨g,q1,q2,q3,q4⟩ :=h5 (by simpa using hM)
  omega
theorem tNhd_1{P:Prop}(h:P:=by
  obtain rfl:x =z:=by simpa [Nd.ps]using hi
  exact⟨us,hl1,λj u hj =>by have:=q4 0 us rfl j u hj;simpa using this,hx⟩
  ):P:=h
theorem nd_two{base W0:Nat}{w:World}{op:Int}{x y:Nd}{us vs:List Value}{v:Value}(hop: -9223372036854775808 <=op/\op <=9223372036854775807)(h:RwK 32 8 base [us,vs] v w)(hb:W0 <=base)(hx:NdC W0 w x us)(hy:NdC W0 w y vs):
    IsNd W0 (.mk op [] 0 0 0 0 [x,y]) (.agg #[.int .i64 op,.string ⟨#[]⟩,.int .i64 0,.bool false,.slice none 0 0,.int .i64 0,.int .i64 0,v]) w:=by
  have hl1:=hx.len
  have hl2:=hy.len
  obtain⟨ao,cap,rfl,h2,h3,h4⟩ :=h.at (k:=8) (λvs h =>by rcases List.mem_cons.1 h with rfl|h;exact hl1;obtain rfl:=List.mem_singleton.1 h;exact hl2)
  refine⟨_,rfl,NdC.mk' ⟨by simp[Nd.nm],hop.1,hop.2⟩ rfl (IsI.nil _ _) h2 h3 λ_ =>?_⟩
  obtain⟨g,q1,q2,q3,q4⟩ :=h4 zo
  refine⟨g,0,q1,zO hb q2,NdR.of λi z hi =>?_⟩
  rcases i with _|_|i
  ·exact tNhd_1
  · obtain rfl:y =z:=by simpa [Nd.ps]using hi
    exact⟨vs,hl2,λj u hj =>by have:=q4 1 vs rfl j u hj;simpa using this,hy⟩
  ·simp[Nd.ps]at hi
theorem nd_one{base W0:Nat}{w:World}{op:Int}{nm:List UInt8}{lo hi:Int}{x:Nd}{us:List Value}{v:Value}(hop:NdBd nm op)(h:RwK 32 8 base [us] v w)(hb:W0 <=base)(hx:NdC W0 w x us):
    IsNd W0 (.mk op nm 0 0 lo hi [x]) (.agg #[.int .i64 op,qB nm,.int .i64 0,.bool false,.slice none 0 0,.int .i64 lo,.int .i64 hi,v]) w:=by
  have hl1:=hx.len
  obtain⟨ao,cap,rfl,h2,h3,h4⟩ :=h.at (k:=8) (λvs h =>by obtain rfl:=List.mem_singleton.1 h;exact hl1)
  refine⟨_,rfl,NdC.mk' hop rfl (IsI.nil _ _) h2 h3 λ_ =>?_⟩
  obtain⟨g,q1,q2,q3,q4⟩ :=h4 zo
  refine⟨g,0,q1,zO hb q2,NdR.of λi z hi =>?_⟩
  rcases i with _|i
  ·exact tNhd_1
  ·simp[Nd.ps]at hi
end
section
variable {P:Program} {Q:Exit ->Act ->World ->Prop} {o:Oper} {a:Act} {w:World} {K:Act ->World ->Prop}
theorem wp_fa{T f:Nat}{x:Operand}{p r:Value}(hp:(Instr.fieldAt T p f).run P w =.ok r w)(h:K (a.put o.dst r) w)(he:a.eval x =p:=by kernel_rfl)(ho:o.op =.fieldAddr T x f:=by rfl):Oper.wp P o a w K Q:=by
  have h9:(execOp a.eval o).run P w =.ok (.value r) w:=by
    unfold execOp
    rw[ho]
    dsimp only
    rw[he]
    simp[hp]
  unfold Oper.wp
  rw[h9]
  exact h
end
theorem wp_ndo{w:World}{o:Oper}{a:Act}{Q:Exit ->Act ->World ->Prop}{K:Act ->World ->Prop}(t:Tmp)(s x:Operand)
    (ho:o.op =.call {callee:=.builtin .append,args:= #[s,x],argTypes:= #[30,30]}) (base:Nat) (M:List (List Value)) (us:List Value) (v xv:Value) (hs:a.eval s =v) (hx:a.eval x =xv) (hI:RwK 32 8 base M v w) (hu:us.length =8/\ (∀v∈us,NoWord v)/\us.all (λu =>u.oneCell')=true) (hsrc:SrcR 1 us xv w) (hl:M.length <=1000000) (hbase:base <=w.heap.size)
    (h:∀v' w',RwK 32 8 base (M ++ [us]) v' w' ->w.grownBy w' v.ownBlock ->Gr w w' ->(v'.ownBlock =v.ownBlock\/v'.ownBlock =some w.heap.size) ->K (a.put (some t) v') w') (hdt:o.dst =some t:=by rfl):Oper.wp prog o a w K Q:=by
  obtain⟨bytes,hi,hb⟩ :=infoNd
  refine wp_rwnS s x 30 ho base 32 (.agg zNd.toArray) 8 bytes zc hi rfl dcx (λu hu =>nwZN u xd) v M.length M.flatten hs hI.1 hI.2 1 us xv hx (by rw[hu.1]) hsrc (List.all_eq_true.1 hu.2.2) hu.2.1 ze xz hbase ?_
  intro v' w' r1 r2 r3 r4 r5 r6
  rw[hdt]
  exact h v' w' ⟨by rw[zQ,List.flatten_append];simpa using r1,r2⟩ r3 r4 r6
theorem st_Nds(a:Option Addr)(n c:Nat):StC1 prog 30 (.slice a n c) :=λw p v h2 h3 =>by go_simp
theorem nwSl(a:Option Addr)(n c:Nat):NoWord (.slice a n c) :=λx =>by simp
theorem st_strE(s:List UInt8):StC1 prog 9 (qB s) :=λw a v h2 h3 =>by unfold qB;go_simp
theorem Kc.new{B g:Nat}{a b c:World}(h:Kc B a b)(O:OnlyB g b c)(hg:a.heap.size <=g):Kc B a c:=
  ⟨fun p u hp hc =>by
    have h1:=h.1 p u hp hc
    have h2:=World.block_lt_of_cell? a p hc
    exact(Ob.only O).cell h1 ze,h.2.trans O.gr⟩
theorem RwK.ne{T k base g:Nat}{M:List (List Value)}{v:Value}{w w':World}(h:RwK T k base M v w)(O:Ob g w w')(hne:∀g',v.ownBlock =some g' ->g'≠g):RwK T k base M v w':=by
  have hb:∀g,v.ownBlock =some g ->w'.heap[g]? =w.heap[g]? :=λg hg =>O.block g (World.ownsRow.lt h.1 g hg).2 (hne g hg)
  refine⟨?_,h.2.kept hb⟩
  obtain⟨h1,h2| ⟨g,cap,cur,hv,hb2,hg,hr⟩⟩ :=h.1
  ·exact⟨h1,.inl h2⟩
  ·exact⟨h1,.inr ⟨g,cap,cur,hv,hb2,(hb g (by rw[hv];rfl)).trans hg,hr⟩⟩
theorem RwK.bs{us:List Value}(hu:us.length =8/\ (∀v∈us,NoWord v)/\us.all (λu =>u.oneCell')=true)(w:World):RwK 32 8 w.heap.size [us] (.slice (some ⟨w.heap.size,0,none⟩) 1 1) (w.alloc (.cells us.toArray 32)) :=by
  have hg:(w.alloc (.cells us.toArray 32)).heap[w.heap.size]? =some (.cells us.toArray 32) :=by
    show(w.heap.push _)[w.heap.size]? =_
    simp
  refine⟨⟨by simp[hu.1],.inr ⟨w.heap.size,1,us.toArray,rfl,zN _,hg,?_⟩⟩,?_⟩
  ·simp[hu.1,maxLen,List.take_of_length_le]
  · intro g cs e fz h1 h2 u hu'
    obtain rfl:w.heap.size =g:=by cases h1;rfl
    rw[hg]at h2
    cases h2
    exact hu.2.1 u (by simpa using hu')
theorem Ret.ext'{w w':World}{fP:Value ->World ->Prop}{e:Ending}(h:Ret w fP e w'):Ext w w':=let ⟨_,_,h2,_⟩ :=h;h2
section
variable {P:Program} {Q:Exit ->Act ->World ->Prop} {o:Oper} {a:Act} {w:World} {K:Act ->World ->Prop}
theorem wp_lk{T:Nat}{c:Bool}{x y:Operand}{p q r:Value}(hr:(Instr.lookup T p q c).run P w =.ok r w)(h:K (a.put o.dst r) w)(hx:a.eval x =p:=by kernel_rfl)(hy:a.eval y =q:=by kernel_rfl)(ho:o.op =.lookup T x y c:=by rfl):Oper.wp P o a w K Q:=by
  have h9:(execOp a.eval o).run P w =.ok (.value r) w:=by
    unfold execOp
    rw[ho]
    dsimp only
    rw[hx,hy]
    simp[hr]
  unfold Oper.wp
  rw[h9]
  exact h
theorem wp_bo{b:BinOp}{T T2:Nat}{x y:Operand}{p q r:Value}(hp:Sem.run P (do eqGuard b T x y p q;binOp b T p q) w =.ok r w)(h:K (a.put o.dst r) w)(hx:a.eval x =p:=by kernel_rfl)(hy:a.eval y =q:=by kernel_rfl)(ho:o.op =.binOp b T x y T2:=by rfl):Oper.wp P o a w K Q:=by
  have h9:(execOp a.eval o).run P w =.ok (.value r) w:=by
    unfold execOp
    rw[ho]
    dsimp only
    rw[hx,hy]
    cases hg9:Sem.run P (eqGuard b T x y p q) w with
    |ok u w1 =>simp[hg9]at hp ⊢;rw[hp];simp
    |halt e w1 =>simp[hg9]at hp
  unfold Oper.wp
  rw[h9]
  exact h
end
end Go.Proofs.YtenhciieboegbaaGreatDoor
