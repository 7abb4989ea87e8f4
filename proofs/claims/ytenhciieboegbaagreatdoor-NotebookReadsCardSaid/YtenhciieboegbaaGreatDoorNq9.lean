/-
  The reference's reader: steps and memory of second, pair, infix, binding. (Printed by wip/gen/nq8.py.)
  The reference's reader: infix. (Printed by wip/gen/nq9.py.)
-/
import Derived.Test.YtenhciieboegbaaGreatDoorNq7
namespace Go.Proofs.YtenhciieboegbaaGreatDoor
open Go Go.RowKit Go.Maps
open Go.Proofs.Tryz
theorem jk{P:Prop}(h:P:=by rw[List.getElem?_append_right (by have:=hx.len;omega)];simp[hx.len]):P:=h
theorem nd_zr{w w':World}{g:Nat}{T:TypeId}{fz:Nat×Nat}(hz:w.heap[g]? =some (.cells zRd.toArray T fz))(O:OnlyB g w w'):∀(x:Nd),PsO x->∀(B:Nat) (us:List Value),NdC B w x us->NdC B w' x us:=Nd.ind λop nm n v lo hi ps IH=>by
  intro hp B us h;have hps:∀a∈ps,a.op≠0/\PsO a:=by cases hp with|mk h h'=>exact λa ha=>⟨h a ha,h' a ha⟩
  obtain⟨s,a,m,c,ao,cp,rfl,h2,h3,h4,h5⟩:=h.out;refine NdC.mk' h.bd rfl (IsI.gstb _ _ _ _ _ (Ob.only O).gr h2) h3 h4 (λhne=>?_);obtain⟨g',o,q1,q2,q3⟩:=h5 hne;refine⟨g',o,q1,q2,NdR.of λi y hi=>?_⟩;obtain⟨us',r1,r2,r3⟩:=q3.get hi;have hm:y∈ps:=List.mem_of_getElem? hi
  have hg:g'≠g:=by
    rintro rfl;obtain⟨_,_,_,_,_,_,hu,_⟩:=r3.out;have h0:=r2 0 (.int .i64 y.op) (by rw[hu];rfl);simp only[World.cell?,hz,Nat.add_zero]at h0;have h1:zRd[o+8*i]? =some (.int .i64 y.op):=by simpa using h0
    rcases hj:o+8*i with _|_|_|_|_|_|_|_|_|k
    all_goals rw[hj]at h1
    all_goals first|exact(hps y hm).1 (by simpa [zRd,zNd]using h1.symm)| (simp[zRd,zNd]at h1;done)| (simp[zRd,zNd]at h1;exact(hps y hm).1 h1.symm)
  exact⟨us',r1,λj u hj=>(Ob.only O).cell (r2 j u hj) hg,IH y hm (hps y hm).2 B us' r3⟩
def binU(op:Int)(g:Nat):List Value:= [.int .i64 op,.string ⟨#[]⟩,.int .i64 0,.bool false,.slice none 0 0,.int .i64 0,.int .i64 0,.slice (some ⟨g,0,none⟩) 2 2]
def bndU(op:Int)(s:ByteArray)(lo hi:Int)(g:Nat):List Value:= [.int .i64 op,.string s,.int .i64 0,.bool false,.slice none 0 0,.int .i64 lo,.int .i64 hi,.slice (some ⟨g,0,none⟩) 1 1]
section
set_option maxRecDepth 100000
theorem bd_Bin{w:World}{op:Int}{g:Nat}:(Instr.build 32 #[(0,.int .i64 op),(6,.slice (some ⟨g,0,none⟩) 2 2)]).run prog w=.ok (.agg (binU op g).toArray) w:=by unfold binU;go_simp
theorem bd_Bnd{w:World}{op lo hi:Int}{s:ByteArray}{g:Nat}:(Instr.build 32 #[(0,.int .i64 op),(1,.string s),(4,.int .i64 lo),(5,.int .i64 hi),(6,.slice (some ⟨g,0,none⟩) 1 1)]).run prog w=.ok (.agg (bndU op s lo hi g).toArray) w:=by unfold bndU;go_simp
theorem bs2_run{us ts:List Value}(hu:us.length=8)(ht:ts.length=8)(h1:us.all (λu=>u.oneCell')=true)(h2:ts.all (λu=>u.oneCell')=true)(w:World):(Instr.buildSlice 30 2 #[(0,.agg us.toArray),(1,.agg ts.toArray)]).run prog w=.ok (.slice (some ⟨w.heap.size,0,none⟩) 2 2) (w.alloc (.cells (us++ts).toArray 32)):=by
  match us,hu,ts,ht with
  | [u0,u1,u2,u3,u4,u5,u6,u7],_, [t0,t1,t2,t3,t4,t5,t6,t7],_=>
    simp only[List.all_cons,List.all_nil,Bool.and_true,Bool.and_eq_true]at h1 h2
    go_simp
end
theorem nd_bin{B g:Nat}{w:World}{op:Int}{x y:Nd}{us ts:List Value}(ho: -9223372036854775808<=op/\op<=9223372036854775807)(hg:B<=g)(hB:Bk w g (us++ts))(hx:NdC B w x us)(hy:NdC B w y ts):NdC B w ⟨op, [],0,0,0,0, [x,y]⟩ (binU op g):=
  NdC.mk' ⟨by simp[Nd.nm],ho.1,ho.2⟩ rfl (IsI.nil _ _) (zN _) (show(2:Nat)<=9223372036854775807 by decide) (λ_=>⟨g,0,rfl,hg,ndr_two hB hx hy⟩)
theorem nd_bnd{B g:Nat}{w:World}{op lo hi:Int}{nm:List UInt8}{x:Nd}{us:List Value}(hn:nm.length<=4611686018427387904)(ho: -9223372036854775808<=op/\op<=9223372036854775807)(hg:B<=g)(hB:Bk w g us)(hx:NdC B w x us):NdC B w ⟨op,nm,0,0,lo,hi, [x]⟩ (bndU op ⟨nm.toArray⟩ lo hi g):=
  NdC.mk' ⟨hn,ho.1,ho.2⟩ rfl (IsI.nil _ _) (zN _) (show(1:Nat)<=9223372036854775807 by decide) (λ_=>⟨g,0,rfl,hg,ndr_one hB hx⟩)
section
variable {ops:Array Oper} {Q:Exit->Act->World->Prop} {a:Act} {w:World} {o:Oper} {os:List Oper}
theorem lbs2{x y:Operand}{us ts:List Value}(hu:us.length=8)(ht:ts.length=8)(h1:us.all (λu=>u.oneCell')=true)(h2:ts.all (λu=>u.oneCell')=true)
    (h:∀g W',g=w.heap.size->Bk W' g (us++ts)->Ext w W'->wpList prog ops Q os (a.put o.dst (.slice (some ⟨g,0,none⟩) 2 2)) W')
    (ho:o.op=.buildSlice 30 2 #[(0,x),(1,y)]:=by rfl) (hx:a.eval x=.agg us.toArray:=by kernel_rfl) (hy:a.eval y=.agg ts.toArray:=by kernel_rfl) (hg:o.guard=none:=by rfl):wpList prog ops Q (o ::os) a w:=
  stL (λK hK=>by
    have hrun:(execOp a.eval o).run prog w=.ok (.value (.slice (some ⟨w.heap.size,0,none⟩) 2 2)) (w.alloc (.cells (us++ts).toArray 32)):=by
      unfold execOp;rw[ho];dsimp only;simp only[List.map_toArray,List.map_cons,List.map_nil];rw[hx,hy];simp[bs2_run hu ht h1 h2 w]
    unfold Oper.wp;rw[hrun]
    exact hK _ _ (h _ _ rfl (by simpa using Bk.new w (us++ts).toArray 32) ((Ext.refl _).alloc _))) hg
theorem lbs1{x:Operand}{us:List Value}(hu:us.length=8)(h1:us.all (λu=>u.oneCell')=true)
    (h:∀g W',g=w.heap.size->Bk W' g us->Ext w W'->wpList prog ops Q os (a.put o.dst (.slice (some ⟨g,0,none⟩) 1 1)) W')
    (ho:o.op=.buildSlice 30 1 #[(0,x)]:=by rfl) (hx:a.eval x=.agg us.toArray:=by kernel_rfl) (hg:o.guard=none:=by rfl):wpList prog ops Q (o ::os) a w:=
  stL (λ_ hK=>wp_bs hu h1 (λb e _=>hK _ _ (h _ _ rfl b e)) hx ho) hg
end
theorem ret_up{P:Program}{f:FuncId}{args:Array Value}{w:World}{fP fR:Value->World->Prop}(h:Calls P f args w (Ret w fP))(hp:∀v w',fP v w'->fR v w'):Calls P f args w (Ret w fR):=h.mono λ_ _ ⟨v,h1,h2,h3⟩=>⟨v,h1,h2,hp _ _ h3⟩
set_option maxRecDepth 100000 in
theorem ld_R9{w:World}{g:Nat}{us:List Value}{p:Int}(B:Bk w g (us++ [.int .i64 p]))(hl:us.length=8):(Instr.loadAt 82 (.pointer (some ⟨g,0,none⟩))).run prog w=.ok (.agg (us++ [Value.int .i64 p]).toArray) w:=
  ldM zc zc (jT hl) (λj v hj=>by rw[Nat.zero_add];exact B.c j v hj)
theorem word_j{j:Nat}(h4:4<=j)(h13:j<=13)(w:World):Calls prog 73 #[.int .i64 (j:Int)] w (RVal w (qB (opW (j:Int)))):=
  word42_v ze (by rcases(by omega:j=4\/j=5\/j=6\/j=7\/j=8\/j=9\/j=10\/j=11\/j=12\/j=13)with rfl|rfl|rfl|rfl|rfl|rfl|rfl|rfl|rfl|rfl <;> rfl) w
theorem run_parts{s:List UInt8}{a T:Nat}(hT:runI s a=T):(s.drop a).take (T-a)=(s.drop a).takeWhile qH/\(s.drop a).dropWhile qH=s.drop T:=by
  obtain⟨l,hl⟩:∃l,((s.drop a).takeWhile qH).length=l:=⟨_,rfl⟩;have hT2:T=a+l:=by rw[<-hT,runI,hl]
  rw[hT2,Nat.add_sub_cancel_left,<-hl];exact⟨(List.prefix_iff_eq_take.1 (List.takeWhile_prefix _)).symm,(dropL (List.takeWhile_append_dropWhile (p:=qH) (l:=s.drop a))).symm.trans List.drop_drop⟩
theorem IsRd.low{B B':Nat}{s:List UInt8}{o:Option (Nd×List UInt8)}{v:Value}{w:World}(h:IsRd B s o v w)(hb:B'<=B):IsRd B' s o v w:=let ⟨x,us,p,h1,h2,h3⟩:=h;⟨x,us,p,h1,NdC.low hb _ _ h2,h3⟩
section
variable {ops:Array Oper} {Q:Exit->Act->World->Prop} {a:Act} {w:World} {o:Oper} {os:List Oper}
theorem lmx{x:Operand}{p r:Int}(hr:max p 0=r)(h:wpList prog ops Q os (a.put o.dst (.int .i64 r)) w)(ho:o.op=.call {callee:=.builtin .max,args:= #[x,.const (.int .i64 0)],argTypes:= #[3,3]} :=by rfl)(he:a.eval x=.int .i64 p:=by kernel_rfl)(hg:o.guard=none:=by rfl):wpList prog ops Q (o ::os) a w:=
  stL (λK hK=>by
    have hrun:(execOp a.eval o).run prog w=.ok (.value (.int .i64 r)) w:=by
      unfold execOp;rw[ho];dsimp only;unfold resolve;simp only[List.map_toArray,List.map_cons,List.map_nil,he];rw[<-hr]
      go_simp
    unfold Oper.wp;rw[hrun]
    exact hK _ _ h) hg
theorem lb5{P:Program}{T i j l m n:Nat}{x y z u t:Operand}{p q r p2 q2:Value}(v:Value)(hr:(Instr.build T #[(i,p),(j,q),(l,r),(m,p2),(n,q2)]).run P w=.ok v w)(h:wpList P ops Q os (a.put o.dst v) w)(ho:o.op=.build T #[(i,x),(j,y),(l,z),(m,u),(n,t)]:=by rfl)(h1:a.eval x=p:=by kernel_rfl)(h2:a.eval y=q:=by kernel_rfl)(h3:a.eval z=r:=by kernel_rfl)(h4:a.eval u=p2:=by kernel_rfl)(h5:a.eval t=q2:=by kernel_rfl)(hg:o.guard=none:=by rfl):wpList P ops Q (o ::os) a w:=
  lbd v ho (by simp only[List.map_toArray,List.map_cons,List.map_nil];rw[h1,h2,h3,h4,h5];exact hr) h hg
end
section
variable {ops:Array Oper} {Q:Exit->Act->World->Prop} {ds:List (Option Tmp)} {a0:Act} {w0:World} {L:List (Value->World->Prop)} {boxes:List Nat} {i k:Nat} {o:Oper} {os:List Oper}
theorem cl6{P:Program}{f:FuncId}{c:Call}{x1 x2 x3 x4 x5 x6:Operand}{P1 P2 P3 P4 P5 P6 fQ:Value->World->Prop}(he:∀args w,(callFunc f args).run P w=.ok (.enter f args) w)(h1:Od ops ds a0 w0 L i x1 P1)(h2:Od ops ds a0 w0 L i x2 P2)(h3:Od ops ds a0 w0 L i x3 P3)(h4:Od ops ds a0 w0 L i x4 P4)(h5:Od ops ds a0 w0 L i x5 P5)(h6:Od ops ds a0 w0 L i x6 P6)
    (h:∀u1 u2 u3 u4 u5 u6 w,Ext w0 w->P1 u1 w->P2 u2 w->P3 u3 w->P4 u4 w->P5 u5 w->P6 u6 w->Calls P f #[u1,u2,u3,u4,u5,u6] w (Ret w fQ))
    (ho:o.op=.call c:=by rfl) (hc:c.callee=.value (.func f):=by rfl) (ha:c.args= #[x1,x2,x3,x4,x5,x6]:=by rfl) (hi:L.getD i (λ_ _=>True)=fQ:=by kernel_rfl) (hb:boxes.contains i=false:=by kernel_rfl):Ok P ops Q ds a0 w0 L boxes i o:=
  cl he ho hc hi hb λv a w hE hd hf=>by
    rw[ha,show(#[x1,x2,x3,x4,x5,x6]:Array Operand).map a.eval= #[a.eval x1,a.eval x2,a.eval x3,a.eval x4,a.eval x5,a.eval x6]by simp];exact h _ _ _ _ _ _ w hE (h1.out v a w hE hd hf) (h2.out v a w hE hd hf) (h3.out v a w hE hd hf) (h4.out v a w hE hd hf) (h5.out v a w hE hd hf) (h6.out v a w hE hd hf)
end
def ExC(k:Nat):Prop:=∀(b:Sc) (s:List UInt8) (a:Nat) (v:Value) (w:World),IsSg b v w->b.length+k<=900000->s.length<=1000000->a<=s.length->Calls prog 42 #[qB s,.int .i64 (a:Int),v,.int .i64 (k:Int)] w (Ret w (IsRd w.heap.size s (exR k b (s.drop a))))
section
set_option maxRecDepth 100000
set_option maxHeartbeats 8000000
theorem second_no{s:List UInt8}{x:Nd}{us:List Value}{p op:Int}{v d:Value}{B:Nat}{w:World}(hx:NdC B w x us):Calls prog 115 #[qB s,.agg (us++ [Value.int .i64 p]).toArray,.int .i64 op,.int .i64 (-1),v,d] w (Ret w (IsV (.agg noV.toArray))):=by
  obtain⟨sb,hsb⟩:∃y:ByteArray,(⟨s.toArray⟩:ByteArray)=y:=⟨_,rfl⟩;have h1:=hx.nw.2;obtain⟨u0,u1,u2,u3,u4,u5,u6,u7,rfl⟩:=len8 hx.len;simp only[List.all_cons,List.all_nil,Bool.and_true,Bool.and_eq_true]at h1;obtain⟨k0,k1,k2,k3,k4,k5,k6,k7⟩:=h1;rw[qB,hsb]
  obtain⟨W,hW,E,B7,B12⟩:∃W,W=(w.alloc (.cells #[u0,u1,u2,u3,u4,u5,u6,u7,.int .i64 p] 82)).alloc (.cells zRd.toArray 82)/\Ext w W/\Bk W w.heap.size ([u0,u1,u2,u3,u4,u5,u6,u7]++ [Value.int .i64 p])/\Bk W (w.heap.size+1) zRd:=
    ⟨_,rfl,((Ext.refl w).alloc _).alloc _,(Bk.new w _ _).ext ((Ext.refl _).alloc _),by have h:=Bk.new (w.alloc (.cells #[u0,u1,u2,u3,u4,u5,u6,u7,.int .i64 p] 82)) zRd.toArray 82;simpa using h⟩
  unfold zRd zNd at hW;simp only[List.cons_append,List.nil_append]at hW;clear hsb hx B7;go_enter func115,ntmps115;go_upto_region 1 with fail;rw[<-hW];clear hW;clear k0 k1 k2 k3 k4 k5 k6 k7;go_upto_region 2 with fail;refine wp_region_lit (lca [] (en func81) (none_r _) (λv W2 e8 hv=>?_));obtain rfl:v=.agg noV.toArray:=hv;refine lst noV (B12.ext e8) xO rfl rfl zB rfl (λW2a B9 O=>zI ?_);go_wp2_with fail;exact zH (jU results115 zc (lvM zc zc rfl B9)) rfl ⟨_,rfl,O.ext (E.trans e8) (Nat.le_succ _),rfl⟩
theorem tNq9_1{P:Prop}(h:P:=by
  go_upto_region 6 with(go_at_call 43;go_must (refine zG (HA1.out _) ?_;rintro e w1 ⟨rfl,rfl⟩));refine wp_region_lit (lca [] (en func81) (none_r _) (λv W6 e8 hv=>?_));obtain rfl:v=.agg noV.toArray:=hv;refine lst noV (HB2.out.ext e8) xO rfl rfl zB rfl (λW6a B9 O=>zI ?_);go_wp2_with fail;exact zH (jU results115 zc (lvM zc zc rfl B9)) rfl ⟨_,rfl,O.ext (HE2.out.trans e8) (Nat.le_succ _),jP HR.out⟩
  ):P:=h
theorem second_f{k:Nat}(HC:ExC k){b:Sc}{s:List UInt8}{x:Nd}{us:List Value}{p op:Int}{v:Value}{B:Nat}{w:World}(a:Nat)(hx:NdC B w x us)(hB:B<=w.heap.size)(hv:IsSg b v w)(hb:b.length+(k+1)<=900000)(hs:s.length<=1000000)(ha:a<=s.length)(ho: -9223372036854775808<=op/\op<=9223372036854775807):
    Calls prog 115 #[qB s,.agg (us++ [Value.int .i64 p]).toArray,.int .i64 op,.int .i64 (a:Int),v,.int .i64 ((k+1:Nat):Int)] w (Ret w (IsRd B s (secR (exR k b) x op (s.drop a)))):=by
  obtain⟨sb,hsb⟩:∃y:ByteArray,(⟨s.toArray⟩:ByteArray)=y:=⟨_,rfl⟩;have h1:=hx.nw.2;have HO1:=hid h1;have HX:=hid hx;obtain⟨u0,u1,u2,u3,u4,u5,u6,u7,rfl⟩:=len8 hx.len;simp only[List.all_cons,List.all_nil,Bool.and_true,Bool.and_eq_true]at h1;obtain⟨k0,k1,k2,k3,k4,k5,k6,k7⟩:=h1;obtain⟨d,hd⟩:∃d:Int,((k+1:Nat):Int)=d:=⟨_,rfl⟩;have HDW:=hid (show IntKind.i64.wrap (d-1)=(k:Int)by simp only[IntKind.wrap_i64];omega);have HEX:=hid (λw' (e:Ext w w')=>HC b s a v w' (hv.ext e) ze hs ha);rw[qB,hsb]at HEX;have HS:=hid (zL hsb hs);have HBB:=hid (zL hB ho);have hp0:¬((a:Int)<0):=ze
  rw[qB,hsb,hd]
  obtain⟨W,hW,E,B7,B12⟩:∃W,W=(w.alloc (.cells #[u0,u1,u2,u3,u4,u5,u6,u7,.int .i64 p] 82)).alloc (.cells zRd.toArray 82)/\Ext w W/\Bk W w.heap.size ([u0,u1,u2,u3,u4,u5,u6,u7]++ [Value.int .i64 p])/\Bk W (w.heap.size+1) zRd:=
    ⟨_,rfl,((Ext.refl w).alloc _).alloc _,(Bk.new w _ _).ext ((Ext.refl _).alloc _),by have h:=Bk.new (w.alloc (.cells #[u0,u1,u2,u3,u4,u5,u6,u7,.int .i64 p] 82)) zRd.toArray 82;simpa using h⟩
  unfold zRd zNd at hW;simp only[List.cons_append,List.nil_append]at hW;have HB7:=hid B7;have HB12:=hid B12;have HE:=hid E;clear B7 B12 E hsb hs hx hB hv hb ha ho hd HC;go_enter func115,ntmps115;go_upto_region 1 with fail;rw[<-hW];clear hW;clear k0 k1 k2 k3 k4 k5 k6 k7;go_upto_region 3 with fail;clear hp0;refine wp_region_lit (lmv (lmv (lmv (lmv (lbn (b:=.sub) (T:=3) (.int .i64 d) (.int .i64 1) (r:=.int .i64 (k:Int)) (by have hx9:=HDW.out;go_simp) ?_)))));refine lca [.string sb,.int .i64 (a:Int),v,.int .i64 (k:Int)] (en func42) (HEX.out W HE.out) (λv W3 e1 hv=>?_);obtain⟨y,ts,p2,rfl,hy,hp⟩:=hv;refine lbx (ts++ [Value.int .i64 p2]) al_Rd xO rfl (jT hy.len) zB (one_fit hy.nw.2) (λg13 W3a hg13 B13 e2=>zI ?_);have HE2:=hid ((HE.out.trans e1).trans e2);have HB72:=hid ((HB7.out.ext e1).ext e2);have HB2:=hid ((HB12.out.ext e1).ext e2);have HB13:=hid B13;have HY:=hid (hy.ext e2);have HLT:=hid (zL HB12.out.lt hy.len);have c8:=B13.c 8 (.int .i64 p2) zaf;clear e1 e2 HB7 HB12 HE HEX hg13 hy B13
  try go_simp
  rcases hp with⟨hn,rfl⟩| ⟨a',rfl,hal,ho⟩
  · have HR:=hid (show secR (exR k b) x op (s.drop a)=none by rw[secR,hn];rfl)
    have HA1:=hid (jS HS.out.1 (xb:=⟨#[41]⟩) rfl (show aftI s (-1) [41]= -1 from rfl) HS.out.2 dcx dcx ze);clear hn;exact tNq9_1
  obtain⟨q1,hq1⟩:∃q,aftI s (a':Int) [41]=q:=⟨_,rfl⟩;have HA1:=hid (jS HS.out.1 (xb:=⟨#[41]⟩) rfl hq1 HS.out.2 dcx ze ze);rcases jW hal [41]with⟨k1,k2⟩| ⟨k1,k2,k3⟩
  · obtain rfl:q1= -1:=by rw[<-hq1,k2]
    have HR:=hid (show secR (exR k b) x op (s.drop a)=none by rw[secR,ho];show(qG [41] (s.drop a')).bind _=_;rw[k1];rfl);clear hq1 k1 k2 ho hal;exact tNq9_1
  obtain⟨m,hm⟩:∃m,a'+([41]:List UInt8).length=m:=⟨_,rfl⟩;rw[hm]at k1 k2 k3;obtain rfl:q1=(m:Int):=by rw[<-hq1,k2]
  have hm0:¬((m:Int)<0):=ze
  have HR:=hid (show secR (exR k b) x op (s.drop a)=some (⟨op, [],0,0,0,0, [x,y]⟩,s.drop m)by rw[secR,ho];show(qG [41] (s.drop a')).bind _=_;rw[k1];rfl);have HM:=hid k3;clear hq1 k1 k2 k3 ho hal hm;go_upto_region 7 with(go_at_call 43;go_must (refine zG (HA1.out _) ?_;rintro e w1 ⟨rfl,rfl⟩));clear hm0 c8;refine wp_region_lit (lmv (lfa (fa_Rd0 _ w.heap.size) (lld (ld_N HB72.out rfl) (lfa (fa_Rd0 _ g13) (lld (ld_N HB13.out HLT.out.2) ?_)))));refine lbs2 rfl HLT.out.2 HO1.out HY.out.nw.2 (λg36 W7 hg36 B36 e5=>?_);refine lb2 (.agg (binU op g36).toArray) bd_Bin (lmv (lb2 (.agg (binU op g36++ [Value.int .i64 (m:Int)]).toArray) (bd_Rd rfl) ?_));refine lst (binU op g36++ [Value.int .i64 (m:Int)]) (HB2.out.ext e5) xO rfl rfl zB rfl (λW7a B9 O=>zI ?_);go_wp2_with fail;have EF:=O.ext (HE2.out.trans e5) (Nat.le_succ _);have hge:=HE2.out.size;have hlt:=HLT.out.1;have h0:=HBB.out.1;exact zH (jU results115 zc (lvM zc zc rfl B9)) rfl ⟨_,rfl,EF,⟨op, [],0,0,0,0, [x,y]⟩,binU op g36,_,rfl,nd_bin HBB.out.2 ze (O.bk B36 (by have:=HB2.out.lt;omega)) (HX.out.ext EF) (NdC.low ze _ _ ((HY.out.ext e5).ob (Ob.only O) hlt)),.inr ⟨m,rfl,HM.out,HR.out⟩⟩
theorem pair_f{k:Nat}(HC:ExC k){b:Sc}{s:List UInt8}{op:Int}{v:Value}{w:World}(a:Nat)(hv:IsSg b v w)(hb:b.length+(k+1)<=900000)(hs:s.length<=1000000)(ha:a<=s.length)(ho: -9223372036854775808<=op/\op<=9223372036854775807):
    Calls prog 85 #[qB s,.int .i64 (a:Int),.int .i64 op,v,.int .i64 ((k+1:Nat):Int)] w (Ret w (IsRd w.heap.size s (pairR (exR k b) op (s.drop a)))):=by
  obtain⟨sb,hsb⟩:∃y:ByteArray,(⟨s.toArray⟩:ByteArray)=y:=⟨_,rfl⟩;obtain⟨d,hd⟩:∃d:Int,((k+1:Nat):Int)=d:=⟨_,rfl⟩;have HDW:=hid (show IntKind.i64.wrap (d-1)=(k:Int)by simp only[IntKind.wrap_i64];omega);have HEX:=hid (λw' (e:Ext w w')=>HC b s a v w' (hv.ext e) ze hs ha);rw[qB,hsb]at HEX;have HS:=hid (zL hsb hs);rw[qB,hsb,hd];have HV:=hid (zL hv hb);have HO:=hid ho;obtain⟨W,hW,E,B⟩:∃W,W=w.alloc (.cells zRd.toArray 82)/\Ext w W/\Bk W w.heap.size zRd:=zg;unfold zRd zNd at hW;simp only[List.cons_append,List.nil_append]at hW;have HB:=hid B;have HE:=hid E;have HCC:=hid HC;clear B E hsb hs hv hb ha ho HC;go_enter func85,ntmps85;go_upto_region 1 with fail;rw[<-hW];clear hW;refine wp_region_lit (lmv (lmv (lmv (lmv (lbn (b:=.sub) (T:=3) (.int .i64 d) (.int .i64 1) (r:=.int .i64 (k:Int)) (by have hx9:=HDW.out;go_simp) ?_)))));refine lca [.string sb,.int .i64 (a:Int),v,.int .i64 (k:Int)] (en func42) (HEX.out W HE.out) (λv W1 e1 hv=>?_);obtain⟨x,us,p,rfl,hx,hp⟩:=hv;refine lbx (us++ [Value.int .i64 p]) al_Rd xO rfl (jT hx.len) zB (one_fit hx.nw.2) (λg11 W1a hg11 B11 e2=>zI ?_);have HE2:=hid ((HE.out.trans e1).trans e2);have HB2:=hid ((HB.out.ext e1).ext e2);have HB11:=hid B11;have HX:=hid (NdC.low (show w.heap.size+1<=W.heap.size from HB.out.lt) _ _ (hx.ext e2));have HLT:=hid (show w.heap.size+1<=W1a.heap.size from HB2.out.lt);have c8:=B11.c 8 (.int .i64 p) jk;clear e1 e2 HB HE HEX hg11 hx B11
  obtain ⟨q1,HA1,T,HT⟩:∃q1,Hid (∀w',Calls prog 43 #[.string sb,.int .i64 p,.string ⟨#[44,32]⟩] w' (RSame w' (.int .i64 q1)))/\∃T,Hid (T=pairR (exR k b) op (s.drop a)/\∀w',Ext W1a w'->Calls prog 115 #[qB s,.agg (us++ [Value.int .i64 p]).toArray,.int .i64 op,.int .i64 q1,v,.int .i64 ((k+1:Nat):Int)] w' (Ret w' (IsRd (w.heap.size+1) s T))):=by
    rcases hp with⟨hn,rfl⟩| ⟨a',rfl,hal,ho⟩
    ·exact⟨-1,hid (jS HS.out.1 (xb:=⟨#[44,32]⟩) rfl (show aftI s (-1) [44,32]= -1 from rfl) HS.out.2 dcx dcx ze),_,hid ⟨rfl,λw' e=>ret_up (second_no (HX.out.ext e)) (λ_ _ h=>by rw[show _=_ from h];exact jP (by rw[pairR,hn];rfl))⟩⟩
    · rcases jW hal [44,32]with⟨k1,k2⟩| ⟨k1,k2,k3⟩
      ·exact⟨-1,hid (jS HS.out.1 (xb:=⟨#[44,32]⟩) rfl k2 HS.out.2 dcx ze ze),_,hid ⟨rfl,λw' e=>ret_up (second_no (HX.out.ext e)) (λ_ _ h=>by rw[show _=_ from h];exact jP (by rw[pairR,ho];show(qG [44,32] (s.drop a')).bind _=_;rw[k1];rfl))⟩⟩
      · refine⟨_,hid (jS HS.out.1 (xb:=⟨#[44,32]⟩) rfl k2 HS.out.2 dcx ze ze),_,hid ⟨rfl,λw' e=>?_⟩⟩
        rw[show pairR (exR k b) op (s.drop a)=secR (exR k b) x op (s.drop (a'+([44,32]:List UInt8).length))by rw[pairR,ho];show(qG [44,32] (s.drop a')).bind _=_;rw[k1];rfl];exact second_f HCC.out _ (HX.out.ext e) (zO HLT.out e.size) (HV.out.1.ext (HE2.out.trans e)) HV.out.2 HS.out.2 k3 HO.out
  rw[qB,HS.out.1,hd]at HT;clear hp
  try go_simp
  go_upto_region 2 with fail;refine rg 10 (dR 18 10) [IsV (.string sb),IsV (.agg (us++ [Value.int .i64 p]).toArray),iV op,IsV (.string sb),IsP g11 8,iV p,iV q1,IsV (v),iV d,IsRd (w.heap.size+1) s T] [] 1 ?_ ?_
  · refine Rc xe ?_
    refine Rc (lv (fP:=IsV (.agg (us++ [Value.int .i64 p]).toArray)) _ (λw' e=>ld_R9 (HB11.out.ext e) HX.out.len) (qC 11) (λ_ _=>rfl)) ?_;refine Rc (mv (qC (x:=.int .i64 op) 2)) ?_;refine Rc xe ?_;refine Rc (fa (λw=>fa_Rd1 w g11) (qC 11)) ?_;refine Rc (lv (fP:=iV p) _ (λw' e=>ld_At (HB11.out.ext e) HX.out.len) (qA 4 22) (λ_ _=>rfl)) ?_;refine Rc (cl3 (fQ:=iV q1) (en func43) (qA (fP:=IsV (.string sb)) 3 21) (qA (fP:=iV p) 5 23) qD (λx0 x1 x2 w' hE d0 d1 d2=>by{obtain rfl:x0=.string sb:=d0;obtain rfl:x1=.int .i64 p:=d1;obtain rfl:x2=.string ⟨#[44,32]⟩:=d2;exact zG (HA1.out w') (λe w2 h=>⟨_,h.1,h.2▸Ext.refl _,rfl⟩)})) ?_;refine Rc (mv (qC (x:=v) 3)) ?_;refine Rc (mv (qC (x:=.int .i64 d) 4)) ?_;refine Rc (cl6 (fQ:=IsRd (w.heap.size+1) s T) (en func115) (qA (fP:=IsV (.string sb)) 0 18) (qA (fP:=IsV (.agg (us++ [Value.int .i64 p]).toArray)) 1 19) (qA (fP:=iV op) 2 20) (qA (fP:=iV q1) 6 24) (qA (fP:=IsV v) 7 25) (qA (fP:=iV d) 8 26) (λx0 x1 x2 x3 x4 x5 w' hE d0 d1 d2 d3 d4 d5=>by{obtain rfl:x0=_:=d0;obtain rfl:x1=_:=d1;obtain rfl:x2=_:=d2;obtain rfl:x3=_:=d3;obtain rfl:x4=v:=d4;obtain rfl:x5=_:=d5;exact HT.out.2 w' hE})) ?_;exact rn0
  intro y W2 e4 hΦ _;have v9:=hΦ 9 dcx;simp only[lxE,Nat.reduceAdd];obtain⟨z,zs,p3,e9,hz,hzp⟩:=(show IsRd (w.heap.size+1) s T (y 9) W2 from v9);rw[e9];clear v9 hΦ e9;refine stA 10 rfl (λK hK=>zE (us:=zs++ [Value.int .i64 p3]) (HB2.out.ext e4) xO rfl (jT hz.len) zB (λW2a B9 O=>hK _ _ ?_) (ho1:=one_fit hz.nw.2));clear hK K;refine zP zc ?_ _;go_wp2_with fail;refine zH (jU results85 zc (lvM zc zc (jT hz.len) B9)) rfl ⟨_,rfl,O.ext (HE2.out.trans e4) (zN _),z,zs,p3,rfl,NdC.low (Nat.le_succ _) _ _ (hz.ob (Ob.only O) (Nat.lt_succ_self _)),?_⟩;rw[<-HT.out.1];exact hzp
end
theorem opS_len{o:Nat}(h4:4<=o)(h6:o<=6):(opS (o:Int)).length<=1000:=by
  rcases(by omega:o=4\/o=5\/o=6)with rfl|rfl|rfl <;> decide
theorem RdO.bd{α:Type}{s:List UInt8}{o:Option (α×List UInt8)}{x:α}{p:Int}(h:RdO s o x p): -1<=p/\p<=(s.length:Int):=by
  rcases h with⟨-,rfl⟩| ⟨a,rfl,h,-⟩
  ·omega
  ·omega
theorem opW_l6{o:Nat}(h4:4<=o)(h6:o<=6):(opW (o:Int)).length<=1000:=by
  rcases(by omega:o=4\/o=5\/o=6)with rfl|rfl|rfl <;> decide
theorem inf_step{E:List UInt8->Option (Nd×List UInt8)}{s:List UInt8}{R0 T:Option (Nd×List UInt8)}{x:Nd}{p:Int}{o:Nat}(hp:RdO s R0 x p)(ho:o<=6)(hT:T=R0.bind λq=>infF E q (7-o) o):∃q,aftI s p (opS (o:Int))=q/\((q= -1/\T=R0.bind λq=>infF E q (7-(o+1)) (o+1))\/∃m:Nat,q=(m:Int)/\m<=s.length/\T=secR E x (o:Int) (s.drop m)):=by
  refine⟨_,rfl,?_⟩;rw[show 7-o=(7-(o+1))+1 by omega]at hT;rcases hp with⟨h0,rfl⟩| ⟨a,rfl,ha,h0⟩
  ·exact .inl ⟨by rw[aftI,if_neg (by omega)],by rw[hT,h0];rfl⟩
  · rw [h0]at hT ⊢
    have hT:T=infF E (x,s.drop a) (7-(o+1)+1) o:=hT;rw[infF]at hT;rcases jW ha (opS (o:Int))with⟨k1,k2⟩| ⟨k1,k2,k3⟩
    · rw[show qG (opS (o:Int)) (x,s.drop a).2=none from k1]at hT
      exact .inl ⟨k2,hT⟩
    · rw[show qG (opS (o:Int)) (x,s.drop a).2=some _ from k1]at hT
      exact .inr ⟨_,k2,k3,hT⟩
section
set_option maxRecDepth 100000
set_option maxHeartbeats 8000000
theorem infix_f{k:Nat}(HC:ExC k){b:Sc}{s:List UInt8}{v:Value}{w:World}(a:Nat)(hv:IsSg b v w)(hb:b.length+(k+1)<=900000)(hs:s.length<=1000000)(ha:a<=s.length):
    Calls prog 82 #[qB s,.int .i64 (a:Int),v,.int .i64 ((k+1:Nat):Int)] w (Ret w (IsRd w.heap.size s (infR (exR k b) (s.drop a)))):=by
  obtain⟨sb,hsb⟩:∃y:ByteArray,(⟨s.toArray⟩:ByteArray)=y:=⟨_,rfl⟩;obtain⟨d,hd⟩:∃d:Int,((k+1:Nat):Int)=d:=⟨_,rfl⟩;have HDW:=hid (show IntKind.i64.wrap (d-1)=(k:Int)by simp only[IntKind.wrap_i64];omega);have HEX:=hid (λw' (e:Ext w w')=>HC b s a v w' (hv.ext e) ze hs ha);rw[qB,hsb]at HEX;have HS:=hid (zL hsb hs);rw[qB,hsb,hd];have HV:=hid (zL hv hb);obtain⟨W,hW,E,B⟩:∃W,W=w.alloc (.cells zRd.toArray 82)/\Ext w W/\Bk W w.heap.size zRd:=zg;unfold zRd zNd at hW;simp only[List.cons_append,List.nil_append]at hW;have HB:=hid B;have HE:=hid E;have HCC:=hid HC;clear B E hsb hs hv hb ha HC;go_enter func82,ntmps82;go_upto_region 1 with fail;rw[<-hW];clear hW;refine wp_region_lit (lmv (lmv (lmv (lmv (lbn (b:=.sub) (T:=3) (.int .i64 d) (.int .i64 1) (r:=.int .i64 (k:Int)) (by have hx9:=HDW.out;go_simp) ?_)))));refine lca [.string sb,.int .i64 (a:Int),v,.int .i64 (k:Int)] (en func42) (HEX.out W HE.out) (λv W1 e1 hv=>?_);obtain⟨x,us,p,rfl,hx,hp⟩:=hv;refine lbx (us++ [Value.int .i64 p]) al_Rd xO rfl (jT hx.len) zB (one_fit hx.nw.2) (λg11 W1a hg11 B11 e2=>zI ?_);have HE2:=hid ((HE.out.trans e1).trans e2);have HB2:=hid ((HB.out.ext e1).ext e2);have HB11:=hid B11;have HX:=hid (NdC.low (show w.heap.size+1<=W.heap.size from HB.out.lt) _ _ (hx.ext e2));have HLT:=hid (show w.heap.size+1<=W1a.heap.size from HB2.out.lt);have c8:=B11.c 8 (.int .i64 p) jk;clear e1 e2 HB HE HEX hg11 hx B11;have HP:=hid hp;obtain⟨R0,hR0⟩:∃R,exR k b (s.drop a)=R:=⟨_,rfl⟩;rw[hR0]at HP;obtain⟨T,hT⟩:∃T,infR (exR k b) (s.drop a)=T:=⟨_,rfl⟩;have HT:=hid (show infR (exR k b) (s.drop a)=T from hT);have HT0:=hid (show T=R0.bind λq=>infF (exR k b) q (7-4) 4 by rw[<-hT,infR,hR0]);clear hp hR0 hT
  try go_simp
  go_wp2_with fail
  go_loopg [10] 4 (λgk v10 wr=>∃o:Nat,v10=.int .i64 (o:Int)/\gk+o=8/\Hid (Ext W1a wr)/\Hid (4<=o/\T=R0.bind λq=>infF (exR k b) q (7-o) o))
  case atStart=>exact⟨4,rfl,rfl,hid (Ext.refl _),hid ⟨by decide,HT0.out⟩⟩
  case round=>
    obtain⟨o,rfl,hg,HEr,S⟩:=hrel;by_cases ho:o<=6
    · have hil:(o:Int)<=6:=by omega
      have hiw:IntKind.i64.wrap ((o:Int)+1)=((o+1:Nat):Int):=zh
      obtain⟨q1,hq1,hq⟩:=inf_step HP.out ho S.out.2;have hbd:=HP.out.bd;have HA1:=hid (jS HS.out.1 (xb:=⟨(opS (o:Int)).toArray⟩) rfl hq1 HS.out.2 (opS_len S.out.1 ho) hbd.1 hbd.2);have HWD:=hid (λw'=>word_j (j:=o) S.out.1 ze w');have HOO:=hid (zL hg (zL S.out.1 ho));clear hg S ho hq1 hbd;go_upto_region 5 with fail;refine rg 9 [some 22,some 23,some 24,some 25,some 26,some 27,some 28,some 29,some 11] [IsV (.string sb),IsP g11 8,iV p,iV (o:Int),IsV (qB (opW (o:Int))),IsV (qB ([32]++opW (o:Int))),IsV (qB (opS (o:Int))),iV q1,iV q1] [] 0 ?_ ?_
      · refine Rc xe ?_
        refine Rc (fa (λw=>fa_Rd1 w g11) (qC 9)) ?_;refine Rc (lv (fP:=iV p) _ (λw' e=>ld_At (HB11.out.ext (HEr.out.trans e)) HX.out.len) (qA 1 23) (λ_ _=>rfl)) ?_;refine Rc (mv (qC (x:=.int .i64 (o:Int)) 10)) ?_;refine Rc (cl1 (fQ:=IsV (qB (opW (o:Int)))) (en func73) (qA (fP:=iV (o:Int)) 3 25) (λx0 w' hE d0=>by{obtain rfl:x0=.int .i64 (o:Int):=d0;exact zG (HWD.out w') (λe w2 h=>⟨_,h.1,h.2,rfl⟩)})) ?_;refine Rc (ct (s:= [32]) (t:=opW (o:Int)) qD (qA 4 26) (by have:=opW_l6 HOO.out.2.1 HOO.out.2.2;simp;omega)) ?_;refine Rc (ct (s:= [32]++opW (o:Int)) (t:= [32]) (qA 5 27) qD (by have:=opW_l6 HOO.out.2.1 HOO.out.2.2;simp;omega)) ?_;refine Rc (cl3 (fQ:=iV q1) (en func43) (qA (fP:=IsV (.string sb)) 0 22) (qA (fP:=iV p) 2 24) (qA (fP:=IsV (qB (opS (o:Int)))) 6 28) (λx0 x1 x2 w' hE d0 d1 d2=>by{obtain rfl:x0=.string sb:=d0;obtain rfl:x1=.int .i64 p:=d1;obtain rfl:x2=qB (opS (o:Int)):=d2;exact zG (HA1.out w') (λe w2 h=>⟨_,h.1,h.2▸Ext.refl _,rfl⟩)})) ?_;refine Rc (mv (qA (fP:=iV q1) 7 29)) ?_;exact rn0
      intro y W5 e4 hΦ _;have v8:y 8=.int .i64 q1:=hΦ 8 dcx;simp only[lxE,Nat.reduceAdd];rw[v8];clear v8 hΦ;have HE4:=hid (HEr.out.trans e4);clear e4;refine zP zc ?_ _;rcases hq with⟨rfl,hT⟩| ⟨m,rfl,hm,hT⟩
      · have HT1:=hid hT
        clear hT;go_wp2_with fail
        go_roundg (gk-1)
        case measure=>have:=HOO.out.1;have:=HOO.out.2.2;omega
        case rel=>exact⟨o+1,rfl,by have:=HOO.out.1;have:=HOO.out.2.2;omega,HE4,hid ⟨by have:=HOO.out.2.1;omega,HT1.out⟩⟩
      · have hm0:(0:Int)<=(m:Int):=by omega
        have HSE:=hid (λw' (e:Ext W1a w')=>second_f HCC.out m (p:=p) (op:=(o:Int)) (HX.out.ext e) (zO HLT.out e.size) (HV.out.1.ext (HE2.out.trans e)) HV.out.2 HS.out.2 hm (by have:=HOO.out.2;omega));rw[qB,HS.out.1,hd,<-hT]at HSE;clear hT hm;go_upto_region 7 with fail;clear hm0 hil hiw;refine wp_region_lit (lmv (lld (ld_R9 (HB11.out.ext HE4.out) HX.out.len) (lmv (lmv (lmv (lmv ?_))))));refine lca [.string sb,.agg (us++ [Value.int .i64 p]).toArray,.int .i64 (o:Int),.int .i64 (m:Int),v,.int .i64 d] (en func115) (HSE.out W5 HE4.out) (λv W7 e5 hv=>?_);obtain⟨z,zs,p3,rfl,hz,hzp⟩:=hv;refine lst (zs++ [Value.int .i64 p3]) ((HB2.out.ext HE4.out).ext e5) xO rfl (jT hz.len) zB (one_fit hz.nw.2) (λW7a B9 O=>zI ?_);go_wp2_with fail;refine zH (jU results82 zc (lvM zc zc (jT hz.len) B9)) rfl ⟨_,rfl,O.ext ((HE2.out.trans HE4.out).trans e5) (zN _),z,zs,p3,rfl,NdC.low (Nat.le_succ _) _ _ (hz.ob (Ob.only O) (Nat.lt_succ_self _)),?_⟩;rw[HT.out];exact hzp
    · have hil:¬((o:Int)<=6):=by omega
      have HR:=hid (show infR (exR k b) (s.drop a)=none by
        rw[HT.out,S.out.2,show 7-o=0 by omega]
        cases R0 <;> rfl)
      have HB3:=hid (HB2.out.ext HEr.out);have HE3:=hid (HE2.out.trans HEr.out);clear hg S ho;go_upto_region 8 with fail;refine wp_region_lit (lca [] (en func81) (none_r _) (λv W8 e8 hv=>?_));obtain rfl:v=.agg noV.toArray:=hv;refine lst noV (HB3.out.ext e8) xO rfl rfl zB rfl (λW8a B9 O=>zI ?_);go_wp2_with fail;exact zH (jU results82 zc (lvM zc zc rfl B9)) rfl ⟨_,rfl,O.ext (HE3.out.trans e8) (zN _),jP HR.out⟩
end
end Go.Proofs.YtenhciieboegbaaGreatDoor
