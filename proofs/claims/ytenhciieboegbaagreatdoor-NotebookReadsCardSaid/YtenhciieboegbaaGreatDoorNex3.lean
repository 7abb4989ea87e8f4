/-
  The laws' fixed calls answer as the documentation says.
-/
import Derived.Test.YtenhciieboegbaaGreatDoorRgv
namespace Go.Proofs.YtenhciieboegbaaGreatDoor
open Go Go.RowKit Go.Maps
open Go.Proofs.Tryz
theorem ex_prE:prE exL=0:=by
  rw[prE,if_pos ex_rt,ex_shL,if_neg dcx]
theorem ex_prS:prS exL=exText:=by rw[prS,if_pos ex_prE,ex_shL]
theorem ex_pa:paE exText=(exL,0):=by rw[<-ex_shL];exact pa_sh ex_prE
theorem ex_paB:paE exBad=([],420):=by rw[paE,if_neg dcx,ex_bad]
def exM:List Cl:= [⟨[109,105,110],exH⟩]
theorem ex_prM:prE exM=1/\prS exM= []:=by
  have h:prE exM=1:=by rw[prE,exM,ex_rt3];rfl
  exact⟨h,by rw[prS,h];rfl⟩
theorem exL_ok:NmOk exL:=by intro c hc;simp[exL]at hc;rcases hc with rfl|rfl <;> decide
theorem exM_ok:NmOk exM:=by intro c hc;simp[exM]at hc;subst hc;decide
section
variable {P:Program} {ops:Array Oper} {Q:Exit->Act->World->Prop} {ds:List (Option Tmp)} {a0:Act} {w0:World} {L:List (Value->World->Prop)} {boxes:List Nat} {i k:Nat} {o:Oper} {os:List Oper}
def IsNr(B n:Nat)(vs:List Value):Value->World->Prop:=λv w=>∃g,v=.slice (some ⟨g,0,none⟩) n n/\B<=g/\Bk w g vs
theorem IsNr.stb(B n:Nat)(vs:List Value):Stb (IsNr B n vs):=λ_ _ _ e ⟨g,h1,h2,h3⟩=>⟨g,h1,h2,h3.ext e⟩
instance (B n:Nat) (vs:List Value):StbC (IsNr B n vs):=⟨IsNr.stb B n vs⟩
theorem bs2{T e n B:Nat}{x y:Operand}{p q:Value}{vs:List Value}(hx:Od ops ds a0 w0 L i x (IsV p))(hy:Od ops ds a0 w0 L i y (IsV q))(hr:∀w,(Instr.buildSlice T n #[(0,p),(1,q)]).run P w=.ok (.slice (some ⟨w.heap.size,0,none⟩) n n) (w.alloc (.cells vs.toArray e)))(hB:B<=w0.heap.size)
    (ho:o.op=.buildSlice T n #[(0,x),(1,y)]:=by rfl) (hi:L.getD i (λ_ _=>True)=IsNr B n vs:=by kernel_rfl) (hb:boxes.contains i=false:=by kernel_rfl):Ok P ops Q ds a0 w0 L boxes i o:=
  ⟨fun v a w hE hd hf K hK=>by
    have h1:a.eval x=p:=hx.out v a w hE hd hf;have h2:a.eval y=q:=hy.out v a w hE hd hf
    have hrun:(execOp a.eval o).run P w=.ok (.value (.slice (some ⟨w.heap.size,0,none⟩) n n)) (w.alloc (.cells vs.toArray e)):=by
      unfold execOp;rw[ho];dsimp only;simp only[List.map_toArray,List.map_cons,List.map_nil];rw[h1,h2];simp[hr w]
    unfold Oper.wp;rw[hrun];refine hK.out _ _ ((Ext.refl _).alloc _) ?_ (FreshIf.no hb);rw[hi]
    exact⟨_,rfl,zO hB hE.size,by simpa using Bk.new w vs.toArray e⟩⟩
theorem bs1{T e n B:Nat}{x:Operand}{p:Value}{vs:List Value}(hx:Od ops ds a0 w0 L i x (IsV p))(hr:∀w,(Instr.buildSlice T n #[(0,p)]).run P w=.ok (.slice (some ⟨w.heap.size,0,none⟩) n n) (w.alloc (.cells vs.toArray e)))(hB:B<=w0.heap.size)
    (ho:o.op=.buildSlice T n #[(0,x)]:=by rfl) (hi:L.getD i (λ_ _=>True)=IsNr B n vs:=by kernel_rfl) (hb:boxes.contains i=false:=by kernel_rfl):Ok P ops Q ds a0 w0 L boxes i o:=
  ⟨fun v a w hE hd hf K hK=>by
    have h1:a.eval x=p:=hx.out v a w hE hd hf
    have hrun:(execOp a.eval o).run P w=.ok (.value (.slice (some ⟨w.heap.size,0,none⟩) n n)) (w.alloc (.cells vs.toArray e)):=by
      unfold execOp;rw[ho];dsimp only;simp only[List.map_toArray,List.map_cons,List.map_nil];rw[h1];simp[hr w]
    unfold Oper.wp;rw[hrun];refine hK.out _ _ ((Ext.refl _).alloc _) ?_ (FreshIf.no hb);rw[hi]
    exact⟨_,rfl,zO hB hE.size,by simpa using Bk.new w vs.toArray e⟩⟩
theorem bd2{T f g:Nat}{x y:Operand}{p q r:Value}(hx:Od ops ds a0 w0 L i x (IsV p))(hy:Od ops ds a0 w0 L i y (IsV q))(hr:∀w,(Instr.build T #[(f,p),(g,q)]).run P w=.ok r w)(ho:o.op=.build T #[(f,x),(g,y)]:=by rfl)(hi:L.getD i (λ_ _=>True)=IsV r:=by kernel_rfl)(hb:boxes.contains i=false:=by kernel_rfl):Ok P ops Q ds a0 w0 L boxes i o:=
  Ok.of hb λv a w hE hd hf=>by
    have h1:a.eval x=p:=hx.out v a w hE hd hf;have h2:a.eval y=q:=hy.out v a w hE hd hf;refine⟨r,bdG ho ?_,by rw[hi];exact rfl⟩;simp only[List.map_toArray,List.map_cons,List.map_nil];rw[h1,h2];exact hr w
end
theorem bdCl_run{us:List Value}{s:ByteArray}(hu:us.length=8)(w:World):(Instr.build 34 #[(0,.string s),(1,.agg us.toArray)]).run prog w=.ok (.agg (.string s ::us).toArray) w:=by
  match us,hu with
  | [u0,u1,u2,u3,u4,u5,u6,u7],_=>go_simp
theorem st_Tx:StV prog 40 2:=stM zc
theorem st_Pa:StV prog 47 2:=stM zc
theorem al_Tx(w:World):(Instr.alloc 40 true (.tuple #[])).run prog w=.ok (.pointer (some ⟨w.heap.size,0,none⟩)) (w.alloc (.cells [.string ⟨#[]⟩,.int .i64 0].toArray 40)):=by go_simp
theorem al_Pa(w:World):(Instr.alloc 47 true (.tuple #[])).run prog w=.ok (.pointer (some ⟨w.heap.size,0,none⟩)) (w.alloc (.cells [.slice none 0 0,.int .i64 0].toArray 47)):=by go_simp
theorem nwTx(s:ByteArray)(z:Int):∀v∈ [Value.string s,.int .i64 z],NoWord v:=by
  intro v hv;simp only[List.mem_cons,List.not_mem_nil,or_false]at hv;rcases hv with rfl|rfl
  ·exact NoWord.string _
  ·exact NoWord.int64 _
theorem nwPa(a:Option Addr)(n c:Nat)(z:Int):∀v∈ [Value.slice a n c,.int .i64 z],NoWord v:=by
  intro v hv;simp only[List.mem_cons,List.not_mem_nil,or_false]at hv;rcases hv with rfl|rfl
  ·exact nwSl _ _ _
  ·exact NoWord.int64 _
structure XR (B:Nat) (rw:List Value) (w w':World):Prop where
  ext:∀a,Ext a w->a.heap.size<=B->Ext a w'
  gr:Gr w w'
  row:∀g,B<=g->Bk w g rw->Bk w' g rw
  b1:∀g,B<=g->(∃a n c z,Bk w g [.slice a n c,.int .i64 z])->∃a n c z,Bk w' g [.slice a n c,.int .i64 z]
  f1:∀g,B<=g->(∃a n c,Bk w g [.slice a n c,.int .i64 420])->∃a n c,Bk w' g [.slice a n c,.int .i64 420]
  b2:∀g,B<=g->(∃s z,z≠3/\Bk w g [.string s,.int .i64 z])->∃s z,z≠3/\Bk w' g [.string s,.int .i64 z]
  f2:∀g,B<=g->(∃s,Bk w g [.string s,.int .i64 1])->∃s,Bk w' g [.string s,.int .i64 1]
theorem XR.trans{B:Nat}{rw:List Value}{a b c:World}(x:XR B rw a b)(y:XR B rw b c):XR B rw a c:=
  ⟨λk h1 h2=>y.ext k (x.ext k h1 h2) h2,x.gr.trans y.gr,λg hg h=>y.row g hg (x.row g hg h),λg hg h=>y.b1 g hg (x.b1 g hg h),λg hg h=>y.f1 g hg (x.f1 g hg h),λg hg h=>y.b2 g hg (x.b2 g hg h),λg hg h=>y.f2 g hg (x.f2 g hg h)⟩
theorem XR.of{B:Nat}{rw:List Value}{a b:World}(e:Ext a b):XR B rw a b:=
  ⟨λ_k h1 _=>h1.trans e,e.gr,λ_g _ h=>h.ext e,λ_g _ ⟨a,n,c,z,h⟩=>⟨a,n,c,z,h.ext e⟩,λ_g _ ⟨a,n,c,h⟩=>⟨a,n,c,h.ext e⟩,λ_g _ ⟨s,z,h1,h⟩=>⟨s,z,h1,h.ext e⟩,λ_g _ ⟨s,h⟩=>⟨s,h.ext e⟩⟩
theorem XR.put1{B g:Nat}{s0:ByteArray}{rs:List Value}{w w':World}{a0 a1:Option Addr}{n0 c0 n1 c1:Nat}{z0:Int}(hB:B<=g)(h:Bk w g [.slice a0 n0 c0,.int .i64 z0])(O:OnlyB g w w')(h':Bk w' g [.slice a1 n1 c1,.int .i64 420]):XR B (.string s0 ::rs) w w':=by
  have c:World.cell? w ⟨g,0,none⟩=some (.slice a0 n0 c0):=h.c 0 _ rfl
  have ne:∀(g':Nat) (s:ByteArray) (vs:List Value),Bk w g' (.string s ::vs)->g'≠g:=λg' s vs hb e=>by
    have:=hb.c 0 _ rfl;rw[e,c]at this;cases this
  refine⟨λk e hk=>O.ext e (zO hk hB),O.gr,λg' _ hb=>O.bk hb (ne g' _ _ hb),λg' _ ⟨a,n,c,z,hb⟩=>?_,λg' _ ⟨a,n,c,hb⟩=>?_,λg' _ ⟨s,z,h1,hb⟩=>⟨s,z,h1,O.bk hb (ne g' _ _ hb)⟩,λg' _ ⟨s,hb⟩=>⟨s,O.bk hb (ne g' _ _ hb)⟩⟩
  · by_cases e:g'=g
    ·subst e;exact⟨_,_,_,_,h'⟩
    ·exact⟨_,_,_,_,O.bk hb e⟩
  · by_cases e:g'=g
    ·subst e;exact⟨_,_,_,h'⟩
    ·exact⟨_,_,_,O.bk hb e⟩
theorem XR.put2{B g:Nat}{s0:ByteArray}{rs:List Value}{w w':World}{s1 s2:ByteArray}{z0:Int}(hB:B<=g)(h:Bk w g [.string s1,.int .i64 z0])(hz:z0≠3)(O:OnlyB g w w')(h':Bk w' g [.string s2,.int .i64 1]):XR B (.string s0 :: .int .i64 3 ::rs) w w':=by
  have c:World.cell? w ⟨g,0,none⟩=some (.string s1):=h.c 0 _ rfl;have c1:World.cell? w ⟨g,1,none⟩=some (.int .i64 z0):=h.c 1 _ rfl
  have ne:∀(g':Nat) (a:Option Addr) (n k:Nat) (vs:List Value),Bk w g' (.slice a n k ::vs)->g'≠g:=λg' a n k vs hb e=>by
    have:=hb.c 0 _ rfl;rw[e,c]at this;cases this
  refine⟨λk e hk=>O.ext e (zO hk hB),O.gr,λg' _ hb=>O.bk hb (λe=>?_),λg' _ ⟨a,n,c,z,hb⟩=>⟨_,_,_,_,O.bk hb (ne g' _ _ _ _ hb)⟩,λg' _ ⟨a,n,c,hb⟩=>⟨_,_,_,O.bk hb (ne g' _ _ _ _ hb)⟩,λg' _ ⟨s,z,h1,hb⟩=>?_,λg' _ ⟨s,hb⟩=>?_⟩
  · have:=hb.c 1 _ rfl
    rw[e,c1]at this;injection this with this;injection this with _ this;exact hz this
  · by_cases e:g'=g
    ·subst e;exact⟨_,1,by decide,h'⟩
    ·exact⟨_,_,h1,O.bk hb e⟩
  · by_cases e:g'=g
    ·subst e;exact⟨_,h'⟩
    ·exact⟨_,O.bk hb e⟩
def IsBad:Value->World->Prop:=λv _=>∃a n c,v=.agg #[.slice a n c,.int .i64 420]
def NB1(B:Nat):Value->World->Prop:=λv w=>∃g,v=.pointer (some ⟨g,0,none⟩)/\B<=g/\∃a n c z,Bk w g [.slice a n c,.int .i64 z]
def NF1(B:Nat):Value->World->Prop:=λv w=>∃g,v=.pointer (some ⟨g,0,none⟩)/\B<=g/\∃a n c,Bk w g [.slice a n c,.int .i64 420]
def NB2(B:Nat):Value->World->Prop:=λv w=>∃g,v=.pointer (some ⟨g,0,none⟩)/\B<=g/\∃s z,z≠3/\Bk w g [.string s,.int .i64 z]
def NF2(B:Nat):Value->World->Prop:=λv w=>∃g,v=.pointer (some ⟨g,0,none⟩)/\B<=g/\∃s,Bk w g [.string s,.int .i64 1]
section
set_option maxRecDepth 100000
set_option maxHeartbeats 16000000
theorem examples_f{w:World}(T:TabM w):Calls prog 9 #[] w (Ret w (IsV (.bool true))):=by
  have HT:=hid T;clear T;obtain⟨sb,hsb⟩:∃y:ByteArray,(⟨exText.toArray⟩:ByteArray)=y:=⟨_,rfl⟩;have HSB:=hid hsb;go_enter func9,ntmps9;go_upto_region 2 with fail;rw[show(Value.string ⟨(([104,32,61,32,118,97,108,117,101,40,34,99,58,45,50,51,34,44,32,48,41,10,110,32,61,32,99,111,117,110,116,40,100,44,32,51]:List UInt8).append [44,32,49,48,48,44,32,101,113,117,97,108,40,118,97,108,117,101,40,34,104,58,123,100,125,34,44,32,48,41,44,32,49,50,41,41,10]).toArray⟩)=.string sb from by rw[<-hsb];rfl];clear hsb;go_upto_region 3 with(go_at_call 27;refine zG (example_f w) ?_;rintro e w1 ⟨v,rfl,e1,hv⟩;obtain⟨ao,cp,hv2,-⟩:=id hv;obtain rfl:v=.slice ao 2 cp:=hv2;have hv:=hid hv;have e1:=hid e1);have HV:=hid hv.out;have HE:=hid e1.out;clear hv e1;refine wp_region_lit ?_;refine stL (λK hK=>qV (hK _ _ ?_));clear hK K
  go_simp
  refine stL (λK hK=>?_);refine qM (us:= [.slice ao 2 cp]) (en func14) zc (printed_f (HV.out.low (Nat.zero_le _)) dcx exL_ok (HT.out.1.ext HE.out)) (λv2 w2 h=>hK _ _ ?_) (λch X h=>by{obtain⟨x,hx,_⟩:=h;cases hx}) (λX h=>by{obtain⟨x,hx,_⟩:=h;cases hx});clear hK K;obtain⟨v3,h0,e2,hv3⟩:=h;cases h0;have hv4:v2=.agg #[.string sb,.int .i64 0]:=by rw[hv3,ex_prS,ex_prE,qB,HSB.out]
  subst hv4;have HE2:=hid (HE.out.trans e2);have HV2:=hid (HV.out.ext e2);clear e2 hv3 HE HV
  go_simp
  refine stL (λK hK=>qV (hK _ _ ?_));clear hK K
  go_simp
  refine stL (λK hK=>?_);refine qM (us:= [.string sb]) (R:=Ret w2 (IsPa w2.heap.size exL 0)) (en func19) zc (by have h:=parsed_f (s:=exText) (w:=w2) dcx (HT.out.1.ext HE2.out);rw[ex_pa,qB,HSB.out]at h;exact h) (λv5 w3 h=>hK _ _ ?_) (λch X h=>by{obtain⟨x,hx,_⟩:=h;cases hx}) (λX h=>by{obtain⟨x,hx,_⟩:=h;cases hx});clear hK K;obtain⟨v6,h0,e3,l2,rfl,hl2⟩:=h;cases h0;obtain⟨ao2,cp2,hv2,-⟩:=id hl2;obtain rfl:l2=.slice ao2 2 cp2:=hv2;have HE3:=hid (HE2.out.trans e3);have HV3:=hid (HV2.out.ext e3);have HP3:=hid (hl2.low (Nat.zero_le _));clear e3 HE2 HV2 hl2
  go_simp
  refine stL (λK hK=>?_);refine jJ (vs:= [.string ⟨#[]⟩,.int .i64 0]) al_Tx (λBn e4=>hK _ _ ?_);obtain⟨g3,hg⟩:∃g,w3.heap.size=g:=⟨_,rfl⟩;have HG_g3:=hid hg;rw[hg]at Bn ⊢;generalize w3.alloc (.cells ([.string ⟨#[]⟩,.int .i64 0]).toArray 40)=Y1 at Bn e4 ⊢;clear hK K hg
  try go_simp
  have HB3:=hid Bn;have EX4:=hid e4;clear Bn e4;refine stL (λK hK=>?_);refine jJ (vs:= [.slice none 0 0,.int .i64 0]) al_Pa (λBn e5=>hK _ _ ?_);obtain⟨g4,hg⟩:∃g,Y1.heap.size=g:=⟨_,rfl⟩;have HG_g4:=hid hg;rw[hg]at Bn ⊢;generalize Y1.alloc (.cells ([.slice none 0 0,.int .i64 0]).toArray 47)=Y2 at Bn e5 ⊢;clear hK K hg
  try go_simp
  have HB4:=hid Bn;have EX5:=hid (EX4.out.trans e5);have HB35:=hid (HB3.out.ext e5);have HGG:=hid (show g3<g4/\w3.heap.size<=g3 by have h2:=HB3.out.lt;have h3:=HG_g4.out;have h4:=HG_g3.out;omega);clear Bn e5 EX4 HB3;refine stL (λK hK=>?_);refine zE (us:= [.string sb,.int .i64 0]) HB35.out st_Tx rfl rfl (nwTx _ _) (λX1 B9 O=>hK _ _ ?_);have HB36:=hid B9;have EX6:=hid (O.ext EX5.out HGG.out.2);have HB46:=hid (O.bk HB4.out (by have:=HGG.out;omega));clear hK K O B9 HB35 HB4 EX5;refine stL (λK hK=>?_);refine zE (us:= [.slice ao2 2 cp2,.int .i64 0]) HB46.out st_Pa rfl rfl (nwPa _ _ _ _) (λX2 B9 O=>hK _ _ ?_);have HB37:=hid (O.bk HB36.out (by have:=HGG.out;omega));have EX7:=hid (O.ext EX6.out (by have:=HGG.out;omega));have HB47:=hid B9;have HE7:=hid (HE3.out.trans EX7.out);have HV7:=hid (HV3.out.ext EX7.out);have HP7:=hid (HP3.out.ext EX7.out);clear hK K O B9 HB36 HB46 EX6 EX7 HE3 HV3 HP3 HG_g3 HG_g4;refine zI ?_;obtain⟨g,o,c0,us,hv9,-,hl8,hcs,hy2⟩:=HV7.out.get (i:=0) rfl;obtain⟨rfl,rfl⟩:ao=some ⟨g,o,none⟩/\cp=c0:=by injection hv9 with q1 q2 q3;exact⟨q1,q3⟩
  obtain⟨rs,rfl⟩:∃rs,us=.int .i64 3 ::rs:=by
    obtain⟨_,_,_,_,_,_,h,_⟩:=hy2.out;exact⟨_,h⟩
  have HC:=hid (zL hl8 hcs);have HY:=hid hy2;clear hv9 hl8 hcs hy2;go_upto_region 4 with fail
  refine wp_region_rgv (XR X2.heap.size (.string ⟨#[109,105,110]⟩ :: .int .i64 3 ::rs)) 12 [some 12,some 13,some 14,some 15,some 16,some 17,some 18,some 19,some 5,some 6,none,none]
    [IsBad,IsV (.slice (some ⟨g,o,none⟩) 2 cp),IsP g o,IsP g (o+1),IsV (.agg (Value.int .i64 3 ::rs).toArray),IsV (.agg (Value.string ⟨#[109,105,110]⟩ :: .int .i64 3 ::rs).toArray),IsNr X2.heap.size 1 (.string ⟨#[109,105,110]⟩ :: .int .i64 3 ::rs),IsV (.agg #[.string ⟨#[]⟩,.int .i64 1]),NB1 X2.heap.size,NB2 X2.heap.size,TT,TT]
    [none,none,none,none,none,none,none,none,none,none,some (8,NF1 X2.heap.size),some (9,NF2 X2.heap.size)] zc zc zc zc zc XR.trans XR.of ?_ ?_ ?_ ?_
  ·exact⟨λ_ _ _ _ h=>h,λ_ _ _ _ h=>h,λ_ _ _ _ h=>h,λ_ _ _ _ h=>h,λ_ _ _ _ h=>h,λ_ _ _ _ h=>h,λ_ _ _ r ⟨g,h1,h2,h3⟩=>⟨g,h1,h2,r.row g h2 h3⟩,λ_ _ _ _ h=>h,λ_ _ _ r ⟨g,h1,h2,h3⟩=>⟨g,h1,h2,r.b1 g h2 h3⟩,λ_ _ _ r ⟨g,h1,h2,h3⟩=>⟨g,h1,h2,r.b2 g h2 h3⟩,λ_ _ _ _ h=>h,λ_ _ _ _ h=>h,trivial⟩
  · intro i hi j F ht
    have hi':i=10\/i=11:=by
      rcases i with _|_|_|_|_|_|_|_|_|_|_|_|i
      all_goals first| (left;rfl)| (right;rfl)|omega| (cases ht)
    rcases hi' with rfl|rfl
    · simp only[List.getD_cons_succ,List.getD_cons_zero,Option.some.injEq,Prod.mk.injEq]at ht
      obtain⟨rfl,rfl⟩:=ht;exact⟨by kernel_rfl,λ_ _ _ r ⟨g,h1,h2,h3⟩=>⟨g,h1,h2,r.f1 g h2 h3⟩,λ_ _=>trivial⟩
    · simp only[List.getD_cons_succ,List.getD_cons_zero,Option.some.injEq,Prod.mk.injEq]at ht
      obtain⟨rfl,rfl⟩:=ht;exact⟨by kernel_rfl,λ_ _ _ r ⟨g,h1,h2,h3⟩=>⟨g,h1,h2,r.f2 g h2 h3⟩,λ_ _=>trivial⟩
  · refine RcV XR.of (λw' q=>cl1 (fP:=IsV (qB exBad)) (fQ:=IsBad) (en func19) (qD (x:=qB exBad)) (λx0 w2 hE d0=>by{obtain rfl:x0=qB exBad:=d0;refine zG (parsed_f (s:=exBad) (w:=w2) dcx (HT.out.1.ext (HE7.out.trans ((q.ext _ (Ext.refl _) (zN _)).trans hE)))) ?_;rintro e w5 ⟨v,rfl,e5,u,rfl,hu⟩;rw[ex_paB]at hu ⊢;obtain⟨ao,c,rfl,-⟩:=hu;exact⟨_,rfl,e5,_,_,_,rfl⟩})) ?_
    refine RcV XR.of (λw' q=>mv (qC 2)) ?_;refine RcV XR.of (λw' q=>ixq (λw=>by have h:=ix_Cl g o cp 2 0 dcx w;simpa using h) (qA (fP:=IsV (.slice (some ⟨g,o,none⟩) 2 cp)) 1 13) qD) ?_;refine RcV XR.of (λw' q=>fa (fa_Cl1 g o) (qA 2 14)) ?_;refine RcV XR.of (λw' q=>lv (fP:=IsV (.agg (Value.int .i64 3 ::rs).toArray)) _ (λw2 e=>ldM zc zc HC.out.1 (λj v hj=>((q.ext _ (Ext.refl _) (zN _)).trans e).cell (by have:=HC.out.2 (j+1) v ja;rwa [show o+1+j=o+9*0+(j+1)by omega]))) (qA 3 15) (λ_ _=>rfl)) ?_;refine RcV XR.of (λw' q=>bd2 (p:=.string ⟨#[109,105,110]⟩) (q:=.agg (Value.int .i64 3 ::rs).toArray) qD (qA (fP:=IsV (.agg (Value.int .i64 3 ::rs).toArray)) 4 16) (λw=>bdCl_run HC.out.1 w)) ?_;refine RcV XR.of (λw' q=>bs1 (p:=.agg (Value.string ⟨#[109,105,110]⟩ :: .int .i64 3 ::rs).toArray) (qA 5 17) (λw=>bsC_run (by rw[List.length_cons,HC.out.1]) (by rw[List.all_cons,HY.out.nw.2];rfl) w) (q.gr.1)) ?_;refine RcV XR.of (λw' q=>cl1 (fP:=IsNr X2.heap.size 1 (.string ⟨#[109,105,110]⟩ :: .int .i64 3 ::rs)) (fQ:=IsV (.agg #[.string ⟨#[]⟩,.int .i64 1])) (en func14) (qA 6 18) (λx0 w2 hE d0=>by{obtain⟨g6,rfl,h1,h2⟩:=d0;have E2:=(q.ext _ (Ext.refl _) (zN _)).trans hE;have h:=printed_f (l:=exM) (cs_one (B:=0) (n1:= [109,105,110]) h2 (Nat.zero_le _) (NdC.low (Nat.zero_le _) _ _ (HY.out.ext E2))) dcx exM_ok (HT.out.1.ext (HE7.out.trans E2));rw[ex_prM.1,ex_prM.2]at h;exact h})) ?_;refine RcV XR.of (λw' q=>alX (fQ:=NB1 X2.heap.size) (vs:= [.slice none 0 0,.int .i64 0]) al_Pa (λw2 e=>⟨_,rfl,zO q.gr.1 e.size,_,_,_,_,by simpa using Bk.new w2 #[.slice none 0 0,.int .i64 0] 47⟩)) ?_;refine RcV XR.of (λw' q=>alX (fQ:=NB2 X2.heap.size) (vs:= [.string ⟨#[]⟩,.int .i64 0]) al_Tx (λw2 e=>⟨_,rfl,zO q.gr.1 e.size,_,0,by decide,by simpa using Bk.new w2 #[.string ⟨#[]⟩,.int .i64 0] 40⟩)) ?_;refine RcT 8 5 (T:=47) (fR:=IsBad) (λw' x u q hx hu=>?_) (λw' q=>qA (fP:=IsBad) 0 12) ?_
    · obtain⟨g8,rfl,h8,a1,n1,c1,z1,b1⟩:=hx
      obtain⟨a2,n2,c2,rfl⟩:=hu;obtain⟨O,B9⟩:=b1.putO (us:= [.slice a2 n2 c2,.int .i64 420]) rfl (nwPa _ _ _ _);exact⟨_,st_Pa w' g8 _ [.slice a2 n2 c2,.int .i64 420] rfl rfl rfl b1,XR.put1 h8 b1 O B9,g8,rfl,h8,_,_,_,B9⟩
    refine RcT 9 6 (T:=40) (fR:=IsV (.agg #[.string ⟨#[]⟩,.int .i64 1])) (λw' x u q hx hu=>?_) (λw' q=>qA (fP:=IsV (.agg #[.string ⟨#[]⟩,.int .i64 1])) 7 19) ?_
    · obtain⟨g9,rfl,h9,s1,z1,hz,b1⟩:=hx
      obtain rfl:u=.agg #[.string ⟨#[]⟩,.int .i64 1]:=hu;obtain⟨O,B9⟩:=b1.putO (us:= [.string ⟨#[]⟩,.int .i64 1]) rfl (nwTx _ _);exact⟨_,st_Tx w' g9 _ [.string ⟨#[]⟩,.int .i64 1] rfl rfl rfl b1,XR.put2 h9 b1 hz O B9,g9,rfl,h9,_,B9⟩
    exact RgAllV.nil
  intro u X4 q hΦ hF;obtain⟨g5,q8,-,a5,n5,c5,hb5⟩:=hF 10 dcx 8 (NF1 X2.heap.size) rfl;obtain⟨g6,q9,-,s6,hb6⟩:=hF 11 dcx 9 (NF2 X2.heap.size) rfl;have e4:Ext X2 X4:=q.ext _ (Ext.refl _) (zN _);have HB5:=hid hb5;have HB6:=hid hb6;have HE8:=hid (HE7.out.trans e4);have HV8:=hid (HV7.out.ext e4);have HP8:=hid (HP7.out.ext e4);have HB38:=hid (HB37.out.ext e4);have HB48:=hid (HB47.out.ext e4);simp only[lxE,Nat.reduceAdd];rw[q8,q9];clear hΦ hF q q8 q9 hb5 hb6 e4 HE7 HV7 HP7 HB37 HB47;refine zP zc ?_ _;have k0:=HB38.out.c 0 _ rfl;have k1:=HB38.out.c 1 _ rfl;have k2:=HB48.out.c 0 _ rfl;have k3:=HB48.out.c 1 _ rfl;have k4:=HB5.out.c 1 _ rfl;have k5:=HB6.out.c 1 _ rfl;have HS:=hid (Same42_f HP8.out (HV8.out.low (Nat.zero_le _)) dcx);rw[(sameB_iff exL exL).2 rfl]at HS;go_upto_region 7 with(go_at_call 21;refine zG HS.out ?_;rintro e w5 ⟨x1,rfl,e5,hx1⟩;obtain rfl:x1=.bool true:=hx1);have HE9:=hid (HE8.out.trans e5);have HV9:=hid (HV8.out.ext e5);clear k0 k1 k2 k3 k4 k5 HS e5 HB38 HB48 HB5 HB6 HE8 HV8 HP8 HC HY;obtain⟨g',o',c0,us,hv9,-,hl8,hcs,hy2⟩:=HV9.out.get (i:=0) rfl;obtain⟨rfl,rfl,rfl⟩:g'=g/\o'=o/\cp=c0:=by injection hv9 with q1 q2 q3;injection q1 with q1;injection q1 with q1 q4;exact⟨q1.symm,q4.symm,q3⟩
  have HC:=hid (zL hl8 hcs);have HY:=hid hy2;have H9:=hid (show(Value.string ⟨#[104]⟩ ::us).length=9 by rw[List.length_cons,hl8]);have HLD:=hid (λ(w':World) (e:Ext w5 w')=>ldM (T:=34) zc zc H9.out (w:=w') (g:=g') (f:=o') (λj v hj=>e.cell (by have:=HC.out.2 j v hj;rwa [show o'+9*0+j=o'+j by omega]at this)));obtain⟨u0,u1,u2,u3,u4,u5,u6,u7,hus⟩:=len8 hl8;have hone:=hy2.nw.2;clear hv9 hl8 hcs hy2
  refine rg 24 [some 51,some 52,some 53,some 54,some 55,some 56,some 57,some 58,some 59,some 60,some 61,some 62,some 63,some 64,some 65,some 66,some 67,some 68,some 69,some 70,some 71,some 72,some 73,some 0]
    [IsV (.slice (some ⟨g',o',none⟩) 2 cp),IsV (.bool true),IsV (.bool true),IsV (.slice (some ⟨g',o',none⟩) 2 cp),IsP g' o',IsV (.agg (Value.string ⟨#[104]⟩ ::us).toArray),IsV (.slice (some ⟨g',o',none⟩) 2 cp),IsP g' o',IsV (.agg (Value.string ⟨#[104]⟩ ::us).toArray),IsNr 0 2 ((Value.string ⟨#[104]⟩ ::us)++(Value.string ⟨#[104]⟩ ::us)),IsV (.bool false),IsV (.bool true),IsV (.bool true),IsV (.bool true),IsV (.string ⟨#[101,58,55,58,49,58,55]⟩),IsV (.bool true),IsV (.bool true),IsV (.bool true),IsV (.agg #[.int .i64 2,.string ⟨#[98]⟩,.int .i64 0,.bool false,.slice none 0 0,.int .i64 0,.int .i64 0,.slice none 0 0]),IsSr [[98]],IsNr 0 1 [.string ⟨#[98]⟩],IsV (.bool true),IsV (.bool true),IsV (.bool true)] [] 0 ?_ ?_
  · refine Rc (mv (qC 2)) ?_
    refine Rc (cl1 (fP:=IsV (.slice (some ⟨g',o',none⟩) 2 cp)) (fQ:=IsV (.bool true)) (en func12) (qA 0 51) (λx0 w' hE d0=>by{obtain rfl:x0=.slice (some ⟨g',o',none⟩) 2 cp:=d0;refine zG (right_f ((HV9.out.low (Nat.zero_le _)).ext hE) dcx exL_ok) ?_;rintro e w6 ⟨rfl,e6⟩;exact⟨_,rfl,e6,by rw[ex_rt];rfl⟩})) ?_;refine Rc (mv (qA (fP:=IsV (.bool true)) 1 52)) ?_;refine RcG 2 53 true (mv (qC 2)) ?_;refine RcG 2 53 true (ixq (λw=>by have h:=ix_Cl g' o' cp 2 0 dcx w;simpa using h) (qA (fP:=IsV (.slice (some ⟨g',o',none⟩) 2 cp)) 3 54) qD) ?_;refine RcG 2 53 true (lv (fP:=IsV (.agg (Value.string ⟨#[104]⟩ ::us).toArray)) _ (λw' e=>HLD.out w' e) (qA 4 55) (λ_ _=>rfl)) ?_;refine RcG 2 53 true (mv (qC 2)) ?_;refine RcG 2 53 true (ixq (λw=>by have h:=ix_Cl g' o' cp 2 0 dcx w;simpa using h) (qA (fP:=IsV (.slice (some ⟨g',o',none⟩) 2 cp)) 6 57) qD) ?_;refine RcG 2 53 true (lv (fP:=IsV (.agg (Value.string ⟨#[104]⟩ ::us).toArray)) _ (λw' e=>HLD.out w' e) (qA 7 58) (λ_ _=>rfl)) ?_;refine RcG 2 53 true (bs2 (p:=.agg (Value.string ⟨#[104]⟩ ::us).toArray) (q:=.agg (Value.string ⟨#[104]⟩ ::us).toArray) (e:=34) (T:=25) (n:=2) (vs:=(Value.string ⟨#[104]⟩ ::us)++(Value.string ⟨#[104]⟩ ::us)) (qA 5 56) (qA 8 59) (λw=>by subst hus;simp only[List.all_cons,List.all_nil,Bool.and_true,Bool.and_eq_true]at hone;go_simp) (Nat.zero_le _)) ?_;refine RcG 2 53 true (cl1 (fP:=IsNr 0 2 ((Value.string ⟨#[104]⟩ ::us)++(Value.string ⟨#[104]⟩ ::us))) (fQ:=IsV (.bool false)) (en func12) (qA 9 60) (λx0 w' hE d0=>by{obtain⟨g7,rfl,h1,h2⟩:=d0;have hn:NdC 0 w' exH us:=NdC.low (Nat.zero_le _) _ _ (HY.out.ext hE);refine zG (right_f (l:= [⟨[104],exH⟩,⟨[104],exH⟩]) (cs_two (n1:= [104]) (n2:= [104]) h2 (Nat.zero_le _) hn hn) dcx (by intro c hc;simp at hc;subst hc;decide)) ?_;rintro e w6 ⟨rfl,e6⟩;exact⟨_,rfl,e6,by rw[ex_rt2];rfl⟩})) ?_;refine RcG 2 53 true (un (p:=.bool false) (r:=.bool true) (qA 10 61) rfl (λw=>by go_simp)) ?_;refine Rc (pk (b:=true) (qA 2 53) (qA (fP:=IsV (.bool true)) 11 62)) ?_;refine Rc (mv (qA (fP:=IsV (.bool true)) 12 63)) ?_;refine RcG 13 64 true (cl3 (fP:=IsV (.string ⟨#[101,58,123,112,125,58,49,58,123,112,125]⟩)) (fR:=IsV (.string ⟨#[112]⟩)) (fS:=iV 7) (fQ:=IsV (.string ⟨#[101,58,55,58,49,58,55]⟩)) (en func28) qD qD qD (λx0 y0 z0 w' hE d0 d1 d2=>by{obtain rfl:x0=.string ⟨#[101,58,123,112,125,58,49,58,123,112,125]⟩:=d0;obtain rfl:y0=.string ⟨#[112]⟩:=d1;obtain rfl:z0=.int .i64 7:=d2;have h:=Fill_f (HT.out.ext (HE9.out.trans hE)) ⟨#[101,58,123,112,125,58,49,58,123,112,125]⟩ ⟨#[112]⟩ 7 dcx dcx dcx dcx;rw[ex_fill]at h;exact h})) ?_;refine RcG 13 64 true (bn (p:=.string ⟨#[101,58,55,58,49,58,55]⟩) (q:=.string ⟨#[101,58,55,58,49,58,55]⟩) (r:=.bool true) (qA 14 65) qD (hr:=λw=>by go_simp)) ?_
    refine Rc (pk (b:=true) (qA 13 64) (qA (fP:=IsV (.bool true)) 15 66)) ?_;refine Rc (mv (qA (fP:=IsV (.bool true)) 16 67)) ?_;refine RcG 17 68 true (bd2 (T:=32) (f:=0) (g:=1) (r:=.agg #[.int .i64 2,.string ⟨#[98]⟩,.int .i64 0,.bool false,.slice none 0 0,.int .i64 0,.int .i64 0,.slice none 0 0]) (p:=.int .i64 2) (q:=.string ⟨#[98]⟩) qD qD (λw=>by go_simp)) ?_;refine RcG 17 68 true (cl1 (fP:=IsV (.agg #[.int .i64 2,.string ⟨#[98]⟩,.int .i64 0,.bool false,.slice none 0 0,.int .i64 0,.int .i64 0,.slice none 0 0])) (fQ:=IsSr [[98]]) (en func23) (qA 18 69) (λx0 w' hE d0=>by{obtain rfl:x0=.agg [.int .i64 2,.string ⟨#[98]⟩,.int .i64 0,.bool false,.slice none 0 0,.int .i64 0,.int .i64 0,.slice none 0 0].toArray:=d0;have h:=Uses_f (x:=⟨2, [98],0,0,0,0, []⟩) (B:=0) (w:=w') (nd_leaf (nm:= [98]) ⟨by decide,by decide,by decide⟩) (by intro s hs;rw[usN_mk]at hs;simp at hs;subst hs;decide) (by rw[usN_mk];decide);rw[ex_us]at h;exact h})) ?_;refine RcG 17 68 true (bs1 (p:=.string ⟨#[98]⟩) (e:=9) (T:=53) (n:=1) (vs:= [.string ⟨#[98]⟩]) qD (λw=>by go_simp) (Nat.zero_le _)) ?_;refine RcG 17 68 true (cl2 (fP:=IsSr [[98]]) (fR:=IsNr 0 1 [.string ⟨#[98]⟩]) (fQ:=IsV (.bool true)) (en func29) (qA 19 70) (qA 20 71) (λx0 y0 w' hE d0 d1=>by{obtain⟨g8,rfl,h1,h2⟩:=d1;have h:=sameTexts_f (l:= [[98]]) (l':= [[98]]) d0 ⟨some ⟨g8,0,none⟩,1,rfl,by decide,λ_=>⟨g8,0,rfl,λj s hj=>by rcases j with _|j;(obtain rfl: [98]=s:=by simpa using hj);(exact h2.c 0 _ rfl);simp at hj⟩⟩ dcx;exact h})) ?_;refine Rc (pk (b:=true) (qA 17 68) (qA (fP:=IsV (.bool true)) 21 72)) ?_;refine Rc (mv (qA (fP:=IsV (.bool true)) 22 73)) ?_;exact rn0
  intro u X9 e9 hΦ _;simp only[lxE,Nat.reduceAdd];rw[show u 23=.bool true from hΦ 23 dcx];have HE10:=hid (HE9.out.trans e9);clear hΦ e9;refine zP zc ?_ _;go_wp2_with fail
  go_ret
  exact⟨_,rfl,HE10.out,rfl⟩
end
end Go.Proofs.YtenhciieboegbaaGreatDoor
