/- Lemmas. -/
import Derived.Test.YtkeikfekkdplgaaGreatDoorTre
import Derived.Test.YtkeikfekkdplgaaGreatDoorWrd2
import Derived.Test.YtkeikfekkdplgaaGreatDoorSubN
import Derived.Test.YtkeikfekkdplgaaGreatDoorVal
namespace Go.Proofs.YtkeikfekkdplgaaGreatDoor
section
open Go Go.RowKit Go.Maps
open Go.Proofs.Tryz
theorem jd{P:Prop}(h:P:=by have:=HL.out;have:=E2.size;have:=S.out.2.gb.size;have:=HW.out;simp;omega):P:=h
set_option maxRecDepth 100000
set_option maxHeartbeats 8000000
theorem fld_Bt{w:World}{us:List Value}{k:Value}(hl:us.length=8):(Instr.field 122 (.agg (us++ [k]).toArray) 0).run prog w=.ok (.agg us.toArray) w:=by
 have h:((us++ [k]).toArray.extract 0 8)=us.toArray:=by
  apply Array.ext';simp[<-hl]
 unfold Instr.field
 go_simp
 simp[asAgg]
 simpa using h
def IsTr:Value->World->Prop:=λx w=>∃e,wfT 4 [] e/\IsNe e x w
theorem IsTr.stb:Stb IsTr:=λ_ _ _ E ⟨e,h1,h2⟩=>⟨e,h1,IsNe.stb _ _ _ _ E h2⟩
instance:StbC IsTr:=⟨IsTr.stb⟩
def IsTrB(B:Nat):Value->World->Prop:=λx w=>∃e,wfT 4 [] e/\NeL B e x w
theorem IsTrB.stb(B:Nat):Stb (IsTrB B):=λ_ _ _ E ⟨e,h1,h2⟩=>⟨e,h1,NeL.stb _ _ _ _ _ E h2⟩
instance (B:Nat):StbC (IsTrB B):=⟨IsTrB.stb B⟩
theorem IsRs.stb(bs:List ByteArray):Stb (IsRs bs):=λ_ _ _ E h=>h.ext E
instance (bs:List ByteArray):StbC (IsRs bs):=⟨IsRs.stb bs⟩
section
variable {ops:Array Oper} {Q:Exit->Act->World->Prop} {ds:List (Option Tmp)} {a0:Act} {w0:World} {L:List (Value->World->Prop)} {boxes:List Nat} {i k:Nat} {o:Oper} {os:List Oper}
theorem bs0S(ho:o.op=.buildSlice 51 0 #[]:=by rfl)(hi:L.getD i (λ_ _=>True)=IsRs []:=by kernel_rfl)(hb:boxes.contains i=false:=by kernel_rfl):Ok prog ops Q ds a0 w0 L boxes i o:=
 ⟨fun v a w hE hd hf K hK=>by
  have hr:(Instr.buildSlice 51 0 #[]).run prog w=.ok (.slice (some ⟨w.heap.size,0,none⟩) 0 0) (w.alloc (.cells #[] 9)):=zy
  have hrun:(execOp a.eval o).run prog w=.ok (.value (.slice (some ⟨w.heap.size,0,none⟩) 0 0)) (w.alloc (.cells #[] 9)):=by
   unfold execOp;rw[ho];dsimp only;simp[hr]
  unfold Oper.wp;rw[hrun];refine hK.out _ _ ((Ext.refl w).alloc _) ?_ (FreshIf.no hb);rw[hi]
  exact⟨_,0,rfl,by simp,λj x hj=>by simp at hj⟩⟩
theorem fldB{B d j:Nat}{bs:List ByteArray}{x:Operand}(hx:Od ops ds a0 w0 L i x (IsBt B d bs j))(hd4:d=4/\bs= [])(ho:o.op=.field 122 x 0:=by rfl)(hi:L.getD i (λ_ _=>True)=IsTrB B:=by kernel_rfl)(hb:boxes.contains i=false:=by kernel_rfl):Ok prog ops Q ds a0 w0 L boxes i o:=
 Ok.of hb λv a w hE hd hf=>by
  obtain⟨rfl,rfl⟩:=hd4;obtain⟨e,us,k,h1,_,_,h4,h5⟩:=hx.out v a w hE hd hf;obtain⟨us',q1,q2,q3,q4,q5⟩:=id h5;obtain rfl:us=us':=by simpa using q1
  refine⟨.agg us.toArray,?_,by rw[hi];exact⟨e,h4,h5⟩⟩;unfold execOp;rw[ho];dsimp only;rw[h1];simp[fld_Bt q2]
end
theorem Tree_f{w:World}{lb:Value}(hL:IsBy lb w):Calls prog 11 #[lb] w (Ret w IsTr):=by
 obtain⟨W,hW,E,B2⟩:∃W,W=w.alloc (.cells #[.int .i64 0,.string ⟨#[]⟩,.int .i64 0,.bool false,.slice none 0 0,.int .i64 0,.int .i64 0,.slice none 0 0] 31)/\Ext w W/\Bk W w.heap.size zNd:=zh;go_enter func11,ntmps11;go_upto_region 1 with fail;rw[<-hW];clear hW;refine rgs 4 (dR 3 4) [IsV lb,IsRs [],IsBt (w.heap.size+1) 4 [] 0,IsTrB (w.heap.size+1)] [] ?_ ?_
 ·refine Rc zt ?_;refine Rc bs0S ?_
  refine Rc (cl (fQ:=IsBt (w.heap.size+1) 4 [] 0) (en func45) rfl rfl za za λv a w2 hE hd hf=>by
   have e0:a.eval (.tmp 3)=lb:=(qA 0 3:Od _ _ _ _ _ _ _ (IsV lb)).out v a w2 hE hd hf;have e1:IsRs [] (a.eval (.tmp 4)) w2:=(qA 1 4:Od _ _ _ _ _ _ _ (IsRs [])).out v a w2 hE hd hf;simp only[List.map_toArray,List.map_cons,List.map_nil];rw[e0]
   exact jC (build_f 4 dcx [] w2 lb _ 0 (λx hx=>by simp at hx) dcx dcx ((hL.ext E).ext hE) e1) (λe w3 hq=>by{obtain⟨u,q1,q2,q3⟩:=hq;exact⟨u,q1,q2,q3.dn (jK B2.lt hE.size)⟩})) ?_
  refine Rc (fldB (qA (fP:=IsBt (w.heap.size+1) 4 [] 0) 2 5) ⟨rfl,rfl⟩) ?_;exact rn0
 intro v X1 e1 hZ _;obtain⟨e,hwt,us,hv,hl,hone,hnw,hnd⟩:=hZ 3 dcx;simp only[lxE,Nat.reduceAdd];rw[hv];clear hZ hv;replace E:=E.trans e1;replace B2:=B2.ext e1;refine stL (λK hK=>?_);refine qX (us:=us) B2 st_Nd rfl hl nwZN (λW1 B9 O=>hK _ _ ?_) (ho1:=hone);have E9:=O.ext E (jJ _);have hne9:IsNe e (.agg us.toArray) W1:=⟨us,rfl,hl,hone,hnw,((hnd.only O (Nat.lt_succ_self _)).up (jJ _) (by rw[O.size];exact jJ _)).nd⟩;clear hK K O B2;refine jE ?_;go_wp2_with fail;exact jD (resC results11 rfl (lvM za za hl B9)) rfl ⟨_,rfl,E9,e,hwt,hne9⟩
open Go Go.RowKit Go.Maps Go.Shelf
theorem CsR.up{H H':Nat}{cs:List qL}{v:Value}{w:World}(h:CsR H cs v w)(hh:H<=H'):CsR H' cs v w:=let ⟨ao,c,h1,h2⟩:=h;⟨ao,c,h1,λhn=>let ⟨g,k1,k2,k3⟩:=h2 hn;⟨g,k1,Nat.lt_of_lt_of_le k2 hh,k3⟩⟩
theorem VcR.up{H H':Nat}{d:qL}{vs:List Value}{w:World}(h:VcR H d vs w)(hh:H<=H'):VcR H' d vs w:=by
 obtain⟨h1,h2,h3,h4,h5,h6,hv,h7,h8⟩:=h;exact⟨h1,h2,h3,h4,h5,h6,hv,h7,λq hq=>h8 q (jK hh hq)⟩
theorem VsR.up{H H':Nat}{cs:List qL}{v:Value}{w:World}(h:VsR H cs v w)(hh:H<=H'):VsR H' cs v w:=let ⟨ao,c,h1,h2⟩:=h;⟨ao,c,h1,λhn=>let ⟨g,k1,k2,k3⟩:=h2 hn;⟨g,k1,Nat.lt_of_lt_of_le k2 hh,λj d hj=>let ⟨vs,q1,q2⟩:=k3 j d hj;⟨vs,q1.up hh,q2⟩⟩⟩
theorem EntAt.up{H H':Nat}{d:EnD}{es:List Value}{w:World}(h:EntAt H d es w)(hh:H<=H'):EntAt H' d es w:=by
 obtain⟨⟨ao,c,h1,h2⟩,hv,h3,h4⟩:=h;exact⟨⟨ao,c,h1,λhn=>let ⟨g,k1,k2,k3⟩:=h2 hn;⟨g,k1,Nat.lt_of_lt_of_le k2 hh,k3⟩⟩,hv,h3,λq hq=>h4 q (jK hh hq)⟩
theorem ShpM.ext{cs:List qL}{L:List (List Value)}{dat:List Value->EnD}{gs:List Int}{c v s g:Value}{w w':World}(h:ShpM cs L dat gs c v s g w)(e:Ext w w'):ShpM cs L dat gs c v s g w':=
 ⟨h.tm.ext e,(h.cr.rm (Rm.ext (h:=w.heap.size) e) (jJ _)).up e.size,(h.vr.rm (Rm.ext (h:=w.heap.size) e) (jJ _)).up e.size,h.sr.ext e,h.gr.ext e,λvs hv=>((h.ent vs hv).rm (Rm.ext (h:=w.heap.size) e) (jJ _)).up e.size,λvs hv=>let ⟨u,k1,k2⟩:=h.hy vs hv;⟨u,k1,k2.ext e⟩⟩
theorem IsCls.stb:Stb IsCls:=λ_ w _w' e ⟨cs,c,v,h1,h2,h3,h4,h5,h6⟩=>⟨cs,c,v,h1,h2,h3,h4,(h5.rm (Rm.ext (h:=w.heap.size) e) (jJ _)).up e.size,(h6.rm (Rm.ext (h:=w.heap.size) e) (jJ _)).up e.size⟩
instance:StbC IsCls:=⟨IsCls.stb⟩
def NoErr0(r:Res Kn):Prop:=∀n,r=.error n->n≠0
theorem srch_ne{f:Int->Mst Lg->Res Kn×Mst Lg}(hf:∀n st,NoErr0 (f n st).1)(fst:Bool)(hi:Int):∀(k:Nat) (t:Tr) (st:Mst Lg) (n:Int),(xO f fst hi k t st).1=.error n->n≠0
 |0,t,st,n,h=>by simp[xO]at h
 | k+1,t,st,n,h=>by
  unfold xO at h
  split at h
  ·have hh:=hf t.next (st.1-1,st.2)
   generalize f t.next (st.1-1,st.2)=r at h hh
   obtain⟨r1,r2⟩:=r;cases r1 with
   | error m=>
    simp only[Except.error.injEq]at h;subst h;exact hh _ rfl
   | ok q=>
    simp only at h;generalize t.step fst q=u at h;obtain⟨t',b⟩:=u;cases b with
    |true=>simp at h
    |false=>exact srch_ne hf fst hi k _ _ n h
  ·simp at h
theorem shortV_ne(q:Kn):NoErr0 (xP q):=λn h=>by
 unfold xP at h
 split at h
 ·cases h;decide
 ·cases h
theorem opV_ne(op:Int)(a b:Kn):NoErr0 (opV op a b):=λn h=>by
 unfold opV at h
 repeat' split at h
 all_goals first|exact shortV_ne _ n h|cases h
theorem ev_ne(cs:List qL)(bst:List UInt8->Option EnD)(fl:ByteArray->Env->ByteArray):∀(e:Ex) (env:Env) (st:Mst Lg),NoErr0 (ev (xQ cs bst fl) e env st).1
 | .num z,env,st=>λn h=>by simp[ev]at h
 | .var x,env,st=>λn h=>by simp[ev]at h
 | .cell x,env,st=>λn h=>by
  simp only[ev,xQ,clG]at h
  split at h
  ·cases h;decide
  ·simp only at h
   split at h
   ·cases h
   ·rename_i hne
    cases h;exact hne
 | .val x k,env,st=>λn h=>by
  simp only[ev,xQ,vlG]at h
  split at h
  ·cases h;decide
  ·simp only at h
   split at h
   ·cases h
   ·cases h;decide
 | .loop fst x lo hi b,env,st=>λn h=>by
  have hs:=srch_ne (f:=λn st=>ev (xQ cs bst fl) b (env++ [(x,n)]) st) (λm s=>ev_ne cs bst fl b _ s) fst hi (hi+1-lo).toNat ⟨0,0,hi+1,hi+1,lo,true⟩ st;unfold ev at h;generalize xO (λn st=>ev (xQ cs bst fl) b (env++ [(x,n)]) st) fst hi (hi+1-lo).toNat ⟨0,0,hi+1,hi+1,lo,true⟩ st=r at h hs;obtain⟨r1,r2⟩:=r;cases r1 with
  | error m=>
   simp only[Except.error.injEq]at h;subst h;exact hs _ rfl
  |ok q=>simp at h
 | .bin op a b,env,st=>λn h=>by
  have ha:=ev_ne cs bst fl a env st;unfold ev at h;generalize ev (xQ cs bst fl) a env st=r at h ha;obtain⟨r1,r2⟩:=r;cases r1 with
  | error m=>
   simp only[Except.error.injEq]at h;subst h;exact ha _ rfl
  | ok p=>
   simp only at h;have hb:=ev_ne cs bst fl b env r2;generalize ev (xQ cs bst fl) b env r2=r' at h hb;obtain⟨r3,r4⟩:=r';cases r3 with
   | error m=>
    simp only[Except.error.injEq]at h;subst h;exact hb _ rfl
   | ok q=>
    simp only at h;have ho:=opV_ne op p q;generalize opV op p q=r5 at h ho;cases r5 with
    | error m=>
     simp only[Except.error.injEq]at h;subst h;exact ho _ rfl
    |ok r=>simp at h
attribute [local go_sem] Oper.semAt_some
theorem OutX.err{res:Res Kn}{left:Nat}{rs hs:List Value}{g:Nat}{W:World}(h:OutX res left rs hs g W):World.cell? W ⟨g,10,none⟩=some (.int .i64 (errR res)):=by
 obtain⟨⟨vl,ha,hn,hc,h1,h2,h3,h4⟩,_,_⟩:=h;refine h2 10 _ ?_;cases res with
 | error m=>
  have e:=Value.agg.inj h3;have e:vl=_:=congrArg Array.toList e;rw[e];rfl
 | ok q=>
  obtain⟨s1,a1,n1,c1,s2,a2,n2,c2,s3,a3,n3,c3,s4,a4,n4,c4,e,k1,k2⟩:=h3;have e:=Value.agg.inj e;have e:vl=_:=congrArg Array.toList e;rw[e];rfl
theorem OutX.ok{p:Kn}{left:Nat}{rs hs:List Value}{g:Nat}{W:World}(h:OutX (.ok p) left rs hs g W):∃s1 a1 n1 c1 s2 a2 n2 c2 s3 a3 n3 c3 s4 a4 n4 c4 a n c ra rn rc,
  (∀j v, [Value.bool s1,.slice a1 n1 c1,.bool s2,.slice a2 n2 c2,.bool s3,.slice a3 n3 c3,.bool s4,.slice a4 n4 c4,.bool p.fin,.slice a n c,.int .i64 0,.slice ra rn rc,.int .i64 (left:Int)][j]? =some v->World.cell? W ⟨g,j,none⟩=some v)/\
  IsRat 130 (Rat.divInt p.lo 1) (.agg #[.bool s1,.slice a1 n1 c1,.bool s2,.slice a2 n2 c2]) W/\IsRat 130 (Rat.divInt p.hi 1) (.agg #[.bool s3,.slice a3 n3 c3,.bool s4,.slice a4 n4 c4]) W/\IsRw 0 hs (.slice a n c) W/\IsRw 0 rs (.slice ra rn rc) W:=by
 obtain⟨⟨vl,ha,hn,hc,h1,h2,h3,h4⟩,⟨ra,rn,rc,h5,h6⟩,h7⟩:=h;obtain⟨s1,a1,n1,c1,s2,a2,n2,c2,s3,a3,n3,c3,s4,a4,n4,c4,e,k1,k2⟩:=h3;have e:=Value.agg.inj e;obtain rfl:vl=_:=congrArg Array.toList e;refine⟨s1,a1,n1,c1,s2,a2,n2,c2,s3,a3,n3,c3,s4,a4,n4,c4,ha,hn,hc,ra,rn,rc,λj v hj=>?_,k1,k2,h4,h6⟩
 match j with
 |0|1|2|3|4|5|6|7|8|9|10=>exact h2 _ v hj
 |11=>cases hj;exact h5
 |12=>cases hj;exact h7
 |j+13=>simp at hj
theorem ld_IvC{w:World}{g f:Nat}{vs:List Value}(hl:vs.length=8)(hc:∀j v,vs[j]? =some v->World.cell? w ⟨g,f+j,none⟩=some v):(Instr.loadAt 47 (.pointer (some ⟨g,f,none⟩))).run prog w=.ok (.agg vs.toArray) w:=ldM za za hl hc
theorem OutX.hy{p:Kn}{left:Nat}{rs hs:List Value}{g:Nat}{W:World}(h:OutX (.ok p) left rs hs g W):∃a n c,World.cell? W ⟨g,9,none⟩=some (.slice a n c)/\IsRw 0 hs (.slice a n c) W:=by
 obtain⟨s1,a1,n1,c1,s2,a2,n2,c2,s3,a3,n3,c3,s4,a4,n4,c4,a,n,c,ra,rn,rc,hc,-,-,h4,-⟩:=h.ok;exact⟨a,n,c,hc 9 _ rfl,h4⟩
theorem al_ShN(w:World):(Instr.alloc 39 true (.tuple #[])).run prog w=.ok (.pointer (some ⟨w.heap.size,0,none⟩)) (w.alloc (.cells [Value.slice none 0 0].toArray 39)):=by go_simp
theorem ld_Rw3:LdV prog 24 3:=λw g vs hl B=>ldM za za hl (λj v hj=>by rw[Nat.zero_add];exact B.c j v hj)
theorem ld_aStr:LdC1 prog 51:=λw a v h=>by go_simp
theorem noErr_ok{r:Res Kn}(h:NoErr0 r)(he:errR r=0):∃p,r=.ok p:=by
 cases r with
 |ok p=>exact⟨p,rfl⟩
 |error n=>exact absurd he (h n rfl)
attribute [local go_sem] Oper.semAt_some
set_option maxRecDepth 100000
theorem fa_Ct0(g:Nat)(w:World):(Instr.fieldAt 84 (.pointer (some ⟨g,0,none⟩)) 0).run prog w=.ok (.pointer (some ⟨g,0,none⟩)) w:=by go_simp
theorem fa_Ct2(g:Nat)(w:World):(Instr.fieldAt 84 (.pointer (some ⟨g,0,none⟩)) 2).run prog w=.ok (.pointer (some ⟨g,4,none⟩)) w:=by go_simp
theorem fa_Ct3(g:Nat)(w:World):(Instr.fieldAt 84 (.pointer (some ⟨g,0,none⟩)) 3).run prog w=.ok (.pointer (some ⟨g,5,none⟩)) w:=by go_simp
theorem fa_Ct4(g:Nat)(w:World):(Instr.fieldAt 84 (.pointer (some ⟨g,0,none⟩)) 4).run prog w=.ok (.pointer (some ⟨g,6,none⟩)) w:=by go_simp
theorem fa_Ct5(g:Nat)(w:World):(Instr.fieldAt 84 (.pointer (some ⟨g,0,none⟩)) 5).run prog w=.ok (.pointer (some ⟨g,7,none⟩)) w:=by go_simp
theorem fa_Fc0(g:Nat)(w:World):(Instr.fieldAt 81 (.pointer (some ⟨g,0,none⟩)) 0).run prog w=.ok (.pointer (some ⟨g,0,none⟩)) w:=by go_simp
theorem fa_Fc1(g:Nat)(w:World):(Instr.fieldAt 81 (.pointer (some ⟨g,0,none⟩)) 1).run prog w=.ok (.pointer (some ⟨g,1,none⟩)) w:=by go_simp
theorem fa_Fc2(g:Nat)(w:World):(Instr.fieldAt 81 (.pointer (some ⟨g,0,none⟩)) 2).run prog w=.ok (.pointer (some ⟨g,2,none⟩)) w:=by go_simp
theorem ld_Fp:LdC1 prog 82:=λw a v h=>by go_simp
theorem ld_aI3:LdC1 prog 41:=λw a v h=>by go_simp
theorem ld_i3:LdC1 prog 3:=λw a v h=>by go_simp
theorem count_n{w:World}{base N:Nat}{v:Value}(hI:IsIR base N v w)(hN:N<=1000)(hb:base<=w.heap.size):Calls prog 102 #[v,.agg #[.int .i64 0,.int .i64 0,.int .i64 0,.int .i64 0,.slice none 0 0,.slice none 0 0,.slice none 0 0,.slice none 0 0]] w (RetI base (N+8) v w):=by
 obtain⟨W,hW,E,B⟩:∃W,W=w.alloc (.cells #[.int .i64 0,.int .i64 0,.int .i64 0,.int .i64 0,.slice none 0 0,.slice none 0 0,.slice none 0 0,.slice none 0 0] 84)/\Ext w W/\Bk W w.heap.size [.int .i64 0,.int .i64 0,.int .i64 0,.int .i64 0,.slice none 0 0,.slice none 0 0,.slice none 0 0,.slice none 0 0]:=zh;obtain⟨b,hbb⟩:∃b,w.heap.size=b:=⟨_,rfl⟩;have HO:=hid (show v.ownBlock≠some b from λe=>by have:=(hI.own_lt e).1;omega);have HI:=hid (hI.ext E);have HL:=hid (jI hN hb);have HE:=hid E;have HW:=hid E.size;rw[hbb]at B;have HB:=hid B;have HBW:=hid (show b<W.heap.size from B.lt);go_enter func102,ntmps102;go_upto_region 1 with fail;rw[<-hW];clear hW hI hN hb E;refine rg 14 (dR 5 14) [IsV v,IsP b 0,IsP b 0,iV 0,IsZ,IsP b 0,IsP b 1,iV 0,IsZ,IsP b 0,IsP b 2,iV 0,IsZ,IsNews 3] [] 2 ?_ ?_
 ·refine Rc zt ?_;refine Rc (fa (fa_Ct0 b) (qB 3)) ?_;refine Rc (fa (fa_Fc0 b) (qA 1 6)) ?_;refine Rc (lvC 0 B ld_i3 (qA 2 7)) ?_;refine Rc (numZ (z:=0) (qA 3 8)) ?_;refine Rc (fa (fa_Ct0 b) (qB 3)) ?_;refine Rc (fa (fa_Fc1 b) (qA 5 10)) ?_;refine Rc (lvC 1 B ld_i3 (qA 6 11)) ?_;refine Rc (numZ (z:=0) (qA 7 12)) ?_;refine Rc (fa (fa_Ct0 b) (qB 3)) ?_;refine Rc (fa (fa_Fc2 b) (qA 9 14)) ?_;refine Rc (lvC 2 B ld_i3 (qA 10 15)) ?_;refine Rc (numZ (z:=0) (qA 11 16)) ?_;refine Rc (bsZ3 (qA 4 9) (qA 8 13) (qA 12 17)) ?_;exact rn0
 intro x X e1 hZ _;obtain⟨news,hs,hk⟩:=hZ 13 dcx;simp only[lxE,Nat.reduceAdd];rw[show x 0=v from hZ 0 dcx];clear hZ;refine stA 14 rfl (λK hK=>wp_ir (.tmp 5) (.tmp 18) rfl base N 3 v (x 13) news rfl rfl (HI.out.ext e1) hs hk zl xp (λv3 w3 hI3 p3=>hK _ _ ?_));have HX:=hid (jI hI3 ((Pg.ext0 e1).trans p3));clear hI3 p3 hs hk hK K e1 B;have B3:=HX.out.2.bk HB.out HO.out;have c3:=B3.c 3 _ rfl;clear B3;refine asA 15 0 (.tmp 19) v3 rfl ?_;refine jL za ?_ _;go_upto_region 3 with(first| (go_at_call 121;go_must (refine(xW _ 0 dcx dcx).mono ?_;rintro e w2 ⟨_,rfl,E2,s,a,n8,c,rfl,hx⟩))| (at_builtin;go_must (refine wpl_ir rfl _ _ rfl base (N+3) 1 _ _ [.bool s,.slice a n8 c] rfl rfl (HX.out.1.ext (E2.trans ((Ext.refl _).alloc _))) (SrcR.new _ #[.bool s,.slice a n8 c] _ 1 1) (IntsAt.cons (i128 hx ((Ext.refl _).alloc _)) (IntsAt.nil _)) zl zaj ?_;intro v6 w6 hI p;have H6:=hid (jI hI (HX.out.2.trans ((Pg.ext0 (E2.trans ((Ext.refl _).alloc _))).trans p)));clear hI p hx E2;have B6:=H6.out.2.bk HB.out HO.out;clear B6 c3)));have hw6:W.heap.size<=w6.heap.size:=H6.out.2.gb.size;have B6:=H6.out.2.bk HB.out HO.out
 have ho6:v6.ownBlock≠some b:=λe=>by
  rcases H6.out.2.own with o| ⟨g,o,hg⟩
  ·exact HO.out (o.symm.trans e)
  ·rw[o]at e;cases e;have:=HBW.out;omega
 refine rgk 6 [3] (Rk b [.int .i64 0,.int .i64 0,.int .i64 0,.int .i64 0,.slice none 0 0,.slice none 0 0,.slice none 0 0,.slice none 0 0]) (dR 26 6) [IsV v6,IsP b 4,IsV (.slice none 0 0),IsPg base (N+3+1+1) v6 w6,IsP b 5,IsV (.slice none 0 0)] 2 (Rk.rel b [.int .i64 0,.int .i64 0,.int .i64 0,.int .i64 0,.slice none 0 0,.slice none 0 0,.slice none 0 0,.slice none 0 0]) ?_ ?_ ?_
 ·refine Kk (λw' _=>mv (qB 0)) ?_;refine Kk (λw' _=>fa (fa_Ct2 b) (qB 3)) ?_;refine Kk (λw' hR=>lvC 4 (hR.2 B6) ld_Fp (qA 1 27)) ?_;refine KCf (R:=Rk b [.int .i64 0,.int .i64 0,.int .i64 0,.int .i64 0,.slice none 0 0,.slice none 0 0,.slice none 0 0,.slice none 0 0]) (fQ:=IsPg base (N+3+1+1) v6 w6) (N:=N+3+1+1) (en func123) (λw'=>qA 0 26) (λw'=>qA (fP:=IsV (.slice none 0 0)) 2 28) (λu' w' hE d=>by obtain rfl:u'=.slice none 0 0:=d;exact fpoints_n (H6.out.1.ext hE) zl (by have:=HL.out;have:=HW.out;have:=hE.size;omega)) (λw' x' w'' hE p hI=>⟨p.rk ho6,hI,(Pg.ext0 hE).trans p⟩) ?_;refine Kk (λw' _=>fa (fa_Ct3 b) (qB 3)) ?_;refine Kk (λw' hR=>lvC 5 (hR.2 B6) ld_aI3 (qA 4 30)) ?_;exact RgkAll.nil
 ·intro i hi hc x' w' w'' _ h;rcases i with _|_|_|_|_|_|i
  all_goals first|exact absurd dcx hc| (exfalso;omega)|exact h
 intro x X hR hZ;have hx3:=hZ 3 dcx (.inr dcx);simp only[lxE,Nat.reduceAdd];rw[show x 5=.slice none 0 0 from hZ 5 dcx (.inl dcx)];generalize x 3=v7 at hx3 ⊢;refine stC2 (base:=base) (N:=N+3+1+1+1) (u:=v7) (u':=.slice none 0 0) 6 32 (en func95) rfl rfl (numbers_f (N:=N+3+1+1) (l:= []) hx3.1 zl zd (by have:=HL.out;have:=HW.out;have:=hR.1;omega) (λ_ h=>absurd h List.not_mem_nil) (λh=>absurd rfl h)) (λv8 w8 p8 hI8=>?_);have H8:=hid (jI hI8 (H6.out.2.trans (hx3.2.trans p8)));clear hx3 p8 hI8 hZ hR B6 hw6 ho6 H6 HX;refine asA 7 0 (.tmp 32) v8 rfl ?_;refine jL za ?_ _;simp only[Act.put,uAx,u0x,u1x];go_upto_region 4 with fail;have hw8:W.heap.size<=w8.heap.size:=H8.out.2.gb.size;have B8:=H8.out.2.bk HB.out HO.out
 have ho8:v8.ownBlock≠some b:=λe=>by
  rcases H8.out.2.own with o| ⟨g,o,hg⟩
  ·exact HO.out (o.symm.trans e)
  ·rw[o]at e;cases e;have:=HBW.out;omega
 refine rgk 6 [3] (Rk b [.int .i64 0,.int .i64 0,.int .i64 0,.int .i64 0,.slice none 0 0,.slice none 0 0,.slice none 0 0,.slice none 0 0]) (dR 33 6) [IsV v8,IsP b 6,IsV (.slice none 0 0),IsPg base (N+3+1+1+1+1) v8 w8,IsP b 7,IsV (.slice none 0 0)] 2 (Rk.rel b [.int .i64 0,.int .i64 0,.int .i64 0,.int .i64 0,.slice none 0 0,.slice none 0 0,.slice none 0 0,.slice none 0 0]) ?_ ?_ ?_
 ·refine Kk (λw' _=>mv (qB 0)) ?_;refine Kk (λw' _=>fa (fa_Ct4 b) (qB 3)) ?_;refine Kk (λw' hR=>lvC 6 (hR.2 B8) ld_Fp (qA 1 34)) ?_;refine KCf (R:=Rk b [.int .i64 0,.int .i64 0,.int .i64 0,.int .i64 0,.slice none 0 0,.slice none 0 0,.slice none 0 0,.slice none 0 0]) (fQ:=IsPg base (N+3+1+1+1+1) v8 w8) (N:=N+3+1+1+1+1) (en func123) (λw'=>qA 0 33) (λw'=>qA (fP:=IsV (.slice none 0 0)) 2 35) (λu' w' hE d=>by obtain rfl:u'=.slice none 0 0:=d;exact fpoints_n (H8.out.1.ext hE) zl (by have:=HL.out;have:=HW.out;have:=hE.size;omega)) (λw' x' w'' hE p hI=>⟨p.rk ho8,hI,(Pg.ext0 hE).trans p⟩) ?_;refine Kk (λw' _=>fa (fa_Ct5 b) (qB 3)) ?_;refine Kk (λw' hR=>lvC 7 (hR.2 B8) ld_aI3 (qA 4 37)) ?_;exact RgkAll.nil
 ·intro i hi hc x' w' w'' _ h;rcases i with _|_|_|_|_|_|i
  all_goals first|exact absurd dcx hc| (exfalso;omega)|exact h
 intro x X hR hZ;have hx3:=hZ 3 dcx (.inr dcx);simp only[lxE,Nat.reduceAdd];rw[show x 5=.slice none 0 0 from hZ 5 dcx (.inl dcx)];generalize x 3=v7 at hx3 ⊢;refine stC2 (base:=base) (N:=N+3+1+1+1+1+1) (u:=v7) (u':=.slice none 0 0) 6 39 (en func95) rfl rfl (numbers_f (N:=N+3+1+1+1+1) (l:= []) hx3.1 zl zd (by have:=HL.out;have:=HW.out;have:=hR.1;omega) (λ_ h=>absurd h List.not_mem_nil) (λh=>absurd rfl h)) (λv9 w9 p9 hI9=>?_);have H9:=hid (jI hI9 (H8.out.2.trans (hx3.2.trans p9)));refine asA 7 4 (.tmp 39) v9 rfl ?_;refine jL za ?_ _;simp only[Act.put,uAx,u0x,u1x];clear hx3 p9 hI9 hZ hR B8 hw8 ho8;go_wp2_with fail
 go_ret
 exact⟨_,rfl,(Pg.ext0 HE.out).trans H9.out.2,H9.out.1⟩
attribute [local go_sem] Oper.semAt_some
set_option maxRecDepth 100000
theorem descent_n{w:World}{base N:Nat}{v:Value}(hI:IsIR base N v w)(hN:N<=1000)(hb:base<=w.heap.size):Calls prog 101 #[v,.agg #[.bool false,.slice none 0 0,.bool false,.slice none 0 0,.slice none 0 0,.slice none 0 0,.slice none 0 0,.slice none 0 0]] w (RetI base (N+6) v w):=by
 obtain⟨W,hW,E,B⟩:∃W,W=w.alloc (.cells #[.bool false,.slice none 0 0,.bool false,.slice none 0 0,.slice none 0 0,.slice none 0 0,.slice none 0 0,.slice none 0 0] 90)/\Ext w W/\Bk W w.heap.size [.bool false,.slice none 0 0,.bool false,.slice none 0 0,.slice none 0 0,.slice none 0 0,.slice none 0 0,.slice none 0 0]:=zh;obtain⟨b,hbb⟩:∃b,w.heap.size=b:=⟨_,rfl⟩;have HO:=hid (show v.ownBlock≠some b from λe=>by have:=(hI.own_lt e).1;omega);have HI:=hid (hI.ext E);have HL:=hid (jI hN hb);have HE:=hid E;have HW:=hid E.size;rw[hbb]at B;have HB:=hid B;go_enter func101,ntmps101;go_upto_region 1 with fail;rw[<-hW];clear hW hI hN hb E;have c0:=B.c 0 _ rfl;have c1:=B.c 1 _ rfl;have c2:=B.c 2 _ rfl;have c3:=B.c 3 _ rfl;go_wp2_with (at_builtin;go_must (refine wpl_ir rfl _ _ rfl base N 2 v _ [.bool false,.slice none 0 0,.bool false,.slice none 0 0] rfl rfl (HI.out.ext ((Ext.refl _).alloc _)) (SrcR.new _ #[.bool false,.slice none 0 0,.bool false,.slice none 0 0] _ 2 2) (IntsAt.cons (IsI.nil _ _) (IntsAt.cons (IsI.nil _ _) (IntsAt.nil _))) zl (by have:=HL.out;have:=HW.out;simp;omega) ?_;intro v3 w3 hI3 p3;have HX:=hid (jI hI3 ((Pg.ext0 ((Ext.refl _).alloc _)).trans p3));clear hI3 p3 c0 c1 c2 c3 B))
 go_loopg [0,5] 2 (λgk v0 v5 wr=>∃k:Nat,v5=.int .i64 (k:Int)/\k+gk=2/\Hid (IsIR base (N+2+k) v0 wr/\Pg v W v0 wr))
 case atStart=>exact⟨0,rfl,rfl,HX⟩
 case round=>
  obtain⟨k,rfl,hk,S⟩:=hrel;have B3:=S.out.2.bk HB.out HO.out;obtain⟨rfl,rfl⟩| ⟨rfl,rfl⟩| ⟨rfl,rfl⟩:(k=0/\gk=2)\/(k=1/\gk=1)\/(k=2/\gk=0):=zb
  ·have c4:=B3.c 4 _ rfl;clear B3 HX;go_wp2_with (first| (go_at_call 121;go_must (refine(xW _ 0 dcx dcx).mono ?_;rintro e w2 ⟨_,rfl,E2,s,a,n8,c,rfl,hx⟩))| (at_builtin;go_must (refine wpl_ir rfl _ _ rfl base (N+2+0) 1 _ _ [.bool s,.slice a n8 c] rfl rfl (S.out.1.ext (E2.trans ((Ext.refl _).alloc _))) (SrcR.new _ #[.bool s,.slice a n8 c] _ 1 1) (IntsAt.cons (i128 hx ((Ext.refl _).alloc _)) (IntsAt.nil _)) zl jd ?_;intro v6 w6 hI p;have H6:=hid (jI hI (S.out.2.trans ((Pg.ext0 (E2.trans ((Ext.refl _).alloc _))).trans p)));clear hI p hx E2;have B6:=H6.out.2.bk HB.out HO.out;have d4:=B6.c 4 _ rfl;clear B6 c4)))
   go_loopg [0,6] 0 (λgk v0 v5 wr=>v0=v6/\v5=.int .i64 0/\wr=w6)
   case atStart=>exact⟨rfl,rfl,rfl⟩
   case round=>
    obtain⟨rfl,rfl,rfl⟩:=hrel
    go_wp2
    go_roundg 1
    case measure=>omega
    case rel=>exact⟨1,rfl,rfl,H6⟩
  ·have c4:=B3.c 5 _ rfl;clear B3 HX;go_wp2_with (first| (go_at_call 121;go_must (refine(xW _ 0 dcx dcx).mono ?_;rintro e w2 ⟨_,rfl,E2,s,a,n8,c,rfl,hx⟩))| (at_builtin;go_must (refine wpl_ir rfl _ _ rfl base (N+2+1) 1 _ _ [.bool s,.slice a n8 c] rfl rfl (S.out.1.ext (E2.trans ((Ext.refl _).alloc _))) (SrcR.new _ #[.bool s,.slice a n8 c] _ 1 1) (IntsAt.cons (i128 hx ((Ext.refl _).alloc _)) (IntsAt.nil _)) zl jd ?_;intro v6 w6 hI p;have H6:=hid (jI hI (S.out.2.trans ((Pg.ext0 (E2.trans ((Ext.refl _).alloc _))).trans p)));clear hI p hx E2;have B6:=H6.out.2.bk HB.out HO.out;have d4:=B6.c 5 _ rfl;clear B6 c4)))
   go_loopg [0,6] 0 (λgk v0 v5 wr=>v0=v6/\v5=.int .i64 0/\wr=w6)
   case atStart=>exact⟨rfl,rfl,rfl⟩
   case round=>
    obtain⟨rfl,rfl,rfl⟩:=hrel
    go_wp2
    go_roundg 0
    case measure=>omega
    case rel=>exact⟨2,rfl,rfl,H6⟩
  ·clear B3 HX
   go_wp2
   go_loopg [0,8] 2 (λgk v0 v5 wr=>∃k:Nat,v5=.int .i64 (k:Int)/\k+gk=2/\Hid (IsIR base (N+2+2+k) v0 wr/\Pg v W v0 wr))
   case atStart=>exact⟨0,rfl,rfl,S⟩
   case round=>
    obtain⟨k,rfl,hk,S⟩:=hrel;have B3:=S.out.2.bk HB.out HO.out;obtain⟨rfl,rfl⟩| ⟨rfl,rfl⟩| ⟨rfl,rfl⟩:(k=0/\gk=2)\/(k=1/\gk=1)\/(k=2/\gk=0):=zb
    ·have c4:=B3.c 6 _ rfl;clear B3;go_wp2_with (first| (go_at_call 121;go_must (refine(xW _ 0 dcx dcx).mono ?_;rintro e w2 ⟨_,rfl,E2,s,a,n8,c,rfl,hx⟩))| (at_builtin;go_must (refine wpl_ir rfl _ _ rfl base (N+2+2+0) 1 _ _ [.bool s,.slice a n8 c] rfl rfl (S.out.1.ext (E2.trans ((Ext.refl _).alloc _))) (SrcR.new _ #[.bool s,.slice a n8 c] _ 1 1) (IntsAt.cons (i128 hx ((Ext.refl _).alloc _)) (IntsAt.nil _)) zl jd ?_;intro v6 w6 hI p;have H6:=hid (jI hI (S.out.2.trans ((Pg.ext0 (E2.trans ((Ext.refl _).alloc _))).trans p)));clear hI p hx E2;have B6:=H6.out.2.bk HB.out HO.out;have d4:=B6.c 6 _ rfl;clear B6 c4)))
     go_loopg [0,9] 0 (λgk v0 v5 wr=>v0=v6/\v5=.int .i64 0/\wr=w6)
     case atStart=>exact⟨rfl,rfl,rfl⟩
     case round=>
      obtain⟨rfl,rfl,rfl⟩:=hrel
      go_wp2
      go_roundg 1
      case measure=>omega
      case rel=>exact⟨1,rfl,rfl,H6⟩
    ·have c4:=B3.c 7 _ rfl;clear B3;go_wp2_with (first| (go_at_call 121;go_must (refine(xW _ 0 dcx dcx).mono ?_;rintro e w2 ⟨_,rfl,E2,s,a,n8,c,rfl,hx⟩))| (at_builtin;go_must (refine wpl_ir rfl _ _ rfl base (N+2+2+1) 1 _ _ [.bool s,.slice a n8 c] rfl rfl (S.out.1.ext (E2.trans ((Ext.refl _).alloc _))) (SrcR.new _ #[.bool s,.slice a n8 c] _ 1 1) (IntsAt.cons (i128 hx ((Ext.refl _).alloc _)) (IntsAt.nil _)) zl jd ?_;intro v6 w6 hI p;have H6:=hid (jI hI (S.out.2.trans ((Pg.ext0 (E2.trans ((Ext.refl _).alloc _))).trans p)));clear hI p hx E2;have B6:=H6.out.2.bk HB.out HO.out;have d4:=B6.c 7 _ rfl;clear B6 c4)))
     go_loopg [0,9] 0 (λgk v0 v5 wr=>v0=v6/\v5=.int .i64 0/\wr=w6)
     case atStart=>exact⟨rfl,rfl,rfl⟩
     case round=>
      obtain⟨rfl,rfl,rfl⟩:=hrel
      go_wp2
      go_roundg 0
      case measure=>omega
      case rel=>exact⟨2,rfl,rfl,H6⟩
    ·clear B3
     go_wp2
     go_ret
     exact⟨_,rfl,(Pg.ext0 HE.out).trans S.out.2,S.out.1⟩
def entV(nm:ByteArray)(va:Option Addr)(vn vc:Nat)(ha:Option Addr)(hn hc:Nat):List Value:= [.string nm,.slice va vn vc,.slice none 0 0,.bool false,.slice none 0 0,.slice none 0 0,.slice none 0 0,.int .i64 0,.bool false,.slice none 0 0,.slice none 0 0,.slice none 0 0,.int .i64 0,.int .i64 0,.int .i64 0,.int .i64 0,.slice none 0 0,.slice none 0 0,.slice none 0 0,.slice none 0 0,.bool false,.slice none 0 0,.bool false,.slice none 0 0,.slice none 0 0,.slice none 0 0,.slice none 0 0,.slice none 0 0,.slice none 0 0,.slice none 0 0,.slice ha hn hc]
theorem entV_nw(nm:ByteArray)(va:Option Addr)(vn vc:Nat)(ha:Option Addr)(hn hc:Nat):(entV nm va vn vc ha hn hc).all (λu=>u.oneCell')=true/\∀u∈entV nm va vn vc ha hn hc,NoWord u:=by
 refine⟨rfl,λu hu=>?_⟩;simp only[entV,List.mem_cons,List.not_mem_nil,or_false]at hu;rcases hu with rfl|rfl|rfl|rfl|rfl|rfl|rfl|rfl|rfl|rfl|rfl|rfl|rfl|rfl|rfl|rfl|rfl|rfl|rfl|rfl|rfl|rfl|rfl|rfl|rfl|rfl|rfl|rfl|rfl|rfl|rfl
 all_goals first|exact NoWord.bool _|exact NoWord.slice _ _ _|exact NoWord.int64 _|exact NoWord.string _
structure EntW (nm:ByteArray) (d:EnD) (es:List Value) (w:World):Prop where
 vl:d.vals.length<=3/\d.vals≠ []
 hl:d.hyps.length<=1
 hb:∀z∈d.hyps,1<=z/\z<=3
 at_:∃va vc ha hc,es=entV nm va d.vals.length vc ha d.hyps.length hc/\
  (d.vals≠ []->∃g,va=some ⟨g,0,none⟩/\∀(j:Nat) (z:Int),d.vals[j]? =some z->∃s a n c',World.cell? w ⟨g,2*j,none⟩=some (.bool s)/\World.cell? w ⟨g,2*j+1,none⟩=some (.slice a n c')/\IsI 128 z (.agg #[.bool s,.slice a n c']) w)/\
  (d.hyps≠ []->∃g o,ha=some ⟨g,o,none⟩/\∀j x,d.hyps[j]? =some x->World.cell? w ⟨g,o+j,none⟩=some (.int .i64 x))
theorem EntW.ext{nm:ByteArray}{d:EnD}{es:List Value}{w w':World}(h:EntW nm d es w)(e:Ext w w'):EntW nm d es w':=by
 obtain⟨h1,h2,h3,va,vc,ha,hc,k1,k2,k3⟩:=h;refine⟨h1,h2,h3,va,vc,ha,hc,k1,λhn=>?_,λhn=>?_⟩
 ·obtain⟨g,q1,q2⟩:=k2 hn;exact⟨g,q1,λj z hj=>let ⟨s,a,n,c',r1,r2,r3⟩:=q2 j z hj;⟨s,a,n,c',e.cell r1,e.cell r2,r3.ext e⟩⟩
 ·obtain⟨g,o,q1,q2⟩:=k3 hn;exact⟨g,o,q1,λj x hj=>e.cell (q2 j x hj)⟩
theorem EntW.len{nm:ByteArray}{d:EnD}{es:List Value}{w:World}(h:EntW nm d es w):es.length=31:=by obtain⟨-,-,-,va,vc,ha,hc,rfl,-⟩:=h;rfl
theorem nel{α:Type}{l:List α}(h:l≠ []):∃x,l[0]? =some x:=by cases l with|nil=>exact absurd rfl h|cons x t=>exact⟨x,rfl⟩
theorem EntW.hyr{nm:ByteArray}{d:EnD}{es:List Value}{w:World}(h:EntW nm d es w):∃u,es[30]? =some u/\IrR d.hyps u w/\∀h,w.heap.size<=h->HyR h d.hyps u w:=by
 obtain⟨-,-,-,va,vc,ha,hc,rfl,-,k3⟩:=h;refine⟨_,rfl,⟨ha,hc,rfl,k3⟩,λh hh=>⟨ha,hc,rfl,λhn=>?_⟩⟩;obtain⟨g,o,q1,q2⟩:=k3 hn;obtain⟨x,hx⟩:=nel hn;exact⟨g,o,q1,.inl (Nat.lt_of_lt_of_le (World.block_lt_of_cell? _ _ (q2 0 x hx)) hh),q2⟩
theorem EntW.at{nm:ByteArray}{d:EnD}{es:List Value}{w:World}(h:EntW nm d es w):EntAt w.heap.size d es w:=by
 obtain⟨u,hu1,-,hu3⟩:=h.hyr;obtain⟨-,-,-,va,vc,ha,hc,rfl,k2,-⟩:=h;refine⟨⟨va,vc,rfl,λhn=>?_⟩,u,hu1,hu3⟩;obtain⟨g,q1,q2⟩:=k2 hn;obtain⟨x,hx⟩:=nel hn;obtain⟨s,a,n,c',r1,-,-⟩:=q2 0 x hx;exact⟨g,q1,World.block_lt_of_cell? _ _ r1,q2⟩
def cellsOf(w:World)(g n:Nat):List Value:=(List.range n).map λq=>(World.cell? w ⟨g,q,none⟩).getD undef
theorem cellsOf_at{w:World}{g n q:Nat}{u:Value}(h:World.cell? w ⟨g,q,none⟩=some u)(hq:q<n):(cellsOf w g n)[q]? =some u:=by
 rw[cellsOf,List.getElem?_map,List.getElem?_range hq];simp[h]
theorem EntW.src{nm:ByteArray}{d:EnD}{es:List Value}{w:World}{H:Nat}(h:EntW nm d es w)(hH:w.heap.size<=H):∃va vc ha hc news,es=entV nm va d.vals.length vc ha d.hyps.length hc/\
  (∃g,va=some ⟨g,0,none⟩/\g<H/\∀j u,news[j]? =some u->World.cell? w ⟨g,0+j,none⟩=some u)/\IntsAt news d.vals.length w/\(d.hyps≠ []->∃g o,ha=some ⟨g,o,none⟩/\g<H/\∀j x,d.hyps[j]? =some x->World.cell? w ⟨g,o+j,none⟩=some (.int .i64 x)):=by
 obtain⟨⟨h0,h1⟩,-,-,va,vc,ha,hc,k1,k2,k3⟩:=h;obtain⟨g,rfl,k4⟩:=k2 h1;have hz:∀j,j<d.vals.length->∃z,d.vals[j]? =some z:=λj hj=>⟨_,List.getElem?_eq_getElem hj⟩
 refine⟨_,vc,ha,hc,cellsOf w g (d.vals.length*2),k1,⟨g,rfl,?_,λq u hu=>?_⟩,⟨by simp[cellsOf],λj hj=>?_⟩,λhn=>?_⟩
 ·obtain⟨z,hz0⟩:=nel h1;obtain⟨s,a,n,c',r1,-,-⟩:=k4 0 z hz0;exact Nat.lt_of_lt_of_le (World.block_lt_of_cell? _ _ r1) hH
 ·have hq:q<d.vals.length*2:=by have:=(List.getElem?_eq_some_iff.1 hu).1;simpa [cellsOf]using this
  obtain⟨z,hz0⟩:=hz (q/2) zb;obtain⟨s,a,n,c',r1,r2,-⟩:=k4 _ z hz0;rw[Nat.zero_add];rcases Nat.mod_two_eq_zero_or_one q with e|e
  ·rw[show 2*(q/2)=q by omega]at r1;rw[cellsOf_at r1 hq]at hu;rw[r1];exact hu
  ·rw[show 2*(q/2)+1=q by omega]at r2;rw[cellsOf_at r2 hq]at hu;rw[r2];exact hu
 ·obtain⟨z,hz0⟩:=hz j hj;obtain⟨s,a,n,c',r1,r2,r3⟩:=k4 j z hz0;exact⟨s,a,n,c',z,cellsOf_at r1 zb,cellsOf_at r2 zb,r3⟩
 ·obtain⟨g',o,q1,q2⟩:=k3 hn;obtain⟨x,hx⟩:=nel hn;exact⟨g',o,q1,Nat.lt_of_lt_of_le (World.block_lt_of_cell? _ _ (q2 0 x hx)) hH,q2⟩
def HeldW(p:Int×Int×Int)(vs:List Value)(w:World):Prop:=∃nm d es g o c,vs=es++ [.slice (some ⟨g,o,none⟩) 1 c]/\EntW nm d es w/\World.cell? w ⟨g,o,none⟩=some (.int .i64 p.1)/\World.cell? w ⟨g,o+1,none⟩=some (.int .i64 p.2.1)/\World.cell? w ⟨g,o+2,none⟩=some (.int .i64 p.2.2)
theorem HeldW.ext{p:Int×Int×Int}{vs:List Value}{w w':World}(h:HeldW p vs w)(e:Ext w w'):HeldW p vs w':=let ⟨nm,d,es,g,o,c,h1,h2,h3,h4,h5⟩:=h;⟨nm,d,es,g,o,c,h1,h2.ext e,e.cell h3,e.cell h4,e.cell h5⟩
theorem HeldW.ok{p:Int×Int×Int}{vs:List Value}{w:World}(h:HeldW p vs w):HdOk vs/\vs[0]? =some (.string (xZ vs)):=by
 obtain⟨nm,d,es,g,o,c,rfl,⟨-,-,-,va,vc,ha,hc,rfl,-⟩,-⟩:=h;have:=entV_nw nm va d.vals.length vc ha d.hyps.length hc;refine⟨⟨rfl,?_,λu hu=>?_⟩,rfl⟩
 ·rw[List.all_append,this.1];rfl
 ·rcases List.mem_append.1 hu with h|h
  ·exact this.2 u h
  ·rw[List.mem_singleton]at h;rw[h];exact NoWord.slice _ _ _
open Classical in
noncomputable def datW (w:World) (vs:List Value):EnD:=if h:∃d,∃nm,EntW nm d (vs.take 31) w then h.choose else⟨[], []⟩
theorem datW_at{p:Int×Int×Int}{vs:List Value}{w:World}(h:HeldW p vs w):∃nm,EntW nm (datW w vs) (vs.take 31) w:=by
 have hx:∃d,∃nm,EntW nm d (vs.take 31) w:=by
  obtain⟨nm,d,es,g,o,c,rfl,h1,-⟩:=h;exact⟨d,nm,by rw[show(es++ [Value.slice (some ⟨g,o,none⟩) 1 c]).take 31=es by rw[<-h1.len];simp];exact h1⟩
 unfold datW;rw[dif_pos hx];exact hx.choose_spec
theorem shpM_of{cs:List qL}{L:List (List Value)}{gs:List Int}{c v s g:Value}{w:World}(hT:TabM w)(hc:CsR w.heap.size cs c w)(hv:VsR w.heap.size cs v w)(hs:HdS L s w)(hL:∀vs∈L,∃p,HeldW p vs w)(hg:IrR gs g w):ShpM cs L (datW w) gs c v s g w:=by
 refine⟨hT,hc,hv,hs,hg,λvs h=>?_,λvs h=>?_⟩
 ·obtain⟨p,hp⟩:=hL vs h;obtain⟨nm,hn⟩:=datW_at hp;exact hn.at
 ·obtain⟨p,hp⟩:=hL vs h;obtain⟨nm,hn⟩:=datW_at hp;obtain⟨u,h1,h2,-⟩:=hn.hyr;refine⟨u,?_,h2⟩;rw[List.getElem?_take]at h1
  simpa using h1
theorem shpOk_of{cs:List qL}{L:List (List Value)}{gs:List Int}{w:World}(h1:cs.length<=4)(h2:cellOk [3] cs)(h3:∀d∈cs,d.hyps.length<=1)(hl:L.length<=1000)(hL:∀vs∈L,∃p,HeldW p vs w)(hg:gs.length<=1000):ShpMOk [1,2,3] cs L (datW w) gs:=by
 refine⟨by omega,λc hc=>⟨by have:=h3 c hc;omega,?_⟩,by omega,λvs h=>?_,λvs h=>?_,by omega,λvs h=>?_⟩
 ·intro y hy;have:=(h2 c hc).2.2 y hy;obtain rfl:y=3:=by simpa using this
  exact⟨by decide,by decide⟩
 ·obtain⟨p,hp⟩:=hL vs h;exact hp.ok.1
 ·obtain⟨p,hp⟩:=hL vs h;exact hp.ok.2
 ·obtain⟨p,hp⟩:=hL vs h;obtain⟨nm,hn⟩:=datW_at hp;refine⟨by have:=hn.vl.1;omega,by have:=hn.hl;omega,λz hz=>?_⟩;have:=hn.hb z hz;obtain rfl|rfl|rfl:z=1\/z=2\/z=3:=by omega
  all_goals exact⟨by decide,by decide⟩
end
section
open Go Go.RowKit Go.Maps Go.Shelf
open Go.Proofs.Tryz
theorem jh{P:Prop}(h:P:=by have:=HV.out;omega):P:=h
theorem zao{P:Prop}(h:P:=by rw[HBS.out];exact jJ _):P:=h
theorem zat{P:Prop}(h:P:=by have:=hx3.2.gb.size;omega):P:=h
attribute [local go_sem] Oper.semAt_some
set_option maxRecDepth 100000
def zCert:List Value:= [.slice none 0 0,.bool false,.slice none 0 0,.slice none 0 0,.slice none 0 0,.int .i64 0,.bool false,.slice none 0 0,.slice none 0 0,.slice none 0 0,.int .i64 0,.int .i64 0,.int .i64 0,.int .i64 0,.slice none 0 0,.slice none 0 0,.slice none 0 0,.slice none 0 0,.bool false,.slice none 0 0,.bool false,.slice none 0 0,.slice none 0 0,.slice none 0 0,.slice none 0 0,.slice none 0 0,.slice none 0 0,.slice none 0 0]
theorem nwCert:∀u∈zCert,NoWord u:=λu hu=>by
 have:u∈entV ⟨#[]⟩ none 0 0 none 0 0:=by
  unfold entV;exact List.mem_cons_of_mem _ (List.mem_cons_of_mem _ (List.mem_append_left [Value.slice none 0 0] hu))
 exact(entV_nw _ _ _ _ _ _ _).2 u this
theorem Bk.sub{w:World}{g f n:Nat}{vs us:List Value}(B:Bk w g vs)(h:(vs.drop f).take n=us):∀q u,us[q]? =some u->World.cell? w ⟨g,f+q,none⟩=some u:=λq u hq=>by
 rw[<-h,List.getElem?_take]at hq
 split at hq
 ·rw[List.getElem?_drop]at hq;exact B.c _ _ hq
 ·cases hq
theorem Bk.below{w w':World}{g base:Nat}{vs:List Value}(B:Bk w g vs)(h:Below base w w')(hg:g<base):Bk w' g vs:=⟨λj u hj=>(h.cell (p:=⟨g,j,none⟩) hg).trans (B.c j u hj),λj=>(h.frozen (p:=⟨g,j,none⟩) hg).trans (B.f j),Nat.lt_of_lt_of_le B.lt h.size⟩
theorem al_Cert(w:World):(Instr.alloc 93 true (.tuple #[])).run prog w=.ok (.pointer (some ⟨w.heap.size,0,none⟩)) (w.alloc (.cells zCert.toArray 93)):=by unfold zCert;go_simp
theorem st_Cert:StV prog 93 28:=stM za
theorem fa_Eq1(g:Nat)(w:World):(Instr.fieldAt 95 (.pointer (some ⟨g,0,none⟩)) 1).run prog w=.ok (.pointer (some ⟨g,1,none⟩)) w:=by go_simp
theorem fa_Eq2(g:Nat)(w:World):(Instr.fieldAt 95 (.pointer (some ⟨g,0,none⟩)) 2).run prog w=.ok (.pointer (some ⟨g,2,none⟩)) w:=by go_simp
theorem fa_Eq3(g:Nat)(w:World):(Instr.fieldAt 95 (.pointer (some ⟨g,0,none⟩)) 3).run prog w=.ok (.pointer (some ⟨g,30,none⟩)) w:=by go_simp
theorem fa_Cq0(g:Nat)(w:World):(Instr.fieldAt 93 (.pointer (some ⟨g,0,none⟩)) 0).run prog w=.ok (.pointer (some ⟨g,0,none⟩)) w:=by go_simp
theorem fa_Cq1(g:Nat)(w:World):(Instr.fieldAt 93 (.pointer (some ⟨g,0,none⟩)) 1).run prog w=.ok (.pointer (some ⟨g,1,none⟩)) w:=by go_simp
theorem fa_Cq2(g:Nat)(w:World):(Instr.fieldAt 93 (.pointer (some ⟨g,0,none⟩)) 2).run prog w=.ok (.pointer (some ⟨g,6,none⟩)) w:=by go_simp
theorem fa_Cq3(g:Nat)(w:World):(Instr.fieldAt 93 (.pointer (some ⟨g,0,none⟩)) 3).run prog w=.ok (.pointer (some ⟨g,9,none⟩)) w:=by go_simp
theorem fa_Cq4(g:Nat)(w:World):(Instr.fieldAt 93 (.pointer (some ⟨g,0,none⟩)) 4).run prog w=.ok (.pointer (some ⟨g,10,none⟩)) w:=by go_simp
theorem fa_Cq5(g:Nat)(w:World):(Instr.fieldAt 93 (.pointer (some ⟨g,0,none⟩)) 5).run prog w=.ok (.pointer (some ⟨g,18,none⟩)) w:=by go_simp
theorem fa_Cq6(g:Nat)(w:World):(Instr.fieldAt 93 (.pointer (some ⟨g,0,none⟩)) 6).run prog w=.ok (.pointer (some ⟨g,26,none⟩)) w:=by go_simp
theorem fa_Cq7(g:Nat)(w:World):(Instr.fieldAt 93 (.pointer (some ⟨g,0,none⟩)) 7).run prog w=.ok (.pointer (some ⟨g,27,none⟩)) w:=by go_simp
theorem ld_aN:LdC1 prog 69:=λw a v h=>by go_simp
theorem ld_aSt:LdC1 prog 70:=λw a v h=>by go_simp
theorem ld_aQu:LdC1 prog 79:=λw a v h=>by go_simp
theorem ld_aQp:LdC1 prog 91:=λw a v h=>by go_simp
theorem ld_cG{w:World}{g:Nat}(B:Bk w g zCert):(Instr.loadAt 75 (.pointer (some ⟨g,1,none⟩))).run prog w=.ok (.agg #[.bool false,.slice none 0 0,.slice none 0 0,.slice none 0 0,.int .i64 0]) w:=ldM (vs:= [.bool false,.slice none 0 0,.slice none 0 0,.slice none 0 0,.int .i64 0]) za za rfl (Bk.sub B (n:=5) rfl)
theorem ld_cU{w:World}{g:Nat}(B:Bk w g zCert):(Instr.loadAt 78 (.pointer (some ⟨g,6,none⟩))).run prog w=.ok (.agg #[.bool false,.slice none 0 0,.slice none 0 0]) w:=ldM (vs:= [.bool false,.slice none 0 0,.slice none 0 0]) za za rfl (Bk.sub B (n:=3) rfl)
theorem ld_cC{w:World}{g:Nat}(B:Bk w g zCert):(Instr.loadAt 84 (.pointer (some ⟨g,10,none⟩))).run prog w=.ok (.agg #[.int .i64 0,.int .i64 0,.int .i64 0,.int .i64 0,.slice none 0 0,.slice none 0 0,.slice none 0 0,.slice none 0 0]) w:=ldM (vs:= [.int .i64 0,.int .i64 0,.int .i64 0,.int .i64 0,.slice none 0 0,.slice none 0 0,.slice none 0 0,.slice none 0 0]) za za rfl (Bk.sub B (n:=8) rfl)
theorem ld_cD{w:World}{g:Nat}(B:Bk w g zCert):(Instr.loadAt 90 (.pointer (some ⟨g,18,none⟩))).run prog w=.ok (.agg #[.bool false,.slice none 0 0,.bool false,.slice none 0 0,.slice none 0 0,.slice none 0 0,.slice none 0 0,.slice none 0 0]) w:=ldM (vs:= [.bool false,.slice none 0 0,.bool false,.slice none 0 0,.slice none 0 0,.slice none 0 0,.slice none 0 0,.slice none 0 0]) za za rfl (Bk.sub B (n:=8) rfl)
def Rb(base:Nat)(w w':World):Prop:=base<=w.heap.size->Below base w w'/\Gr w w'
theorem Rb.rel(base:Nat):Rel (Rb base):=⟨λh k hb=>let ⟨h1,h2⟩:=h hb;let ⟨k1,k2⟩:=k (jK hb h1.size);⟨Below.trans h1 k1,h2.trans k2⟩,λe hb=>⟨e.mono hb,e.gr⟩⟩
theorem Pg.rb{base N:Nat}{v v':Value}{w w':World}(h:Pg v w v' w')(hI:IsIR base N v w):Rb base w w':=λhb=>⟨h.below hI hb,h.gr⟩
section
variable {ops:Array Oper} {Q:Exit->Act->World->Prop} {ds:List (Option Tmp)} {a0:Act} {w0:World} {L:List (Value->World->Prop)} {ch:List Nat} {i k:Nat} {o:Oper} {os:List Oper}
theorem KCn{R:World->World->Prop}{base N:Nat}{f:FuncId}{c:Call}{x y:Operand}{fP fS fQ:Value->World->Prop}(he:∀args w,(callFunc f args).run prog w=.ok (.enter f args) w)(hx:∀w,Od ops ds a0 w L i x fP)(hy:∀w,Od ops ds a0 w L i y fS)
  (h:∀u u' w,R w0 w->fP u w->fS u' w->Calls prog f #[u,u'] w (RetI base N u w)) (hR:∀u w x w',R w0 w->fP u w->Pg u w x w'->IsIR base N x w'->R w w'/\fQ x w') (hs:RgkAll prog ops Q ds a0 w0 R L ch (i+1) k os)
  (ho:o.op=.call c:=by rfl) (hc:c.callee=.value (.func f):=by rfl) (ha:c.args= #[x,y]:=by rfl) (hi:L.getD i (λ_ _=>True)=fQ:=by kernel_rfl) (hg:o.guard=none:=by rfl) (hcn:decide (i∈ch)=true:=by kernel_rfl):RgkAll prog ops Q ds a0 w0 R L ch i (k+1) (o ::os):=
 KC (λw hRw hX vv a hd hf' K hK=>by
  have e0:=(hx w).out vv a w (Ext.refl w) hd hf'
  exact xC (R:=RetI base N (a.eval x) w) (xs:= [x,y]) (us:= [a.eval x,a.eval y]) he rfl (h _ _ w hRw e0 ((hy w).out vv a w (Ext.refl w) hd hf'))
   (fun r w' hr=>by
    obtain⟨r',q1,q2,q3⟩:=hr;cases q1;obtain⟨z1,z2⟩:=hR _ w _ w' hRw e0 q2 q3
    exact hK _ _ z1 (by rw[hi];exact z2)) (λch w' hr=>by obtain⟨_,h,_⟩:=hr;cases h) (λw' hr=>by obtain⟨_,h,_⟩:=hr;cases h) ho hc ha) hs hg hcn
theorem KCb{base:Nat}(hb:w0.heap.size=base)(hs:RgkAll prog ops Q ds a0 w0 (Rb base) L ch (i+1) k os)(ho:o.op=.buildSlice 69 0 #[]:=by rfl)(hi:L.getD i (λ_ _=>True)=IsIR base 0:=by kernel_rfl)(hg:o.guard=none:=by rfl)(hcn:decide (i∈ch)=true:=by kernel_rfl)(hf:decide (∀k∈ch,i<=k)=true:=by kernel_rfl):RgkAll prog ops Q ds a0 w0 (Rb base) L ch i (k+1) (o ::os):=
 KC (λw hRw hX vv a hd hf' K hK=>by
  have hE:=hX (of_decide_eq_true hf);have hr:(Instr.buildSlice 69 0 #[]).run prog w=.ok (.slice (some ⟨w.heap.size,0,none⟩) 0 0) (w.alloc (.cells #[] 28)):=zy
  have hrun:=bsRunZ (P:=prog) (a:=a) ho (by simpa using hr);unfold Oper.wp;rw[hrun];refine hK _ _ ((Rb.rel base).ext ((Ext.refl w).alloc _)) ?_;rw[hi]
  exact⟨0, [],jJ _,rwgZ _ _ _ w (by rw[<-hb];exact hE.size),nwbZ _ w,IntsAt.nil _⟩) hs hg hcn
end
def IsZs:Value->World->Prop:=λv w=>∃n ao c,v=.slice ao n c/\n<=100/\(n≠0->∃g,ao=some ⟨g,0,none⟩/\∀j,j<n->∃s a m c' z,World.cell? w ⟨g,2*j,none⟩=some (.bool s)/\World.cell? w ⟨g,2*j+1,none⟩=some (.slice a m c')/\IsI 128 z (.agg #[.bool s,.slice a m c']) w)
theorem IsZs.stb:Stb IsZs:=λ_ _ _ e ⟨n,ao,c,h1,h2,h3⟩=>⟨n,ao,c,h1,h2,λhn=>let ⟨g,k1,k2⟩:=h3 hn;⟨g,k1,λj hj=>let ⟨s,a,m,c',z,q1,q2,q3⟩:=k2 j hj;⟨s,a,m,c',z,e.cell q1,e.cell q2,q3.ext e⟩⟩⟩
instance:StbC IsZs:=⟨IsZs.stb⟩
theorem IsIR.zs{base:Nat}{v:Value}{w:World}(h:IsIR base 100 v w):IsZs v w:=by
 obtain⟨n,xs,h1,h2,-,h4⟩:=h;obtain⟨ao,cap,rfl,-,-,-,h5⟩:=h2.shape;refine⟨n,ao,cap,rfl,h1,λhn=>?_⟩;obtain⟨g,k1,-,-,k2⟩:=h5 hn;exact⟨g,k1,λj hj=>let ⟨s,a,m,c',z,q1,q2,q3⟩:=h4.2 j hj;⟨s,a,m,c',z,k2 _ _ q1,k2 _ _ q2,q3⟩⟩
set_option maxHeartbeats 16000000 in
theorem words_f{w:World}{nm:ByteArray}{d:EnD}{es:List Value}(h:EntW nm d es w):Calls prog 77 #[.agg es.toArray] w (Ret w IsZs):=by
 obtain⟨va,vc,ha,hc,news,hes,⟨gv,hva,hgv,hcv⟩,hk,hh⟩:=h.src (jJ _);have hb:=h.hb;have hvl:=h.vl.1;have hhl:=h.hl;subst hva;obtain⟨n,hn⟩:∃n,d.vals.length=n:=⟨_,rfl⟩;obtain⟨m,hm⟩:∃m,d.hyps.length=m:=⟨_,rfl⟩;rw[hn]at hk hvl;have HH:=hid (jI hh (jI hb (jI hm hhl)));have HV:=hid (jI hvl (show m<=1 by omega));have HKS:=hid (jI hgv (jI hcv hk));rw[hn,hm]at hes;subst hes;unfold entV;obtain⟨W,hW,E,B⟩:∃W,W=w.alloc (.cells #[.string nm,.slice (some ⟨gv,0,none⟩) n vc,.slice none 0 0,.bool false,.slice none 0 0,.slice none 0 0,.slice none 0 0,.int .i64 0,.bool false,.slice none 0 0,.slice none 0 0,.slice none 0 0,.int .i64 0,.int .i64 0,.int .i64 0,.int .i64 0,.slice none 0 0,.slice none 0 0,.slice none 0 0,.slice none 0 0,.bool false,.slice none 0 0,.bool false,.slice none 0 0,.slice none 0 0,.slice none 0 0,.slice none 0 0,.slice none 0 0,.slice none 0 0,.slice none 0 0,.slice ha m hc] 95)/\Ext w W/\Bk W w.heap.size [.string nm,.slice (some ⟨gv,0,none⟩) n vc,.slice none 0 0,.bool false,.slice none 0 0,.slice none 0 0,.slice none 0 0,.int .i64 0,.bool false,.slice none 0 0,.slice none 0 0,.slice none 0 0,.int .i64 0,.int .i64 0,.int .i64 0,.int .i64 0,.slice none 0 0,.slice none 0 0,.slice none 0 0,.slice none 0 0,.bool false,.slice none 0 0,.bool false,.slice none 0 0,.slice none 0 0,.slice none 0 0,.slice none 0 0,.slice none 0 0,.slice none 0 0,.slice none 0 0,.slice ha m hc]:=zh;obtain⟨b,hbb⟩:∃b,w.heap.size=b:=⟨_,rfl⟩;rw[hbb]at B;have HE:=hid E;have HBB:=hid hbb;clear hk hvl hh hb hm hhl hgv hcv h hn;go_enter func77,ntmps77;go_upto_region 1 with fail;rw[<-hW];clear hW E;refine rgs 3 [some 5,some 6,some 3] [IsP b 2,IsV (.agg zCert.toArray),IsNb W.heap.size zCert] [] ?_ ?_
 ·refine Rc (fa (fa_Eq2 b) (qB 1)) ?_;refine Rc (lv (fP:=IsV (.agg zCert.toArray)) _ (λw2 e=>ldM (vs:=zCert) za za rfl (Bk.sub (B.ext e) (f:=2) (n:=28) rfl)) (qA 0 5) (λ_ _=>rfl)) ?_;refine Rc (alB al_Cert (jJ _)) ?_;exact rn0
 intro x X1 e1 hZ _;obtain⟨c,hv2,hgc,Bc⟩:=hZ 2 dcx;simp only[lxE,Nat.reduceAdd];rw[hv2,show x 1=.agg zCert.toArray from hZ 1 dcx];clear hZ hv2;refine stL (λK hK'=>?_);refine qX (us:=zCert) Bc st_Cert rfl rfl nwCert (λX2 Bc2 O=>hK' _ _ ?_);have e2:=O.ext e1 hgc;refine jE ?_;replace B:=B.ext e2;obtain⟨base,hbase⟩:∃base,X2.heap.size=base:=⟨_,rfl⟩;have HC:=hid Bc2;have HB:=hid B;have HCL:=hid (show c<base by rw[<-hbase];exact Bc2.lt);have HBL:=hid (show b<base by rw[<-hbase];exact B.lt);have HX2:=hid (HE.out.trans e2);have HBS:=hid hbase;clear hK' K O Bc2 Bc B e1 e2 hgc;go_upto_region 2 with fail;refine rgk 6 [0,3] (Rb base) (dR 7 6) [IsIR base 0,IsP b 1,IsV (.slice (some ⟨gv,0,none⟩) n vc),IsIR base (0+1+n),IsP b 30,IsV (.slice ha m hc)] 2 (Rb.rel base) ?_ ?_ ?_
 ·refine KCb HBS.out ?_;refine Kk (λw' _=>fa (fa_Eq1 b) (qB 1)) ?_;refine Kk (λw' hR=>lvC 1 (Bk.below HB.out (hR zao).1 HBL.out) ld_aN (qA 1 8)) ?_
  refine KCn (R:=Rb base) (fQ:=IsIR base (0+1+n)) (N:=0+1+n) (en func96) (λw'=>qA (fP:=IsIR base 0) 0 7) (λw'=>qA (fP:=IsV (.slice (some ⟨gv,0,none⟩) n vc)) 2 9) (λu u' w' hR hI d=>by
    obtain rfl:u'=_:=d;have h1:=hR zao;have hEx:=HX2.out;have hE2:Ext w w':=Below.trans hEx (h1.1.mono (by have:=hEx.size;have:=HBS.out;omega));refine ints_f (N:=0) hI zb jh (by have:=h1.1.size;have:=HBS.out;omega) (.inr ⟨gv,0,vc,rfl,?_,λj u hj=>hE2.cell (HKS.out.2.1 j u hj)⟩) (HKS.out.2.2.gr hE2.gr)
    have:=HKS.out.1;have:=hEx.size;have:=HBS.out;omega) (λu w' x' w'' hR hI p hI2=>⟨p.rb hI,hI2⟩) ?_
  refine Kk (λw' _=>fa (fa_Eq3 b) (qB 1)) ?_;refine Kk (λw' hR=>lvC 30 (Bk.below HB.out (hR zao).1 HBL.out) ld_aI3 (qA 4 11)) ?_;exact RgkAll.nil
 ·intro i hi hc x' w' w'' _ h;rcases i with _|_|_|_|_|_|i
  all_goals first|exact absurd dcx hc| (exfalso;omega)|exact h
 intro x X hR hZ;have hx3:IsIR base (0+1+n) (x 3) X:=hZ 3 dcx (.inr dcx);simp only[lxE,Nat.reduceAdd];rw[show x 5=.slice ha m hc from hZ 5 dcx (.inl dcx)];generalize x 3=u2 at hx3 ⊢;have h1:=hR zao;have hzX:base<=X.heap.size:=by have:=h1.1.size;have:=HBS.out;omega
 have hEx:=HX2.out;have hE2:Ext w X:=Below.trans hEx (h1.1.mono (by have:=hEx.size;have:=HBS.out;omega))
 have hnum:Calls prog 95 #[u2,.slice ha m hc] X (RetI base (0+1+n+1+m) u2 X):=by
  have hq:=numbers_f (w:=X) (base:=base) (N:=0+1+n) (v:=u2) (l:=d.hyps) (la:=ha) (lc:=hc) hx3 jh (by have:=HH.out.2.2.2;omega) hzX (λz hz=>by have:=HH.out.2.1 z hz;omega) (λhne=>by
   obtain⟨g,o,q1,q2,q3⟩:=HH.out.1 hne
   exact⟨g,o,q1,by have:=hEx.size;have:=HBS.out;omega,λj x hj=>hE2.cell (q3 j x hj)⟩)
  rw[HH.out.2.2.1]at hq;exact hq
 refine stC2 (base:=base) (N:=0+1+n+1+m) (u:=u2) (u':=.slice ha m hc) 6 13 (en func95) rfl rfl hnum (λv3 w3 p9 hI9=>?_);have H3:=hid (jI hI9 (show Below base X2 w3 from Below.trans h1.1 (p9.below hx3 hzX)));have HBE:=hid (show ∀(w0:World),Below base X2 w0->∀w',Rb base w0 w'->Below base X2 w' from λw0 hb w' hR=>Below.trans hb (hR (by have:=hb.size;have:=HBS.out;omega)).1);clear hx3 p9 hI9 hZ hR hzX h1 hE2 hnum hEx;refine asA 7 4 (.tmp 13) v3 rfl ?_;refine jL za ?_ _;simp only[Act.put,uAx,u0x,u1x];go_upto_region 3 with fail;have hz3:base<=w3.heap.size:=(by have:=H3.out.2.size;have:=HBS.out;omega);have B3:=Bk.below HC.out H3.out.2 HCL.out;refine rgk 6 [3] (Rb base) (dR 14 6) [IsV v3,IsP c 0,IsV (.slice none 0 0),IsPg base (0+1+n+1+m+1) v3 w3,IsP c 1,IsV (.agg #[.bool false,.slice none 0 0,.slice none 0 0,.slice none 0 0,.int .i64 0])] 2 (Rb.rel base) ?_ ?_ ?_
 ·refine Kk (λw' _=>mv (qB 4)) ?_;refine Kk (λw' _=>fa (fa_Cq0 c) (qB 3)) ?_;refine Kk (λw' hR=>lv (fP:=IsV (.slice none 0 0)) _ (λw2 e=>ld_aSt w2 _ _ (((Bk.below HC.out (HBE.out _ H3.out.2 w' hR) HCL.out).ext e).c 0 _ rfl)) (qA 1 15) (λ_ _=>rfl)) ?_;refine KCf (R:=Rb base) (fQ:=IsPg base (0+1+n+1+m+1) v3 w3) (N:=0+1+n+1+m+1) (en func98) (λw'=>qA 0 14) (λw'=>qA (fP:=IsV (.slice none 0 0)) 2 16) (λu' w' hE d=>by obtain rfl:u'=_:=d;exact steps_n (N:=0+1+n+1+m) (H3.out.1.ext hE) jh (by have:=hE.size;omega)) (λw' x' w'' hE p hI=>⟨p.rb (H3.out.1.ext hE),hI,(Pg.ext0 hE).trans p⟩) ?_;refine Kk (λw' _=>fa (fa_Cq1 c) (qB 3)) ?_;refine Kk (λw' hR=>lv (fP:=IsV (.agg #[.bool false,.slice none 0 0,.slice none 0 0,.slice none 0 0,.int .i64 0])) _ (λw2 e=>ld_cG ((Bk.below HC.out (HBE.out _ H3.out.2 w' hR) HCL.out).ext e)) (qA 4 18) (λ_ _=>rfl)) ?_;exact RgkAll.nil
 ·intro i hi hc x' w' w'' _ h;rcases i with _|_|_|_|_|_|i
  all_goals first|exact absurd dcx hc| (exfalso;omega)|exact h
 intro x X hR hZ;have hx3:=hZ 3 dcx (.inr dcx);simp only[lxE,Nat.reduceAdd];rw[show x 5=.agg #[.bool false,.slice none 0 0,.slice none 0 0,.slice none 0 0,.int .i64 0]from hZ 5 dcx (.inl dcx)];generalize x 3=u3 at hx3 ⊢;have hzX:base<=X.heap.size:=zat
 refine stC2 (base:=base) (N:=0+1+n+1+m+1+4) (u:=u3) (u':=.agg #[.bool false,.slice none 0 0,.slice none 0 0,.slice none 0 0,.int .i64 0]) 6 20 (en func97) rfl rfl (group_n (N:=0+1+n+1+m+1) hx3.1 jh hzX) (λv4 w4 p9 hI9=>?_);have H4:=hid (jI hI9 (Below.trans H3.out.2 (Below.trans (hx3.2.below H3.out.1 hz3) (p9.below hx3.1 hzX))));clear hx3 p9 hI9 hZ hR B3 hz3 H3 hzX;refine asA 7 4 (.tmp 20) v4 rfl ?_;refine jL za ?_ _;simp only[Act.put,uAx,u0x,u1x];go_upto_region 4 with fail;have hz4:base<=w4.heap.size:=(by have:=H4.out.2.size;have:=HBS.out;omega);have B4:=Bk.below HC.out H4.out.2 HCL.out;refine rgk 6 [3] (Rb base) (dR 21 6) [IsV v4,IsP c 6,IsV (.agg #[.bool false,.slice none 0 0,.slice none 0 0]),IsPg base (0+1+n+1+m+1+4+2) v4 w4,IsP c 9,IsV (.slice none 0 0)] 2 (Rb.rel base) ?_ ?_ ?_
 ·refine Kk (λw' _=>mv (qB 4)) ?_;refine Kk (λw' _=>fa (fa_Cq2 c) (qB 3)) ?_;refine Kk (λw' hR=>lv (fP:=IsV (.agg #[.bool false,.slice none 0 0,.slice none 0 0])) _ (λw2 e=>ld_cU ((Bk.below HC.out (HBE.out _ H4.out.2 w' hR) HCL.out).ext e)) (qA 1 22) (λ_ _=>rfl)) ?_;refine KCf (R:=Rb base) (fQ:=IsPg base (0+1+n+1+m+1+4+2) v4 w4) (N:=0+1+n+1+m+1+4+2) (en func100) (λw'=>qA 0 21) (λw'=>qA (fP:=IsV (.agg #[.bool false,.slice none 0 0,.slice none 0 0])) 2 23) (λu' w' hE d=>by obtain rfl:u'=_:=d;exact unit_n (N:=0+1+n+1+m+1+4) (H4.out.1.ext hE) jh (by have:=hE.size;omega)) (λw' x' w'' hE p hI=>⟨p.rb (H4.out.1.ext hE),hI,(Pg.ext0 hE).trans p⟩) ?_;refine Kk (λw' _=>fa (fa_Cq3 c) (qB 3)) ?_;refine Kk (λw' hR=>lv (fP:=IsV (.slice none 0 0)) _ (λw2 e=>ld_aQu w2 _ _ (((Bk.below HC.out (HBE.out _ H4.out.2 w' hR) HCL.out).ext e).c 9 _ rfl)) (qA 4 25) (λ_ _=>rfl)) ?_;exact RgkAll.nil
 ·intro i hi hc x' w' w'' _ h;rcases i with _|_|_|_|_|_|i
  all_goals first|exact absurd dcx hc| (exfalso;omega)|exact h
 intro x X hR hZ;have hx3:=hZ 3 dcx (.inr dcx);simp only[lxE,Nat.reduceAdd];rw[show x 5=.slice none 0 0 from hZ 5 dcx (.inl dcx)];generalize x 3=u4 at hx3 ⊢;have hzX:base<=X.heap.size:=zat
 refine stC2 (base:=base) (N:=0+1+n+1+m+1+4+2+1) (u:=u4) (u':=.slice none 0 0) 6 27 (en func99) rfl rfl (pell_n (N:=0+1+n+1+m+1+4+2) hx3.1 jh hzX) (λv5 w5 p9 hI9=>?_);have H5:=hid (jI hI9 (Below.trans H4.out.2 (Below.trans (hx3.2.below H4.out.1 hz4) (p9.below hx3.1 hzX))));clear hx3 p9 hI9 hZ hR B4 hz4 H4 hzX;refine asA 7 4 (.tmp 27) v5 rfl ?_;refine jL za ?_ _;simp only[Act.put,uAx,u0x,u1x];go_upto_region 5 with fail;have hz5:base<=w5.heap.size:=(by have:=H5.out.2.size;have:=HBS.out;omega);have B5:=Bk.below HC.out H5.out.2 HCL.out;refine rgk 6 [3] (Rb base) (dR 28 6) [IsV v5,IsP c 10,IsV (.agg #[.int .i64 0,.int .i64 0,.int .i64 0,.int .i64 0,.slice none 0 0,.slice none 0 0,.slice none 0 0,.slice none 0 0]),IsPg base (0+1+n+1+m+1+4+2+1+8) v5 w5,IsP c 18,IsV (.agg #[.bool false,.slice none 0 0,.bool false,.slice none 0 0,.slice none 0 0,.slice none 0 0,.slice none 0 0,.slice none 0 0])] 2 (Rb.rel base) ?_ ?_ ?_
 ·refine Kk (λw' _=>mv (qB 4)) ?_;refine Kk (λw' _=>fa (fa_Cq4 c) (qB 3)) ?_;refine Kk (λw' hR=>lv (fP:=IsV (.agg #[.int .i64 0,.int .i64 0,.int .i64 0,.int .i64 0,.slice none 0 0,.slice none 0 0,.slice none 0 0,.slice none 0 0])) _ (λw2 e=>ld_cC ((Bk.below HC.out (HBE.out _ H5.out.2 w' hR) HCL.out).ext e)) (qA 1 29) (λ_ _=>rfl)) ?_;refine KCf (R:=Rb base) (fQ:=IsPg base (0+1+n+1+m+1+4+2+1+8) v5 w5) (N:=0+1+n+1+m+1+4+2+1+8) (en func102) (λw'=>qA 0 28) (λw'=>qA (fP:=IsV (.agg #[.int .i64 0,.int .i64 0,.int .i64 0,.int .i64 0,.slice none 0 0,.slice none 0 0,.slice none 0 0,.slice none 0 0])) 2 30) (λu' w' hE d=>by obtain rfl:u'=_:=d;exact count_n (N:=0+1+n+1+m+1+4+2+1) (H5.out.1.ext hE) jh (by have:=hE.size;omega)) (λw' x' w'' hE p hI=>⟨p.rb (H5.out.1.ext hE),hI,(Pg.ext0 hE).trans p⟩) ?_;refine Kk (λw' _=>fa (fa_Cq5 c) (qB 3)) ?_;refine Kk (λw' hR=>lv (fP:=IsV (.agg #[.bool false,.slice none 0 0,.bool false,.slice none 0 0,.slice none 0 0,.slice none 0 0,.slice none 0 0,.slice none 0 0])) _ (λw2 e=>ld_cD ((Bk.below HC.out (HBE.out _ H5.out.2 w' hR) HCL.out).ext e)) (qA 4 32) (λ_ _=>rfl)) ?_;exact RgkAll.nil
 ·intro i hi hc x' w' w'' _ h;rcases i with _|_|_|_|_|_|i
  all_goals first|exact absurd dcx hc| (exfalso;omega)|exact h
 intro x X hR hZ;have hx3:=hZ 3 dcx (.inr dcx);simp only[lxE,Nat.reduceAdd];rw[show x 5=.agg #[.bool false,.slice none 0 0,.bool false,.slice none 0 0,.slice none 0 0,.slice none 0 0,.slice none 0 0,.slice none 0 0]from hZ 5 dcx (.inl dcx)];generalize x 3=u5 at hx3 ⊢;have hzX:base<=X.heap.size:=zat
 refine stC2 (base:=base) (N:=0+1+n+1+m+1+4+2+1+8+6) (u:=u5) (u':=.agg #[.bool false,.slice none 0 0,.bool false,.slice none 0 0,.slice none 0 0,.slice none 0 0,.slice none 0 0,.slice none 0 0]) 6 34 (en func101) rfl rfl (descent_n (N:=0+1+n+1+m+1+4+2+1+8) hx3.1 jh hzX) (λv6 w6 p9 hI9=>?_);have H6:=hid (jI hI9 (Below.trans H5.out.2 (Below.trans (hx3.2.below H5.out.1 hz5) (p9.below hx3.1 hzX))));clear hx3 p9 hI9 hZ hR B5 hz5 H5 hzX;refine asA 7 4 (.tmp 34) v6 rfl ?_;refine jL za ?_ _;simp only[Act.put,uAx,u0x,u1x];go_upto_region 6 with fail;have hz6:base<=w6.heap.size:=(by have:=H6.out.2.size;have:=HBS.out;omega);have B6:=Bk.below HC.out H6.out.2 HCL.out;refine rgk 6 [3] (Rb base) (dR 35 6) [IsV v6,IsP c 26,IsV (.slice none 0 0),IsPg base (0+1+n+1+m+1+4+2+1+8+6+1) v6 w6,IsP c 27,IsV (.slice none 0 0)] 2 (Rb.rel base) ?_ ?_ ?_
 ·refine Kk (λw' _=>mv (qB 4)) ?_;refine Kk (λw' _=>fa (fa_Cq6 c) (qB 3)) ?_;refine Kk (λw' hR=>lv (fP:=IsV (.slice none 0 0)) _ (λw2 e=>ld_aQp w2 _ _ (((Bk.below HC.out (HBE.out _ H6.out.2 w' hR) HCL.out).ext e).c 26 _ rfl)) (qA 1 36) (λ_ _=>rfl)) ?_;refine KCf (R:=Rb base) (fQ:=IsPg base (0+1+n+1+m+1+4+2+1+8+6+1) v6 w6) (N:=0+1+n+1+m+1+4+2+1+8+6+1) (en func103) (λw'=>qA 0 35) (λw'=>qA (fP:=IsV (.slice none 0 0)) 2 37) (λu' w' hE d=>by obtain rfl:u'=_:=d;exact points_n (N:=0+1+n+1+m+1+4+2+1+8+6) (H6.out.1.ext hE) jh (by have:=hE.size;omega)) (λw' x' w'' hE p hI=>⟨p.rb (H6.out.1.ext hE),hI,(Pg.ext0 hE).trans p⟩) ?_;refine Kk (λw' _=>fa (fa_Cq7 c) (qB 3)) ?_;refine Kk (λw' hR=>lv (fP:=IsV (.slice none 0 0)) _ (λw2 e=>ld_aI3 w2 _ _ (((Bk.below HC.out (HBE.out _ H6.out.2 w' hR) HCL.out).ext e).c 27 _ rfl)) (qA 4 39) (λ_ _=>rfl)) ?_;exact RgkAll.nil
 ·intro i hi hc x' w' w'' _ h;rcases i with _|_|_|_|_|_|i
  all_goals first|exact absurd dcx hc| (exfalso;omega)|exact h
 intro x X hR hZ;have hx3:=hZ 3 dcx (.inr dcx);simp only[lxE,Nat.reduceAdd];rw[show x 5=.slice none 0 0 from hZ 5 dcx (.inl dcx)];generalize x 3=u6 at hx3 ⊢;have hzX:base<=X.heap.size:=zat
 refine stC2 (base:=base) (N:=0+1+n+1+m+1+4+2+1+8+6+1+1) (u:=u6) (u':=.slice none 0 0) 6 41 (en func95) rfl rfl (numbers_f (N:=0+1+n+1+m+1+4+2+1+8+6+1) (l:= []) hx3.1 jh zd hzX (λ_ h=>absurd h List.not_mem_nil) (λh=>absurd rfl h)) (λv7 w7 p9 hI9=>?_);have H7:=hid (jI hI9 (Below.trans H6.out.2 (Below.trans (hx3.2.below H6.out.1 hz6) (p9.below hx3.1 hzX))));clear hx3 p9 hI9 hZ hR B6 hz6 H6 hzX;refine asA 7 2 (.tmp 41) v7 rfl ?_;refine jL za ?_ _;simp only[Act.put,uAx,u0x,u1x];go_wp2_with fail
 go_ret
 have hE9:Ext w w7:=Below.trans HX2.out (H7.out.2.mono (by have:=HX2.out.size;have:=HBS.out;omega));exact⟨_,rfl,hE9,(H7.out.1.mono jh).zs⟩
end
end Go.Proofs.YtkeikfekkdplgaaGreatDoor
