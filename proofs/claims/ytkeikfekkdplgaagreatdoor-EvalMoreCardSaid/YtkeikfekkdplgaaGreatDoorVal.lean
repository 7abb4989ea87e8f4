/- Lemmas. -/
import Derived.Test.YtkeikfekkdplgaaGreatDoorBst4
import Derived.Test.YtkeikfekkdplgaaGreatDoorEv16
import Derived.Test.YtkeikfekkdplgaaGreatDoorBwd
import Derived.Test.YtkeikfekkdplgaaGreatDoorEg4
namespace Go.Proofs.YtkeikfekkdplgaaGreatDoor
section
open Go Go.RowKit Go.Maps Go.Sort
open Go.Proofs.Tryz
set_option maxRecDepth 100000
set_option maxHeartbeats 8000000
attribute [local go_sem] Oper.semAt_some
theorem idxC_cases(cs:List qL)(x:ByteArray):(idxC cs x= -1/\cs.find? (λc=>c.name==x)=none)\/∃(i:Nat) (d:qL),idxC cs x=(i:Nat)/\cs[i]? =some d/\cs.find? (λc=>c.name==x)=some d:=by
 cases hf:cs.findIdx? (λc=>c.name==x)with
 | none=>
  refine .inl ⟨by rw[idxC,hf],List.find?_eq_none.2 λc hc=>?_⟩;have:=(List.findIdx?_eq_none_iff.1 hf) c hc;simp[this]
 | some i=>
  obtain⟨h1,h2,h3⟩:=List.findIdx?_eq_some_iff_getElem.1 hf;refine .inr ⟨i,cs[i],by rw[idxC,hf],List.getElem?_eq_getElem h1,?_⟩;rw[List.find?_eq_some_iff_getElem];exact⟨h2,i,h1,rfl,λj hj=>by have:=h3 j hj;simpa using this⟩
theorem ix_Va(g c n j:Nat)(h:j<n)(w:World):(Instr.indexAt 34 (.slice (some ⟨g,0,none⟩) n c) (.int .i64 (j:Int))).run prog w=.ok (.pointer (some ⟨g,11*j,none⟩)) w:=by
 have h1:(0:Int)<=(j:Int):=zb
 have h2:(j:Int)<(n:Int):=zb
 have h3:0+j*11=11*j:=zb
 have h4:j*11=11*j:=zb
 go_simp
theorem ld_VaO{w:World}{g f:Nat}{vs:List Value}(hl:vs.length=11)(hc:∀q u,vs[q]? =some u->World.cell? w ⟨g,f+q,none⟩=some u):(Instr.loadAt 50 (.pointer (some ⟨g,f,none⟩))).run prog w=.ok (.agg vs.toArray) w:=ldM za za hl hc
theorem ld_aV:LdC1 prog 34:=λw a v h=>by go_simp
theorem ld_ai':LdC1 prog 41:=λw a v h=>by go_simp
theorem fa_Mc1(g:Nat)(w:World):(Instr.fieldAt 154 (.pointer (some ⟨g,0,none⟩)) 1).run prog w=.ok (.pointer (some ⟨g,1,none⟩)) w:=by go_simp
theorem fa_Va0(g:Nat)(w:World):(Instr.fieldAt 50 (.pointer (some ⟨g,0,none⟩)) 0).run prog w=.ok (.pointer (some ⟨g,0,none⟩)) w:=by go_simp
theorem fa_Va1(g:Nat)(w:World):(Instr.fieldAt 50 (.pointer (some ⟨g,0,none⟩)) 1).run prog w=.ok (.pointer (some ⟨g,8,none⟩)) w:=by go_simp
theorem fa_Va2(g:Nat)(w:World):(Instr.fieldAt 50 (.pointer (some ⟨g,0,none⟩)) 2).run prog w=.ok (.pointer (some ⟨g,9,none⟩)) w:=by go_simp
theorem fa_Ra0(g f:Nat)(w:World):(Instr.fieldAt 45 (.pointer (some ⟨g,f,none⟩)) 0).run prog w=.ok (.pointer (some ⟨g,f,none⟩)) w:=by go_simp
section
variable {ops:Array Oper} {Q:Exit->Act->World->Prop} {ds:List (Option Tmp)} {a0:Act} {w0:World} {L:List (Value->World->Prop)} {boxes:List Nat} {i k:Nat} {o:Oper} {os:List Oper}
theorem bdKnI{p q:Int}{f:Bool}{x y z:Operand}(hx:Od ops ds a0 w0 L i x (IsI 128 p))(hy:Od ops ds a0 w0 L i y (IsI 128 q))(hz:Od ops ds a0 w0 L i z (IsV (.bool f)))(ho:o.op=.build 176 #[(0,x),(1,y),(2,z)]:=by rfl)(hi:L.getD i (λ_ _=>True)=IsKn 128 p q f:=by kernel_rfl)(hb:boxes.contains i=false:=by kernel_rfl):Ok prog ops Q ds a0 w0 L boxes i o:=
 bdG2 ho hi hb λv a w hE hd hf=>by
  have hI1:=hx.out v a w hE hd hf;have hI2:=hy.out v a w hE hd hf;obtain⟨s,p',n,c,e1,h1⟩:=id hI1;obtain⟨s2,p2,n2,c2,e2,h2⟩:=id hI2;have e3:a.eval z=.bool f:=hz.out v a w hE hd hf;rw[e1]at hI1;rw[e2]at hI2;have hr:(Instr.build 176 #[(0,.agg #[.bool s,.slice p' n c]),(1,.agg #[.bool s2,.slice p2 n2 c2]),(2,.bool f)]).run prog w=.ok (.agg #[.bool s,.slice p' n c,.bool s2,.slice p2 n2 c2,.bool f]) w:=zy
  exact⟨_,by simp only[List.map_toArray,List.map_cons,List.map_nil];rw[e1,e2,e3];exact hr,_,_,_,_,_,_,_,_,rfl,hI1,hI2⟩
end
theorem cell_g{w:World}{m:Mc}{left:Nat}{cs:List qL}{SS:List (List UInt8)}{SI:List Int}{s:Lg}{x:ByteArray}{H:Nat}(hH:H<=m.h)(hc:CsR H cs m.cs w)(hv:VsR H cs m.vs w)(hl:cs.length<=1000000)
  (hok:∀c∈cs,c.hyps.length<=1000000/\∀y∈c.hyps,y∈SI/\(Lit.int .i64 y).wf=true) (hn:SI.length<maxLen) (hh:m.h+3<=w.heap.size) (hM:MAt m left w) (hj:JG SS SI m.h s w):
  Calls prog 111 #[.pointer (some ⟨m.h+2,0,none⟩),.string x] w (EvP m (JG SS SI m.h) w ((clG cs x s).1,(left,(clG cs x s).2))):=by
 have hmf:∀(fn:Fn) (first cap:Array Value) (w:World),(Instr.makeFunc fn first cap).run prog w=.ok (.func fn first cap) w:=λ_ _ _ _=>rfl
 obtain⟨W,hW,E,B3,B4⟩:∃W,W=(w.alloc (.cells #[.string x] 9)).alloc (.cells #[.bool false,.slice none 0 0,.bool false,.slice none 0 0,.bool false] 176)/\Ext w W/\Bk W w.heap.size [.string x]/\Bk W (w.heap.size+1) [.bool false,.slice none 0 0,.bool false,.slice none 0 0,.bool false]:=
  ⟨_,rfl,((Ext.refl w).alloc _).alloc _,(Bk.new w _ _).ext ((Ext.refl _).alloc _),Bk.newE _ _ zd _ _⟩
 have hw4:m.h+3<=w.heap.size:=hh;have HC:=hid (hc.rm (Rm.ext (h:=m.h) E) hH);have HV:=hid (hv.rm (Rm.ext (h:=m.h) E) hH);replace hM:=hM.ext E;replace hj:=(JG.inv SS SI m.h).ext hj E hh;replace hh:=jK hh E.size;have HLN:=hid hl;have HOK:=hid hok;clear hc hv hl hok;obtain⟨ix,hix⟩:∃ix,idxC cs x=ix:=⟨_,rfl⟩
 have hcon:∀w',Ext W w'->Calls prog 132 #[m.cs,.func (.func 133) #[] #[.pointer (some ⟨w.heap.size,0,none⟩)]] w' (Ret w' (iV ix)):=λw' e=>by
  rw[<-hix];exact idxC_f (H:=H) (by have:=e.size;omega) (HC.out.rm (Rm.ext (h:=m.h) e) hH) (e.cell (B3.c 0 _ rfl)) HLN.out
 have HX:=hid hix;clear hix;have c0:=hM.bk.c 0 _ rfl;go_enter func111,ntmps111;go_upto_region 1 with fail;rw[<-hW];clear hW;go_upto_region 2 with(go_at_call 132;refine jC (hcon _ (Ext.refl _)) ?_;rintro e w1 ⟨_,rfl,e1,rfl⟩);clear hcon c0 B3 hmf;replace E:=E.trans e1;replace B4:=B4.ext e1;replace HV:=hid (HV.out.rm (Rm.ext (h:=m.h) e1) hH);replace hM:=hM.ext e1;replace hj:=(JG.inv SS SI m.h).ext hj e1 hh;replace hh:=jK hh e1.size;clear e1 HC;rcases idxC_cases cs x with⟨h1,h2⟩| ⟨i,d,h1,h2,h3⟩
 ·have hix:ix= -1:=by rw[<-h1];exact HX.out.symm
  subst hix;have HCL:=hid (show clG cs x s=(.error 440,s)by rw[clG,h2]);go_wp2_with fail;exact⟨rfl,by rw[HCL.out];exact⟨Rm.ext E,hM,hj,rfl⟩⟩
 ·have hix:ix=(i:Nat):=by rw[<-h1];exact HX.out.symm
  subst hix;have HCL:=hid (show clG cs x s=(if d.err=0 then .ok ⟨d.lo,d.hi,d.fin⟩else .error d.err,(s.1,s.2++d.hyps))by rw[clG,h3]);have hil:=(List.getElem?_eq_some_iff.1 h2).1;obtain⟨hd1,hd2⟩:=HOK.out d (List.mem_of_getElem? h2);obtain⟨ao,c,hvs,hvc⟩:=HV.out;obtain⟨g,rfl,hgH,hel⟩:=hvc (by intro h0;subst h0;simp at h2);obtain⟨vs,⟨v1,v2,⟨s1,a1,n1,c1,v3,v4,v5⟩,⟨s2,a2,n2,c2,v6,v7,v8⟩,v9,v10,hy,v11,v12⟩,v13⟩:=hel i d h2;have hi0:(0:Int)<=(i:Int):=zb
  have HIL:=hid hil;clear h1 h2 h3 hil HX HV hvc hel HOK;go_upto_region 4 with fail;clear hi0;refine rgs 7 (dR 17 7) [IsP (m.h+2) 0,IsP (m.h+2) 0,IsP (m.h+2) 1,IsV (.slice (some ⟨g,0,none⟩) cs.length c),iV (i:Int),IsP g (11*i),IsV (.agg vs.toArray)] [] ?_ ?_
  ·refine Rc zt ?_;refine Rc (nc (p:=⟨m.h+2,0,none⟩) (qA 0 17)) ?_;refine Rc (fa (fa_Mc1 (m.h+2)) (qA 1 18)) ?_;refine Rc (lv (fP:=IsV (.slice (some ⟨g,0,none⟩) cs.length c)) _ (λw' e=>ld_aV w' _ _ (by have:=(hM.bk.ext e).c 1 _ rfl;rw[hvs]at this;exact this)) (qA 2 19) (λ_ _=>rfl)) ?_;refine Rc zv ?_;refine Rc (ixq (ix_Va g c cs.length i HIL.out) (qA 3 20) (qA 4 21)) ?_;refine Rc (lv (fP:=IsV (.agg vs.toArray)) _ (λw' e=>ld_VaO v1 (λq u hq=>e.cell (v13 q u hq))) (qA 5 22) (λ_ _=>rfl)) ?_;exact rn0
  intro v X1 e1 hZ _;simp only[lxE,Nat.reduceAdd];rw[show v 6=.agg vs.toArray from hZ 6 dcx];clear hZ v13 hvs;replace E:=E.trans e1;replace B4:=B4.ext e1;replace hM:=hM.ext e1;replace hj:=(JG.inv SS SI m.h).ext hj e1 hh;replace hh:=jK hh (Ext.size e1);replace v5:=IsI.gstb _ _ _ _ _ (Ext.gr e1) v5;replace v8:=IsI.gstb _ _ _ _ _ (Ext.gr e1) v8;replace v12:=HyR.rmB v12 (Rm.ext (h:=m.h) e1) hH;clear e1;refine stL (λK hK=>?_);refine xK (vs:=zVl) al_Vl (λBn e3=>hK _ _ ?_);obtain⟨g6,hg6⟩:∃g,X1.heap.size=g:=⟨_,rfl⟩;have hg64:w.heap.size+1<g6:=by rw[<-hg6];exact B4.lt
  rw[hg6]at Bn ⊢;generalize X1.alloc (.cells zVl.toArray 50)=Y1 at Bn e3 ⊢;replace E:=E.trans e3;replace B4:=B4.ext e3;replace hM:=hM.ext e3;replace hj:=(JG.inv SS SI m.h).ext hj e3 hh;replace v5:=IsI.gstb _ _ _ _ _ (Ext.gr e3) v5;replace v8:=IsI.gstb _ _ _ _ _ (Ext.gr e3) v8;replace v12:=HyR.rmB v12 (Rm.ext (h:=m.h) e3) hH;have hg6h:m.h+3<=g6:=zb
  replace hh:=jK hh e3.size;clear hK K hg6 e3
  go_simp
  refine stL (λK hK=>?_);refine qX (us:=vs) Bn st_Vl rfl v1 nwZ (λX2 B6 O=>hK _ _ ?_) (ho1:=v2);replace E:=O.ext E zb;replace B4:=O.bk B4 zb;replace hM:MAt m left X2:=⟨O.bk hM.bk zb,hM.fit⟩;replace hj:=(JG.inv SS SI m.h).only hj O zb;replace v5:=IsI.gstb _ _ _ _ _ O.gr v5;replace v8:=IsI.gstb _ _ _ _ _ O.gr v8;replace v12:=HyR.rmB v12 O.rmg (jK hH zb);replace hh:=(show m.h+3<=X2.heap.size by rw[O.size];exact hh);clear hK K O Bn;refine jE ?_;go_upto_region 5 with fail;refine rgs 3 (dR 24 3) [IsP (m.h+2) 0,IsP g6 9,IsV (hy)] [] ?_ ?_
  ·refine Rc zt ?_;refine Rc (fa (fa_Va2 g6) (qB 6)) ?_;refine Rc (lvC 9 B6 ld_ai' (qA 1 25) v11) ?_;exact rn0
  intro v X3 e1 hZ _;simp only[lxE,Nat.reduceAdd];rw[show v 0=.pointer (some ⟨m.h+2,0,none⟩)from hZ 0 dcx,show v 2=hy from hZ 2 dcx];clear hZ;replace E:=E.trans e1;replace B4:=B4.ext e1;replace B6:=B6.ext e1;replace hM:=hM.ext e1;replace hj:=(JG.inv SS SI m.h).ext hj e1 hh;replace hh:=jK hh (Ext.size e1);replace v5:=IsI.gstb _ _ _ _ _ (Ext.gr e1) v5;replace v8:=IsI.gstb _ _ _ _ _ (Ext.gr e1) v8;replace v12:=HyR.rmB v12 (Rm.ext (h:=m.h) e1) hH;clear e1;refine stL (λK hK=>?_);refine xC (us:= [.pointer (some ⟨m.h+2,0,none⟩),hy]) (en func134) za (use_g hM hj hh (v12 m.h hH) hd2 hn hd1) (λv2 X4 h=>hK _ _ ?_) (λch X4 h=>by{obtain⟨hx,_⟩:=h;cases hx}) (λX4 h=>by{obtain⟨hx,_⟩:=h;cases hx});obtain⟨hx,R,hM',hj'⟩:=h;cases hx;replace B4:=R.bk B4 zb;replace B6:=R.bk B6 zb;replace v5:=IsI.gstb _ _ _ _ _ R.gr v5;replace v8:=IsI.gstb _ _ _ _ _ R.gr v8;have RR:=(Rm.ext (h:=m.h) E).trans R;replace hh:=jK hh R.size;clear hK K R E v12 hM hj;refine jE ?_
  go_simp
  have c10:=B6.c 10 _ v10;by_cases he:d.err=0
  ·have d10:World.cell? X4 ⟨g6,10,none⟩=some (.int .i64 0):=by rw[<-he];exact c10
   clear c10;go_upto_region 8 with fail;clear d10;refine rgs 11 (dR 35 11) [IsP g6 0,IsP g6 0,IsP g6 0,IsI 128 d.lo,IsP g6 0,IsP g6 4,IsP g6 4,IsI 128 d.hi,IsP g6 8,IsV (.bool d.fin),IsKn 128 d.lo d.hi d.fin] [] ?_ ?_
   ·refine Rc (fa (fa_Va0 g6) (qB 6)) ?_;refine Rc (fa (fa_Iv0 g6 0) (qA 0 35)) ?_;refine Rc (fa (fa_Ra0 g6 0) (qA 1 36)) ?_;refine Rc (lv (fP:=IsI 128 d.lo) _ (λw' e=>qE w' g6 0 s1 a1 n1 c1 (e.cell (B6.c 0 _ v3)) (e.cell (B6.c 1 _ v4))) (qA 2 37) (λw' e=>IsI.gstb _ _ _ _ _ e.gr v5)) ?_;refine Rc (fa (fa_Va0 g6) (qB 6)) ?_;refine Rc (fa (fa_Iv1 g6 0) (qA 4 39)) ?_;refine Rc (fa (fa_Ra0 g6 4) (qA 5 40)) ?_;refine Rc (lv (fP:=IsI 128 d.hi) _ (λw' e=>qE w' g6 4 s2 a2 n2 c2 (e.cell (B6.c 4 _ v6)) (e.cell (B6.c 5 _ v7))) (qA 6 41) (λw' e=>IsI.gstb _ _ _ _ _ e.gr v8)) ?_;refine Rc (fa (fa_Va1 g6) (qB 6)) ?_;refine Rc (lvC 8 B6 ld_b (qA 8 43) v9) ?_;refine Rc (bdKnI (qA (fP:=IsI 128 d.lo) 3 38) (qA (fP:=IsI 128 d.hi) 7 42) (qA (fP:=IsV (.bool d.fin)) 9 44)) ?_;exact rn0
   intro v X5 e1 hZ _;obtain⟨s5,a5,n5,c5,s6,a6,n6,c6,hvk,g1,g2⟩:=hZ 10 dcx;obtain⟨fq,hfq⟩:∃f,d.fin=f:=⟨_,rfl⟩;simp only[lxE,Nat.reduceAdd];rw[hvk,hfq];clear hvk hZ;replace B4:=B4.ext e1;replace hM':=hM'.ext e1;replace hj':=(JG.inv SS SI m.h).ext hj' e1 hh;replace hh:=jK hh e1.size;replace RR:=RR.trans (Rm.ext e1);clear e1 v5 v8;refine stL (λK hK=>?_);refine qX (us:= [.bool s5,.slice a5 n5 c5,.bool s6,.slice a6 n6 c6,.bool fq]) B4 xL rfl rfl nw5 (λX9 B9 O=>hK _ _ ?_);replace g1:=IsI.gstb _ _ _ _ _ O.gr g1;replace g2:=IsI.gstb _ _ _ _ _ O.gr g2;have M9:MAt m left X9:=⟨O.bk hM'.bk zb,hM'.fit⟩;have J9:=(JG.inv SS SI m.h).only hj' O zb;have R9:=RR.ob (Ob.only O) zb;refine jE ?_;have d0:=B9.c 0 _ rfl;have d1:=B9.c 1 _ rfl;have d2:=B9.c 2 _ rfl;have d3:=B9.c 3 _ rfl;have d4:=B9.c 4 _ rfl;clear hK K O B9 B6 B4 hM' hj' RR;go_wp2_with fail;exact jD (v:=.agg #[.bool s5,.slice a5 n5 c5,.bool s6,.slice a6 n6 c6,.bool fq]) (by simp[results,results111,go_sem,d0,d1,d2,d3,d4]) rfl (by{rw[HCL.out,if_pos he];exact⟨R9,M9,J9,_,rfl,_,_,_,_,_,_,_,_,by first|rfl|rw[hfq],g1,g2⟩})
  ·go_wp2_with fail;exact⟨rfl,by{rw[HCL.out,if_neg he];exact⟨RR,hM',hj',rfl⟩}⟩
open Go Go.RowKit Go.Maps Go.Shelf
attribute [local go_sem] Oper.semAt_some
theorem Bk.kept{A B:World}{g:Nat}{vs:List Value}{row:Option Nat}(b:Bk A g vs)(hv:vs≠ [])(hg:A.grownBy B row)(hr:∀r,row=some r->∃o:Obj,A.heap[r]? =some o/\o.isCells=false):Bk B g vs:=by
 obtain⟨v0,hv0⟩:∃v,vs[0]? =some v:=by cases vs with|nil=>exact absurd rfl hv|cons v t=>exact⟨v,rfl⟩
 have hb:B.heap[g]? =A.heap[g]? :=hg.block g b.lt (λe=>by
  obtain⟨o,h1,h2⟩:=hr g e.symm;obtain⟨o',h3,h4⟩:=cells_of_cell (b.c 0 v0 hv0);rw[h1]at h3;cases h3;rw[h2]at h4
  cases h4)
 exact⟨λj v hj=>(World.cell?_of_block (w:=A) (a:=⟨g,j,none⟩) hb).trans (b.c j v hj),λj=>(World.frozen?_of_block (w:=A) (a:=⟨g,j,none⟩) hb).trans (b.f j),Nat.lt_of_lt_of_le b.lt hg.size⟩
def EntAt(H:Nat)(d:EnD)(es:List Value)(w:World):Prop:=
 (∃ao c,es[1]? =some (.slice ao d.vals.length c)/\(d.vals≠ []->∃g,ao=some ⟨g,0,none⟩/\g<H/\∀(j:Nat) (z:Int),d.vals[j]? =some z->∃s a n c',World.cell? w ⟨g,2*j,none⟩=some (.bool s)/\World.cell? w ⟨g,2*j+1,none⟩=some (.slice a n c')/\IsI 128 z (.agg #[.bool s,.slice a n c']) w))/\
 ∃hv,es[30]? =some hv/\∀h,H<=h->HyR h d.hyps hv w
theorem EntAt.rm{H h:Nat}{d:EnD}{es:List Value}{w w':World}(x:EntAt H d es w)(r:Rm h w w')(hh:H<=h):EntAt H d es w':=by
 obtain⟨⟨ao,c,h1,h2⟩,hv,h3,h4⟩:=x;refine⟨⟨ao,c,h1,λhn=>?_⟩,hv,h3,HyR.rmB h4 r hh⟩;obtain⟨g,k1,k2,k3⟩:=h2 hn;refine⟨g,k1,k2,λj z hj=>?_⟩;obtain⟨s,a,n,c',q1,q2,q3⟩:=k3 j z hj;exact⟨s,a,n,c',r.cell q1 (.inl (Nat.lt_of_lt_of_le k2 hh)),r.cell q2 (.inl (Nat.lt_of_lt_of_le k2 hh)),IsI.gstb _ _ _ _ _ r.gr q3⟩
def IsBd(H:Nat)(o:Option EnD):Value->World->Prop:=λx w=>∃es:List Value,x=.agg es.toArray/\es.length=31/\es.all (λu=>u.oneCell')=true/\(∀v∈es,NoWord v)/\∀d,o=some d->EntAt H d es w
theorem IsBd.rm{H h:Nat}{o:Option EnD}{x:Value}{w w':World}(y:IsBd H o x w)(r:Rm h w w')(hh:H<=h):IsBd H o x w':=let ⟨es,h1,h2,h3,h4,h5⟩:=y;⟨es,h1,h2,h3,h4,λd hd=>(h5 d hd).rm r hh⟩
theorem IsBd.stb(H:Nat)(o:Option EnD):Stb (IsBd H o):=λ_ _ _ e y=>y.rm (Rm.ext (h:=H) e) (jJ _)
instance (H:Nat) (o:Option EnD):StbC (IsBd H o):=⟨IsBd.stb H o⟩
theorem fa_En1'(g:Nat)(w:World):(Instr.fieldAt 95 (.pointer (some ⟨g,0,none⟩)) 1).run prog w=.ok (.pointer (some ⟨g,1,none⟩)) w:=by go_simp
theorem ix_In(g c n j:Nat)(h:j<n)(w:World):(Instr.indexAt 69 (.slice (some ⟨g,0,none⟩) n c) (.int .i64 (j:Int))).run prog w=.ok (.pointer (some ⟨g,2*j,none⟩)) w:=by
 have h1:(0:Int)<=(j:Int):=zb
 have h2:(j:Int)<(n:Int):=zb
 have h3:0+j*2=2*j:=zb
 have h4:j*2=2*j:=zb
 go_simp
theorem value_g{w:World}{h left:Nat}{ca va sa ga:Option Addr}{cn cc vn vc sn sc gn gc:Nat}{x:ByteArray}{k:Nat}{env:Env}{ve:Value}{bst:List UInt8->Option EnD}{SS:List (List UInt8)}{SI:List Int}{s:Lg}{H:Nat}(hH:H<=h)(T:TabM w)(hE:IsEnv h env ve w)(hF:fillOk x env)(_hk:k<=9)
  (hS:(flG x env).data.toList∈SS) (hSS:SS.length<maxLen) (hSI:SI.length<maxLen) (hb:∀y d,bst y=some d->d.vals.length<=1000000/\d.hyps.length<=1000000/\∀z∈d.hyps,z∈SI/\(Lit.int .i64 z).wf=true)
  (hh:h+3<=w.heap.size) (hM:MAt ⟨h,.slice ca cn cc,.slice va vn vc,.slice sa sn sc,.slice ga gn gc⟩ left w) (hj:JG SS SI h s w)
  (HB:Hid (∀w',Rm h w w'->Calls prog 137 #[.agg #[.slice sa sn sc],.string (flG x env),.slice ga gn gc] w' (Ret w' (IsT2 (IsBd H (bst (flG x env).data.toList)) (IsV (.bool (bst (flG x env).data.toList).isSome)))))):
  Calls prog 112 #[.pointer (some ⟨h+2,0,none⟩),.string x,.int .i64 (k:Int),ve] w (EvP ⟨h,.slice ca cn cc,.slice va vn vc,.slice sa sn sc,.slice ga gn gc⟩ (JG SS SI h) w ((vlG bst flG x (k:Int) env s).1,(left,(vlG bst flG x (k:Int) env s).2))):=by
 obtain⟨R0,hR0⟩:∃R,vlG bst flG x (k:Int) env s=R:=⟨_,rfl⟩;rw[hR0];obtain⟨hel,ao,cp,rfl,hcp,hle,hnil,hcs⟩:=hE
 obtain⟨W,hW,E,B5,B8⟩:∃W,W=(w.alloc (.cells #[.string x] 9)).alloc (.cells #[.bool false,.slice none 0 0,.bool false,.slice none 0 0,.bool false] 176)/\Ext w W/\Bk W w.heap.size [.string x]/\Bk W (w.heap.size+1) [.bool false,.slice none 0 0,.bool false,.slice none 0 0,.bool false]:=
  ⟨_,rfl,((Ext.refl w).alloc _).alloc _,(Bk.new w _ _).ext ((Ext.refl _).alloc _),Bk.newE _ _ zd _ _⟩
 have hEB:EnvB w.heap.size W ao env:=by
  by_cases hne:env= []
  ·exact .inl hne
  ·obtain⟨g,r1,r2,r3,r4⟩:=hcs hne;exact .inr ⟨g,r1,r3,λj y kk hj=>⟨E.cell (r4 j y kk hj).1,E.cell (r4 j y kk hj).2⟩⟩
 clear hcs hnil hcp hle;refine calls_of_wp_marks func112 rfl ?_;simp only[ntmps112,List.size_toArray,List.length_cons,List.length_nil,Nat.reduceAdd,Nat.reduceSub,Array.replicate_succ,Array.replicate_zero,List.push_toArray,List.append_toArray,List.nil_append,List.cons_append];go_upto_region 1 with fail;rw[<-hW];clear hW;go_wp2_with (go_at_call 135;refine(back_c _ _ _ _).mono ?_;rintro e w1 ⟨rfl,rfl⟩)
 have hwc:=B8.lt;obtain⟨c,hc⟩:∃c,W.heap.size=c:=⟨_,rfl⟩;rw[hc]at hwc;obtain⟨w1,hw1,E1,hcl,hcb⟩:∃w1,w1=W.alloc (.cells #[.slice ao env.length cp] 197)/\Ext W w1/\c<w1.heap.size/\w1.cell? ⟨c,0,none⟩=some (.slice ao env.length cp):=⟨_,rfl,(Ext.refl _).alloc _,by rw[<-hc];simp,by rw[<-hc];simp⟩;rw[<-hw1,hc];clear hw1;have E1w:Ext w w1:=E.trans E1;have hcE:=hid (jI hcl hwc);have hT1:=T.ext E1w
 refine wpIn_wide.1 (wpIn_rangeFunc_ownH (n:=9) rfl dcx (gf:=179) (lb:= #[.pointer (some ⟨c,0,none⟩)]) rfl trivial (en func179)
  (backv_stops Fence.wide (9-1) trivial rfl dcx c w.heap.size ao cp env hel hF.2.2 w1 hcl E1w.size hcb (hEB.below (E1.mono E.size))) (λh k=>h.trans k) (Kpb.put E1w.size) (Below.refl _ _) (λ_=>rfl)
  (λpre W'=>(Bk W' w.heap.size [.string (fiN x pre)]/\Bk W' (w.heap.size+1) [.bool false,.slice none 0 0,.bool false,.slice none 0 0,.bool false])/\Below w.heap.size w W') (λ_ _ _=>False)
  ?own (λ_ _ _ _ _ hx _ _=>hx) ?start
  (λy a' W'=>∃g10,a'= {tmps:= #[.pointer (some ⟨h+2,0,none⟩),.string x,.int .i64 (k:Int),.slice ao env.length cp,undef,.pointer (some ⟨w.heap.size,0,none⟩),undef,undef,.pointer (some ⟨w.heap.size+1,0,none⟩),undef,.pointer (some ⟨g10,0,none⟩),undef,undef,.slice ao env.length cp,.func (.func 179) #[] #[.pointer (some ⟨c,0,none⟩)],.int .i64 (y.1:Int),.agg #[.string (clp y).1,.int .i64 (clp y).2],undef,undef,undef,undef,undef,undef,undef,undef,undef,undef,undef,undef,undef,undef,undef,undef,undef,undef,undef,undef,undef,undef,undef,undef,undef,undef,undef,undef,undef,undef,undef,undef,undef,undef,undef,undef,undef,undef,undef,undef,undef,undef,undef,undef,undef],defers:= []}/\Bk W' g10 [.string (clp y).1,.int .i64 (clp y).2])
  ?hAx ?assign ?body ?done (λ_ _ _ _ _ _ hx _=>hx.elim))
 case own=>
  intro pre A B row hs hg hr;exact⟨⟨hs.1.1.kept zd hg (λr e=>(hr r e).2),hs.1.2.kept zd hg (λr e=>(hr r e).2)⟩,hs.2.grown hg hs.2.size (λq e=>jK E1w.size (hr q e).1)⟩
 case start=>exact⟨⟨B5.ext E1,B8.ext E1⟩,E1w⟩
 case hAx=>
  rintro y a' _ A B row ⟨g10,h1,h3⟩ hg hr;exact⟨g10,h1,h3.kept zd hg (λr e=>(hr r e).2)⟩
 case assign=>
  intro l pre y W' K hI hK;obtain⟨⟨b5,b8⟩,hb⟩:=hI;have e1:Ext W' (W'.alloc (.cells #[.string (clp y).1,.int .i64 (clp y).2] 200)):=(Ext.refl _).alloc _;have hbs:=hb.size
  gi_wp2
  exact hK _ _ ((ext_keeps e1).from _) ⟨Below.mono e1 zb,λv hv=>e1.cell hv⟩ ⟨⟨b5.ext e1,b8.ext e1⟩,Below.trans hb (Below.mono e1 zb)⟩ ⟨_,rfl,Bk.newE _ _ zd _ _⟩
 case body=>
  rintro l pre y a' W' hl0 hlr ⟨⟨b5,b8⟩,hb⟩ ⟨g10,rfl,b10⟩ hlen;have d5:=b5.c 0 _ rfl;have d10:=b10.c 0 _ rfl;have d11:=b10.c 1 _ rfl;have hT:=T.ext hb;obtain⟨hy0,hy1,hy2⟩:=clp_fit y;have hF2:=hF.2.1;have hbs:=hb.size
  gi_wp2_with (refine⟨trivial,?_⟩;gi_at_call 136;go_must (refine(in_round l (Fill_f hT (fiN x pre) (clp y).1 (clp y).2 (fiN_le hF.1 zb) zb zb zb)).mono ?_;rintro e w8 ⟨_,rfl,E8,rfl⟩;have Lg:=(b5.ext E8).c 0 _ rfl;have Fg:=(b5.ext E8).f 0))
  have hs8:=E8.size;have hc8:=hcE.out;obtain⟨O,B9⟩:=(b5.ext E8).putO (us:= [.string (fillB (fiN x pre) (clp y).1 (clp y).2)]) rfl (by simp[NoWord]);refine⟨((ext_keeps E8).trans (KeepsOthers.setCell _ _ _)).from _,⟨Below.setCell (Below.mono E8 hbs) (jJ _) _,λv hv=>?_⟩,⟨?_,?_⟩,?_⟩
  ·exact(World.cell?_of_block (w:=w8) (a:=⟨c,0,none⟩) (O.block c zb)).trans (E8.cell hv)
  ·rw[fiN_snoc];exact B9
  ·exact O.bk (b8.ext E8) zb
  ·exact Below.setCell (hb.trans (Below.mono E8 hbs)) (jJ _) _
 case done=>
  rintro D xs W' hD rfl ⟨⟨B5',B8'⟩,E'⟩ hK;obtain⟨fx,hfx⟩:∃fx,flG x env=fx:=⟨_,rfl⟩;have hsz:fx.size<=maxLen:=jK (by rw[<-hfx];exact fiN_le hF.1 (by rw[upto_length];exact hF.2.1)) dcx;rw[show fiN x (upto (bwv env) env.length)=fx from hfx]at B5';unfold vlG at hR0;rw[hfx]at hS HB hR0;obtain⟨o,ho⟩:∃o,bst fx.data.toList=o:=⟨_,rfl⟩;rw[ho]at HB hR0;have hb':=hb fx.data.toList;rw[ho]at hb';clear ho hb hfx B5 B8 hcb E1 T hT1 hEB E;have E:Ext w W':=E';clear E';have hM2:=hM.ext E;have hj2:=(JG.inv SS SI h).ext hj E hh;have B5:=B5';have B8:=B8';clear B5' B8';have hDW:c<D:=Nat.lt_of_lt_of_le hcl hD;have hc8:=hcE.out;clear hcl hj hM hcE E1w hc;go_upto_region 4 with fail;have hDl:D<W'.heap.size:=(Array.getElem?_eq_some_iff.1 hK).1;refine rg 5 (dR 23 5) [IsP (h+2) 0,IsP (h+2) 0,IsP (h+2) 5,IsV (.map (some h)),IsV (.string fx)] [] 1 ?_ ?_
  ·refine Rc zt ?_;refine Rc (nc (p:=⟨h+2,0,none⟩) (qA 0 23)) ?_;refine Rc (fa (fa_Mc5 (h+2)) (qA 1 24)) ?_;refine Rc (lvC 5 hM2.bk ld_ms (qA 2 25)) ?_;refine Rc (lvC 0 B5 ld_str (qB 5)) ?_;exact rn0
  intro v X1 e1 hZ _;replace E:=E.trans e1;replace hj2:=(JG.inv SS SI h).ext hj2 e1 hM2.bk.lt;replace hM2:=hM2.ext e1;replace B5:=B5.ext e1;replace B8:=B8.ext e1;replace hK:=(e1.block D hDl).trans hK;replace hDl:=Nat.lt_of_lt_of_le hDl e1.size;simp only[lxE,Nat.reduceAdd];rw[show v 3=.map (some h)from hZ 3 dcx,show v 4=.string fx from hZ 4 dcx];clear hZ e1;obtain⟨X2,hrun,hj3,tur⟩:=hj2.read hsz hS hSS;have R:=turned_rm (h:=h) tur (.inl rfl);refine stA 5 (h:=λK hK'=>?_);refine wp_mu za za rfl hrun (hK' _ _ ?_);have RR:=(Rm.ext E).trans R;replace hM2:MAt ⟨h,.slice ca cn cc,.slice va vn vc,.slice sa sn sc,.slice ga gn gc⟩ left X2:=⟨hM2.bk.grown tur.grown jm,hM2.fit⟩;replace B5:=R.bk B5 zb;replace B8:=R.bk B8 zb;replace hK:=(R.block D hDl zb).trans hK;replace hDl:=Nat.lt_of_lt_of_le hDl R.size;clear hK' hj2 tur hrun E R;refine jL za ?_ _;go_upto_region 5 with fail;have hX2:=hM2.bk.lt;obtain⟨b,hbo⟩:∃b,o.isSome=b:=⟨_,rfl⟩;rw[hbo]at HB;refine rgO 14 [12] [some 29,some 30,some 31,some 32,some 33,some 34,some 35,some 36,some 37,some 38,some 28,some 39,some 40,some 11] [IsP (h+2) 0,IsP (h+2) 0,IsP (h+2) 2,IsV (.agg #[.slice sa sn sc]),IsV (.string fx),IsP (h+2) 0,IsP (h+2) 0,IsP (h+2) 3,IsV (.slice ga gn gc),IsT2 (IsBd H o) (IsV (.bool b)),IsT2 (IsBd H o) (IsV (.bool b)),IsBd H o,IsV (.bool b),IsNb X2.heap.size z31] [] 2 ?_ ?_ ?_
  ·intro i hi v w' hE hd;obtain rfl:i=12:=by simpa using hi
   have d0:IsT2 (IsBd H o) (IsV (.bool b)) (v 10) w':=hd 10 za;obtain⟨x0,x1,z0,y0,y1⟩:=d0;refine⟨.bool b,_,rfl,Or.inl ⟨by rfl,?_⟩,rfl⟩;intro w9;simp only[lxE,Nat.reduceAdd];rw[z0];obtain rfl:x1=.bool b:=y1
   go_simp
  ·refine Rc zt ?_;refine Rc (nc (p:=⟨h+2,0,none⟩) (qA 0 29)) ?_;refine Rc (fa (fa_Mc2 (h+2)) (qA 1 30)) ?_;refine Rc (lv (fP:=IsV (.agg #[.slice sa sn sc])) _ (λw' e=>ld_ShM ((hM2.bk.ext e).c 2 _ rfl)) (qA 2 31) (λ_ _=>rfl)) ?_;refine Rc (lvC 0 B5 ld_str (qB 5)) ?_;refine Rc zt ?_;refine Rc (nc (p:=⟨h+2,0,none⟩) (qA 5 34)) ?_;refine Rc (fa (fa_Mc3 (h+2)) (qA 6 35)) ?_;refine Rc (lvC 3 hM2.bk ld_ai (qA 7 36)) ?_;refine Rc (cl3 (en func137) (qA (fP:=IsV (.agg #[.slice sa sn sc])) 3 32) (qA (fP:=IsV (.string fx)) 4 33) (qA (fP:=IsV (.slice ga gn gc)) 8 37) (λx0 x1 x2 w' hE d0 d1 d2=>by{obtain rfl:x0=_:=d0;obtain rfl:x1=_:=d1;obtain rfl:x2=_:=d2;exact HB.out w' (RR.trans (Rm.ext hE))})) ?_;refine Rc (mv (qA 9 38)) ?_;refine Rc (ex (qA (fP:=IsT2 (IsBd H o) (IsV (.bool b))) 10 28) (λu w' hu=>let ⟨a,b',h1,h2,h3⟩:=hu;⟨_,h1,a,rfl,h2⟩)) ?_;refine Rc (ex (qA (fP:=IsT2 (IsBd H o) (IsV (.bool b))) 10 28) (λu w' hu=>let ⟨a,b',h1,h2,h3⟩:=hu;⟨_,h1,b',rfl,h3⟩)) ?_;refine Rc (alB al_En (jJ _)) ?_;exact rn0
  intro v X3 e1 hZ _;obtain⟨es,hv11,hes,hone,hnw,hbest⟩:=hZ 11 dcx;obtain⟨g11,hv13,hg11,B11⟩:=hZ 13 dcx;simp only[lxE,Nat.reduceAdd];rw[hv11,hv13,show v 12=.bool b from hZ 12 dcx];clear hZ hv11 hv13;refine stA 14 (h:=λK hK'=>?_);refine qX (us:=es) B11 st_En rfl hes nwE (λX4 B11' O=>hK' _ _ ?_) (ho1:=hone);have e2:=O.ext e1 hg11;have hs:=RR.size;have hb4:∀d,o=some d->EntAt H d es X4:=λd hd=>(hbest d hd).rm (h:=g11) ⟨O.os,O.tape,O.output,by rw[O.size];exact jJ _,λk _ hg=>O.block k zb,O.gr⟩ zb
  replace hj3:=(JG.inv SS SI h).ext hj3 e2 hX2;replace hM2:=hM2.ext e2;replace RR:=RR.trans (Rm.ext e2);replace B8:=B8.ext e2;replace hK:=(e2.block D hDl).trans hK;replace hDl:=Nat.lt_of_lt_of_le hDl e2.size;have hg8:X2.heap.size<=g11:=hg11;clear hK' O e1 e2 B11 hbest B5 HB hs;refine stA 15 (h:=λK hK'=>?_);refine wp_mvA (u:=.bool b) za (hK' _ _ ?_);clear hK';refine jL za ?_ _;simp only[Act.put,uAx];cases o with
  | none=>
   obtain rfl:false=b:=hbo;refine NoPanic.normal ?_;go_wp2_with fail;have O:=obD (q:=none) hK;exact marks_panic1 hK ⟨RR.ob O zb,hM2.ob O jm,by rw[<-hR0];exact hj3.ob O zb zb,by rw[<-hR0];rfl⟩
  | some d=>
   obtain rfl:true=b:=hbo;refine NoPanic.normal ?_;obtain⟨⟨va1,vc1,q1,q2⟩,hv,q4,q5⟩:=hb4 d rfl;obtain⟨hlv,hlh,hih⟩:=hb' d rfl;clear hb4 hb';have q50:=q5 h hH;have c30:=B11'.c 30 _ q4;have c1:=B11'.c 1 _ q1;have hX4:h+3<=X4.heap.size:=by have:=RR.size;omega
   go_upto_region 9 with(go_at_call 134;refine(use_g (m:=⟨h,.slice ca cn cc,.slice va vn vc,.slice sa sn sc,.slice ga gn gc⟩) hM2 hj3 hX4 q50 hih hSI hlh).mono ?_;rintro e w5 ⟨rfl,R5,M5,J5⟩);replace B11':=R5.bk B11' zb;replace B8:=R5.bk B8 zb;replace hK:=(R5.block D hDl zb).trans hK;replace hDl:=Nat.lt_of_lt_of_le hDl R5.size;replace RR:=RR.trans R5;have hg12:g11<w5.heap.size:=B11'.lt;have hX5:h+3<=w5.heap.size:=by have:=RR.size;omega
   clear c30 q50 q5 hM2 hj3 c1;have c1:=B11'.c 1 _ q1;by_cases hkl:k<d.vals.length
   ·obtain⟨z,hz⟩:∃z,d.vals[k]? =some z:=⟨d.vals[k],List.getElem?_eq_getElem hkl⟩;have hle':¬((d.vals.length:Int)<=(k:Int)):=by omega
    obtain⟨gv,rfl,hgv,hq⟩:=q2 (λe=>by rw[e]at hkl;simp at hkl);obtain⟨s2,a2,n2,c2,t1,t2,t3⟩:=hq k z hz;replace t1:=R5.cell t1 (.inl (Nat.lt_of_lt_of_le hgv hH));replace t2:=R5.cell t2 (.inl (Nat.lt_of_lt_of_le hgv hH));replace t3:=IsI.gstb _ _ _ _ _ R5.gr t3
    have hR1:R0=(.ok ⟨z,z,true⟩,(s.1++ [fx.data.toList],s.2++d.hyps)):=by
     rw[<-hR0,Int.toNat_natCast,hz]
    clear hR0 hq q2;go_upto_region 11 with fail;clear c1;refine rgs 6 (dR 56 6) [IsP g11 1,IsV (.slice (some ⟨gv,0,none⟩) d.vals.length vc1),iV (k:Int),IsP gv (2*k),IsI 128 z,IsKn 128 z z true] [] ?_ ?_
    ·refine Rc (fa (fa_En1' g11) (qB 11)) ?_;refine Rc (lvC 1 B11' ld_aI (qA 0 56) q1) ?_;refine Rc yw ?_;refine Rc (ixq (u:=.int .i64 (k:Int)) (ix_In gv vc1 d.vals.length k hkl) (qA 1 57) (qA 2 58)) ?_;refine Rc (lv (fP:=IsI 128 z) _ (λw' e=>qE w' gv (2*k) s2 a2 n2 c2 (e.cell t1) (e.cell t2)) (qA 3 59) (λw' e=>t3.ext e)) ?_;refine Rc (cl1 (en func109) (qA (fP:=IsI 128 z) 4 60) (λx0 w' hE d0=>exact_f d0)) ?_;exact rn0
    intro v X6 e6 hZ _;obtain⟨s5,a5,n5,c5,s6,a6,n6,c6,hv,g1,g2⟩:=hZ 5 dcx;obtain⟨fq,hfq⟩:∃f,true=f:=⟨_,rfl⟩;simp only[lxE,Nat.reduceAdd];rw[hv,hfq];replace B8:=B8.ext e6;replace M5:=M5.ext e6;replace J5:=(JG.inv SS SI h).ext J5 e6 hX5;replace RR:=RR.trans (Rm.ext e6);replace hK:=(e6.block D hDl).trans hK;replace hDl:=Nat.lt_of_lt_of_le hDl e6.size;clear hv hZ e6 q1 t1 t2 t3;refine stL (λK hK'=>?_);refine qX (us:= [.bool s5,.slice a5 n5 c5,.bool s6,.slice a6 n6 c6,.bool fq]) B8 xL rfl rfl nw5 (λX9 B9 O=>hK' _ _ ?_);have O':=Ob.only O;replace g1:=IsI.gstb _ _ _ _ _ O.gr g1;replace g2:=IsI.gstb _ _ _ _ _ O.gr g2;replace M5:=M5.ob O' jm;replace J5:=J5.ob O' zb zb;replace RR:=RR.ob O' zb;replace hK:=(O.block D zb).trans hK;refine jE ?_;clear hK' K O O';go_wp2_with fail;have O:=obD (q:=none) hK;replace B9:=O.bk B9 zb;have d0:=B9.c 0 _ rfl;have d1:=B9.c 1 _ rfl;have d2:=B9.c 2 _ rfl;have d3:=B9.c 3 _ rfl;have d4:=B9.c 4 _ rfl;exact marks_ret1 hK (v:=.agg #[.bool s5,.slice a5 n5 c5,.bool s6,.slice a6 n6 c6,.bool fq]) (by simp[results,results112,go_sem,d0,d1,d2,d3,d4]) ⟨RR.ob O zb,M5.ob O jm,J5.ob O zb zb,⟨_,rfl,_,_,_,_,_,_,_,_,by rw[<-hfq],IsI.gstb _ _ _ _ _ O.gr g1,IsI.gstb _ _ _ _ _ O.gr g2⟩⟩
   ·have hle':((d.vals.length:Int)<=(k:Int)):=by omega
    have hR1:R0=(.error 6,(s.1++ [fx.data.toList],s.2++d.hyps)):=by
     rw[<-hR0,Int.toNat_natCast,List.getElem?_eq_none (by omega)]
    clear hR0 q2;go_wp2_with fail;have O:=obD (q:=none) hK;exact marks_panic1 hK ⟨RR.ob O zb,M5.ob O jm,J5.ob O zb zb,rfl⟩
end
section
open Go Go.RowKit Go.Maps
open Go.Proofs.Tryz
set_option maxRecDepth 100000
set_option maxHeartbeats 8000000
def IsOutG(res:Res Kn)(left:Nat)(rd:List (List UInt8))(hy:List Int):Value->World->Prop:=λx w=>∃(vl:List Value) (ha:Option Addr) (hn hc:Nat) (ra:Option Addr) (rn rc:Nat),x=.agg (vl++ [Value.slice ra rn rc,Value.int .i64 (left:Int)]).toArray/\vl.length=11/\vl.all (λu=>u.oneCell')=true/\(∀v∈vl,NoWord v)/\
 IsVl res (.slice ha hn hc) (.agg vl.toArray) w/\IsRw 0 (zsV hy) (.slice ha hn hc) w/\IsRw 0 (ksV rd) (.slice ra rn rc) w
def EvG(SS:List (List UInt8))(SI:List Int)(w:World)(us:List Value)(ca va sa ga:Option Addr)(cn cc vn vc sn sc gn gc s0:Nat)(res:Res Kn)(left:Nat)(rd:List (List UInt8))(hy:List Int):Prop:=
 ∀ (h:Nat) (w':World),w.heap.size<=h->Ext w w'->MAt ⟨h,.slice ca cn cc,.slice va vn vc,.slice sa sn sc,.slice ga gn gc⟩ s0 w'->JG SS SI h ([], []) w'->h+3<=w'.heap.size->
  Calls prog 84 #[.pointer (some ⟨h+2,0,none⟩),.agg us.toArray,.slice none 0 0] w' (EvP ⟨h,.slice ca cn cc,.slice va vn vc,.slice sa sn sc,.slice ga gn gc⟩ (JG SS SI h) w' (res,(left,(rd,hy))))
theorem EvG.ext{SS:List (List UInt8)}{SI:List Int}{w w1:World}{us:List Value}{ca va sa ga:Option Addr}{cn cc vn vc sn sc gn gc s0:Nat}{res:Res Kn}{left:Nat}{rd:List (List UInt8)}{hy:List Int}(H:EvG SS SI w us ca va sa ga cn cc vn vc sn sc gn gc s0 res left rd hy)(e:Ext w w1):EvG SS SI w1 us ca va sa ga cn cc vn vc sn sc gn gc s0 res left rd hy:=
 λh w' h1 h2 h3 h4 h5=>H h w' (jK e.size h1) (e.trans h2) h3 h4 h5
theorem run_g{w:World}{us:List Value}{ca va sa ga:Option Addr}{cn cc vn vc sn sc gn gc s0:Nat}{res:Res Kn}{left:Nat}{SS:List (List UInt8)}{SI:List Int}{rd:List (List UInt8)}{hy:List Int}(hl:us.length=8)(hs:s0<=100000)(hSS:SS.length<=1000000)(hSI:SI.length<=1000000)(HC:EvG SS SI w us ca va sa ga cn cc vn vc sn sc gn gc s0 res left rd hy):
  Calls prog 16 #[.agg us.toArray,.slice ca cn cc,.slice va vn vc,.agg #[.slice sa sn sc],.slice ga gn gc,.int .i64 (s0:Int)] w (Ret w (IsOutG res left rd hy)):=by
 have HC:=hid HC;have hl0:=hl;obtain⟨u0,u1,u2,u3,u4,u5,u6,u7,rfl⟩:=len8 hl;clear hl
 obtain⟨W,hW,E,B6,B9,B12⟩:∃W,W=((w.alloc (.cells #[u0,u1,u2,u3,u4,u5,u6,u7] 31)).alloc (.cells #[.slice sa sn sc] 39)).alloc (.cells #[.bool false,.slice none 0 0,.bool false,.slice none 0 0,.bool false,.slice none 0 0,.bool false,.slice none 0 0,.bool false,.slice none 0 0,.int .i64 0,.slice none 0 0,.int .i64 0] 53)/\Ext w W/\Bk W w.heap.size [u0,u1,u2,u3,u4,u5,u6,u7]/\Bk W (w.heap.size+1) [.slice sa sn sc]/\Bk W (w.heap.size+2) zOut:=
  ⟨_,rfl,(((Ext.refl w).alloc _).alloc _).alloc _,(Bk.new w _ _).ext (((Ext.refl _).alloc _).alloc _),(Bk.newE _ _ zd _ _).ext ((Ext.refl _).alloc _),Bk.newE _ _ zd _ _⟩
 go_enter func16,ntmps16;go_upto_region 1 with fail;rw[<-hW];clear hW;refine rgs 6 (dR 17 6) [IsV (.agg #[u0,u1,u2,u3,u4,u5,u6,u7]),IsV (.slice ca cn cc),IsV (.slice va vn vc),IsV (.agg #[.slice sa sn sc]),IsV (.slice ga gn gc),iV (s0:Int)] [] ?_ ?_
 ·refine Rc (lvV B6 xY (qB 6)) ?_;refine Rc yo ?_;refine Rc yw ?_;refine Rc (lvV B9 ld_Sh (qB 9)) ?_;refine Rc (mv (qB 4)) ?_;refine Rc (mv (qB 5)) ?_;exact rn0
 intro v X1 e1 hZ _;replace E:=E.trans e1;replace B12:=B12.ext e1;simp only[lxE,Nat.reduceAdd];rw[show v 0=.agg #[u0,u1,u2,u3,u4,u5,u6,u7]from hZ 0 dcx,show v 1=.slice ca cn cc from hZ 1 dcx,show v 2=.slice va vn vc from hZ 2 dcx,show v 3=.agg #[.slice sa sn sc]from hZ 3 dcx,show v 4=.slice ga gn gc from hZ 4 dcx,show v 5=.int .i64 (s0:Int)from hZ 5 dcx];clear hZ e1 B6 B9;refine stL (λK hK=>?_);refine xC (us:= [.agg #[u0,u1,u2,u3,u4,u5,u6,u7],.slice ca cn cc,.slice va vn vc,.agg #[.slice sa sn sc],.slice ga gn gc,.int .i64 (s0:Int)]) (en func48) za (Eval_g (SS:=SS) (SI:=SI) (us:= [u0,u1,u2,u3,u4,u5,u6,u7]) hl0 hs hSS hSI (hid (HC.out.ext E))) (λv2 X2 h=>hK _ _ ?_) (λch X2 h=>by{obtain⟨_,_,_,_,hx,_⟩:=h;cases hx}) (λX2 h=>by{obtain⟨_,_,_,_,hx,_⟩:=h;cases hx});obtain⟨e1,vv,rv,hv,hx,hvl,hri,hrs⟩:=h;have hX1:=B12.lt;cases hx;obtain⟨ha,hn,hc,rfl⟩:=hri.shape;obtain⟨ra,rn,rc,rfl⟩:=hrs.shape;obtain⟨vl,rfl,hvn,hone,hnw⟩:=hvl.list;have hvn0:=hvn;replace E:=E.trans e1;replace B12:=B12.ext e1;clear hK K e1;have hW2:=B12.lt;obtain⟨l0,l1,l2,l3,l4,l5,l6,l7,l8,l9,l10,rfl⟩:=len11 hvn;clear hvn
 go_simp
 refine jP λK hK=>?_;go_simp;refine hK _ _ ?_;clear hK K
 refine jP λK hK=>?_;go_simp;refine hK _ _ ?_;clear hK K
 refine jP λK hK=>?_;go_simp;refine hK _ _ ?_;clear hK K
 refine jP λK hK=>?_;go_simp;refine hK _ _ ?_;clear hK K
 refine stL (λK hK=>?_);refine xK (vs:=zVl) al_Vl (λB13 e1=>hK _ _ ?_);replace E:=E.trans e1;replace B12:=B12.ext e1;obtain⟨g13,hg13⟩:∃g,X2.heap.size=g:=⟨_,rfl⟩;rw[hg13]at B13 hW2 ⊢;generalize X2.alloc (.cells zVl.toArray 50)=X3 at E B12 e1 B13 ⊢;clear hK K
 go_simp
 refine stL (λK hK=>?_);refine qX (us:= [l0,l1,l2,l3,l4,l5,l6,l7,l8,l9,l10]) B13 st_Vl rfl rfl nwZ (λX4 B14 O=>hK _ _ ?_) (ho1:=hone);replace B12:=O.bk B12 zb;replace E:=O.ext E zb;have e2:=O.ext e1 zb;replace hvl:=IsVl.stb _ _ _ _ _ e2 hvl;replace hri:=hri.ext e2;replace hrs:=hrs.ext e2;clear hK K O e1 e2 B13;refine jP λK hK=>?_;go_simp;refine hK _ _ ?_;clear hK K
 refine jP λK hK=>?_;go_simp;refine hK _ _ ?_;clear hK K
 refine jE ?_;go_upto_region 2 with fail;refine rgs 4 (dR 27 4) [IsV (.agg #[l0,l1,l2,l3,l4,l5,l6,l7,l8,l9,l10]),IsV (.slice ra rn rc),iV (left:Int),IsV (.agg #[l0,l1,l2,l3,l4,l5,l6,l7,l8,l9,l10,.slice ra rn rc,.int .i64 (left:Int)])] [] ?_ ?_
 ·refine Rc (lvV B14 ld_Vl (qB 13)) ?_;refine Rc (mv (qB 14)) ?_;refine Rc (mv (qB 15)) ?_
  refine Rc (Ok.of za λv a w2 hE hd hf=>by
   have e1:a.eval (.tmp 27)=_:=(qA (fP:=IsV (.agg #[l0,l1,l2,l3,l4,l5,l6,l7,l8,l9,l10])) 0 27:Od _ _ _ _ _ _ _ _).out v a w2 hE hd hf;have e2:a.eval (.tmp 28)=_:=(qA (fP:=IsV (.slice ra rn rc)) 1 28:Od _ _ _ _ _ _ _ _).out v a w2 hE hd hf;have e3:a.eval (.tmp 29)=_:=(qA (fP:=iV (left:Int)) 2 29:Od _ _ _ _ _ _ _ _).out v a w2 hE hd hf;have hr:(Instr.build 53 #[(0,.agg #[l0,l1,l2,l3,l4,l5,l6,l7,l8,l9,l10]),(1,.slice ra rn rc),(2,.int .i64 (left:Int))]).run prog w2=.ok (.agg #[l0,l1,l2,l3,l4,l5,l6,l7,l8,l9,l10,.slice ra rn rc,.int .i64 (left:Int)]) w2:=zy
   exact⟨_,bdG rfl (by simp only[List.map_toArray,List.map_cons,List.map_nil];rw[e1,e2,e3];exact hr),rfl⟩) ?_
  exact rn0
 intro v X5 e1 hZ _;replace E:=E.trans e1;replace B12:=B12.ext e1;replace hvl:=IsVl.stb _ _ _ _ _ e1 hvl;replace hri:=hri.ext e1;replace hrs:=hrs.ext e1;simp only[lxE,Nat.reduceAdd];rw[show v 3=.agg #[l0,l1,l2,l3,l4,l5,l6,l7,l8,l9,l10,.slice ra rn rc,.int .i64 (left:Int)]from hZ 3 dcx];clear hZ e1 B14;refine stL (λK hK=>?_)
 have hone2: [l0,l1,l2,l3,l4,l5,l6,l7,l8,l9,l10,Value.slice ra rn rc,.int .i64 (left:Int)].all (λu=>u.oneCell')=true:=by
  rw[show [l0,l1,l2,l3,l4,l5,l6,l7,l8,l9,l10,Value.slice ra rn rc,.int .i64 (left:Int)]= [l0,l1,l2,l3,l4,l5,l6,l7,l8,l9,l10]++ [Value.slice ra rn rc,.int .i64 (left:Int)]from rfl,List.all_append,hone];rfl
 refine qX (us:= [l0,l1,l2,l3,l4,l5,l6,l7,l8,l9,l10,.slice ra rn rc,.int .i64 (left:Int)]) B12 st_Out rfl rfl nwOut (λX6 B9 O=>hK _ _ ?_) (ho1:=hone2);replace E:=O.ext E zb;have hvl6:=IsVl.gstb _ _ _ _ _ O.gr hvl;have hri6:=(hri.ob (Ob.only O) hX1).mono (Nat.zero_le _);have hrs6:=(hrs.ob (Ob.only O) hX1).mono (Nat.zero_le _);refine jE ?_;have d0:=B9.c 0 _ rfl;have d1:=B9.c 1 _ rfl;have d2:=B9.c 2 _ rfl;have d3:=B9.c 3 _ rfl;have d4:=B9.c 4 _ rfl;have d5:=B9.c 5 _ rfl;have d6:=B9.c 6 _ rfl;have d7:=B9.c 7 _ rfl;have d8:=B9.c 8 _ rfl;have d9:=B9.c 9 _ rfl;have d10:=B9.c 10 _ rfl;have d11:=B9.c 11 _ rfl;have d12:=B9.c 12 _ rfl;clear hK K O B9;go_wp2_with fail;exact jD (v:=.agg #[l0,l1,l2,l3,l4,l5,l6,l7,l8,l9,l10,.slice ra rn rc,.int .i64 (left:Int)]) (by simp[results,results16,go_sem,d0,d1,d2,d3,d4,d5,d6,d7,d8,d9,d10,d11,d12]) rfl ⟨_,rfl,E, [l0,l1,l2,l3,l4,l5,l6,l7,l8,l9,l10],ha,hn,hc,ra,rn,rc,rfl,rfl,hone,hnw,hvl6,hri6,hrs6⟩
open Go Go.RowKit Go.Maps Go.Shelf
theorem bestH_mem{hy:List Value->List Int}{gs:List Int}{L:List (List Value)}{x:ByteArray}{vs:List Value}(h:bestH hy gs L x=some vs):vs∈L:=by
 unfold bestH at h;obtain⟨M,hM⟩:∃M,(L.filter (λvs=>decide (xZ vs=x))).filter (λvs=> !(hy vs).any (λh=> !gs.any (λy=>decide (y=h))))=M:=⟨_,rfl⟩;rw[hM]at h;have hs:∀v∈M,v∈L:=λv hv=>by rw[<-hM]at hv;exact(List.mem_filter.1 (List.mem_filter.1 hv).1).1
 cases M with
 |nil=>simp[bestL]at h
 | cons hd t=>
  simp only[bestL,Option.some.injEq]at h;rw[<-h];rcases minL_mem (λvs=>(hy vs).length) t hd with e|e
  ·rw[e];exact hs _ List.mem_cons_self
  ·exact hs _ (List.mem_cons_of_mem _ e)
structure ShpM (cs:List qL) (L:List (List Value)) (dat:List Value->EnD) (gs:List Int) (c v s g:Value) (w:World):Prop where
 tm:TabM w
 cr:CsR w.heap.size cs c w
 vr:VsR w.heap.size cs v w
 sr:HdS L s w
 gr:IrR gs g w
 ent:∀vs∈L,EntAt w.heap.size (dat vs) (vs.take 31) w
 hy:∀vs∈L,∃u,vs[30]? =some u/\IrR (dat vs).hyps u w
structure ShpMOk (SI:List Int) (cs:List qL) (L:List (List Value)) (dat:List Value->EnD) (gs:List Int):Prop where
 cl:cs.length<=1000000
 ck:∀c∈cs,c.hyps.length<=1000000/\∀y∈c.hyps,y∈SI/\(Lit.int .i64 y).wf=true
 ll:L.length<=1000000
 lk:∀vs∈L,HdOk vs
 ln:∀vs∈L,vs[0]? =some (.string (xZ vs))
 gl:gs.length<=1000000
 dk:∀vs∈L,(dat vs).vals.length<=1000000/\(dat vs).hyps.length<=1000000/\∀z∈(dat vs).hyps,z∈SI/\(Lit.int .i64 z).wf=true
def bsG(L:List (List Value))(dat:List Value->EnD)(gs:List Int)(y:List UInt8):Option EnD:=(bestH (λvs=>(dat vs).hyps) gs L ⟨y.toArray⟩).map dat
theorem bsG_at(L:List (List Value))(dat:List Value->EnD)(gs:List Int)(x:ByteArray):bsG L dat gs x.data.toList=(bestH (λvs=>(dat vs).hyps) gs L x).map dat:=by simp[bsG]
theorem bestE{cs:List qL}{L:List (List Value)}{dat:List Value->EnD}{gs SI:List Int}{c v s g:Value}{w0 w':World}(S:ShpM cs L dat gs c v s g w0)(K:ShpMOk SI cs L dat gs)(E:Ext w0 w')(x:ByteArray):
  Calls prog 137 #[.agg #[s],.string x,g] w' (Ret w' (IsT2 (IsBd w0.heap.size (bsG L dat gs x.data.toList)) (IsV (.bool (bsG L dat gs x.data.toList).isSome)))):=by
 refine(best_g (L:=L) (hy:=λvs=>(dat vs).hyps) K.ll K.lk K.ln (S.sr.ext E) (λvs hvs=>?_) (S.gr.ext E) K.gl).mono ?_
 ·obtain⟨u,h1,h2⟩:=S.hy vs hvs;exact⟨u,h1,h2.ext E,(K.dk vs hvs).2.1⟩
 ·rintro e w2 ⟨y,rfl,e2,a,b,rfl,⟨es,h1,h2,h3,h4,h5⟩,hb⟩;refine⟨_,rfl,e2,a,b,rfl,⟨es,h1,h2,h3,h4,λd hd=>?_⟩,?_⟩
  ·rw[bsG_at]at hd;obtain⟨vs,hv1,rfl⟩:=Option.map_eq_some_iff.1 hd;rw[h5 vs hv1];exact(S.ent vs (bestH_mem hv1)).rm (Rm.ext (h:=w0.heap.size) (E.trans e2)) (jJ _)
  ·rw[bsG_at,Option.isSome_map];exact hb
theorem evG_f{w0:World}{us:List Value}{ca va sa ga:Option Addr}{cn cc vn vc sn sc gn gc s0:Nat}{cs:List qL}{L:List (List Value)}{dat:List Value->EnD}{gs SI:List Int}{SS:List (List UInt8)}{e:Ex}
  (S:ShpM cs L dat gs (.slice ca cn cc) (.slice va vn vc) (.slice sa sn sc) (.slice ga gn gc) w0) (K:ShpMOk SI cs L dat gs) (hSS:SS.length<maxLen) (hSI:SI.length<maxLen)
  (hw:wfE (λ_=>True) (VG SS flG) e []) (hn:IsNd w0.heap.size e us w0):
  EvG SS SI w0 us ca va sa ga cn cc vn vc sn sc gn gc s0 (ev (xQ cs (bsG L dat gs) flG) e [] (s0,([], []))).1 (ev (xQ cs (bsG L dat gs) flG) e [] (s0,([], []))).2.1 (ev (xQ cs (bsG L dat gs) flG) e [] (s0,([], []))).2.2.1 (ev (xQ cs (bsG L dat gs) flG) e [] (s0,([], []))).2.2.2:=by
 intro h w' hh E hM hj hs
 have hbk:∀y d,bsG L dat gs y=some d->d.vals.length<=1000000/\d.hyps.length<=1000000/\∀z∈d.hyps,z∈SI/\(Lit.int .i64 z).wf=true:=λy d hd=>by
  obtain⟨vs,hv1,rfl⟩:=Option.map_eq_some_iff.1 hd;exact K.dk vs (bestH_mem hv1)
 refine(eval_f (xQ cs (bsG L dat gs) flG) ⟨h,.slice ca cn cc,.slice va vn vc,.slice sa sn sc,.slice ga gn gc⟩ (λs w=>JG SS SI h s w/\Ext w0 w) ?_ (λ_=>True) (VG SS flG) ?_ ?_ e [] us (.slice none 0 0) (s0,([], [])) w' hw ?_ (IsEnv.nil _ _) hM ⟨hj,E⟩ hs).mono ?_
 ·rintro s w1 w2 ⟨j,e1⟩ b k1 k2;exact⟨j.blk k1 k2,Below.trans e1 (b.mono hh)⟩
 ·rintro x ⟨l,s⟩ w1-m1 ⟨j1,e1⟩ hs1;refine(cell_g (H:=w0.heap.size) hh (S.cr.rm (Rm.ext (h:=w0.heap.size) e1) (jJ _)) (S.vr.rm (Rm.ext (h:=w0.heap.size) e1) (jJ _)) K.cl K.ck hSI hs1 m1 j1).mono ?_;rintro e w2 ⟨r1,r2,r3,r4⟩;exact⟨r1,r2,⟨r3,r1.extAll e1 hh⟩,r4⟩
 ·rintro x n env ve ⟨l,s⟩ w1 hV hE m1 ⟨j1,e1⟩ hs1;obtain⟨v1,v2,v3,v4⟩:=hV;obtain⟨k,rfl⟩:=Int.eq_ofNat_of_zero_le v1;refine(value_g (H:=w0.heap.size) (k:=k) (bst:=bsG L dat gs) hh (S.tm.ext e1) hE v4 zb v3 hSS hSI hbk hs1 m1 j1 (hid λw9 r9=>bestE S K (r9.extAll e1 hh) _)).mono ?_;rintro e w2 ⟨r1,r2,r3,r4⟩;exact⟨r1,r2,⟨r3,r1.extAll e1 hh⟩,r4⟩
 ·exact(hn.rm (Rm.ext (h:=w0.heap.size) E)).up hh
 ·rintro e w2 ⟨r1,r2,⟨r3,-⟩,r4⟩;exact⟨r1,r2,r3,r4⟩
def evR(cs:List qL)(L:List (List Value))(dat:List Value->EnD)(gs:List Int)(e:Ex)(s0:Nat):Res Kn×Mst Lg:=ev (xQ cs (bsG L dat gs) flG) e [] (s0,([], []))
theorem wfE_T{e:Ex}(h:wfT 4 [] e):wfE (λ_=>True) (VG (xJ flG e []) flG) e []:=
 wfE_of 4 [] e [] h rfl dcx (λ_ hp=>absurd hp List.not_mem_nil) (λ_ h=>h)
theorem run_T{w:World}{us:List Value}{ca va sa ga:Option Addr}{cn cc vn vc sn sc gn gc s0:Nat}{cs:List qL}{L:List (List Value)}{dat:List Value->EnD}{gs SI:List Int}{e:Ex}
  (S:ShpM cs L dat gs (.slice ca cn cc) (.slice va vn vc) (.slice sa sn sc) (.slice ga gn gc) w) (K:ShpMOk SI cs L dat gs) (hSI:SI.length<=1000000) (hs:s0<=100000) (hT:wfT 4 [] e) (hn:IsNd w.heap.size e us w):
  Calls prog 16 #[.agg us.toArray,.slice ca cn cc,.slice va vn vc,.agg #[.slice sa sn sc],.slice ga gn gc,.int .i64 (s0:Int)] w (Ret w (IsOutG (evR cs L dat gs e s0).1 (evR cs L dat gs e s0).2.1 (evR cs L dat gs e s0).2.2.1 (evR cs L dat gs e s0).2.2.2)):=by
 have hl:(xJ flG e []).length<=2401:=namesE_len flG 4 [] e [] hT;exact run_g hn.len hs (jK hl dcx) hSI (evG_f S K ym ym (wfE_T hT) hn)
theorem more_R{cs:List qL}{L:List (List Value)}{dat:List Value->EnD}{gs SI:List Int}{e:Ex}{few many:Nat}(hc:cellOk SI cs)(hT:wfT 4 [] e)(h:few<=many):
  (evR cs L dat gs e few).2.1<=few/\(evR cs L dat gs e many).2.1<=many/\∀p q,(evR cs L dat gs e few).1=.ok p->(evR cs L dat gs e many).1=.ok q->p.lo<=p.hi/\q.In p/\leG (evR cs L dat gs e few).2.2 (evR cs L dat gs e many).2.2/\(p.fin=false->(evR cs L dat gs e few).2.1=0\/(p=q/\(evR cs L dat gs e few).2.2=(evR cs L dat gs e many).2.2))/\(p.fin=true->p=q/\(evR cs L dat gs e few).2.2=(evR cs L dat gs e many).2.2/\few-(evR cs L dat gs e few).2.1=many-(evR cs L dat gs e many).2.1):=
 more_law (oblG hc) (wfE_T hT) h rfl rfl
def IsOutX(res:Res Kn)(left:Nat)(rs hs:List Value):Value->World->Prop:=λx w=>∃(vl:List Value) (ha:Option Addr) (hn hc:Nat) (ra:Option Addr) (rn rc:Nat),x=.agg (vl++ [Value.slice ra rn rc,Value.int .i64 (left:Int)]).toArray/\vl.length=11/\vl.all (λu=>u.oneCell')=true/\(∀v∈vl,NoWord v)/\
 IsVl res (.slice ha hn hc) (.agg vl.toArray) w/\IsRw 0 hs (.slice ha hn hc) w/\IsRw 0 rs (.slice ra rn rc) w
theorem IsOutX.stb(res:Res Kn)(left:Nat)(rs hs:List Value):Stb (IsOutX res left rs hs):=λ_ _ _ e ⟨vl,ha,hn,hc,ra,rn,rc,h1,h2,h3,h4,h5,h6,h7⟩=>⟨vl,ha,hn,hc,ra,rn,rc,h1,h2,h3,h4,IsVl.stb _ _ _ _ _ e h5,h6.ext e,h7.ext e⟩
instance (res:Res Kn) (left:Nat) (rs hs:List Value):StbC (IsOutX res left rs hs):=⟨IsOutX.stb res left rs hs⟩
def NoB(xs:List Value):Prop:=∀u∈xs,∀b,u≠ .bool b
theorem noB_k(l:List (List UInt8)):NoB (ksV l):=λu hu b e=>by
 obtain⟨x,-,rfl⟩:=List.mem_map.1 hu;cases e
theorem noB_z(l:List Int):NoB (zsV l):=λu hu b e=>by
 obtain⟨x,-,rfl⟩:=List.mem_map.1 hu;cases e
theorem IsRw.out{B g:Nat}{xs:List Value}{v:Value}{w w':World}(h:IsRw B xs v w)(Bn:Bk w g zOut)(O:OnlyB g w w')(hx:NoB xs):IsRw B xs v w':=by
 obtain⟨ao,c,h1,h2⟩:=h;refine⟨ao,c,h1,λhn=>?_⟩;obtain⟨g',k1,k2,k3⟩:=h2 hn;refine⟨g',k1,k2,λj u hj=>(World.cell?_of_block (w:=w) (a:=⟨g',j,none⟩) (O.block g' λe=>?_)).trans (k3 j u hj)⟩;cases xs with
 |nil=>exact hn rfl
 | cons x t=>
  have h0:=k3 0 x rfl;rw[e,Bn.c 0 _ rfl]at h0;exact hx x List.mem_cons_self false (Option.some.inj h0).symm
structure OutX (res:Res Kn) (left:Nat) (rs hs:List Value) (g:Nat) (W:World):Prop where
 vl:∃(vl:List Value) (ha:Option Addr) (hn hc:Nat),vl.length=11/\(∀j v,vl[j]? =some v->World.cell? W ⟨g,j,none⟩=some v)/\IsVl res (.slice ha hn hc) (.agg vl.toArray) W/\IsRw 0 hs (.slice ha hn hc) W
 rd:∃(ra:Option Addr) (rn rc:Nat),World.cell? W ⟨g,11,none⟩=some (.slice ra rn rc)/\IsRw 0 rs (.slice ra rn rc) W
 left:World.cell? W ⟨g,12,none⟩=some (.int .i64 (left:Int))
theorem OutX.ext{res:Res Kn}{left:Nat}{rs hs:List Value}{g:Nat}{W W':World}(h:OutX res left rs hs g W)(e:Ext W W'):OutX res left rs hs g W':=by
 obtain⟨⟨vl,ha,hn,hc,h1,h2,h3,h4⟩,⟨ra,rn,rc,h5,h6⟩,h7⟩:=h;exact⟨⟨vl,ha,hn,hc,h1,λj v hj=>e.cell (h2 j v hj),IsVl.stb _ _ _ _ _ e h3,h4.ext e⟩,⟨ra,rn,rc,e.cell h5,h6.ext e⟩,e.cell h7⟩
def IsVh(res:Res Kn)(hs:List Value):Value->World->Prop:=λx w=>∃a n c,IsVl res (.slice a n c) x w/\IsRw 0 hs (.slice a n c) w
theorem IsVh.stb(res:Res Kn)(hs:List Value):Stb (IsVh res hs):=λ_ _ _ e ⟨a,n,c,h,k⟩=>⟨a,n,c,IsVl.stb _ _ _ _ _ e h,k.ext e⟩
instance (res:Res Kn) (hs:List Value):StbC (IsVh res hs):=⟨IsVh.stb res hs⟩
set_option maxRecDepth 100000
theorem ld_VlO{w:World}{g:Nat}{vs:List Value}(hl:vs.length=11)(hc:∀j v,vs[j]? =some v->World.cell? w ⟨g,j,none⟩=some v):(Instr.loadAt 50 (.pointer (some ⟨g,0,none⟩))).run prog w=.ok (.agg vs.toArray) w:=by
 obtain⟨v0,v1,v2,v3,v4,v5,v6,v7,v8,v9,v10,rfl⟩:=len11 hl;have c0:=hc 0 _ rfl;have c1:=hc 1 _ rfl;have c2:=hc 2 _ rfl;have c3:=hc 3 _ rfl;have c4:=hc 4 _ rfl;have c5:=hc 5 _ rfl;have c6:=hc 6 _ rfl;have c7:=hc 7 _ rfl;have c8:=hc 8 _ rfl;have c9:=hc 9 _ rfl;have c10:=hc 10 _ rfl;clear hc hl
 go_simp
theorem qV(g:Nat)(w:World):(Instr.fieldAt 53 (.pointer (some ⟨g,0,none⟩)) 0).run prog w=.ok (.pointer (some ⟨g,0,none⟩)) w:=by go_simp
theorem fa_Out1(g:Nat)(w:World):(Instr.fieldAt 53 (.pointer (some ⟨g,0,none⟩)) 1).run prog w=.ok (.pointer (some ⟨g,11,none⟩)) w:=by go_simp
theorem fa_Out2(g:Nat)(w:World):(Instr.fieldAt 53 (.pointer (some ⟨g,0,none⟩)) 2).run prog w=.ok (.pointer (some ⟨g,12,none⟩)) w:=by go_simp
section
variable {ops:Array Oper} {Q:Exit->Act->World->Prop} {ds:List (Option Tmp)} {a0:Act} {w0:World} {L:List (Value->World->Prop)} {boxes:List Nat} {i k:Nat} {o:Oper} {os:List Oper}
theorem ldVh{res:Res Kn}{left g:Nat}{rs hs:List Value}{x:Operand}(h:OutX res left rs hs g w0)(hx:Od ops ds a0 w0 L i x (IsP g 0))(ho:o.op=.load 50 x:=by rfl)(hi:L.getD i (λ_ _=>True)=IsVh res hs:=by kernel_rfl)(hb:boxes.contains i=false:=by kernel_rfl):Ok prog ops Q ds a0 w0 L boxes i o:=by
 obtain⟨⟨vl,ha,hn,hc,h1,h2,h3,h4⟩,_,_⟩:=h;exact lv _ (λw e=>ld_VlO h1 (λj v hj=>e.cell (h2 j v hj))) hx (λw e=>⟨ha,hn,hc,IsVl.stb _ _ _ _ _ e h3,h4.ext e⟩) ho hi hb
theorem ldLeft{res:Res Kn}{left g:Nat}{rs hs:List Value}{x:Operand}(h:OutX res left rs hs g w0)(hx:Od ops ds a0 w0 L i x (IsP g 12))(ho:o.op=.load 3 x:=by rfl)(hi:L.getD i (λ_ _=>True)=iV (left:Int):=by kernel_rfl)(hb:boxes.contains i=false:=by kernel_rfl):Ok prog ops Q ds a0 w0 L boxes i o:=
 lv _ (λw e=>xF w _ _ (e.cell h.left)) hx (λ_ _=>rfl) ho hi hb
theorem stOut{W:World}{g:Nat}{res:Res Kn}{left:Nat}{rs hs:List Value}{u:Value}{a:Act}{K:Act->World->Prop}{x y:Operand}(B:Bk W g zOut)(hu:IsOutX res left rs hs u W)(hr:NoB rs)(hh:NoB hs)
  (h:∀W',OutX res left rs hs g W'->OnlyB g W W'->K a W') (ho:o.op=.store 53 x y:=by rfl) (hd:o.dst=none:=by rfl) (hx:a.eval x=.pointer (some ⟨g,0,none⟩):=by kernel_rfl) (hy':a.eval y=u:=by kernel_rfl):Oper.wp prog o a W K Q:=by
 obtain⟨vl,ha,hn,hc,ra,rn,rc,rfl,h1,h2,h3,h4,h5,h6⟩:=hu;obtain⟨v0,v1,v2,v3,v4,v5,v6,v7,v8,v9,v10,rfl⟩:=len11 h1
 have hone: [v0,v1,v2,v3,v4,v5,v6,v7,v8,v9,v10,Value.slice ra rn rc,.int .i64 (left:Int)].all (λu=>u.oneCell')=true:=by
  rw[show [v0,v1,v2,v3,v4,v5,v6,v7,v8,v9,v10,Value.slice ra rn rc,.int .i64 (left:Int)]= [v0,v1,v2,v3,v4,v5,v6,v7,v8,v9,v10]++ [Value.slice ra rn rc,.int .i64 (left:Int)]from rfl,List.all_append,h2];rfl
 refine qX (us:= [v0,v1,v2,v3,v4,v5,v6,v7,v8,v9,v10,.slice ra rn rc,.int .i64 (left:Int)]) B st_Out rfl rfl nwOut (λW' B' O=>h W' ⟨⟨[v0,v1,v2,v3,v4,v5,v6,v7,v8,v9,v10],ha,hn,hc,rfl,λj v hj=>B'.c j v (getE_app _ [Value.slice ra rn rc,.int .i64 (left:Int)] hj),IsVl.gstb _ _ _ _ _ O.gr h4,h5.out B O hh⟩,⟨ra,rn,rc,B'.c 11 _ rfl,h6.out B O hr⟩,B'.c 12 _ rfl⟩ O) ho hd hx hy' hone
end
attribute [local go_sem] Oper.semAt_some
theorem ld_str':LdC1 prog 9:=λw a v h=>by go_simp
theorem ix_rI(ao:Option Addr)(g o c n j:Nat)(ha:ao=some ⟨g,o,none⟩)(h:j<n)(w:World):(Instr.indexAt 41 (.slice ao n c) (.int .i64 (j:Int))).run prog w=.ok (.pointer (some ⟨g,o+j,none⟩)) w:=by
 subst ha;exact ix_Io g o c n j h w
theorem ix_rS(ao:Option Addr)(g c n j:Nat)(ha:ao=some ⟨g,0,none⟩)(h:j<n)(w:World):(Instr.indexAt 51 (.slice ao n c) (.int .i64 (j:Int))).run prog w=.ok (.pointer (some ⟨g,j,none⟩)) w:=by
 subst ha;have h1:(0:Int)<=(j:Int):=zb
 have h2:(j:Int)<(n:Int):=zb
 go_simp
theorem sameI_t{w:World}{l:List Int}{a b:Value}(ha:IsRw 0 (l.map (Value.int .i64)) a w)(hb:IsRw 0 (l.map (Value.int .i64)) b w)(hl:l.length<=1000000):Calls prog 44 #[a,b] w (Ret w (IsV (.bool true))):=by
 obtain⟨ao,ca,rfl,h1⟩:=ha;obtain⟨bo,cb,rfl,h2⟩:=hb;rw[List.length_map];obtain⟨n,hn⟩:∃n,l.length=n:=⟨_,rfl⟩;have HN:=hid hn;have HL:=hid hl;have H12:=hid (jI h1 h2);rw[hn];clear h1 h2 hn hl;go_enter func44,ntmps44
 go_wp2
 go_loopg [5] n (λgk v5 wr=>∃i:Nat,v5=.int .i64 (i:Int)/\i+gk=n/\Ext w wr)
 case atStart=>exact⟨0,rfl,by omega,Ext.refl w⟩
 case round=>
  obtain⟨i,rfl,hg,E⟩:=hrel;by_cases hi:i<n
  ·have hil:(i:Int)<(n:Int):=by omega
   have hiw:IntKind.i64.wrap ((i:Int)+1)=((i+1:Nat):Int):=jn
   have hne:l≠ []:=by rintro rfl;have:=HN.out;simp at this;omega
   have hne':l.map (Value.int .i64)≠ []:=by simpa using hne
   obtain⟨g1,ea,-,k1⟩:=H12.out.1 hne';obtain⟨g2,eb,-,k2⟩:=H12.out.2 hne';obtain⟨x,hx⟩:∃x,l[i]? =some x:=zo;have c1:=E.cell (k1 i (.int .i64 x) (by rw[List.getElem?_map,hx];rfl));have c2:=E.cell (k2 i (.int .i64 x) (by rw[List.getElem?_map,hx];rfl));have HI:=hid hi;have HG:=hid hg;clear hi hg k1 k2 hne hne' hx;go_upto_region 6 with fail;refine rg 9 (dR 17 9) [IsV (.slice ao n ca),iV (i:Int),IsP g1 i,iV x,IsV (.slice bo n cb),iV (i:Int),IsP g2 i,iV x,IsV (.bool false)] [] 0 ?_ ?_
   ·refine Rc zt ?_;refine Rc zv ?_;refine Rc (ixq (λw'=>by have:=ix_rI ao g1 0 ca n i ea HI.out w';rwa [Nat.zero_add]at this) (qA 0 17) (qA 1 18)) ?_;refine Rc (lv (fP:=iV x) _ (λw' e=>xF w' _ _ (e.cell c1)) (qA 2 19) (λ_ _=>rfl)) ?_;refine Rc yo ?_;refine Rc zv ?_;refine Rc (ixq (λw'=>by have:=ix_rI bo g2 0 cb n i eb HI.out w';rwa [Nat.zero_add]at this) (qA 4 21) (qA 5 22)) ?_;refine Rc (lv (fP:=iV x) _ (λw' e=>xF w' _ _ (e.cell c2)) (qA 6 23) (λ_ _=>rfl)) ?_;refine Rc (bn (r:=.bool false) (qC 3 20) (qC 7 24) (hr:=λw=>by go_simp)) ?_;exact rn0
   intro v X3 e1 hZ _;simp only[lxE,Nat.reduceAdd];rw[show v 8=.bool false from hZ 8 dcx];clear hZ c1 c2;replace E:=E.trans e1;clear e1;refine jL za ?_ _;go_wp2_with fail
   go_roundg (gk-1)
   case measure=>have:=HG.out;have:=HI.out;omega
   case rel=>exact⟨i+1,rfl,by have:=HG.out;have:=HI.out;omega,E⟩
  ·have hil:¬((i:Int)<(n:Int)):=by omega
   go_wp2
   go_ret
   exact⟨_,rfl,E,rfl⟩
theorem sameS_t{w:World}{l:List (List UInt8)}{a b:Value}(ha:IsRw 0 (l.map encStr) a w)(hb:IsRw 0 (l.map encStr) b w)(hl:l.length<=1000000):Calls prog 24 #[a,b] w (Ret w (IsV (.bool true))):=by
 obtain⟨ao,ca,rfl,h1⟩:=ha;obtain⟨bo,cb,rfl,h2⟩:=hb;rw[List.length_map];obtain⟨n,hn⟩:∃n,l.length=n:=⟨_,rfl⟩;have HN:=hid hn;have HL:=hid hl;have H12:=hid (jI h1 h2);rw[hn];clear h1 h2 hn hl;go_enter func24,ntmps24
 go_wp2
 go_loopg [5] n (λgk v5 wr=>∃i:Nat,v5=.int .i64 (i:Int)/\i+gk=n/\Ext w wr)
 case atStart=>exact⟨0,rfl,by omega,Ext.refl w⟩
 case round=>
  obtain⟨i,rfl,hg,E⟩:=hrel;by_cases hi:i<n
  ·have hil:(i:Int)<(n:Int):=by omega
   have hiw:IntKind.i64.wrap ((i:Int)+1)=((i+1:Nat):Int):=jn
   have hne:l≠ []:=by rintro rfl;have:=HN.out;simp at this;omega
   have hne':l.map encStr≠ []:=by simpa using hne
   obtain⟨g1,ea,-,k1⟩:=H12.out.1 hne';obtain⟨g2,eb,-,k2⟩:=H12.out.2 hne';obtain⟨x0,hx⟩:∃x,l[i]? =some x:=zo;obtain⟨x,hx0⟩:∃x:ByteArray,encStr x0=.string x:=⟨_,rfl⟩;have c1:=E.cell (k1 i (.string x) (by rw[List.getElem?_map,hx,<-hx0];rfl));have c2:=E.cell (k2 i (.string x) (by rw[List.getElem?_map,hx,<-hx0];rfl));have HI:=hid hi;have HG:=hid hg;clear hi hg k1 k2 hne hne' hx hx0;go_upto_region 6 with fail;refine rg 9 (dR 17 9) [IsV (.slice ao n ca),iV (i:Int),IsP g1 i,IsV (.string x),IsV (.slice bo n cb),iV (i:Int),IsP g2 i,IsV (.string x),IsV (.bool false)] [] 0 ?_ ?_
   ·refine Rc zt ?_;refine Rc zv ?_;refine Rc (ixq (ix_rS ao g1 ca n i ea HI.out) (qA 0 17) (qA 1 18)) ?_;refine Rc (lv (fP:=IsV (.string x)) _ (λw' e=>ld_str' w' _ _ (e.cell c1)) (qA 2 19) (λ_ _=>rfl)) ?_;refine Rc yo ?_;refine Rc zv ?_;refine Rc (ixq (ix_rS bo g2 cb n i eb HI.out) (qA 4 21) (qA 5 22)) ?_;refine Rc (lv (fP:=IsV (.string x)) _ (λw' e=>ld_str' w' _ _ (e.cell c2)) (qA 6 23) (λ_ _=>rfl)) ?_;refine Rc (bn (r:=.bool false) (qC 3 20) (qC 7 24) (hr:=λw=>by go_simp)) ?_;exact rn0
   intro v X3 e1 hZ _;simp only[lxE,Nat.reduceAdd];rw[show v 8=.bool false from hZ 8 dcx];clear hZ c1 c2;replace E:=E.trans e1;clear e1;refine jL za ?_ _;go_wp2_with fail
   go_roundg (gk-1)
   case measure=>have:=HG.out;have:=HI.out;omega
   case rel=>exact⟨i+1,rfl,by have:=HG.out;have:=HI.out;omega,E⟩
  ·have hil:¬((i:Int)<(n:Int)):=by omega
   go_wp2
   go_ret
   exact⟨_,rfl,E,rfl⟩
end
end Go.Proofs.YtkeikfekkdplgaaGreatDoor
