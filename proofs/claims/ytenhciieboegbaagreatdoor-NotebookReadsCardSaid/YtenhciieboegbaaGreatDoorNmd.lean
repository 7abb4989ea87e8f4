/-
  The reference's Tree: some right expression of at most four levels over its root. (Printed by wip/gen/nte.py.)
  The reference's Made: at most four cells, each with a right tree of at most four levels.
-/
import Derived.Test.YtenhciieboegbaaGreatDoorNtr
namespace Go.Proofs.YtenhciieboegbaaGreatDoor
open Go Go.RowKit Go.Maps
open Go.Proofs.Tryz
theorem jl{P:Prop}(h:P:=by exact mv (qC (x:=.int .i64 (i:Int)) 4)):P:=h
set_option maxRecDepth 100000
set_option maxHeartbeats 8000000
theorem fld_Bt{w:World}{us:List Value}{k:Value}(hl:us.length=8):(Instr.field 85 (.agg (us++ [k]).toArray) 0).run prog w=.ok (.agg us.toArray) w:=by
  have h:((us++ [k]).toArray.extract 0 8)=us.toArray:=by
    apply Array.ext';simp[<-hl]
  unfold Instr.field
  go_simp
  simp[asAgg]
  simpa using h
def IsTr(B:Nat):Value->World->Prop:=λv w=>∃x,Tr 4 [] x/\IsNd B x v w
def IsTrB(B:Nat):Value->World->Prop:=λx w=>∃e,wfT 4 [] e/\NeL B e x w
theorem IsTrB.stb(B:Nat):Stb (IsTrB B):=λ_ _ _ E ⟨e,h1,h2⟩=>⟨e,h1,NeL.stb _ _ _ _ _ E h2⟩
instance (B:Nat):StbC (IsTrB B):=⟨IsTrB.stb B⟩
theorem IsRs.stb(bs:List ByteArray):Stb (IsRs bs):=λ_ _ _ E h=>h.ext E
instance (bs:List ByteArray):StbC (IsRs bs):=⟨IsRs.stb bs⟩
section
variable {ops:Array Oper} {Q:Exit->Act->World->Prop} {ds:List (Option Tmp)} {a0:Act} {w0:World} {L:List (Value->World->Prop)} {boxes:List Nat} {i k:Nat} {o:Oper} {os:List Oper}
theorem bs0S(ho:o.op=.buildSlice 53 0 #[]:=by rfl)(hi:L.getD i (λ_ _=>True)=IsRs []:=by kernel_rfl)(hb:boxes.contains i=false:=by kernel_rfl):Ok prog ops Q ds a0 w0 L boxes i o:=
  ⟨fun v a w hE hd hf K hK=>by
    have hr:(Instr.buildSlice 53 0 #[]).run prog w=.ok (.slice (some ⟨w.heap.size,0,none⟩) 0 0) (w.alloc (.cells #[] 9)):=xh
    have hrun:(execOp a.eval o).run prog w=.ok (.value (.slice (some ⟨w.heap.size,0,none⟩) 0 0)) (w.alloc (.cells #[] 9)):=by
      unfold execOp;rw[ho];dsimp only;simp[hr]
    unfold Oper.wp;rw[hrun];refine hK.out _ _ ((Ext.refl w).alloc _) ?_ (FreshIf.no hb);rw[hi]
    exact⟨_,0,rfl,by simp,λj x hj=>by simp at hj⟩⟩
theorem fldB{B d j:Nat}{bs:List ByteArray}{x:Operand}(hx:Od ops ds a0 w0 L i x (IsBt B d bs j))(hd4:d=4/\bs= [])(ho:o.op=.field 85 x 0:=by rfl)(hi:L.getD i (λ_ _=>True)=IsTrB B:=by kernel_rfl)(hb:boxes.contains i=false:=by kernel_rfl):Ok prog ops Q ds a0 w0 L boxes i o:=
  Ok.of hb λv a w hE hd hf=>by
    obtain⟨rfl,rfl⟩:=hd4;obtain⟨e,us,k,h1,_,_,h4,h5⟩:=hx.out v a w hE hd hf;obtain⟨us',q1,q2,q3,q4,q5⟩:=id h5;obtain rfl:us=us':=by simpa using q1
    refine⟨.agg us.toArray,?_,by rw[hi];exact⟨e,h4,h5⟩⟩;unfold execOp;rw[ho];dsimp only;rw[h1];simp[fld_Bt q2]
end
theorem Tree_f{w:World}{lb:Value}(hL:IsBy lb w):Calls prog 22 #[lb] w (Ret w (IsTr w.heap.size)):=by
  obtain⟨W,hW,E,B2⟩:∃W,W=w.alloc (.cells #[.int .i64 0,.string ⟨#[]⟩,.int .i64 0,.bool false,.slice none 0 0,.int .i64 0,.int .i64 0,.slice none 0 0] 32)/\Ext w W/\Bk W w.heap.size zNd:=zg;go_enter func22,ntmps22;go_upto_region 1 with fail;rw[<-hW];clear hW;refine rgs 4 (dR 3 4) [IsV lb,IsRs [],IsBt (w.heap.size+1) 4 [] 0,IsTrB (w.heap.size+1)] [] ?_ ?_
  · refine Rc xa ?_
    refine Rc bs0S ?_
    refine Rc (cl (fQ:=IsBt (w.heap.size+1) 4 [] 0) (en func44) rfl rfl zc zc λv a w2 hE hd hf=>by
      have e0:a.eval (.tmp 3)=lb:=(qA 0 3:Od _ _ _ _ _ _ _ (IsV lb)).out v a w2 hE hd hf;have e1:IsRs [] (a.eval (.tmp 4)) w2:=(qA 1 4:Od _ _ _ _ _ _ _ (IsRs [])).out v a w2 hE hd hf;simp only[List.map_toArray,List.map_cons,List.map_nil];rw[e0]
      exact zG (build_f 4 dcx [] w2 lb _ 0 (λx hx=>by simp at hx) dcx dcx ((hL.ext E).ext hE) e1) (λe w3 hq=>by{obtain⟨u,q1,q2,q3⟩:=hq;exact⟨u,q1,q2,q3.dn (zO B2.lt hE.size)⟩})) ?_
    refine Rc (fldB (qA (fP:=IsBt (w.heap.size+1) 4 [] 0) 2 5) ⟨rfl,rfl⟩) ?_;exact rn0
  intro v X1 e1 hΦ _;obtain⟨e,hwt,us,hv,hl,hone,hnw,hnd⟩:=hΦ 3 dcx;simp only[lxE,Nat.reduceAdd];rw[hv];clear hΦ hv;replace E:=E.trans e1;replace B2:=B2.ext e1;refine stL (λK hK=>?_);refine zE (us:=us) B2 st_Nd rfl hl nwZN (λW1 B9 O=>hK _ _ ?_) (ho1:=hone);have E9:=O.ext E (zN _);have hne9:IsTr w.heap.size (.agg us.toArray) W1:=⟨ndE e,wf_tr e 4 [] hwt,us,rfl,(hnd.only O (Nat.lt_succ_self _)).up (Nat.le_succ _) (zN _)⟩;clear hK K O B2;refine zI ?_;go_wp2_with fail;exact zH (jU results22 rfl (lvM zc zc hl B9)) rfl ⟨_,rfl,E9,hne9⟩
def IsBys(v:Value)(w:World):Prop:=∃ao n c,v=.slice ao n c/\n<=9223372036854775807/\(n≠0->∃g o,ao=some ⟨g,o,none⟩/\∀j,j<n->∃u,World.cell? w ⟨g,o+j,none⟩=some u/\IsBy u w)
theorem IsBys.ext{v:Value}{w w':World}(h:IsBys v w)(e:Ext w w'):IsBys v w':=by
  obtain⟨ao,n,c,h1,h2,h3⟩:=h;exact⟨ao,n,c,h1,h2,λhn=>let ⟨g,o,k1,k2⟩:=h3 hn;⟨g,o,k1,λj hj=>let ⟨u,q1,q2⟩:=k2 j hj;⟨u,e.cell q1,q2.ext e⟩⟩⟩
theorem ix_By(g o c n j:Nat)(h:j<n)(w:World):(Instr.indexAt 22 (.slice (some ⟨g,o,none⟩) n c) (.int .i64 (j:Int))).run prog w=.ok (.pointer (some ⟨g,o+j,none⟩)) w:=by
  have h1:(j:Int)<(n:Int):=ze
  go_simp
theorem ld_By{w:World}{p:Addr}{u:Value}(hu:IsBy u w)(h:World.cell? w p=some u):(Instr.loadAt 52 (.pointer (some p))).run prog w=.ok u w:=by
  obtain⟨ao,n,c,rfl,-⟩:=hu
  go_simp
theorem RwC.zero(w:World):RwK 34 9 w.heap.size [] (.slice (some ⟨w.heap.size,0,none⟩) 0 0) (w.alloc (.cells #[] 34)):=by
  refine⟨⟨by simp,.inr ⟨w.heap.size,0,#[],rfl,zN _,World.alloc_heap_new _ _,?_,?_,?_,?_⟩⟩,λg cs e fz h ho=>?_⟩
  ·simp
  ·simp
  ·simp
  ·simp
  · obtain rfl:w.heap.size=g:=by injection h
    rw[World.alloc_heap_new]at ho;cases ho;intro u hu;simp at hu
def IsClT(B:Nat)(nm:List UInt8):Value->World->Prop:=λv w=>∃x us,Tr 4 [] x/\v=.agg (qB nm ::us).toArray/\NdC B w x us
theorem IsClT.stb(B:Nat)(nm:List UInt8):Stb (IsClT B nm):=λ_ _ _ e ⟨x,us,h1,h2,h3⟩=>⟨x,us,h1,h2,h3.ext e⟩
instance (B:Nat) (nm:List UInt8):StbC (IsClT B nm):=⟨IsClT.stb B nm⟩
def IsClS(B:Nat)(nm:List UInt8):Value->World->Prop:=λv w=>∃x us p,Tr 4 [] x/\v=.slice (some ⟨p,0,none⟩) 1 1/\SrcR 1 (qB nm ::us) v w/\NdC B w x us
theorem IsClS.stb(B:Nat)(nm:List UInt8):Stb (IsClS B nm):=λ_ _ _ e ⟨x,us,p,h1,h2,h3,h4⟩=>⟨x,us,p,h1,h2,h3.ext e,h4.ext e⟩
instance (B:Nat) (nm:List UInt8):StbC (IsClS B nm):=⟨IsClS.stb B nm⟩
theorem IsTr.stb(B:Nat):Stb (IsTr B):=λ_ _ _ e ⟨x,h1,h2⟩=>⟨x,h1,h2.ext e⟩
instance (B:Nat):StbC (IsTr B):=⟨IsTr.stb B⟩
section
variable {ops:Array Oper} {Q:Exit->Act->World->Prop} {ds:List (Option Tmp)} {a0:Act} {w0:World} {L:List (Value->World->Prop)} {boxes:List Nat} {i k:Nat} {o:Oper} {os:List Oper}
theorem bdClT{B:Nat}{nm:List UInt8}{sb:ByteArray}{x y:Operand}(hs:qB nm=.string sb)(hx:Od ops ds a0 w0 L i x (IsV (.string sb)))(hy:Od ops ds a0 w0 L i y (IsTr B))(ho:o.op=.build 34 #[(0,x),(1,y)]:=by rfl)(hi:L.getD i (λ_ _=>True)=IsClT B nm:=by kernel_rfl)(hb:boxes.contains i=false:=by kernel_rfl):Ok prog ops Q ds a0 w0 L boxes i o:=
  bdG2 ho hi hb λv a w hE hd hf=>by
    have h1:a.eval x=.string sb:=hx.out v a w hE hd hf;obtain⟨t,ht,us,h2,h3⟩:=hy.out v a w hE hd hf;refine⟨.agg (.string sb ::us).toArray,?_,t,us,ht,by rw[hs],h3⟩;simp only[List.map_toArray,List.map_cons,List.map_nil];rw[h1,h2];exact bdCl_run h3.len w
theorem bsClT{B:Nat}{nm:List UInt8}{x:Operand}(hx:Od ops ds a0 w0 L i x (IsClT B nm))(ho:o.op=.buildSlice 25 1 #[(0,x)]:=by rfl)(hi:L.getD i (λ_ _=>True)=IsClS B nm:=by kernel_rfl)(hb:boxes.contains i=false:=by kernel_rfl):Ok prog ops Q ds a0 w0 L boxes i o:=
  ⟨fun v a w hE hd hf K hK=>by
    obtain⟨t,us,ht,h1,h2⟩:=hx.out v a w hE hd hf;have h9:(qB nm ::us).length=9:=by rw[List.length_cons,h2.len]
    have h8:(qB nm ::us).all (λu=>u.oneCell')=true:=by rw[List.all_cons,h2.nw.2];rfl
    have hrun:(execOp a.eval o).run prog w=.ok (.value (.slice (some ⟨w.heap.size,0,none⟩) 1 1)) (w.alloc (.cells (qB nm ::us).toArray 34)):=by
      unfold execOp;rw[ho];dsimp only;simp only[List.map_toArray,List.map_cons,List.map_nil];rw[h1];simp[bsC_run h9 h8 w]
    unfold Oper.wp;rw[hrun];refine hK.out _ _ ((Ext.refl _).alloc _) ?_ (FreshIf.no hb);rw[hi]
    exact⟨t,us,_,ht,rfl,by simpa using SrcR.new w (qB nm ::us).toArray 34 1 1,h2.ext ((Ext.refl _).alloc _)⟩⟩
theorem asA{P:Program}{fuel:Nat}{listed:Array Bool}{a:Act}{w:World}(j t:Nat)(x:Operand)(u:Value)(hu:a.eval x=u)(h:wpAny P .any ops Q fuel (listed.setIfInBounds j true) (a.put (some t) u) w)(ho:ops[j]? =some o:=by rfl)(hd:o.dst=some t:=by rfl)(hop:o.op=.assign x\/o.op=.move x:=by first|exact .inl rfl|exact .inr rfl)
    (hr:Region.ready .any ops listed= [j]:=by kernel_rfl) (hg:o.guard=none:=by rfl):wpAny P .any ops Q (fuel+1) listed a w:=
  stA j ho (λK hK=>by
    unfold Oper.wp execOp;subst hu;rw[<-hd]at h
    rcases hop with e|e <;> rw[e] <;> exact hK _ _ h) hr hg
end
def MdL(l:List Cl):Prop:=l.length<=4/\l.map Cl.nm=nmCs.take l.length/\∀c∈l,TrC c
def IsMd(B:Nat):Value->World->Prop:=λv w=>∃l,MdL l/\IsCs B l v w
def IsMdS(B:Nat):Value->World->Prop:=λv w=>∃(l:List Cl) (M:List (List Value)),MdL l/\IsCs B l v w/\SrcR l.length M.flatten v w/\M.length=l.length/\∀(i:Nat) (c:Cl),l[i]? =some c->∃us:List Value,M[i]? =some (qB c.nm ::us)/\NdC B w c.e us
theorem SrcR.own{T k base:Nat}{M:List (List Value)}{v:Value}{w:World}(h:RwK T k base M v w):SrcR M.length M.flatten v w:=by
  obtain⟨h1,⟨h2,h3⟩| ⟨g,cap,cur,hv,hb,hg,hn,hc,hs,ht⟩⟩:=h.1
  ·exact .inl ⟨h2,h3,by rw[List.length_eq_zero_iff.1 h3];rfl⟩
  · refine .inr ⟨g,0,cap,hv,λj u hj=>?_⟩
    have h9:cur.toList[j]? =some u:=by
      rw[<-ht,List.getElem?_take]at hj
      split at hj
      ·exact hj
      ·cases hj
    simp only[World.cell?,hg,Nat.zero_add]
    simpa using h9
structure MdW (w:World) (l:List Cl) (M:List (List Value)) (lv:Value) (X:World):Prop where
  e:Ext w X
  rw:RwK 34 9 w.heap.size M lv X
  cr:CsR w.heap.size lv.ownBlock X l M
theorem MdL.nil:MdL []:=⟨Nat.zero_le _,rfl,λc h=>by simp at h⟩
theorem MdL.snoc{l:List Cl}{c:Cl}{nm:List UInt8}(h:MdL l)(hl:l.length<4)(hn:nmCs[l.length]? =some nm)(he:c.nm=nm)(ht:TrC c):MdL (l++ [c]):=by
  refine⟨by rw[zQ];exact hl,?_,λd hd=>(List.mem_append.1 hd).elim (h.2.2 d) λhd=>?_⟩
  · rw[List.map_append,h.2.1,zQ,List.length_singleton,List.take_add_one,hn,List.map_singleton,he]
    rfl
  ·rw[List.mem_singleton.1 hd];exact ht
theorem nmC_of{k:Nat}(h:k<4):∃nm sb,nmCs[k]? =some nm/\qB nm=.string sb/\nmC[k]? =some (.string sb)/\nm.length<=9:=by
  match k,h with
  |0,_=>exact⟨_,_,rfl,rfl,rfl,by decide⟩
  |1,_=>exact⟨_,_,rfl,rfl,rfl,by decide⟩
  |2,_=>exact⟨_,_,rfl,rfl,rfl,by decide⟩
  |3,_=>exact⟨_,_,rfl,rfl,rfl,by decide⟩
theorem Made_s{w:World}{v:Value}(hv:IsBys v w):Calls prog 10 #[v] w (Ret w (IsMdS w.heap.size)):=by
  obtain⟨ao,n,c,rfl,hn,hb⟩:=hv;have HB:=hid (zL hn hb);clear hn hb;obtain⟨W,hW,S0⟩:∃W,W=w.alloc (.cells #[] 34)/\MdW w [] [] (.slice (some ⟨w.heap.size,0,none⟩) 0 0) W:=⟨_,rfl,(Ext.refl w).alloc _,RwC.zero w,CsR.nil _ _ _⟩;have HS0:=hid S0;clear S0;go_enter func10,ntmps10;go_wp2_with fail;rw[<-hW];clear hW
  go_loopg [3,4] 4 (λgk v3 v4 wr=>∃i:Nat,v4=.int .i64 (i:Int)/\i+gk=4/\Hid (∃l M,MdW w l M v3 wr/\MdL l/\l.length=i))
  case atStart=>exact⟨0,rfl,rfl,hid ⟨[], [],HS0.out,MdL.nil,rfl⟩⟩
  case round=>
    obtain⟨i,rfl,hg,S⟩:=hrel;obtain⟨l,M,hS,hL,hlen⟩:=S.out;have HS:=hid hS;have HL:=hid (zL hL hlen);clear S hS hL hlen;by_cases hi:i<n/\i<4
    · obtain⟨hi1,hi2⟩:=hi
      have hin:(i:Int)<(n:Int):=ze
      have hi4:(i:Int)<4:=ze
      have hiw:IntKind.i64.wrap ((i:Int)+1)=((i+1:Nat):Int):=zh
      obtain⟨g,o,rfl,hc⟩:=HB.out.2 ze;obtain⟨u,hu1,hu2⟩:=hc i hi1;have HU:=hid (zL hu1 hu2);obtain⟨nm,sb,hm1,hm2,hm3,hm4⟩:=nmC_of hi2;have HM:=hid (zL hm1 (zL hm2 (zL hm3 hm4)));have HI:=hid (zL hi1 (zL hi2 hg));clear hc hu1 hu2 hm1 hm2 hm3 hm4 hi1 hi2 hg;go_upto_region 5 with fail;refine rg 12 (dR 16 12) [IsV u3,IsRw 0 nmC,iV (i:Int),IsPc (.string sb),IsV (.string sb),IsV (.slice (some ⟨g,o,none⟩) n c),iV (i:Int),IsP g (o+i),IsV u,IsTr wr.heap.size,IsClT wr.heap.size nm,IsClS wr.heap.size nm] [] 2 ?_ ?_
      · refine Rc xi ?_
        refine Rc (bsC (xs:=nmC) (hr:=λa w=>⟨9,by unfold nmC;go_simp⟩)) ?_;refine Rc jl ?_;refine Rc (ixRw (λg c n j h w=>by have:=ix_St g 0 c n j h w;rwa [Nat.zero_add]at this) (qA (fP:=IsRw 0 nmC) 1 17) (qA (fP:=iV (i:Int)) 2 18) HM.out.2.2.1) ?_;refine Rc (ldPc qP (qA (fP:=IsPc (.string sb)) 3 19)) ?_;refine Rc xa ?_;refine Rc jl ?_;refine Rc (ixq (ix_By g o c n i HI.out.1) (qA 5 21) (qA (fP:=iV (i:Int)) 6 22)) ?_;refine Rc (lv (fP:=IsV u) _ (λw' e=>ld_By (HU.out.2.ext (HS.out.e.trans e)) ((HS.out.e.trans e).cell HU.out.1)) (qA 7 23) (λ_ _=>rfl)) ?_
        refine Rc (cl (fQ:=IsTr wr.heap.size) (en func22) rfl rfl zc zc λv a w2 hE hd hf=>by
          have e0:a.eval (.tmp 24)=u:=(qA 8 24:Od _ _ _ _ _ _ _ (IsV u)).out v a w2 hE hd hf;simp only[List.map_toArray,List.map_cons,List.map_nil];rw[e0]
          exact zG (Tree_f (HU.out.2.ext (HS.out.e.trans hE))) (λe w3 hq=>by{obtain⟨r,q1,q2,x,q3,q4⟩:=hq;exact⟨r,q1,q2,x,q3,q4.low hE.size⟩})) ?_
        refine Rc (bdClT HM.out.2.1 (qA (fP:=IsV (.string sb)) 4 20) (qA (fP:=IsTr wr.heap.size) 9 25)) ?_;refine Rc (bsClT (qA (fP:=IsClT wr.heap.size nm) 10 26)) ?_;exact rn0
      intro x X4 e4 hΦ _;obtain⟨t,us,p,ht,hxv,hsr,hnd⟩:=hΦ 11 dcx;simp only[lxE,Nat.reduceAdd];rw[show x 0=u3 from hΦ 0 dcx,hxv];rw[hxv]at hsr;clear hΦ hxv;have h9:(qB nm ::us).length=9:=by rw[List.length_cons,hnd.len]
      have h8:(qB nm ::us).all (λu=>u.oneCell')=true:=by rw[List.all_cons,hnd.nw.2];rfl
      have E4:=HS.out.e.trans e4;have HNO:∀g,u3.ownBlock=some g->w.heap.size<=g/\g<wr.heap.size:=World.ownsRow.lt HS.out.rw.1;have HRW:=HS.out.rw.ext e4;have HCR:=HS.out.cr.kc (Kc.ext e4);refine stA 12 rfl (λK hK=>wp_clo 28 (.tmp 16) (.tmp 27) rfl w.heap.size M (qB nm ::us) u3 (.slice (some ⟨p,0,none⟩) 1 1) rfl rfl HRW ⟨h9,λv hv=>by rcases List.mem_cons.1 hv with rfl|hv;exact NoWord.string _;exact hnd.nw.1 v hv,h8⟩ hsr (by rw[HS.out.cr.1];have:=HL.out.1.1;omega) E4.size (λv8 X8 q1 q2 q3 q4=>hK _ _ ?_));have HY8:NdI v8.ownBlock w.heap.size X8 t us:=(NdI.of hnd HS.out.e.size (λg e=>(HNO g e).2)).grown q2 q3 q4;have HCR8:=(HCR.grown q2 q3 q4).snoc (c:=⟨nm,t⟩) (by have:=HM.out.2.2.2;show nm.length<=1000000;omega) HY8;have HE8:Ext w X8:=Below.grown E4 q2 E4.size (λk hk=>(HNO _ hk).1);have HS8:=hid (show MdW w (l++ [⟨nm,t⟩]) (M++ [qB nm ::us]) v8 X8 from⟨HE8,q1,HCR8⟩);have HL8:=hid (show MdL (l++ [(⟨nm,t⟩:Cl)])/\(l++ [(⟨nm,t⟩:Cl)]).length=i+1 from⟨MdL.snoc (c:=(⟨nm,t⟩:Cl)) HL.out.1 (by rw[HL.out.2];exact HI.out.2.1) (by rw[HL.out.2];exact HM.out.1) rfl ht,by rw[zQ,HL.out.2];rfl⟩);clear hsr hnd h9 h8 E4 HNO HRW HCR q1 q2 q3 q4 HY8 HCR8 HE8 hK K ht e4 HS HL;refine asA 13 3 (.tmp 28) v8 rfl ?_;refine zP zc ?_ _;simp only[Act.put,List.setIfInBounds_toArray,List.set_cons_zero,List.set_cons_succ];go_wp2_with fail
      go_roundg (gk-1)
      case measure=>have:=HI.out;omega
      case rel=>exact⟨i+1,rfl,by have:=HI.out;omega,hid ⟨_,_,HS8.out,HL8.out.1,HL8.out.2⟩⟩
    · have HR:=hid (show IsMdS w.heap.size u3 wr from⟨l,M,HL.out.1,HS.out.cr.is HS.out.rw (zN _),by rw[<-HS.out.cr.1];exact SrcR.own HS.out.rw,HS.out.cr.1,λi c hi=>let ⟨_,us,q1,q2⟩:=HS.out.cr.2 i c hi;⟨us,q1,q2.nd⟩⟩)
      have HE:=hid HS.out.e;clear HS HL;by_cases hi1:i<n
      · have hin:(i:Int)<(n:Int):=by omega
        have hi4:¬(i:Int)<4:=ze
        go_wp2_with fail
        go_ret
        exact⟨_,rfl,HE.out,HR.out⟩
      · have hin:¬(i:Int)<(n:Int):=by omega
        go_wp2_with fail
        go_ret
        exact⟨_,rfl,HE.out,HR.out⟩
theorem Made_f{w:World}{v:Value}(hv:IsBys v w):Calls prog 10 #[v] w (Ret w (IsMd w.heap.size)):=
  (Made_s hv).mono λ_ _ ⟨x,h1,h2,l,_,h3,h4,_⟩=>⟨x,h1,h2,l,h3,h4⟩
end Go.Proofs.YtenhciieboegbaaGreatDoor
