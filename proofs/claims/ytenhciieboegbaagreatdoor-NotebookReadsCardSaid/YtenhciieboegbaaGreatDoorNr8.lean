/-
  The reference: which lists of cells are right, and their texts. (Printed by wip/gen/nr7.py.)
  The reference: what is printed (PrintIn). (Printed by wip/gen/nr8.py.)
-/
import Derived.Test.YtenhciieboegbaaGreatDoorNr4
import Derived.Test.YtenhciieboegbaaGreatDoorNr6
namespace Go.Proofs.YtenhciieboegbaaGreatDoor
open Go Go.RowKit Go.Maps
open Go.Proofs.Tryz
theorem jz{P:Prop}(h:P:=by exact mv (qC (x:=.slice (some ⟨g,o,none⟩) n cp) 0)):P:=h
theorem xp{P:Prop}(h:P:=by simp[results,results15,go_sem,c0,c1]):P:=h
set_option maxRecDepth 100000
set_option maxHeartbeats 8000000
theorem RwS.sr{base:Nat}{b:Sc}{v:Value}{w:World}(h:RwS base b v w)(hl:b.length<=1000000000):IsSr b v w:=by
  obtain⟨ao,cp,h1,h2,h3,h4,h5⟩:=h.1.shape;refine⟨ao,cp,h1,by omega,λhb=>?_⟩;obtain⟨g,rfl,k1,k2,k3⟩:=h5 (by simpa using hb);exact⟨g,0,rfl,λj x hj=>by rw[Nat.zero_add];exact k3 j _ (by simp[hj])⟩
section
variable {ops:Array Oper} {Q:Exit->Act->World->Prop} {ds:List (Option Tmp)} {a0:Act} {w0:World} {L:List (Value->World->Prop)} {boxes:List Nat} {i k:Nat} {o:Oper} {os:List Oper}
theorem bs0G(ho:o.op=.buildSlice 53 0 #[]:=by rfl)(hi:L.getD i (λ_ _=>True)=IsSg []:=by kernel_rfl)(hb:boxes.contains i=false:=by kernel_rfl):Ok prog ops Q ds a0 w0 L boxes i o:=
  ⟨fun v a w hE hd hf K hK=>by
    have hr:(Instr.buildSlice 53 0 #[]).run prog w=.ok (.slice (some ⟨w.heap.size,0,none⟩) 0 0) (w.alloc (.cells #[] 9)):=xh
    have hrun:(execOp a.eval o).run prog w=.ok (.value (.slice (some ⟨w.heap.size,0,none⟩) 0 0)) (w.alloc (.cells #[] 9)):=by
      unfold execOp;rw[ho];dsimp only;simp[hr]
    unfold Oper.wp;rw[hrun];refine hK.out _ _ ((Ext.refl w).alloc _) ?_ (FreshIf.no hb);rw[hi]
    exact⟨_,0,rfl,λj x hj=>by simp at hj⟩⟩
theorem bs1G{x:Operand}{s:List UInt8}(hx:Od ops ds a0 w0 L i x (IsV (qB s)))(ho:o.op=.buildSlice 53 1 #[(0,x)]:=by rfl)(hi:L.getD i (λ_ _=>True)=IsSg [s]:=by kernel_rfl)(hb:boxes.contains i=false:=by kernel_rfl):Ok prog ops Q ds a0 w0 L boxes i o:=
  ⟨fun v a w hE hd hf K hK=>by
    have e1:a.eval x=qB s:=hx.out v a w hE hd hf;have hr:(Instr.buildSlice 53 1 #[(0,qB s)]).run prog w=.ok (.slice (some ⟨w.heap.size,0,none⟩) 1 1) (w.alloc (.cells #[qB s] 9)):=by rw[qB];go_simp
    have hrun:(execOp a.eval o).run prog w=.ok (.value (.slice (some ⟨w.heap.size,0,none⟩) 1 1)) (w.alloc (.cells #[qB s] 9)):=by
      unfold execOp;rw[ho];dsimp only;simp only[List.map_toArray,List.map_cons,List.map_nil];rw[e1];simp[hr]
    unfold Oper.wp;rw[hrun];refine hK.out _ _ ((Ext.refl w).alloc _) ?_ (FreshIf.no hb);rw[hi];refine⟨_,1,rfl,λj x hj=>?_⟩;cases j with
    | zero=>
      obtain rfl:s=x:=ja
      exact(Bk.new w #[qB s] 9).c 0 (qB s) rfl
    |succ j=>simp at hj⟩
end
section
set_option maxRecDepth 100000
set_option maxHeartbeats 8000000
theorem Right42_f{l:List Cl}{v:Value}{w:World}(K0:Nat)(hl:IsCs 0 l v w)(hn:l.length<=1000000)(hK:K0<=1000000)(hh:∀c∈l,hgN K0 c.e):Calls prog 13 #[v] w (RVal w (.bool (rtE l))):=by
  obtain⟨ao,cp,rfl,hc1,hc2,hP⟩:=id hl;obtain⟨n,hn2⟩:∃n,l.length=n:=⟨_,rfl⟩;have HL:=hid hl;have HN:=hid (zL hn2 hn);have HH:=hid (zL hK hh);have HP:=hid hP;rw[hn2];clear hl hn hK hh hP hc1 hc2 hn2;by_cases h40:40<n
  · have hle:(40:Int)<(n:Int):=by omega
    have HR:=hid (show rtE l=false by rw[rtE,decide_eq_false (by rw[HN.out.1];omega)];simp);go_enter func13,ntmps13;go_wp2_with fail
    go_ret
    exact⟨by rw[HR.out] <;> rfl,Ext.refl _⟩
  have hle:¬(40:Int)<(n:Int):=ze
  have HR:=hid (show rtE l=rtL [] l by rw[rtE,decide_eq_true (by rw[HN.out.1];omega)];simp);have H40:=hid (show n<=40 by omega);clear h40;obtain⟨W,hW,E0,R0⟩:∃W,W=w.alloc (.cells #[] 9)/\Ext w W/\RwS w.heap.size [] (.slice (some ⟨w.heap.size,0,none⟩) 0 0) W:=⟨_,rfl,(Ext.refl _).alloc _,RwS.zero w (zN _)⟩;have HE0:=hid E0;have HR0:=hid R0;clear E0 R0;go_enter func13,ntmps13;go_upto_region 3 with fail;refine wp_region_lit ?_;refine wpList_step λK hK=>?_
  go_simp
  refine hK _ _ ?_;clear hK K;rw[<-hW];clear hW;refine stL (λK hK=>qV (hK _ _ ?_));clear hK K
  try go_simp
  refine zI ?_;go_wp2_with fail;clear hle
  go_loopg [3,4] n (λgk v3 v4 wr=>∃i:Nat,v4=.int .i64 (i:Int)/\i+gk=n/\Hid (Ext w wr/\RwS w.heap.size (nms (l.take i)) v3 wr/\rtL [] l=rtL (nms (l.take i)) (l.drop i)))
  case atStart=>exact⟨0,rfl,by omega,hid ⟨HE0.out,HR0.out,rfl⟩⟩
  case round=>
    obtain⟨i,rfl,hg,S⟩:=hrel;by_cases hi:i<n
    · have hil:(i:Int)<(n:Int):=by omega
      have hiw:IntKind.i64.wrap ((i:Int)+1)=((i+1:Nat):Int):=zy
      obtain⟨y,hy⟩:∃y,l[i]? =some y:=yk;obtain⟨g,o,rfl,-,hcs⟩:=HP.out (λe=>by rw[e]at hy;cases hy);obtain⟨us,hu1,hu2,hu3⟩:=hcs i y hy;have hym:=List.mem_of_getElem? hy;have HIW:=hid hiw;have HG:=hid (zL hg (zL hi hy));have HU:=hid (show(∀j u,us[j]? =some u->World.cell? w ⟨g,o+9*i+1+j,none⟩=some u)/\us.length=8/\World.cell? w ⟨g,o+9*i,none⟩=some (qB y.nm)from⟨hu1,hu2.len,hu3⟩);have HE:=hid S.out.1;have HRT:=hid (S.out.2.2.trans (rt_at hy));have HTK:=hid (show nms (l.take (i+1))=nms (l.take i)++ [y.nm]by rw[nms,nms,List.take_add_one,hy];simp);have HNL:=hid (show(nms (l.take i)).length<=40 by rw[nms,List.length_map,List.length_take];have:=H40.out;omega);have HNA:=hid (λw'=>Name_f y.nm w');have HHS:=hid (λw' (e:Ext wr w')=>Has_f (s:=y.nm) ((S.out.2.1.ext e).sr (by have:=HNL.out;omega)) (by have:=HNL.out;omega));have HSZ:=hid (λw' (e:Ext w w')=>Size_f K0 y.e us w' HH.out.1 (HH.out.2 y hym) (hu2.ext e));have HGD:=hid (λw' vv (e:Ext w w') (hs:IsSg [] vv w')=>good_f 20 [] y.e us vv w' hs dcx (hu2.ext e));have HRW:=hid S.out.2.1;have hqb:cntN y.e<=200*K0:=hg_cnt K0 y.e (HH.out.2 y hym);obtain⟨nm,hnm⟩:∃x,y.nm=x:=⟨_,rfl⟩;rw[hnm]at HU HRT HTK HNA HHS;obtain⟨p1,hp1⟩:∃r,qT nm=r:=⟨_,rfl⟩;have Hp1:=hid hp1;clear hp1;obtain⟨np1,hnp1⟩:∃r,(!p1)=r:=⟨_,rfl⟩;have Hnp1:=hid hnp1;clear hnp1;obtain⟨p2,hp2⟩:∃r,decide (nm∈nms (l.take i))=r:=⟨_,rfl⟩;have Hp2:=hid hp2;clear hp2;obtain⟨r1,hr1⟩:∃r,(np1||p2)=r:=⟨_,rfl⟩;have Hr1:=hid hr1;clear hr1;obtain⟨q,hq⟩:∃r,cntN y.e=r:=⟨_,rfl⟩;have Hq:=hid hq;clear hq;obtain⟨c3,hc3⟩:∃r,decide (200<q)=r:=⟨_,rfl⟩;have Hc3:=hid hc3;clear hc3;obtain⟨r2,hr2⟩:∃r,(r1||c3)=r:=⟨_,rfl⟩;have Hr2:=hid hr2;clear hr2;obtain⟨gd,hgd⟩:∃r,gdN 20 [] y.e=r:=⟨_,rfl⟩;have Hgd:=hid hgd;clear hgd;obtain⟨ngd,hngd⟩:∃r,(!gd)=r:=⟨_,rfl⟩;have Hngd:=hid hngd;clear hngd;obtain⟨r3,hr3⟩:∃r,(r2||ngd)=r:=⟨_,rfl⟩;have Hr3:=hid hr3;clear hr3;rw[Hq.out]at hqb HSZ;rw[Hp1.out]at HNA;rw[Hp2.out]at HHS
      have HGD:Hid (∀w' vv,Ext w w'->IsSg [] vv w'->Calls prog 36 #[.agg us.toArray,vv,.int .i64 20] w' (RVal w' (.bool gd))):=by
        have h:=HGD.out;rw[Hgd.out]at h;exact hid h
      have HNA:Hid (∀w',Calls prog 34 #[qB nm] w' (RVal w' (.bool p1))):=HNA;have HHS:Hid (∀w',Ext wr w'->Calls prog 26 #[u3,qB nm] w' (Ret w' (IsV (.bool p2)))):=HHS;have HSZ:Hid (∀w',Ext w w'->Calls prog 35 #[.agg us.toArray] w' (RVal w' (.int .i64 (q:Int)))):=HSZ
      have HRT2:=hid (show rtL [] l=(!r3&&rtL (nms (l.take (i+1))) (l.drop (i+1)))by
        rw[HRT.out,Hp1.out,Hq.out,Hgd.out,show(nms (l.take i)).contains nm=p2 from by rw[<-Hp2.out,Bool.eq_iff_iff];simp,show decide (q<=200)= !c3 from by rw[<-Hc3.out,Bool.eq_iff_iff];simp,<-Hr3.out,<-Hngd.out,<-Hr2.out,<-Hr1.out,<-Hnp1.out]
        cases p1 <;> cases p2 <;> cases c3 <;> cases gd <;> rfl)
      clear hg hi hy hiw hcs hu1 hu2 hu3 hym hnm hqb HRT S;go_upto_region 7 with fail;refine rgs 35 (dR 15 35) [IsV (.slice (some ⟨g,o,none⟩) n cp),iV (i:Int),IsP g (o+9*i),IsP g (o+9*i),IsV (qB nm),IsV (.bool p1),IsV (.bool np1),IsV (.bool np1),IsIf (!np1) (IsV (u3)),IsIf (!np1) (IsV (.slice (some ⟨g,o,none⟩) n cp)),IsIf (!np1) (iV (i:Int)),IsIf (!np1) (IsP g (o+9*i)),IsIf (!np1) (IsP g (o+9*i)),IsIf (!np1) (IsV (qB nm)),IsIf (!np1) (IsV (.bool p2)),IsV (.bool r1),IsV (.bool r1),IsIf (!r1) (IsV (.slice (some ⟨g,o,none⟩) n cp)),IsIf (!r1) (iV (i:Int)),IsIf (!r1) (IsP g (o+9*i)),IsIf (!r1) (IsP g (o+9*i+1)),IsIf (!r1) (IsV (.agg us.toArray)),IsIf (!r1) (iV (q:Int)),IsIf (!r1) (IsV (.bool c3)),IsV (.bool r2),IsV (.bool r2),IsIf (!r2) (IsV (.slice (some ⟨g,o,none⟩) n cp)),IsIf (!r2) (iV (i:Int)),IsIf (!r2) (IsP g (o+9*i)),IsIf (!r2) (IsP g (o+9*i+1)),IsIf (!r2) (IsV (.agg us.toArray)),IsIf (!r2) (IsSg []),IsIf (!r2) (IsV (.bool gd)),IsIf (!r2) (IsV (.bool ngd)),IsV (.bool r3)] [] ?_ ?_
      · refine Rc jz ?_
        refine Rc jl ?_;refine Rc (ixq (ix_Cl g o cp n i HG.out.2.1) (qA (fP:=IsV (.slice (some ⟨g,o,none⟩) n cp)) 0 15) (qA (fP:=iV (i:Int)) 1 16)) ?_;refine Rc (fa (fa_Cl0 g (o+9*i)) (qA 2 17)) ?_;refine Rc (lv (fP:=IsV (qB nm)) _ (λw' e=>qP _ _ _ ((HE.out.trans e).cell HU.out.2.2)) (qA 3 18) (λ_ _=>rfl)) ?_;refine Rc (cl1 (fP:=IsV (qB nm)) (fQ:=IsV (.bool p1)) (en func34) (qA 4 19) (λx0 w' hE d0=>by{obtain rfl:x0=qB nm:=d0;exact zG (HNA.out w') (λe w2 h=>⟨_,h.1,h.2,rfl⟩)})) ?_;refine Rc (un (p:=.bool p1) (r:=.bool np1) (qA (fP:=IsV (.bool p1)) 5 20) rfl (λw=>by rw[<-Hnp1.out];go_simp)) ?_;refine Rc (mv (qA (fP:=IsV (.bool np1)) 6 21)) ?_;refine RcB 7 22 np1 false (λhb=>by subst hb;exact mv (qC (x:=u3) 3)) ?_;refine RcB 7 22 np1 false (λhb=>by subst hb;exact mv (qC (x:=.slice (some ⟨g,o,none⟩) n cp) 0)) ?_;refine RcB 7 22 np1 false (λhb=>by subst hb;exact mv (qC (x:=.int .i64 (i:Int)) 4)) ?_;refine RcB 7 22 np1 false (λhb=>by subst hb;exact ixq (ix_Cl g o cp n i HG.out.2.1) (qA (fP:=IsV (.slice (some ⟨g,o,none⟩) n cp)) 9 24) (qA (fP:=iV (i:Int)) 10 25)) ?_;refine RcB 7 22 np1 false (λhb=>by subst hb;exact fa (fa_Cl0 g (o+9*i)) (qA 11 26)) ?_;refine RcB 7 22 np1 false (λhb=>by subst hb;exact lv (fP:=IsV (qB nm)) _ (λw' e=>qP _ _ _ ((HE.out.trans e).cell HU.out.2.2)) (qA 12 27) (λ_ _=>rfl)) ?_;refine RcB 7 22 np1 false (λhb=>by subst hb;exact cl2 (fP:=IsV u3) (fR:=IsV (qB nm)) (fQ:=IsV (.bool p2)) (en func26) (qA 8 23) (qA 13 28) (λx0 y0 w' hE d0 d1=>by{obtain rfl:x0=u3:=d0;obtain rfl:y0=qB nm:=d1;exact HHS.out w' hE})) ?_;refine Rc (pkO (qA (fP:=IsV (.bool np1)) 7 22) (λhb=>by subst hb;exact(qA (fP:=IsV (.bool p2)) 14 29)) Hr1.out) ?_;refine Rc (mv (qA (fP:=IsV (.bool r1)) 15 30)) ?_;refine RcB 16 31 r1 false (λhb=>by subst hb;exact mv (qC (x:=.slice (some ⟨g,o,none⟩) n cp) 0)) ?_;refine RcB 16 31 r1 false (λhb=>by subst hb;exact mv (qC (x:=.int .i64 (i:Int)) 4)) ?_;refine RcB 16 31 r1 false (λhb=>by subst hb;exact ixq (ix_Cl g o cp n i HG.out.2.1) (qA (fP:=IsV (.slice (some ⟨g,o,none⟩) n cp)) 17 32) (qA (fP:=iV (i:Int)) 18 33)) ?_;refine RcB 16 31 r1 false (λhb=>by subst hb;exact fa (fa_Cl1 g (o+9*i)) (qA 19 34)) ?_;refine RcB 16 31 r1 false (λhb=>by subst hb;exact lv (fP:=IsV (.agg us.toArray)) _ (λw' e=>ldM zc zc HU.out.2.1 (λj v hj=>(HE.out.trans e).cell (HU.out.1 j v hj))) (qA 20 35) (λ_ _=>rfl)) ?_;refine RcB 16 31 r1 false (λhb=>by subst hb;exact cl1 (fP:=IsV (.agg us.toArray)) (fQ:=iV (q:Int)) (en func35) (qA 21 36) (λx0 w' hE d0=>by{obtain rfl:x0=.agg us.toArray:=d0;exact zG (HSZ.out w' (HE.out.trans hE)) (λe w2 h=>⟨_,h.1,h.2,rfl⟩)})) ?_
        refine RcB 16 31 r1 false (λhb=>by subst hb;exact bn (r:=.bool c3) (qA (fP:=iV (q:Int)) 22 37) qD (hr:=λw=>by have hx9:=(show decide ((200:Int)<(q:Int))=c3 from by rw[<-Hc3.out];apply decide_eq_decide.2;omega);go_simp)) ?_;refine Rc (pkO (qA (fP:=IsV (.bool r1)) 16 31) (λhb=>by subst hb;exact(qA (fP:=IsV (.bool c3)) 23 38)) Hr2.out) ?_;refine Rc (mv (qA (fP:=IsV (.bool r2)) 24 39)) ?_;refine RcB 25 40 r2 false (λhb=>by subst hb;exact mv (qC (x:=.slice (some ⟨g,o,none⟩) n cp) 0)) ?_;refine RcB 25 40 r2 false (λhb=>by subst hb;exact mv (qC (x:=.int .i64 (i:Int)) 4)) ?_;refine RcB 25 40 r2 false (λhb=>by subst hb;exact ixq (ix_Cl g o cp n i HG.out.2.1) (qA (fP:=IsV (.slice (some ⟨g,o,none⟩) n cp)) 26 41) (qA (fP:=iV (i:Int)) 27 42)) ?_;refine RcB 25 40 r2 false (λhb=>by subst hb;exact fa (fa_Cl1 g (o+9*i)) (qA 28 43)) ?_;refine RcB 25 40 r2 false (λhb=>by subst hb;exact lv (fP:=IsV (.agg us.toArray)) _ (λw' e=>ldM zc zc HU.out.2.1 (λj v hj=>(HE.out.trans e).cell (HU.out.1 j v hj))) (qA 29 44) (λ_ _=>rfl)) ?_;refine RcB 25 40 r2 false (λhb=>by subst hb;exact bs0G) ?_;refine RcB 25 40 r2 false (λhb=>by subst hb;exact cl3 (fP:=IsV (.agg us.toArray)) (fR:=IsSg []) (fQ:=IsV (.bool gd)) (en func36) (qA 30 45) (qA 31 46) qD (λx0 y0 z0 w' hE d0 d1 d2=>by{obtain rfl:x0=.agg us.toArray:=d0;obtain rfl:z0=.int .i64 20:=d2;exact zG (HGD.out w' y0 (HE.out.trans hE) d1) (λe w2 h=>⟨_,h.1,h.2,rfl⟩)})) ?_;refine RcB 25 40 r2 false (λhb=>by subst hb;exact un (p:=.bool gd) (r:=.bool ngd) (qA (fP:=IsV (.bool gd)) 32 47) rfl (λw=>by rw[<-Hngd.out];go_simp)) ?_;refine Rc (pkO (qA (fP:=IsV (.bool r2)) 25 40) (λhb=>by subst hb;exact(qA (fP:=IsV (.bool ngd)) 33 48)) Hr3.out) ?_;exact rn0
      intro u X5 e5 hΦ _;have q9:u 34=.bool r3:=hΦ 34 dcx;simp only[lxE,Nat.reduceAdd];rw[q9];have HE5:=hid (HE.out.trans e5);have HRW5:=hid (HRW.out.ext e5);clear hΦ q9 e5 HRW HE HHS;refine zI ?_;cases r3 with
      | true=>
        have HR2:=hid (show rtE l=false by rw[HR.out,HRT2.out];rfl);go_wp2_with fail
        go_ret
        exact⟨by rw[HR2.out] <;> rfl,HE5.out⟩
      | false=>
        have HR2:=hid (show rtL [] l=rtL (nms (l.take (i+1))) (l.drop (i+1))by rw[HRT2.out];rfl);go_upto_region 9 with fail;refine rgs 7 (dR 50 7) [IsV (u3),IsV (.slice (some ⟨g,o,none⟩) n cp),iV (i:Int),IsP g (o+9*i),IsP g (o+9*i),IsV (qB nm),IsSg [nm]] [] ?_ ?_
        · refine Rc (mv (qC (x:=u3) 3)) ?_
          refine Rc jz ?_;refine Rc jl ?_;refine Rc (ixq (ix_Cl g o cp n i HG.out.2.1) (qA (fP:=IsV (.slice (some ⟨g,o,none⟩) n cp)) 1 51) (qA (fP:=iV (i:Int)) 2 52)) ?_;refine Rc (fa (fa_Cl0 g (o+9*i)) (qA 3 53)) ?_;refine Rc (lv (fP:=IsV (qB nm)) _ (λw' e=>qP _ _ _ ((HE5.out.trans e).cell HU.out.2.2)) (qA 4 54) (λ_ _=>rfl)) ?_;refine Rc (bs1G (qA (fP:=IsV (qB nm)) 5 55)) ?_;exact rn0
        intro u' X6 e6 hΦ _;obtain⟨gx,cx,hxv,hxc⟩:=hΦ 6 dcx;have q0:u' 0=u3:=hΦ 0 dcx;simp only[lxE,Nat.reduceAdd];rw[q0,hxv];have hsrc:SrcR 1 ([nm].map qB) (.slice (some ⟨gx,0,none⟩) 1 cx) X6:=IsSg.src (b:= [nm]) ⟨gx,cx,rfl,hxc⟩;have E6:=HE5.out.trans e6;have HRW6:=HRW5.out.ext e6;clear hΦ hxv hxc q0 e6;refine stL (λK hK=>wp_sx (.tmp 50) (.tmp 56) rfl w.heap.size (nms (l.take i)) [nm] u3 (.slice (some ⟨gx,0,none⟩) 1 cx) rfl rfl HRW6 hsrc (by have:=HNL.out;simp;omega) E6.size (λv8 X8 q1 q2 q3 q4=>hK _ _ ?_));have HE8:=hid (show Ext w X8 from Below.grown E6 q2 E6.size (λj hj=>((World.ownsRow.lt HRW6.1) j hj).1));have HRW8:=hid (show RwS w.heap.size (nms (l.take (i+1))) v8 X8 by rw[HTK.out];exact q1);clear hK K hsrc E6 HRW6 q1 q2 q3 q4
        go_simp
        refine stL (λK hK=>qV (hK _ _ ?_));clear hK K
        try go_simp
        refine zI ?_;have hx9:=HIW.out;go_wp2_with fail
        go_roundg (gk-1)
        case measure=>have:=HG.out;omega
        case rel=>exact⟨i+1,rfl,by have:=HG.out;omega,hid ⟨HE8.out,HRW8.out,HR2.out⟩⟩
    · have hil:¬((i:Int)<(n:Int)):=by omega
      have HR2:=hid (show rtE l=true by rw[HR.out,S.out.2.2,List.drop_of_length_le (by rw[HN.out.1];omega),rtL]);have HE:=hid S.out.1;clear S;go_wp2_with fail
      go_ret
      exact⟨by rw[HR2.out] <;> rfl,HE.out⟩
end
theorem shL_part(l:List Cl)(j:Nat):(shL (l.take j)).length<=(shL l).length:=by
  have h:=congrArg List.length (shL_app (l.take j) (l.drop j));rw[List.take_append_drop,zQ]at h;omega
theorem PrintIn_f{l:List Cl}{v:Value}{w:World}(K0:Nat)(hl:IsCs 0 l v w)(hn:l.length<=1000000)(hK:K0<=1000000)(hh:∀c∈l,hgN K0 c.e):Calls prog 15 #[v] w (Ret w (IsTx (prS l) (prE l))):=by
  obtain⟨W,hW,E⟩:∃W,W=w.alloc (.cells #[.string ⟨#[]⟩,.int .i64 0] 40)/\Ext w W:=⟨_,rfl,(Ext.refl w).alloc _⟩;have B:=Bk.new w #[.string ⟨#[]⟩,.int .i64 0] 40;rw[<-hW]at B;have HB:=hid B;have HE:=hid E;have HRI:=hid (Right42_f K0 (hl.ext E) hn hK hh);have HL:=hid hl;obtain⟨ao,cp,rfl,-,-,hP⟩:=id hl;obtain⟨n,hn2⟩:∃n,l.length=n:=⟨_,rfl⟩;have HN:=hid (zL hn2 hn);have HP:=hid hP;rw[hn2]at HRI ⊢;obtain⟨rt,hrt⟩:∃r,rtE l=r:=⟨_,rfl⟩;rw[hrt]at HRI;have HRT:=hid hrt;have HRI:Hid (Calls prog 13 #[.slice ao n cp] W (RVal W (.bool rt))):=HRI;clear hl hn hK hh hn2 hP hrt B E;go_enter func15,ntmps15;go_upto_region 1 with fail;rw[<-hW];clear hW;cases rt with
  | false=>
    have HR:=hid (show prS l= []/\prE l=1 by
      have:prE l=1:=by rw[prE,HRT.out];rfl
      rw[prS,this];exact⟨rfl,rfl⟩)
    go_upto_region 2 with(go_at_call 13;go_must (refine zG HRI.out ?_;rintro e w1 ⟨rfl,e1⟩;have e1:=hid e1));have B1:=HB.out.ext e1.out;have c0:=B1.c 0 _ rfl;have c1:=B1.c 1 _ rfl;have f0:=B1.f 0;have f1:=B1.f 1;have E1:=hid (HE.out.trans e1.out);clear B1;go_wp2_with fail;refine zH (v:=.agg #[.string ⟨#[]⟩,.int .i64 1]) xp rfl ?_;exact⟨_,rfl,(E1.out.set (zN _) _).set (zN _) _,by rw[IsTx,HR.out.1,HR.out.2];rfl⟩
  | true=>
    have HRA:=hid (show(∀c∈l,qT c.nm=true/\szN 20 [] c.e≠0)/\n<=40 by
      have h:=HRT.out;rw[rtE,Bool.and_eq_true,zS]at h
      exact⟨rt_all h.1,by have:=HN.out.1;omega⟩)
    go_upto_region 4 with(go_at_call 13;go_must (refine zG HRI.out ?_;rintro e w1 ⟨rfl,e1⟩;have e1:=hid e1));have HB1:=hid (HB.out.ext e1.out);have HE1:=hid (HE.out.trans e1.out);clear HB HE e1 HRI;go_wp2_with fail
    go_loopg [3,4] n (λgk v3 v4 wr=>∃i:Nat,v4=.int .i64 (i:Int)/\i+gk=n/\v3=qB (shL (l.take i))/\Hid (Ext w1 wr/\(shL (l.take i)).length<=20000))
    case atStart=>exact⟨0,rfl,by omega,rfl,hid ⟨Ext.refl _,Nat.zero_le _⟩⟩
    case round=>
      obtain⟨i,rfl,hg,rfl,S⟩:=hrel;by_cases hi:i<n
      · have hil:(i:Int)<(n:Int):=by omega
        have HIW:=hid (show IntKind.i64.wrap ((i:Int)+1)=((i+1:Nat):Int)by have:=HN.out;simp only[IntKind.wrap_i64];omega);obtain⟨y,hy⟩:∃y,l[i]? =some y:=yk;obtain⟨g,o,rfl,-,hcs⟩:=HP.out (λe=>by rw[e]at hy;cases hy);obtain⟨us,hu1,hu2,hu3⟩:=hcs i y hy;have hAy:=HRA.out.1 y (List.mem_of_getElem? hy);have HG:=hid (zL hg hi);have HU:=hid (show(∀j u,us[j]? =some u->World.cell? w ⟨g,o+9*i+1+j,none⟩=some u)/\us.length=8/\World.cell? w ⟨g,o+9*i,none⟩=some (qB y.nm)from⟨hu1,hu2.len,hu3⟩);have HSN:=hid (shL_snoc hy);have HSH:=hid (λw' (e:Ext w w')=>Shown_f 20 [] y.e us w' (zN _) hAy.2 (hu2.ext e));have hl2:=sh_len 20 [] y.e hAy.2;have hl1:=name_len hAy.1;have h3:100*3^20=348678440100:=by decide
        have hSC:shC y=y.nm++ [32,61,32]++shN 20 y.e++ [10]:=rfl;have ES:=S.out.2;obtain⟨nm,hnm⟩:∃x,y.nm=x:=⟨_,rfl⟩;obtain⟨se,hse⟩:∃x,shN 20 y.e=x:=⟨_,rfl⟩;obtain⟨S0,hS0⟩:∃x,shL (l.take i)=x:=⟨_,rfl⟩;rw[hse]at HSH hl2;rw[hnm]at hl1 HU;rw[hnm,hse]at hSC;rw[hSC,hS0]at HSN;rw[hS0]at ES ⊢;have HLB:=hid (show S0.length<=20000/\nm.length<=12/\se.length<=350000000000 from⟨ES,hl1,by omega⟩);have HSH:Hid (∀w',Ext w w'->Calls prog 38 #[.agg us.toArray] w' (RVal w' (qB se))):=HSH;have HE2:=hid (HE1.out.trans S.out.1);have HB2:=hid (HB1.out.ext S.out.1);have HE3:=hid S.out.1;clear hg hi hy hcs hu1 hu2 hu3 hAy hl1 hl2 h3 hSC ES hnm hse hS0 S;go_upto_region 7 with fail;refine rg 16 (dR 15 16) [IsV (qB S0),IsV (.slice (some ⟨g,o,none⟩) n cp),iV (i:Int),IsP g (o+9*i),IsP g (o+9*i),IsV (qB nm),IsV (qB (S0++nm)),IsV (qB ((S0++nm)++ [32,61,32])),IsV (.slice (some ⟨g,o,none⟩) n cp),iV (i:Int),IsP g (o+9*i),IsP g (o+9*i+1),IsV (.agg us.toArray),IsV (qB se),IsV (qB (((S0++nm)++ [32,61,32])++se)),IsV (qB ((((S0++nm)++ [32,61,32])++se)++ [10]))] [] 1 ?_ ?_
        · refine Rc (mv (qC (x:=qB S0) 3)) ?_
          refine Rc jz ?_;refine Rc jl ?_;refine Rc (ixq (ix_Cl g o cp n i HG.out.2) (qA (fP:=IsV (.slice (some ⟨g,o,none⟩) n cp)) 1 16) (qA (fP:=iV (i:Int)) 2 17)) ?_;refine Rc (fa (fa_Cl0 g (o+9*i)) (qA 3 18)) ?_;refine Rc (lv (fP:=IsV (qB nm)) _ (λw' e=>qP _ _ _ ((HE2.out.trans e).cell HU.out.2.2)) (qA 4 19) (λ_ _=>rfl)) ?_;refine Rc (ct (s:=S0) (t:=nm) (qA (fP:=IsV (qB S0)) 0 15) (qA (fP:=IsV (qB nm)) 5 20) (by have:=HLB.out;omega)) ?_;refine Rc (ct (s:=S0++nm) (t:= [32,61,32]) (qA (fP:=IsV (qB (S0++nm))) 6 21) qD za) ?_;refine Rc jz ?_;refine Rc jl ?_;refine Rc (ixq (ix_Cl g o cp n i HG.out.2) (qA (fP:=IsV (.slice (some ⟨g,o,none⟩) n cp)) 8 23) (qA (fP:=iV (i:Int)) 9 24)) ?_;refine Rc (fa (fa_Cl1 g (o+9*i)) (qA 10 25)) ?_;refine Rc (lv (fP:=IsV (.agg us.toArray)) _ (λw' e=>ldM zc zc HU.out.2.1 (λj v hj=>(HE2.out.trans e).cell (HU.out.1 j v hj))) (qA 11 26) (λ_ _=>rfl)) ?_;refine Rc (cl1 (fP:=IsV (.agg us.toArray)) (fQ:=IsV (qB se)) (en func38) (qA 12 27) (λx0 w' hE d0=>by{obtain rfl:x0=.agg us.toArray:=d0;exact zG (HSH.out w' (HE2.out.trans hE)) (λe w2 h=>⟨_,h.1,h.2,rfl⟩)})) ?_;refine Rc (ct (s:=(S0++nm)++ [32,61,32]) (t:=se) (qA (fP:=IsV (qB ((S0++nm)++ [32,61,32]))) 7 22) (qA (fP:=IsV (qB se)) 13 28) za) ?_;refine Rc (ct (s:=((S0++nm)++ [32,61,32])++se) (t:= [10]) (qA (fP:=IsV (qB (((S0++nm)++ [32,61,32])++se))) 14 29) qD za) ?_;exact rn0
        intro u X4 e4 hΦ _
        have q9:u 15=qB (shL (l.take (i+1))):=by
          have h:u 15=qB ((((S0++nm)++ [32,61,32])++se)++ [10]):=hΦ 15 dcx;rw[h,HSN.out];simp
        simp only[lxE,Nat.reduceAdd];rw[q9];have HE4:=hid (HE3.out.trans e4);have HB4:=hid (HB2.out.ext e4);clear hΦ q9 e4 HB2 HE2 HE3;refine asA 16 3 (.tmp 30) (qB (shL (l.take (i+1)))) rfl ?_;refine zP zc ?_ _;simp only[Act.put,List.setIfInBounds_toArray,List.set_cons_zero,List.set_cons_succ];obtain⟨S2,hS2⟩:∃x,shL (l.take (i+1))=x:=⟨_,rfl⟩;obtain⟨sb,hsb⟩:∃y:ByteArray,(⟨S2.toArray⟩:ByteArray)=y:=⟨_,rfl⟩;obtain⟨m,hm⟩:∃m,S2.length=m:=⟨_,rfl⟩;have hsz:sb.size=m:=by rw[<-hsb,<-hm];rfl
        rw[hS2,qB,hsb];have HS2:=hid (zL hS2 (zL hsb hm));clear hS2 hsb hm;by_cases h2:20000<m
        · have h3:(20000:Int)<(m:Int):=by omega
          have HR:=hid (show prS l= []/\prE l=2 by
            have h5:=shL_part l (i+1);rw[HS2.out.1,HS2.out.2.2]at h5;have:prE l=2:=by rw[prE,if_pos HRT.out,if_pos (by omega)]
            rw[prS,this];exact⟨rfl,rfl⟩)
          have c0:=HB4.out.c 0 _ rfl;have c1:=HB4.out.c 1 _ rfl;have f0:=HB4.out.f 0;have f1:=HB4.out.f 1;have E1:=hid (HE1.out.trans HE4.out);clear h2;go_wp2_with fail;refine zH (v:=.agg #[.string ⟨#[]⟩,.int .i64 2]) xp rfl ?_;exact⟨_,rfl,(E1.out.set (zN _) _).set (zN _) _,by rw[IsTx,HR.out.1,HR.out.2];rfl⟩
        · have h3:¬(20000:Int)<(m:Int):=by omega
          have HM:=hid (show m<=20000 by omega);have hx9:=HIW.out;clear h2;go_wp2_with fail
          go_roundg (gk-1)
          case measure=>have:=HG.out;omega
          case rel=>exact⟨i+1,rfl,by have:=HG.out;omega,by rw[HS2.out.1,qB,HS2.out.2.1],hid ⟨HE4.out,by rw[HS2.out.1,HS2.out.2.2];exact HM.out⟩⟩
      · have hil:¬((i:Int)<(n:Int)):=by omega
        have htk:l.take i=l:=List.take_of_length_le (by rw[HN.out.1];omega);have h5:=S.out.2;rw[htk]at h5 ⊢
        have HR:=hid (show prS l=shL l/\prE l=0 by
          have:prE l=0:=by rw[prE,if_pos HRT.out,if_neg (by omega)]
          rw[prS,if_pos this];exact⟨rfl,this⟩)
        obtain⟨sb,hsb⟩:∃y:ByteArray,(⟨(shL l).toArray⟩:ByteArray)=y:=⟨_,rfl⟩;rw[qB,hsb];have HSB:=hid hsb;have B4:=HB1.out.ext S.out.1;have c0:=B4.c 0 _ rfl;have c1:=B4.c 1 _ rfl;have f0:=B4.f 0;have f1:=B4.f 1;have E1:=hid (HE1.out.trans S.out.1);clear htk h5 hsb B4 S hg hi;go_wp2_with fail;refine zH (v:=.agg #[.string sb,.int .i64 0]) xp rfl ?_;exact⟨_,rfl,(E1.out.set (zN _) _).set (zN _) _,by rw[IsTx,HR.out.1,HR.out.2,qB,HSB.out]⟩
end Go.Proofs.YtenhciieboegbaaGreatDoor
