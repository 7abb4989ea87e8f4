/-
  Package notebook: which lists of cells are right. (Printed by wip/gen/nrt.py.)
  Strings put one behind another; texts and their lengths.
-/
import Derived.Test.YtenhciieboegbaaGreatDoorNsz
import Derived.Test.YtenhciieboegbaaGreatDoorNnm
import Derived.Test.YtenhciieboegbaaGreatDoorRwn
namespace Go.Proofs.YtenhciieboegbaaGreatDoor
open Go Go.RowKit Go.Maps
open Go.Proofs.Tryz
theorem js{P:Prop}(h:P:=by exact cl1 (fQ:=IsV (.bool true)) (en func32) (qA (fP:=IsV (.string sb)) 1 14) (λx0 w' hE d0 =>by{obtain rfl:x0 =.string sb:=d0;exact zG (HNM.out w') (λe w2 h =>⟨_,h.1,h.2,rfl⟩)})):P:=h
theorem yx{P:Prop}(h:P:=by exact mv (Od.lif (fP:=IsMs w.heap.size i (nms (l.take i)).reverse) 3 (λw' e =>⟨rfl,xN HO.out e⟩))):P:=h
theorem xq{P:Prop}(h:P:=by exact fa (fa_Cl0 g7 0) (qC 5)):P:=h
theorem xy{P:Prop}(h:P:=by exact un (r:=.bool false) (qA (fP:=IsV (.bool true)) 2 15) (hr:=λw =>by go_simp)):P:=h
set_option maxRecDepth 100000
set_option maxHeartbeats 8000000
def putS:List (List UInt8) ->DU
  | [] => .map []
  |k ::t =>(putS t).put (.string k) (.lit (.bool true))
theorem putS_map:∀l:List (List UInt8),IsMap (putS l)
  | [] =>isMap_empty
  |_ ::t =>(putS_map t).put _ _
theorem putS_at(x:List UInt8):∀l:List (List UInt8),(putS l).atKey (.string x) (.lit (.bool false))=.lit (.bool (decide (x∈l)))
  | [] =>by simp[putS,atKey_of_not_has (show Maps.has (.map []:DU) (.string x)=false from rfl)]
  | k ::t =>by
    by_cases e:x =k
    ·subst e;rw[putS,atKey_put_same (putS_map t) (show WideAt.IsKeyLit (Lit.string x)from trivial)];simp
    ·rw[putS,atKey_put_other (λe' =>e (by cases e';rfl)),putS_at x t];simp[e]
theorem plainElem_bool_inv{e:TypeId}(he:prog.underlying e =some .bool){v:Value}{z:DU×List MemPlace}(h:plainElem prog e v =some z):∃r:Bool,v =.bool r/\z =(.lit (.bool r), []) :=by
  unfold plainElem at h
  rw[he]at h
  cases v <;> simp at h
  exact⟨_,rfl,h.symm⟩
section
variable {P:Program} {ops:Array Oper} {Q:Exit ->Act ->World ->Prop} {ds:List (Option Tmp)} {a0:Act} {w0:World} {L:List (Value ->World ->Prop)} {boxes:List Nat} {i k:Nat} {o:Oper} {os:List Oper}
theorem un{x:Operand}{u:UnOp}{T:Nat}{p r:Value}(hx:Od ops ds a0 w0 L i x (IsV p))(ho:o.op =.unOp u T x:=by rfl)(hr:∀w,Sem.run P (Op.unary u p) w =.ok r w)(hi:L.getD i (λ_ _ =>True)=IsV r:=by kernel_rfl)(hb:boxes.contains i =false:=by kernel_rfl):Ok P ops Q ds a0 w0 L boxes i o:=
  Ok.of hb λv a w hE hd hf =>by
    have h1:a.eval x =p:=hx.out v a w hE hd hf
    refine⟨r,?_,by rw[hi];exact rfl⟩
    have:=hr w
    unfold execOp
    rw[ho]
    dsimp only
    rw[h1]
    simp[this]
theorem Od.lif(t:Nat){x:Value}{fP:Value ->World ->Prop}(h:∀w,Ext w0 w ->fP x w)(h1:ds.contains (some t)=false:=by kernel_rfl)(h2:a0.tmps[t]? =some x:=by kernel_rfl):Od ops ds a0 w0 L i (.tmp t) fP:=
  ⟨λv a w hE hd hf =>by have hq:a.eval (.tmp t)=x:=(qC (L:=L) (ops:=ops) (i:=i) t h1 h2).out v a w hE hd hf;rw[hq];exact h w hE⟩
end
theorem seen_at{w:World}{b n:Nat}{l:List (List UInt8)}(h:w.ownsMap prog 9 (plainElem prog 4) b n (putS l)){x:List UInt8}{sb:ByteArray}(hs:sb.data.toList =x)(hx:sb.size <=maxLen):(Instr.lookup 69 (.map (some b)) (.string sb) false).run prog w =.ok (.bool (l.contains x)) w:=by
  obtain⟨v,ps,hr,hv⟩ :=h.lookup lawS ty_msb (zBool w) (zd:=.lit (.bool false)) (zp:= []) (by exact plainElem_bool ty_bool false) (key:=.string sb) (kl:=.string sb.data.toList) (WideMaps.keyOf_string_mk jK hx)
  obtain⟨r,rfl,hz⟩ :=plainElem_bool_inv ty_bool hv
  rw[hr]
  simp only[Prod.mk.injEq]at hz
  have h2:=hz.1
  rw[hs,putS_at]at h2
  simp only[DataW.lit.injEq,Lit.bool.injEq]at h2
  have h3:l.contains x =decide (x∈l) :=zo
  rw[h3,<-h2]
def IsMs(b n:Nat)(l:List (List UInt8)):Value ->World ->Prop:=λx w =>x =.map (some b)/\w.ownsMap (H:=Unit) prog 9 (plainElem prog 4) b n (putS l)
theorem IsMs.stb(b n:Nat)(l:List (List UInt8)):Stb (IsMs b n l) :=λ_ _ _ e ⟨h1,h2⟩ =>⟨h1,xN h2 e⟩
instance (b n:Nat) (l:List (List UInt8)):StbC (IsMs b n l) :=⟨IsMs.stb b n l⟩
theorem ix_Cl(g o c n j:Nat)(h:j < n)(w:World):(Instr.indexAt 25 (.slice (some ⟨g,o,none⟩) n c) (.int .i64 (j:Int))).run prog w =.ok (.pointer (some ⟨g,o + 9 * j,none⟩)) w:=by
  have h2:(j:Int) < (n:Int) :=ze
  have h3:o + j * 9 =o + 9 * j:=ze
  go_simp
theorem fa_Cl0(g o:Nat)(w:World):(Instr.fieldAt 34 (.pointer (some ⟨g,o,none⟩)) 0).run prog w =.ok (.pointer (some ⟨g,o,none⟩)) w:=by go_simp
theorem fa_Cl1(g o:Nat)(w:World):(Instr.fieldAt 34 (.pointer (some ⟨g,o,none⟩)) 1).run prog w =.ok (.pointer (some ⟨g,o + 1,none⟩)) w:=by go_simp
def zCl:List Value:=.string ⟨#[]⟩ ::zNd
theorem nwZCl:∀v∈zCl,NoWord v:=by
  intro v hv
  rcases List.mem_cons.1 hv with rfl|hv
  ·exact NoWord.string _
  ·exact nwZN v hv
theorem al_Cl(w:World):(Instr.alloc 34 true (.tuple #[])).run prog w =.ok (.pointer (some ⟨w.heap.size,0,none⟩)) (w.alloc (.cells zCl.toArray 34)) :=by unfold zCl zNd;go_simp
theorem st_Cl:StV prog 34 9:=stM zc
theorem IsCs.get{B:Nat}{l:List Cl}{v:Value}{w:World}(h:IsCs B l v w){i:Nat}{x:Cl}(hi:l[i]? =some x):∃(g o c:Nat) (us:List Value),v =.slice (some ⟨g,o,none⟩) l.length c/\B <=g/\us.length =8/\ (∀j u,(qB x.nm ::us)[j]? =some u ->World.cell? w ⟨g,o + 9 * i + j,none⟩=some u)/\NdC B w x.e us:=by
  obtain⟨ao,c,h1,h2,h3,h4⟩ :=h
  obtain⟨g,o,rfl,hB,h5⟩ :=h4 (λe =>by rw[e]at hi;cases hi)
  obtain⟨us,h6,h7,h8⟩ :=h5 i x hi
  refine⟨g,o,c,us,h1,hB,h7.len,λj u hj =>?_,h7⟩
  cases j with
  | zero =>
    obtain rfl:qB x.nm =u:=ja
    exact h8
  |succ j =>have:=h6 j u ja;rwa [show o + 9 * i + 1 + j =o + 9 * i + (j + 1)by omega]at this
def nms(l:List Cl):List (List UInt8) :=l.map Cl.nm
def NmOk(l:List Cl):Prop:=∀c∈l,c.nm.length <=1000000
theorem rtL_at{l:List Cl}{i:Nat}{x:Cl}(hi:l[i]? =some x):rtL (nms (l.take i)) (l.drop i)=(qT x.nm && !(nms (l.take i)).contains x.nm && decide (szN 20 [] x.e≠0) && rtL (nms (l.take (i + 1))) (l.drop (i + 1))) :=by
  have hlt:=(List.getElem?_eq_some_iff.1 hi).1
  rw[List.drop_eq_getElem_cons hlt,(List.getElem?_eq_some_iff.1 hi).2,rtL]
  congr 2
  rw[nms,nms,List.take_add_one,hi]
  simp
theorem tNca_1{P:Prop}(h:P:=by
  intro u6 X6 e6 hΦ _
  have q6:u6 15 =.bool true:=hΦ 15 dcx
  simp only[lxE,Nat.reduceAdd]
  rw[q6]
  have E6:=hid (E5.trans e6)
  clear hΦ q6
  refine zI ?_
  have HR:=hid (show rtE l =false by rw[rtE,HRT.out];simp[])
  clear B7 e6 E5
  go_wp2_with fail
  go_ret
  exact⟨by rw[HR.out];rfl,E6.out⟩
  ):P:=h
theorem tNca_2{P:Prop}(h:P:=by
  refine Rc (mv (qA (fP:=IsV (.bool true)) 9 22)) ?_
  refine RcN 10 23 true ?_
  refine RcN 10 23 true ?_
  refine RcN 10 23 true ?_
  refine RcN 10 23 true ?_
  refine Rc (pk (b:=true) (qA 10 23) qD) ?_
  exact rn0
  ):P:=h
theorem right_f {l:List Cl}{v:Value}{w:World}(hl:IsCs 0 l v w)(hn:l.length <=1000000)(hm:NmOk l):Calls prog 12 #[v] w (RVal w (.bool (rtE l))) :=by
  obtain⟨ao,cp,rfl,hc1,hc2,-⟩ :=id hl
  obtain⟨n,hnn⟩:∃n,l.length =n:=⟨_,rfl⟩
  have HL:=hid hl
  have HN:=hid (zL hnn (zL hn (zL hc1 hc2)))
  have HM:=hid hm
  rw[hnn]at HL ⊢
  have HL:Hid (IsCs 0 l (.slice ao n cp) w) :=HL
  clear hl hn hm hc1 hc2 hnn
  obtain⟨W0,hW0⟩:∃W,W =w.alloc (.map #[] 0) :=⟨_,rfl⟩
  have O0:=hid (show W0.ownsMap (H:=Unit) prog 9 (plainElem prog 4) w.heap.size 0 (putS [])by rw[hW0];exact World.ownsMap_made _ _ _ _)
  have E0:=hid (show Ext w W0 by rw[hW0];exact(Ext.refl w).alloc _)
  have hmk:(Instr.makeMap 69 none).run prog w =.ok (.map (some w.heap.size)) W0:=by rw[hW0];exact @run_makeMap prog 69 w
  clear hW0
  go_enter func12,ntmps12
  go_wp2_with fail
  clear hmk
  go_loopg [5,9] n (λgk v5 v9 wr =>∃i:Nat,v9 =.int .i64 (i:Int)/\i + gk =n/\Hid (Ext w wr/\wr.ownsMap (H:=Unit) prog 9 (plainElem prog 4) w.heap.size i (putS (nms (l.take i)).reverse)/\rtL [] l =rtL (nms (l.take i)) (l.drop i)))
  case atStart =>exact⟨0,rfl,by omega,hid ⟨E0.out,O0.out,rfl⟩⟩
  case round =>
    obtain⟨i,rfl,hg,S⟩ :=hrel
    by_cases hi:i < n
    · obtain ⟨y, hy⟩:∃y,l[i]? =some y:=⟨_,List.getElem?_eq_getElem (by have:=HN.out.1;omega)⟩
      obtain⟨g,o,cp',us,hv,-,hl8,hcs,hy2⟩ :=HL.out.get hy
      simp only[Value.slice.injEq]at hv
      obtain⟨rfl,-,rfl⟩ :=hv
      have hil:(i:Int) < (n:Int) :=ze
      have HIW:=hid (show IntKind.i64.wrap ((i:Int) + 1)=((i + 1:Nat):Int)by have:=HN.out;simp only[IntKind.wrap_i64];omega)
      have HG:=hid (zL hg hi)
      obtain⟨E3,S2,S3⟩ :=S.out
      have HRT:=hid (S3.trans (rtL_at hy))
      have HNL:=hid (HM.out y (List.mem_of_getElem? hy))
      have hx1:∃sb:ByteArray,qB y.nm =.string sb/\sb.data.toList =y.nm/\sb.size <=maxLen:=⟨⟨y.nm.toArray⟩,rfl,by simp,by have:=HNL.out;simp[ByteArray.size,maxLen];omega⟩
      obtain⟨sb,hsb,hsb2⟩ :=hx1
      have HSB:=hid hsb2
      have HC:=hid hl8
      have HCS:=hid hcs
      have HY:=hid hy2
      have HI:=hid hy
      have HNM0:=hid (λw' =>isName_f vlsC y.nm w' (zO HNL.out dcx))
      rw[hsb]at HCS HNM0
      have HCS:Hid (∀j u,(Value.string sb ::us)[j]? =some u ->World.cell? w ⟨g,o + 9 * i + j,none⟩=some u) :=HCS
      have HNM0:Hid (∀w',Calls prog 32 #[.string sb] w' (RVal w' (.bool (qT y.nm)))) :=HNM0
      clear hg hi hl8 hcs hy2 hy S S3 hsb hsb2
      go_upto_region 4 with fail
      refine rgs 2 [some 11,some 12] [IsV (.pointer (some ⟨g,o + 9 * i,none⟩)),IsV (.agg (.string sb ::us).toArray)] [] ?_ ?_
      · refine Rc (ixq (ix_Cl g o cp n i HG.out.2) (qC 7) (qC (x:=.int .i64 (i:Int)) 9)) ?_
        refine Rc (lv (fP:=IsV (.agg (Value.string sb ::us).toArray)) (.agg (Value.string sb ::us).toArray) (λw' e =>ldM zc zc (by rw[List.length_cons,HC.out]) (λj v hj =>(E3.trans e).cell (HCS.out j v hj))) (qA 0 11) (λ_ _ =>rfl)) ?_
        exact rn0
      intro u4 X4 e4 hΦ _
      simp only[lxE,Nat.reduceAdd]
      rw[show u4 1 =.agg (.string sb ::us).toArray from hΦ 1 dcx]
      clear hΦ
      replace E3:=E3.trans e4
      refine stL (λK hK =>?_)
      refine jJ (vs:=zCl) al_Cl (λBn e3 =>hK _ _ ?_)
      obtain⟨g7,hg7⟩:∃g,X4.heap.size =g:=⟨_,rfl⟩
      rw[hg7]at Bn ⊢
      generalize X4.alloc (.cells zCl.toArray 34)=Y1 at Bn e3 ⊢
      clear hK K
      go_simp
      refine stL (λK hK =>?_)
      refine zE (us:=.string sb ::us) Bn st_Cl rfl (by rw[List.length_cons,HC.out]) nwZCl (λX5 B7 O =>hK _ _ ?_) (ho1:=by rw[List.all_cons,HY.out.nw.2];rfl)
      have e5:=e4.trans (O.ext e3 (Nat.le_of_eq hg7))
      have E5:=E3.trans (O.ext e3 (Nat.le_of_eq hg7))
      have HO:=hid (xN S2 e5)
      clear hK K O Bn e3 e4 e5 E3 hg7 S2
      refine zI ?_
      go_upto_region 5 with fail
      obtain⟨p1,hp1⟩:∃q,qT y.nm =q:=⟨_,rfl⟩
      obtain⟨p2,hp2⟩:∃q,(nms (l.take i)).reverse.contains y.nm =q:=⟨_,rfl⟩
      obtain⟨z,hz⟩:∃z,szN 20 [] y.e =z:=⟨_,rfl⟩
      obtain⟨zb,hzb⟩:∃q,decide (z =0)=q:=⟨_,rfl⟩
      have hp2':(nms (l.take i)).contains y.nm =p2:=by rw[<-hp2];simp
      rw[hp1]at HNM0
      have HNM:Hid (∀w',Calls prog 32 #[.string sb] w' (RVal w' (.bool p1))) :=HNM0
      have HP2:=hid hp2
      have HSZ:=hid (λw' (e:Ext w w') =>show Calls prog 33 #[.slice none 0 0,.agg us.toArray,.int .i64 1] w' (RVal w' (.int .i64 (z:Int)))from by rw[<-hz];exact size_f 20 (IsSc.nil 0 w') dcx (HY.out.ext e))
      have HZB:=hid (show((z:Int) ==0)=zb by rw[<-hzb];by_cases h:z =0 <;> simp[h] <;> omega)
      replace HRT:=hid (show rtL [] l =(p1 && !p2 && !zb && rtL (nms (l.take (i + 1))) (l.drop (i + 1)))by rw[HRT.out,hp1,hp2',hz,<-hzb];simp)
      have HZP:=hid (show zb =decide (z =0)from hzb.symm)
      clear HNM0 hp1 hp2 hp2' hz hzb
      cases p1 with
      | false =>
        refine rgs 16 (dR 13 16) [IsV (.pointer (some ⟨g7,0,none⟩)),IsV (.string sb),IsV (.bool false),IsV (.bool true),IsV (.bool true),IsV undef,IsV undef,IsV undef,IsV undef,IsV (.bool true),IsV (.bool true),IsV undef,IsV undef,IsV undef,IsV undef,IsV (.bool true)] [] ?_ ?_
        · refine Rc xq ?_
          refine Rc (lvC 0 B7 qP (qA 0 13)) ?_
          refine Rc (cl1 (fQ:=IsV (.bool false)) (en func32) (qA (fP:=IsV (.string sb)) 1 14) (λx0 w' hE d0 =>by{obtain rfl:x0 =.string sb:=d0;exact zG (HNM.out w') (λe w2 h =>⟨_,h.1,h.2,rfl⟩)})) ?_
          refine Rc (un (r:=.bool true) (qA (fP:=IsV (.bool false)) 2 15) (hr:=λw =>by go_simp)) ?_
          refine Rc (mv (qA (fP:=IsV (.bool true)) 3 16)) ?_
          refine RcN 4 17 true ?_
          refine RcN 4 17 true ?_
          refine RcN 4 17 true ?_
          refine RcN 4 17 true ?_
          refine Rc (pk (b:=true) (qA 4 17) qD) ?_
          exact tNca_2
        exact tNca_1
      | true =>
        cases p2 with
        | true =>
          refine rgs 16 (dR 13 16) [IsV (.pointer (some ⟨g7,0,none⟩)),IsV (.string sb),IsV (.bool true),IsV (.bool false),IsV (.bool false),IsMs w.heap.size i (nms (l.take i)).reverse,IsV (.pointer (some ⟨g7,0,none⟩)),IsV (.string sb),IsV (.bool true),IsV (.bool true),IsV (.bool true),IsV undef,IsV undef,IsV undef,IsV undef,IsV (.bool true)] [] ?_ ?_
          · refine Rc xq ?_
            refine Rc (lvC 0 B7 qP (qA 0 13)) ?_
            refine Rc js ?_
            refine Rc xy ?_
            refine Rc (mv (qA (fP:=IsV (.bool false)) 3 16)) ?_
            refine RcG 4 17 false yx ?_
            refine RcG 4 17 false xq ?_
            refine RcG 4 17 false (lvC 0 B7 qP (qA 6 19)) ?_
            refine RcG 4 17 false (lkM (fP:=IsMs w.heap.size i (nms (l.take i)).reverse) (fQ:=IsV (.bool true)) (u:=.string sb) (qA 5 18) (qA 7 20) (λm w' ⟨h1,h2⟩ =>⟨.bool true,by rw[h1,seen_at h2 HSB.out.1 HSB.out.2,HP2.out],rfl⟩)) ?_
            refine Rc (pk (b:=false) (qA 4 17) (qA (fP:=IsV (.bool true)) 8 21)) ?_
            exact tNca_2
          exact tNca_1
        | false =>
          refine rgs 16 (dR 13 16) [IsV (.pointer (some ⟨g7,0,none⟩)),IsV (.string sb),IsV (.bool true),IsV (.bool false),IsV (.bool false),IsMs w.heap.size i (nms (l.take i)).reverse,IsV (.pointer (some ⟨g7,0,none⟩)),IsV (.string sb),IsV (.bool false),IsV (.bool false),IsV (.bool false),IsV (.pointer (some ⟨g7,1,none⟩)),IsV (.agg us.toArray),iV (z:Int),IsV (.bool zb),IsV (.bool zb)] [] ?_ ?_
          · refine Rc xq ?_
            refine Rc (lvC 0 B7 qP (qA 0 13)) ?_
            refine Rc js ?_
            refine Rc xy ?_
            refine Rc (mv (qA (fP:=IsV (.bool false)) 3 16)) ?_
            refine RcG 4 17 false yx ?_
            refine RcG 4 17 false xq ?_
            refine RcG 4 17 false (lvC 0 B7 qP (qA 6 19)) ?_
            refine RcG 4 17 false (lkM (fP:=IsMs w.heap.size i (nms (l.take i)).reverse) (fQ:=IsV (.bool false)) (u:=.string sb) (qA 5 18) (qA 7 20) (λm w' ⟨h1,h2⟩ =>⟨.bool false,by rw[h1,seen_at h2 HSB.out.1 HSB.out.2,HP2.out],rfl⟩)) ?_
            refine Rc (pk (b:=false) (qA 4 17) (qA (fP:=IsV (.bool false)) 8 21)) ?_
            refine Rc (mv (qA (fP:=IsV (.bool false)) 9 22)) ?_
            refine RcG 10 23 false (fa (fa_Cl1 g7 0) (qC 5)) ?_
            refine RcG 10 23 false (lv (fP:=IsV (.agg us.toArray)) _ (λw' e =>ldM zc zc HC.out (λj v hj =>(B7.ext e).c (1 + j) v (by rw[Nat.add_comm];simpa using hj))) (qA 11 24) (λ_ _ =>rfl)) ?_
            refine RcG 10 23 false (cl3 (fQ:=iV (z:Int)) (en func33) qD (qA (fP:=IsV (.agg us.toArray)) 12 25) qD (λx0 y0 z0 w' hE d0 d1 d2 =>by{obtain rfl:x0 =.slice none 0 0:=d0;obtain rfl:y0 =.agg us.toArray:=d1;obtain rfl:z0 =.int .i64 1:=d2;have hq:=HSZ.out w' (E5.trans hE);exact zG hq (λe w2 h =>⟨_,h.1,h.2,rfl⟩)})) ?_
            refine RcG 10 23 false (bn (r:=.bool zb) (qA (fP:=iV (z:Int)) 13 26) qD (hr:=λw =>by rw[<-HZB.out];go_simp)) ?_
            refine Rc (pk (b:=false) (qA 10 23) (qA (fP:=IsV (.bool zb)) 14 27)) ?_
            exact rn0
          intro u6 X6 e6 hΦ _
          have q6:u6 15 =.bool zb:=hΦ 15 dcx
          simp only[lxE,Nat.reduceAdd]
          rw[q6]
          have E6:=hid (E5.trans e6)
          clear hΦ q6
          refine zI ?_
          cases zb with
          | true =>
            have HR:=hid (show rtE l =false by rw[rtE,HRT.out];simp[])
            clear B7 e6 E5
            go_wp2_with fail
            go_ret
            exact⟨by rw[HR.out];rfl,E6.out⟩
          | false =>
            have HR:=hid (show rtL [] l =rtL (nms (l.take (i + 1))) (l.drop (i + 1))by rw[HRT.out];simp)
            have B8:=B7.ext e6
            have c0:=B8.c 0 _ rfl
            have own:=xN HO.out e6
            obtain⟨W5,hrun,own2,tur⟩ :=own.store lawS ty_msb (by have:=HG.out.2;have:=HN.out.2.1;have:=HN.out.1;show i < 2 ^ 63 - 1;omega) (key:=.string sb) (val:=.bool true) (kl:=.string sb.data.toList) (d:=.lit (.bool true)) (ps:= []) (WideMaps.keyOf_string_mk jK HSB.out.2) (plainElem_bool ty_bool true)
            have E7:=hid (qO E6.out tur (zN _))
            have hx9:=HIW.out
            have HO7:=hid (show W5.ownsMap (H:=Unit) prog 9 (plainElem prog 4) w.heap.size (i + 1) (putS (nms (l.take (i + 1))).reverse)by
              have h1:(nms (l.take (i + 1))).reverse =sb.data.toList ::(nms (l.take i)).reverse:=by
                rw[nms,nms,List.take_add_one,HI.out,HSB.out.1];simp
              rw[h1];exact own2)
            clear own own2 tur e6 E5 B7 B8
            go_wp2_with fail
            go_roundg (gk - 1)
            case measure =>have:=HG.out;omega
            case rel =>exact⟨i + 1,rfl,by have:=HG.out;omega,hid ⟨E7.out,HO7.out,HR.out⟩⟩
    · have hil:¬((i:Int) < (n:Int)) :=by omega
      have hE:=hid S.out.1
      have HR:=hid (show rtE l =decide ((n:Int) <=40)by
        rw[rtE,S.out.2.2,List.drop_of_length_le (by have:=HN.out;omega),rtL,HN.out.1,Bool.true_and]
        exact decide_eq_decide.2 ze)
      clear S
      by_cases h40:(n:Int) <=40
      · have HR2:=hid (show rtE l =true by rw[HR.out];exact decide_eq_true h40)
        go_wp2_with fail
        go_ret
        exact⟨by rw[HR2.out];rfl,hE.out⟩
      · have HR2:=hid (show rtE l =false by rw[HR.out];exact decide_eq_false h40)
        go_wp2_with fail
        go_ret
        exact⟨by rw[HR2.out];rfl,hE.out⟩
open Go Go.RowKit
theorem encS_cat(s t:List UInt8):(⟨s.toArray⟩:ByteArray) ++ ⟨t.toArray⟩=⟨(s ++t).toArray⟩ :=by
  apply ByteArray.ext
  simp
theorem cat_run{P:Program}(x y:Operand)(s t:List UInt8)(T:Nat)(h:s.length + t.length <=4611686018427387904)(w:World):Sem.run P (do eqGuard .add T x y (qB s) (qB t);binOp .add T (qB s) (qB t)) w =.ok (qB (s ++t)) w:=by
  have h1:¬(9223372036854775807:Int) < (((⟨s.toArray⟩:ByteArray).size + (⟨t.toArray⟩:ByteArray).size:Nat):Int) :=by
    have e1:(⟨s.toArray⟩:ByteArray).size =s.length:=by simp[ByteArray.size]
    have e2:(⟨t.toArray⟩:ByteArray).size =t.length:=by simp[ByteArray.size]
    omega
  unfold qB
  rw[<-encS_cat]
  go_simp
  omega
section
variable {P:Program} {ops:Array Oper} {Q:Exit ->Act ->World ->Prop} {ds:List (Option Tmp)} {a0:Act} {w0:World} {L:List (Value ->World ->Prop)} {boxes:List Nat} {i k:Nat} {o:Oper} {os:List Oper}
theorem ct{x y:Operand}{T T2:Nat}{s t:List UInt8}(hx:Od ops ds a0 w0 L i x (IsV (qB s)))(hy:Od ops ds a0 w0 L i y (IsV (qB t)))(h:s.length + t.length <=4611686018427387904)(ho:o.op =.binOp .add T x y T2:=by rfl)(hi:L.getD i (λ_ _ =>True)=IsV (qB (s ++t)) :=by kernel_rfl)(hb:boxes.contains i =false:=by kernel_rfl):Ok P ops Q ds a0 w0 L boxes i o:=
  bn hx hy ho (cat_run x y s t T h) hi hb
theorem cIt{c:Call}{x:Operand}{z:Int}(hx:Od ops ds a0 w0 L i x (iV z))(h0: -9223372036854775808 <=z)(h1:z <=9223372036854775807)(ht:∀w,Ext w0 w ->Tab w)
    (ho:o.op =.call c:=by rfl) (hc:c.callee =.value (.func 50) :=by rfl) (ha:c.args = #[x] :=by rfl) (hi:L.getD i (λ_ _ =>True)=IsV (qB (Lib.itoa z)) :=by kernel_rfl) (hb:boxes.contains i =false:=by kernel_rfl):Ok prog ops Q ds a0 w0 L boxes i o:=
  cl1 (fQ:=IsV (qB (Lib.itoa z))) (en func50) hx (λx0 w' hE d0 =>by
    obtain rfl:x0 =.int .i64 z:=d0
    refine zG (Tryz.strconv_Itoa z h0 h1 w' (ht w' hE)) ?_
    rintro e w2 ⟨rfl,kk,os,hw2⟩
    exact⟨_,rfl,hw2 ▸ ext_grow w' kk os,rfl⟩) ho hc ha hi hb
end
/-! ### Right nodes,case by case -/
theorem ok_cases{b:Sc}{x:Nd}(h:okN b x =true):
    (x.op =1/\x.v.natAbs < 2 ^ 256/\x.ps = [])\/ ((x.op =2\/x.op =11)/\qT x.nm =true/\x.ps = [])\/ (x.op =3/\patB b x.nm =true/\0 <=x.n/\x.n <=63/\x.ps = [])\/
    ((x.op =9\/x.op =10)/\qT x.nm =true/\ -1000000 <=x.lo/\x.lo <=x.hi/\x.hi <=1000000/\∃a,x.ps = [a])\/ ((x.op =4\/x.op =5\/x.op =6\/x.op =7\/x.op =8\/x.op =12\/x.op =13)/\∃a c,x.ps = [a,c]) :=by
  unfold okN okF at h
  by_cases h1:x.op =1
  · rw[if_pos h1]at h
    simp only[Bool.and_eq_true,zS,List.length_eq_zero_iff]at h
    exact .inl ⟨h1,h.1,h.2.2⟩
  rw[if_neg h1]at h
  by_cases h2:x.op =2
  · rw[if_pos h2]at h
    simp only[Bool.and_eq_true,zS,List.length_eq_zero_iff]at h
    exact .inr (.inl ⟨.inl h2,h.1.1,h.2.2⟩)
  rw[if_neg h2]at h
  by_cases h3:x.op =11
  · rw[if_pos h3]at h
    simp only[Bool.and_eq_true,zS,List.length_eq_zero_iff]at h
    exact .inr (.inl ⟨.inr h3,h.1.1,h.2.2⟩)
  rw[if_neg h3]at h
  by_cases h4:x.op =3
  · rw[if_pos h4]at h
    simp only[Bool.and_eq_true,zS,List.length_eq_zero_iff]at h
    exact .inr (.inr (.inl ⟨h4,h.1.1.1,h.1.1.2,h.1.2,h.2.2⟩))
  rw[if_neg h4]at h
  by_cases h5:qZ x.op =true
  · rw[if_pos h5]at h
    simp only[qZ,Bool.or_eq_true,zS]at h5
    simp only[Bool.and_eq_true,zS]at h
    exact .inr (.inr (.inr (.inl ⟨h5,h.1.1.1.1.1,h.1.1.1.1.2,h.1.1.1.2,h.1.1.2,List.length_eq_one_iff.1 h.2.2⟩)))
  rw[if_neg h5]at h
  by_cases h6:xM x.op =true
  · rw[if_pos h6]at h
    simp only[xM,Bool.or_eq_true,zS]at h6
    simp only[Bool.and_eq_true,zS]at h
    refine .inr (.inr (.inr (.inr ⟨by omega,?_⟩)))
    have hl:=h.2
    generalize x.ps =l at hl
    match l,hl with
    | [a,c],_ =>exact⟨a,c,rfl⟩
  ·rw[if_neg h6]at h;exact absurd h dcx
theorem pat_len{b:Sc}{s:List UInt8}(h:patB b s =true):s.length <=60:=by
  simp only[patB,Bool.and_eq_true,zS]at h
  exact h.1.2
theorem jB{z:Int}(k:Nat)(h:z.natAbs < 10 ^ k)(hk:0 < k):(Lib.itoa z).length <=k + 1:=by
  by_cases hn:z < 0
  · rw[Lib.itoa,if_pos hn,List.length_cons]
    exact Nat.succ_le_succ (dec_len10 _ k h hk)
  · have:Lib.itoa z =Lib.decDigits z.natAbs:=by rw[Lib.itoa,if_neg hn];congr 1;omega
    rw[this]
    exact Nat.le_succ_of_le (dec_len10 _ k h hk)
theorem sz_parts{k:Nat}{b:Sc}{x:Nd}(h:szN (k + 1) b x≠0):okN b x =true/\∀a∈x.ps,szN k (inS b x) a≠0:=by
  rw[szN]at h
  by_cases hok:okN b x =true
  · rw[if_pos hok]at h
    exact⟨hok,szL_all h⟩
  ·rw[if_neg hok]at h;exact absurd rfl h
theorem sh_1{k:Nat}{x:Nd}(h:x.op =1):shN (k + 1) x =Lib.itoa x.v:=by show shF _ _ _ _ _ _ _ _ =_;unfold shF;rw[if_pos h]
theorem sh_2{k:Nat}{x:Nd}(h:x.op =2\/x.op =11):shN (k + 1) x =x.nm:=by show shF _ _ _ _ _ _ _ _ =_;unfold shF;rw[if_neg (by omega),if_pos h]
theorem sh_3{k:Nat}{x:Nd}(h:x.op =3):shN (k + 1) x =wVal ++ [40,34] ++x.nm ++ [34,44,32] ++Lib.itoa x.n ++ [41] :=by show shF _ _ _ _ _ _ _ _ =_;unfold shF;rw[if_neg (by omega),if_neg (by omega),if_pos h]
theorem sh_b{k:Nat}{x:Nd}{a:Nd}(h:x.op =9\/x.op =10)(hp:x.ps = [a]):shN (k + 1) x =opW x.op ++ [40] ++x.nm ++ [44,32] ++Lib.itoa x.lo ++ [44,32] ++Lib.itoa x.hi ++ [44,32] ++shN k a ++ [41] :=by
  show shF _ _ _ _ _ _ _ _ =_
  unfold shF
  rw[if_neg (by omega),if_neg (by omega),if_neg (by omega),hp]
theorem sh_i{k:Nat}{x:Nd}{a c:Nd}(h:x.op =4\/x.op =5\/x.op =6)(hp:x.ps = [a,c]):shN (k + 1) x = [40] ++shN k a ++ [32] ++opW x.op ++ [32] ++shN k c ++ [41] :=by
  show shF _ _ _ _ _ _ _ _ =_
  unfold shF
  rw[if_neg (by omega),if_neg (by omega),if_neg (by omega),hp]
  simp only[if_pos h]
theorem sh_j{k:Nat}{x:Nd}{a c:Nd}(h:x.op =7\/x.op =8\/x.op =12\/x.op =13)(hp:x.ps = [a,c]):shN (k + 1) x =opW x.op ++ [40] ++shN k a ++ [44,32] ++shN k c ++ [41] :=by
  show shF _ _ _ _ _ _ _ _ =_
  unfold shF
  rw[if_neg (by omega),if_neg (by omega),if_neg (by omega),hp]
  simp only[if_neg (show ¬(x.op =4\/x.op =5\/x.op =6)by omega)]
theorem tNca_3{P:Prop}(h:P:=by
  simp only[zQ,List.length_cons,List.length_nil]
  omega
  ):P:=h
theorem sh_len:∀(k:Nat) (b:Sc) (x:Nd),szN k b x≠0 ->(shN k x).length <=100 * 3 ^ k:=by
  intro k
  induction k with
  |zero =>intro b x h;exact absurd rfl h
  | succ k ih =>
    intro b x h
    obtain⟨hok,hall⟩ :=sz_parts h
    have h3:100 * 3 ^ (k + 1)=3 * (100 * 3 ^ k) :=by rw[Nat.pow_succ];omega
    have h4:1 <=3 ^ k:=Nat.pow_pos dcx
    have hw:=opW_len x.op
    rcases ok_cases hok with⟨h1,hv,-⟩| ⟨h1,hn,-⟩| ⟨h1,hn,h2,h5,-⟩| ⟨h1,hn,h2,h5,h6,a,hp⟩| ⟨h1,a,c,hp⟩
    · rw[sh_1 h1]
      have:=jB (z:=x.v) 78 (Nat.lt_of_lt_of_le hv dcx) dcx
      omega
    · rw[sh_2 h1]
      have:=name_len hn
      omega
    · rw[sh_3 h1]
      have q1:=pat_len hn
      have q2:=jB (z:=x.n) 2 (Nat.lt_of_le_of_lt (show x.n.natAbs <=63 by omega) dcx) dcx
      simp only[zQ,List.length_cons,List.length_nil,show wVal.length =5 from rfl]
      omega
    · rw[sh_b h1 hp]
      have q1:=name_len hn
      have q2:=jB (z:=x.lo) 7 (Nat.lt_of_le_of_lt (show x.lo.natAbs <=1000000 by omega) dcx) dcx
      have q3:=jB (z:=x.hi) 7 (Nat.lt_of_le_of_lt (show x.hi.natAbs <=1000000 by omega) dcx) dcx
      have q4:=ih _ a (hall a (by rw[hp];simp))
      exact tNca_3
    · have q4:=ih _ a (hall a (by rw[hp];simp))
      have q5:=ih _ c (hall c (by rw[hp];simp))
      by_cases h6:x.op =4\/x.op =5\/x.op =6
      · rw[sh_i h6 hp]
        exact tNca_3
      · rw[sh_j (by omega) hp]
        exact tNca_3
end Go.Proofs.YtenhciieboegbaaGreatDoor
