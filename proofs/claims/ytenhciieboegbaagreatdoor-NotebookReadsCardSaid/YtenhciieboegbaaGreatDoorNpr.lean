/-
  strings.Builder: copyCheck and WriteString as the dump has them (the panic's branch is a refusal).
  Package notebook: Print.
-/
import Derived.Test.YtenhciieboegbaaGreatDoorNsh
import Derived.Shelf.Strings.Builder1
namespace Go.Proofs.YtenhciieboegbaaGreatDoor
open Go Go.RowKit Go.Shelf
open Go.Proofs.Tryz
theorem bxBu:Builder.X72 prog ⟨λn=>n,fun|72=>118|n=>n,λn=>n⟩ where
  sizeBuilder:=zc
  liesBuilder:=zc
theorem tyBp:prog.underlying 116=some (.pointer 118):=by kernel_rfl
theorem tyUp:prog.underlying 170=some .unsafePointer:=by kernel_rfl
section
set_option maxRecDepth 100000
set_option maxHeartbeats 4000000
theorem copyCheck_used(b:Nat)(w:World)(h0:w.cell? ⟨b,0,none⟩=some (.pointer (some ⟨b,0,none⟩))):
    Calls prog 109 #[.pointer (some ⟨b,0,none⟩)] w λe w'=>e=.returned (.tuple #[])/\w'=w:=by
  obtain⟨j,hj,_⟩:=Option.map_eq_some_iff.1 bxBu.sizeBuilder;go_enter func109,ntmps109
  go_wp2
  rw[Lib.run_neq_ptr_same w _ tyBp hj]
  go_wp2
  go_end0
  exact⟨rfl,rfl⟩
theorem copyCheck_fresh(b:Nat)(w:World)(h0:w.cell? ⟨b,0,none⟩=some (.pointer none))(hsh:w.shape? b=some (118,2))(hfz:w.frozen? ⟨b,0,none⟩=false):
    Calls prog 109 #[.pointer (some ⟨b,0,none⟩)] w λe w'=>e=.returned (.tuple #[])/\w'=w.setCell ⟨b,0,none⟩ (.pointer (some ⟨b,0,none⟩)):=by
  obtain⟨j,hj,hjs⟩:=Option.map_eq_some_iff.1 bxBu.sizeBuilder;go_enter func109,ntmps109
  go_wp2
  rw[Lib.run_to_unsafe w ⟨b,0,none⟩ tyBp tyUp hj (by rw[hjs];decide) hsh (Nat.zero_lt_succ 1)];simp only[Result.andThen];rw[Oper.upon_value]
  go_wp2
  rw[run_callFunc_extern func129 (by kernel_rfl) (by kernel_rfl) (by kernel_rfl) (e:=Extern.AbiNoEscape.same) (by kernel_rfl)];rw[Lib.run_noEscape];simp only[Result.andThen];rw[Oper.upon_value]
  go_wp2
  rw[Lib.run_from_unsafe w ⟨b,0,none⟩ tyUp tyBp hj hsh bxBu.liesBuilder];simp only[Result.andThen];rw[Oper.upon_value]
  go_wp2
  go_end0
  exact⟨rfl,rfl⟩
end
theorem copyCheck_f(B b:Nat)(bs:List Value)(w:World)(h:Lib.IsBuilder 118 5 B b bs w):
    Calls prog 109 #[.pointer (some ⟨b,0,none⟩)] w λe w'=>e=.returned (.tuple #[])/\(Lib.BuilderAt 118 5 B b (.pointer (some ⟨b,0,none⟩)) bs w'/\Below B w w'):=by
  rcases h with h|h
  · refine(copyCheck_fresh b w h.cell0 h.shape h.frozen0).mono ?_
    rintro e w' ⟨rfl,rfl⟩;exact⟨rfl,h.used _,(Below.refl B w).setCell (p:=⟨b,0,none⟩) h.1 _⟩
  · refine(copyCheck_used b w h.cell0).mono ?_
    rintro e w' ⟨rfl,rfl⟩;exact⟨rfl,h,Below.refl B _⟩
section
set_option maxRecDepth 100000
set_option maxHeartbeats 4000000
theorem writeS_f(B b:Nat)(bs:List Value)(s:ByteArray)(w:World)(h:Lib.IsBuilder 118 5 B b bs w)(hlen:bs.length+s.size<=140737488355328)(hBw:B<=w.heap.size):
    Calls prog 69 #[.pointer (some ⟨b,0,none⟩),.string s] w λe w'=>e=.returned (.tuple #[.int .i64 s.size,.nilIface])/\(Lib.BuilderAt 118 5 B b (.pointer (some ⟨b,0,none⟩)) (bs++Lib.strCells s) w'/\Below B w w'):=by
  have HC:=hid (copyCheck_f B b bs w h);obtain⟨i0,hi,hz0,hz1,hz2⟩:=info_parts (P:=prog) (e:=5) (z:=.int .u8 0) (size:=1) (bytes:=1) zc;go_enter func69,ntmps69;go_wp2_with (go_at_call 109;refine zG HC.out ?_)
  rintro e w1 ⟨rfl,h1,hb1⟩;obtain⟨hB,v,hbk,hown,hne⟩:=h1;have c0:w1.cell? ⟨b,0,none⟩=some (.pointer (some ⟨b,0,none⟩)):=by rw[Lib.cell_of_heap hbk];rfl
  have c1:w1.cell? ⟨b,1,none⟩=some v:=by rw[Lib.cell_of_heap hbk];rfl
  go_wp2_with (at_builtin;refine Lib.wpList_append_own_string _ rfl _ _ 52 9 rfl B 5 i0 zc zc hi hz0 hz1 hz2 _ _ _ rfl hown s rfl ?c3 ?c4 ?c5 ?_)
  case c3=>unfold maxLen;omega
  case c4=>omega
  case c5=>have:=hb1.size;omega
  intro v' w2 hown' hgrow _
  have hlt:b<w1.heap.size:=by
    rcases zR b w1.heap.size with h'|h'
    ·exact h'
    ·simp[Array.getElem?_eq_none h']at hbk
  have hb2:w2.heap[b]? =some (.cells #[.pointer (some ⟨b,0,none⟩),v] 118 (0,0)):=by
    rw[hgrow.block b hlt (λe=>hne e.symm)];exact hbk
  have d0:w2.cell? ⟨b,0,none⟩=some (.pointer (some ⟨b,0,none⟩)):=by rw[Lib.cell_of_heap hb2];rfl
  have d1:w2.cell? ⟨b,1,none⟩=some v:=by rw[Lib.cell_of_heap hb2];rfl
  have f1:w2.frozen? ⟨b,1,none⟩=false:=Lib.frozen_of_heap hb2 1
  obtain⟨ao,n',cap,rfl⟩:∃ao n' cap,v'=.slice ao n' cap:=by
    rcases hown'.2 with⟨hv,_⟩| ⟨g,cap,cur,hv,_⟩
    ·exact⟨_,_,_,hv⟩
    ·exact⟨_,_,_,hv⟩
  go_wp2
  go_ret2
  refine⟨rfl,?_,?_⟩
  ·exact Lib.BuilderAt.put (T:=118) (e:=5) hB hb2 (bs':=bs++Lib.strCells s) (by simpa [Lib.strCells_length]using hown') dcx
  ·exact(hb1.grown hgrow (by have:=hb1.size;omega) (λk hk=>(hown.lt k hk).1)).setCell (p:=⟨b,1,none⟩) hB _
end
open Go Go.RowKit
theorem isBld_ext{T e:TypeId}{B b:Nat}{bs:List Value}{w w':World}(h:Lib.IsBuilder T e B b bs w)(E:Ext w w'):Lib.IsBuilder T e B b bs w':=by
  have key:∀p,Lib.BuilderAt T e B b p bs w->Lib.BuilderAt T e B b p bs w':=λp h=>by
    have hlt:=h.lt;obtain⟨h1,v,h2,h3,h4⟩:=h;refine⟨h1,v,(E.block b hlt).trans h2,⟨h3.1,?_⟩,h4⟩;rcases h3.2 with hn| ⟨g,cap,cur,e1,e2,e3,e4⟩
    ·exact .inl hn
    · refine .inr ⟨g,cap,cur,e1,e2,(E.block g ?_).trans e3,e4⟩
      rcases zR g w.heap.size with h'|h'
      ·exact h'
      ·simp[Array.getElem?_eq_none h']at e3
  exact h.imp (key _) (key _)
theorem strCells_of(l:List UInt8):Lib.strCells ⟨l.toArray⟩=Lib.byteCells l:=by simp[Lib.strCells,Lib.byteCells]
theorem byteCells_app(a b:List UInt8):Lib.byteCells (a++b)=Lib.byteCells a++Lib.byteCells b:=by simp[Lib.byteCells]
theorem rt_all:∀ {l:List Cl} {seen:Sc},rtL seen l=true->∀c∈l,qT c.nm=true/\szN 20 [] c.e≠0
  | [],_,_,c,hc=>by cases hc
  | d ::t,seen,h,c,hc=>by
    rw[rtL]at h;simp only[Bool.and_eq_true,zS]at h;rcases List.mem_cons.1 hc with rfl|hc
    ·exact⟨h.1.1.1,h.1.2⟩
    ·exact rt_all h.2 c hc
theorem shC_len{c:Cl}(h:qT c.nm=true/\szN 20 [] c.e≠0):(shC c).length<=400000000000:=by
  have h1:=name_len h.1;have h2:=sh_len 20 [] c.e h.2;have h3:100*3^20=348678440100:=by decide
  rw[shC];simp only[zQ,List.length_cons,List.length_nil];omega
theorem shL_cons'(a:Cl)(t:List Cl):shL (a ::t)=shC a++shL t:=by simp[shL]
theorem shL_lenB:∀ {l:List Cl},(∀c∈l,qT c.nm=true/\szN 20 [] c.e≠0)->(shL l).length<=l.length*400000000000
  | [],_=>by simp[shL]
  | c ::t,h=>by
    have h1:=shC_len (h c zo);have h2:=shL_lenB (l:=t) (λd hd=>h d (List.mem_cons_of_mem _ hd));rw[shL_cons',zQ,List.length_cons,Nat.add_mul,Nat.one_mul];omega
theorem shL_snoc{l:List Cl}{i:Nat}{x:Cl}(hi:l[i]? =some x):shL (l.take (i+1))=shL (l.take i)++shC x:=by
  rw[List.take_add_one,hi,Option.toList_some,shL_app];simp[shL]
noncomputable def prS (l:List Cl):List UInt8:=if prE l=0 then shL l else []
def PrP(l:List Cl)(w:World)(e:Ending)(w':World):Prop:=e=.returned (.tuple #[qB (prS l),.int .i64 (prE l)])/\Ext w w'
section
set_option maxRecDepth 100000
set_option maxHeartbeats 8000000
theorem print_f{l:List Cl}{v:Value}{w:World}(hl:IsCs 0 l v w)(hn:l.length<=1000000)(hm:NmOk l)(ht:Tab w):Calls prog 37 #[v] w (PrP l w):=by
  have HRI:=hid (right_f hl hn hm);obtain⟨r,hr⟩:∃r,rtE l=r:=⟨_,rfl⟩;rw[hr]at HRI;have HRI:Hid (Calls prog 12 #[v] w (RVal w (.bool r))):=HRI;have HRT:=hid hr;cases r with
  | false=>
    have HR:=hid (show prS l= []/\prE l=1 by rw[prS,prE,hr];exact⟨rfl,rfl⟩);clear hl hn hm ht hr;go_enter func37,ntmps37;go_wp2_with (go_at_call 12;refine zG HRI.out ?_;rintro e w1 ⟨rfl,e1⟩)
    go_ret2
    exact⟨by rw[HR.out.1,HR.out.2];rfl,e1⟩
  | true=>
    obtain⟨ao,cp,rfl,hc1,hc2,-⟩:=id hl;obtain⟨n,hnn⟩:∃n,l.length=n:=⟨_,rfl⟩;have HL:=hid hl
    have h40:l.length<=40:=by
      rw[rtE]at hr;simp only[Bool.and_eq_true,zS]at hr;exact hr.2
    have hall:∀c∈l,qT c.nm=true/\szN 20 [] c.e≠0:=by
      rw[rtE]at hr;simp only[Bool.and_eq_true,zS]at hr;exact rt_all hr.1
    have HA:=hid hall;have HN:=hid (zL hnn h40);have HT:=hid ht;rw[hnn]at HL HRI ⊢;have HRI:Hid (Calls prog 12 #[.slice ao n cp] w (RVal w (.bool true))):=HRI;have HL:Hid (IsCs 0 l (.slice ao n cp) w):=HL;clear hl hn hm ht hr hc1 hc2 hnn h40 hall;go_enter func37,ntmps37;go_upto_region 3 with(go_at_call 12;refine zG HRI.out ?_;rintro e w1 ⟨rfl,e1⟩);have F0:=hid (show Lib.IsBuilder 118 5 w1.heap.size w1.heap.size [] (w1.alloc (.cells #[.pointer none,.slice none 0 0] 118))from Lib.fresh_isBuilder _ _ w1);have E0:=hid (show Ext w1 (w1.alloc (.cells #[.pointer none,.slice none 0 0] 118))from(Ext.refl w1).alloc _);have HE1:=hid e1;obtain⟨W,hW⟩:∃W,W=w1.alloc (.cells #[.pointer none,.slice none 0 0] 118):=⟨_,rfl⟩;rw[<-hW]at F0 E0;obtain⟨B,hB⟩:∃B,w1.heap.size=B:=⟨_,rfl⟩;have HBs:=hid hB;rw[hB]at F0;have F0:Hid (Lib.IsBuilder 118 5 B B [] W):=F0;have E0:Hid (Ext w1 W):=E0;go_upto_region 4 with fail
    try rw[<-hW]
    try rw[hB]
    clear hW hB e1;go_wp2_with fail
    go_loopg [6,12] n (λgk v6 v12 wr=>∃i:Nat,v12=.int .i64 (i:Int)/\i+gk=n/\Hid (Ext w1 wr/\Lib.IsBuilder 118 5 B B (Lib.byteCells (shL (l.take i))) wr))
    case atStart=>exact⟨0,rfl,by omega,hid ⟨E0.out,F0.out⟩⟩
    case round=>
      obtain⟨i,rfl,hg,S⟩:=hrel;by_cases hi:i<n
      · obtain⟨y,hy⟩:∃y,l[i]? =some y:=⟨_,List.getElem?_eq_getElem (by have:=HN.out.1;omega)⟩
        obtain⟨g,o,cp',us,hv,-,hl8,hcs,hy2⟩:=HL.out.get hy;simp only[Value.slice.injEq]at hv;obtain⟨rfl,-,rfl⟩:=hv;have hil:(i:Int)<(n:Int):=ze
        have HIW:=hid (show IntKind.i64.wrap ((i:Int)+1)=((i+1:Nat):Int)by have:=HN.out;simp only[IntKind.wrap_i64];omega);have HG:=hid (zL hg hi);obtain⟨E3,S2⟩:=S.out;have HC:=hid hl8;have HCS:=hid hcs;have HY:=hid hy2;have HI:=hid hy;have HAy:=hid (HA.out y (List.mem_of_getElem? hy));have HSN:=hid (shL_snoc hy);have HBL:=hid (shL_lenB (l:=l.take i) (λc hc=>HA.out c (List.mem_of_mem_take hc)));clear hg hi hl8 hcs hy2 hy S;go_upto_region 6 with fail;refine rgs 2 [some 14,some 15] [IsP g (o+9*i),IsV (.agg (qB y.nm ::us).toArray)] [] ?_ ?_
        · refine Rc (ixq (ix_Cl g o cp n i HG.out.2) (qC 10) (qC (x:=.int .i64 (i:Int)) 12)) ?_
          refine Rc (lv (fP:=IsV (.agg (qB y.nm ::us).toArray)) (.agg (qB y.nm ::us).toArray) (λw' e=>ldM zc zc (by rw[List.length_cons,HC.out]) (λj v hj=>((HE1.out.trans E3).trans e).cell (HCS.out j v hj))) (qA 0 14) (λ_ _=>rfl)) ?_;exact rn0
        intro u4 X4 e4 hΦ _;simp only[lxE,Nat.reduceAdd];rw[show u4 1=.agg (qB y.nm ::us).toArray from hΦ 1 dcx];clear hΦ;replace E3:=E3.trans e4;refine stL (λK hK=>?_);refine jJ (vs:=zCl) al_Cl (λBn e3=>hK _ _ ?_);obtain⟨g7,hg7⟩:∃g,X4.heap.size=g:=⟨_,rfl⟩;rw[hg7]at Bn ⊢;generalize X4.alloc (.cells zCl.toArray 34)=Y1 at Bn e3 ⊢;clear hK K
        go_simp
        refine stL (λK hK=>?_);refine zE (us:=qB y.nm ::us) Bn st_Cl rfl (by rw[List.length_cons,HC.out]) nwZCl (λX5 B7 O=>hK _ _ ?_) (ho1:=by rw[List.all_cons,HY.out.nw.2];rfl);have e5:=e4.trans (O.ext e3 (Nat.le_of_eq hg7));have E5:=E3.trans (O.ext e3 (Nat.le_of_eq hg7));have HO:=hid (isBld_ext S2 e5);clear hK K O Bn e3 e4 e5 E3 hg7 S2;refine zI ?_;go_upto_region 7 with fail;obtain⟨se,hse⟩:∃q,shN 20 y.e=q:=⟨_,rfl⟩;obtain⟨nm,hnm⟩:∃q,y.nm=q:=⟨_,rfl⟩
        have HLB:=hid (show nm.length<=12/\se.length<=350000000000 by
          have h3:100*3^20=348678440100:=by decide
          have h2:=sh_len 20 [] y.e HAy.out.2;rw[hse]at h2;rw[<-hnm]
          exact⟨name_len HAy.out.1,by omega⟩)
        have HSE:=hid (show shC y=nm++ [32,61,32]++se++ [10]by rw[shC,hse,hnm]);have HSW:=hid (λw' (e:Ext w1 w')=>show_f 20 [] y.e us w' (zN _) HAy.out.2 (HY.out.ext (HE1.out.trans e)) (HT.out.ext (HE1.out.trans e)));rw[hse]at HSW;have HSW:Hid (∀w',Ext w1 w'->Calls prog 70 #[.agg us.toArray] w' (RVal w' (qB se))):=HSW;rw[hnm]at B7 ⊢;clear hse hnm;refine rg 8 (dR 16 8) [IsP g7 0,IsV (qB nm),IsV (qB (nm++ [32,61,32])),IsP g7 1,IsV (.agg us.toArray),IsV (qB se),IsV (qB (nm++ [32,61,32]++se)),IsV (qB (nm++ [32,61,32]++se++ [10]))] [] 1 ?_ ?_
        · refine Rc (fa (fa_Cl0 g7 0) (qC 6)) ?_
          refine Rc (lvC 0 B7 qP (qA 0 16)) ?_;refine Rc (ct (s:=nm) (t:= [32,61,32]) (qA 1 17) qD zf) ?_;refine Rc (fa (fa_Cl1 g7 0) (qC 6)) ?_;refine Rc (lv (fP:=IsV (.agg us.toArray)) (.agg us.toArray) (λw' e=>ldM zc zc HC.out (λj v hj=>(B7.ext e).c (1+j) v (by rw[Nat.add_comm];simpa using hj))) (qA 3 19) (λ_ _=>rfl)) ?_;refine Rc (cl1 (fQ:=IsV (qB se)) (en func70) (qA (fP:=IsV (.agg us.toArray)) 4 20) (λx0 w' hE d0=>by{obtain rfl:x0=.agg us.toArray:=d0;exact zG (HSW.out w' (E5.trans hE)) (λe w2 h=>⟨_,h.1,h.2,rfl⟩)})) ?_;refine Rc (ct (s:=nm++ [32,61,32]) (t:=se) (qA 2 18) (qA 5 21) za) ?_;refine Rc (ct (s:=nm++ [32,61,32]++se) (t:= [10]) (qA 6 22) qD za) ?_;exact rn0
        intro u6 X6 e6 hΦ _;have q6:u6 7=qB (shC y):=(show u6 7=qB (nm++ [32,61,32]++se++ [10])from hΦ 7 dcx).trans (congrArg qB HSE.out.symm);simp only[lxE,Nat.reduceAdd];rw[q6];have E6:=hid (E5.trans e6)
        have HW:=hid (writeS_f B B _ ⟨(shC y).toArray⟩ X6 (isBld_ext HO.out e6) (by
          have h1:=HBL.out;have h2:=shC_len HAy.out;have h3:=HG.out.2;have h4:=HN.out;rw[List.length_take]at h1;have h5:min i l.length*400000000000<=40*400000000000:=Nat.mul_le_mul_right _ ze;rw[Lib.byteCells_length,show(⟨(shC y).toArray⟩:ByteArray).size=(shC y).length by simp[ByteArray.size]]
          omega) (by rw[<-HBs.out];exact E6.out.size))
        clear hΦ q6 e6 E5 HO B7;refine stA 8 rfl (λK hK=>?_);refine qM (us:= [.pointer (some ⟨B,0,none⟩),qB (shC y)]) (en func69) zc HW.out (λv2 X7 h=>hK _ _ ?_) (λch X2 h=>by{obtain⟨hx,_⟩:=h;cases hx}) (λX2 h=>by{obtain⟨hx,_⟩:=h;cases hx});obtain⟨hx,h7,b7⟩:=h;obtain rfl:v2=_:=by injection hx
        have HF:=hid (show Lib.IsBuilder 118 5 B B (Lib.byteCells (shL (l.take (i+1)))) X7 by
          rw[HSN.out,byteCells_app,<-strCells_of (shC y)]
          exact .inr h7)
        have E7:=hid (show Ext w1 X7 by
          have h8:=E6.out;unfold Ext at h8 ⊢;rw[HBs.out]at h8 ⊢
          exact h8.trans b7)
        have hx9:=HIW.out;clear hK K h7 b7 HW hx;refine zP zc ?_ _;go_wp2_with fail
        go_roundg (gk-1)
        case measure=>have:=HG.out;omega
        case rel=>exact⟨i+1,rfl,by have:=HG.out;omega,hid ⟨E7.out,HF.out⟩⟩
      · have hil:¬((i:Int)<(n:Int)):=by omega
        have E3:=hid S.out.1;have hF:=S.out.2;rw[List.take_of_length_le (by have:=HN.out;omega)]at hF;have HF:=hid hF;have HE3:=hid (HE1.out.trans E3.out);obtain⟨m,hm⟩:∃m,(shL l).length=m:=⟨_,rfl⟩
        have HLn:=hid (show ∀w',w'=wr->Calls prog 71 #[.pointer (some ⟨B,0,none⟩)] w' (λe w'=>e=.returned (.int .i64 (m:Int))/\w'=wr)from λw' h=>by
          rw[h,<-hm,<-Lib.byteCells_length]
          exact Tryz.Builder_Len B B _ wr HF.out)
        have HM:=hid hm;clear S hF hm hg hi;by_cases h2:20000<m
        · have h3:(20000:Int)<(m:Int):=by omega
          have HR:=hid (show prS l= []/\prE l=2 by
            have:prE l=2:=by rw[prE,if_pos HRT.out,if_pos (by rw[HM.out];exact h2)]
            rw[prS,this];exact⟨rfl,rfl⟩)
          clear h2;go_wp2_with (go_at_call 71;refine zG (HLn.out _ rfl) ?_;rintro e w2 ⟨rfl,rfl⟩)
          go_ret2
          exact⟨by rw[HR.out.1,HR.out.2];rfl,HE3.out⟩
        · have h3:¬(20000:Int)<(m:Int):=by omega
          have HR:=hid (show prS l=shL l/\prE l=0 by
            have:prE l=0:=by rw[prE,if_pos HRT.out,if_neg (by rw[HM.out];exact h2)]
            rw[prS,this];exact⟨rfl,rfl⟩)
          have HST:=hid (Tryz.Builder_String_any B B (shL l) wr HF.out (by rw[<-HBs.out];exact E3.out.size));clear h2;go_wp2_with (first| (go_at_call 71;refine zG (HLn.out _ rfl) ?_;rintro e w2 ⟨rfl,rfl⟩)| (go_at_call 72;refine zG HST.out ?_;rintro e w2 ⟨rfl,hb2⟩))
          go_ret2
          have E8:Ext w1 w2:=by
            have h8:=E3.out;unfold Ext at h8 ⊢;rw[HBs.out]at h8 ⊢;exact h8.trans hb2
          exact⟨by rw[HR.out.1,HR.out.2];rfl,HE1.out.trans E8⟩
end
end Go.Proofs.YtenhciieboegbaaGreatDoor
