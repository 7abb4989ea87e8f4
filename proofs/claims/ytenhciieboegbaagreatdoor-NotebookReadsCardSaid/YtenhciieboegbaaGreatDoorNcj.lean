/-
  Package notebook: the reader: call, the operations with a word. (Printed by wip/gen/ncj.py.)
-/
import Derived.Test.YtenhciieboegbaaGreatDoorNhd
namespace Go.Proofs.YtenhciieboegbaaGreatDoor
open Go Go.RowKit
open Go.Proofs.Tryz
theorem zi{P:Prop}(h:P:=by have:=HNG.out;omega):P:=h
theorem jc{P:Prop}(h:P:=by have:=HNG.out;have:=HGs.out;omega):P:=h
theorem jn{P:Prop}(h:P:=by simp only[List.map_toArray,List.map_cons,List.map_nil];exact hbd _):P:=h
theorem xr{P:Prop}(h:P:=by have:=HBL.out;simp;omega):P:=h
theorem xu{P:Prop}(h:P:=by exact mv (qC 1)):P:=h
theorem callO_at{x:List UInt8}(hx:x≠ []){i:Nat}(h7:7<=i)(h13:i<=13)(h:opW (i:Int)=x)(hn:∀j:Nat,7<=j->j<i->opW (j:Int)≠x):jE x=i/\(i=7\/i=8\/i=9\/i=10\/i=12\/i=13):=by
  have hi:i=7\/i=8\/i=9\/i=10\/i=11\/i=12\/i=13:=ze
  unfold jE;rcases hi with rfl|rfl|rfl|rfl|rfl|rfl|rfl
  ·rw[if_pos (show x=opW 7 from h.symm)];simp
  ·rw[if_neg (show ¬x=opW 7 from λe=>hn 7 dcx dcx e.symm),if_pos (show x=opW 8 from h.symm)];simp
  ·rw[if_neg (show ¬x=opW 7 from λe=>hn 7 dcx dcx e.symm),if_neg (show ¬x=opW 8 from λe=>hn 8 dcx dcx e.symm),if_pos (show x=opW 9 from h.symm)];simp
  ·rw[if_neg (show ¬x=opW 7 from λe=>hn 7 dcx dcx e.symm),if_neg (show ¬x=opW 8 from λe=>hn 8 dcx dcx e.symm),if_neg (show ¬x=opW 9 from λe=>hn 9 dcx dcx e.symm),if_pos (show x=opW 10 from h.symm)];simp
  ·exact absurd h.symm (show ¬x=opW 11 from hx)
  ·rw[if_neg (show ¬x=opW 7 from λe=>hn 7 dcx dcx e.symm),if_neg (show ¬x=opW 8 from λe=>hn 8 dcx dcx e.symm),if_neg (show ¬x=opW 9 from λe=>hn 9 dcx dcx e.symm),if_neg (show ¬x=opW 10 from λe=>hn 10 dcx dcx e.symm),if_pos (show x=opW 12 from h.symm)];simp
  ·rw[if_neg (show ¬x=opW 7 from λe=>hn 7 dcx dcx e.symm),if_neg (show ¬x=opW 8 from λe=>hn 8 dcx dcx e.symm),if_neg (show ¬x=opW 9 from λe=>hn 9 dcx dcx e.symm),if_neg (show ¬x=opW 10 from λe=>hn 10 dcx dcx e.symm),if_neg (show ¬x=opW 12 from λe=>hn 12 dcx dcx e.symm),if_pos (show x=opW 13 from h.symm)];simp
theorem callO_no{x:List UInt8}(hn:∀j:Nat,7<=j->j<14->opW (j:Int)≠x):jE x=0:=by
  unfold jE;rw[if_neg (show ¬x=opW 7 from λe=>hn 7 dcx dcx e.symm),if_neg (show ¬x=opW 8 from λe=>hn 8 dcx dcx e.symm),if_neg (show ¬x=opW 9 from λe=>hn 9 dcx dcx e.symm),if_neg (show ¬x=opW 10 from λe=>hn 10 dcx dcx e.symm),if_neg (show ¬x=opW 12 from λe=>hn 12 dcx dcx e.symm),if_neg (show ¬x=opW 13 from λe=>hn 13 dcx dcx e.symm)]
theorem jM(x y:List UInt8):((⟨x.toArray⟩:ByteArray).toList==(⟨y.toArray⟩:ByteArray).toList)=decide (x=y):=by
  rw[ba_listE];apply decide_eq_decide.2;constructor
  ·intro h;have:=congrArg (λb:ByteArray=>b.data.toList) h;simpa using this
  ·rintro rfl;rfl
section
set_option maxRecDepth 100000
set_option maxHeartbeats 8000000
theorem call_ops{R k:Nat}(IH:∀(b:Sc) (s:List UInt8) (v:Value) (w:World),Bk w R [qB s]->s.length<=1000000->IsSc (R+1) b v w->b.length+k<=800000->Calls prog 78 #[.pointer (some ⟨R,0,none⟩),v,.int .i64 (21-(k:Int))] w (RdP R w (NdW w) (exP k b s)))
    {b:Sc} {x s:List UInt8} {w:World} {v:Value} {T:Option (Nd×List UInt8)} (B:Bk w R [qB s]) (hl:s.length<=1000000) (hv:IsSc (R+1) b v w) (hb:b.length+k+1<=800000) (hx:x≠ []) (hxv:x≠wVal) (hT:T=caP k b x s):Calls prog 114 #[.pointer (some ⟨R,0,none⟩),qB x,v,.int .i64 (20-(k:Int))] w (RdP R w (NdW w) T):=by
  obtain⟨d,hd⟩:∃d:Int,20-(k:Int)=d:=⟨_,rfl⟩;have hdw:IntKind.i64.wrap (d+1)=d+1:=zh
  have IH1:=hid IH;rw[show 21-(k:Int)=d+1 by omega]at IH1;have HI:=hid IH1.out;rw[hd];rw[caP,if_neg hxv]at hT;obtain⟨xb,hxb⟩:∃y,(⟨x.toArray⟩:ByteArray)=y:=⟨_,rfl⟩;have hne:∀y:List UInt8,y≠x->((⟨y.toArray⟩:ByteArray).toList==xb.toList)=false:=λy h=>by rw[<-hxb,jM];exact decide_eq_false h
  have hne1:(xb.toList== [118,97,108,117,101])=false:=by rw[<-hxb];have h9:=jM x wVal;rw[decide_eq_false hxv,show(⟨wVal.toArray⟩:ByteArray).toList= [118,97,108,117,101]from by first|rfl|kernel_rfl|simp[wVal]]at h9;exact h9
  have HNE:=hid hne;have HXN:=hid hx;have HSC:=hid hv;have HBL:=hid hb;have HXB:=hid hxb;rw[show qB x=.string xb by rw[qB,hxb]];clear IH IH1 hd hv hb hx hxv hxb hne;obtain⟨W,hW,E,B0⟩:∃W,W=w.alloc (.cells zNd.toArray 32)/\Ext w W/\Bk W w.heap.size zNd:=zg;unfold zNd at hW;have HRL:=hid B.lt;have hR:R≠w.heap.size:=Nat.ne_of_lt B.lt;obtain⟨G,hG⟩:∃G,w.heap.size=G:=⟨_,rfl⟩;have HO0:=hid (show Ob R w W from Ob.of E);have HB0:=hid (B.ext E);rw[hG]at B0 hR;have HG0:=hid B0;have HRG:=hid hR;have HGs:=hid hG;have HL0:=hid hl;have HV0:=hid hT;clear hR B0 E B hl hT;go_enter func114,ntmps114;go_upto_region 1 with fail
  try rw[hG]
  rw[<-hW];clear hW hG;go_wp2_with fail
  go_loopg [2,12] 14 (λgk v2 v12 wr=>∃i:Nat,v=v2/\v12=.int .i64 (i:Int)/\i+gk=21/\7<=i/\Hid (Ext W wr/\∀j:Nat,7<=j->j<i->opW (j:Int)≠x))
  case atStart=>exact⟨7,rfl,rfl,rfl,by omega,hid ⟨Ext.refl _,λj h1 h2=>absurd h2 ze⟩⟩
  case round=>
    obtain⟨i,rfl,rfl,hg,h7,S⟩:=hrel;by_cases hi:i<=13
    · have hil:(i:Int)<=13:=by omega
      have hiw:IntKind.i64.wrap ((i:Int)+1)=((i+1:Nat):Int):=zh
      have HG:=hid (zL hg (zL h7 hi));have E1:=hid S.out.1;have HNJ:=hid S.out.2;have HWF:=hid (show(Lit.int .i64 (i:Int)).wf=true from(show(decide ((-9223372036854775808:Int)<=(i:Int))&&decide ((i:Int)<=(9223372036854775807:Int)))=true by simp;omega));obtain⟨wb,hwb⟩:∃y,(⟨(opW (i:Int)).toArray⟩:ByteArray)=y:=⟨_,rfl⟩;have HWB:=hid hwb;clear S hg h7 hi hwb;go_upto_region 10 with fail;refine rgs 4 (dR 41 4) [IsMw,iV (i:Int),IsV (.string wb),IsV (.string xb)] [] ?_ ?_
      · refine Rc xc ?_
        refine Rc (mv (qC (x:=.int .i64 (i:Int)) 12)) ?_;refine Rc (lkM (fP:=IsMw) (fQ:=IsV (.string wb)) (u:=.int .i64 (i:Int)) (qA 0 41) (qA 1 42) (λm w' ⟨b',h1,h2⟩=>⟨.string wb,by rw[h1,<-HWB.out];exact words_at h2 HWF.out,rfl⟩)) ?_;refine Rc xu ?_;exact rn0
      intro u X2 e2 hΦ _;have q2:u 2=.string wb:=hΦ 2 dcx;have q3:u 3=.string xb:=hΦ 3 dcx;simp only[lxE,Nat.reduceAdd];rw[q2,q3];have E2:=hid (E1.out.trans e2);clear hΦ q2 q3 e2;by_cases he:opW (i:Int)=x
      · have hee:(wb.toList==xb.toList)=true:=by rw[<-HWB.out,<-HXB.out,jM];exact decide_eq_true he
        have HCO:=hid (callO_at HXN.out HG.out.2.1 HG.out.2.2 he HNJ.out);clear he;go_upto_region 11 with fail;refine wp_region_lit ?_;refine stL (λK hK=>qV (hK _ _ ?_));clear hK K
        go_simp
        have hbd:∀w',(Instr.build 32 #[(0,.int .i64 (i:Int))]).run prog w'=.ok (.agg #[.int .i64 (i:Int),.string ⟨#[]⟩,.int .i64 0,.bool false,.slice none 0 0,.int .i64 0,.int .i64 0,.slice none 0 0]) w':=λw'=>by go_simp
        refine stL (λK hK=>wp_bd (v:=.agg #[.int .i64 (i:Int),.string ⟨#[]⟩,.int .i64 0,.bool false,.slice none 0 0,.int .i64 0,.int .i64 0,.slice none 0 0]) jn (hK _ _ ?_) (ho:=rfl));clear hK K hbd
        go_simp
        refine stL (λK hK=>?_);refine jJ (vs:=zNd) al_Nd (λBn e3=>hK _ _ ?_);obtain⟨N,hN⟩:∃g,X2.heap.size=g:=⟨_,rfl⟩;rw[hN]at Bn ⊢;generalize X2.alloc (.cells zNd.toArray 32)=Y1 at Bn e3 ⊢;clear hK K
        go_simp
        refine stL (λK hK=>?_);refine zE (us:= [.int .i64 (i:Int),.string ⟨#[]⟩,.int .i64 0,.bool false,.slice none 0 0,.int .i64 0,.int .i64 0,.slice none 0 0]) Bn st_Nd rfl rfl nwZN (λX5 B8 O=>hK _ _ ?_)
        have HNG:=hid (show G<N/\R<G by
          have h1:=(HG0.out.ext E2.out).lt;have h2:=HRL.out;have h3:=HGs.out
          omega)
        have e5:=hid (E2.out.trans (O.ext e3 (Nat.le_of_eq hN)));have HO1:=hid (HO0.out.then e5.out);have HB1:=hid (HB0.out.ext e5.out);have HG1:=hid (HG0.out.ext e5.out);have HN1:=hid B8;have HL1:=HL0;have HV1:=hid HV0.out;clear hK K O Bn e3 hN HO0 HB0 HG0 HV0 B8;refine zI ?_;by_cases hbi:qZ (jE x)=true
        · have hv:=HV1.out
          rw[if_neg (by rw[HCO.out.1];have:=HG.out.2.1;omega),if_pos hbi,HCO.out.1]at hv;unfold bndP at hv;have HV1:=hid hv
          have h910:((i:Int)==9)=true\/((i:Int)==9)=false/\((i:Int)==10)=true:=by
            rw[HCO.out.1]at hbi;simp only[qZ,Bool.or_eq_true,zS]at hbi;by_cases h9:(i:Int)=9
            ·exact .inl (by simpa using h9)
            · refine .inr ⟨by simpa using h9,?_⟩
              rcases hbi with h|h
              ·exact absurd h h9
              ·simpa using h
          clear hv hbi;rcases h910 with hi9| ⟨hi9,hi10⟩
          all_goals
          go_upto_region 13 with fail;refine wp_region_lit ?_;refine stL (λK hK=>qV (hK _ _ ?_));clear hK K
          go_simp
          refine stL (λK hK=>?_);refine qM (us:= [.pointer (some ⟨R,0,none⟩)]) (en func76) zc (word_f (s:=s) HB1.out HL1.out) (λv Z1 h=>hK _ _ ?_) (λch X h=>by{obtain⟨h1,_⟩:=h.pan;cases h1}) (λX h=>(h.big).elim);clear hK K;obtain⟨nm,r1,h1,h2,h3,rfl⟩:=h.ret;simp only[Option.some.injEq,Prod.mk.injEq]at h1;obtain⟨h1,h0⟩:=h1;have HO2:=hid (HO1.out.trans h2);have HB2:=hid h3;have HG2:=hid (h2.bk HG1.out (Ne.symm HRG.out));have HN2:=hid (h2.bk HN1.out zi);clear HO1 HB1 HG1 HN1;have hv:=HV1.out;rw[h1,h0]at hv;have HV2:=hid hv;have HL2:=hid (show r1.length<=1000000 by rw[<-h0];have:=(xR qH s).2;have:=HL1.out;omega);have HNM:=hid (show nm.length<=4611686018427387904 by rw[<-h1];have:=(xR qH s).1;have:=HL1.out;omega);clear h h1 h0 h2 h3 hv HV1 HL1
          try go_simp
          refine stL (λK hK=>wp_fa (xS N _) (hK _ _ ?_));clear hK K
          go_simp
          refine stL (λK hK=>?_);refine stCO 1 (u:=qB nm) HN2.out (st_strE nm) rfl (NoWord.string _) (λZ2 B9 O=>hK _ _ ?_);clear hK K
          try go_simp
          have HO3:=hid (HO2.out.new O jc);have HB3:=hid (O.bk HB2.out zi);have HG3:=hid (O.bk HG2.out zi);have HN3:=hid (show Bk Z2 N [.int .i64 (i:Int),qB nm,.int .i64 0,.bool false,.slice none 0 0,.int .i64 0,.int .i64 0,.slice none 0 0]from B9);clear HO2 HB2 HG2 HN2;have HV3:=HV2;have HL3:=HL2;clear HV2 HL2 B9 O;refine zI ?_;go_upto_region 14 with fail;refine wp_region_lit ?_;refine stL (λK hK=>qV (hK _ _ ?_));clear hK K
          go_simp
          refine stL (λK hK=>?_);refine qM (us:= [.pointer (some ⟨R,0,none⟩),qB [44,32]]) (en func77) zc (jZ (s:=r1) (x:= [44,32]) HB3.out) (λv Z3 h=>hK _ _ ?_) (λch X h=>by{obtain⟨h1,rfl,h2⟩:=xV h;exact⟨rfl,RdP.fail (HO3.out.trans h2) (by rw[HV3.out,h1];rfl)⟩}) (λX h=>(h.big).elim);clear hK K;obtain⟨r2,h1,h2,h3,rfl⟩:=xU h;have HO4:=hid (HO3.out.trans h2);have HB4:=hid h3;have HG4:=hid (h2.bk HG3.out (Ne.symm HRG.out));have HN4:=hid (h2.bk HN3.out zi);clear HO3 HB3 HG3 HN3;have hv:=HV3.out;rw[h1,Option.bind_some]at hv
          try dsimp only at hv
          have HV4:=hid hv;have HL4:=hid (show r2.length<=1000000 by have:=qJ h1;have:=HL3.out;omega);clear hv HV3 HL3;clear h h1 h2 h3
          try go_simp
          refine zI ?_;go_upto_region 15 with fail;refine wp_region_lit ?_;refine stL (λK hK=>qV (hK _ _ ?_));clear hK K
          go_simp
          refine stL (λK hK=>?_);refine qM (us:= [.pointer (some ⟨R,0,none⟩)]) (en func137) zc (small_f (s:=r2) HB4.out HL4.out) (λv Z4 h=>hK _ _ ?_) (λch X h=>by{obtain⟨h1,rfl,h2⟩:=h.pan;exact⟨rfl,RdP.fail (HO4.out.trans h2) (by rw[HV4.out,h1];rfl)⟩}) (λX h=>(h.big).elim);clear hK K;obtain⟨lo,r3,h1,h2,h3,rfl⟩:=h.ret;have HO5:=hid (HO4.out.trans h2);have HB5:=hid h3;have HG5:=hid (h2.bk HG4.out (Ne.symm HRG.out));have HN5:=hid (h2.bk HN4.out zi);clear HO4 HB4 HG4 HN4;have hv:=HV4.out;rw[h1,Option.bind_some]at hv
          try dsimp only at hv
          have HV5:=hid hv;have HL5:=hid (show r3.length<=1000000 by have:=smlP_len h1;have:=HL4.out;omega);clear hv HV4 HL4;have HZlo:=hid (smlP_bd h1);clear h h1 h2 h3
          try go_simp
          refine stL (λK hK=>wp_fa (fa_Nd4 N _) (hK _ _ ?_));clear hK K
          go_simp
          refine stL (λK hK=>?_);refine stCO 5 (u:=.int .i64 lo) HN5.out (st_i lo) rfl (NoWord.int64 _) (λZ5 B9 O=>hK _ _ ?_);clear hK K
          try go_simp
          have HO6:=hid (HO5.out.new O jc);have HB6:=hid (O.bk HB5.out zi);have HG6:=hid (O.bk HG5.out zi);have HN6:=hid (show Bk Z5 N [.int .i64 (i:Int),qB nm,.int .i64 0,.bool false,.slice none 0 0,.int .i64 lo,.int .i64 0,.slice none 0 0]from B9);clear HO5 HB5 HG5 HN5;have HV6:=HV5;have HL6:=HL5;clear HV5 HL5 B9 O;refine zI ?_;go_upto_region 16 with fail;refine wp_region_lit ?_;refine stL (λK hK=>qV (hK _ _ ?_));clear hK K
          go_simp
          refine stL (λK hK=>?_);refine qM (us:= [.pointer (some ⟨R,0,none⟩),qB [44,32]]) (en func77) zc (jZ (s:=r3) (x:= [44,32]) HB6.out) (λv Z6 h=>hK _ _ ?_) (λch X h=>by{obtain⟨h1,rfl,h2⟩:=xV h;exact⟨rfl,RdP.fail (HO6.out.trans h2) (by rw[HV6.out,h1];rfl)⟩}) (λX h=>(h.big).elim);clear hK K;obtain⟨r4,h1,h2,h3,rfl⟩:=xU h;have HO7:=hid (HO6.out.trans h2);have HB7:=hid h3;have HG7:=hid (h2.bk HG6.out (Ne.symm HRG.out));have HN7:=hid (h2.bk HN6.out zi);clear HO6 HB6 HG6 HN6;have hv:=HV6.out;rw[h1,Option.bind_some]at hv
          try dsimp only at hv
          have HV7:=hid hv;have HL7:=hid (show r4.length<=1000000 by have:=qJ h1;have:=HL6.out;omega);clear hv HV6 HL6;clear h h1 h2 h3
          try go_simp
          refine zI ?_;go_upto_region 17 with fail;refine wp_region_lit ?_;refine stL (λK hK=>qV (hK _ _ ?_));clear hK K
          go_simp
          refine stL (λK hK=>?_);refine qM (us:= [.pointer (some ⟨R,0,none⟩)]) (en func137) zc (small_f (s:=r4) HB7.out HL7.out) (λv Z7 h=>hK _ _ ?_) (λch X h=>by{obtain⟨h1,rfl,h2⟩:=h.pan;exact⟨rfl,RdP.fail (HO7.out.trans h2) (by rw[HV7.out,h1];rfl)⟩}) (λX h=>(h.big).elim);clear hK K;obtain⟨hi,r5,h1,h2,h3,rfl⟩:=h.ret;have HO8:=hid (HO7.out.trans h2);have HB8:=hid h3;have HG8:=hid (h2.bk HG7.out (Ne.symm HRG.out));have HN8:=hid (h2.bk HN7.out zi);clear HO7 HB7 HG7 HN7;have hv:=HV7.out;rw[h1,Option.bind_some]at hv
          try dsimp only at hv
          have HV8:=hid hv;have HL8:=hid (show r5.length<=1000000 by have:=smlP_len h1;have:=HL7.out;omega);clear hv HV7 HL7;have HZhi:=hid (smlP_bd h1);clear h h1 h2 h3
          try go_simp
          refine stL (λK hK=>wp_fa (fa_Nd5 N _) (hK _ _ ?_));clear hK K
          go_simp
          refine stL (λK hK=>?_);refine stCO 6 (u:=.int .i64 hi) HN8.out (st_i hi) rfl (NoWord.int64 _) (λZ8 B9 O=>hK _ _ ?_);clear hK K
          try go_simp
          have HO9:=hid (HO8.out.new O jc);have HB9:=hid (O.bk HB8.out zi);have HG9:=hid (O.bk HG8.out zi);have HN9:=hid (show Bk Z8 N [.int .i64 (i:Int),qB nm,.int .i64 0,.bool false,.slice none 0 0,.int .i64 lo,.int .i64 hi,.slice none 0 0]from B9);clear HO8 HB8 HG8 HN8;have HV9:=HV8;have HL9:=HL8;clear HV8 HL8 B9 O;refine zI ?_;go_upto_region 18 with fail;refine wp_region_lit ?_;refine stL (λK hK=>qV (hK _ _ ?_));clear hK K
          go_simp
          refine stL (λK hK=>wp_fa (xS N _) (hK _ _ ?_));clear hK K
          go_simp
          refine stL (λK hK=>wp_ld (p:=.pointer (some ⟨N,1,none⟩)) (u:=qB nm) (qP _ _ _ (HN9.out.c 1 _ rfl)) (hK _ _ ?_));clear hK K
          go_simp
          refine stL (λK hK=>?_);refine qM (us:= [v,qB nm]) (en func128) zc (with_f (HSC.out.ob HO9.out (Nat.lt_succ_self R)) (by have:=HBL.out;omega) nm) (λv7 Z9 h=>hK _ _ ?_) (λch X h=>by{obtain⟨x,hx,_⟩:=h;cases hx}) (λX h=>by{obtain⟨x,hx,_⟩:=h;cases hx});clear hK K;obtain⟨sv,h0,e7,hs7⟩:=h;cases h0;have HS7:=hid (show IsSc (R+1) (b++ [nm]) v7 Z9 from hs7.low (by have:=HB9.out.lt;omega));have HO10:=hid (HO9.out.then e7);have HB10:=hid (HB9.out.ext e7);have HG10:=hid (HG9.out.ext e7);have HN10:=hid (HN9.out.ext e7);clear HO9 HB9 HG9 HN9;have HV10:=HV9;have HL10:=HL9;clear HV9 HL9;have HOS10:=hid (Ob.of (g:=R) (Ext.refl Z9));clear e7 hs7
          try go_simp
          refine stL (λK hK=>qV (hK _ _ ?_));clear hK K
          go_simp
          refine zI ?_;go_upto_region 20 with fail;refine wp_region_lit ?_;refine stL (λK hK=>qV (hK _ _ ?_));clear hK K
          go_simp
          refine stL (λK hK=>?_);refine qM (us:= [.pointer (some ⟨R,0,none⟩),qB [44,32]]) (en func77) zc (jZ (s:=r5) (x:= [44,32]) HB10.out) (λv Z10 h=>hK _ _ ?_) (λch X h=>by{obtain⟨h1,rfl,h2⟩:=xV h;exact⟨rfl,RdP.fail (HO10.out.trans h2) (by rw[HV10.out,h1];rfl)⟩}) (λX h=>(h.big).elim);clear hK K;obtain⟨r6,h1,h2,h3,rfl⟩:=xU h;have HO11:=hid (HO10.out.trans h2);have HB11:=hid h3;have HG11:=hid (h2.bk HG10.out (Ne.symm HRG.out));have HN11:=hid (h2.bk HN10.out zi);have HOS11:=hid (HOS10.out.trans h2);clear HO10 HB10 HG10 HN10 HOS10;have hv:=HV10.out;rw[h1,Option.bind_some]at hv
          try dsimp only at hv
          have HV11:=hid hv;have HL11:=hid (show r6.length<=1000000 by have:=qJ h1;have:=HL10.out;omega);clear hv HV10 HL10;clear h h1 h2 h3
          try go_simp
          refine zI ?_;go_upto_region 21 with fail;refine wp_region_any zc ?_;have ed:Ext Z10 {Z10 with drawn:=Z10.drawn+1} :=(Ext.refl _).drew;generalize({Z10 with drawn:=Z10.drawn+1}:World)=Z11 at ed ⊢;have HO12:=hid (HO11.out.then ed);have HB12:=hid (HB11.out.ext ed);have HG12:=hid (HG11.out.ext ed);have HN12:=hid (HN11.out.ext ed);have HOS12:=hid (HOS11.out.then ed);clear HO11 HB11 HG11 HN11 HOS11;have HV12:=HV11;have HL12:=HL11;clear HV11 HL11;clear ed;have HQ0:=hid (show G<Z11.heap.size/\R<Z11.heap.size/\w.heap.size<=Z11.heap.size by have:=HG12.out.lt;have:=HB12.out.lt;have:=HGs.out;omega);have HQN0:=hid (HN12.out.lt);obtain⟨b0,hb⟩:∃b,Z11.heap.size=b:=⟨_,rfl⟩;have HBE0:=hid hb;rw[hb]at HQ0 HQN0;clear hb;refine tkF 0 (qN N) ?_;refine tkM 2 (.pointer (some ⟨R,0,none⟩)) ?_;refine tkM 3 v7 ?_;refine tkM 4 (.int .i64 d) ?_;refine tkB 5 (b:=.add) (T:=3) (p:=.int .i64 d) (q:=.int .i64 1) (r:=.int .i64 (d+1)) (λw=>by go_simp) ?_;refine tkD 1 [8,9,10] (λw=>World.cell? w ⟨N,7,none⟩=some (.slice none 0 0)) (p:=.pointer (some ⟨N,7,none⟩)) (u:=.slice none 0 0) (λw h=>qQ _ _ _ h) (HN12.out.c 7 _ rfl) ?_
          try simp only[List.getElem_toArray,List.getElem_cons_succ,List.getElem_cons_zero,Act.put,List.setIfInBounds_toArray,List.set_cons_zero,List.set_cons_succ]
          refine stD 6 rfl (λK hK=>qM (us:= [.pointer (some ⟨R,0,none⟩),v7,.int .i64 (d+1)]) (en func78) zc (HI.out (b++ [nm]) r6 _ _ HB12.out HL12.out (HS7.out.ob HOS12.out (Nat.lt_succ_self R)) xr) (λv6 Z12 h=>hK _ _ ((h.1.bk HN12.out zi).c 7 _ rfl) ?_) (λch X h=>by{obtain⟨h1,rfl,h2⟩:=h.pan;exact⟨rfl,RdP.fail (HO12.out.trans h2) (by rw[HV12.out,h1];rfl)⟩}) (λX h=>(h.big).elim));clear hK K
          try simp only[List.getElem_toArray,List.getElem_cons_succ,List.getElem_cons_zero,Act.put,List.setIfInBounds_toArray,List.set_cons_zero,List.set_cons_succ]
          obtain⟨y0,t0,h1,h2,h3,us0,rfl,h4⟩:=h.ret;rw[HBE0.out]at h4;have HP0:=hid h4;have HO13:=hid (HO12.out.trans h2);have HB13:=hid h3;have HG13:=hid (h2.bk HG12.out (Ne.symm HRG.out));have HN13:=hid (h2.bk HN12.out zi);have HOS13:=hid (HOS12.out.trans h2);clear HO12 HB12 HG12 HN12 HOS12;have hv:=HV12.out;rw[h1,Option.bind_some]at hv
          try dsimp only at hv
          have HV13:=hid hv;have HL13:=hid (show t0.length<=1000000 by have:=exP_len k h1;have:=HL12.out;omega);clear hv HV12 HL12;have HK013:=hid (Kc.refl b0 Z12);clear h h1 h2 h3 h4;have HP0L:=hid (show N<Z12.heap.size/\G<Z12.heap.size/\R<Z12.heap.size by have:=HN13.out.lt;have:=HG13.out.lt;have:=HB13.out.lt;omega);refine stD 7 rfl (λK hK=>wp_bs HP0.out.len HP0.out.nw.2 (λBn e7 hs=>hK _ _ (e7.cell (HN13.out.c 7 _ rfl)) ?_));clear hK K Bn
          try simp only[List.getElem_toArray,List.getElem_cons_succ,List.getElem_cons_zero,Act.put,List.setIfInBounds_toArray,List.set_cons_zero,List.set_cons_succ]
          obtain⟨p0,hg8⟩:∃g,Z12.heap.size=g:=⟨_,rfl⟩;rw[hg8]at hs ⊢;generalize Z12.alloc (.cells us0.toArray 32)=Z13 at e7 hs ⊢;have HS0:=hid hs;have HGE:=hid hg8;have HQG:=hid (show G<p0/\R<p0/\w.heap.size<=p0 by have:=HP0L.out;have:=HGE.out;have:=HGs.out;omega);have HQP:=hid (show N<p0 by have:=HP0L.out;have:=HGE.out;omega);have HO14:=hid (HO13.out.then e7);have HB14:=hid (HB13.out.ext e7);have HG14:=hid (HG13.out.ext e7);have HN14:=hid (HN13.out.ext e7);have HOS14:=hid (HOS13.out.then e7);have HK014:=hid (HK013.out.trans (Kc.ext e7));clear HO13 HB13 HG13 HN13 HOS13 HK013;have HV14:=HV13;have HL14:=HL13;clear HV13 HL13;have HG8:=hid (show p0<=Z13.heap.size by rw[<-hg8];exact e7.size);clear hs hg8 e7;refine enD ?_;refine stA 8 rfl (λK hK=>?_);refine wp_ndo 91 (.tmp 84) (.tmp 90) rfl p0 [] us0 (.slice none 0 0) (.slice (some ⟨p0,0,none⟩) 1 1) zc zc (RwK.nil _ _ _ _) ⟨HP0.out.len,HP0.out.nw.1,HP0.out.nw.2⟩ HS0.out dcx HG8.out (λv8 Z14 q1 q2 q3 q4=>hK _ _ ?_);clear hK K
          try simp only[Act.put,List.setIfInBounds_toArray,List.set_cons_zero,List.set_cons_succ]
          have e8:=ext_of_grown q2;obtain⟨ao8,cap8,hv8,-⟩:=q1.at (λus h=>by obtain rfl:=List.mem_singleton.1 h;exact HP0.out.len);have hv8:v8=.slice ao8 1 cap8:=hv8;subst hv8;have HNO:=hid (show ∀g,(Value.slice ao8 1 cap8).ownBlock=some g->g≠N from λg e=>by rcases q4 with h|h <;> rw[h]at e <;> cases e;have:=HN14.out.lt;omega);have HO15:=hid (HO14.out.then e8);have HB15:=hid (HB14.out.ext e8);have HG15:=hid (HG14.out.ext e8);have HN15:=hid (HN14.out.ext e8);have HOS15:=hid (HOS14.out.then e8);have HK015:=hid (HK014.out.trans (Kc.ext e8));clear HO14 HB14 HG14 HN14 HOS14 HK014;have HV15:=HV14;have HL15:=HL14;clear HV14 HL14;have HRW15:=hid (show RwK 32 8 p0 [us0] (.slice ao8 1 cap8) Z14 from q1);clear q1 q2 q3 q4 e8 HG8;refine tkF 9 (qN N) ?_
          try simp only[List.getElem_toArray,List.getElem_cons_succ,List.getElem_cons_zero,Act.put,List.setIfInBounds_toArray,List.set_cons_zero,List.set_cons_succ]
          refine stA 10 rfl (λK hK=>?_);refine stCO 7 (u:=.slice ao8 1 cap8) HN15.out (st_Nds ao8 1 cap8) rfl (nwSl none 0 0) (λZ15 B9 O=>hK _ _ ?_);clear hK K
          try simp only[List.getElem_toArray,List.getElem_cons_succ,List.getElem_cons_zero,Act.put,List.setIfInBounds_toArray,List.set_cons_zero,List.set_cons_succ]
          have HO16:=hid (HO15.out.new O jc);have HB16:=hid (O.bk HB15.out zi);have HG16:=hid (O.bk HG15.out zi);have HN16:=hid (show Bk Z15 N [.int .i64 (i:Int),qB nm,.int .i64 0,.bool false,.slice none 0 0,.int .i64 lo,.int .i64 hi,.slice ao8 1 cap8]from B9);clear HOS15;have HK016:=hid (HK015.out.trans (Kc.only O HQN0.out));have HRW16:=hid (HRW15.out.ne (Ob.only O) HNO.out);clear HO15 HB15 HG15 HN15 HK015 HRW15;have HV16:=HV15;have HL16:=HL15;clear HV15 HL15;clear B9 O;refine zP zc ?_ _;go_upto_region 22 with fail;refine wp_region_lit ?_;refine stL (λK hK=>wp_ld (p:=.pointer (some ⟨N,0,none⟩)) (u:=.agg [.int .i64 (i:Int),qB nm,.int .i64 0,.bool false,.slice none 0 0,.int .i64 lo,.int .i64 hi,.slice ao8 1 cap8].toArray) (ld_Nd _ _ _ rfl HN16.out) (hK _ _ ?_));clear hK K
          go_simp
          refine stL (λK hK=>?_);refine zE (us:= [.int .i64 (i:Int),qB nm,.int .i64 0,.bool false,.slice none 0 0,.int .i64 lo,.int .i64 hi,.slice ao8 1 cap8]) HG16.out st_Nd rfl rfl nwZN (λZ16 B8 O=>hK _ _ ?_);have HOe:=hid (HO16.out.new O (Nat.le_of_eq HGs.out));have HBe:=hid (O.bk HB16.out HRG.out);have KG0:=Kc.only O HQ0.out.1;have HR:=hid (show NdW w (.mk i nm 0 0 lo hi [y0]) (.agg [.int .i64 (i:Int),qB nm,.int .i64 0,.bool false,.slice none 0 0,.int .i64 lo,.int .i64 hi,.slice ao8 1 cap8].toArray) Z16 from nd_one ⟨HNM.out,(by have:=HG.out.2;omega),(by have:=HG.out.2;omega)⟩ (HRW16.out.ob (Ob.only O) HQG.out.1) HQG.out.2.2 (NdC.low HQ0.out.2.2 _ _ (HP0.out.kc (HK016.out.trans KG0))));clear KG0;clear hK K O HO16 HB16 HG16 HN16;refine zI ?_;have d0:=B8.c 0 _ rfl;have d1:=B8.c 1 _ rfl;have d2:=B8.c 2 _ rfl;have d3:=B8.c 3 _ rfl;have d4:=B8.c 4 _ rfl;have d5:=B8.c 5 _ rfl;have d6:=B8.c 6 _ rfl;have d7:=B8.c 7 _ rfl;go_wp2_with fail;refine zH (v:=.agg [.int .i64 (i:Int),qB nm,.int .i64 0,.bool false,.slice none 0 0,.int .i64 lo,.int .i64 hi,.slice ao8 1 cap8].toArray) (by simp[results,results114,go_sem,d0,d1,d2,d3,d4,d5,d6,d7]) rfl ?_;exact RdP.done HV16.out HOe.out HBe.out HR.out
        · have hv:=HV1.out
          have hbi9:¬(i=9\/i=10):=by
            intro h;apply hbi;rw[HCO.out.1];rcases h with rfl|rfl <;> rfl
          rw[if_neg (by rw[HCO.out.1];have:=HG.out.2.1;omega),if_neg hbi,HCO.out.1]at hv;unfold joiP at hv;have HV1:=hid hv;have hi9:((i:Int)==9)=false:=jh
          have hi10:((i:Int)==10)=false:=jh
          clear hv hbi hbi9;go_upto_region 19 with fail;refine wp_region_any zc ?_;have ed:Ext X5 {X5 with drawn:=X5.drawn+1} :=(Ext.refl _).drew;generalize({X5 with drawn:=X5.drawn+1}:World)=Z1 at ed ⊢;have HO2:=hid (HO1.out.then ed);have HB2:=hid (HB1.out.ext ed);have HG2:=hid (HG1.out.ext ed);have HN2:=hid (HN1.out.ext ed);clear HO1 HB1 HG1 HN1;have HV2:=HV1;have HL2:=HL1;clear HV1 HL1;clear ed;have HQ0:=hid (show G<Z1.heap.size/\R<Z1.heap.size/\w.heap.size<=Z1.heap.size by have:=HG2.out.lt;have:=HB2.out.lt;have:=HGs.out;omega);have HQN0:=hid (HN2.out.lt);obtain⟨b0,hb⟩:∃b,Z1.heap.size=b:=⟨_,rfl⟩;have HBE0:=hid hb;rw[hb]at HQ0 HQN0;clear hb;refine tkF 0 (qN N) ?_;refine tkM 2 (.pointer (some ⟨R,0,none⟩)) ?_;refine tkM 3 v ?_;refine tkM 4 (.int .i64 d) ?_;refine tkB 5 (b:=.add) (T:=3) (p:=.int .i64 d) (q:=.int .i64 1) (r:=.int .i64 (d+1)) (λw=>by go_simp) ?_;refine tkD 1 [8,9,10] (λw=>World.cell? w ⟨N,7,none⟩=some (.slice none 0 0)) (p:=.pointer (some ⟨N,7,none⟩)) (u:=.slice none 0 0) (λw h=>qQ _ _ _ h) (HN2.out.c 7 _ rfl) ?_
          try simp only[List.getElem_toArray,List.getElem_cons_succ,List.getElem_cons_zero,Act.put,List.setIfInBounds_toArray,List.set_cons_zero,List.set_cons_succ]
          refine stD 6 rfl (λK hK=>qM (us:= [.pointer (some ⟨R,0,none⟩),v,.int .i64 (d+1)]) (en func78) zc (HI.out b s _ _ HB2.out HL2.out (HSC.out.ob HO2.out (Nat.lt_succ_self R)) xr) (λv6 Z2 h=>hK _ _ ((h.1.bk HN2.out zi).c 7 _ rfl) ?_) (λch X h=>by{obtain⟨h1,rfl,h2⟩:=h.pan;exact⟨rfl,RdP.fail (HO2.out.trans h2) (by rw[HV2.out,h1];rfl)⟩}) (λX h=>(h.big).elim));clear hK K
          try simp only[List.getElem_toArray,List.getElem_cons_succ,List.getElem_cons_zero,Act.put,List.setIfInBounds_toArray,List.set_cons_zero,List.set_cons_succ]
          obtain⟨y0,t0,h1,h2,h3,us0,rfl,h4⟩:=h.ret;rw[HBE0.out]at h4;have HP0:=hid h4;have HO3:=hid (HO2.out.trans h2);have HB3:=hid h3;have HG3:=hid (h2.bk HG2.out (Ne.symm HRG.out));have HN3:=hid (h2.bk HN2.out zi);clear HO2 HB2 HG2 HN2;have hv:=HV2.out;rw[h1,Option.bind_some]at hv
          try dsimp only at hv
          have HV3:=hid hv;have HL3:=hid (show t0.length<=1000000 by have:=exP_len k h1;have:=HL2.out;omega);clear hv HV2 HL2;have HK03:=hid (Kc.refl b0 Z2);clear h h1 h2 h3 h4;have HP0L:=hid (show N<Z2.heap.size/\G<Z2.heap.size/\R<Z2.heap.size by have:=HN3.out.lt;have:=HG3.out.lt;have:=HB3.out.lt;omega);refine stD 7 rfl (λK hK=>wp_bs HP0.out.len HP0.out.nw.2 (λBn e7 hs=>hK _ _ (e7.cell (HN3.out.c 7 _ rfl)) ?_));clear hK K Bn
          try simp only[List.getElem_toArray,List.getElem_cons_succ,List.getElem_cons_zero,Act.put,List.setIfInBounds_toArray,List.set_cons_zero,List.set_cons_succ]
          obtain⟨p0,hg8⟩:∃g,Z2.heap.size=g:=⟨_,rfl⟩;rw[hg8]at hs ⊢;generalize Z2.alloc (.cells us0.toArray 32)=Z3 at e7 hs ⊢;have HS0:=hid hs;have HGE:=hid hg8;have HQG:=hid (show G<p0/\R<p0/\w.heap.size<=p0 by have:=HP0L.out;have:=HGE.out;have:=HGs.out;omega);have HQP:=hid (show N<p0 by have:=HP0L.out;have:=HGE.out;omega);have HO4:=hid (HO3.out.then e7);have HB4:=hid (HB3.out.ext e7);have HG4:=hid (HG3.out.ext e7);have HN4:=hid (HN3.out.ext e7);have HK04:=hid (HK03.out.trans (Kc.ext e7));clear HO3 HB3 HG3 HN3 HK03;have HV4:=HV3;have HL4:=HL3;clear HV3 HL3;have HG8:=hid (show p0<=Z3.heap.size by rw[<-hg8];exact e7.size);clear hs hg8 e7;refine enD ?_;refine stA 8 rfl (λK hK=>?_);refine wp_ndo 79 (.tmp 72) (.tmp 78) rfl p0 [] us0 (.slice none 0 0) (.slice (some ⟨p0,0,none⟩) 1 1) zc zc (RwK.nil _ _ _ _) ⟨HP0.out.len,HP0.out.nw.1,HP0.out.nw.2⟩ HS0.out dcx HG8.out (λv8 Z4 q1 q2 q3 q4=>hK _ _ ?_);clear hK K
          try simp only[Act.put,List.setIfInBounds_toArray,List.set_cons_zero,List.set_cons_succ]
          have e8:=ext_of_grown q2;obtain⟨ao8,cap8,hv8,-⟩:=q1.at (λus h=>by obtain rfl:=List.mem_singleton.1 h;exact HP0.out.len);have hv8:v8=.slice ao8 1 cap8:=hv8;subst hv8;have HNO:=hid (show ∀g,(Value.slice ao8 1 cap8).ownBlock=some g->g≠N from λg e=>by rcases q4 with h|h <;> rw[h]at e <;> cases e;have:=HN4.out.lt;omega);have HO5:=hid (HO4.out.then e8);have HB5:=hid (HB4.out.ext e8);have HG5:=hid (HG4.out.ext e8);have HN5:=hid (HN4.out.ext e8);have HK05:=hid (HK04.out.trans (Kc.ext e8));clear HO4 HB4 HG4 HN4 HK04;have HV5:=HV4;have HL5:=HL4;clear HV4 HL4;have HRW5:=hid (show RwK 32 8 p0 [us0] (.slice ao8 1 cap8) Z4 from q1);clear q1 q2 q3 q4 e8 HG8;refine tkF 9 (qN N) ?_
          try simp only[List.getElem_toArray,List.getElem_cons_succ,List.getElem_cons_zero,Act.put,List.setIfInBounds_toArray,List.set_cons_zero,List.set_cons_succ]
          refine stA 10 rfl (λK hK=>?_);refine stCO 7 (u:=.slice ao8 1 cap8) HN5.out (st_Nds ao8 1 cap8) rfl (nwSl none 0 0) (λZ5 B9 O=>hK _ _ ?_);clear hK K
          try simp only[List.getElem_toArray,List.getElem_cons_succ,List.getElem_cons_zero,Act.put,List.setIfInBounds_toArray,List.set_cons_zero,List.set_cons_succ]
          have HO6:=hid (HO5.out.new O jc);have HB6:=hid (O.bk HB5.out zi);have HG6:=hid (O.bk HG5.out zi);have HN6:=hid (show Bk Z5 N [.int .i64 (i:Int),.string ⟨#[]⟩,.int .i64 0,.bool false,.slice none 0 0,.int .i64 0,.int .i64 0,.slice ao8 1 cap8]from B9);have HK06:=hid (HK05.out.trans (Kc.only O HQN0.out));have HRW6:=hid (HRW5.out.ne (Ob.only O) HNO.out);clear HO5 HB5 HG5 HN5 HK05 HRW5;have HV6:=HV5;have HL6:=HL5;clear HV5 HL5;clear B9 O;refine zP zc ?_ _;go_upto_region 20 with fail;refine wp_region_lit ?_;refine stL (λK hK=>qV (hK _ _ ?_));clear hK K
          go_simp
          refine stL (λK hK=>?_);refine qM (us:= [.pointer (some ⟨R,0,none⟩),qB [44,32]]) (en func77) zc (jZ (s:=t0) (x:= [44,32]) HB6.out) (λv Z6 h=>hK _ _ ?_) (λch X h=>by{obtain⟨h1,rfl,h2⟩:=xV h;exact⟨rfl,RdP.fail (HO6.out.trans h2) (by rw[HV6.out,h1];rfl)⟩}) (λX h=>(h.big).elim);clear hK K;obtain⟨s4,h1,h2,h3,rfl⟩:=xU h;have HO7:=hid (HO6.out.trans h2);have HB7:=hid h3;have HG7:=hid (h2.bk HG6.out (Ne.symm HRG.out));have HN7:=hid (h2.bk HN6.out zi);have HK07:=hid (HK06.out.trans (Kc.ob h2 HQ0.out.2.1));have HRW7:=hid (HRW6.out.ob h2 HQG.out.2.1);clear HO6 HB6 HG6 HN6 HK06 HRW6;have hv:=HV6.out;rw[h1,Option.bind_some]at hv
          try dsimp only at hv
          have HV7:=hid hv;have HL7:=hid (show s4.length<=1000000 by have:=qJ h1;have:=HL6.out;omega);clear hv HV6 HL6;clear h h1 h2 h3
          try go_simp
          refine zI ?_;go_upto_region 21 with fail;refine wp_region_any zc ?_;have ed:Ext Z6 {Z6 with drawn:=Z6.drawn+1} :=(Ext.refl _).drew;generalize({Z6 with drawn:=Z6.drawn+1}:World)=Z7 at ed ⊢;have HO8:=hid (HO7.out.then ed);have HB8:=hid (HB7.out.ext ed);have HG8:=hid (HG7.out.ext ed);have HN8:=hid (HN7.out.ext ed);have HK08:=hid (HK07.out.trans (Kc.ext ed));have HRW8:=hid (HRW7.out.ext ed);clear HO7 HB7 HG7 HN7 HK07 HRW7;have HV8:=HV7;have HL8:=HL7;clear HV7 HL7;clear ed;have HQ1:=hid (show G<Z7.heap.size/\R<Z7.heap.size/\w.heap.size<=Z7.heap.size by have:=HG8.out.lt;have:=HB8.out.lt;have:=HGs.out;omega);have HQN1:=hid (HN8.out.lt);obtain⟨b1,hb⟩:∃b,Z7.heap.size=b:=⟨_,rfl⟩;have HBE1:=hid hb;rw[hb]at HQ1 HQN1;clear hb;have HOW:=hid (World.ownsRow.lt HRW8.out.1);refine tkF 0 (qN N) ?_;refine tkM 2 (.pointer (some ⟨R,0,none⟩)) ?_;refine tkM 3 v ?_;refine tkM 4 (.int .i64 d) ?_;refine tkB 5 (b:=.add) (T:=3) (p:=.int .i64 d) (q:=.int .i64 1) (r:=.int .i64 (d+1)) (λw=>by go_simp) ?_;refine tkD 1 [8,9,10] (λw=>World.cell? w ⟨N,7,none⟩=some (.slice ao8 1 cap8)) (p:=.pointer (some ⟨N,7,none⟩)) (u:=.slice ao8 1 cap8) (λw h=>qQ _ _ _ h) (HN8.out.c 7 _ rfl) ?_
          try simp only[List.getElem_toArray,List.getElem_cons_succ,List.getElem_cons_zero,Act.put,List.setIfInBounds_toArray,List.set_cons_zero,List.set_cons_succ]
          refine stD 6 rfl (λK hK=>qM (us:= [.pointer (some ⟨R,0,none⟩),v,.int .i64 (d+1)]) (en func78) zc (HI.out b s4 _ _ HB8.out HL8.out (HSC.out.ob HO8.out (Nat.lt_succ_self R)) xr) (λv6 Z8 h=>hK _ _ ((h.1.bk HN8.out zi).c 7 _ rfl) ?_) (λch X h=>by{obtain⟨h1,rfl,h2⟩:=h.pan;exact⟨rfl,RdP.fail (HO8.out.trans h2) (by rw[HV8.out,h1];rfl)⟩}) (λX h=>(h.big).elim));clear hK K
          try simp only[List.getElem_toArray,List.getElem_cons_succ,List.getElem_cons_zero,Act.put,List.setIfInBounds_toArray,List.set_cons_zero,List.set_cons_succ]
          obtain⟨y1,t1,h1,h2,h3,us1,rfl,h4⟩:=h.ret;rw[HBE1.out]at h4;have HP1:=hid h4;have HO9:=hid (HO8.out.trans h2);have HB9:=hid h3;have HG9:=hid (h2.bk HG8.out (Ne.symm HRG.out));have HN9:=hid (h2.bk HN8.out zi);have HK09:=hid (HK08.out.trans (Kc.ob h2 HQ0.out.2.1));have HRW9:=hid (HRW8.out.ob h2 HQG.out.2.1);clear HO8 HB8 HG8 HN8 HK08 HRW8;have hv:=HV8.out;rw[h1,Option.bind_some]at hv
          try dsimp only at hv
          have HV9:=hid hv;have HL9:=hid (show t1.length<=1000000 by have:=exP_len k h1;have:=HL8.out;omega);clear hv HV8 HL8;have HK19:=hid (Kc.refl b1 Z8);clear h h1 h2 h3 h4;refine stD 7 rfl (λK hK=>wp_bs HP1.out.len HP1.out.nw.2 (λBn e7 hs=>hK _ _ (e7.cell (HN9.out.c 7 _ rfl)) ?_));clear hK K Bn
          try simp only[List.getElem_toArray,List.getElem_cons_succ,List.getElem_cons_zero,Act.put,List.setIfInBounds_toArray,List.set_cons_zero,List.set_cons_succ]
          obtain⟨p1,hg8⟩:∃g,Z8.heap.size=g:=⟨_,rfl⟩;rw[hg8]at hs ⊢;generalize Z8.alloc (.cells us1.toArray 32)=Z9 at e7 hs ⊢;have HS1:=hid hs;have HO10:=hid (HO9.out.then e7);have HB10:=hid (HB9.out.ext e7);have HG10:=hid (HG9.out.ext e7);have HN10:=hid (HN9.out.ext e7);have HK010:=hid (HK09.out.trans (Kc.ext e7));have HRW10:=hid (HRW9.out.ext e7);have HK110:=hid (HK19.out.trans (Kc.ext e7));clear HO9 HB9 HG9 HN9 HK09 HRW9 HK19;have HV10:=HV9;have HL10:=HL9;clear HV9 HL9;have HG8:=hid (show p0<=Z9.heap.size by have:=HRW10.out.base_le zo;omega);clear hs hg8 e7;refine enD ?_;refine stA 8 rfl (λK hK=>?_);refine wp_ndo 91 (.tmp 84) (.tmp 90) rfl p0 [us0] us1 (.slice ao8 1 cap8) (.slice (some ⟨p1,0,none⟩) 1 1) zc zc HRW10.out ⟨HP1.out.len,HP1.out.nw.1,HP1.out.nw.2⟩ HS1.out zo HG8.out (λv8 Z10 q1 q2 q3 q4=>hK _ _ ?_);clear hK K
          try simp only[Act.put,List.setIfInBounds_toArray,List.set_cons_zero,List.set_cons_succ]
          obtain⟨ao9,cap9,hv8,-⟩:=q1.at (λus h=>by rcases List.mem_append.1 h with h|h;obtain rfl:=List.mem_singleton.1 h;exact HP0.out.len;obtain rfl:=List.mem_singleton.1 h;exact HP1.out.len);have hv8:v8=.slice ao9 2 cap9:=hv8;subst hv8;have q1:RwK 32 8 p0 [us0,us1] (.slice ao9 2 cap9) Z10:=q1;have HNP:=hid (show ∀g,(Value.slice ao9 2 cap9).ownBlock=some g->g≠N from λg e=>by rcases q4 with h|h;(rw[h]at e;exact HNO.out g e);(rw[h]at e;cases e;have:=HN10.out.lt;omega));have HO11:=hid (ob_grown HO10.out q2 q3 (λg e=>by have:=(HOW.out _ e).1;have:=HQG.out;have:=HNG.out;have:=HGs.out;omega));have HB11:=hid (jO HB10.out q2 (λe=>by have:=(HOW.out _ e).1;have:=HQG.out;omega));have HG11:=hid (jO HG10.out q2 (λe=>by have:=(HOW.out _ e).1;have:=HQG.out;have:=HNG.out;omega));have HN11:=hid (jO HN10.out q2 (λe=>HNO.out _ e rfl));have HK011:=hid (HK010.out.grown q2 q3 (λg e=>by have:=(HOW.out _ e).1;have:=HGE.out;omega));have HRW11:=hid q1;have HK111:=hid (HK110.out.trans (Kc.grown2 q2 q3 (λg e=>by have:=(HOW.out _ e).2;have:=HBE1.out;omega)));clear HO10 HB10 HG10 HN10 HK010 HRW10 HK110;have HV11:=HV10;have HL11:=HL10;clear HV10 HL10;replace HNO:=HNP;clear q1 q2 q3 q4 HG8 HNP;refine tkF 9 (qN N) ?_
          try simp only[List.getElem_toArray,List.getElem_cons_succ,List.getElem_cons_zero,Act.put,List.setIfInBounds_toArray,List.set_cons_zero,List.set_cons_succ]
          refine stA 10 rfl (λK hK=>?_);refine stCO 7 (u:=.slice ao9 2 cap9) HN11.out (st_Nds ao9 2 cap9) rfl (nwSl ao8 1 cap8) (λZ11 B9 O=>hK _ _ ?_);clear hK K
          try simp only[List.getElem_toArray,List.getElem_cons_succ,List.getElem_cons_zero,Act.put,List.setIfInBounds_toArray,List.set_cons_zero,List.set_cons_succ]
          have HO12:=hid (HO11.out.new O jc);have HB12:=hid (O.bk HB11.out zi);have HG12:=hid (O.bk HG11.out zi);have HN12:=hid (show Bk Z11 N [.int .i64 (i:Int),.string ⟨#[]⟩,.int .i64 0,.bool false,.slice none 0 0,.int .i64 0,.int .i64 0,.slice ao9 2 cap9]from B9);have HK012:=hid (HK011.out.trans (Kc.only O HQN0.out));have HRW12:=hid (HRW11.out.ne (Ob.only O) HNO.out);have HK112:=hid (HK111.out.trans (Kc.only O HQN1.out));clear HO11 HB11 HG11 HN11 HK011 HRW11 HK111;have HV12:=HV11;have HL12:=HL11;clear HV11 HL11;clear B9 O;refine zP zc ?_ _;go_upto_region 22 with fail;refine wp_region_lit ?_;refine stL (λK hK=>wp_ld (p:=.pointer (some ⟨N,0,none⟩)) (u:=.agg [.int .i64 (i:Int),.string ⟨#[]⟩,.int .i64 0,.bool false,.slice none 0 0,.int .i64 0,.int .i64 0,.slice ao9 2 cap9].toArray) (ld_Nd _ _ _ rfl HN12.out) (hK _ _ ?_));clear hK K
          go_simp
          refine stL (λK hK=>?_);refine zE (us:= [.int .i64 (i:Int),.string ⟨#[]⟩,.int .i64 0,.bool false,.slice none 0 0,.int .i64 0,.int .i64 0,.slice ao9 2 cap9]) HG12.out st_Nd rfl rfl nwZN (λZ12 B8 O=>hK _ _ ?_);have HOe:=hid (HO12.out.new O (Nat.le_of_eq HGs.out));have HBe:=hid (O.bk HB12.out HRG.out);have KG0:=Kc.only O HQ0.out.1;have KG1:=Kc.only O HQ1.out.1;have HR:=hid (show NdW w (.mk i [] 0 0 0 0 [y0,y1]) (.agg [.int .i64 (i:Int),.string ⟨#[]⟩,.int .i64 0,.bool false,.slice none 0 0,.int .i64 0,.int .i64 0,.slice ao9 2 cap9].toArray) Z12 from nd_two (by have:=HG.out.2;constructor <;> omega) (HRW12.out.ob (Ob.only O) HQG.out.1) HQG.out.2.2 (NdC.low HQ0.out.2.2 _ _ (HP0.out.kc (HK012.out.trans KG0))) (NdC.low HQ1.out.2.2 _ _ (HP1.out.kc (HK112.out.trans KG1))));clear KG0 KG1;clear hK K O HO12 HB12 HG12 HN12;refine zI ?_;have d0:=B8.c 0 _ rfl;have d1:=B8.c 1 _ rfl;have d2:=B8.c 2 _ rfl;have d3:=B8.c 3 _ rfl;have d4:=B8.c 4 _ rfl;have d5:=B8.c 5 _ rfl;have d6:=B8.c 6 _ rfl;have d7:=B8.c 7 _ rfl;go_wp2_with fail;refine zH (v:=.agg [.int .i64 (i:Int),.string ⟨#[]⟩,.int .i64 0,.bool false,.slice none 0 0,.int .i64 0,.int .i64 0,.slice ao9 2 cap9].toArray) (by simp[results,results114,go_sem,d0,d1,d2,d3,d4,d5,d6,d7]) rfl ?_;exact RdP.done HV12.out HOe.out HBe.out HR.out
      · have hee:(wb.toList==xb.toList)=false:=by rw[<-HWB.out];exact HNE.out _ he
        have HNJ2:=hid (show ∀j:Nat,7<=j->j<i+1->opW (j:Int)≠x from λj h1 h2=>by
          rcases Nat.lt_succ_iff_lt_or_eq.1 h2 with h|h
          ·exact HNJ.out j h1 h
          ·rw[h];exact he)
        clear he HNJ;go_wp2_with fail
        go_roundg (gk-1)
        case measure=>have:=HG.out;omega
        case rel=>exact⟨i+1,rfl,rfl,by have:=HG.out;omega,by have:=HG.out;omega,hid ⟨E2.out,HNJ2.out⟩⟩
    · have hil:¬(i:Int)<=13:=by omega
      have HR:=hid (show T=none by rw[HV0.out,if_pos (callO_no (λj h1 h2=>S.out.2 j h1 (by omega)))]);have HO1:=hid (HO0.out.then S.out.1);clear S;go_wp2_with fail;rw[HR.out];exact⟨rfl,HO1.out,rfl⟩
end
end Go.Proofs.YtenhciieboegbaaGreatDoor
