/-
  Package notebook: the check of counts and searches. (Printed by wip/gen/njb2.py.)
-/
import Derived.Test.YtenhciieboegbaaGreatDoorNjw
namespace Go.Proofs.YtenhciieboegbaaGreatDoor
open Go Go.RowKit
open Go.Proofs.Tryz
theorem jo{P:Prop}(h:P:=by exact cl2 (fQ:=IsSc 0 (b++ [nm])) (en func128) (qA (fP:=IsV v) 0 35) (qA (fP:=IsV (.string sb)) 2 37) (λx0 y0 w' hE d0 d1=>by{obtain rfl:x0=v:=d0;obtain rfl:y0=.string sb:=d1;exact HN.out w' (EW.out.trans hE)})):P:=h
theorem yg{P:Prop}(h:P:=by exact fa (xS w.heap.size) (qC 3)):P:=h
theorem xh{P:Prop}(h:P:=by go_simp):P:=h
set_option maxRecDepth 100000
set_option maxHeartbeats 8000000
def IsZb(s:ByteArray)(lo hi:Int):Value->World->Prop:=λx _=>∃ao cp,x=.agg #[.int .i64 0,.string s,.int .i64 0,.bool false,.slice none 0 0,.int .i64 lo,.int .i64 hi,.slice ao 1 cp]
theorem IsZb.stb(s:ByteArray)(lo hi:Int):Stb (IsZb s lo hi):=λ_ _ _ _ h=>h
instance (s:ByteArray) (lo hi:Int):StbC (IsZb s lo hi):=⟨IsZb.stb s lo hi⟩
section
variable {ops:Array Oper} {Q:Exit->Act->World->Prop} {ds:List (Option Tmp)} {a0:Act} {w0:World} {L:List (Value->World->Prop)} {boxes:List Nat} {i k:Nat} {o:Oper} {os:List Oper}
theorem bdZb{s:ByteArray}{lo hi':Int}{x1 x4 x5 y:Operand}(h1:Od ops ds a0 w0 L i x1 (IsV (.string s)))(h4:Od ops ds a0 w0 L i x4 (iV lo))(h5:Od ops ds a0 w0 L i x5 (iV hi'))(hy:Od ops ds a0 w0 L i y (IsSl 1))
    (ho:o.op=.build 32 #[(1,x1),(4,x4),(5,x5),(6,y)]:=by rfl) (hi:L.getD i (λ_ _=>True)=IsZb s lo hi':=by kernel_rfl) (hb:boxes.contains i=false:=by kernel_rfl):Ok prog ops Q ds a0 w0 L boxes i o:=
  Ok.of hb λv a w hE hd hf=>by
    obtain⟨ao,cp,e6⟩:=hy.out v a w hE hd hf;have e1:a.eval x1=_:=h1.out v a w hE hd hf;have e4:a.eval x4=_:=h4.out v a w hE hd hf;have e5:a.eval x5=_:=h5.out v a w hE hd hf;have hr:(Instr.build 32 #[(1,.string s),(4,.int .i64 lo),(5,.int .i64 hi'),(6,.slice ao 1 cp)]).run prog w=.ok (.agg #[.int .i64 0,.string s,.int .i64 0,.bool false,.slice none 0 0,.int .i64 lo,.int .i64 hi',.slice ao 1 cp]) w:=xh
    exact⟨_,bdG ho (by simp only[List.map_toArray,List.map_cons,List.map_nil];rw[e1,e4,e5,e6];exact hr),by rw[hi];exact⟨ao,cp,rfl⟩⟩
end
theorem jI(g:Nat)(w:World):(Instr.fieldAt 32 (.pointer (some ⟨g,0,none⟩)) 0).run prog w=.ok (.pointer (some ⟨g,0,none⟩)) w:=by go_simp
theorem xS(g:Nat)(w:World):(Instr.fieldAt 32 (.pointer (some ⟨g,0,none⟩)) 1).run prog w=.ok (.pointer (some ⟨g,1,none⟩)) w:=by go_simp
theorem fa_Nd4(g:Nat)(w:World):(Instr.fieldAt 32 (.pointer (some ⟨g,0,none⟩)) 4).run prog w=.ok (.pointer (some ⟨g,5,none⟩)) w:=by go_simp
theorem fa_Nd5(g:Nat)(w:World):(Instr.fieldAt 32 (.pointer (some ⟨g,0,none⟩)) 5).run prog w=.ok (.pointer (some ⟨g,6,none⟩)) w:=by go_simp
theorem binds_ok{b:Sc}{x:Nd}(h:qZ x.op=true):inS b x=b++ [x.nm]/\okN b x=(qT x.nm&&decide (-1000000<=x.lo)&&decide (x.lo<=x.hi)&&decide (x.hi<=1000000)&&decide (x.hi-x.lo<1000)&&decide (x.n=0/\x.v=0/\x.ps.length=1)):=by
  have ho:x.op≠1/\x.op≠2/\x.op≠11/\x.op≠3:=by
    simp only[qZ,Bool.or_eq_true,zS]at h;omega
  refine⟨by rw[inS,if_pos h],?_⟩;unfold okN okF;rw[if_neg ho.1,if_neg ho.2.1,if_neg ho.2.2.1,if_neg ho.2.2.2,if_pos h];simp only[Bool.decide_and,Bool.and_assoc]
theorem tNjx_1{P:Prop}(h:P:=by
  refine rg 19 [some 35,some 36,some 37,some 38,some 39,some 40,some 41,some 42,some 43,some 44,some 45,some 46,some 47,some 48,some 49,some 50,some 51,some 4,some 5] [IsV v,IsP (w.heap.size) 1,IsV (.string sb),IsSc 0 (b++ [nm]),IsV (.bool false),IsV (.bool false),IsV undef,IsV undef,IsV undef,IsV undef,IsV undef,IsV undef,IsV undef,IsV undef,IsV undef,IsV undef,IsV (.bool false),IsSc 0 (b++ [nm]),IsV (.bool false)] [] 0 ?_ ?_
  · refine Rc xa ?_
    refine Rc yg ?_;refine Rc (lvC 1 B qP (qA 1 36)) ?_;refine Rc jo ?_;refine Rc (mv (qC (x:=.bool false) 6)) ?_;refine Rc (mv (qA (fP:=IsV (.bool false)) 4 39)) ?_;refine RcN 5 40 false ?_;refine RcN 5 40 false ?_;refine RcN 5 40 false ?_;refine RcN 5 40 false ?_;refine RcN 5 40 false ?_;refine RcN 5 40 false ?_;refine RcN 5 40 false ?_;refine RcN 5 40 false ?_;refine RcN 5 40 false ?_;refine RcN 5 40 false ?_;refine Rc (pk (b:=false) (qA 5 40) qD) ?_;refine Rc (mv (qA (fP:=IsSc 0 (b++ [nm])) 3 38)) ?_;refine Rc (mv (qA (fP:=IsV (.bool false)) 16 51)) ?_;exact rn0
  intro u X1 e1 hΦ _;have q5:=hΦ 17 dcx;have q6:u 18=.bool false:=hΦ 18 dcx;replace q5:IsSc 0 (b++ [nm]) (u 17) X1:=q5;simp only[lxE,Nat.reduceAdd];rw[q6];clear hΦ q6;refine zP zc ?_ _;go_wp2_with fail
  go_ret2
  exact⟨EW.out.trans e1,_,by rw[HR.out];rfl,λ_=>q5⟩
  ):P:=h
theorem binds_f{b:Sc}{x:Nd}{us:List Value}{v:Value}{w:World}(hv:IsSc 0 b v w)(hb:b.length<=1000000)(hx:NdC 0 w x us)(hl:x.nm.length<=4611686018427387904)(hop:qZ x.op=true):Calls prog 106 #[v,.agg us.toArray] w (CkP b x w):=by
  obtain⟨h2,h1⟩:=binds_ok (b:=b) hop;obtain⟨r,hr⟩:∃r,okN b x=r:=⟨_,rfl⟩;unfold CkP;rw[hr,h2];rw[hr]at h1;obtain⟨s,a,m,c,ao,cp,rfl,hI,-,-,-⟩:=hx.out;obtain⟨z,hzz⟩:∃z,decide (x.n=0/\x.v=0/\x.ps.length=1)=z:=⟨_,rfl⟩;have hp:decide (x.nm=x.nm/\x.n=0/\x.lo=x.lo/\x.hi=x.hi/\m=0/\s=false/\x.ps.length=1)=z:=by rw[<-hzz];apply decide_eq_decide.2;rw[<-hI.zr];simp[and_assoc]
  rw[hzz]at h1;clear h2 hr hI hx hop hzz;generalize x.op=op at*;generalize x.nm=nm at*;generalize x.n=n at*;generalize x.lo=lo at*;generalize x.hi=hi at*;generalize x.ps.length=l at*;have hN:=λw' (e:Ext w w')=>isName_f vlsC nm w' hl
  have hW:=λw' (e:Ext w w')=>zG (with_f (hv.ext e) hb nm) (λe w2 (h:Ret w' _ e w2)=>(show Ret w' (IsSc 0 (b++ [nm])) e w2 from let ⟨x,h1,h2,h3⟩:=h;⟨x,h1,h2,h3.low (Nat.zero_le _)⟩))
  obtain⟨p1,hp1⟩:∃q,qT nm=q:=⟨_,rfl⟩;rw[hp1]at h1;obtain⟨sb,hsb⟩:∃y,(⟨nm.toArray⟩:ByteArray)=y:=⟨_,rfl⟩;have hx1:qB nm=.string sb:=xl
  have hP:∀(w:World) (ao2:Option Addr) (cp2:Nat),Calls prog 100 #[.agg #[.int .i64 op,qB nm,.int .i64 n,.bool s,.slice a m c,.int .i64 lo,.int .i64 hi,.slice ao l cp],.agg #[.int .i64 0,qB nm,.int .i64 0,.bool false,.slice none 0 0,.int .i64 lo,.int .i64 hi,.slice ao2 1 cp2]] w (RVal w (.bool z)):=λw ao2 cp2=>by rw[<-hp];exact plain_f
  simp only[hp1,hx1]at hN hP hW;have HI:=hid hN;have HP:=hid hP;have HN:=hid hW;have H1:=hid h1;rw[hx1];clear h1 hv hN hP hx1 hsb hp hp1 hl hb hW
  obtain⟨W,hW,E,B⟩:∃W,W=w.alloc (.cells #[.int .i64 op,.string sb,.int .i64 n,.bool s,.slice a m c,.int .i64 lo,.int .i64 hi,.slice ao l cp] 32)/\Ext w W/\Bk W w.heap.size [.int .i64 op,.string sb,.int .i64 n,.bool s,.slice a m c,.int .i64 lo,.int .i64 hi,.slice ao l cp]:=
    ⟨_,rfl,(Ext.refl w).alloc _,Bk.new w _ _⟩
  have B0:=hid B;have E0:=hid E;clear B E;cases p1 with
  | false=>
    have HR:=hid (show r=false by rw[H1.out];rfl);have q0:=trivial;go_enter func106,ntmps106;go_upto_region 1 with fail;rw[<-hW];clear hW;have c1:=B0.out.c 1 _ rfl;go_upto_region 2 with(go_at_call 32;refine zG (HI.out _ E0.out) ?_;rintro e w1 ⟨rfl,e1⟩;have c1:=(B0.out.ext e1).c 1 _ rfl;have c5:=(B0.out.ext e1).c 5 _ rfl;have c6:=(B0.out.ext e1).c 6 _ rfl);have B:=B0.out.ext e1;have EW:=hid (E0.out.trans e1);clear c1 e1
    try clear c5 c6
    clear q0;exact tNjx_1
  | true=>
    by_cases h1: -1000000<=lo
    · by_cases h2:lo<=hi
      · by_cases h3:hi<=1000000
        · have hw:IntKind.i64.wrap (hi-lo)=hi-lo:=by simp only[IntKind.wrap_i64];omega
          by_cases h4:hi-lo<1000
          · have HR:=hid (show r=z by rw[H1.out];simp[h1,h2,h3,h4])
            have q0:=trivial;go_enter func106,ntmps106;go_upto_region 1 with fail;rw[<-hW];clear hW;have c1:=B0.out.c 1 _ rfl;go_upto_region 2 with(go_at_call 32;refine zG (HI.out _ E0.out) ?_;rintro e w1 ⟨rfl,e1⟩;have c1:=(B0.out.ext e1).c 1 _ rfl;have c5:=(B0.out.ext e1).c 5 _ rfl;have c6:=(B0.out.ext e1).c 6 _ rfl);have B:=B0.out.ext e1;have EW:=hid (E0.out.trans e1);clear c1 e1
            try clear c5 c6
            try simp only[show ∀i:Decidable (hi-lo<1000),@decide _ i=true from λi=>decide_eq_true (by omega)]
            clear q0 h1 h2 h3 h4 hw;refine rg 19 [some 35,some 36,some 37,some 38,some 39,some 40,some 41,some 42,some 43,some 44,some 45,some 46,some 47,some 48,some 49,some 50,some 51,some 4,some 5] [IsV v,IsP (w.heap.size) 1,IsV (.string sb),IsSc 0 (b++ [nm]),IsV (.bool true),IsV (.bool true),IsV (.agg #[.int .i64 op,.string sb,.int .i64 n,.bool s,.slice a m c,.int .i64 lo,.int .i64 hi,.slice ao l cp]),IsP (w.heap.size) 1,IsV (.string sb),IsP (w.heap.size) 5,iV lo,IsP (w.heap.size) 6,iV hi,IsSl 1,IsZb sb lo hi,IsV (.bool z),IsV (.bool z),IsSc 0 (b++ [nm]),IsV (.bool z)] [] 0 ?_ ?_
            · refine Rc xa ?_
              refine Rc yg ?_;refine Rc (lvC 1 B qP (qA 1 36)) ?_;refine Rc jo ?_;refine Rc (mv (qC (x:=.bool true) 6)) ?_;refine Rc (mv (qA (fP:=IsV (.bool true)) 4 39)) ?_;refine RcG 5 40 true (lvV B ld_Nd (qC 3)) ?_;refine RcG 5 40 true yg ?_;refine RcG 5 40 true (lvC 1 B qP (qA 7 42)) ?_;refine RcG 5 40 true (fa (fa_Nd4 w.heap.size) (qC 3)) ?_;refine RcG 5 40 true (lvC 5 B xL (qA 9 44)) ?_;refine RcG 5 40 true (fa (fa_Nd5 w.heap.size) (qC 3)) ?_;refine RcG 5 40 true (lvC 6 B xL (qA 11 46)) ?_;refine RcG 5 40 true (mkS (n:=1)) ?_;refine RcG 5 40 true (bdZb (s:=sb) (lo:=lo) (hi':=hi) (qA (fP:=IsV (.string sb)) 8 43) (qA (fP:=iV lo) 10 45) (qA (fP:=iV hi) 12 47) (qA (fP:=IsSl 1) 13 48)) ?_;refine RcG 5 40 true (cl2 (fQ:=IsV (.bool z)) (en func100) (qA (fP:=IsV (.agg #[.int .i64 op,.string sb,.int .i64 n,.bool s,.slice a m c,.int .i64 lo,.int .i64 hi,.slice ao l cp])) 6 41) (qA (fP:=IsZb sb lo hi) 14 49) (λx0 y0 w' hE d0 d1=>by{obtain rfl:x0=.agg #[.int .i64 op,.string sb,.int .i64 n,.bool s,.slice a m c,.int .i64 lo,.int .i64 hi,.slice ao l cp]:=d0;obtain⟨ao2,cp2,rfl⟩:=d1;exact zG (HP.out _ _ _) (λe w2 h=>⟨_,h.1,h.2,rfl⟩)})) ?_;refine Rc (pk (b:=true) (qA 5 40) (qA (fP:=IsV (.bool z)) 15 50)) ?_;refine Rc (mv (qA (fP:=IsSc 0 (b++ [nm])) 3 38)) ?_;refine Rc (mv (qA (fP:=IsV (.bool z)) 16 51)) ?_;exact rn0
            intro u X1 e1 hΦ _;have q5:=hΦ 17 dcx;have q6:u 18=.bool z:=hΦ 18 dcx;replace q5:IsSc 0 (b++ [nm]) (u 17) X1:=q5;simp only[lxE,Nat.reduceAdd];rw[q6];clear hΦ q6;refine zP zc ?_ _;go_wp2_with fail
            go_ret2
            exact⟨EW.out.trans e1,_,by rw[HR.out];rfl,λ_=>q5⟩
          · have HR:=hid (show r=false by rw[H1.out];simp[h4])
            have q0:=trivial;go_enter func106,ntmps106;go_upto_region 1 with fail;rw[<-hW];clear hW;have c1:=B0.out.c 1 _ rfl;go_upto_region 2 with(go_at_call 32;refine zG (HI.out _ E0.out) ?_;rintro e w1 ⟨rfl,e1⟩;have c1:=(B0.out.ext e1).c 1 _ rfl;have c5:=(B0.out.ext e1).c 5 _ rfl;have c6:=(B0.out.ext e1).c 6 _ rfl);have B:=B0.out.ext e1;have EW:=hid (E0.out.trans e1);clear c1 e1
            try clear c5 c6
            try simp only[show ∀i:Decidable (hi-lo<1000),@decide _ i=false from λi=>decide_eq_false (by omega)]
            clear q0 h1 h2 h3 h4 hw;exact tNjx_1
        · have HR:=hid (show r=false by rw[H1.out];simp[h3])
          have q0:=trivial;go_enter func106,ntmps106;go_upto_region 1 with fail;rw[<-hW];clear hW;have c1:=B0.out.c 1 _ rfl;go_upto_region 2 with(go_at_call 32;refine zG (HI.out _ E0.out) ?_;rintro e w1 ⟨rfl,e1⟩;have c1:=(B0.out.ext e1).c 1 _ rfl;have c5:=(B0.out.ext e1).c 5 _ rfl;have c6:=(B0.out.ext e1).c 6 _ rfl);have B:=B0.out.ext e1;have EW:=hid (E0.out.trans e1);clear c1 e1
          try clear c5 c6
          try simp only[show ∀i:Decidable (hi<=1000000),@decide _ i=false from λi=>decide_eq_false (by omega)]
          clear q0 h1 h2 h3;exact tNjx_1
      · have HR:=hid (show r=false by rw[H1.out];simp[h2])
        have q0:=trivial;go_enter func106,ntmps106;go_upto_region 1 with fail;rw[<-hW];clear hW;have c1:=B0.out.c 1 _ rfl;go_upto_region 2 with(go_at_call 32;refine zG (HI.out _ E0.out) ?_;rintro e w1 ⟨rfl,e1⟩;have c1:=(B0.out.ext e1).c 1 _ rfl;have c5:=(B0.out.ext e1).c 5 _ rfl;have c6:=(B0.out.ext e1).c 6 _ rfl);have B:=B0.out.ext e1;have EW:=hid (E0.out.trans e1);clear c1 e1
        try clear c5 c6
        try simp only[show ∀i:Decidable (lo<=hi),@decide _ i=false from λi=>decide_eq_false (by omega)]
        clear q0 h1 h2;exact tNjx_1
    · have HR:=hid (show r=false by rw[H1.out];simp[h1])
      have q0:=trivial;go_enter func106,ntmps106;go_upto_region 1 with fail;rw[<-hW];clear hW;have c1:=B0.out.c 1 _ rfl;go_upto_region 2 with(go_at_call 32;refine zG (HI.out _ E0.out) ?_;rintro e w1 ⟨rfl,e1⟩;have c1:=(B0.out.ext e1).c 1 _ rfl;have c5:=(B0.out.ext e1).c 5 _ rfl;have c6:=(B0.out.ext e1).c 6 _ rfl);have B:=B0.out.ext e1;have EW:=hid (E0.out.trans e1);clear c1 e1
      try clear c5 c6
      try simp only[show ∀i:Decidable (-1000000<=lo),@decide _ i=false from λi=>decide_eq_false (by omega)]
      clear q0 h1;exact tNjx_1
end Go.Proofs.YtenhciieboegbaaGreatDoor
