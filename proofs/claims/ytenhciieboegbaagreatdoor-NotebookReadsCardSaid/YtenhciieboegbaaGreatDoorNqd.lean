/-
  The law NotebookReads at every input. (Printed by wip/gen/nqd.py.)
-/
import Derived.Test.YtenhciieboegbaaGreatDoorNqc
import Derived.Test.YtenhciieboegbaaGreatDoorNus
import Derived.Laws.BytesArg
namespace Go.Proofs.YtenhciieboegbaaGreatDoor
open Go Go.RowKit Go.Maps
open Go.Proofs.Tryz
theorem zay{P:Prop}(h:P:=by have:=HST.out.1;omega):P:=h
theorem jg{P:Prop}(h:P:=by exact mv (qC (x:=.int .i64 (p:Int)) 9)):P:=h
theorem jm{P:Prop}(h:P:=by exact mv (qC (x:=.string sb) 8)):P:=h
theorem ye{P:Prop}(h:P:=by exact slLo (m:=400) (qA (fP:=IsV (.string sb)) 2 51) (qA (fP:=iV (p:Int)) 3 52) HST.out.2.1 (zO HST.out.2.1 zay)):P:=h
theorem xm{P:Prop}(h:P:=by exact slLo (qA (fP:=IsV (.string tb)) 5 54) (qA (fP:=iV (q2:Int)) 8 57) HQ2.out.2.1 HQ2.out.2.2):P:=h
theorem xo{P:Prop}(h:P:=by exact slHi (qA (fP:=IsV (.string sb)) 11 60) (qA (fP:=iV (p:Int)) 12 61) HST.out.2.1 HST.out.1):P:=h
def StrM(m:Nat):Value->World->Prop:=λv _=>∃b:ByteArray,v=.string b/\b.size<=m
theorem StrM.stb(m:Nat):Stb (StrM m):=λ_ _ _ _ h=>h
instance (m:Nat):StbC (StrM m):=⟨StrM.stb m⟩
def Six:Value->World->Prop:=λv w=>∃g,v=.slice (some ⟨g,0,none⟩) 6 6/\∀j,j<6->∃b:ByteArray,World.cell? w ⟨g,j,none⟩=some (.string b)/\b.size<=1000000
theorem Six.stb:Stb Six:=λ_ _ _ e ⟨g,h1,h2⟩=>⟨g,h1,λj hj=>let ⟨b,q1,q2⟩:=h2 j hj;⟨b,e.cell q1,q2⟩⟩
instance:StbC Six:=⟨Six.stb⟩
section
variable {ops:Array Oper} {Q:Exit->Act->World->Prop} {ds:List (Option Tmp)} {a0:Act} {w0:World} {L:List (Value->World->Prop)} {boxes:List Nat} {i k:Nat} {o:Oper} {os:List Oper}
theorem slLo{sb:ByteArray}{n m:Nat}{x z:Operand}(hx:Od ops ds a0 w0 L i x (IsV (.string sb)))(hz:Od ops ds a0 w0 L i z (iV (n:Int)))(hn:n<=sb.size)(hm:n<=m)(ho:o.op=.slice 9 x none (some z) none:=by rfl)(hi:L.getD i (λ_ _=>True)=StrM m:=by kernel_rfl)(hb:boxes.contains i=false:=by kernel_rfl):Ok prog ops Q ds a0 w0 L boxes i o:=
  Ok.of hb λv a w hE hd hf=>⟨.string (sb.extract 0 n),by
    have e1:a.eval x=.string sb:=hx.out v a w hE hd hf;have e3:a.eval z=.int .i64 (n:Int):=hz.out v a w hE hd hf;have h0:(0:Int)<=(n:Int):=ze
    have h2:(n:Int)<=(sb.size:Int):=ze
    unfold execOp;rw[ho];dsimp only[Option.map];rw[e1,e3]
    go_simp,by rw[hi];exact⟨_,rfl,by simp;omega⟩⟩
theorem slHi{sb:ByteArray}{n m:Nat}{x z:Operand}(hx:Od ops ds a0 w0 L i x (IsV (.string sb)))(hz:Od ops ds a0 w0 L i z (iV (n:Int)))(hn:n<=sb.size)(hm:sb.size<=m)(ho:o.op=.slice 9 x (some z) none none:=by rfl)(hi:L.getD i (λ_ _=>True)=StrM m:=by kernel_rfl)(hb:boxes.contains i=false:=by kernel_rfl):Ok prog ops Q ds a0 w0 L boxes i o:=
  Ok.of hb λv a w hE hd hf=>⟨.string (sb.extract n sb.size),by
    have e1:a.eval x=.string sb:=hx.out v a w hE hd hf;have e3:a.eval z=.int .i64 (n:Int):=hz.out v a w hE hd hf;have h0:(0:Int)<=(n:Int):=ze
    have h2:(n:Int)<=(sb.size:Int):=ze
    unfold execOp;rw[ho];dsimp only[Option.map];rw[e1,e3]
    go_simp,by rw[hi];exact⟨_,rfl,by simp;omega⟩⟩
theorem catM{m n p:Nat}{x y:Operand}(hx:Od ops ds a0 w0 L i x (StrM m))(hy:Od ops ds a0 w0 L i y (StrM n))(hp:m+n<=p)(hm:p<=1000000)(ho:o.op=.binOp .add 9 x y 9:=by rfl)(hi:L.getD i (λ_ _=>True)=StrM p:=by kernel_rfl)(hb:boxes.contains i=false:=by kernel_rfl):Ok prog ops Q ds a0 w0 L boxes i o:=
  Ok.of hb λv a w hE hd hf=>by
    obtain⟨b,e1,l1⟩:=hx.out v a w hE hd hf;obtain⟨c,e2,l2⟩:=hy.out v a w hE hd hf;refine⟨.string (b++c),?_,by rw[hi];exact⟨_,rfl,by simp;omega⟩⟩;have:=cat_runB b c ze x y w;unfold execOp;rw[ho];dsimp only;rw[e1,e2];cases hg:Sem.run prog (eqGuard .add 9 x y (.string b) (.string c)) w with
    |ok u w1=>simp[hg]at this ⊢;rw[this];simp
    |halt e w1=>simp[hg]at this
theorem mvM{sb:ByteArray}{m:Nat}{x:Operand}(hx:Od ops ds a0 w0 L i x (IsV (.string sb)))(hm:sb.size<=m)(ho:o.op=.move x\/o.op=.assign x:=by first|exact .inl rfl|exact .inr rfl)(hi:L.getD i (λ_ _=>True)=StrM m:=by kernel_rfl)(hb:boxes.contains i=false:=by kernel_rfl):Ok prog ops Q ds a0 w0 L boxes i o:=
  mv ⟨λv a w hE hd hf=>by rw[hi];exact⟨sb,hx.out v a w hE hd hf,hm⟩⟩ ho hb
theorem cvW{x:Operand}{n:Nat}(hx:Od ops ds a0 w0 L i x (IsV (.int .u16 (n:Int))))(_hn:n<=65535)(ho:o.op=.convert 50 5 x:=by rfl)(hi:L.getD i (λ_ _=>True)=IsV (.int .u8 ((n%256:Nat):Int)):=by kernel_rfl)(hb:boxes.contains i=false:=by kernel_rfl):Ok prog ops Q ds a0 w0 L boxes i o:=
  Ok.of hb λv a w hE hd hf=>by
    have h1:a.eval x=.int .u16 (n:Int):=hx.out v a w hE hd hf;have hw:IntKind.u8.wrap (n:Int)=((n%256:Nat):Int):=by rw[IntKind.wrap_u8];omega
    refine⟨_,?_,by rw[hi];exact rfl⟩;unfold execOp;rw[ho];dsimp only;rw[h1]
    go_simp
theorem bsBy{n:Nat}{x:Operand}(hx:Od ops ds a0 w0 L i x (IsV (.int .u8 (n:Int))))(ho:o.op=.buildSlice 52 1 #[(0,x)]:=by rfl)(hi:L.getD i (λ_ _=>True)=SrcR 1 [.int .u8 (n:Int)]:=by kernel_rfl)(hb:boxes.contains i=false:=by kernel_rfl):Ok prog ops Q ds a0 w0 L boxes i o:=
  ⟨fun v a w hE hd hf K hK=>by
    have h1:a.eval x=.int .u8 (n:Int):=hx.out v a w hE hd hf;have hr:(Instr.buildSlice 52 1 #[(0,.int .u8 (n:Int))]).run prog w=.ok (.slice (some ⟨w.heap.size,0,none⟩) 1 1) (w.alloc (.cells #[.int .u8 (n:Int)] 5)):=xh
    have hrun:(execOp a.eval o).run prog w=.ok (.value (.slice (some ⟨w.heap.size,0,none⟩) 1 1)) (w.alloc (.cells #[.int .u8 (n:Int)] 5)):=by
      unfold execOp;rw[ho];dsimp only;simp only[List.map_toArray,List.map_cons,List.map_nil];rw[h1];simp[hr]
    unfold Oper.wp;rw[hrun];refine hK.out _ _ ((Ext.refl w).alloc _) ?_ (FreshIf.no hb);rw[hi]
    exact SrcR.new w #[.int .u8 (n:Int)] 5 1 1⟩
theorem cvB{n:Nat}{x:Operand}(hx:Od ops ds a0 w0 L i x (SrcR 1 [.int .u8 (n:Int)]))(ho:o.op=.convert 52 9 x:=by rfl)(hi:L.getD i (λ_ _=>True)=StrM 1:=by kernel_rfl)(hb:boxes.contains i=false:=by kernel_rfl):Ok prog ops Q ds a0 w0 L boxes i o:=
  Ok.of hb λv a w hE hd hf=>by
    rcases hx.out v a w hE hd hf with⟨-,h,-⟩| ⟨g,f,c,h1,h2⟩
    ·cases h
    refine⟨.string (strOfNums [(n:Int)]),?_,by rw[hi];exact⟨_,rfl,by rw[strOfNums_size];exact zN _⟩⟩
    have hr:=run_convert_bytes_arg (P:=prog) w 52 5 zc zc g f 1 c [(n:Int)] rfl (λj hj=>by
      obtain rfl:j=0:=ze
      exact h2 0 _ rfl) 9 zc
    unfold execOp;rw[ho];dsimp only;rw[h1];simp[hr]
theorem bs6{x0 x1 x2 x3 x4 x5:Operand}(h0:Od ops ds a0 w0 L i x0 (StrM 1000000))(h1:Od ops ds a0 w0 L i x1 (StrM 1000000))(h2:Od ops ds a0 w0 L i x2 (StrM 1000000))(h3:Od ops ds a0 w0 L i x3 (StrM 1000000))(h4:Od ops ds a0 w0 L i x4 (StrM 1000000))(h5:Od ops ds a0 w0 L i x5 (StrM 1000000))
    (ho:o.op=.buildSlice 53 6 #[(0,x0),(1,x1),(2,x2),(3,x3),(4,x4),(5,x5)]:=by rfl) (hi:L.getD i (λ_ _=>True)=Six:=by kernel_rfl) (hb:boxes.contains i=false:=by kernel_rfl):Ok prog ops Q ds a0 w0 L boxes i o:=
  ⟨fun v a w hE hd hf K hK=>by
    obtain⟨b0,e0,l0⟩:=h0.out v a w hE hd hf;obtain⟨b1,e1,l1⟩:=h1.out v a w hE hd hf;obtain⟨b2,e2,l2⟩:=h2.out v a w hE hd hf;obtain⟨b3,e3,l3⟩:=h3.out v a w hE hd hf;obtain⟨b4,e4,l4⟩:=h4.out v a w hE hd hf;obtain⟨b5,e5,l5⟩:=h5.out v a w hE hd hf;have hr:(Instr.buildSlice 53 6 #[(0,.string b0),(1,.string b1),(2,.string b2),(3,.string b3),(4,.string b4),(5,.string b5)]).run prog w=.ok (.slice (some ⟨w.heap.size,0,none⟩) 6 6) (w.alloc (.cells #[.string b0,.string b1,.string b2,.string b3,.string b4,.string b5] 9)):=xh
    have hrun:(execOp a.eval o).run prog w=.ok (.value (.slice (some ⟨w.heap.size,0,none⟩) 6 6)) (w.alloc (.cells #[.string b0,.string b1,.string b2,.string b3,.string b4,.string b5] 9)):=by
      unfold execOp;rw[ho];dsimp only;simp only[List.map_toArray,List.map_cons,List.map_nil];rw[e0,e1,e2,e3,e4,e5];simp[hr]
    have B:=Bk.new w #[.string b0,.string b1,.string b2,.string b3,.string b4,.string b5] 9;unfold Oper.wp;rw[hrun];refine hK.out _ _ ((Ext.refl w).alloc _) ?_ (FreshIf.no hb);rw[hi];refine⟨_,rfl,λj hj=>?_⟩;rcases(by omega:j=0\/j=1\/j=2\/j=3\/j=4\/j=5)with rfl|rfl|rfl|rfl|rfl|rfl
    ·exact⟨b0,B.c 0 _ rfl,l0⟩
    ·exact⟨b1,B.c 1 _ rfl,l1⟩
    ·exact⟨b2,B.c 2 _ rfl,l2⟩
    ·exact⟨b3,B.c 3 _ rfl,l3⟩
    ·exact⟨b4,B.c 4 _ rfl,l4⟩
    ·exact⟨b5,B.c 5 _ rfl,l5⟩⟩
theorem lenS{sb:ByteArray}{x:Operand}(hx:Od ops ds a0 w0 L i x (IsV (.string sb)))(ho:o.op=.call {callee:=.builtin .len,args:= #[x],argTypes:= #[9]} :=by rfl)(hi:L.getD i (λ_ _=>True)=iV ((sb.size:Nat):Int):=by kernel_rfl)(hb:boxes.contains i=false:=by kernel_rfl):Ok prog ops Q ds a0 w0 L boxes i o:=
  Ok.of hb λv a w hE hd hf=>by
    have h1:a.eval x=_:=hx.out v a w hE hd hf;refine⟨_,?_,by rw[hi];exact rfl⟩;unfold execOp;rw[ho];dsimp only;unfold resolve;simp only[List.map_toArray,List.map_cons,List.map_nil,h1]
    go_simp
theorem minG{p q r:Int}{x y:Operand}(hx:Od ops ds a0 w0 L i x (iV p))(hy:Od ops ds a0 w0 L i y (iV q))(hr:min p q=r)(ho:o.op=.call {callee:=.builtin .min,args:= #[x,y],argTypes:= #[3,3]} :=by rfl)(hi:L.getD i (λ_ _=>True)=iV r:=by kernel_rfl)(hb:boxes.contains i=false:=by kernel_rfl):Ok prog ops Q ds a0 w0 L boxes i o:=
  Ok.of hb λv a w hE hd hf=>by
    have h1:a.eval x=_:=hx.out v a w hE hd hf;have h2:a.eval y=_:=hy.out v a w hE hd hf;refine⟨_,?_,by rw[hi];exact rfl⟩;unfold execOp;rw[ho];dsimp only;unfold resolve;simp only[List.map_toArray,List.map_cons,List.map_nil,h1,h2];rw[<-hr]
    go_simp
end
theorem sameB_self9(l:List Cl):sameB l l=true:=(sameB_iff l l).2 rfl
theorem trm_hg{c:Cl}(h:TrC c):hgN 20 c.e:=sz_hg (trC_sz h)
theorem paE_len{s:List UInt8}:(paE s).1.length<=1000000000:=by
  unfold paE
  split
  ·exact Nat.zero_le _
  split
  ·exact Nat.zero_le _
  split
  · rename_i l _ h
    exact zO (prE_rt h.1).2 dcx
  ·exact Nat.zero_le _
section
set_option maxRecDepth 100000
set_option maxHeartbeats 16000000
theorem ix_3w(g j:Nat)(h:j<3)(w:World):(Instr.indexAt 51 (.pointer (some ⟨g,0,none⟩)) (.int .i64 (j:Int))).run prog w=.ok (.pointer (some ⟨g,j,none⟩)) w:=by
  rcases(by omega:j=0\/j=1\/j=2)with rfl|rfl|rfl <;> go_simp
theorem ld_u16(w:World)(a:Addr)(v:Value)(h:World.cell? w a=some v):(Instr.loadAt 50 (.pointer (some a))).run prog w=.ok v w:=by go_simp
theorem field_Tx{w:World}{b:ByteArray}{z:Int}{x:Operand}{ops:Array Oper}{Q:Exit->Act->World->Prop}{a:Act}{o:Oper}{os:List Oper}(h:wpList prog ops Q os (a.put o.dst (.string b)) w)(ho:o.op=.field 40 x 0:=by rfl)(he:a.eval x=.agg #[.string b,.int .i64 z]:=by kernel_rfl)(hg:o.guard=none:=by rfl):wpList prog ops Q (o ::os) a w:=
  stL (λK hK=>by
    have hrun:(execOp a.eval o).run prog w=.ok (.value (.string b)) w:=by
      unfold execOp;rw[ho];dsimp only;rw[he];have h9:(Instr.field 40 (.agg #[.string b,.int .i64 z]) 0).run prog w=.ok (.string b) w:=by unfold Instr.field;go_simp;rfl
      simp[h9]
    unfold Oper.wp;rw[hrun]
    exact hK _ _ h) hg
theorem tNqd_1{P:Prop}(h:P:=by
  intro y X5 e5 hΦ _;obtain⟨g,v37,hsix⟩:=(show Six (y 37) X5 from hΦ 37 dcx);simp only[lxE,Nat.reduceAdd];rw[v37];have HSX:=hid hsix;have HE5:=hid (HEX.out.trans e5);clear v37 hΦ e5 hsix HEX;refine zP zc ?_ _;go_wp2_with fail
  go_loopg [12] 6 (λgk v12 wr=>∃i:Nat,v12=.int .i64 (i:Int)/\i+gk=6/\Hid (Ext X5 wr))
  case atStart=>exact⟨0,rfl,rfl,hid (Ext.refl _)⟩
  case round=>
    obtain⟨i,rfl,hg,S⟩:=hrel;by_cases hi:i<6
    · have hil:(i:Int)<6:=by omega
      have hiw:IntKind.i64.wrap ((i:Int)+1)=((i+1:Nat):Int):=zh
      obtain⟨ub,hc,hl⟩:=HSX.out i hi;obtain⟨u,hu⟩:∃u:List UInt8,qB u=.string ub:=⟨ub.data.toList,by rw[qB]⟩
      have hul:u.length<=1000000:=by
        rw[qB]at hu;injection hu with hu;rw[<-hu]at hl;exact hl
      rw[<-hu]at hc;have HI:=hid (zL hg hi);have HCU:=hid (show World.cell? wr ⟨g,i,none⟩=some (qB u)from S.out.cell hc);have HUL:=hid (show u.length<=4611686018427387904/\u.length<=1000000 from⟨by omega,hul⟩);have HTX:=hid (HT.out.1.ext (HE5.out.trans S.out));have HEr:=hid S.out;clear hg hi hc hl hu hul S;go_upto_region 15 with fail;refine rg 12 (dR 92 12) [IsV (.slice (some ⟨g,0,none⟩) 6 6),iV (i:Int),IsP g i,IsV (qB u),IsPa 0 (paE u).1 (paE u).2,IsV (.slice (some ⟨g,0,none⟩) 6 6),iV (i:Int),IsP g i,IsV (qB u),IsPa 0 (paE u).1 (paE u).2,IsV (.bool true),IsV (.bool false)] [] 0 ?_ ?_
      · refine Rc (mv (qC (x:=.slice (some ⟨g,0,none⟩) 6 6) 11)) ?_
        refine Rc (mv (qC (x:=.int .i64 (i:Int)) 12)) ?_;refine Rc (ixq (ix_Sx g 6 6 i HI.out.2) (qA (fP:=IsV (.slice (some ⟨g,0,none⟩) 6 6)) 0 92) (qA (fP:=iV (i:Int)) 1 93)) ?_;refine Rc (lv (fP:=IsV (qB u)) _ (λw' e=>qP _ _ _ (e.cell HCU.out)) (qA 2 94) (λ_ _=>rfl)) ?_;refine Rc (cl1 (fP:=IsV (qB u)) (fQ:=IsPa 0 (paE u).1 (paE u).2) (en func19) (qA 3 95) (λx0 w' hE d0=>by{obtain rfl:x0=qB u:=d0;exact ret_up (parsed_f HUL.out.1 (HTX.out.ext hE)) (λ_ _ ⟨y,h1,h2⟩=>⟨y,h1,h2.low (Nat.zero_le _)⟩)})) ?_;refine Rc (mv (qC (x:=.slice (some ⟨g,0,none⟩) 6 6) 11)) ?_;refine Rc (mv (qC (x:=.int .i64 (i:Int)) 12)) ?_;refine Rc (ixq (ix_Sx g 6 6 i HI.out.2) (qA (fP:=IsV (.slice (some ⟨g,0,none⟩) 6 6)) 5 97) (qA (fP:=iV (i:Int)) 6 98)) ?_;refine Rc (lv (fP:=IsV (qB u)) _ (λw' e=>qP _ _ _ (e.cell HCU.out)) (qA 7 99) (λ_ _=>rfl)) ?_;refine Rc (cl1 (fP:=IsV (qB u)) (fQ:=IsPa 0 (paE u).1 (paE u).2) (en func20) (qA 8 100) (λx0 w' hE d0=>by{obtain rfl:x0=qB u:=d0;have h:=ParseIn_f (s:=u) (w:=w') HUL.out.2;rw[paR_eq]at h;exact ret_up h (λ_ _ ⟨y,h1,h2⟩=>⟨y,h1,h2.low (Nat.zero_le _)⟩)})) ?_;refine Rc (cl2 (fP:=IsPa 0 (paE u).1 (paE u).2) (fR:=IsPa 0 (paE u).1 (paE u).2) (fQ:=IsV (.bool true)) (en func18) (qA 4 96) (qA 9 101) (λx0 y0 w' hE d0 d1=>by{have h:=samePair_f d0 d1 paE_len;rw[sameB_self9,decide_eq_true rfl]at h;exact h})) ?_;refine Rc (un (p:=.bool true) (r:=.bool false) (qA (fP:=IsV (.bool true)) 10 102) rfl (λw=>by go_simp)) ?_;exact rn0
      intro y X6 e6 hΦ _;have q9:y 11=.bool false:=hΦ 11 dcx;simp only[lxE,Nat.reduceAdd];rw[q9];have HE6:=hid (HEr.out.trans e6);clear hΦ q9 e6 HEr;refine zP zc ?_ _;go_wp2_with fail
      go_roundg (gk-1)
      case measure=>have:=HI.out;omega
      case rel=>exact⟨i+1,rfl,by have:=HI.out;omega,hid HE6.out⟩
    · have hil:¬(i:Int)<6:=by omega
      have HEr:=hid S.out;clear hg hi S;go_wp2_with fail
      go_ret
      exact⟨_,rfl,RET.out _ (HE5.out.trans HEr.out),rfl⟩
  ):P:=h
theorem tNqd_2{P:Prop}(h:P:=by
  refine Rc jm ?_;refine Rc jg ?_;refine Rc (slLo (m:=1000000) (qA (fP:=IsV (.string sb)) 16 65) (qA (fP:=iV (p:Int)) 17 66) HST.out.2.1 (zO HST.out.2.1 zay)) ?_;refine Rc jm ?_;refine Rc jg ?_;refine Rc (slLo (m:=400) (qA (fP:=IsV (.string sb)) 19 68) (qA (fP:=iV (p:Int)) 20 69) HST.out.2.1 (zO HST.out.2.1 zay)) ?_;refine Rc (ixq (ix_3w w.heap.size 1 dcx) (qC (x:=.pointer (some ⟨w.heap.size,0,none⟩)) 5) qD) ?_;refine Rc (lv (fP:=IsV (.int .u16 (n1:Int))) _ (λw' e=>ld_u16 _ _ _ ((HBX.out.ext e).c 1 _ rfl)) (qA 22 71) (λ_ _=>rfl)) ?_;refine Rc (cvW (n:=n1) (qA 23 72) HNN.out.2) ?_;refine Rc (bsBy (qA (fP:=IsV (.int .u8 ((n1%256:Nat):Int))) 24 73)) ?_;refine Rc (cvB (n:=n1%256) (qA 25 74)) ?_;refine Rc (catM (m:=400) (n:=1) (p:=800) (qA 21 70) (qA 26 75) dcx dcx) ?_;refine Rc jm ?_;refine Rc jg ?_;refine Rc (bn (p:=.int .i64 (p:Int)) (r:=.int .i64 (p1:Int)) (qA 29 78) qD (hr:=λw=>by have hx9:=HP1.out;go_simp)) ?_;refine Rc jm ?_;refine Rc (lenS (qA (fP:=IsV (.string sb)) 31 80)) ?_;refine Rc (minG (qA (fP:=iV (p1:Int)) 30 79) (qA (fP:=iV ((sb.size:Nat):Int)) 32 81) HQ1.out.1) ?_;refine Rc (slHi (qA (fP:=IsV (.string sb)) 28 77) (qA (fP:=iV (q1:Int)) 33 82) HQ1.out.2 HST.out.1) ?_;refine Rc (catM (m:=800) (n:=400) (p:=1000000) (qA 27 76) (qA 34 83) dcx dcx) ?_;refine Rc (bs6 (qA 0 49) (qA 1 50) (qA 14 63) (qA 15 64) (qA 18 67) (qA 35 84)) ?_;refine Rc (mv (qA (fP:=Six) 36 85)) ?_;exact rn0
  ):P:=h
theorem Reads_w{w:World}{v:Value}{t:List UInt8}{n0 n1 n2:Nat}(hT:TabM w)(hb:IsBys v w)(ht:t.length<=9223372036854775807)(h0:n0<=65535)(h1:n1<=65535)(_h2:n2<=65535):Calls prog 5 #[v,qB t,.agg #[.int .u16 (n0:Int),.int .u16 (n1:Int),.int .u16 (n2:Int)]] w (Ret w (IsV (.bool true))):=by
  obtain⟨W,hW,E,BN⟩:∃W,W=w.alloc (.cells #[.int .u16 (n0:Int),.int .u16 (n1:Int),.int .u16 (n2:Int)] 51)/\Ext w W/\Bk W w.heap.size [.int .u16 (n0:Int),.int .u16 (n1:Int),.int .u16 (n2:Int)]:=zg;obtain⟨tb,htb⟩:∃y:ByteArray,(⟨t.toArray⟩:ByteArray)=y:=⟨_,rfl⟩;obtain⟨tn,htn⟩:∃n,t.length=n:=⟨_,rfl⟩;have htz:tb.size=tn:=by rw[<-htb,<-htn];rfl
  rw[qB,htb];have HT:=hid (hT.ext E);have HB:=hid (hb.ext E);have HBN:=hid BN;have HE:=hid E;have HNN:=hid (zL h0 h1);have HTN:=hid (zL htz (htn▸ht));clear hT hb ht h0 h1 E BN htb htn htz;go_enter func5,ntmps5;go_upto_region 1 with fail;rw[<-hW];clear hW;go_upto_region 4 with(go_at_call 9;refine zG (examples_f HT.out) ?_;rintro e w1 ⟨x,rfl,e1,hx⟩;obtain rfl:x=.bool true:=hx;have HE1:=hid e1;clear e1);refine wp_region_lit (lmv (lca [v] (en func10) (Made_f (HB.out.ext HE1.out)) (λcv W4 e2 hv=>?_)));obtain⟨l,hl,hls⟩:=hv;have HLS:=hid (hls.low (Nat.zero_le _));have HMD:=hid hl;have HPI:=hid (PrintIn_f 20 HLS.out (by have:=hl.1;omega) dcx (λc hc=>trm_hg (hl.2.2 c hc)));obtain⟨sb,hsb⟩:∃y:ByteArray,(⟨(prS l).toArray⟩:ByteArray)=y:=⟨_,rfl⟩;obtain⟨n,hn⟩:∃n,sb.size=n:=⟨_,rfl⟩;unfold IsTx at HPI;rw[qB,hsb]at HPI;refine lca [cv] (en func15) HPI.out (λtv W4a e3 hv=>?_);obtain rfl:tv=.agg #[.string sb,.int .i64 (prE l)]:=hv;refine field_Tx (b:=sb) (z:=prE l) (lmv (zI ?_));have HE3:=hid ((HE1.out.trans e2).trans e3);have HN:=hid hn;clear hl hls e2 e3 hsb HPI HLS HMD HE1
  try go_simp
  have ret:∀W4b,Ext W W4b->Ext w W4b:=λW4b e=>HE.out.trans e
  have RET:=hid ret;clear ret;by_cases h400:400<n
  · have h4:(400:Int)<(n:Int):=by omega
    clear h400;go_wp2_with fail
    go_ret
    exact⟨_,rfl,RET.out _ HE3.out,rfl⟩
  have h4:¬(400:Int)<(n:Int):=ze
  have htz:=HTN.out.1;by_cases ht4:400<tn
  · have h5:(400:Int)<(tn:Int):=by omega
    clear h400 ht4;go_wp2_with fail
    go_ret
    exact⟨_,rfl,RET.out _ HE3.out,rfl⟩
  have h5:¬(400:Int)<(tn:Int):=ze
  obtain⟨m,hm⟩:∃m,n+1=m:=⟨_,rfl⟩;have hz8:((m:Int)==0)=false:=jh
  have hn80:¬(m:Int)=0:=ze
  have hn81:¬m=0:=ze
  have hnm:(n:Int)+1=(m:Int):=ze
  obtain⟨p,hp⟩:∃p,n0%m=p:=⟨_,rfl⟩;have hpl:p<m:=by rw[<-hp];exact Nat.mod_lt _ ze
  have htm:Int.tmod (n0:Int) (m:Int)=(p:Int):=by rw[<-hp];rfl
  have hwp:IntKind.i64.wrap (p:Int)=(p:Int):=zh
  have hwm:IntKind.i64.wrap (m:Int)=(m:Int):=zh
  have hw0:IntKind.i64.wrap (n0:Int)=(n0:Int):=by have:=HNN.out.1;simp only[IntKind.wrap_i64];omega
  have B3:=HBN.out.ext HE3.out;have c0:=B3.c 0 _ rfl;have HPL:=hid (show p<=n/\n<=400/\tn<=400 by omega);clear h400 ht4 hp hpl hm B3;go_upto_region 9 with fail;clear c0 h4 h5 hz8 hn80 hn81 hnm htm hwp hwm hw0;have HST:=hid (show sb.size<=400/\p<=sb.size/\tb.size<=400 by rw[HN.out,HTN.out.1];exact⟨HPL.out.2.1,HPL.out.1,HPL.out.2.2⟩);obtain⟨p1,hp1⟩:∃y,p+1=y:=⟨_,rfl⟩;have HP1:=hid (show IntKind.i64.wrap ((p:Int)+1)=(p1:Int)by have:=HPL.out;simp only[IntKind.wrap_i64];omega);obtain⟨q1,hq1⟩:∃y,min p1 n=y:=⟨_,rfl⟩;obtain⟨q2,hq2⟩:∃y,min tn 1=y:=⟨_,rfl⟩;have HQ1:=hid (show min (p1:Int) ((sb.size:Nat):Int)=(q1:Int)/\q1<=sb.size by rw[HN.out];omega);have HQ2:=hid (show min ((tb.size:Nat):Int) 1=(q2:Int)/\q2<=tb.size/\q2<=400 by rw[HTN.out.1];omega);have HP2:=hid (show p<n->p1<=sb.size by intro h;rw[HN.out];omega);clear hp1 hq1 hq2;have rest:∀(a:Act) (X:World),Ext W4a X->True:=λ_ _ _=>trivial
  clear rest;by_cases hpn:p<n
  · have hpi:(p:Int)<(n:Int):=by omega
    have hsz:sb.size=n:=HN.out;have HLTN:=hid hpn;clear hpn;go_upto_region 10 with fail;clear hpi hsz;refine rg 9 [some 41,some 42,some 43,some 44,some 45,some 46,some 47,some 48,some 10] [IsV (.string sb),iV (p:Int),StrM 400,IsV (.string sb),iV (p:Int),iV (p1:Int),StrM 400,StrM 1000000,StrM 1000000] [] 0 ?_ ?_
    · refine Rc jm ?_
      refine Rc jg ?_;refine Rc (slLo (qA (fP:=IsV (.string sb)) 0 41) (qA (fP:=iV (p:Int)) 1 42) HST.out.2.1 (zO HST.out.2.1 HST.out.1)) ?_;refine Rc jm ?_;refine Rc jg ?_;refine Rc (bn (p:=.int .i64 (p:Int)) (r:=.int .i64 (p1:Int)) (qA 4 45) qD (hr:=λw=>by have hx9:=HP1.out;go_simp)) ?_;refine Rc (slHi (qA (fP:=IsV (.string sb)) 3 44) (qA (fP:=iV (p1:Int)) 5 46) (HP2.out HLTN.out) HST.out.1) ?_;refine Rc (catM (m:=400) (n:=400) (p:=1000000) (qA 2 43) (qA 6 47) dcx dcx) ?_;refine Rc (mv (qA (fP:=StrM 1000000) 7 48)) ?_;exact rn0
    intro y X4 e4 hΦ _;obtain⟨lb,v8,hlb⟩:=(show StrM 1000000 (y 8) X4 from hΦ 8 dcx);simp only[lxE,Nat.reduceAdd];rw[v8];have HLB:=hid hlb;have HEX:=hid (HE3.out.trans e4);have HBX:=hid (HBN.out.ext HEX.out);clear v8 hΦ e4 hlb;refine zP zc ?_ _;go_upto_region 11 with fail;refine rg 38 [some 49,some 50,some 51,some 52,some 53,some 54,some 55,some 56,some 57,some 58,some 59,some 60,some 61,some 62,some 63,some 64,some 65,some 66,some 67,some 68,some 69,some 70,some 71,some 72,some 73,some 74,some 75,some 76,some 77,some 78,some 79,some 80,some 81,some 82,some 83,some 84,some 85,some 11] [StrM 1000000,StrM 1000000,IsV (.string sb),iV (p:Int),StrM 400,IsV (.string tb),IsV (.string tb),iV ((tb.size:Nat):Int),iV (q2:Int),StrM 400,StrM 800,IsV (.string sb),iV (p:Int),StrM 400,StrM 1000000,StrM 1000000,IsV (.string sb),iV (p:Int),StrM 1000000,IsV (.string sb),iV (p:Int),StrM 400,IsP (w.heap.size) 1,IsV (.int .u16 (n1:Int)),IsV (.int .u8 ((n1%256:Nat):Int)),SrcR 1 [.int .u8 ((n1%256:Nat):Int)],StrM 1,StrM 800,IsV (.string sb),iV (p:Int),iV (p1:Int),IsV (.string sb),iV ((sb.size:Nat):Int),iV (q1:Int),StrM 400,StrM 1000000,Six,Six] [] 0 ?_ ?_
    · refine Rc (mvM (m:=1000000) (qC (x:=.string sb) 8) zay) ?_
      refine Rc (mvM (m:=1000000) (qC (x:=.string tb) 1) (by have:=HST.out.2.2;omega)) ?_;refine Rc jm ?_;refine Rc jg ?_;refine Rc ye ?_;refine Rc (mv (qC (x:=.string tb) 1)) ?_;refine Rc (mv (qC (x:=.string tb) 1)) ?_;refine Rc (lenS (qA (fP:=IsV (.string tb)) 6 55)) ?_;refine Rc (minG (q:=1) (qA (fP:=iV ((tb.size:Nat):Int)) 7 56) qD HQ2.out.1) ?_;refine Rc xm ?_;refine Rc (catM (m:=400) (n:=400) (p:=800) (qA 4 53) (qA 9 58) dcx dcx) ?_;refine Rc jm ?_;refine Rc jg ?_;refine Rc xo ?_;refine Rc (catM (m:=800) (n:=400) (p:=1000000) (qA 10 59) (qA 13 62) dcx dcx) ?_;refine Rc (mvM (m:=1000000) (qC (x:=.string lb) 10) (by have:=HLB.out;omega)) ?_;exact tNqd_2
    exact tNqd_1
  · have hpi:¬(p:Int)<(n:Int):=by omega
    have hsz:sb.size=n:=HN.out;have HLB:=hid (show sb.size<=1000000 by have:=HST.out.1;omega);have HEX:=HE3;have HBX:=hid (HBN.out.ext HE3.out);clear hpn;go_upto_region 11 with fail;clear hpi hsz;refine rg 38 [some 49,some 50,some 51,some 52,some 53,some 54,some 55,some 56,some 57,some 58,some 59,some 60,some 61,some 62,some 63,some 64,some 65,some 66,some 67,some 68,some 69,some 70,some 71,some 72,some 73,some 74,some 75,some 76,some 77,some 78,some 79,some 80,some 81,some 82,some 83,some 84,some 85,some 11] [StrM 1000000,StrM 1000000,IsV (.string sb),iV (p:Int),StrM 400,IsV (.string tb),IsV (.string tb),iV ((tb.size:Nat):Int),iV (q2:Int),StrM 400,StrM 800,IsV (.string sb),iV (p:Int),StrM 400,StrM 1000000,StrM 1000000,IsV (.string sb),iV (p:Int),StrM 1000000,IsV (.string sb),iV (p:Int),StrM 400,IsP (w.heap.size) 1,IsV (.int .u16 (n1:Int)),IsV (.int .u8 ((n1%256:Nat):Int)),SrcR 1 [.int .u8 ((n1%256:Nat):Int)],StrM 1,StrM 800,IsV (.string sb),iV (p:Int),iV (p1:Int),IsV (.string sb),iV ((sb.size:Nat):Int),iV (q1:Int),StrM 400,StrM 1000000,Six,Six] [] 0 ?_ ?_
    · refine Rc (mvM (m:=1000000) (qC (x:=.string sb) 8) zay) ?_
      refine Rc (mvM (m:=1000000) (qC (x:=.string tb) 1) (by have:=HST.out.2.2;omega)) ?_;refine Rc jm ?_;refine Rc jg ?_;refine Rc ye ?_;refine Rc (mv (qC (x:=.string tb) 1)) ?_;refine Rc (mv (qC (x:=.string tb) 1)) ?_;refine Rc (lenS (qA (fP:=IsV (.string tb)) 6 55)) ?_;refine Rc (minG (q:=1) (qA (fP:=iV ((tb.size:Nat):Int)) 7 56) qD HQ2.out.1) ?_;refine Rc xm ?_;refine Rc (catM (m:=400) (n:=400) (p:=800) (qA 4 53) (qA 9 58) dcx dcx) ?_;refine Rc jm ?_;refine Rc jg ?_;refine Rc xo ?_;refine Rc (catM (m:=800) (n:=400) (p:=1000000) (qA 10 59) (qA 13 62) dcx dcx) ?_;refine Rc (mvM (m:=1000000) (qC (x:=.string sb) 10) (by have:=HLB.out;omega)) ?_;exact tNqd_2
    exact tNqd_1
end
end Go.Proofs.YtenhciieboegbaaGreatDoor
