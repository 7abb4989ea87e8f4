/-
  Package notebook: patterns.
  Package notebook: the checks of the operations.
-/
import Derived.Test.YtenhciieboegbaaGreatDoorNvl
namespace Go.Proofs.YtenhciieboegbaaGreatDoor
open Go Go.RowKit
open Go.Proofs.Tryz
theorem xa{P:Prop}(h:P:=by exact mv (qC 0)):P:=h
abbrev zP:=@wpAny_done
set_option maxRecDepth 100000
set_option maxHeartbeats 8000000
theorem patL_fuel(b:Sc):∀(k:Nat) (l:List UInt8),l.length<=k->patL b k l=patL b l.length l:=by
  intro k
  induction k using Nat.strongRecOn with
  | ind k ih=>
    intro l hl;cases l with
    |nil=>cases k <;> rfl
    | cons c t=>
      obtain⟨m,rfl⟩:∃m,k=m+1:=⟨k-1,by simp at hl;omega⟩;simp only[List.length_cons]at hl ⊢
      have hd:((t.dropWhile (· !=125)).drop 1).length<=t.length:=by
        have:(t.dropWhile (· !=125)).length<=t.length:=(List.dropWhile_suffix _).length_le;simp;omega
      rw[patL,patL];by_cases hc:c=123
      · rw[if_pos hc,if_pos hc,ih m (by omega) _ (by omega)]
        rcases zR t.length (m+1)with h|h
        ·rw[ih t.length h _ hd]
        ·omega
      ·rw[if_neg hc,if_neg hc,ih m (by omega) t (by omega)]
theorem pat_cons{b:Sc}{c:UInt8}{t:List UInt8}:patL b (c ::t).length (c ::t)=if c=123 then decide (125∈t)&&(qT (t.takeWhile (· !=125))&&(b.contains (t.takeWhile (· !=125))&&patL b ((t.dropWhile (· !=125)).drop 1).length ((t.dropWhile (· !=125)).drop 1)))
    else(xP c||cDig c||decide (c=58)||decide (c=45))&&patL b t.length t:=by
  rw[List.length_cons,patL]
  have hd:((t.dropWhile (· !=125)).drop 1).length<=t.length:=by
    have:(t.dropWhile (· !=125)).length<=t.length:=(List.dropWhile_suffix _).length_le;simp;omega
  rw[patL_fuel b t.length _ hd]
theorem ba0(c:UInt8)(t:List UInt8)(h:0<(⟨(c ::t).toArray⟩:ByteArray).size):(⟨(c ::t).toArray⟩:ByteArray)[0]=c:=rfl
theorem ba1(c:UInt8)(t:List UInt8):(⟨(c ::t).toArray⟩:ByteArray).extract 1 (t.length+1)=⟨t.toArray⟩:=by rw[ba_ex];simp
attribute [local go_sem] ba0 ba1
theorem pattern_f {b:Sc}{v:Value}{w:World}(h:IsSr b v w)(hb:b.length<=4611686018427387904)(s:List UInt8)(hl:s.length<=4611686018427387904):Calls prog 105 #[v,qB s] w (RVal w (.bool (patB b s))):=by
  by_cases h60:s.length<=60
  · cases s with
    | nil=>
      rw[qB];go_enter func105,ntmps105
      go_wp2
      go_ret
      exact⟨rfl,Ext.refl _⟩
    | cons c0 t0=>
      have hp:patB b (c0 ::t0)=patL b (c0 ::t0).length (c0 ::t0):=by rw[patB,decide_eq_true h60];simp
      obtain⟨q,hq⟩:∃q,patL b (c0 ::t0).length (c0 ::t0)=q:=⟨_,rfl⟩;rw[hp,hq];obtain⟨s,hs⟩:∃s,c0 ::t0=s:=⟨_,rfl⟩;have hne:(s== [])=false:=by rw[<-hs];rfl
      obtain⟨n,hn⟩:∃n,s.length=n:=⟨_,rfl⟩;rw[hs]at hq hl h60 ⊢;rw[hn]at h60;have hle:¬(60<(n:Int)):=ze
      have hsz:(⟨s.toArray⟩:ByteArray).size=n:=by rw[<-hn];rfl
      have H:=hid (zL h (zL hb hl));have HQ:=hid hq;have HN:=hid hn;clear h hb hl hp hq hn hs;rw[qB];go_enter func105,ntmps105
      go_wp2
      go_loopg [1,5,6,7,8] n (λgk v1 v5 v6 v7 v8 wr=>∃r:List UInt8,v1=.string ⟨r.toArray⟩/\r.length=gk/\Hid (gk<=n/\Ext w wr/\patL b r.length r=q))
      case atStart=>exact⟨s,rfl,HN.out,hid ⟨zN _,Ext.refl _,HQ.out⟩⟩
      case round=>
        obtain⟨r,rfl,hr,S⟩:=hrel;have HR:=hid hr;clear hr hle hne hsz;cases r with
        | nil=>
          go_wp2
          go_ret
          exact⟨by rw[<-S.out.2.2];rfl,S.out.2.1⟩
        | cons c t=>
          have hm:n<=60:=h60;have ht:=hid (show t.length+1<=60 by have:=HR.out;have:=S.out.1;simp at *;omega);by_cases hc:c=123
          · subst hc
            have hS:=S.out.2.2;rw[pat_cons,if_pos rfl]at hS;obtain⟨d,hd⟩:∃d,decide ((125:UInt8)∈t)=d:=⟨_,rfl⟩;obtain⟨nm,hnm⟩:∃x,t.takeWhile (· !=125)=x:=⟨_,rfl⟩;obtain⟨rs,hrs⟩:∃x,(t.dropWhile (· !=125)).drop 1=x:=⟨_,rfl⟩
            have hlen:rs.length<=t.length/\nm.length<=t.length:=by
              rw[<-hrs,<-hnm];have h1:(t.dropWhile (· !=125)).length<=t.length:=(List.dropWhile_suffix _).length_le;have h2:(t.takeWhile (· !=125)).length<=t.length:=(List.takeWhile_prefix _).length_le;exact⟨by simp;omega,h2⟩
            have hC:=cut125_f wr t (by have:=ht.out;omega);rw[hd,hnm,hrs]at hC;rw[hd,hnm,hrs]at hS;obtain⟨e1,he1⟩:∃x,qB nm=x:=⟨_,rfl⟩;have hN:=λw=>isName_f vlsC nm w (by have:=ht.out;omega)
            have hB:=λw' (e:Ext w w')=>containsS_f (H.out.1.ext e) nm H.out.2.1
            obtain⟨r1,hr1⟩:∃x,qT nm=x:=⟨_,rfl⟩;obtain⟨r2,hr2⟩:∃x,b.contains nm=x:=⟨_,rfl⟩;rw[hr1,hr2]at hS;rw[he1]at hC;simp only[hr1,hr2,he1]at hN hB;have HC:=hid hC;have HN2:=hid hN;have HB:=hid hB;have HS:=hid hS;have HL:=hid hlen;clear hC hN hB hS hlen hd hnm hrs hr1 hr2 he1 hm;cases d with
            | false=>
              go_wp2_with (go_at_call 127;go_must (refine zG HC.out ?_;rintro e w1 ⟨rfl,e1⟩))
              go_ret
              exact⟨by rw[<-HS.out];rfl,S.out.2.1.trans e1⟩
            | true=>
              cases r1 with
              | false=>
                go_wp2_with (first| (go_at_call 127;go_must (refine zG HC.out ?_;rintro e w1 ⟨rfl,e1⟩))| (go_at_call 32;go_must (refine zG (HN2.out _) ?_;rintro e w2 ⟨rfl,e2⟩)))
                go_ret
                exact⟨by rw[<-HS.out];rfl,(S.out.2.1.trans e1).trans e2⟩
              | true=>
                cases r2 with
                | false=>
                  go_wp2_with (first| (go_at_call 127;go_must (refine zG HC.out ?_;rintro e w1 ⟨rfl,e1⟩))| (go_at_call 32;go_must (refine zG (HN2.out _) ?_;rintro e w2 ⟨rfl,e2⟩))| (go_at_call 102;go_must (refine zG (HB.out _ ((S.out.2.1.trans e1).trans e2)) ?_;rintro e w3 ⟨rfl,rfl⟩)))
                  go_ret
                  exact⟨by rw[<-HS.out];rfl,(S.out.2.1.trans e1).trans e2⟩
                | true=>
                  go_wp2_with (first| (go_at_call 127;go_must (refine zG HC.out ?_;rintro e w1 ⟨rfl,e1⟩))| (go_at_call 32;go_must (refine zG (HN2.out _) ?_;rintro e w2 ⟨rfl,e2⟩))| (go_at_call 102;go_must (refine zG (HB.out _ ((S.out.2.1.trans e1).trans e2)) ?_;rintro e w3 ⟨rfl,rfl⟩)))
                  go_roundg rs.length
                  case measure=>have:=HL.out;have:=HR.out;simp at *;omega
                  case rel=>exact⟨rs,rfl,rfl,hid ⟨by have:=HL.out;have:=S.out.1;have:=HR.out;simp at *;omega,(S.out.2.1.trans e1).trans e2,by rw[<-HS.out];rfl⟩⟩
          · have hS:=S.out.2.2
            rw[pat_cons,if_neg hc]at hS;obtain⟨k,hk⟩:∃k,c.toNat=k:=⟨_,rfl⟩;have hv:bV c=.int .u8 (k:Int):=by rw[bV,hk]
            have k1:((k:Int)==123)=false:=by
              simp only[zJ];intro e;exact hc (UInt8.toNat_inj.1 (by rw[hk];show k=123;omega))
            have d58:decide (c=58)=((k:Int)==58):=by
              rw[Bool.eq_iff_iff];simp only[zS,beq_iff_eq];rw[<-UInt8.toNat_inj,hk];show k=58↔_;omega
            have d45:decide (c=45)=((k:Int)==45):=by
              rw[Bool.eq_iff_iff];simp only[zS,beq_iff_eq];rw[<-UInt8.toNat_inj,hk];show k=45↔_;omega
            rw[d58,d45]at hS;obtain⟨p1,hp1⟩:∃x,xP c=x:=⟨_,rfl⟩;obtain⟨p2,hp2⟩:∃x,cDig c=x:=⟨_,rfl⟩;obtain⟨p3,hp3⟩:∃x,((k:Int)==58)=x:=⟨_,rfl⟩;obtain⟨p4,hp4⟩:∃x,((k:Int)==45)=x:=⟨_,rfl⟩;rw[hp1,hp2,hp3,hp4]at hS;have hL:=xY c;have hD:=isDigit_f c;rw[hv,hp1]at hL;rw[hv,hp2]at hD
            have hfin:∀(a1 a2:Bool),p1=a1->p2=a2->(a1=true\/a2=true\/(k:Int)=58\/(k:Int)=45)->patL b t.length t=q:=by
              intro a1 a2 e1 e2 h;rw[<-hS];rcases h with h|h|h|h
              ·rw[e1,h];simp
              ·rw[e2,h];simp
              ·rw[<-hp3,h];simp
              ·rw[<-hp4,h];simp
            have hfail:p1=false->p2=false->(k:Int)≠58->(k:Int)≠45->q=false:=by
              intro e1 e2 h3 h4;rw[<-hS,e1,e2,<-hp3,<-hp4];simp[h3,h4]
            have HF:=hid (zL hfin hfail);have HL:=hid hL;have HD:=hid hD;clear hS hL hD hv d58 d45 hp1 hp2 hc hm hfin hfail hp3 hp4 p3 p4;go_wp2_with (first| (go_at_call 57;go_must (refine zG (HL.out _) ?_;rintro e w1 ⟨rfl,rfl⟩))| (go_at_call 97;go_must (refine zG (HD.out _) ?_;rintro e w1 ⟨rfl,rfl⟩)))
            all_goals first
              | (go_ret
                 refine⟨?_,S.out.2.1⟩;have:=HF.out.2 (by simp_all) (by simp_all) (by simp_all) (by simp_all)
                 rw[this];rfl)
              | (go_roundg t.length
                 case measure=>have:=HR.out;simp at this;omega
                 case rel=>exact⟨t,rfl,rfl,hid ⟨by have:=S.out.1;have:=HR.out;simp at this;omega,S.out.2.1,HF.out.1 _ _ rfl rfl (by simp_all)⟩⟩)
  · have hle:(60:Int)<(s.length:Int):=by omega
    have hp:patB b s=false:=by rw[patB,decide_eq_false h60];simp
    have hne:(s== [])=false:=by cases s with|nil=>simp at h60|cons c t=>rfl
    rw[hp,qB];have hsz:(⟨s.toArray⟩:ByteArray).size=s.length:=rfl;clear hp h60;go_enter func105,ntmps105
    go_wp2
    go_ret
    exact⟨rfl,Ext.refl _⟩
theorem IsI.zr{k:Nat}{z:Int}{s:Bool}{a:Option Addr}{m c:Nat}{w:World}(h:IsI k z (.agg #[.bool s,.slice a m c]) w):(m=0/\s=false)↔z=0:=by
  obtain⟨s',a',m',c',e,hI⟩:=h;simp only[Value.agg.injEq,Array.mk.injEq,List.cons.injEq,Value.bool.injEq,Value.slice.injEq,and_true]at e;obtain⟨rfl,rfl,rfl,rfl⟩:=e;constructor
  ·rintro⟨h1,_⟩;exact hI.zero_iff.2 h1
  · intro hz
    refine⟨hI.zero_iff.1 hz,?_⟩;cases s with
    |false=>rfl
    |true=>have:=hI.neg_iff.2 rfl;omega
def IsZn(n:Nat):Value->World->Prop:=λx _=>∃ao cp,x=.agg #[.int .i64 0,qB [],.int .i64 0,.bool false,.slice none 0 0,.int .i64 0,.int .i64 0,.slice ao n cp]
theorem IsZn.stb(n:Nat):Stb (IsZn n):=λ_ _ _ _ h=>h
instance (n:Nat):StbC (IsZn n):=⟨IsZn.stb n⟩
def IsSl(n:Nat):Value->World->Prop:=λx _=>∃ao cp,x=.slice ao n cp
theorem IsSl.stb(n:Nat):Stb (IsSl n):=λ_ _ _ _ h=>h
instance (n:Nat):StbC (IsSl n):=⟨IsSl.stb n⟩
section
variable {ops:Array Oper} {Q:Exit->Act->World->Prop} {ds:List (Option Tmp)} {a0:Act} {w0:World} {L:List (Value->World->Prop)} {boxes:List Nat} {i k:Nat} {o:Oper} {os:List Oper}
theorem mkS{n:Nat}(hn:n<=1000:=by decide)
    (ho:o.op=.makeSlice 30 (.const (.int .i64 (n:Nat))) (.const (.int .i64 (n:Nat))):=by rfl) (hi:L.getD i (λ_ _=>True)=IsSl n:=by kernel_rfl) (hb:boxes.contains i=false:=by kernel_rfl):Ok prog ops Q ds a0 w0 L boxes i o:=
  ⟨fun v a w hE hd hf K hK=>by
    obtain⟨ti,h1,h2,h3,h4⟩:=info_parts (P:=prog) (e:=32) (z:=.agg zNd.toArray) (size:=8) (bytes:=104) zc;have hr:=run_makeSlice w 30 32 ti _ zc h1 h2 .i64 .i64 (n:Int) (n:Int);have hr:=hr ze ze (by rw[h3];simp;omega) (by rw[h4];omega) ze;simp only[Int.toNat_natCast]at hr;obtain⟨w',hr',e'⟩:∃w',(Instr.makeSlice 30 (.int .i64 (n:Nat)) (.int .i64 (n:Nat))).run prog w=.ok (.slice (some ⟨w.heap.size,0,none⟩) n n) w'/\Ext w w':=⟨_,hr,(Ext.refl w).alloc _⟩
    have hrun:(execOp a.eval o).run prog w=.ok (.value (.slice (some ⟨w.heap.size,0,none⟩) n n)) w':=by
      unfold execOp;rw[ho];dsimp only;rw[show a.eval (.const (.int .i64 (n:Nat)))=.int .i64 (n:Nat)from rfl];simp[hr']
    unfold Oper.wp;rw[hrun]
    exact hK.out _ _ e' (by rw[hi];exact⟨_,_,rfl⟩) (FreshIf.no hb)⟩
theorem bd6{n:Nat}{y:Operand}(hy:Od ops ds a0 w0 L i y (IsSl n))(ho:o.op=.build 32 #[(6,y)]:=by rfl)(hi:L.getD i (λ_ _=>True)=IsZn n:=by kernel_rfl)(hb:boxes.contains i=false:=by kernel_rfl):Ok prog ops Q ds a0 w0 L boxes i o:=
  Ok.of hb λv a w hE hd hf=>by
    obtain⟨ao,cp,h1⟩:=hy.out v a w hE hd hf;have hr:(Instr.build 32 #[(6,.slice ao n cp)]).run prog w=.ok (.agg #[.int .i64 0,qB [],.int .i64 0,.bool false,.slice none 0 0,.int .i64 0,.int .i64 0,.slice ao n cp]) w:=by unfold qB;go_simp
    refine⟨_,bdG ho (by simp only[List.map_toArray,List.map_cons,List.map_nil];rw[h1];exact hr),by rw[hi];exact⟨ao,cp,rfl⟩⟩
end
theorem ld_Nd:LdV prog 32 8:=λw g vs hl B=>ldM zc zc hl (λj v hj=>by rw[Nat.zero_add];exact B.c j v hj)
def CkP(b:Sc)(x:Nd)(w:World)(e:Ending)(w':World):Prop:=Ext w w'/\∃v',e=.returned (.tuple #[v',.bool (okN b x)])/\(okN b x=true->IsSc 0 (inS b x) v' w')
theorem joins_ok{b:Sc}{x:Nd}(h:xM x.op=true):okN b x=decide (x.nm= []/\x.n=0/\x.lo=0/\x.hi=0/\x.v=0/\x.ps.length=2)/\inS b x=b:=by
  have hb:=(okF_bin (b:=b) h).2;refine⟨?_,by rw[inS,hb];rfl⟩
  have ho:x.op≠1/\x.op≠2/\x.op≠11/\x.op≠3:=by
    simp only[xM,Bool.or_eq_true,zS]at h;omega
  unfold okN okF;rw[if_neg ho.1,if_neg ho.2.1,if_neg ho.2.2.1,if_neg ho.2.2.2,hb,if_neg dcx,if_pos h];simp only[Bool.decide_and,Bool.and_assoc]
theorem joins_f{b:Sc}{x:Nd}{us:List Value}{v:Value}{w:World}(hv:IsSc 0 b v w)(hx:NdC 0 w x us)(hop:xM x.op=true):Calls prog 107 #[v,.agg us.toArray] w (CkP b x w):=by
  obtain⟨h1,h2⟩:=joins_ok (b:=b) hop;obtain⟨r,hr⟩:∃r,okN b x=r:=⟨_,rfl⟩;unfold CkP;rw[hr,h2];obtain⟨s,a,m,c,ao,cp,rfl,hI,-,-,-⟩:=hx.out;have hr2:decide (x.nm= []/\x.n=0/\x.lo=0/\x.hi=0/\m=0/\s=false/\x.ps.length=2)=r:=by rw[<-hr,h1];apply decide_eq_decide.2;rw[<-hI.zr];simp[and_assoc]
  clear h1 hr hI hx hop h2;generalize x.op=op at*;generalize x.nm=nm at*;generalize x.n=n at*;generalize x.lo=lo at*;generalize x.hi=hi at*;generalize x.ps.length=l at*;have HV:=hid hv;have HR:=hid hr2;clear hr2 hv
  obtain⟨W,hW,E,B⟩:∃W,W=w.alloc (.cells #[.int .i64 op,qB nm,.int .i64 n,.bool s,.slice a m c,.int .i64 lo,.int .i64 hi,.slice ao l cp] 32)/\Ext w W/\Bk W w.heap.size [.int .i64 op,qB nm,.int .i64 n,.bool s,.slice a m c,.int .i64 lo,.int .i64 hi,.slice ao l cp]:=
    ⟨_,rfl,(Ext.refl w).alloc _,Bk.new w _ _⟩
  obtain⟨x1,hx1⟩:∃x,qB nm=x:=⟨_,rfl⟩;have HX:=hid hx1;rw[hx1]at hW B ⊢;clear hx1;go_enter func107,ntmps107;go_upto_region 1 with fail;rw[<-hW];clear hW;refine rg 7 [some 6,some 7,some 8,some 9,some 10,some 4,some 5] [IsV v,IsV (.agg #[.int .i64 op,x1,.int .i64 n,.bool s,.slice a m c,.int .i64 lo,.int .i64 hi,.slice ao l cp]),IsSl 2,IsZn 2,IsV (.bool r),IsV v,IsV (.bool r)] [] 0 ?_ ?_
  · refine Rc xa ?_
    refine Rc (lvV B ld_Nd (qC 3)) ?_;refine Rc (mkS (n:=2)) ?_;refine Rc (bd6 (n:=2) (qA (fP:=IsSl 2) 2 8)) ?_;refine Rc (cl2 (fQ:=IsV (.bool r)) (en func100) (qA (fP:=IsV (.agg #[.int .i64 op,x1,.int .i64 n,.bool s,.slice a m c,.int .i64 lo,.int .i64 hi,.slice ao l cp])) 1 7) (qA (fP:=IsZn 2) 3 9) (λx0 y0 w' hE d0 d1=>by{obtain rfl:x0=.agg #[.int .i64 op,x1,.int .i64 n,.bool s,.slice a m c,.int .i64 lo,.int .i64 hi,.slice ao l cp]:=d0;obtain⟨ao2,cp2,rfl⟩:=d1;rw[<-HX.out,<-HR.out];exact zG plain_f (λe w2 h=>⟨_,h.1,h.2,rfl⟩)})) ?_;refine Rc (mv (qA (fP:=IsV v) 0 6)) ?_;refine Rc (mv (qA (fP:=IsV (.bool r)) 4 10)) ?_;exact rn0
  intro u X1 e1 hΦ _;have q5:u 5=v:=hΦ 5 dcx;have q6:u 6=.bool r:=hΦ 6 dcx;simp only[lxE,Nat.reduceAdd];rw[q5,q6];clear hΦ q5 q6;refine zP zc ?_ _;go_wp2_with fail
  go_ret2
  exact⟨E.trans e1,_,rfl,λ_=>(HV.out.ext E).ext e1⟩
end Go.Proofs.YtenhciieboegbaaGreatDoor
