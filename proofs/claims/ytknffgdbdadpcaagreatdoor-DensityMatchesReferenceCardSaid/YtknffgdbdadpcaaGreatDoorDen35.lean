/-
  The reference of package density: Total, Local. (Printed by wip/gen/den35.py.)
-/
import Derived.Test.YtknffgdbdadpcaaGreatDoorDen34
import Derived.Test.YtknffgdbdadpcaaGreatDoorDen7
namespace Go.Proofs.YtknffgdbdadpcaaGreatDoor
open Go Go.RowKit
open Go.Proofs.Tryz
theorem zc7{P:Prop}(h:P:=by exact bn (r:=.int .i64 (sq:Int)) (qC 0 22) (qC 1 23) (hr:=λw=>by have hx9:=HSQ.out;go_simp)):P:=h
theorem zc8{P:Prop}(h:P:=by exact bn (r:=.int .i64 (sq:Int)) (qC 0 39) (qC 1 40) (hr:=λw=>by have hx9:=HSQ.out;go_simp)):P:=h
set_option maxRecDepth 100000
set_option maxHeartbeats 16000000
theorem pairF_box{ch:Nat->Int}(hb:∀a,-1<=ch a/\ch a<=1)(v d:Nat): -2<=jL ch v d/\jL ch v d<=2:=by
  have h1:=hb d;have h2:=hb (v/d);unfold jL
  split
  ·split <;> omega
  ·omega
theorem pair_box{ch:Nat->Int}(hb:∀a,-1<=ch a/\ch a<=1)(v:Nat):∀h:Nat,-(2*(h:Int))<=SI (jL ch v) h/\SI (jL ch v) h<=2*(h:Int)
  |0=>by simp[SI]
  | h+1=>by
    have h1:=pair_box hb v h;have h2:=pairF_box hb v (h+1);have e:SI (jL ch v) (h+1)=SI (jL ch v) h+jL ch v (h+1):=rfl;omega
theorem rTotal_e{k1 k2:Nat}{z z2 ue:Int}{x y:Value}{w:World}(hx:IsI k1 z x w)(hy:IsI k2 z2 y w)(HRF:Hid (∀(x y:Value) (w:World),IsI k1 z x w->IsI k2 z2 y w->Calls prog 23 #[x,y] w (Ret w (iV ue))))(HUB:Hid ((ue !=0)=true)):Calls prog 13 #[x,y] w (Ret w (IsT2 (iV 0) (iV ue))):=by
  obtain⟨s1,a1,n1,c1,s2,a2,n2,c2,W,rfl,rfl,hW,S⟩:=en2 hx hy;go_enter func13,ntmps13;go_upto_region 1 with fail;rw[<-hW];clear hW;refine rgt S 4 [some 11,some 12,some 13,some 6] [IsI k1 z,IsI k2 z2,iV ue,iV ue] ?_ ?_
  · refine Rc zf ?_
    refine Rc zg ?_;refine Rc (cl2 (en func23) (qA (fP:=IsI k1 z) 0 11) (qA (fP:=IsI k2 z2) 1 12) (λx0 x1 w' hE d0 d1=>HRF.out _ _ _ d0 d1)) ?_;refine Rc zc0 ?_;exact rn0
  intro v W1 S hH;simp only[lxE,Nat.reduceAdd];rw[show v 3=.int .i64 ue from hH 3 dcx];clear hH;go_upto_region 2 with fail;refine rgt S 2 [some 14,some 15] [iV ue,IsV (.bool true)] ?_ ?_
  · refine Rc zaa ?_
    refine Rc zbc ?_;exact rn0
  intro v W2 S hH;simp only[lxE,Nat.reduceAdd];rw[show v 1=.bool true from hH 1 dcx];clear hH;go_upto_region 3 with fail;refine rgt S 3 [some 16,some 4,some 5] [iV ue,iV 0,iV ue] ?_ ?_
  · refine Rc zaa ?_
    refine Rc zaf ?_;refine Rc (mv (qA 0 16)) ?_;exact rn0
  intro v W3 S hH;simp only[lxE,Nat.reduceAdd];rw[show v 1=.int .i64 0 from hH 1 dcx,show v 2=.int .i64 ue from hH 2 dcx];clear hH;go_wp2_with fail;exact zD (v:=.tuple #[.int .i64 0,.int .i64 ue]) (by simp[results,results13,go_sem]) rfl (⟨_,rfl,S.ext,_,_,rfl,rfl,rfl⟩)
theorem tDen35_2{P:Prop}(h:P:=by
  refine Rc zdg ?_;refine Rc zf ?_;refine Rc zae ?_;refine Rc (cl1 (en func22) (qA (fP:=iV (m:Int)) 2 35) (λx0 w' hE d0=>by{obtain rfl:x0=.int .i64 (m:Int):=d0;exact qL _ (m:Int) zb zy})) ?_;refine Rc (cl2 (en func48) (qA (fP:=IsI k1 z) 1 34) (qA (fP:=IsI 2 ((m:Int))) 3 36) (λx0 x1 w' hE d0 d1=>(by have hh:=RKron_f d0 d1 HK.out dcx ⟨by have:=HG.out;omega,by have:=HG.out;omega⟩;rw[HS1.out]at hh;exact hh))) ?_;refine Rc (bn (r:=.int .i64 o1) (qC 0 33) (qC 4 37) (hr:=λw=>by have hx9:=HO1.out;go_simp)) ?_;exact rn0
  ):P:=h
theorem tDen35_3{P:Prop}(h:P:=by
  refine Rc zae ?_;refine Rc zae ?_;refine Rc zc7 ?_;refine Rc xa ?_;refine Rc (bn (r:=.bool true) (qC 2 24) (qC 3 25) (hr:=λw=>by have hx9:=HLE.out.1;have hx8:=HLE.out.2;go_simp)) ?_;exact rn0
  ):P:=h
theorem tDen35_5{P:Prop}(h:P:=by
  refine Rc zae ?_;refine Rc (bn (r:=.int .i64 ((m:Int)+1)) (qC 0 27) qE (hr:=λw=>by have hx9:=HM1.out;go_simp)) ?_;exact rn0
  ):P:=h
theorem tDen35_6{P:Prop}(h:P:=by
  refine Rc xa ?_;refine Rc zae ?_;refine Rc (bn (r:=.int .i64 0) (qC 0 29) (qC 1 30) (hr:=λw=>by have hx9:=HM.out.1;have hx8:=HM.out.2.1;have hx7:=HM.out.2.2;go_simp)) ?_;refine Rc (bn (r:=.bool false) (qC 2 31) qE (hr:=λw=>by go_simp)) ?_;exact rn0
  ):P:=h
theorem rTotal_a{k1 k2 n:Nat}{z tv:Int}{x y:Value}{w:World}(hx:IsI k1 z x w)(hy:IsI k2 (n:Int) y w)(HK:Hid (k1<=67108864))(HK1:Hid (k1<=131072))(HNB:Hid (0<n/\n<=1048576))(HRF:Hid (∀(x y:Value) (w:World),IsI k1 z x w->IsI k2 (n:Int) y w->Calls prog 23 #[x,y] w (Ret w (iV 0))))(HT:Hid (IntKind.i64.wrap (xM z*totP (qV (kr z)) n)=tv)):Calls prog 13 #[x,y] w (Ret w (IsT2 (iV tv) (iV 0))):=by
  obtain⟨s1,a1,n1,c1,s2,a2,n2,c2,W,rfl,rfl,hW,S⟩:=en2 hx hy;go_enter func13,ntmps13;go_upto_region 1 with fail;rw[<-hW];clear hW;refine rgt S 4 [some 11,some 12,some 13,some 6] [IsI k1 z,IsI k2 ((n:Int)),iV 0,iV 0] ?_ ?_
  · refine Rc zf ?_
    refine Rc zg ?_;refine Rc (cl2 (en func23) (qA (fP:=IsI k1 z) 0 11) (qA (fP:=IsI k2 ((n:Int))) 1 12) (λx0 x1 w' hE d0 d1=>HRF.out _ _ _ d0 d1)) ?_;refine Rc zc0 ?_;exact rn0
  intro v W1 S hH;simp only[lxE,Nat.reduceAdd];rw[show v 3=.int .i64 0 from hH 3 dcx];clear hH;go_upto_region 2 with fail;refine rgt S 2 [some 14,some 15] [iV 0,IsV (.bool false)] ?_ ?_
  · refine Rc zaa ?_
    refine Rc zar ?_;exact rn0
  intro v W2 S hH;simp only[lxE,Nat.reduceAdd];rw[show v 1=.bool false from hH 1 dcx];clear hH;go_upto_region 4 with fail;refine rgt S 7 [some 18,some 19,some 17,some 20,some 21,some 7,some 8] [IsI k2 ((n:Int)),IsT2 (iV (n:Int)) (IsV (.bool true)),IsT2 (iV (n:Int)) (IsV (.bool true)),iV (n:Int),IsV (.bool true),iV (n:Int),IsV (.bool true)] ?_ ?_
  · refine Rc zg ?_
    refine Rc (cl1 (en func47) (qA (fP:=IsI k2 ((n:Int))) 0 18) (λx0 w' hE d0=>RLow_f d0 yv)) ?_;refine Rc (mv (qA 1 19)) ?_;refine Rc (ex (qC 2 17) t20) ?_;refine Rc (ex (qC 2 17) t21) ?_;refine Rc (mv (qA 3 20)) ?_;refine Rc (mv (qA 4 21)) ?_;exact rn0
  intro v W4 S hH;simp only[lxE,Nat.reduceAdd];rw[show v 5=.int .i64 (n:Int)from hH 5 dcx];clear hH;go_upto_region 5 with fail;refine rgt S 1 [some 9] [iV 0] ?_ ?_
  · refine Rc zaf ?_
    exact rn0
  intro v W5 S hH;simp only[lxE];rw[show v 0=.int .i64 0 from hH 0 dcx];clear hH;go_upto_region 6 with fail;refine rgt S 1 [some 10] [iV 1] ?_ ?_
  · refine Rc zaf ?_
    exact rn0
  intro v W6 S hH;simp only[lxE];rw[show v 0=.int .i64 1 from hH 0 dcx];clear hH;go_wp2_with fail;have S0:=hid S;clear S
  go_loopg [9,10] 1025 (λgk v9 v10 wr=>∃(m i:Nat) (o:Int),v9=.int .i64 o/\v10=.int .i64 (m:Int)/\m=i+1/\m+gk=1026/\i<=n/\SI (jL (kr z) n) i=o/\Hid (Sto w wr [((w.heap.size+1,0),IsI k2 ((n:Int))),((w.heap.size,0),IsI k1 z)]))
  case atStart=>exact⟨1,0,0,rfl,rfl,rfl,rfl,Nat.zero_le _,rfl,S0⟩
  case round=>
    clear S0;obtain⟨m,i,o,rfl,rfl,hmi,hg,hin,ho,S⟩:=hrel;have S:=S.out;have hnb:=HNB.out;obtain⟨sq,hsq⟩:∃s,m*m=s:=⟨_,rfl⟩;have hsi:(m:Int)*(m:Int)=(sq:Int):=zdb
    have hmb:m*m<=1026*1026:=Nat.mul_le_mul zb zb;have HSQ:=hid (show IntKind.i64.wrap ((m:Int)*(m:Int))=(sq:Int)by rw[hsi];exact qT zb zb);have hob:=pair_box (kr_le z) n i;rw[ho]at hob;by_cases hle:sq<=n
    · have hm1:m<=1024:=by
        refine Nat.le_of_not_lt λh=>?_
        have:=Nat.mul_le_mul (show 1025<=m from h) (show 1025<=m from h);omega
      have HLE:=hid (show(sq:Int)<=(n:Int)/\sq<=n by omega);obtain⟨r,hr⟩:∃r,n%m=r:=⟨_,rfl⟩;have hrl:=zR n (show 0<m by omega);rw[hr]at hrl;have HM:=hid (show(n:Int).tmod (m:Int)=(r:Int)/\IntKind.i64.wrap (r:Int)=(r:Int)/\¬m=0 from⟨by rw[zG (by omega),<-hr];rfl,qT zb zb,by omega⟩);have HM1:=hid (show IntKind.i64.wrap ((m:Int)+1)=(m:Int)+1 from qT zb zb);have HG:=hid (show m=i+1/\m+gk=1026/\m<=1024/\m<=n by have:=Nat.le_mul_of_pos_right m (show 0<m by omega);omega);have hstep:SI (jL (kr z) n) m=o+jL (kr z) n m:=by rw[hmi,<-ho];rfl
      obtain⟨s1,hs1⟩:∃t,kr z m=t:=⟨_,rfl⟩;have hb1:=kr_le z m;rw[hs1]at hb1;by_cases h0:r=0
      · subst h0
        obtain⟨o1,ho1⟩:∃t,o+s1=t:=⟨_,rfl⟩;have HO1:=hid (show IntKind.i64.wrap (o+s1)=o1 by rw[ho1];exact qT zb zb);have HS1:=hid hs1;by_cases he:sq=n
        · have HEQ:=hid (show((sq:Int) !=(n:Int))=false by rw[he];simp)
          have HST:=hid (show SI (jL (kr z) n) m=o1 by rw[hstep];unfold jL;rw[if_pos ⟨hr,by omega⟩,if_neg (λh=>h (by omega)),hs1];omega);clear he ho1 hb1 hs1 hstep hrl hr hm1 hle hob hmb hsi hsq hnb ho hin hg hmi;go_upto_region 7 with fail;refine rgt S 5 [some 22,some 23,some 24,some 25,some 26] [iV (m:Int),iV (m:Int),iV (sq:Int),iV (n:Int),IsV (.bool true)] ?_ ?_
          ·exact tDen35_3
          intro v W7 S hH;simp only[lxE,Nat.reduceAdd];rw[show v 4=.bool true from hH 4 dcx];clear hH;go_upto_region 9 with fail;refine rgt S 4 [some 29,some 30,some 31,some 32] [iV (n:Int),iV (m:Int),iV 0,IsV (.bool false)] ?_ ?_
          ·exact tDen35_6
          intro v W9 S hH;simp only[lxE,Nat.reduceAdd];rw[show v 3=.bool false from hH 3 dcx];clear hH;go_upto_region 10 with fail;refine rg 6 [some 33,some 34,some 35,some 36,some 37,some 38] [iV o,IsI k1 z,iV (m:Int),IsI 2 ((m:Int)),iV s1,iV o1] [] 1 ?_ ?_
          ·exact tDen35_2
          intro v W10 e1 hH _;replace S:=S.mono e1;simp only[lxE,Nat.reduceAdd];rw[show v 5=.int .i64 o1 from hH 5 dcx];clear hH e1;refine wpAny_ready (rs:= [6]) za zh (AllReady.cons rfl (λK hK=>?_) AllReady.nil);go_simp;refine hK _ _ ?_;clear hK K;refine zO za ?_ _;go_upto_region 11 with fail;refine rgt S 5 [some 39,some 40,some 41,some 42,some 43] [iV (m:Int),iV (m:Int),iV (sq:Int),iV (n:Int),IsV (.bool false)] ?_ ?_
          · refine Rc zae ?_
            refine Rc zae ?_;refine Rc zc8 ?_;refine Rc xa ?_;refine Rc (bn (r:=.bool false) (qC 2 41) (qC 3 42) (hr:=λw=>by have hx9:=HEQ.out;go_simp)) ?_;exact rn0
          intro v W11 S hH;simp only[lxE,Nat.reduceAdd];rw[show v 4=.bool false from hH 4 dcx];clear hH;go_upto_region 8 with fail;refine rgs 2 [some 27,some 28] [iV (m:Int),iV ((m:Int)+1)] [] ?_ ?_
          ·exact tDen35_5
          intro v W8 e1 hH _;replace S:=S.mono e1;simp only[lxE,Nat.reduceAdd];rw[show v 1=.int .i64 ((m:Int)+1)from hH 1 dcx];clear hH e1;refine zT λK hK=>?_;go_simp;refine hK _ _ ?_;clear hK K
          refine zF ?_;have S':=hid S;clear S;go_wp2_with fail
          go_roundg (gk-1)
          case measure=>have:=HG.out;omega
          case rel=>exact⟨m+1,m,o1,rfl,by rw[zV];rfl,rfl,by have:=HG.out;omega,HG.out.2.2.2,HST.out,S'⟩
        · have HEQ:=hid (show((sq:Int) !=(n:Int))=true by rw[bne_iff_ne];omega)
          obtain⟨q,hq⟩:∃q,n/m=q:=⟨_,rfl⟩;have hqm:m*q=n:=by have:=Nat.div_add_mod n m;rw[hq,hr]at this;omega
          have hq1:0<q/\q<=n:=⟨by
            rcases zI q with h|h
            ·rw[h]at hqm;omega
            ·exact h,by rw[<-hq];exact Nat.div_le_self _ _⟩
          have HQ:=hid (show(n:Int).tdiv (m:Int)=(q:Int)/\IntKind.i64.wrap (q:Int)=(q:Int)/\¬m=0 from⟨by rw[Int.tdiv_eq_ediv_of_nonneg (by omega),<-hq];rfl,qT zb zb,by omega⟩);obtain⟨s2,hs2⟩:∃t,kr z q=t:=⟨_,rfl⟩;have hb2:=kr_le z q;rw[hs2]at hb2;obtain⟨o2,ho2⟩:∃t,o1+s2=t:=⟨_,rfl⟩;have HO2:=hid (show IntKind.i64.wrap (o1+s2)=o2 by rw[ho2];exact qT zb zb);have HS2:=hid hs2;have HQB:=hid (show 0<q/\q<=1048576 by omega);have HST:=hid (show SI (jL (kr z) n) m=o2 by rw[hstep];unfold jL;rw[if_pos ⟨hr,by omega⟩,if_pos (by omega),hs1,hq,hs2];omega);clear he ho2 hs2 hb2 hq hqm hq1 ho1 hb1 hs1 hstep hrl hr hm1 hle hob hmb hsi hsq hnb ho hin hg hmi;go_upto_region 7 with fail;refine rgt S 5 [some 22,some 23,some 24,some 25,some 26] [iV (m:Int),iV (m:Int),iV (sq:Int),iV (n:Int),IsV (.bool true)] ?_ ?_
          ·exact tDen35_3
          intro v W7 S hH;simp only[lxE,Nat.reduceAdd];rw[show v 4=.bool true from hH 4 dcx];clear hH;go_upto_region 9 with fail;refine rgt S 4 [some 29,some 30,some 31,some 32] [iV (n:Int),iV (m:Int),iV 0,IsV (.bool false)] ?_ ?_
          ·exact tDen35_6
          intro v W9 S hH;simp only[lxE,Nat.reduceAdd];rw[show v 3=.bool false from hH 3 dcx];clear hH;go_upto_region 10 with fail;refine rg 6 [some 33,some 34,some 35,some 36,some 37,some 38] [iV o,IsI k1 z,iV (m:Int),IsI 2 ((m:Int)),iV s1,iV o1] [] 1 ?_ ?_
          ·exact tDen35_2
          intro v W10 e1 hH _;replace S:=S.mono e1;simp only[lxE,Nat.reduceAdd];rw[show v 5=.int .i64 o1 from hH 5 dcx];clear hH e1;refine wpAny_ready (rs:= [6]) za zh (AllReady.cons rfl (λK hK=>?_) AllReady.nil);go_simp;refine hK _ _ ?_;clear hK K;refine zO za ?_ _;go_upto_region 11 with fail;refine rgt S 5 [some 39,some 40,some 41,some 42,some 43] [iV (m:Int),iV (m:Int),iV (sq:Int),iV (n:Int),IsV (.bool true)] ?_ ?_
          · refine Rc zae ?_
            refine Rc zae ?_;refine Rc zc8 ?_;refine Rc xa ?_;refine Rc (bn (r:=.bool true) (qC 2 41) (qC 3 42) (hr:=λw=>by have hx9:=HEQ.out;go_simp)) ?_;exact rn0
          intro v W11 S hH;simp only[lxE,Nat.reduceAdd];rw[show v 4=.bool true from hH 4 dcx];clear hH;go_upto_region 12 with fail;refine rg 8 [some 44,some 45,some 46,some 47,some 48,some 49,some 50,some 51] [iV o1,IsI k1 z,iV (n:Int),iV (m:Int),iV (q:Int),IsI 2 ((q:Int)),iV s2,iV o2] [] 1 ?_ ?_
          · refine Rc zdg ?_
            refine Rc zf ?_;refine Rc xa ?_;refine Rc zae ?_;refine Rc (bn (r:=.int .i64 (q:Int)) (qC 2 46) (qC 3 47) (hr:=λw=>by have hx9:=HQ.out.1;have hx8:=HQ.out.2.1;have hx7:=HQ.out.2.2;go_simp)) ?_;refine Rc (cl1 (en func22) (qA (fP:=iV (q:Int)) 4 48) (λx0 w' hE d0=>by{obtain rfl:x0=.int .i64 (q:Int):=d0;exact qL _ (q:Int) zb (by have:=HQB.out;omega)})) ?_;refine Rc (cl2 (en func48) (qA (fP:=IsI k1 z) 1 45) (qA (fP:=IsI 2 ((q:Int))) 5 49) (λx0 x1 w' hE d0 d1=>(by have hh:=RKron_f d0 d1 HK.out dcx ⟨by have:=HQB.out;omega,by have:=HQB.out;omega⟩;rw[HS2.out]at hh;exact hh))) ?_;refine Rc (bn (r:=.int .i64 o2) (qC 0 44) (qC 6 50) (hr:=λw=>by have hx9:=HO2.out;go_simp)) ?_;exact rn0
          intro v W12 e1 hH _;replace S:=S.mono e1;simp only[lxE,Nat.reduceAdd];rw[show v 7=.int .i64 o2 from hH 7 dcx];clear hH e1;refine wpAny_ready (rs:= [8]) za zh (AllReady.cons rfl (λK hK=>?_) AllReady.nil);go_simp;refine hK _ _ ?_;clear hK K;refine zO za ?_ _;go_upto_region 8 with fail;refine rgs 2 [some 27,some 28] [iV (m:Int),iV ((m:Int)+1)] [] ?_ ?_
          ·exact tDen35_5
          intro v W8 e1 hH _;replace S:=S.mono e1;simp only[lxE,Nat.reduceAdd];rw[show v 1=.int .i64 ((m:Int)+1)from hH 1 dcx];clear hH e1;refine zT λK hK=>?_;go_simp;refine hK _ _ ?_;clear hK K
          refine zF ?_;have S':=hid S;clear S;go_wp2_with fail
          go_roundg (gk-1)
          case measure=>have:=HG.out;omega
          case rel=>exact⟨m+1,m,o2,rfl,by rw[zV];rfl,rfl,by have:=HG.out;omega,HG.out.2.2.2,HST.out,S'⟩
      · have HNE:=hid (show(((r:Int)) !=0)=true by rw[bne_iff_ne];omega)
        have HST:=hid (show SI (jL (kr z) n) m=o by rw[hstep];unfold jL;rw[if_neg (λh=>by omega)];omega);clear h0 hb1 hs1 hstep hrl hr hm1 hle hob hmb hsi hsq hnb ho hin hg hmi;go_upto_region 7 with fail;refine rgt S 5 [some 22,some 23,some 24,some 25,some 26] [iV (m:Int),iV (m:Int),iV (sq:Int),iV (n:Int),IsV (.bool true)] ?_ ?_
        ·exact tDen35_3
        intro v W7 S hH;simp only[lxE,Nat.reduceAdd];rw[show v 4=.bool true from hH 4 dcx];clear hH;go_upto_region 9 with fail;refine rgt S 4 [some 29,some 30,some 31,some 32] [iV (n:Int),iV (m:Int),iV (r:Int),IsV (.bool true)] ?_ ?_
        · refine Rc xa ?_
          refine Rc zae ?_;refine Rc (bn (r:=.int .i64 (r:Int)) (qC 0 29) (qC 1 30) (hr:=λw=>by have hx9:=HM.out.1;have hx8:=HM.out.2.1;have hx7:=HM.out.2.2;go_simp)) ?_;refine Rc (bn (r:=.bool true) (qC 2 31) qE (hr:=λw=>by have hx9:=HNE.out;go_simp)) ?_;exact rn0
        intro v W9 S hH;simp only[lxE,Nat.reduceAdd];rw[show v 3=.bool true from hH 3 dcx];clear hH;go_upto_region 8 with fail;refine rgs 2 [some 27,some 28] [iV (m:Int),iV ((m:Int)+1)] [] ?_ ?_
        ·exact tDen35_5
        intro v W8 e1 hH _;replace S:=S.mono e1;simp only[lxE,Nat.reduceAdd];rw[show v 1=.int .i64 ((m:Int)+1)from hH 1 dcx];clear hH e1;refine zT λK hK=>?_;go_simp;refine hK _ _ ?_;clear hK K
        refine zF ?_;have S':=hid S;clear S;go_wp2_with fail
        go_roundg (gk-1)
        case measure=>have:=HG.out;omega
        case rel=>exact⟨m+1,m,o,rfl,by rw[zV];rfl,rfl,by have:=HG.out;omega,HG.out.2.2.2,HST.out,S'⟩
    · have hst:o=totP (qV (kr z)) n:=by rw[<-ho,pair_stop (by rw[<-hmi,hsq];omega) hin,pair_sum (kr_le z) (by omega),dS_tot (kr_Mu z (kr_one z)) n n (by omega) (zL _)]
      have HTV:=hid (show IntKind.i64.wrap (xM z*o)=tv by rw[hst];exact HT.out);have HLE:=hid (show ¬(sq:Int)<=(n:Int)/\¬sq<=n by omega);clear hst hle hob hmb hsi hsq hnb ho hin hg hmi;go_upto_region 7 with fail;refine rgt S 5 [some 22,some 23,some 24,some 25,some 26] [iV (m:Int),iV (m:Int),iV (sq:Int),iV (n:Int),IsV (.bool false)] ?_ ?_
      · refine Rc zae ?_
        refine Rc zae ?_;refine Rc zc7 ?_;refine Rc xa ?_;refine Rc (bn (r:=.bool false) (qC 2 24) (qC 3 25) (hr:=λw=>by have hx9:=HLE.out.1;have hx8:=HLE.out.2;go_simp)) ?_;exact rn0
      intro v W7 S hH;simp only[lxE,Nat.reduceAdd];rw[show v 4=.bool false from hH 4 dcx];clear hH;go_upto_region 13 with fail;refine rgt S 6 [some 52,some 53,some 54,some 55,some 4,some 5] [IsI k1 z,iV (xM z),iV o,iV tv,iV tv,iV 0] ?_ ?_
      · refine Rc zf ?_
        refine Rc (cl1 (en func49) (qA (fP:=IsI k1 z) 0 52) (λx0 w' hE d0=>Units_f d0 HK1.out)) ?_;refine Rc zdg ?_;refine Rc (bn (r:=.int .i64 tv) (qC 1 53) (qC 2 54) (hr:=λw=>by have hx9:=HTV.out;go_simp)) ?_;refine Rc (mv (qA 3 55)) ?_;refine Rc zaf ?_;exact rn0
      intro v W13 S hH;simp only[lxE,Nat.reduceAdd];rw[show v 4=.int .i64 tv from hH 4 dcx,show v 5=.int .i64 0 from hH 5 dcx];clear hH;go_wp2_with fail;exact zD (v:=.tuple #[.int .i64 tv,.int .i64 0]) (by simp[results,results13,go_sem]) rfl (⟨_,rfl,S.ext,_,_,rfl,rfl,rfl⟩)
theorem tDen35_4{P:Prop}(h:P:=by
  refine Rc zcv ?_;refine Rc zck ?_;refine Rc (cl2 (en func23) (qA (fP:=IsI k1 z) 0 9) (qA (fP:=IsI k2 z2) 1 10) (λx0 x1 w' hE d0 d1=>HRF.out _ _ _ d0 d1)) ?_;refine Rc (mv (qA 2 11)) ?_;exact rn0
  ):P:=h
theorem rLocal_e{k1 k2:Nat}{z z2:Int}{x y:Value}{w:World}(hx:IsI k1 z x w)(hy:IsI k2 z2 y w)(p:Int)(ue:Int)(HRF:Hid (∀(x y:Value) (w:World),IsI k1 z x w->IsI k2 z2 y w->Calls prog 23 #[x,y] w (Ret w (iV ue))))(HUB:Hid ((ue !=0)=true)):Calls prog 11 #[x,y,.int .i64 p] w (Ret w (IsT2 (iV 0) (iV ue))):=by
  obtain⟨s1,a1,n1,c1,s2,a2,n2,c2,W,rfl,rfl,hW,S⟩:=en2 hx hy;go_enter func11,ntmps11;go_upto_region 1 with fail;rw[<-hW];clear hW;refine rgt S 4 [some 9,some 10,some 11,some 8] [IsI k1 z,IsI k2 z2,iV ue,iV ue] ?_ ?_
  ·exact tDen35_4
  intro v W1 S hH;simp only[lxE,Nat.reduceAdd];rw[show v 3=.int .i64 ue from hH 3 dcx];clear hH;go_upto_region 2 with fail;refine rgt S 2 [some 12,some 13] [iV ue,IsV (.bool true)] ?_ ?_
  · refine Rc yr ?_
    refine Rc (bn (r:=.bool true) (qC 0 12) qE (hr:=λw=>by have hx9:=HUB.out;go_simp)) ?_;exact rn0
  intro v W2 S hH;simp only[lxE,Nat.reduceAdd];rw[show v 1=.bool true from hH 1 dcx];clear hH;go_upto_region 3 with fail;refine rgt S 3 [some 14,some 6,some 7] [iV ue,iV 0,iV ue] ?_ ?_
  · refine Rc yr ?_
    refine Rc zaf ?_;refine Rc (mv (qA 0 14)) ?_;exact rn0
  intro v W3 S hH;simp only[lxE,Nat.reduceAdd];rw[show v 1=.int .i64 0 from hH 1 dcx,show v 2=.int .i64 ue from hH 2 dcx];clear hH;go_wp2_with fail;exact zD (v:=.tuple #[.int .i64 0,.int .i64 ue]) (by simp[results,results11,go_sem]) rfl (⟨_,rfl,S.ext,_,_,rfl,rfl,rfl⟩)
theorem tDen35_1{P:Prop}(h:P:=by
  intro v W4 e1 hH _;replace S:=S.mono e1;simp only[lxE,Nat.reduceAdd];rw[show v 6=.bool true from hH 6 dcx];clear hH e1;refine zF ?_;go_upto_region 5 with fail;refine rgt S 2 [some 6,some 7] [iV 0,iV 7] ?_ ?_
  · refine Rc zaf ?_
    refine Rc zaf ?_;exact rn0
  intro v W5 S hH;simp only[lxE,Nat.reduceAdd];rw[show v 0=.int .i64 0 from hH 0 dcx,show v 1=.int .i64 7 from hH 1 dcx];clear hH;go_wp2_with fail;exact zD (v:=.tuple #[.int .i64 0,.int .i64 7]) (by simp[results,results11,go_sem]) rfl (⟨_,rfl,S.ext,_,_,rfl,rfl,rfl⟩)
  ):P:=h
theorem tDen35_7{P:Prop}(h:P:=by
  refine Rc yr ?_;refine Rc (bn (r:=.bool false) (qC 0 12) qE (hr:=λw=>by go_simp)) ?_;exact rn0
  ):P:=h
theorem rLocal_big{k1 k2:Nat}{z z2:Int}{x y:Value}{w:World}(hx:IsI k1 z x w)(hy:IsI k2 z2 y w)(p:Int)(HRF:Hid (∀(x y:Value) (w:World),IsI k1 z x w->IsI k2 z2 y w->Calls prog 23 #[x,y] w (Ret w (iV 0))))(HGE:Hid (1048576<=p)):Calls prog 11 #[x,y,.int .i64 p] w (Ret w (IsT2 (iV 0) (iV 7))):=by
  obtain⟨s1,a1,n1,c1,s2,a2,n2,c2,W,rfl,rfl,hW,S⟩:=en2 hx hy;go_enter func11,ntmps11;go_upto_region 1 with fail;rw[<-hW];clear hW;refine rgt S 4 [some 9,some 10,some 11,some 8] [IsI k1 z,IsI k2 z2,iV 0,iV 0] ?_ ?_
  ·exact tDen35_4
  intro v W1 S hH;simp only[lxE,Nat.reduceAdd];rw[show v 3=.int .i64 0 from hH 3 dcx];clear hH;go_upto_region 2 with fail;refine rgt S 2 [some 12,some 13] [iV 0,IsV (.bool false)] ?_ ?_
  ·exact tDen35_7
  intro v W2 S hH;simp only[lxE,Nat.reduceAdd];rw[show v 1=.bool false from hH 1 dcx];clear hH;go_upto_region 4 with fail;refine rgs 7 [some 15,some 16,some 17,some 18,some 19,some 20,some 21] [iV p,IsV (.bool true),IsV (.bool true),IsV (undef),IsV (undef),IsV (undef),IsV (.bool true)] [] ?_ ?_
  · refine Rc zcl ?_
    refine Rc (bn (r:=.bool true) (qC 0 15) qE (hr:=λw=>by have hx9:=HGE.out;go_simp)) ?_;refine Rc (mv (qA 1 16)) ?_;refine RcN 2 17 true ?_;refine RcN 2 17 true ?_;refine RcN 2 17 true ?_;refine Rc (pk (qC 2 17) qE) ?_;exact rn0
  exact tDen35_1
theorem rLocal_no{k1 k2:Nat}{z z2:Int}{x y:Value}{w:World}(hx:IsI k1 z x w)(hy:IsI k2 z2 y w)(p:Int)(HRF:Hid (∀(x y:Value) (w:World),IsI k1 z x w->IsI k2 z2 y w->Calls prog 23 #[x,y] w (Ret w (iV 0))))(HGE:Hid (¬1048576<=p))(HPB:Hid (-9223372036854775808<=p/\p<=1048576))(HPR:Hid (false=true↔2<=p/\Pr p.toNat)):Calls prog 11 #[x,y,.int .i64 p] w (Ret w (IsT2 (iV 0) (iV 7))):=by
  obtain⟨s1,a1,n1,c1,s2,a2,n2,c2,W,rfl,rfl,hW,S⟩:=en2 hx hy;go_enter func11,ntmps11;go_upto_region 1 with fail;rw[<-hW];clear hW;refine rgt S 4 [some 9,some 10,some 11,some 8] [IsI k1 z,IsI k2 z2,iV 0,iV 0] ?_ ?_
  ·exact tDen35_4
  intro v W1 S hH;simp only[lxE,Nat.reduceAdd];rw[show v 3=.int .i64 0 from hH 3 dcx];clear hH;go_upto_region 2 with fail;refine rgt S 2 [some 12,some 13] [iV 0,IsV (.bool false)] ?_ ?_
  ·exact tDen35_7
  intro v W2 S hH;simp only[lxE,Nat.reduceAdd];rw[show v 1=.bool false from hH 1 dcx];clear hH;go_upto_region 4 with fail;refine rgs 7 [some 15,some 16,some 17,some 18,some 19,some 20,some 21] [iV p,IsV (.bool false),IsV (.bool false),iV p,IsV (.bool false),IsV (.bool true),IsV (.bool true)] [] ?_ ?_
  · refine Rc zcl ?_
    refine Rc (bn (r:=.bool false) (qC 0 15) qE (hr:=λw=>by have hx9:=HGE.out;go_simp)) ?_;refine Rc (mv (qA 1 16)) ?_;refine RcG 2 17 false zcl ?_;refine RcG 2 17 false (cl1 (en func45) (qA (fP:=iV p) 3 18) (λx0 w' hE d0=>by{obtain rfl:x0=.int .i64 p:=d0;exact rprime_f w' _ HPB.out false HPR.out})) ?_;refine RcG 2 17 false (nt (qC 4 19)) ?_;refine Rc (pk (qC 2 17) (qA 5 20)) ?_;exact rn0
  exact tDen35_1
theorem rLocal_k{k1 k2 n p:Nat}{z s:Int}{x y:Value}{w:World}(hx:IsI k1 z x w)(hy:IsI k2 (n:Int) y w)(HK:Hid (k1<=67108864))(HNB:Hid (0<n/\n<4294967296))(HP2:Hid (2<=p/\p<=4611686018427387904))(HCH:Hid (kr z p=s))(HSB:Hid (-1<=s/\s<=1))(HRF:Hid (∀(x y:Value) (w:World),IsI k1 z x w->IsI k2 (n:Int) y w->Calls prog 23 #[x,y] w (Ret w (iV 0))))(HGE:Hid (¬1048576<=(p:Int)))(HPB:Hid (-9223372036854775808<=(p:Int)/\(p:Int)<=1048576))(HPR:Hid (true=true↔2<=(p:Int)/\Pr (p:Int).toNat)):Calls prog 11 #[x,y,.int .i64 (p:Int)] w (Ret w (IsT2 (iV (qV (λ_=>s) p (vl p n))) (iV 0))):=by
  obtain⟨s1,a1,n1,c1,s2,a2,n2,c2,W,rfl,rfl,hW,S⟩:=en2 hx hy;go_enter func11,ntmps11;go_upto_region 1 with fail;rw[<-hW];clear hW;refine rgt S 4 [some 9,some 10,some 11,some 8] [IsI k1 z,IsI k2 ((n:Int)),iV 0,iV 0] ?_ ?_
  · refine Rc zcv ?_
    refine Rc zck ?_;refine Rc (cl2 (en func23) (qA (fP:=IsI k1 z) 0 9) (qA (fP:=IsI k2 ((n:Int))) 1 10) (λx0 x1 w' hE d0 d1=>HRF.out _ _ _ d0 d1)) ?_;refine Rc (mv (qA 2 11)) ?_;exact rn0
  intro v W1 S hH;simp only[lxE,Nat.reduceAdd];rw[show v 3=.int .i64 0 from hH 3 dcx];clear hH;go_upto_region 2 with fail;refine rgt S 2 [some 12,some 13] [iV 0,IsV (.bool false)] ?_ ?_
  ·exact tDen35_7
  intro v W2 S hH;simp only[lxE,Nat.reduceAdd];rw[show v 1=.bool false from hH 1 dcx];clear hH;go_upto_region 4 with fail;refine rgt S 7 [some 15,some 16,some 17,some 18,some 19,some 20,some 21] [iV (p:Int),IsV (.bool false),IsV (.bool false),iV (p:Int),IsV (.bool true),IsV (.bool false),IsV (.bool false)] ?_ ?_
  · refine Rc zcl ?_
    refine Rc (bn (r:=.bool false) (qC 0 15) qE (hr:=λw=>by have hx9:=HGE.out;go_simp)) ?_;refine Rc (mv (qA 1 16)) ?_;refine RcG 2 17 false zcl ?_;refine RcG 2 17 false (cl1 (en func45) (qA (fP:=iV (p:Int)) 3 18) (λx0 w' hE d0=>by{obtain rfl:x0=.int .i64 (p:Int):=d0;exact rprime_f w' _ HPB.out true HPR.out})) ?_;refine RcG 2 17 false (nt (qC 4 19)) ?_;refine Rc (pk (qC 2 17) (qA 5 20)) ?_;exact rn0
  intro v W4 S hH;simp only[lxE,Nat.reduceAdd];rw[show v 6=.bool false from hH 6 dcx];clear hH;go_upto_region 6 with fail;refine rgt S 6 [some 22,some 23,some 24,some 25,some 6,some 7] [IsI k1 z,IsI k2 ((n:Int)),iV (p:Int),iV (qV (λ_=>s) p (vl p n)),iV (qV (λ_=>s) p (vl p n)),iV 0] ?_ ?_
  · refine Rc zcv ?_
    refine Rc zck ?_;refine Rc zcl ?_;refine Rc (cl3 (en func46) (qA (fP:=IsI k1 z) 0 22) (qA (fP:=IsI k2 ((n:Int))) 1 23) (qA (fP:=iV (p:Int)) 2 24) (λx0 x1 x2 w' hE d0 d1 d2=>by{obtain rfl:x2=.int .i64 (p:Int):=d2;exact rfactor_a d0 d1 HK HNB HP2 HCH HSB})) ?_;refine Rc (mv (qA 3 25)) ?_;refine Rc zaf ?_;exact rn0
  intro v W6 S hH;simp only[lxE,Nat.reduceAdd];rw[show v 4=.int .i64 (qV (λ_=>s) p (vl p n))from hH 4 dcx,show v 5=.int .i64 0 from hH 5 dcx];clear hH;go_wp2_with fail;exact zD (v:=.tuple #[.int .i64 (qV (λ_=>s) p (vl p n)),.int .i64 0]) (by simp[results,results11,go_sem]) rfl (⟨_,rfl,S.ext,_,_,rfl,rfl,rfl⟩)
end Go.Proofs.YtknffgdbdadpcaaGreatDoor
