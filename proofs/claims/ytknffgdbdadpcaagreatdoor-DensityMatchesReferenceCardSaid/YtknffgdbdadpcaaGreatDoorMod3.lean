/-
 Package modular: Kronecker, for a lower number above 0. (Printed by wip/gen/mod3.py.)
-/
import Derived.Test.YtknffgdbdadpcaaGreatDoorMod2
import Derived.Test.YtknffgdbdadpcaaGreatDoorRFact
import Derived.Lib.LaidTab
namespace Go.Proofs.YtknffgdbdadpcaaGreatDoor
open Go Go.RowKit
open Go.Proofs.Tryz
theorem zd2{P:Prop}(h:P:=by{ (with_reducible refine RgL.mk zfe ?_);intro v a w' hE hd hf;have d0:v 0=.pointer (some ⟨w.heap.size+1,0,none⟩):=hd 0 za;have ev0:=hf.val 0 21 _ d0 za za za;clear d0;obtain⟨szx,azx,nzx,czx,bzx,hzx⟩:=(S.mono hE).at 0 (w.heap.size+1) 0 (IsI k2 ((n:Int))) rfl;have Lzxa:World.cell? w' ⟨w.heap.size+1,0,none⟩=some (.bool szx):=bzx.c0;have Lzxb:World.cell? w' ⟨w.heap.size+1,1,none⟩=some (.slice azx nzx czx):=bzx.c1;obtain rfl:=hzx.pos' (HN0.out);clear hd hf;intro K hK;go_simp;exact hK.out _ _ (Ext.refl _) rfl (FreshIf.no rfl)}):P:=h
theorem zf{P:Prop}(h:P:=by exact ldI S 1 (w.heap.size) 0 (qD 2) qG):P:=h
theorem zg{P:Prop}(h:P:=by exact ldI S 0 (w.heap.size+1) 0 (qD 3) qG):P:=h
theorem zt{P:Prop}(h:P:=by exact cl2 (en func116) (qA (fP:=IsI k2 ((b:Int))) 0 61) qE (λx0 x1 w' hE d0 d1=>by{obtain rfl:x1=.int .u32 4:=d1;exact(by have hh:=low_f d0 4 (.inl rfl);rw[show(_:Int)%((4:Nat):Int)=_ from HB4.out]at hh;exact hh)})):P:=h
theorem zw{P:Prop}(h:P:=by exact cl2 (en func117) (qA (fP:=IsI k2 ((nn:Int))) 0 71) (qA (fP:=IsI k2 ((b:Int))) 1 72) (λx0 x1 w' hE d0 d1=>zC (mmod_f d0 d1 HK.out.2 HK.out.2 HBZ.out) λ_ _ h=>h.eqz HNM.out)):P:=h
theorem ja{P:Prop}(h:P:=by exact mv (qD 5)):P:=h
theorem jb{P:Prop}(h:P:=by exact cl1 (en func115) (qA (fP:=IsI k2 ((a:Int))) 0 48) (λx0 w' hE d0=>(by have hh:=twos_f d0 HK.out.2 HAZ.out;rw[HTA.out.1,HTA.out.2]at hh;exact hh))):P:=h
theorem jq{P:Prop}(h:P:=by exact cl1 (en func84) (qA (fP:=IsI k2 ((a:Int))) 0 44) (λx0 w' hE d0=>zC (jA d0) λ_ _ h=>h.int (HSA.out))):P:=h
theorem jw{P:Prop}(h:P:=by have hh:=low_f d0 4 (.inl rfl);rw[show(_:Int)%((4:Nat):Int)=_ from HN4.out]at hh;exact hh):P:=h
theorem ye{P:Prop}(h:P:=by exact bn (r:=.bool e3) (qC 1 62) qE (hr:=λw=>by have hx9:=HE3.out.1;have hx8:=HE3.out.2;go_simp)):P:=h
theorem yx{P:Prop}(h:P:=by exact cl2 (en func116) (qA (fP:=IsI k2 ((nn:Int))) 1 56) qE (λx0 x1 w' hE d0 d1=>by{obtain rfl:x1=.int .u32 8:=d1;exact(by have hh:=low_f d0 8 (.inr rfl);rw[show(_:Int)%((8:Nat):Int)=_ from HR8.out.1]at hh;exact hh)})):P:=h
theorem xb{P:Prop}(h:P:=by exact bn (r:=.bool false) (qC 1 8) qE (hr:=λw=>by go_simp)):P:=h
theorem xk{P:Prop}(h:P:=by exact cl1 (en func84) (qA (fP:=IsI k2 ((n:Int))) 0 7) (λx0 w' hE d0=>zC (jA d0) λ_ _ h=>h.int (HS1.out))):P:=h
theorem xu{P:Prop}(h:P:=by exact pkA (b2:=f3) (qC 3 64) (λhb=>by subst hb;exact qA 6 67) (HEF.out)):P:=h
theorem xz{P:Prop}(h:P:=by exact cl1 (en func113) (qA (fP:=IsI k1 z) 0 13) (λx0 w' hE d0=>zC (odd_f d0) λ_ _ h=>RetB h HOA.out)):P:=h
theorem zab{P:Prop}(h:P:=by rw[zG (by omega)];omega):P:=h
theorem zaq{P:Prop}(h:P:=by exact cl2 (en func117) (qA (fP:=IsI k1 z) 0 41) (qA (fP:=IsI k2 ((m:Int))) 1 42) (λx0 x1 w' hE d0 d1=>zC (mmod_f d0 d1 HK.out.1 HK.out.2 HM0.out) λ_ _ h=>h.eqz HA0.out)):P:=h
theorem zat{P:Prop}(h:P:=by exact bn (r:=.bool true) (qC 1 45) qE (hr:=λw=>by go_simp)):P:=h
theorem za8{P:Prop}(h:P:=by exact cl1 (en func115) (qA (fP:=IsI k2 ((n:Int))) 0 28) (λx0 w' hE d0=>(by have hh:=twos_f d0 HK.out.2 HN.out;rw[HTW.out.1,HTW.out.2]at hh;exact hh))):P:=h
theorem zbh{P:Prop}(h:P:=by exact un (r:=.bool zE) (qC 1 14) (hr:=λw=>by have hx9:=HEA.out;go_simp)):P:=h
theorem zbi{P:Prop}(h:P:=by exact pkA (b2:=nE) (qC 3 16) (λhb=>by subst hb;exact qA 6 19) (HEE.out)):P:=h
theorem zcq{P:Prop}(h:P:=by exact cl1 (en func112) (qA (fP:=IsI k2 ((nn:Int))) 0 75) (λx0 w' hE d0=>mone_f d0 HK.out.2 HONE.out)):P:=h
theorem zcr{P:Prop}(h:P:=by exact bn (r:=.int .i64 0) (qC 0 52) qE (hr:=λw=>by have hx9:=HCC.out.1;have hx8:=HCC.out.2;go_simp)):P:=h
theorem zcs{P:Prop}(h:P:=by exact bn (r:=.int .i64 1) (qC 0 52) qE (hr:=λw=>by have hx9:=HCC.out.1;have hx8:=HCC.out.2;go_simp)):P:=h
theorem zcx{P:Prop}(h:P:=by exact cl1 (en func84) (qA (fP:=IsI k2 0) 0 44) (λx0 w' hE d0=>zC (jA d0) λ_ _ h=>h.int (rfl))):P:=h
theorem zdj{P:Prop}(h:P:=by exact bn (r:=.int .i64 kq) (qC 0 55) (qC 4 59) (hr:=λw=>by have hx9:=HKQ.out;go_simp)):P:=h
theorem zdm{P:Prop}(h:P:=by exact mv (qA 2 15)):P:=h
set_option maxRecDepth 100000
set_option maxHeartbeats 4000000
def IsIf(b:Bool)(fP:Value->World->Prop):Value->World->Prop:=λx w=>bif b then fP x w else x=undef
theorem IsIf.stb{b:Bool}{fP:Value->World->Prop}(h:Stb fP):Stb (IsIf b fP):=λx w w' e k=>by
 cases b
 ·exact k
 ·exact h x w w' e k
section
variable {P:Program} {ops:Array Oper} {Q:Exit->Act->World->Prop} {ds:List (Option Tmp)} {a0:Act} {w0:World} {L:List (Value->World->Prop)} {boxes:List Nat} {i k:Nat} {o:Oper} {os:List Oper}
theorem RcB(g t:Nat)(b pol:Bool)(h:b=pol->Ok P ops Q ds a0 w0 L boxes i o)(hs:RgAll P .any ops Q ds a0 w0 L boxes (i+1) k os)(hg:o.guard=some (g,pol):=by rfl)(hdst:xC ops g=some t:=by kernel_rfl)(h1:ds[g]? =some (some t):=by kernel_rfl)(h2:(ds.drop (g+1)).contains (some t)=false:=by kernel_rfl)(h3:decide (t<a0.tmps.size)=true:=by kernel_rfl)(hu:(ups .any ops i).contains g=true:=by kernel_rfl)
  (hL:L.getD g (λ_ _=>True)=IsV (.bool b):=by kernel_rfl) (hb:boxes.contains i=false:=by kernel_rfl) (hi:b=(!pol)->L.getD i (λ_ _=>True)=IsV undef:=by intro h;subst h;kernel_rfl):RgAll P .any ops Q ds a0 w0 L boxes i (k+1) (o ::os):=by
 refine⟨?_,hs⟩;by_cases hbp:b=pol
 ·have hL':L.getD g (λ_ _=>True)=IsV (.bool pol):=by rw[hL,hbp]
  exact RgL.mkG g t pol hg hdst h1 h2 h3 hu (λ_ _ h=>by rw[hL']at h;exact h) (h hbp).out
 ·have hbn:b= !pol:=by cases b <;> cases pol <;> simp_all
  have hL':L.getD g (λ_ _=>True)=IsV (.bool (!pol)):=by rw[hL,hbn]
  exact RgL.mkN g t (!pol) (by rw[hg,Bool.not_not]) hdst h1 h2 h3 hu (λ_ _ h=>by rw[hL']at h;exact h) hb (λ_=>by rw[hi hbn];exact rfl)
theorem un{x:Operand}{u:UnOp}{T:Nat}{p r:Value}(hx:Od ops ds a0 w0 L i x (IsV p))(ho:o.op=.unOp u T x:=by rfl)(hr:∀w,Sem.run P (Op.unary u p) w=.ok r w)(hi:L.getD i (λ_ _=>True)=IsV r:=by kernel_rfl)(hb:boxes.contains i=false:=by kernel_rfl):Ok P ops Q ds a0 w0 L boxes i o:=
 Ok.of hb λv a w hE hd hf=>by
  have h1:a.eval x=p:=hx.out v a w hE hd hf;refine⟨r,?_,by rw[hi];exact rfl⟩;have:=hr w;unfold execOp;rw[ho];dsimp only;rw[h1];simp[this]
theorem pkA{c y:Operand}{b b2 r:Bool}(hc:Od ops ds a0 w0 L i c (IsV (.bool b)))(hy:b=true->Od ops ds a0 w0 L i y (IsV (.bool b2)))(hr:(b&&b2)=r)(ho:o.op=.pick c y (.const (.bool false)):=by rfl)(hi:L.getD i (λ_ _=>True)=IsV (.bool r):=by kernel_rfl)(hb:boxes.contains i=false:=by kernel_rfl):Ok P ops Q ds a0 w0 L boxes i o:=
 Ok.of hb λv a w hE hd hf=>by
  have h1:a.eval c=.bool b:=hc.out v a w hE hd hf;refine⟨.bool r,?_,by rw[hi];exact rfl⟩;unfold execOp;rw[ho];dsimp only;rw[h1];cases b
  ·subst hr;simp[asBool];rfl
  ·have h2:a.eval y=.bool b2:=(hy rfl).out v a w hE hd hf;rw[h2];subst hr;simp[asBool]
theorem pkO{c y:Operand}{b b2 r:Bool}(hc:Od ops ds a0 w0 L i c (IsV (.bool b)))(hy:b=false->Od ops ds a0 w0 L i y (IsV (.bool b2)))(hr:(b||b2)=r)(ho:o.op=.pick c (.const (.bool true)) y:=by rfl)(hi:L.getD i (λ_ _=>True)=IsV (.bool r):=by kernel_rfl)(hb:boxes.contains i=false:=by kernel_rfl):Ok P ops Q ds a0 w0 L boxes i o:=
 Ok.of hb λv a w hE hd hf=>by
  have h1:a.eval c=.bool b:=hc.out v a w hE hd hf;refine⟨.bool r,?_,by rw[hi];exact rfl⟩;unfold execOp;rw[ho];dsimp only;rw[h1];cases b
  ·have h2:a.eval y=.bool b2:=(hy rfl).out v a w hE hd hf;rw[h2];subst hr;simp[asBool]
  ·subst hr;simp[asBool];rfl
end
def Sg(w:World):Prop:=∀r:Nat,r<8->World.cell? w ⟨0,r,none⟩=some (.int .i64 (sg8 r))
theorem Sg.ext{w w':World}(h:Sg w)(e:Ext w w'):Sg w':=λr hr=>e.cell (h r hr)
section
variable {ops:Array Oper} {Q:Exit->Act->World->Prop} {ds:List (Option Tmp)} {a0:Act} {w0:World} {L:List (Value->World->Prop)} {boxes:List Nat} {i:Nat} {o:Oper}
theorem Od.glb(g:Nat):Od ops ds a0 w0 L i (.global g) (IsV (.pointer (some ⟨g,0,none⟩))):=⟨λ_ _ _ _ _ _=>rfl⟩
theorem ix{x y:Operand}{T:Nat}{p u r:Value}(hr:∀w,(Instr.indexAt T p u).run prog w=.ok r w)(hx:Od ops ds a0 w0 L i x (IsV p))(hy:Od ops ds a0 w0 L i y (IsV u))(ho:o.op=.indexAddr T x y:=by rfl)(hi:L.getD i (λ_ _=>True)=IsV r:=by kernel_rfl)(hb:boxes.contains i=false:=by kernel_rfl):Ok prog ops Q ds a0 w0 L boxes i o:=
 Ok.of hb λv a w hE hd hf=>by
  have h1:a.eval x=p:=hx.out v a w hE hd hf;have h2:a.eval y=u:=hy.out v a w hE hd hf;refine⟨r,?_,by rw[hi];exact rfl⟩;have:=hr w;unfold execOp;rw[ho];dsimp only;rw[h1,h2];simp[this]
theorem ldG{b:Addr}{u:Int}{x:Operand}(hc:∀w,Ext w0 w->World.cell? w b=some (.int .i64 u))(hx:Od ops ds a0 w0 L i x (IsV (.pointer (some b))))(ho:o.op=.load 3 x:=by rfl)(hi:L.getD i (λ_ _=>True)=iV u:=by kernel_rfl)(hb:boxes.contains i=false:=by kernel_rfl):Ok prog ops Q ds a0 w0 L boxes i o:=
 Ok.of hb λv' a w hE hd hf=>by
  have h:a.eval x=_:=hx.out v' a w hE hd hf;have hcell:=hc w hE;exact⟨_,ld_run ho h (show(Instr.loadAt 3 (.pointer (some b))).run prog w=.ok (.int .i64 u) w by go_simp),by rw[hi];exact rfl⟩
end
theorem ia_sg(r:Nat)(h:r<8)(w:World):(Instr.indexAt 151 (.pointer (some ⟨0,0,none⟩)) (.int .u32 (r:Int))).run prog w=.ok (.pointer (some ⟨0,r,none⟩)) w:=by
 have h1:(0:Int)<=(r:Int):=zb
 have h2:(r:Int)<8:=zb
 go_simp
theorem mul_sg(k:Int)(r:Nat)(hk: -1<=k/\k<=1): -1<=k*sg8 r/\k*sg8 r<=1:=by
 have hs:=sg8_le r;obtain h|h|h:k= -1\/k=0\/k=1:=zb
 ·rw[h];omega
 ·rw[h];omega
 ·rw[h];omega
theorem Kron_0{k1 k2 n:Nat}{z:Int}{x y:Value}{w:World}(hx:IsI k1 z x w)(hy:IsI k2 (n:Int) y w)(oa zE on nE:Bool)(HOA:Hid (decide (z%2=1)=oa))(HEA:Hid ((!oa)=zE))(HON:Hid (decide ((n:Int)%2=1)=on))(HEN:Hid ((!on)=nE))(HS1:Hid ((n:Int).sign=1))(HEE:Hid ((zE&&nE)=true)):Calls prog 62 #[x,y] w (Ret w (iV (0))):=by
 obtain⟨s1,a1,n1,c1,s2,a2,n2,c2,W,rfl,rfl,hW,S⟩:=en2 hx hy;go_enter func62,ntmps62;go_upto_region 1 with fail;rw[<-hW];clear hW;refine rgt S 3 [some 7,some 8,some 9] [IsI k2 ((n:Int)),iV 1,IsV (.bool false)] ?_ ?_
 ·refine Rc zg ?_;refine Rc xk ?_;refine Rc xb ?_;exact rn0
 intro v W1 S hH;simp only[lxE,Nat.reduceAdd];rw[show v 2=.bool false from hH 2 dcx];clear hH;go_upto_region 5 with fail;refine rgt S 8 [some 13,some 14,some 15,some 16,some 17,some 18,some 19,some 20] [IsI k1 z,IsV (.bool oa),IsV (.bool zE),IsV (.bool zE),IsIf (zE) (IsI k2 ((n:Int))),IsIf (zE) (IsV (.bool on)),IsIf (zE) (IsV (.bool nE)),IsV (.bool true)] ?_ ?_ (hst:=by repeat' (first|exact trivial|apply IsIf.stb|exact IsV.stb _|exact IsI.stb _ _|apply IsJ.stb|apply IsQ.stb|apply zJ))
 ·refine Rc zf ?_;refine Rc xz ?_;refine Rc zbh ?_;refine Rc zdm ?_;refine RcB 3 16 zE true (λhb=>by subst hb;exact ldI S 0 (w.heap.size+1) 0 (qD 3) qG) ?_;refine RcB 3 16 zE true (λhb=>by subst hb;exact cl1 (en func113) (qA (fP:=IsI k2 ((n:Int))) 4 17) (λx0 w' hE d0=>zC (odd_f d0) λ_ _ h=>RetB h HON.out)) ?_;refine RcB 3 16 zE true (λhb=>by subst hb;exact un (r:=.bool nE) (qC 5 18) (hr:=λw=>by have hx9:=HEN.out;go_simp)) ?_;refine Rc zbi ?_;exact rn0
 intro v W5 S hH;simp only[lxE,Nat.reduceAdd];rw[show v 7=.bool true from hH 7 dcx];clear hH;go_upto_region 6 with fail;refine rgt S 1 [some 4] [iV 0] ?_ ?_
 ·refine Rc zaf ?_;exact rn0
 intro v W6 S hH;simp only[lxE];rw[show v 0=.int .i64 0 from hH 0 dcx];clear hH;go_wp2_with fail;exact zD (v:=.int .i64 0) (by simp[results,results62,go_sem]) rfl (⟨_,rfl,S.ext,rfl⟩)
theorem tMod3_1{P:Prop}(h:P:=by
  clear S0;obtain⟨a,nn,f,kk,rfl,hg,hf,hodd,hnb,hab,hkk,hr,S⟩:=hrel;have S:=S.out;rcases zI a with ha|ha
  ·by_cases h1:nn=1
   ·subst ha;have HONE:=hid (show decide ((nn:Int)=1)=true from decide_eq_true zb);rw[krF_zero,if_pos h1]at hr;have HRR:=hid hr;clear hr hg hf hodd hnb hab hkk h1;go_upto_region 16 with fail;refine rgt S 3 [some 44,some 45,some 46] [IsI k2 0,iV 0,IsV (.bool false)] ?_ ?_
    ·refine Rc zf ?_;refine Rc zcx ?_;refine Rc (bn (r:=.bool false) (qC 1 45) qE (hr:=λw=>by go_simp)) ?_;exact rn0
    intro v W16 S hH;simp only[lxE,Nat.reduceAdd];rw[show v 2=.bool false from hH 2 dcx];clear hH;go_upto_region 23 with fail;refine rgt S 3 [some 75,some 76,some 77] [IsI k2 ((nn:Int)),IsV (.bool true),IsV (.bool false)] ?_ ?_
    ·refine Rc zg ?_;refine Rc zcq ?_;refine Rc (nt (qC 1 76)) ?_;exact rn0
    intro v W23 S hH;simp only[lxE,Nat.reduceAdd];rw[show v 2=.bool false from hH 2 dcx];clear hH;go_upto_region 25 with fail;refine rgt S 2 [some 78,some 4] [iV kk,iV kk] ?_ ?_
    ·refine Rc ja ?_;refine Rc (mv (qA 0 78)) ?_;exact rn0
    intro v W25 S hH;simp only[lxE,Nat.reduceAdd];rw[show v 1=.int .i64 kk from hH 1 dcx];clear hH;go_wp2_with fail;exact zD (v:=.int .i64 kk) (by simp[results,results62,go_sem]) rfl (⟨_,rfl,S.ext,HRR.out▸rfl⟩)
   ·subst ha;have HONE:=hid (show decide ((nn:Int)=1)=false from decide_eq_false zb);rw[krF_zero,if_neg h1]at hr;have HRR:=hid hr;clear hr hg hf hodd hnb hab hkk h1;go_upto_region 16 with fail;refine rgt S 3 [some 44,some 45,some 46] [IsI k2 0,iV 0,IsV (.bool false)] ?_ ?_
    ·refine Rc zf ?_;refine Rc zcx ?_;refine Rc (bn (r:=.bool false) (qC 1 45) qE (hr:=λw=>by go_simp)) ?_;exact rn0
    intro v W16 S hH;simp only[lxE,Nat.reduceAdd];rw[show v 2=.bool false from hH 2 dcx];clear hH;go_upto_region 23 with fail;refine rgt S 3 [some 75,some 76,some 77] [IsI k2 ((nn:Int)),IsV (.bool false),IsV (.bool true)] ?_ ?_
    ·refine Rc zg ?_;refine Rc zcq ?_;refine Rc (nt (qC 1 76)) ?_;exact rn0
    intro v W23 S hH;simp only[lxE,Nat.reduceAdd];rw[show v 2=.bool true from hH 2 dcx];clear hH;go_upto_region 24 with fail;refine rgt S 1 [some 4] [iV 0] ?_ ?_
    ·refine Rc zaf ?_;exact rn0
    intro v W24 S hH;simp only[lxE];rw[show v 0=.int .i64 0 from hH 0 dcx];clear hH;go_wp2_with fail;exact zD (v:=.int .i64 0) (by simp[results,results62,go_sem]) rfl (⟨_,rfl,S.ext,HRR.out▸rfl⟩)
  ·obtain⟨f,rfl⟩:∃j,f=j+1:=⟨f-1,by omega⟩;obtain⟨b,hb⟩:∃b,(tws a).1=b:=⟨_,rfl⟩;obtain⟨cc,hcc⟩:∃c,(tws a).2=c:=⟨_,rfl⟩;have hts:=tws_spec ha;rw[hb,hcc]at hts;have HTA:=hid (zJ hb hcc);have HAZ:=hid (zJ ha hab);have HSA:=hid (show(a:Int).sign=1 from Int.sign_eq_one_of_pos zb);obtain⟨rb,hrb⟩:∃r,b%4=r:=⟨_,rfl⟩;obtain⟨rn,hrn⟩:∃r,nn%4=r:=⟨_,rfl⟩;have HB4:=hid (show(b:Int)%((4:Nat):Int)=(rb:Int)by omega);have HN4:=hid (show(nn:Int)%((4:Nat):Int)=(rn:Int)by omega);obtain⟨e3,he3⟩:∃e,(rb==3)=e:=⟨_,rfl⟩;obtain⟨f3,hf3⟩:∃e,(rn==3)=e:=⟨_,rfl⟩;have HE3:=hid (show((rb:Int)==3)=e3/\(rb==3)=e3 from⟨by rw[<-he3,Bool.eq_iff_iff,beq_iff_eq,beq_iff_eq];omega,he3⟩);have HF3:=hid (show((rn:Int)==3)=f3/\(rn==3)=f3 from⟨by rw[<-hf3,Bool.eq_iff_iff,beq_iff_eq,beq_iff_eq];omega,hf3⟩);obtain⟨na,hna⟩:∃x,nn%b=x:=⟨_,rfl⟩;have HBZ:=hid (show(b:Int)≠0 by omega);have HNM:=hid (show(nn:Int)%(b:Int)=(na:Int)by rw[<-hna];rfl);have hlt:na<b:=by rw[<-hna];exact zR _ hts.2.1
   have HHN:=hid (show na<gk/\na<=f/\b%2=1/\b<=4611686018427387904/\na<=4611686018427387904 by omega);unfold krF at hr;rw[if_neg (by omega),hb,hcc]at hr;dsimp only at hr;rcases Nat.mod_two_eq_zero_or_one cc with h2|h2
   ·have HCC:=hid (show(cc:Int)%2=0/\(cc:Int).tmod 2=0 by rw[zG (by omega)];omega);rw[if_neg (show ¬(cc%2=1)by omega),hna]at hr;by_cases h3:b%4=3/\nn%4=3
    ·have HEF:=hid (show(e3&&f3)=true by rw[<-he3,<-hf3,Bool.and_eq_true,beq_iff_eq,beq_iff_eq];omega);obtain⟨kn,hkn⟩:∃k,-kk=k:=⟨_,rfl⟩;have HNG:=hid (show IntKind.i64.wrap (-kk)=kn by rw[hkn];simp only[IntKind.wrap_i64];omega);have HHK:=hid (show -1<=kn/\kn<=1 by omega);rw[if_pos h3,hkn]at hr;have HHR:=hid hr;clear hr hg hf hodd hnb hab hkk ha hb hcc hts hrb hrn he3 hf3 hna hlt h2 h3 hkn;go_upto_region 16 with fail;refine rgt S 3 [some 44,some 45,some 46] [IsI k2 ((a:Int)),iV 1,IsV (.bool true)] ?_ ?_
     ·refine Rc zf ?_;refine Rc jq ?_;refine Rc zat ?_;exact rn0
     intro v W16 S hH;simp only[lxE,Nat.reduceAdd];rw[show v 2=.bool true from hH 2 dcx];clear hH;go_upto_region 17 with fail;refine rgs 5 [some 48,some 49,some 47,some 50,some 51] [IsI k2 ((a:Int)),IsT2 (IsI k2 ((b:Int))) (iV (cc:Int)),IsT2 (IsI k2 ((b:Int))) (iV (cc:Int)),IsI k2 ((b:Int)),iV (cc:Int)] [] ?_ ?_
     ·refine Rc zf ?_;refine Rc jb ?_;refine Rc (mv (qA 1 49)) ?_;refine Rc (ex (qC 2 47) t20) ?_;refine Rc (ex (qC 2 47) t21) ?_;exact rn0
     intro v W17 e1 hH _;replace S:=S.mono e1;have h50:=hH 3 dcx;simp only[lxE,Nat.reduceAdd];rw[show v 4=.int .i64 (cc:Int)from hH 4 dcx];clear hH e1
     try simp only[dxE]
     (with_reducible refine stL ?_ zfe);intro KK hKK;refine stI S 1 (w.heap.size) 0 h50 qJ (λW17a S2 G2=>hKK _ _ ?_) rfl
     replace S:=S2;clear S2 G2 hKK KK h50;simp only[u0x,u1x]at S;refine zT λK hK=>?_;go_simp;refine hK _ _ ?_;clear hK K
     refine zF ?_;go_upto_region 18 with fail;refine rgt S 3 [some 52,some 53,some 54] [iV (cc:Int),iV 0,IsV (.bool false)] ?_ ?_
     ·refine Rc zaa ?_;refine Rc zcr ?_;refine Rc (bn (r:=.bool false) (qC 1 53) qE (hr:=λw=>by go_simp)) ?_;exact rn0
     intro v W18 S hH;simp only[lxE,Nat.reduceAdd];rw[show v 2=.bool false from hH 2 dcx];clear hH;go_upto_region 20 with fail;refine rgt S 8 [some 61,some 62,some 63,some 64,some 65,some 66,some 67,some 68] [IsI k2 ((b:Int)),IsV (.int .u32 (rb:Int)),IsV (.bool e3),IsV (.bool e3),IsIf (e3) (IsI k2 ((nn:Int))),IsIf (e3) (IsV (.int .u32 (rn:Int))),IsIf (e3) (IsV (.bool f3)),IsV (.bool true)] ?_ ?_ (hst:=by repeat' (first|exact trivial|apply IsIf.stb|exact IsV.stb _|exact IsI.stb _ _|apply IsJ.stb|apply IsQ.stb|apply zJ))
     ·refine Rc zf ?_;refine Rc zt ?_;refine Rc ye ?_;refine Rc (mv (qA 2 63)) ?_;refine RcB 3 64 e3 true (λhb=>by subst hb;exact ldI S 0 (w.heap.size+1) 0 (qD 3) qG) ?_;refine RcB 3 64 e3 true (λhb=>by subst hb;exact cl2 (en func116) (qA (fP:=IsI k2 ((nn:Int))) 4 65) qE (λx0 x1 w' hE d0 d1=>by{obtain rfl:x1=.int .u32 4:=d1;exact jw})) ?_;refine RcB 3 64 e3 true (λhb=>by subst hb;exact bn (r:=.bool f3) (qC 5 66) qE (hr:=λw=>by have hx9:=HF3.out.1;have hx8:=HF3.out.2;go_simp)) ?_;refine Rc xu ?_;exact rn0
     intro v W20 S hH;simp only[lxE,Nat.reduceAdd];rw[show v 7=.bool true from hH 7 dcx];clear hH;go_upto_region 21 with fail;refine rgs 2 [some 69,some 70] [iV kk,iV kn] [] ?_ ?_
     ·refine Rc ja ?_;refine Rc (un (r:=.int .i64 kn) (qC 0 69) (hr:=λw=>by have hx9:=HNG.out;go_simp)) ?_;exact rn0
     intro v W21 e1 hH _;replace S:=S.mono e1;simp only[lxE,Nat.reduceAdd];rw[show v 1=.int .i64 kn from hH 1 dcx];clear hH e1;refine zT λK hK=>?_;go_simp;refine hK _ _ ?_;clear hK K
     refine zF ?_;go_upto_region 22 with fail;refine rg 4 [some 71,some 72,some 73,some 74] [IsI k2 ((nn:Int)),IsI k2 ((b:Int)),IsI k2 ((na:Int)),IsI k2 ((b:Int))] [] 2 ?_ ?_
     ·refine Rc zg ?_;refine Rc zf ?_;refine Rc zw ?_;refine Rc zf ?_;exact rn0
     intro v W22 e1 hH _;replace S:=S.mono e1;have h73:=hH 2 dcx;have h74:=hH 3 dcx;simp only[lxE,Nat.reduceAdd];clear hH e1;refine stA 4 (h:=λKK hKK=>stI S 1 (w.heap.size) 0 h73 qJ (λW22a S2 G2=>hKK _ _ ?_) rfl);replace h74:=(IsI.gstb _ _) _ _ _ G2 h74;replace S:=S2;clear S2 G2 hKK KK h73;simp only[u0x,u1x]at S;refine stA 5 (h:=λKK hKK=>stI S 0 (w.heap.size+1) 0 h74 qJ (λW22b S2 G2=>hKK _ _ ?_) rfl);replace S:=S2;clear S2 G2 hKK KK h74;simp only[u0x]at S;refine zO za ?_ _;have S':=hid S;clear S;go_wp2_with fail
     go_roundg na
     case measure=>have:=HHN.out;omega
     case rel=>exact⟨na,b,f,kn,rfl,rfl,by have:=HHN.out;omega,HHN.out.2.2.1,by have:=HHN.out;omega,by have:=HHN.out;omega,HHK.out,HHR.out,S'⟩
    ·have HEF:=hid (show(e3&&f3)=false by rw[<-he3,<-hf3,Bool.eq_false_iff];intro k;rw[Bool.and_eq_true,beq_iff_eq,beq_iff_eq]at k;exact h3 zb);have HHK:=hid hkk;rw[if_neg h3]at hr;have HHR:=hid hr;clear hr hg hf hodd hnb hab hkk ha hb hcc hts hrb hrn he3 hf3 hna hlt h2 h3;go_upto_region 16 with fail;refine rgt S 3 [some 44,some 45,some 46] [IsI k2 ((a:Int)),iV 1,IsV (.bool true)] ?_ ?_
     ·refine Rc zf ?_;refine Rc jq ?_;refine Rc zat ?_;exact rn0
     intro v W16 S hH;simp only[lxE,Nat.reduceAdd];rw[show v 2=.bool true from hH 2 dcx];clear hH;go_upto_region 17 with fail;refine rgs 5 [some 48,some 49,some 47,some 50,some 51] [IsI k2 ((a:Int)),IsT2 (IsI k2 ((b:Int))) (iV (cc:Int)),IsT2 (IsI k2 ((b:Int))) (iV (cc:Int)),IsI k2 ((b:Int)),iV (cc:Int)] [] ?_ ?_
     ·refine Rc zf ?_;refine Rc jb ?_;refine Rc (mv (qA 1 49)) ?_;refine Rc (ex (qC 2 47) t20) ?_;refine Rc (ex (qC 2 47) t21) ?_;exact rn0
     intro v W17 e1 hH _;replace S:=S.mono e1;have h50:=hH 3 dcx;simp only[lxE,Nat.reduceAdd];rw[show v 4=.int .i64 (cc:Int)from hH 4 dcx];clear hH e1
     try simp only[dxE]
     (with_reducible refine stL ?_ zfe);intro KK hKK;refine stI S 1 (w.heap.size) 0 h50 qJ (λW17a S2 G2=>hKK _ _ ?_) rfl
     replace S:=S2;clear S2 G2 hKK KK h50;simp only[u0x,u1x]at S;refine zT λK hK=>?_;go_simp;refine hK _ _ ?_;clear hK K
     refine zF ?_;go_upto_region 18 with fail;refine rgt S 3 [some 52,some 53,some 54] [iV (cc:Int),iV 0,IsV (.bool false)] ?_ ?_
     ·refine Rc zaa ?_;refine Rc zcr ?_;refine Rc (bn (r:=.bool false) (qC 1 53) qE (hr:=λw=>by go_simp)) ?_;exact rn0
     intro v W18 S hH;simp only[lxE,Nat.reduceAdd];rw[show v 2=.bool false from hH 2 dcx];clear hH;go_upto_region 20 with fail;refine rgt S 8 [some 61,some 62,some 63,some 64,some 65,some 66,some 67,some 68] [IsI k2 ((b:Int)),IsV (.int .u32 (rb:Int)),IsV (.bool e3),IsV (.bool e3),IsIf (e3) (IsI k2 ((nn:Int))),IsIf (e3) (IsV (.int .u32 (rn:Int))),IsIf (e3) (IsV (.bool f3)),IsV (.bool false)] ?_ ?_ (hst:=by repeat' (first|exact trivial|apply IsIf.stb|exact IsV.stb _|exact IsI.stb _ _|apply IsJ.stb|apply IsQ.stb|apply zJ))
     ·refine Rc zf ?_;refine Rc zt ?_;refine Rc ye ?_;refine Rc (mv (qA 2 63)) ?_;refine RcB 3 64 e3 true (λhb=>by subst hb;exact ldI S 0 (w.heap.size+1) 0 (qD 3) qG) ?_;refine RcB 3 64 e3 true (λhb=>by subst hb;exact cl2 (en func116) (qA (fP:=IsI k2 ((nn:Int))) 4 65) qE (λx0 x1 w' hE d0 d1=>by{obtain rfl:x1=.int .u32 4:=d1;exact jw})) ?_;refine RcB 3 64 e3 true (λhb=>by subst hb;exact bn (r:=.bool f3) (qC 5 66) qE (hr:=λw=>by have hx9:=HF3.out.1;have hx8:=HF3.out.2;go_simp)) ?_;refine Rc xu ?_;exact rn0
     intro v W20 S hH;simp only[lxE,Nat.reduceAdd];rw[show v 7=.bool false from hH 7 dcx];clear hH;go_upto_region 22 with fail;refine rg 4 [some 71,some 72,some 73,some 74] [IsI k2 ((nn:Int)),IsI k2 ((b:Int)),IsI k2 ((na:Int)),IsI k2 ((b:Int))] [] 2 ?_ ?_
     ·refine Rc zg ?_;refine Rc zf ?_;refine Rc zw ?_;refine Rc zf ?_;exact rn0
     intro v W22 e1 hH _;replace S:=S.mono e1;have h73:=hH 2 dcx;have h74:=hH 3 dcx;simp only[lxE,Nat.reduceAdd];clear hH e1;refine stA 4 (h:=λKK hKK=>stI S 1 (w.heap.size) 0 h73 qJ (λW22a S2 G2=>hKK _ _ ?_) rfl);replace h74:=(IsI.gstb _ _) _ _ _ G2 h74;replace S:=S2;clear S2 G2 hKK KK h73;simp only[u0x,u1x]at S;refine stA 5 (h:=λKK hKK=>stI S 0 (w.heap.size+1) 0 h74 qJ (λW22b S2 G2=>hKK _ _ ?_) rfl);replace S:=S2;clear S2 G2 hKK KK h74;simp only[u0x]at S;refine zO za ?_ _;have S':=hid S;clear S;go_wp2_with fail
     go_roundg na
     case measure=>have:=HHN.out;omega
     case rel=>exact⟨na,b,f,kk,rfl,rfl,by have:=HHN.out;omega,HHN.out.2.2.1,by have:=HHN.out;omega,by have:=HHN.out;omega,HHK.out,HHR.out,S'⟩
   ·obtain⟨r,hr8⟩:∃r,nn%8=r:=⟨_,rfl⟩;have HR8:=hid (show(nn:Int)%((8:Nat):Int)=(r:Int)/\r<8 by omega);have HCC:=hid (show(cc:Int)%2=1/\(cc:Int).tmod 2=1 by rw[zG (by omega)];omega);obtain⟨kq,hkq⟩:∃k,kk*sg8 r=k:=⟨_,rfl⟩;have hkq2: -1<=kq/\kq<=1:=by rw[<-hkq];exact mul_sg kk r hkk
    have HKQ:=hid (show IntKind.i64.wrap (kk*sg8 r)=kq by rw[hkq];simp only[IntKind.wrap_i64];omega);rw[if_pos h2,hr8,hkq,hna]at hr;by_cases h3:b%4=3/\nn%4=3
    ·have HEF:=hid (show(e3&&f3)=true by rw[<-he3,<-hf3,Bool.and_eq_true,beq_iff_eq,beq_iff_eq];omega);obtain⟨kn,hkn⟩:∃k,-kq=k:=⟨_,rfl⟩;have HNG:=hid (show IntKind.i64.wrap (-kq)=kn by rw[hkn];simp only[IntKind.wrap_i64];omega);have HHK:=hid (show -1<=kn/\kn<=1 by omega);rw[if_pos h3,hkn]at hr;have HHR:=hid hr;clear hr hg hf hodd hnb hab hkk ha hb hcc hts hrb hrn he3 hf3 hna hlt h2 h3 hkn hr8 hkq hkq2;go_upto_region 16 with fail;refine rgt S 3 [some 44,some 45,some 46] [IsI k2 ((a:Int)),iV 1,IsV (.bool true)] ?_ ?_
     ·refine Rc zf ?_;refine Rc jq ?_;refine Rc zat ?_;exact rn0
     intro v W16 S hH;simp only[lxE,Nat.reduceAdd];rw[show v 2=.bool true from hH 2 dcx];clear hH;go_upto_region 17 with fail;refine rgs 5 [some 48,some 49,some 47,some 50,some 51] [IsI k2 ((a:Int)),IsT2 (IsI k2 ((b:Int))) (iV (cc:Int)),IsT2 (IsI k2 ((b:Int))) (iV (cc:Int)),IsI k2 ((b:Int)),iV (cc:Int)] [] ?_ ?_
     ·refine Rc zf ?_;refine Rc jb ?_;refine Rc (mv (qA 1 49)) ?_;refine Rc (ex (qC 2 47) t20) ?_;refine Rc (ex (qC 2 47) t21) ?_;exact rn0
     intro v W17 e1 hH _;replace S:=S.mono e1;have h50:=hH 3 dcx;simp only[lxE,Nat.reduceAdd];rw[show v 4=.int .i64 (cc:Int)from hH 4 dcx];clear hH e1
     try simp only[dxE]
     (with_reducible refine stL ?_ zfe);intro KK hKK;refine stI S 1 (w.heap.size) 0 h50 qJ (λW17a S2 G2=>hKK _ _ ?_) rfl
     replace S:=S2;clear S2 G2 hKK KK h50;simp only[u0x,u1x]at S;refine zT λK hK=>?_;go_simp;refine hK _ _ ?_;clear hK K
     refine zF ?_;go_upto_region 18 with fail;refine rgt S 3 [some 52,some 53,some 54] [iV (cc:Int),iV 1,IsV (.bool true)] ?_ ?_
     ·refine Rc zaa ?_;refine Rc zcs ?_;refine Rc (bn (r:=.bool true) (qC 1 53) qE (hr:=λw=>by go_simp)) ?_;exact rn0
     intro v W18 S hH;simp only[lxE,Nat.reduceAdd];rw[show v 2=.bool true from hH 2 dcx];clear hH;go_upto_region 19 with fail;refine rgs 6 [some 55,some 56,some 57,some 58,some 59,some 60] [iV kk,IsI k2 ((nn:Int)),IsV (.int .u32 (r:Int)),IsV (.pointer (some ⟨0,r,none⟩)),iV (sg8 r),iV kq] [] ?_ ?_
     ·refine Rc ja ?_;refine Rc zg ?_;refine Rc yx ?_;refine Rc (ix (ia_sg r HR8.out.2) (Od.glb 0) (qA 2 57)) ?_;refine Rc (ldG (λw2 hE=>(HSG.out.ext (S.ext.trans hE)) r HR8.out.2) (qA 3 58)) ?_;refine Rc zdj ?_;exact rn0
     intro v W19 e1 hH _;replace S:=S.mono e1;simp only[lxE,Nat.reduceAdd];rw[show v 5=.int .i64 kq from hH 5 dcx];clear hH e1;refine zT λK hK=>?_;go_simp;refine hK _ _ ?_;clear hK K
     refine zF ?_;go_upto_region 20 with fail;refine rgt S 8 [some 61,some 62,some 63,some 64,some 65,some 66,some 67,some 68] [IsI k2 ((b:Int)),IsV (.int .u32 (rb:Int)),IsV (.bool e3),IsV (.bool e3),IsIf (e3) (IsI k2 ((nn:Int))),IsIf (e3) (IsV (.int .u32 (rn:Int))),IsIf (e3) (IsV (.bool f3)),IsV (.bool true)] ?_ ?_ (hst:=by repeat' (first|exact trivial|apply IsIf.stb|exact IsV.stb _|exact IsI.stb _ _|apply IsJ.stb|apply IsQ.stb|apply zJ))
     ·refine Rc zf ?_;refine Rc zt ?_;refine Rc ye ?_;refine Rc (mv (qA 2 63)) ?_;refine RcB 3 64 e3 true (λhb=>by subst hb;exact ldI S 0 (w.heap.size+1) 0 (qD 3) qG) ?_;refine RcB 3 64 e3 true (λhb=>by subst hb;exact cl2 (en func116) (qA (fP:=IsI k2 ((nn:Int))) 4 65) qE (λx0 x1 w' hE d0 d1=>by{obtain rfl:x1=.int .u32 4:=d1;exact jw})) ?_;refine RcB 3 64 e3 true (λhb=>by subst hb;exact bn (r:=.bool f3) (qC 5 66) qE (hr:=λw=>by have hx9:=HF3.out.1;have hx8:=HF3.out.2;go_simp)) ?_;refine Rc xu ?_;exact rn0
     intro v W20 S hH;simp only[lxE,Nat.reduceAdd];rw[show v 7=.bool true from hH 7 dcx];clear hH;go_upto_region 21 with fail;refine rgs 2 [some 69,some 70] [iV kq,iV kn] [] ?_ ?_
     ·refine Rc ja ?_;refine Rc (un (r:=.int .i64 kn) (qC 0 69) (hr:=λw=>by have hx9:=HNG.out;go_simp)) ?_;exact rn0
     intro v W21 e1 hH _;replace S:=S.mono e1;simp only[lxE,Nat.reduceAdd];rw[show v 1=.int .i64 kn from hH 1 dcx];clear hH e1;refine zT λK hK=>?_;go_simp;refine hK _ _ ?_;clear hK K
     refine zF ?_;go_upto_region 22 with fail;refine rg 4 [some 71,some 72,some 73,some 74] [IsI k2 ((nn:Int)),IsI k2 ((b:Int)),IsI k2 ((na:Int)),IsI k2 ((b:Int))] [] 2 ?_ ?_
     ·refine Rc zg ?_;refine Rc zf ?_;refine Rc zw ?_;refine Rc zf ?_;exact rn0
     intro v W22 e1 hH _;replace S:=S.mono e1;have h73:=hH 2 dcx;have h74:=hH 3 dcx;simp only[lxE,Nat.reduceAdd];clear hH e1;refine stA 4 (h:=λKK hKK=>stI S 1 (w.heap.size) 0 h73 qJ (λW22a S2 G2=>hKK _ _ ?_) rfl);replace h74:=(IsI.gstb _ _) _ _ _ G2 h74;replace S:=S2;clear S2 G2 hKK KK h73;simp only[u0x,u1x]at S;refine stA 5 (h:=λKK hKK=>stI S 0 (w.heap.size+1) 0 h74 qJ (λW22b S2 G2=>hKK _ _ ?_) rfl);replace S:=S2;clear S2 G2 hKK KK h74;simp only[u0x]at S;refine zO za ?_ _;have S':=hid S;clear S;go_wp2_with fail
     go_roundg na
     case measure=>have:=HHN.out;omega
     case rel=>exact⟨na,b,f,kn,rfl,rfl,by have:=HHN.out;omega,HHN.out.2.2.1,by have:=HHN.out;omega,by have:=HHN.out;omega,HHK.out,HHR.out,S'⟩
    ·have HEF:=hid (show(e3&&f3)=false by rw[<-he3,<-hf3,Bool.eq_false_iff];intro k;rw[Bool.and_eq_true,beq_iff_eq,beq_iff_eq]at k;exact h3 zb);have HHK:=hid hkq2;rw[if_neg h3]at hr;have HHR:=hid hr;clear hr hg hf hodd hnb hab hkk ha hb hcc hts hrb hrn he3 hf3 hna hlt h2 h3 hr8 hkq hkq2;go_upto_region 16 with fail;refine rgt S 3 [some 44,some 45,some 46] [IsI k2 ((a:Int)),iV 1,IsV (.bool true)] ?_ ?_
     ·refine Rc zf ?_;refine Rc jq ?_;refine Rc zat ?_;exact rn0
     intro v W16 S hH;simp only[lxE,Nat.reduceAdd];rw[show v 2=.bool true from hH 2 dcx];clear hH;go_upto_region 17 with fail;refine rgs 5 [some 48,some 49,some 47,some 50,some 51] [IsI k2 ((a:Int)),IsT2 (IsI k2 ((b:Int))) (iV (cc:Int)),IsT2 (IsI k2 ((b:Int))) (iV (cc:Int)),IsI k2 ((b:Int)),iV (cc:Int)] [] ?_ ?_
     ·refine Rc zf ?_;refine Rc jb ?_;refine Rc (mv (qA 1 49)) ?_;refine Rc (ex (qC 2 47) t20) ?_;refine Rc (ex (qC 2 47) t21) ?_;exact rn0
     intro v W17 e1 hH _;replace S:=S.mono e1;have h50:=hH 3 dcx;simp only[lxE,Nat.reduceAdd];rw[show v 4=.int .i64 (cc:Int)from hH 4 dcx];clear hH e1
     try simp only[dxE]
     (with_reducible refine stL ?_ zfe);intro KK hKK;refine stI S 1 (w.heap.size) 0 h50 qJ (λW17a S2 G2=>hKK _ _ ?_) rfl
     replace S:=S2;clear S2 G2 hKK KK h50;simp only[u0x,u1x]at S;refine zT λK hK=>?_;go_simp;refine hK _ _ ?_;clear hK K
     refine zF ?_;go_upto_region 18 with fail;refine rgt S 3 [some 52,some 53,some 54] [iV (cc:Int),iV 1,IsV (.bool true)] ?_ ?_
     ·refine Rc zaa ?_;refine Rc zcs ?_;refine Rc (bn (r:=.bool true) (qC 1 53) qE (hr:=λw=>by go_simp)) ?_;exact rn0
     intro v W18 S hH;simp only[lxE,Nat.reduceAdd];rw[show v 2=.bool true from hH 2 dcx];clear hH;go_upto_region 19 with fail;refine rgs 6 [some 55,some 56,some 57,some 58,some 59,some 60] [iV kk,IsI k2 ((nn:Int)),IsV (.int .u32 (r:Int)),IsV (.pointer (some ⟨0,r,none⟩)),iV (sg8 r),iV kq] [] ?_ ?_
     ·refine Rc ja ?_;refine Rc zg ?_;refine Rc yx ?_;refine Rc (ix (ia_sg r HR8.out.2) (Od.glb 0) (qA 2 57)) ?_;refine Rc (ldG (λw2 hE=>(HSG.out.ext (S.ext.trans hE)) r HR8.out.2) (qA 3 58)) ?_;refine Rc zdj ?_;exact rn0
     intro v W19 e1 hH _;replace S:=S.mono e1;simp only[lxE,Nat.reduceAdd];rw[show v 5=.int .i64 kq from hH 5 dcx];clear hH e1;refine zT λK hK=>?_;go_simp;refine hK _ _ ?_;clear hK K
     refine zF ?_;go_upto_region 20 with fail;refine rgt S 8 [some 61,some 62,some 63,some 64,some 65,some 66,some 67,some 68] [IsI k2 ((b:Int)),IsV (.int .u32 (rb:Int)),IsV (.bool e3),IsV (.bool e3),IsIf (e3) (IsI k2 ((nn:Int))),IsIf (e3) (IsV (.int .u32 (rn:Int))),IsIf (e3) (IsV (.bool f3)),IsV (.bool false)] ?_ ?_ (hst:=by repeat' (first|exact trivial|apply IsIf.stb|exact IsV.stb _|exact IsI.stb _ _|apply IsJ.stb|apply IsQ.stb|apply zJ))
     ·refine Rc zf ?_;refine Rc zt ?_;refine Rc ye ?_;refine Rc (mv (qA 2 63)) ?_;refine RcB 3 64 e3 true (λhb=>by subst hb;exact ldI S 0 (w.heap.size+1) 0 (qD 3) qG) ?_;refine RcB 3 64 e3 true (λhb=>by subst hb;exact cl2 (en func116) (qA (fP:=IsI k2 ((nn:Int))) 4 65) qE (λx0 x1 w' hE d0 d1=>by{obtain rfl:x1=.int .u32 4:=d1;exact jw})) ?_;refine RcB 3 64 e3 true (λhb=>by subst hb;exact bn (r:=.bool f3) (qC 5 66) qE (hr:=λw=>by have hx9:=HF3.out.1;have hx8:=HF3.out.2;go_simp)) ?_;refine Rc xu ?_;exact rn0
     intro v W20 S hH;simp only[lxE,Nat.reduceAdd];rw[show v 7=.bool false from hH 7 dcx];clear hH;go_upto_region 22 with fail;refine rg 4 [some 71,some 72,some 73,some 74] [IsI k2 ((nn:Int)),IsI k2 ((b:Int)),IsI k2 ((na:Int)),IsI k2 ((b:Int))] [] 2 ?_ ?_
     ·refine Rc zg ?_;refine Rc zf ?_;refine Rc zw ?_;refine Rc zf ?_;exact rn0
     intro v W22 e1 hH _;replace S:=S.mono e1;have h73:=hH 2 dcx;have h74:=hH 3 dcx;simp only[lxE,Nat.reduceAdd];clear hH e1;refine stA 4 (h:=λKK hKK=>stI S 1 (w.heap.size) 0 h73 qJ (λW22a S2 G2=>hKK _ _ ?_) rfl);replace h74:=(IsI.gstb _ _) _ _ _ G2 h74;replace S:=S2;clear S2 G2 hKK KK h73;simp only[u0x,u1x]at S;refine stA 5 (h:=λKK hKK=>stI S 0 (w.heap.size+1) 0 h74 qJ (λW22b S2 G2=>hKK _ _ ?_) rfl);replace S:=S2;clear S2 G2 hKK KK h74;simp only[u0x]at S;refine zO za ?_ _;have S':=hid S;clear S;go_wp2_with fail
     go_roundg na
     case measure=>have:=HHN.out;omega
     case rel=>exact⟨na,b,f,kq,rfl,rfl,by have:=HHN.out;omega,HHN.out.2.2.1,by have:=HHN.out;omega,by have:=HHN.out;omega,HHK.out,HHR.out,S'⟩
  ):P:=h
theorem Kron_1{k1 k2 n:Nat}{z:Int}{x y:Value}{w:World}(hx:IsI k1 z x w)(hy:IsI k2 (n:Int) y w)(HK:Hid (k1<=33554432/\k2<=33554432))(HSG:Hid (Sg w))(HN:Hid (0<n/\n<=4611686018427387904))(oa zE on nE:Bool)(HOA:Hid (decide (z%2=1)=oa))(HEA:Hid ((!oa)=zE))(HON:Hid (decide ((n:Int)%2=1)=on))(HEN:Hid ((!on)=nE))(HS1:Hid ((n:Int).sign=1))(HEE:Hid ((zE&&nE)=false))(HN0:Hid (0<=(n:Int)))(m c a0:Nat)(rr:Int)(HTW:Hid ((tws n).1=m/\(tws n).2=c))(HCP:Hid ((c:Int)%2=0/\(c:Int).tmod 2=0))(HM0:Hid ((m:Int)≠0))(HA0:Hid (z%(m:Int)=(a0:Int)))(HB0:Hid (a0<=m/\m%2=1/\m<=4611686018427387904/\a0<=4611686018427387904))(HKR:Hid ((-1<=(1:Int)/\(1:Int)<=1)/\krF m a0 m 1=rr)):Calls prog 62 #[x,y] w (Ret w (iV (rr))):=by
 obtain⟨s1,a1,n1,c1,s2,a2,n2,c2,W,rfl,rfl,hW,S⟩:=en2 hx hy;go_enter func62,ntmps62;go_upto_region 1 with fail;rw[<-hW];clear hW;refine rgt S 3 [some 7,some 8,some 9] [IsI k2 ((n:Int)),iV 1,IsV (.bool false)] ?_ ?_
 ·refine Rc zg ?_;refine Rc xk ?_;refine Rc xb ?_;exact rn0
 intro v W1 S hH;simp only[lxE,Nat.reduceAdd];rw[show v 2=.bool false from hH 2 dcx];clear hH;go_upto_region 5 with fail;refine rgt S 8 [some 13,some 14,some 15,some 16,some 17,some 18,some 19,some 20] [IsI k1 z,IsV (.bool oa),IsV (.bool zE),IsV (.bool zE),IsIf (zE) (IsI k2 ((n:Int))),IsIf (zE) (IsV (.bool on)),IsIf (zE) (IsV (.bool nE)),IsV (.bool false)] ?_ ?_ (hst:=by repeat' (first|exact trivial|apply IsIf.stb|exact IsV.stb _|exact IsI.stb _ _|apply IsJ.stb|apply IsQ.stb|apply zJ))
 ·refine Rc zf ?_;refine Rc xz ?_;refine Rc zbh ?_;refine Rc zdm ?_;refine RcB 3 16 zE true (λhb=>by subst hb;exact ldI S 0 (w.heap.size+1) 0 (qD 3) qG) ?_;refine RcB 3 16 zE true (λhb=>by subst hb;exact cl1 (en func113) (qA (fP:=IsI k2 ((n:Int))) 4 17) (λx0 w' hE d0=>zC (odd_f d0) λ_ _ h=>RetB h HON.out)) ?_;refine RcB 3 16 zE true (λhb=>by subst hb;exact un (r:=.bool nE) (qC 5 18) (hr:=λw=>by have hx9:=HEN.out;go_simp)) ?_;refine Rc zbi ?_;exact rn0
 intro v W5 S hH;simp only[lxE,Nat.reduceAdd];rw[show v 7=.bool false from hH 7 dcx];clear hH;go_upto_region 7 with fail;refine rgt S 1 [some 5] [iV 1] ?_ ?_
 ·refine Rc zaf ?_;exact rn0
 intro v W7 S hH;simp only[lxE];rw[show v 0=.int .i64 1 from hH 0 dcx];clear hH;go_upto_region 8 with fail;refine rgt S 2 [some 21,some 22] [IsV (.pointer (some ⟨w.heap.size+1,0,none⟩)),IsV (.bool false)] ?_ ?_
 ·refine RgAll.cons zdw ?_;refine RgAll.cons zd2 ?_;exact rn0
 intro v W8 S hH;simp only[lxE,Nat.reduceAdd];rw[show v 1=.bool false from hH 1 dcx];clear hH;go_upto_region 12 with fail;refine rgs 5 [some 28,some 29,some 27,some 30,some 31] [IsI k2 ((n:Int)),IsT2 (IsI k2 ((m:Int))) (iV (c:Int)),IsT2 (IsI k2 ((m:Int))) (iV (c:Int)),IsI k2 ((m:Int)),iV (c:Int)] [] ?_ ?_
 ·refine Rc zg ?_;refine Rc za8 ?_;refine Rc (mv (qA 1 29)) ?_;refine Rc (ex (qC 2 27) t20) ?_;refine Rc (ex (qC 2 27) t21) ?_;exact rn0
 intro v W12 e1 hH _;replace S:=S.mono e1;have h30:=hH 3 dcx;simp only[lxE,Nat.reduceAdd];rw[show v 4=.int .i64 (c:Int)from hH 4 dcx];clear hH e1
 try simp only[dxE]
 (with_reducible refine stL ?_ zfe);intro KK hKK;refine stI S 0 (w.heap.size+1) 0 h30 qJ (λW12a S2 G2=>hKK _ _ ?_) rfl
 replace S:=S2;clear S2 G2 hKK KK h30;simp only[u0x]at S;refine zT λK hK=>?_;go_simp;refine hK _ _ ?_;clear hK K
 refine zF ?_;go_upto_region 13 with fail;refine rgt S 3 [some 32,some 33,some 34] [iV (c:Int),iV 0,IsV (.bool false)] ?_ ?_
 ·refine Rc zaa ?_;refine Rc (bn (r:=.int .i64 0) (qC 0 32) qE (hr:=λw=>by have hx9:=HCP.out.1;have hx8:=HCP.out.2;go_simp)) ?_;refine Rc (bn (r:=.bool false) (qC 1 33) qE (hr:=λw=>by go_simp)) ?_;exact rn0
 intro v W13 S hH;simp only[lxE,Nat.reduceAdd];rw[show v 2=.bool false from hH 2 dcx];clear hH;go_upto_region 15 with fail;refine rgs 3 [some 41,some 42,some 43] [IsI k1 z,IsI k2 ((m:Int)),IsI k2 ((a0:Int))] [] ?_ ?_
 ·refine Rc zf ?_;refine Rc zg ?_;refine Rc zaq ?_;exact rn0
 intro v W15 e1 hH _;replace S:=S.mono e1;have h43:=hH 2 dcx;simp only[lxE,Nat.reduceAdd];clear hH e1
 try simp only[dxE]
 (with_reducible refine stL ?_ zfe);intro KK hKK;refine stI S 1 (w.heap.size) 0 h43 qJ (λW15a S2 G2=>hKK _ _ ?_) rfl
 replace S:=S2;clear S2 G2 hKK KK h43;simp only[u0x,u1x]at S;refine zF ?_;go_wp2_with fail;have S0:=hid S;clear S
 go_loopg [5] a0 (λgk v5 wr=>∃(a nn f:Nat) (kk:Int),v5=.int .i64 kk/\a=gk/\a<=f/\nn%2=1/\nn<=4611686018427387904/\a<=4611686018427387904/\(-1<=kk/\kk<=1)/\krF f a nn kk=rr/\Hid (Sto w wr [((w.heap.size+1,0),IsI k2 ((nn:Int))),((w.heap.size,0),IsI k2 ((a:Int)))]))
 case atStart=>exact⟨a0,m,m,1,rfl,rfl,HB0.out.1,HB0.out.2.1,HB0.out.2.2.1,HB0.out.2.2.2,HKR.out.1,HKR.out.2,S0⟩
 case round=>
  exact tMod3_1
theorem Kron_2{k1 k2 n:Nat}{z:Int}{x y:Value}{w:World}(hx:IsI k1 z x w)(hy:IsI k2 (n:Int) y w)(HK:Hid (k1<=33554432/\k2<=33554432))(HSG:Hid (Sg w))(HN:Hid (0<n/\n<=4611686018427387904))(oa zE on nE:Bool)(HOA:Hid (decide (z%2=1)=oa))(HEA:Hid ((!oa)=zE))(HON:Hid (decide ((n:Int)%2=1)=on))(HEN:Hid ((!on)=nE))(HS1:Hid ((n:Int).sign=1))(HEE:Hid ((zE&&nE)=false))(HN0:Hid (0<=(n:Int)))(m c a0:Nat)(rr:Int)(HTW:Hid ((tws n).1=m/\(tws n).2=c))(HCP:Hid ((c:Int)%2=1/\(c:Int).tmod 2=1))(HM0:Hid ((m:Int)≠0))(HA0:Hid (z%(m:Int)=(a0:Int)))(HB0:Hid (a0<=m/\m%2=1/\m<=4611686018427387904/\a0<=4611686018427387904))(r:Nat)(HR:Hid (z%((8:Nat):Int)=(r:Int)/\r<8))(HWS:Hid (IntKind.i64.wrap (1*sg8 r)=sg8 r/\IntKind.i64.wrap (sg8 r)=sg8 r))(HKR:Hid ((-1<=sg8 r/\sg8 r<=1)/\krF m a0 m (sg8 r)=rr)):Calls prog 62 #[x,y] w (Ret w (iV (rr))):=by
 obtain⟨s1,a1,n1,c1,s2,a2,n2,c2,W,rfl,rfl,hW,S⟩:=en2 hx hy;go_enter func62,ntmps62;go_upto_region 1 with fail;rw[<-hW];clear hW;refine rgt S 3 [some 7,some 8,some 9] [IsI k2 ((n:Int)),iV 1,IsV (.bool false)] ?_ ?_
 ·refine Rc zg ?_;refine Rc xk ?_;refine Rc xb ?_;exact rn0
 intro v W1 S hH;simp only[lxE,Nat.reduceAdd];rw[show v 2=.bool false from hH 2 dcx];clear hH;go_upto_region 5 with fail;refine rgt S 8 [some 13,some 14,some 15,some 16,some 17,some 18,some 19,some 20] [IsI k1 z,IsV (.bool oa),IsV (.bool zE),IsV (.bool zE),IsIf (zE) (IsI k2 ((n:Int))),IsIf (zE) (IsV (.bool on)),IsIf (zE) (IsV (.bool nE)),IsV (.bool false)] ?_ ?_ (hst:=by repeat' (first|exact trivial|apply IsIf.stb|exact IsV.stb _|exact IsI.stb _ _|apply IsJ.stb|apply IsQ.stb|apply zJ))
 ·refine Rc zf ?_;refine Rc xz ?_;refine Rc zbh ?_;refine Rc zdm ?_;refine RcB 3 16 zE true (λhb=>by subst hb;exact ldI S 0 (w.heap.size+1) 0 (qD 3) qG) ?_;refine RcB 3 16 zE true (λhb=>by subst hb;exact cl1 (en func113) (qA (fP:=IsI k2 ((n:Int))) 4 17) (λx0 w' hE d0=>zC (odd_f d0) λ_ _ h=>RetB h HON.out)) ?_;refine RcB 3 16 zE true (λhb=>by subst hb;exact un (r:=.bool nE) (qC 5 18) (hr:=λw=>by have hx9:=HEN.out;go_simp)) ?_;refine Rc zbi ?_;exact rn0
 intro v W5 S hH;simp only[lxE,Nat.reduceAdd];rw[show v 7=.bool false from hH 7 dcx];clear hH;go_upto_region 7 with fail;refine rgt S 1 [some 5] [iV 1] ?_ ?_
 ·refine Rc zaf ?_;exact rn0
 intro v W7 S hH;simp only[lxE];rw[show v 0=.int .i64 1 from hH 0 dcx];clear hH;go_upto_region 8 with fail;refine rgt S 2 [some 21,some 22] [IsV (.pointer (some ⟨w.heap.size+1,0,none⟩)),IsV (.bool false)] ?_ ?_
 ·refine RgAll.cons zdw ?_;refine RgAll.cons zd2 ?_;exact rn0
 intro v W8 S hH;simp only[lxE,Nat.reduceAdd];rw[show v 1=.bool false from hH 1 dcx];clear hH;go_upto_region 12 with fail;refine rgs 5 [some 28,some 29,some 27,some 30,some 31] [IsI k2 ((n:Int)),IsT2 (IsI k2 ((m:Int))) (iV (c:Int)),IsT2 (IsI k2 ((m:Int))) (iV (c:Int)),IsI k2 ((m:Int)),iV (c:Int)] [] ?_ ?_
 ·refine Rc zg ?_;refine Rc za8 ?_;refine Rc (mv (qA 1 29)) ?_;refine Rc (ex (qC 2 27) t20) ?_;refine Rc (ex (qC 2 27) t21) ?_;exact rn0
 intro v W12 e1 hH _;replace S:=S.mono e1;have h30:=hH 3 dcx;simp only[lxE,Nat.reduceAdd];rw[show v 4=.int .i64 (c:Int)from hH 4 dcx];clear hH e1
 try simp only[dxE]
 (with_reducible refine stL ?_ zfe);intro KK hKK;refine stI S 0 (w.heap.size+1) 0 h30 qJ (λW12a S2 G2=>hKK _ _ ?_) rfl
 replace S:=S2;clear S2 G2 hKK KK h30;simp only[u0x]at S;refine zT λK hK=>?_;go_simp;refine hK _ _ ?_;clear hK K
 refine zF ?_;go_upto_region 13 with fail;refine rgt S 3 [some 32,some 33,some 34] [iV (c:Int),iV 1,IsV (.bool true)] ?_ ?_
 ·refine Rc zaa ?_;refine Rc (bn (r:=.int .i64 1) (qC 0 32) qE (hr:=λw=>by have hx9:=HCP.out.1;have hx8:=HCP.out.2;go_simp)) ?_;refine Rc (bn (r:=.bool true) (qC 1 33) qE (hr:=λw=>by go_simp)) ?_;exact rn0
 intro v W13 S hH;simp only[lxE,Nat.reduceAdd];rw[show v 2=.bool true from hH 2 dcx];clear hH;go_upto_region 14 with fail;refine rgs 6 [some 35,some 36,some 37,some 38,some 39,some 40] [iV 1,IsI k1 z,IsV (.int .u32 (r:Int)),IsV (.pointer (some ⟨0,r,none⟩)),iV (sg8 r),iV (sg8 r)] [] ?_ ?_
 ·refine Rc ja ?_;refine Rc zf ?_;refine Rc (cl2 (en func116) (qA (fP:=IsI k1 z) 1 36) qE (λx0 x1 w' hE d0 d1=>by{obtain rfl:x1=.int .u32 8:=d1;exact(by have hh:=low_f d0 8 (.inr rfl);rw[show(_:Int)%((8:Nat):Int)=_ from HR.out.1]at hh;exact hh)})) ?_;refine Rc (ix (ia_sg r HR.out.2) (Od.glb 0) (qA 2 37)) ?_;refine Rc (ldG (λw2 hE=>(HSG.out.ext (S.ext.trans hE)) r HR.out.2) (qA 3 38)) ?_;refine Rc (bn (r:=.int .i64 (sg8 r)) (qC 0 35) (qC 4 39) (hr:=λw=>by have hx9:=HWS.out.1;have hx8:=HWS.out.2;go_simp)) ?_;exact rn0
 intro v W14 e1 hH _;replace S:=S.mono e1;simp only[lxE,Nat.reduceAdd];rw[show v 5=.int .i64 (sg8 r)from hH 5 dcx];clear hH e1;refine zT λK hK=>?_;go_simp;refine hK _ _ ?_;clear hK K
 refine zF ?_;go_upto_region 15 with fail;refine rgs 3 [some 41,some 42,some 43] [IsI k1 z,IsI k2 ((m:Int)),IsI k2 ((a0:Int))] [] ?_ ?_
 ·refine Rc zf ?_;refine Rc zg ?_;refine Rc zaq ?_;exact rn0
 intro v W15 e1 hH _;replace S:=S.mono e1;have h43:=hH 2 dcx;simp only[lxE,Nat.reduceAdd];clear hH e1
 try simp only[dxE]
 (with_reducible refine stL ?_ zfe);intro KK hKK;refine stI S 1 (w.heap.size) 0 h43 qJ (λW15a S2 G2=>hKK _ _ ?_) rfl
 replace S:=S2;clear S2 G2 hKK KK h43;simp only[u0x,u1x]at S;refine zF ?_;go_wp2_with fail;have S0:=hid S;clear S
 go_loopg [5] a0 (λgk v5 wr=>∃(a nn f:Nat) (kk:Int),v5=.int .i64 kk/\a=gk/\a<=f/\nn%2=1/\nn<=4611686018427387904/\a<=4611686018427387904/\(-1<=kk/\kk<=1)/\krF f a nn kk=rr/\Hid (Sto w wr [((w.heap.size+1,0),IsI k2 ((nn:Int))),((w.heap.size,0),IsI k2 ((a:Int)))]))
 case atStart=>exact⟨a0,m,m,(sg8 r),rfl,rfl,HB0.out.1,HB0.out.2.1,HB0.out.2.2.1,HB0.out.2.2.2,HKR.out.1,HKR.out.2,S0⟩
 case round=>
  exact tMod3_1
theorem Kron_f{k1 k2 n:Nat}{z:Int}{x y:Value}{w:World}(hx:IsI k1 z x w)(hy:IsI k2 (n:Int) y w)(l1:k1<=33554432)(l2:k2<=33554432)(hs:Sg w)(hn:0<n/\n<=4611686018427387904):Calls prog 62 #[x,y] w (Ret w (iV (kr z n))):=by
 have hs1:(n:Int).sign=1:=Int.sign_eq_one_of_pos zb;unfold kr;by_cases he:z%2=0/\n%2=0
 ·rw[if_pos he];exact Kron_0 hx hy _ _ _ _ (hid rfl) (hid rfl) (hid rfl) (hid rfl) (hid hs1) (hid jl)
 ·rw[if_neg he];dsimp only
  have hee:(!decide (z%2=1)&& !decide ((n:Int)%2=1))=false:=by
   rw[Bool.eq_false_iff];intro k;simp only[Bool.and_eq_true,Bool.not_eq_true',zK]at k;exact he zb
  obtain⟨t1,t2,t3,t4⟩:=tws_spec hn.1;obtain⟨m,hm⟩:∃m,(tws n).1=m:=⟨_,rfl⟩;obtain⟨c,hc⟩:∃c,(tws n).2=c:=⟨_,rfl⟩;rw[hm]at t1 t2 t3;rw[hm,hc];have hz0:0<=z%(m:Int):=Int.emod_nonneg _ zb;have hz1:z%(m:Int)<m:=Int.emod_lt_of_pos _ zb;have ha0:z%(m:Int)=(((z%(m:Int)).toNat:Nat):Int):=(Int.toNat_of_nonneg hz0).symm;rcases Nat.mod_two_eq_zero_or_one c with h2|h2
  ·rw[if_neg (by omega)];exact Kron_1 hx hy (hid ⟨l1,l2⟩) (hid hs) (hid hn) _ _ _ _ (hid rfl) (hid rfl) (hid rfl) (hid rfl) (hid hs1) (hid hee) (hid zb) m c _ _ (hid ⟨hm,hc⟩) (hid zab) (hid zb) (hid ha0) (hid zb) (hid ⟨by decide,rfl⟩)
  ·rw[if_pos h2];have hsg:=sg8_le (z%8).toNat;exact Kron_2 hx hy (hid ⟨l1,l2⟩) (hid hs) (hid hn) _ _ _ _ (hid rfl) (hid rfl) (hid rfl) (hid rfl) (hid hs1) (hid hee) (hid zb) m c _ _ (hid ⟨hm,hc⟩) (hid zab) (hid zb) (hid ha0) (hid zb) (z%8).toNat (hid zb) (hid ⟨by rw[Int.one_mul];simp only[IntKind.wrap_i64];omega,by simp only[IntKind.wrap_i64];omega⟩) (hid ⟨hsg,rfl⟩)
end Go.Proofs.YtknffgdbdadpcaaGreatDoor
