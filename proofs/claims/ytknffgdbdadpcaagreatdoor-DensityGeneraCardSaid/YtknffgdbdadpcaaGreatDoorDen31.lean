/-
 Package genus: Values at a reduced form. (Printed by wip/gen/den31.py.)
-/
import Derived.Test.YtknffgdbdadpcaaGreatDoorDen30
import Derived.Test.YtknffgdbdadpcaaGreatDoorDen12
import Derived.Test.YtknffgdbdadpcaaGreatDoorDen24
namespace Go.Proofs.YtknffgdbdadpcaaGreatDoor
open Go Go.RowKit
open Go.Proofs.Tryz
set_option maxRecDepth 100000
set_option maxHeartbeats 16000000
@[go_sem] theorem st_fn {P:Program} {w:World} {a:Addr} {f:Fn} {u c:Array Value} {m:Mode} :(store a (.func f u c) m).run P w=stored P w a (.func f u c) m:=run_store P w a _ m rfl
def q2F (a b c x y:Int):Int:=a*y*y+b*x*y+c*x*x
def vnI (a b c d:Int):Nat→Int→Int→Int→Int
 | 0,_,_,n=>n
 | k+1,x,y,_=>if Int.gcd (qf a b c x y) d=1 then qf a b c x y else if Int.gcd (q2F a b c x y) d=1 then q2F a b c x y else vnI a b c d k (x+1) y (q2F a b c x y)
def vnO (a b c d:Int):Nat→Int→Int→Int
 | 0,n,_=>n
 | k+1,n,y=>if Int.gcd n d=1 then n else vnO a b c d k (vnI a b c d (y+1).toNat 0 y n) (y+1)
theorem vnO_done {a b c d n y:Int} (h:Int.gcd n d=1):∀ k,vnO a b c d k n y=n
 | 0=>rfl
 | k+1=>by unfold vnO;rw [if_pos h]
theorem gg_one {a b:Int} (h:Int.gcd a b=1):gg a b=1∨gg a b= -1:=by have:=gg_abs _ a b (Nat.le_refl _);omega
theorem gg_none {a b:Int} (h:Int.gcd a b≠1):gg a b≠1∧gg a b≠ -1:=by have:=gg_abs _ a b (Nat.le_refl _);constructor <;> (intro h2;rw [h2] at this;exact h this.symm)
theorem gg_bnd (F:Int) {d:Int} (hd:d≠0) (hb: -1000000≤d∧d≤1000000): -1000000≤gg F d∧gg F d≤1000000:=by
 have h1:=gg_abs _ F d (Nat.le_refl _);have h2:=Nat.le_of_dvd (show 0<d.natAbs by omega) (Int.gcd_dvd_natAbs_right F d);omega
theorem qf_bnd {a b c x y:Int} (ha: -100≤a∧a≤100) (hb: -100≤b∧b≤100) (hc: -2000≤c∧c≤2000) (hx:0≤x∧x≤11) (hy:0≤y∧y≤11):
  ∃ q1 q2 q3 q4 q5 q6 q7:Int,a*x=q1∧q1*x=q2∧b*x=q3∧q3*y=q4∧q2+q4=q5∧c*y=q6∧q6*y=q7∧q5+q7=qf a b c x y∧(-1000000≤q1∧q1≤1000000)∧(-1000000≤q2∧q2≤1000000)∧(-1000000≤q3∧q3≤1000000)∧(-1000000≤q4∧q4≤1000000)∧(-1000000≤q5∧q5≤1000000)∧(-1000000≤q6∧q6≤1000000)∧(-1000000≤q7∧q7≤1000000)∧(-1000000≤qf a b c x y∧qf a b c x y≤1000000):=by
 have b1:=mulB 100 11 (show -((100:Nat):Int)≤a∧a≤(100:Nat) by omega) (show -((11:Nat):Int)≤x∧x≤(11:Nat) by omega);have b2:=mulB 1100 11 (show -((1100:Nat):Int)≤a*x∧a*x≤(1100:Nat) by omega) (show -((11:Nat):Int)≤x∧x≤(11:Nat) by omega);have b3:=mulB 100 11 (show -((100:Nat):Int)≤b∧b≤(100:Nat) by omega) (show -((11:Nat):Int)≤x∧x≤(11:Nat) by omega);have b4:=mulB 1100 11 (show -((1100:Nat):Int)≤b*x∧b*x≤(1100:Nat) by omega) (show -((11:Nat):Int)≤y∧y≤(11:Nat) by omega);have b6:=mulB 2000 11 (show -((2000:Nat):Int)≤c∧c≤(2000:Nat) by omega) (show -((11:Nat):Int)≤y∧y≤(11:Nat) by omega);have b7:=mulB 22000 11 (show -((22000:Nat):Int)≤c*y∧c*y≤(22000:Nat) by omega) (show -((11:Nat):Int)≤y∧y≤(11:Nat) by omega);have e:qf a b c x y=a*x*x+b*x*y+c*y*y:=rfl;refine ⟨_,_,_,_,_,_,_,rfl,rfl,rfl,rfl,rfl,rfl,rfl,rfl,by omega,by omega,by omega,by omega,by omega,by omega,by omega,by omega⟩
theorem q2F_bnd {a b c x y:Int} (ha: -100≤a∧a≤100) (hb: -100≤b∧b≤100) (hc: -2000≤c∧c≤2000) (hx:0≤x∧x≤11) (hy:0≤y∧y≤11):
  ∃ q1 q2 q3 q4 q5 q6 q7:Int,a*y=q1∧q1*y=q2∧b*x=q3∧q3*y=q4∧q2+q4=q5∧c*x=q6∧q6*x=q7∧q5+q7=q2F a b c x y∧(-1000000≤q1∧q1≤1000000)∧(-1000000≤q2∧q2≤1000000)∧(-1000000≤q3∧q3≤1000000)∧(-1000000≤q4∧q4≤1000000)∧(-1000000≤q5∧q5≤1000000)∧(-1000000≤q6∧q6≤1000000)∧(-1000000≤q7∧q7≤1000000)∧(-1000000≤q2F a b c x y∧q2F a b c x y≤1000000):=by
 have b1:=mulB 100 11 (show -((100:Nat):Int)≤a∧a≤(100:Nat) by omega) (show -((11:Nat):Int)≤y∧y≤(11:Nat) by omega);have b2:=mulB 1100 11 (show -((1100:Nat):Int)≤a*y∧a*y≤(1100:Nat) by omega) (show -((11:Nat):Int)≤y∧y≤(11:Nat) by omega);have b3:=mulB 100 11 (show -((100:Nat):Int)≤b∧b≤(100:Nat) by omega) (show -((11:Nat):Int)≤x∧x≤(11:Nat) by omega);have b4:=mulB 1100 11 (show -((1100:Nat):Int)≤b*x∧b*x≤(1100:Nat) by omega) (show -((11:Nat):Int)≤y∧y≤(11:Nat) by omega);have b6:=mulB 2000 11 (show -((2000:Nat):Int)≤c∧c≤(2000:Nat) by omega) (show -((11:Nat):Int)≤x∧x≤(11:Nat) by omega);have b7:=mulB 22000 11 (show -((22000:Nat):Int)≤c*x∧c*x≤(22000:Nat) by omega) (show -((11:Nat):Int)≤x∧x≤(11:Nat) by omega);have e:q2F a b c x y=a*y*y+b*x*y+c*x*x:=rfl;refine ⟨_,_,_,_,_,_,_,rfl,rfl,rfl,rfl,rfl,rfl,rfl,rfl,by omega,by omega,by omega,by omega,by omega,by omega,by omega,by omega⟩
theorem Values_f {a b c:Int} {x:Value} {w:World} (hx:IsF (IsI 2 a) (IsI 2 b) (IsI 2 c) x w) {T:Nat} {d2 N:Int} {names:List Int} (HOK:Hid (FmOk (T:Int) (a,b,c))) (HT:Hid (1≤T∧T≤4194304∧(T%4=0∨T%4=3))) (HT2:Hid (T≤2003)) (HPR:Hid (fmPrim (a,b,c)=true)) (HB:Hid ((-100≤a∧a≤100)∧(-100≤b∧b≤100)∧(-2000≤c∧c≤2000))) (HBB:Hid ((-100≤a∧a≤100)∧(-100≤b∧b≤100)∧(-10000≤c∧c≤10000))) (HD2:Hid (2*(-(T:Int))=d2)) (HN0:Hid (vnO a b c d2 10 a 1=N)) (HNC:Hid (Int.gcd N d2=1)) (HNM:Hid (chN T=names)) (HNL:Hid (names.length≤4194304)) (HNP:Hid (∀ q∈names,q≤4194304)) (HNN:Hid (0≤N∧N≤1000000000)) (HSG:Hid (Sg w)):Calls prog 36 #[x] w (Ret w (IsT2 (IRx (names.map fun q=>cvV q N)) (iV 0))):=by
 obtain ⟨s1x,a1x,n1x,c1x,s1y,a1y,n1y,c1y,s1z,a1z,n1z,c1z,rfl,h1x,h1y,h1z⟩:=hx;obtain ⟨W,hW,S⟩:∃ W,W=w.alloc (.cells #[.bool s1x,.slice a1x n1x c1x,.bool s1y,.slice a1y n1y c1y,.bool s1z,.slice a1z n1z c1z] 62)∧Sto w W [((w.heap.size,2),IsI 2 c),((w.heap.size,1),IsI 2 b),((w.heap.size,0),IsI 2 a)]:=⟨_,rfl,((Sto.start w).new3 (w.heap.size) (by simp) s1x s1y s1z a1x a1y a1z n1x c1x n1y c1y n1z c1z 62 (IsI 2 a) (IsI 2 b) (IsI 2 c) (IsI.gstb _ _) (h1x) (IsI.gstb _ _) (h1y) (IsI.gstb _ _) (h1z))⟩;clear h1x h1y h1z;go_enter func36,ntmps36;go_upto_region 1 with (fail);rw [← hW];clear hW;refine rgs 7 [some 16,some 17,some 15,some 18,some 19,some 4,some 5] [IsF (IsI 2 a) (IsI 2 b) (IsI 2 c),IsT2 (iV (-(T:Int))) (iV 0),IsT2 (iV (-(T:Int))) (iV 0),iV (-(T:Int)),iV 0,iV (-(T:Int)),iV 0] [] ?_ ?_ (hst:=by repeat' (first | exact trivial | apply IsIf.stb | exact IsV.stb _ | exact IsI.stb _ _ | apply IsJ.stb | apply IsQ.stb | apply IsF.stb | apply IsT2.stb | apply IsT3.stb | exact IsBo.stb _ _ | apply And.intro))
 ·refine Rc (ldF S 2 1 0 (w.heap.size) 0 (Od.lit 1) ld_Frm rfl rfl rfl) ?_;refine Rc (cl1 (en func79) (Od.lc (Φ:=IsF (IsI 2 a) (IsI 2 b) (IsI 2 c)) 0 16) (fun x0 w' hE d0=>primitive_f d0 HOK.out.disc HT.out HOK.out.a1 HPR.out)) ?_;refine Rc (mv (Od.lc 1 17)) ?_;refine Rc (ex (Od.loc 2 15) t20) ?_;refine Rc (ex (Od.loc 2 15) t21) ?_;refine Rc (mv (Od.lc 3 18)) ?_;refine Rc (mv (Od.lc 4 19)) ?_;exact rn0
 intro v W1 e1 hΦ _;replace S:=S.mono e1;have v5:v 5= .int .i64 (-(T:Int)):=hΦ 5 dcx;have v6:v 6= .int .i64 0:=hΦ 6 dcx;simp only [lxE,Nat.reduceAdd];rw [v5,v6];clear v5 v6 hΦ e1;refine wpList_nil ?_;go_upto_region 2 with (fail);refine rgs 2 [some 20,some 21] [iV 0,IsV (.bool false)] [] ?_ ?_
 ·refine Rc (mv (Od.lit 5)) ?_;refine Rc (bn (r:= .bool false) (Od.loc 0 20) Od.con (hr:=fun w=>by go_simp)) ?_;exact rn0
 intro v W2 e1 hΦ _;replace S:=S.mono e1;have v1:v 1= .bool false:=hΦ 1 dcx;simp only [lxE,Nat.reduceAdd];rw [v1];clear v1 hΦ e1;refine wpList_nil ?_;go_upto_region 4 with (fail);refine rgs 9 [some 24,some 25,some 23,some 26,some 27,some 28,some 6,some 7,some 8] [IsF (IsI 2 a) (IsI 2 b) (IsI 2 c),IsT3 (iV a) (iV b) (iV c),IsT3 (iV a) (iV b) (iV c),iV a,iV b,iV c,iV a,iV b,iV c] [] ?_ ?_ (hst:=by repeat' (first | exact trivial | apply IsIf.stb | exact IsV.stb _ | exact IsI.stb _ _ | apply IsJ.stb | apply IsQ.stb | apply IsF.stb | apply IsT2.stb | apply IsT3.stb | exact IsBo.stb _ _ | apply And.intro))
 ·refine Rc (ldF S 2 1 0 (w.heap.size) 0 (Od.lit 1) ld_Frm rfl rfl rfl) ?_;refine Rc (cl1 (en func80) (Od.lc (Φ:=IsF (IsI 2 a) (IsI 2 b) (IsI 2 c)) 0 24) (fun x0 w' hE d0=>small_f d0 HOK.out HT.out.1 HBB.out)) ?_;refine Rc (mv (Od.lc 1 25)) ?_;refine Rc (ex (Od.loc 2 23) t30) ?_;refine Rc (ex (Od.loc 2 23) t31) ?_;refine Rc (ex (Od.loc 2 23) t32) ?_;refine Rc (mv (Od.lc 3 26)) ?_;refine Rc (mv (Od.lc 4 27)) ?_;refine Rc (mv (Od.lc 5 28)) ?_;exact rn0
 intro v W3 e1 hΦ _;replace S:=S.mono e1;have v6:v 6= .int .i64 a:=hΦ 6 dcx;have v7:v 7= .int .i64 b:=hΦ 7 dcx;have v8:v 8= .int .i64 c:=hΦ 8 dcx;simp only [lxE,Nat.reduceAdd];rw [v6,v7,v8];clear v6 v7 v8 hΦ e1;refine wpList_nil ?_;go_upto_region 5 with (fail);refine rgs 2 [some 29,some 9] [iV a,iV a] [] ?_ ?_
 ·refine Rc (mv (Od.lit 6)) ?_;refine Rc (mv (Od.lc 0 29)) ?_;exact rn0
 intro v W4 e1 hΦ _;replace S:=S.mono e1;have v1:v 1= .int .i64 a:=hΦ 1 dcx;simp only [lxE,Nat.reduceAdd];rw [v1];clear v1 hΦ e1;refine wpList_nil ?_;go_upto_region 6 with (fail);refine rgs 1 [some 10] [iV 1] [] ?_ ?_
 ·refine Rc (mv Od.con) ?_;exact rn0
 intro v W5 e1 hΦ _;replace S:=S.mono e1;have v0:v 0= .int .i64 1:=hΦ 0 dcx;simp only [lxE];rw [v0];clear v0 hΦ e1;refine wpList_nil ?_;go_wp2_with fail;have S0:=hid S;clear S
 go_loopg [9,10] 10 (fun gk v9 v10 wr=> ∃ n y:Int,v9= .int .i64 n∧v10= .int .i64 y∧vnO a b c d2 gk n y=N∧y+gk=11∧1≤y∧(-1000000≤n∧n≤1000000)∧Hid (Sto w wr [((w.heap.size,2),IsI 2 c),((w.heap.size,1),IsI 2 b),((w.heap.size,0),IsI 2 a)]))
 case atStart=>exact ⟨a,1,rfl,rfl,HN0.out,by omega,by omega,by have:=HB.out;omega,S0⟩
 case round=>
  clear S0;obtain ⟨n,y,rfl,rfl,hvn,hg,hy1,hnb,S⟩:=hrel;have S:=S.out;have HW2:=hid (show IntKind.i64.wrap (2*(-(T:Int)))=d2 by rw [show 2*(-(T:Int))=d2 from HD2.out];exact wrapC_small (by have:=HD2.out;have:=HT.out;omega) (by have:=HD2.out;have:=HT.out;omega));have HDB:=hid (show -1000000≤d2∧d2≤1000000 by have:=HD2.out;have:=HT2.out;omega);obtain ⟨gn,hgn⟩:∃ t,gg n d2=t:=⟨_,rfl⟩;have HGN:=hid hgn;have HNB:=hid hnb;obtain ⟨e1,he1⟩:∃ t,(gn !=1)=t:=⟨_,rfl⟩;obtain ⟨e2,he2⟩:∃ t,(gn != -1)=t:=⟨_,rfl⟩;have HE1:=hid he1;have HE2:=hid he2;by_cases hc1:Int.gcd n d2=1
  ·have hnN:n=N:=by rw [← hvn,vnO_done hc1]
   have HEE:=hid (show (e1&&e2)=false by rw [← he1,← he2,← hgn];rcases gg_one hc1 with h | h <;> rw [h] <;> decide);subst hnN;clear hvn hg hy1 hnb hgn he1 he2 hc1;go_upto_region 7 with (fail);refine rgs 12 [some 30,some 31,some 32,some 33,some 34,some 35,some 36,some 37,some 38,some 39,some 40,some 41] [iV n,iV (-(T:Int)),iV d2,iV gn,IsV (.bool e1),IsV (.bool e1),IsIf (e1) (iV n),IsIf (e1) (iV (-(T:Int))),IsIf (e1) (iV d2),IsIf (e1) (iV gn),IsIf (e1) (IsV (.bool e2)),IsV (.bool false)] [] ?_ ?_ (hst:=by repeat' (first | exact trivial | apply IsIf.stb | exact IsV.stb _ | exact IsI.stb _ _ | apply IsJ.stb | apply IsQ.stb | apply IsF.stb | apply IsT2.stb | apply IsT3.stb | exact IsBo.stb _ _ | apply And.intro))
   ·refine Rc (mv (Od.lit 9)) ?_;refine Rc (mv (Od.lit 4)) ?_;refine Rc (bn (r:= .int .i64 d2) Od.con (Od.loc 1 31) (hr:=fun w=>by have hx9:=HW2.out;go_simp)) ?_;refine Rc (cl2 (en func81) (Od.lc (Φ:=iV n) 0 30) (Od.lc (Φ:=iV d2) 2 32) (fun x0 x1 w' hE d0 d1=>by { obtain rfl:x0= .int .i64 n:=d0;obtain rfl:x1= .int .i64 d2:=d1;exact (by have hh:=ggcd_f w' n d2 HNB.out HDB.out;rw [HGN.out] at hh;exact hh)})) ?_;refine Rc (bn (r:= .bool e1) (Od.loc 3 33) Od.con (hr:=fun w=>by have hx9:=HE1.out;go_simp)) ?_;refine Rc (mv (Od.lc 4 34)) ?_;refine RcB 5 35 e1 true (fun hb=>by subst hb;exact mv (Od.lit 9)) ?_;refine RcB 5 35 e1 true (fun hb=>by subst hb;exact mv (Od.lit 4)) ?_;refine RcB 5 35 e1 true (fun hb=>by subst hb;exact bn (r:= .int .i64 d2) Od.con (Od.loc 7 37) (hr:=fun w=>by have hx9:=HW2.out;go_simp)) ?_;refine RcB 5 35 e1 true (fun hb=>by subst hb;exact cl2 (en func81) (Od.lc (Φ:=iV n) 6 36) (Od.lc (Φ:=iV d2) 8 38) (fun x0 x1 w' hE d0 d1=>by { obtain rfl:x0= .int .i64 n:=d0;obtain rfl:x1= .int .i64 d2:=d1;exact (by have hh:=ggcd_f w' n d2 HNB.out HDB.out;rw [HGN.out] at hh;exact hh)})) ?_;refine RcB 5 35 e1 true (fun hb=>by subst hb;exact bn (r:= .bool e2) (Od.loc 9 39) Od.con (hr:=fun w=>by have hx9:=HE2.out;go_simp)) ?_;refine Rc (pkA (b2:=e2) (Od.loc 5 35) (fun hb=>by subst hb;exact Od.lc 10 40) (HEE.out)) ?_;exact rn0
   intro v W6 e1 hΦ _;replace S:=S.mono e1;have v11:v 11= .bool false:=hΦ 11 dcx;simp only [lxE,Nat.reduceAdd];rw [v11];clear v11 hΦ e1;refine wpList_nil ?_;have hasg:=fun w1=>assigned_f w1 T ⟨HT.out.1,HT.out.2.1⟩
   go_upto_region 18 with (go_at_call 83;go_must (refine Calls.mono (hasg _) ?_;rintro e w8 ⟨v8,rfl,E8,hr8⟩;rw [HNM.out] at hr8;obtain ⟨cells,hrow,hcl,hcw⟩:=hr8;obtain ⟨ao,cap,rfl,hq1,hq2,hq3,hq4⟩:=hrow.shape));have HQ:=hid (And.intro hq1 (And.intro hq2 (And.intro hq3 hq4)));have HCL:=hid hcl;have HCW:=hid hcw;have HE:=hid (S.ext.trans E8);have HSW:=hid (show w.heap.size≤w8.heap.size from (S.ext.trans E8).size);clear hq1 hq2 hq3 hq4 hcl hcw hrow hasg E8 S
   go_loopg [12,98] names.length (fun gk2 v12 v98 wr2=> ∃ i:Nat,v98= .int .i64 (i:Int)∧i+gk2=names.length∧Hid (Rwg 3 1 w8.heap.size wr2 v12 i ((names.take i).map fun x=> .int .i64 (cvV x n))∧Ext w8 wr2))
   case atStart=>exact ⟨0,rfl,by omega,hid ⟨Rwg.nil _ _ _ _,Ext.refl _⟩⟩
   case round=>
    obtain ⟨i,rfl,hg,HR⟩:=hrel;rcases Nat.eq_zero_or_pos gk with h0 | h0
    ·obtain rfl:i=names.length:=by omega
     have hdec:decide (((names.length:Nat):Int)<((names.length:Nat):Int))=false:=by simp
     clear hg h0;go_wp2_with fail;have hrow:=HR.out.1.base HSW.out;rw [List.take_length] at hrow;have hrow2:IR w.heap.size wr u12 (names.map fun x=>cvV x n):=by unfold IR;rw [List.length_map,List.map_map];exact hrow
     exact bodyPost_ret (v:= .tuple #[u12,.int .i64 0]) (by simp [results,results36,go_sem]) rfl ⟨_,rfl,HE.out.trans HR.out.2,_,_,rfl,⟨_,hrow2⟩,rfl⟩
    ·have hi:i<names.length:=by omega
     obtain ⟨c0,hc0⟩:∃ c,names[i]? =some c:=⟨names[i],List.getElem?_eq_getElem hi⟩;obtain ⟨g0,rfl,hgb,hgw,hgc⟩:=HQ.out.2.2.2 (by omega);obtain ⟨hc1,fn,fa,fb,hc2⟩:=HCL.out i c0 hc0;have hcf:=HCW.out i c0 fn fa fb hc0 hc2;rw [Nat.mul_comm 2 i] at hc1 hc2;have M1:=HR.out.2.cell (hgc _ _ hc1);have M2:=HR.out.2.cell (hgc _ _ hc2);have hdec:decide ((i:Int)<((names.length:Nat):Int))=true:=by simp;omega
     have hq:names.length≤cap∧cap≤9223372036854775807:=⟨HQ.out.1,HQ.out.2.1⟩;have hcapi:i<cap:=by omega
     have HG:=hid (And.intro hg h0);clear hgc hgb hc1 hc2 hg h0;have hlen:((names.take i).map fun x=>Value.int .i64 (cvV x n)).length=i:=by simp;omega
     have hbb:=HNL.out;have HC0:=hid hc0;have hn0:=HNN.out;have HCF:=hid hcf;obtain ⟨gc,rfl,rfl,hh⟩:=hcf;rcases hh with ⟨rfl,hp,hgp⟩ | ⟨rfl,hr,rr,hgp,hgr,hcr⟩
     ·obtain ⟨p,rfl⟩:∃ p:Nat,c0=(p:Int):=⟨c0.toNat,by omega⟩;have HVAL:=hid (show cvV (p:Int) n=kr n p by unfold cvV;rw [if_neg (by omega),if_neg (by omega),if_neg (by omega)];rfl);have hpp:0<p∧p≤4611686018427387904:=by have:=HNP.out _ (List.mem_of_getElem? hc0);omega
      clear hc0;go_wp2_with (first | (go_at_call 167;go_must (refine Calls.mono (odd1_f _ gc p n (HSG.out.ext ((HE.out.trans HR.out.2).alloc _)) ((HR.out.2.alloc _).heap' hgp) hpp hn0) ?_;rintro e w9 ⟨_,rfl,E9,rfl⟩)) | (at_builtin;go_must (refine wpl_rwg rfl _ _ 41 rfl w8.heap.size 3 (.int .i64 0) 1 8 (by kernel_rfl) infoInt rfl dcx _ _ _ rfl (((HR.out.1.ext ((Ext.refl _).alloc _)).ext E9).ext ((Ext.refl _).alloc _)) _ 1 _ _ rfl rfl (cells_newE _ _ _ _ (by simp)) (by simp [Value.oneCell']) (by omega) (by omega) (by have h1:=HR.out.2.size;have h2:=E9.size;simp at h2 ⊢;omega) ?_;intro v9 w10 hr9 hg9 hb9)))
      have hx:=hid (And.intro hr9 (Below.ext (((HR.out.2.alloc _).trans E9).alloc _) hb9 (Nat.le_refl _)));clear hr9 hg9 hb9 M1 M2 hlen hbb
      go_roundg (gk-1)
      case measure=>have:=HG.out;omega
      case rel=>exact ⟨i+1,by rw [Int.natCast_add];rfl,by have:=HG.out;omega,hid ⟨by rw [List.take_add_one,HC0.out];have hv:=HVAL.out;simp only [Option.toList_some,List.map_append,List.map_cons,List.map_nil,hv];exact hx.out.1,hx.out.2⟩⟩
     ·have hval:cvV c0 n=if n%8=1∨n%8=rr then 1 else -1:=by
       rcases hcr with ⟨rfl,rfl⟩ | ⟨rfl,rfl⟩ | ⟨rfl,rfl⟩
       ·rfl
       ·rfl
       ·rfl
      obtain ⟨vq,hvq⟩:∃ t:Int,(if n%8=1∨n%8=rr then (1:Int) else -1)=t:=⟨_,rfl⟩;have hsp:=fun W' h1 h2=>special1_f W' gc hr rr n h1 h2 HNN.out
      rw [hvq] at hval hsp;have HVAL:=hid hval;clear hval hvq hc0 hcr;go_wp2_with (first | (go_at_call 168;go_must (refine Calls.mono (hsp _ ((HR.out.2.alloc _).heap' hgp) ((HR.out.2.alloc _).heap' hgr)) ?_;rintro e w9 ⟨_,rfl,E9,rfl⟩)) | (at_builtin;go_must (refine wpl_rwg rfl _ _ 41 rfl w8.heap.size 3 (.int .i64 0) 1 8 (by kernel_rfl) infoInt rfl dcx _ _ _ rfl (((HR.out.1.ext ((Ext.refl _).alloc _)).ext E9).ext ((Ext.refl _).alloc _)) _ 1 _ _ rfl rfl (cells_newE _ _ _ _ (by simp)) (by simp [Value.oneCell']) (by omega) (by omega) (by have h1:=HR.out.2.size;have h2:=E9.size;simp at h2 ⊢;omega) ?_;intro v9 w10 hr9 hg9 hb9)))
      have hx:=hid (And.intro hr9 (Below.ext (((HR.out.2.alloc _).trans E9).alloc _) hb9 (Nat.le_refl _)));clear hr9 hg9 hb9 M1 M2 hlen hbb
      go_roundg (gk-1)
      case measure=>have:=HG.out;omega
      case rel=>exact ⟨i+1,by rw [Int.natCast_add];rfl,by have:=HG.out;omega,hid ⟨by rw [List.take_add_one,HC0.out];have hv:=HVAL.out;simp only [Option.toList_some,List.map_append,List.map_cons,List.map_nil,hv];exact hx.out.1,hx.out.2⟩⟩
  ·obtain ⟨k,rfl⟩:∃ k,gk=k+1:=by
    rcases gk with _ | k
    ·exfalso;apply hc1;have:n=N:=hvn;rw [this];exact HNC.out
    ·exact ⟨k,rfl⟩
   have hvn2:vnO a b c d2 k (vnI a b c d2 (y+1).toNat 0 y n) (y+1)=N:=by rw [← hvn];conv=>rhs;unfold vnO;rw [if_neg hc1]
   have HEE:=hid (show (e1&&e2)=true by rw [← he1,← he2,← hgn];obtain ⟨h1,h2⟩:=gg_none hc1;simp [h1,h2]);obtain ⟨M,hM⟩:∃ t,vnI a b c d2 (y+1).toNat 0 y n=t:=⟨_,rfl⟩;rw [hM] at hvn2;have HV:=hid hvn2;have HM:=hid hM;have HY:=hid (And.intro hg hy1);clear hvn hvn2 hM hg hy1 hnb hgn he1 he2 hc1;go_upto_region 7 with (fail);refine rgs 12 [some 30,some 31,some 32,some 33,some 34,some 35,some 36,some 37,some 38,some 39,some 40,some 41] [iV n,iV (-(T:Int)),iV d2,iV gn,IsV (.bool e1),IsV (.bool e1),IsIf (e1) (iV n),IsIf (e1) (iV (-(T:Int))),IsIf (e1) (iV d2),IsIf (e1) (iV gn),IsIf (e1) (IsV (.bool e2)),IsV (.bool true)] [] ?_ ?_ (hst:=by repeat' (first | exact trivial | apply IsIf.stb | exact IsV.stb _ | exact IsI.stb _ _ | apply IsJ.stb | apply IsQ.stb | apply IsF.stb | apply IsT2.stb | apply IsT3.stb | exact IsBo.stb _ _ | apply And.intro))
   ·refine Rc (mv (Od.lit 9)) ?_;refine Rc (mv (Od.lit 4)) ?_;refine Rc (bn (r:= .int .i64 d2) Od.con (Od.loc 1 31) (hr:=fun w=>by have hx9:=HW2.out;go_simp)) ?_;refine Rc (cl2 (en func81) (Od.lc (Φ:=iV n) 0 30) (Od.lc (Φ:=iV d2) 2 32) (fun x0 x1 w' hE d0 d1=>by { obtain rfl:x0= .int .i64 n:=d0;obtain rfl:x1= .int .i64 d2:=d1;exact (by have hh:=ggcd_f w' n d2 HNB.out HDB.out;rw [HGN.out] at hh;exact hh)})) ?_;refine Rc (bn (r:= .bool e1) (Od.loc 3 33) Od.con (hr:=fun w=>by have hx9:=HE1.out;go_simp)) ?_;refine Rc (mv (Od.lc 4 34)) ?_;refine RcB 5 35 e1 true (fun hb=>by subst hb;exact mv (Od.lit 9)) ?_;refine RcB 5 35 e1 true (fun hb=>by subst hb;exact mv (Od.lit 4)) ?_;refine RcB 5 35 e1 true (fun hb=>by subst hb;exact bn (r:= .int .i64 d2) Od.con (Od.loc 7 37) (hr:=fun w=>by have hx9:=HW2.out;go_simp)) ?_;refine RcB 5 35 e1 true (fun hb=>by subst hb;exact cl2 (en func81) (Od.lc (Φ:=iV n) 6 36) (Od.lc (Φ:=iV d2) 8 38) (fun x0 x1 w' hE d0 d1=>by { obtain rfl:x0= .int .i64 n:=d0;obtain rfl:x1= .int .i64 d2:=d1;exact (by have hh:=ggcd_f w' n d2 HNB.out HDB.out;rw [HGN.out] at hh;exact hh)})) ?_;refine RcB 5 35 e1 true (fun hb=>by subst hb;exact bn (r:= .bool e2) (Od.loc 9 39) Od.con (hr:=fun w=>by have hx9:=HE2.out;go_simp)) ?_;refine Rc (pkA (b2:=e2) (Od.loc 5 35) (fun hb=>by subst hb;exact Od.lc 10 40) (HEE.out)) ?_;exact rn0
   intro v W7 e1 hΦ _;replace S:=S.mono e1;have v11:v 11= .bool true:=hΦ 11 dcx;simp only [lxE,Nat.reduceAdd];rw [v11];clear v11 hΦ e1;refine wpList_nil ?_;go_upto_region 9 with (fail);go_wp2_with fail;have HYB:=hid (show 1≤y∧y≤10 by have:=HY.out;omega);have HY1:=hid (show IntKind.i64.wrap (y+1)=y+1 from wrapC_small (by have:=HYB.out;omega) (by have:=HYB.out;omega));have S0:=hid S;clear S
   go_loopg [9,11] (y+1).toNat (fun gk v9 v11 wr=> ∃ n2 x:Int,v9= .int .i64 n2∧v11= .int .i64 x∧vnI a b c d2 gk x y n2=M∧x+gk=y+1∧0≤x∧(-1000000≤n2∧n2≤1000000)∧Hid (Sto w wr [((w.heap.size,2),IsI 2 c),((w.heap.size,1),IsI 2 b),((w.heap.size,0),IsI 2 a)]))
   case atStart=>exact ⟨n,0,rfl,rfl,HM.out,by have:=HYB.out;omega,by omega,HNB.out,S0⟩
   case round=>
    clear S0;obtain ⟨n2,x,rfl,rfl,hvi,hgx,hx0,hnb2,HS⟩:=hrel;by_cases hxy:x≤y
    ·obtain ⟨k2,hk2⟩:∃ k2,gk=k2+1:=⟨gk-1,by omega⟩;rw [hk2] at hvi hgx;obtain ⟨hba,hbb,hbc⟩:=HB.out;have hyb:=HYB.out;obtain ⟨q1,q2,q3,q4,q5,q6,q7,w1,w2,w3,w4,w5,w6,w7,w8,b1,b2,b3,b4,b5,b6,b7,b8⟩:=qf_bnd (x:=x) (y:=y) hba hbb hbc (by omega) (by omega);obtain ⟨p1,p2,p3,p4,p5,p6,p7,y1,y2,y3,y4,y5,y6,y7,y8,c1,c2,c3,c4,c5,c6,c7,c8⟩:=q2F_bnd (x:=x) (y:=y) hba hbb hbc (by omega) (by omega);have hvk:(if Int.gcd (qf a b c x y) d2=1 then qf a b c x y else if Int.gcd (q2F a b c x y) d2=1 then q2F a b c x y else vnI a b c d2 k2 (x+1) y (q2F a b c x y))=M:=by rw [← hvi];rfl
     obtain ⟨F1,hF1⟩:∃ t,qf a b c x y=t:=⟨_,rfl⟩;obtain ⟨F2,hF2⟩:∃ t,q2F a b c x y=t:=⟨_,rfl⟩;rw [hF1] at w8 b8 hvk;rw [hF2] at y8 c8 hvk;have HF1:=hid b8;have HF2:=hid c8;have hd2:d2≠0:=by have:=HD2.out;have:=HT.out;omega
     have HA1:=hid (gg_bnd F1 hd2 HDB.out);have HA2:=hid (gg_bnd F2 hd2 HDB.out);have hx1:IntKind.i64.wrap (a*x)=q1:=by rw [w1];exact wrapC_small (by omega) (by omega)
     have hx2:IntKind.i64.wrap (q1*x)=q2:=by rw [w2];exact wrapC_small (by omega) (by omega)
     have hx3:IntKind.i64.wrap (b*x)=q3:=by rw [w3];exact wrapC_small (by omega) (by omega)
     have hx4:IntKind.i64.wrap (q3*y)=q4:=by rw [w4];exact wrapC_small (by omega) (by omega)
     have hx5:IntKind.i64.wrap (q2+q4)=q5:=by rw [w5];exact wrapC_small (by omega) (by omega)
     have hx6:IntKind.i64.wrap (c*y)=q6:=by rw [w6];exact wrapC_small (by omega) (by omega)
     have hx7:IntKind.i64.wrap (q6*y)=q7:=by rw [w7];exact wrapC_small (by omega) (by omega)
     have hx8:IntKind.i64.wrap (q5+q7)=F1:=by rw [w8];exact wrapC_small (by omega) (by omega)
     have hx9:=HW2.out;have hx10:IntKind.i64.wrap (x+1)=x+1:=wrapC_small (by omega) (by omega);have hx11:=HY1.out;have gA1:((gg F1 d2).natAbs:Nat)=Int.gcd F1 d2:=gg_abs _ _ _ (Nat.le_refl _);have gA2:((gg F2 d2).natAbs:Nat)=Int.gcd F2 d2:=gg_abs _ _ _ (Nat.le_refl _);have HX:=hid (And.intro hgx (And.intro hx0 hxy));have HK2:=hid hk2;by_cases h1:Int.gcd F1 d2=1
     ·rw [if_pos h1] at hvk;subst hvk;have hq:(((gg F1 d2).natAbs:Int)==1)=true:=by rw [gA1,h1];rfl
      clear w1 w2 w3 w4 w5 w6 w7 w8 b1 b2 b3 b4 b5 b6 b7 b8 y1 y2 y3 y4 y5 y6 y7 y8 c1 c2 c3 c4 c5 c6 c7 c8 hF1 hF2 hba hbb hbc hyb hvi hgx hx0 hnb2 hk2 h1 gA1 gA2 hd2;go_wp2_with (first | (go_at_call 81;go_must (refine Calls.mono (ggcd_f _ _ d2 (by first | exact HF1.out | exact HF2.out) HDB.out) ?_;rintro e w2 ⟨_,rfl,E2,rfl⟩;have HS:=hid (HS.out.mono E2))) | (go_at_call 82;go_must (refine Calls.mono (gabs_f _ _ (by first | exact HA1.out | exact HA2.out)) ?_;rintro e w3 ⟨_,rfl,E3,rfl⟩;have HS:=hid (HS.out.mono E3))))
      go_roundg k
      case measure=>omega
      case rel=>refine ⟨F1,y+1,rfl,rfl,HV.out,by have:=HY.out;omega,by have:=HY.out;omega,HF1.out,HS⟩
     ·rw [if_neg h1] at hvk;have hq:(((gg F1 d2).natAbs:Int)==1)=false:=by rw [gA1,beq_eq_false_iff_ne];omega
      have hy1:IntKind.i64.wrap (a*y)=p1:=by rw [y1];exact wrapC_small (by omega) (by omega)
      have hy2:IntKind.i64.wrap (p1*y)=p2:=by rw [y2];exact wrapC_small (by omega) (by omega)
      have hy3:p3=q3:=by rw [← y3,← w3]
      have hy4:p4=q4:=by rw [← y4,← w4,hy3]
      have hy5:IntKind.i64.wrap (p2+q4)=p5:=by rw [← hy4,y5];exact wrapC_small (by omega) (by omega)
      have hy6:IntKind.i64.wrap (c*x)=p6:=by rw [y6];exact wrapC_small (by omega) (by omega)
      have hy7:IntKind.i64.wrap (p6*x)=p7:=by rw [y7];exact wrapC_small (by omega) (by omega)
      have hy8:IntKind.i64.wrap (p5+p7)=F2:=by rw [y8];exact wrapC_small (by omega) (by omega)
      by_cases h2:Int.gcd F2 d2=1
      ·rw [if_pos h2] at hvk;subst hvk;have hq2:(((gg F2 d2).natAbs:Int)==1)=true:=by rw [gA2,h2];rfl
       clear w1 w2 w3 w4 w5 w6 w7 w8 b1 b2 b3 b4 b5 b6 b7 b8 y1 y2 y3 y4 y5 y6 y7 y8 c1 c2 c3 c4 c5 c6 c7 c8 hF1 hF2 hba hbb hbc hyb hvi hgx hx0 hnb2 hk2 h1 h2 gA1 gA2 hd2 hy3 hy4;go_wp2_with (first | (go_at_call 81;go_must (refine Calls.mono (ggcd_f _ _ d2 (by first | exact HF1.out | exact HF2.out) HDB.out) ?_;rintro e w2 ⟨_,rfl,E2,rfl⟩;have HS:=hid (HS.out.mono E2))) | (go_at_call 82;go_must (refine Calls.mono (gabs_f _ _ (by first | exact HA1.out | exact HA2.out)) ?_;rintro e w3 ⟨_,rfl,E3,rfl⟩;have HS:=hid (HS.out.mono E3))))
       go_roundg k
       case measure=>omega
       case rel=>refine ⟨F2,y+1,rfl,rfl,HV.out,by have:=HY.out;omega,by have:=HY.out;omega,HF2.out,HS⟩
      ·rw [if_neg h2] at hvk;have HVK:=hid hvk;have hq2:(((gg F2 d2).natAbs:Int)==1)=false:=by rw [gA2,beq_eq_false_iff_ne];omega
       clear hvk w1 w2 w3 w4 w5 w6 w7 w8 b1 b2 b3 b4 b5 b6 b7 b8 y1 y2 y3 y4 y5 y6 y7 y8 c1 c2 c3 c4 c5 c6 c7 c8 hF1 hF2 hba hbb hbc hyb hvi hgx hx0 hnb2 hk2 h1 h2 gA1 gA2 hd2 hy3 hy4;go_wp2_with (first | (go_at_call 81;go_must (refine Calls.mono (ggcd_f _ _ d2 (by first | exact HF1.out | exact HF2.out) HDB.out) ?_;rintro e w2 ⟨_,rfl,E2,rfl⟩;have HS:=hid (HS.out.mono E2))) | (go_at_call 82;go_must (refine Calls.mono (gabs_f _ _ (by first | exact HA1.out | exact HA2.out)) ?_;rintro e w3 ⟨_,rfl,E3,rfl⟩;have HS:=hid (HS.out.mono E3))))
       go_roundg k2
       case measure=>have:=HK2.out;omega
       case rel=>exact ⟨F2,x+1,rfl,rfl,HVK.out,by have:=HX.out;omega,by have:=HX.out;omega,HF2.out,HS⟩
    ·have hgt:y<x:=by omega
     have hg0:gk=0:=by omega
     have hMn:n2=M:=by rw [hg0] at hvi;exact hvi
     subst hMn;have hx11:=HY1.out;have HN2:=hid hnb2;clear hvi hgx hx0 hnb2 hg0;go_wp2_with fail
     go_roundg k
     case measure=>omega
     case rel=>refine ⟨n2,y+1,rfl,rfl,HV.out,by have:=HY.out;omega,by have:=HY.out;omega,HN2.out,HS⟩
end Go.Proofs.YtknffgdbdadpcaaGreatDoor
