/-
 Package count: the class number: how many reduced forms are primitive.
 Package count: Class at a discriminant. (Printed by wip/gen/cnt4.py.)
-/
import Derived.Test.YtknffgdbdadpcaaGreatDoorCnt2
import Derived.Test.YtknffgdbdadpcaaGreatDoorPri
import Derived.Test.YtknffgdbdadpcaaGreatDoorMod3
namespace Go.Proofs.YtknffgdbdadpcaaGreatDoor
open Go Go.RowKit
attribute [local go_sem] Oper.semAt_some
theorem forms_c (w:World) (n:Nat):Calls Tryz.prog 120 #[.int .i64 (n:Int)] w (fun e w'=>e= .returned (.func (.func 157) #[] #[.pointer (some ⟨w.heap.size,0,none⟩)])∧w'=w.alloc (.cells #[.int .i64 (n:Int)] 2)):=by
 have hmk:∀ w',(Instr.makeFunc (.func 157) #[] #[.pointer (some ⟨w.heap.size,0,none⟩)]).run Tryz.prog w'= .ok (.func (.func 157) #[] #[.pointer (some ⟨w.heap.size,0,none⟩)]) w':=fun _=>rfl
 go_enter Tryz.func120,Tryz.ntmps120;go_wp2_with fail;exact bodyPost_ret (v:= .func (.func 157) #[] #[.pointer (some ⟨w.heap.size,0,none⟩)]) (by simp [results,Tryz.results120,go_sem]) rfl ⟨rfl,rfl⟩
def fmPrim (x:Int×Int×Int):Bool:=decide (((Int.gcd ((Int.gcd x.1 x.2.1:Nat):Int) x.2.2:Nat):Int)=1)
def fmCnt (xs:List (Int×Int×Int)):Int:=(((xs.filter fmPrim).length:Nat):Int)
theorem fmB_mem {n a:Int} :∀ (k:Nat) (b:Int) (x:Int×Int×Int),x∈fmB n a k b→x.1=a∧b≤x.2.1∧x.2.1<b+k∧x.2.2=(x.2.1*x.2.1+n)/(4*a)
 | 0,b,x,h=>by simp [fmB] at h
 | k+1,b,x,h=>by
  rw [fmB,List.mem_append] at h;rcases h with h | h
  ·split at h
   ·rw [List.mem_singleton] at h;subst h;exact ⟨rfl,Int.le_refl _,by simp;omega,rfl⟩
   ·simp at h
  ·obtain ⟨h1,h2,h3,h4⟩:=fmB_mem k (b+1) x h;exact ⟨h1,by omega,by omega,h4⟩
theorem fmA_mem {n:Int} :∀ (k:Nat) (a:Int) (x:Int×Int×Int),1≤a→x∈fmA n k a→1≤x.1∧3*x.1*x.1≤n∧1-x.1≤x.2.1∧x.2.1≤x.1∧x.2.2=(x.2.1*x.2.1+n)/(4*x.1)
 | 0,a,x,_,h=>by simp [fmA] at h
 | k+1,a,x,ha,h=>by
  rw [fmA] at h
  split at h
  ·rename_i hle
   rw [List.mem_append] at h;rcases h with h | h
   ·obtain ⟨h1,h2,h3,h4⟩:=fmB_mem _ _ x h;rw [h1];exact ⟨ha,hle,h2,by omega,h4⟩
   ·exact fmA_mem k (a+1) x (by omega) h
  ·simp at h
theorem fm_box {n:Nat} (hn:n≤4096) {x:Int×Int×Int} (h:x∈fmA n (n+1) 1):(1≤x.1∧x.1≤64)∧(-64≤x.2.1∧x.2.1≤64)∧(-10000≤x.2.2∧x.2.2≤10000):=by
 obtain ⟨h1,h2,h3,h4,h5⟩:=fmA_mem _ _ _ (by decide) h
 have ha:x.1≤64:=by
  refine Int.not_lt.1 fun hlt=> ?_
  have:=Int.mul_le_mul_of_nonneg_left (show 65≤x.1 by omega) (show 0≤3*x.1 by omega);omega
 have hbb:0≤x.2.1*x.2.1∧x.2.1*x.2.1≤4096:=by
  refine ⟨mul_self_nonneg' _,?_⟩;have e:x.2.1*x.2.1=((x.2.1.natAbs*x.2.1.natAbs:Nat):Int):=by rw [Int.natCast_mul,Int.natAbs_mul_self']
  have:=Nat.mul_le_mul (show x.2.1.natAbs≤64 by omega) (show x.2.1.natAbs≤64 by omega);rw [e];omega
 have hq:0≤x.2.2∧x.2.2≤x.2.1*x.2.1+n:=by
  rw [h5];exact ⟨Int.ediv_nonneg (by omega) (by omega),Int.ediv_le_self _ (by omega)⟩
 omega
theorem fmCnt_snoc (pre:List (Int×Int×Int)) (x:Int×Int×Int):fmCnt (pre++ [x])=fmCnt pre+(if fmPrim x=true then 1 else 0):=by
 unfold fmCnt;rw [List.filter_append,List.length_append,Int.natCast_add]
 congr 1
 by_cases h:fmPrim x=true <;> simp [List.filter,h]
theorem fmB_len {n a:Int} :∀ (k:Nat) (b:Int),(fmB n a k b).length≤k
 | 0,b=>by simp [fmB]
 | k+1,b=>by
  rw [fmB,List.length_append];have:=fmB_len (n:=n) (a:=a) k (b+1)
  split <;> simp <;> omega
theorem fmA_len {n:Int} (hn:n≤4096):∀ (k:Nat) (a:Int),1≤a→((fmA n k a).length:Int)≤128*(max (65-a) 0)
 | 0,a,ha=>by simp [fmA];omega
 | k+1,a,ha=>by
  rw [fmA]
  split
  ·rename_i hle
   have ha64:a≤64:=by
    refine Int.not_lt.1 fun hlt=> ?_
    have:=Int.mul_le_mul_of_nonneg_left (show 65≤a by omega) (show 0≤3*a by omega);omega
   rw [List.length_append];have h1:=fmB_len (n:=n) (a:=a) (2*a).toNat (1-a);have h2:=fmA_len hn k (a+1) (by omega);omega
  ·simp;omega
theorem fmCnt_le {n:Nat} (hn:n≤4096) {pre:List (Int×Int×Int)} {x:Int×Int×Int} (h:pre++ [x] <+:fmA n (n+1) 1):0≤fmCnt pre∧fmCnt pre≤1000000:=by
 unfold fmCnt;have h1:=List.length_filter_le fmPrim pre;have h2:=h.length_le;rw [List.length_append] at h2;have h3:=fmA_len (n:=n) (by omega) (n+1) 1 (by decide);omega
theorem fa_Tr0 (g:Nat) (w:World):(Instr.fieldAt 159 (.pointer (some ⟨g,0,none⟩)) 0).run Tryz.prog w= .ok (.pointer (some ⟨g,0,none⟩)) w:=by go_simp
theorem fa_Tr1 (g:Nat) (w:World):(Instr.fieldAt 159 (.pointer (some ⟨g,0,none⟩)) 1).run Tryz.prog w= .ok (.pointer (some ⟨g,1,none⟩)) w:=by go_simp
theorem fa_Tr2 (g:Nat) (w:World):(Instr.fieldAt 159 (.pointer (some ⟨g,0,none⟩)) 2).run Tryz.prog w= .ok (.pointer (some ⟨g,2,none⟩)) w:=by go_simp
section
variable {ops:Array Oper} {Q:Exit→Act→World→Prop} {ds:List (Option Tmp)} {a0:Act} {w0:World} {L:List (Value→World→Prop)} {boxes:List Nat} {i:Nat} {o:Oper}
theorem ldG2 {b:Addr} {u:Int} {x:Operand} (hc:∀ w,Ext w0 w→World.cell? w b=some (.int .i64 u)) (hx:Od ops ds a0 w0 L i x (IsV (.pointer (some b)))) (ho:o.op= .load 2 x:=by rfl) (hi:L.getD i (fun _ _=>True)=IsV (.int .i64 u):=by kernel_rfl) (hb:boxes.contains i=false:=by kernel_rfl):Ok Tryz.prog ops Q ds a0 w0 L boxes i o:=
 Ok.of hb fun v' a w hE hd hf=>by
  have h:a.eval x=_:=hx.out v' a w hE hd hf;have hcell:=hc w hE;exact ⟨_,ld_run ho h (show (Instr.loadAt 2 (.pointer (some b))).run Tryz.prog w= .ok (.int .i64 u) w by go_simp),by rw [hi];exact rfl⟩
end
set_option maxRecDepth 100000 in
set_option maxHeartbeats 4000000 in
theorem class_f (w:World) (n:Nat) (hn:n≤4096):Calls Tryz.prog 76 #[.int .i64 (n:Int)] w (Ret w (IsV (.int .i64 (fmCnt (fmA n (n+1) 1))))):=by
 have HN:=hid hn;clear hn;refine calls_of_wp_marks Tryz.func76 rfl ?_;simp only [Tryz.ntmps76,List.size_toArray,List.length_cons,List.length_nil,Nat.reduceAdd,Nat.reduceSub,Array.replicate_succ,Array.replicate_zero,List.push_toArray,List.append_toArray,List.nil_append,List.cons_append];go_wp2_with (go_at_call 120;refine Calls.mono (forms_c _ n) ?_;rintro e w2 ⟨rfl,rfl⟩)
 obtain ⟨W,hW⟩:∃ W,(w.alloc (.cells #[.int .i64 0] 2)).alloc (.cells #[.int .i64 (n:Int)] 2)=W:=⟨_,rfl⟩;have hWs:W.heap.size=w.heap.size+2:=by rw [← hW];simp
 have E:Ext w W:=by rw [← hW];exact ((Ext.refl _).alloc _).alloc _
 have V0:VarAt w.heap.size w.heap.size W (.int .i64 0) W:=by
  rw [← hW];exact ⟨by simp,Below.refl _ _⟩
 have hc:W.cell? ⟨w.heap.size+1,0,none⟩=some (.int .i64 (n:Int)):=by
  have:=cell_newAt (w.alloc (.cells #[.int .i64 0] 2)) (w.heap.size+1) (by simp) #[.int .i64 (n:Int)] 2 0 _ rfl;rw [hW] at this;exact this
 have hX:=forms1_in Fence.wide 8 trivial rfl (by decide) W (w.heap.size+1) n (by have:=HN.out;omega) hc;rw [hW];clear hW
 refine wpIn_wide.1 (wpIn_rangeFunc_boxA (n:=9) rfl (by decide) (gf:=157) (lb:= #[.pointer (some ⟨w.heap.size+1,0,none⟩)]) rfl trivial (en Tryz.func157) (c:=w.heap.size+1) (by omega)
  hX (fun _=>rfl)
  (fun pre W'=>VarAt w.heap.size w.heap.size W (.int .i64 (fmCnt pre)) W') (fun _ _ _=>False)
  (varAt_own _ (by omega) (by omega)) (fun _ _ _ _ _ h _ _=>h) V0
  (fun x=> .cells #[.int .i64 x.1,.int .i64 x.2.1,.int .i64 x.2.2] 159)
  (fun x b=> { tmps:= #[.int .i64 (n:Int),undef,.int .i64 0,.pointer (some ⟨w.heap.size,0,none⟩),.pointer (some ⟨b,0,none⟩),.int .i64 (n:Int),.func (.func 157) #[] #[.pointer (some ⟨w.heap.size+1,0,none⟩)],.agg #[.int .i64 x.1,.int .i64 x.2.1,.int .i64 x.2.2],undef,undef,undef,undef,undef,undef,undef,undef,undef,undef,undef,undef],defers:= []}) ?_ ?_ ?_ ?_)
 ·intro l x W' K hK
  gi_wp2
  exact hK
 ·intro l pre x W' b V6 hp hb hbo;have hx:x∈fmA n (n+1) 1:=hp.mem (by simp);obtain ⟨hx1,hx2,hx3⟩:=fm_box HN.out hx;obtain ⟨g1,hg1⟩:∃ g,Int.gcd x.1 x.2.1=g:=⟨_,rfl⟩;obtain ⟨g2,hg2⟩:∃ g,Int.gcd (g1:Int) x.2.2=g:=⟨_,rfl⟩;have hpr:fmPrim x=decide ((g2:Int)=1):=by unfold fmPrim;rw [hg1,hg2]
  have C0:World.cell? W' ⟨b,0,none⟩=some (.int .i64 x.1):=by simp [World.cell?,hbo]
  have C1:World.cell? W' ⟨b,1,none⟩=some (.int .i64 x.2.1):=by simp [World.cell?,hbo]
  have C2:World.cell? W' ⟨b,2,none⟩=some (.int .i64 x.2.2):=by simp [World.cell?,hbo]
  have hcw:w.heap.size+1<W'.heap.size:=by have:=V6.2.size;omega
  have HG1:=hid hg1;have HG2:=hid hg2;have HB:=hid (And.intro hx1 (And.intro hx2 hx3))
  have HB2:=hid (show (-1000000≤(g1:Int)∧(g1:Int)≤1000000)∧(-1000000≤x.2.2∧x.2.2≤1000000) from ⟨by
   have h0:=Nat.le_of_dvd (by omega) (Int.gcd_dvd_natAbs_left x.1 x.2.1);rw [hg1] at h0
   omega,by omega⟩)
  obtain ⟨bb,hbb⟩:∃ t,fmPrim x=t:=⟨_,rfl⟩;have HBB:=hid (hpr.symm.trans hbb);have HPX:=hid hbb;clear hx hx1 hx2 hx3 hg1 hg2 hpr hbb;refine wpIn_block (wpIn_seq ?_);refine rgI 9 [some 8,some 9,some 10,some 11,some 12,some 13,some 14,some 15,some 16] [IsV (.pointer (some ⟨b,0,none⟩)),IsV (.int .i64 x.1),IsV (.pointer (some ⟨b,1,none⟩)),IsV (.int .i64 x.2.1),IsV (.int .i64 (g1:Int)),IsV (.pointer (some ⟨b,2,none⟩)),IsV (.int .i64 x.2.2),IsV (.int .i64 (g2:Int)),IsV (.bool bb)] [] 0 (not_out_then (not_out_block not_out_box 1) _) ?_ ?_
  ·refine Rc (fa (fa_Tr0 b) (Od.lit 4)) ?_;refine Rc (ldG2 (fun w e=>Ext.cell e C0) (Od.loc 0 8)) ?_;refine Rc (fa (fa_Tr1 b) (Od.lit 4)) ?_;refine Rc (ldG2 (fun w e=>Ext.cell e C1) (Od.loc 2 10)) ?_;refine Rc (cl2 (en Tryz.func125) (Od.lc (Φ:=IsV (.int .i64 x.1)) 1 9) (Od.lc (Φ:=IsV (.int .i64 x.2.1)) 3 11) (fun x0 x1 w' hE d0 d1=>by { obtain rfl:x0= .int .i64 x.1:=d0;obtain rfl:x1= .int .i64 x.2.1:=d1;exact (by have hh:=cgcd_f w' x.1 x.2.1 (by have:=HB.out;omega) (by have:=HB.out;omega);rw [HG1.out] at hh;exact hh)})) ?_;refine Rc (fa (fa_Tr2 b) (Od.lit 4)) ?_;refine Rc (ldG2 (fun w e=>Ext.cell e C2) (Od.loc 5 13)) ?_;refine Rc (cl2 (en Tryz.func125) (Od.lc (Φ:=IsV (.int .i64 (g1:Int))) 4 12) (Od.lc (Φ:=IsV (.int .i64 x.2.2)) 6 14) (fun x0 x1 w' hE d0 d1=>by { obtain rfl:x0= .int .i64 (g1:Int):=d0;obtain rfl:x1= .int .i64 x.2.2:=d1;exact (by have hh:=cgcd_f w' (g1:Int) x.2.2 HB2.out.1 HB2.out.2;rw [HG2.out] at hh;exact hh)})) ?_;refine Rc (bn (r:= .bool bb) (Od.loc 7 15) Od.con (hr:=fun w=>by go_simp;exact HBB.out)) ?_;exact RgAll.nil
  intro v W7 e1 hΦ _;have v8:v 8= .bool bb:=hΦ 8 (by decide);have V7:=V6.ext e1 (by omega);have Lg:=V7.1.1;have Fg:=V7.1.2;simp only [layL,Act.put,uAx,u0x,u1x,Nat.reduceAdd];rw [v8];clear v8 hΦ;refine wpAny_done (by kernel_rfl) ?_ _;show (Code.cond _ _ _).wpIn _ _ _ _ _ _;have hsn:=fmCnt_snoc pre x;rw [HPX.out] at hsn;cases bb with
  | true=>
   rw [if_pos rfl] at hsn;have hcb:0≤fmCnt pre∧fmCnt pre≤1000000:=fmCnt_le HN.out hp;have HWR:=hid (show IntKind.i64.wrap (fmCnt pre+1)=fmCnt (pre++ [x]) by rw [hsn];exact wrapC_small (by omega) (by omega));have hx9:=HWR.out;have HS':=hid hsn;obtain ⟨u,hu⟩:∃ u,fmCnt (pre++ [x])=u:=⟨_,rfl⟩;rw [hu] at hx9;obtain ⟨t,ht⟩:∃ t,fmCnt pre=t:=⟨_,rfl⟩;rw [ht] at hx9 V7 Lg;have HU:=hid hu;clear hcb hsn hu ht HWR
   gi_wp2
   refine boxPost_norm (((ext_keeps e1).trans (KeepsOthers.setCell _ _ _)).from _) ?_ ?_
   ·exact (setCell_heap W7 _ _ _ (by omega)).trans (e1.block _ hcw)
   ·show VarAt _ _ _ (.int .i64 (fmCnt (pre++ [x]))) _;rw [HU.out];exact V7.set (Nat.le_refl _) _
  | false=>
   rw [if_neg (by decide),Int.add_zero] at hsn
   gi_wp2
   refine boxPost_norm ((ext_keeps e1).from _) (e1.block _ hcw) ?_;show VarAt _ _ _ (.int .i64 (fmCnt (pre++ [x]))) _;rw [hsn];exact V7
 ·rintro D xs W' hD rfl V6 hK;have E6:Ext w W':=Below.trans E V6.2;have Lg:=V6.1.1;have Fg:=V6.1.2;go_wp2_with fail;have hfin:Ext w (W'.putObj D (.deferred none)):=Below.trans E6 (belowK_b (w:=w) (Nat.le_refl _) W' D _ _ (by omega) hK rfl rfl);exact marks_ret1 hK (v:= .int .i64 (fmCnt (fmA (n:Int) (n+1) 1))) (by simp [results,Tryz.results76,go_sem]) ⟨_,rfl,hfin,rfl⟩
 ·intro D q pre W' _ _ h _;exact h.elim
end Go.Proofs.YtknffgdbdadpcaaGreatDoor
namespace Go.Proofs.YtknffgdbdadpcaaGreatDoor
open Go Go.RowKit
set_option maxRecDepth 100000 in
set_option maxHeartbeats 4000000 in
theorem cClass_f {k1 n:Nat} {x:Value} {w:World} (hx:IsI k1 (-(n:Int)) x w) (l1:k1≤16777216) (hn:1≤n∧n≤4194304∧(n%4=0∨n%4=3)) (hb:n≤4096):Calls Tryz.prog 30 #[x] w (Ret w (IsT2 (IsV (.int .i64 (fmCnt (fmA (n:Int) (n+1) 1)))) (IsV (.int .i64 0)))):=by
 have HK:=hid l1;have HN:=hid hn;have HB:=hid hb;clear l1 hn hb;obtain ⟨s1,a1,n1,c1,rfl,h1⟩:=hx;have h1:IsI _ _ _ w:=⟨_,_,_,_,rfl,h1⟩;obtain ⟨W,hW,S⟩:∃ W,W=w.alloc (.cells #[.bool s1,.slice a1 n1 c1] 33)∧Sto w W [((w.heap.size,0),IsI k1 (-(n:Int)))]:=⟨_,rfl,((Sto.start w).new1 (w.heap.size) (by simp) s1 a1 n1 c1 33 (IsI k1 (-(n:Int))) (IsI.gstb _ _) (h1))⟩;clear h1;go_enter Tryz.func30,Tryz.ntmps30;go_upto_region 1 with (fail);rw [← hW];clear hW;refine rgs 7 [some 7,some 8,some 6,some 9,some 10,some 4,some 5] [IsI k1 (-(n:Int)),IsT2 (IsV (.int .i64 (n:Int))) (IsV (.int .i64 0)),IsT2 (IsV (.int .i64 (n:Int))) (IsV (.int .i64 0)),IsV (.int .i64 (n:Int)),IsV (.int .i64 0),IsV (.int .i64 (n:Int)),IsV (.int .i64 0)] [] ?_ ?_
 ·refine Rc (ldI S 0 (w.heap.size) 0 (Od.lit 1) ld_Int) ?_;refine Rc (cl1 (en Tryz.func74) (Od.lc (Φ:=IsI k1 (-(n:Int))) 0 7) (fun x0 w' hE d0=>csize_f d0 HK.out HN.out)) ?_;refine Rc (mv (Od.lc 1 8)) ?_;refine Rc (ex (Od.loc 2 6) t20) ?_;refine Rc (ex (Od.loc 2 6) t21) ?_;refine Rc (mv (Od.lc 3 9)) ?_;refine Rc (mv (Od.lc 4 10)) ?_;exact RgAll.nil
 intro v W1 e1 hΦ _;replace S:=S.mono e1;have v5:v 5= .int .i64 (n:Int):=hΦ 5 (by decide);have v6:v 6= .int .i64 0:=hΦ 6 (by decide);simp only [layL,Act.put,uAx,u0x,u1x,Nat.reduceAdd];rw [v5,v6];clear v5 v6 hΦ e1;refine wpList_nil ?_;go_upto_region 2 with (fail);refine rgs 2 [some 11,some 12] [IsV (.int .i64 0),IsV (.bool false)] [] ?_ ?_
 ·refine Rc (mv (Od.lit 5)) ?_;refine Rc (bn (r:= .bool false) (Od.loc 0 11) Od.con (hr:=fun w=>by go_simp)) ?_;exact RgAll.nil
 intro v W2 e1 hΦ _;replace S:=S.mono e1;have v1:v 1= .bool false:=hΦ 1 (by decide);simp only [layL,Act.put,uAx,u0x,u1x,Nat.reduceAdd];rw [v1];clear v1 hΦ e1;refine wpList_nil ?_;go_upto_region 4 with (fail);refine rgs 4 [some 14,some 15,some 2,some 3] [IsV (.int .i64 (n:Int)),IsV (.int .i64 (fmCnt (fmA (n:Int) (n+1) 1))),IsV (.int .i64 (fmCnt (fmA (n:Int) (n+1) 1))),IsV (.int .i64 0)] [] ?_ ?_
 ·refine Rc (mv (Od.lit 4)) ?_;refine Rc (cl1 (en Tryz.func76) (Od.lc (Φ:=IsV (.int .i64 (n:Int))) 0 14) (fun x0 w' hE d0=>by { obtain rfl:x0= .int .i64 (n:Int):=d0;exact class_f w' n HB.out})) ?_;refine Rc (mv (Od.lc 1 15)) ?_;refine Rc (mv Od.con) ?_;exact RgAll.nil
 intro v W3 e1 hΦ _;replace S:=S.mono e1;have v2:v 2= .int .i64 (fmCnt (fmA (n:Int) (n+1) 1)):=hΦ 2 (by decide);have v3:v 3= .int .i64 0:=hΦ 3 (by decide);simp only [layL,Act.put,uAx,u0x,u1x,Nat.reduceAdd];rw [v2,v3];clear v2 v3 hΦ e1;refine wpList_nil ?_;go_wp2_with fail;exact bodyPost_ret (v:= .tuple #[.int .i64 (fmCnt (fmA (n:Int) (n+1) 1)),.int .i64 0]) (by simp [results,Tryz.results30,go_sem]) rfl (⟨_,rfl,S.ext,_,_,rfl,rfl,rfl⟩)
end Go.Proofs.YtknffgdbdadpcaaGreatDoor
