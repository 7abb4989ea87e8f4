/-
  Package density: powers, Total.
  The size of a discriminant of a description, and the discriminant: Size of the reference of package form, disc of the laws of package density.
  Package prime: word.
-/
import Derived.Test.YtknffgdbdadpcaaGreatDoorRfr
import Derived.Test.YtknffgdbdadpcaaGreatDoorDen3
import Derived.Test.YtknffgdbdadpcaaGreatDoorDen7
import Derived.Test.YtknffgdbdadpcaaGreatDoorLow
namespace Go.Proofs.YtknffgdbdadpcaaGreatDoor
open Go Go.RowKit Go.Shelf
open Go.Proofs.Tryz
set_option maxRecDepth 100000
set_option maxHeartbeats 4000000
attribute [local go_sem] Oper.semAt_some
theorem powers_c (w:World) (m:Int):Calls prog 43 #[.int .i64 m] w fun e w'=>e= .returned (.func (.func 89) #[] #[.pointer (some ⟨w.heap.size,0,none⟩)])∧w'=w.alloc (.cells #[.int .i64 m] 2):=by
  refine (callsIn_wide (n:=3)).1 ?_;refine callsIn_of_wp func43 rfl trivial ?_ rfl;simp only [ntmps43,List.size_toArray,List.length_cons,List.length_nil,Nat.reduceAdd,Nat.reduceSub,Array.replicate_succ,Array.replicate_zero,List.push_toArray,List.append_toArray,List.nil_append,List.cons_append]
  gi_wp2
  go_ret
  exact ⟨rfl,rfl⟩
theorem pre_le (ch:Nat→Int) {n:Nat} (hn:0<n) {pre:List (Nat×Nat)} (h:pre <+:pw n 2 n):0≤pwP (locg ch) pre∧pwP (locg ch) pre≤n:=by
  have key:∀ (a b:List (Nat×Nat)),(∀ x∈a,1≤x.1)→0≤pwP (locg ch) a∧pwP (locg ch) a≤pwP (locg (fun _=>1)) a∧1≤pwP (locg (fun _=>1)) b∧pwP (locg (fun _=>1)) a≤pwP (locg (fun _=>1)) (a++b):=by
    have one:∀ b:List (Nat×Nat),1≤pwP (locg (fun _=>1)) b:=by
      intro b
      induction b with
      | nil=>simp [pwP]
      | cons x b ih=>
        rw [pwP_cons];have:locg (fun _=>1) x.1 x.2=(x.2:Int)+1:=by simp [locg]
        rw [this];have:=Int.mul_le_mul (show (1:Int)≤(x.2:Int)+1 by omega) ih dcx (by omega)
        simpa using this
    intro a b hx
    induction a with
    | nil=>exact ⟨by simp [pwP],by simp [pwP],one b,by rw [List.nil_append];have:=one b;simpa [pwP] using this⟩
    | cons x a ih=>
      obtain ⟨h1,h2,h3,h4⟩:=ih fun y hy=>hx y (List.mem_cons_of_mem _ hy)
      rw [pwP_cons,List.cons_append,pwP_cons,pwP_cons];have e:locg (fun _=>1) x.1 x.2=(x.2:Int)+1:=by simp [locg]
      rw [e];have l0:=locg_nonneg ch x.1 x.2;have l1:=locg_le ch x.1 x.2;exact ⟨Int.mul_nonneg l0 h1,Int.mul_le_mul l1 h2 h1 (by omega),h3,Int.mul_le_mul_of_nonneg_left h4 (by omega)⟩
  obtain ⟨suf,hs⟩:=h
  have hm:∀ x∈pre,1≤x.1:=fun x hx=>by
    have:=(pw_mem n 2 n dcx hn (noBelow2 n) x (by rw [← hs];exact List.mem_append_left _ hx)).2.2.2;omega
  obtain ⟨h1,h2,_,h4⟩:=key pre suf hm;rw [hs] at h4;exact ⟨h1,Int.le_trans h2 (Int.le_trans h4 (Qp_le (fun _=>1) hn))⟩
theorem pre_last (ch:Nat→Int) (pre:List (Nat×Nat)) (x:Nat×Nat):pwP (locg ch) (pre++ [x])=pwP (locg ch) pre*locg ch x.1 x.2:=by
  unfold pwP;rw [List.foldl_append];rfl
theorem pre_mem {n:Nat} (hn:0<n) {pre:List (Nat×Nat)} {x:Nat×Nat} (h:pre++ [x] <+:pw n 2 n):Pr x.1∧x.2=vl x.1 n∧0<x.2∧x.1≤n∧x.2≤n:=by
  obtain ⟨suf,hs⟩:=h;obtain ⟨h1,h2,h3,h4⟩:=pw_mem n 2 n dcx hn (noBelow2 n) x (by rw [← hs];simp);obtain ⟨m,e,hm,m0⟩:=vl_spec h1.1 hn;rw [← h2] at e;have g1:x.2<2^x.2:=Nat.lt_two_pow_self;have g2:2^x.2≤x.1^x.2:=Nat.pow_le_pow_left h1.1 x.2;have g3:x.1^1≤x.1^x.2:=Nat.pow_le_pow_right (by have:=h1.1;omega) h3;have g4:=Nat.mul_le_mul_left (x.1^x.2) m0;rw [Nat.pow_one] at g3;rw [← e] at g4;exact ⟨h1,h2,h3,by omega,by omega⟩
theorem Total_u {k1 k2 n L m:Nat} {z:Int} {x y:Value} {w:World} (HZ:Hid (z= -(n:Int))) (hx:IsI k1 z x w) (hy:IsI k2 (m:Int) y w) (hk:k1≤16777216∧k2≤16777216) (hs:Sg w) (hn:1≤n∧n≤4194304∧(n%4=0∨n%4=3)) (hL:L*L≤n∧n<(L+1)*(L+1))
    (hu:unsE (cdB n L) (m:Int)=0) (hm:0<m∧m≤1048576):
    Calls prog 12 #[x,y] w (Ret w (IsT2 (iV (unitZ z*totP (locg (kr z)) m)) (iV 0))):=by
  have HN:=hid hn;have HL:=hid hL;have HU:=hid hu;have HK:=hid hk;have HM:=hid hm;have HS:=hid hs;have HZB:=hid (show -9223372036854775808≤z∧z≤9223372036854775807 by have:=HZ.out;omega);clear hn hL hu hk hs hm;obtain ⟨s1,a1,n1,c1,rfl,h1⟩:=hx;obtain ⟨s2,a2,n2,c2,rfl,h2⟩:=hy;have h1:IsI k1 z (.agg #[.bool s1,.slice a1 n1 c1]) w:=⟨_,_,_,_,rfl,h1⟩;have h2:IsI k2 (m:Int) (.agg #[.bool s2,.slice a2 n2 c2]) w:=⟨_,_,_,_,rfl,h2⟩
  obtain ⟨W,hW,S⟩:∃ W,W=(w.alloc (.cells #[.bool s1,.slice a1 n1 c1] 33)).alloc (.cells #[.bool s2,.slice a2 n2 c2] 33)∧Sto w W [((w.heap.size+1,0),IsI k2 (m:Int)),((w.heap.size,0),IsI k1 z)]:=
    ⟨_,rfl,((Sto.start w).new1 (w.heap.size) (by simp) s1 a1 n1 c1 33 _ (IsI.gstb _ _) h1).new1 (w.heap.size+1) (by simp) s2 a2 n2 c2 33 _ (IsI.gstb _ _) (h2.ext ((Ext.refl _).alloc _))⟩
  clear h1 h2;refine calls_of_wp_marks func12 rfl ?_;simp only [ntmps12,List.size_toArray,List.length_cons,List.length_nil,Nat.reduceAdd,Nat.reduceSub,Array.replicate_succ,Array.replicate_zero,List.push_toArray,List.append_toArray,List.nil_append,List.cons_append];go_upto_region 1 with (fail);rw [← hW];clear hW;obtain ⟨s1,a1,n1,c1,B1,h1⟩:=S.at 1 _ _ _ rfl;obtain ⟨s2,a2,n2,c2,B2,h2⟩:=S.at 0 _ _ _ rfl;have L1a:World.cell? W ⟨w.heap.size,0,none⟩=some (.bool s1):=B1.c0;have L1b:World.cell? W ⟨w.heap.size,1,none⟩=some (.slice a1 n1 c1):=B1.c1;have L2a:World.cell? W ⟨w.heap.size+1,0,none⟩=some (.bool s2):=B2.c0;have L2b:World.cell? W ⟨w.heap.size+1,1,none⟩=some (.slice a2 n2 c2):=B2.c1;have hEW:=S.ext;have hsz:w.heap.size+1<W.heap.size:=B2.lt;clear B1 B2;have hcon:=unsuitable_f (x:= .agg #[.bool s1,.slice a1 n1 c1]) (by rw [← HZ.out];exact h1) h2 HK.out.1 HK.out.2 HN.out HL.out;rw [HU.out] at hcon;go_upto_region 5 with (go_at_call 39;refine Calls.mono hcon ?_;rintro e w1 ⟨_,rfl,E1,rfl⟩);obtain ⟨w2,hw2⟩:∃ w2,w1.alloc (.cells #[.int .i64 2] 3)=w2:=⟨_,rfl⟩
  have V2:VarAt w1.heap.size W.heap.size W (.int .i64 2) w2:=by
    rw [← hw2];exact ⟨by simp,E1.alloc _⟩
  rw [hw2];have hg:=E1.size;generalize w1.heap.size=g at*;clear hw2 E1;have L1ax:=Ext.cell V2.2 L1a;have L1bx:=Ext.cell V2.2 L1b;have L2ax:=Ext.cell V2.2 L2a;have L2bx:=Ext.cell V2.2 L2b;have h1x:=IsI.stb _ _ _ _ _ V2.2 h1;have h2x:=IsI.stb _ _ _ _ _ V2.2 h2;go_upto_region 6 with (go_at_call 42;refine Calls.mono (Low_t h1x HZB.out.1 HZB.out.2) ?_;rintro e w3 ⟨_,rfl,E3,_,_,rfl,rfl,rfl⟩);clear L1ax L1bx L2ax L2bx h1x h2x;have V3:=V2.ext E3 V2.2.size;have Lg:=V3.1.1;have Fg:=V3.1.2;clear V2 E3;have HMB:=hid (show -9223372036854775808≤(m:Int)∧(m:Int)≤9223372036854775807 by have:=HM.out;omega);go_upto_region 11 with (fail)
  all_goals
    first
    | (have hu:unitZ z=6:=by unfold unitZ;simp_all
       obtain ⟨w4,hw4⟩:∃ w4,w3.setCell ⟨g,0,none⟩ (.int .i64 6)=w4:=⟨_,rfl⟩;have V4:=V3.set hg (.int .i64 6);rw [← hu] at hw4 V4;rw [← hu,hw4];rw [hw4] at V4
       clear hw4 hu Lg Fg V3)
    | (have hu:unitZ z=4:=by unfold unitZ;simp_all
       obtain ⟨w4,hw4⟩:∃ w4,w3.setCell ⟨g,0,none⟩ (.int .i64 4)=w4:=⟨_,rfl⟩;have V4:=V3.set hg (.int .i64 4);rw [← hu] at hw4 V4;rw [← hu,hw4];rw [hw4] at V4
       clear hw4 hu Lg Fg V3)
    | (have hu:unitZ z=2:=by unfold unitZ;simp_all
       have V4:=V3;rw [← hu] at V4
       clear hu Lg Fg V3)
  all_goals
    have L1ay:=Ext.cell V4.2 L1a;have L1by:=Ext.cell V4.2 L1b;have L2ay:=Ext.cell V4.2 L2a;have L2by:=Ext.cell V4.2 L2b;have h1y:=IsI.stb _ _ _ _ _ V4.2 h1;have h2y:=IsI.stb _ _ _ _ _ V4.2 h2;go_wp2_with (first | (go_at_call 42;refine Calls.mono (Low_t h2y HMB.out.1 HMB.out.2) ?_;rintro e w5 ⟨_,rfl,E5,_,_,rfl,rfl,rfl⟩) | (go_at_call 43;refine Calls.mono (powers_c _ _) ?_;rintro e w6 ⟨rfl,rfl⟩))
    have V5:=(V4.ext E5 V4.2.size).ext ((Ext.refl w5).alloc (.cells #[.int .i64 (m:Int)] 2)) (Nat.le_trans V4.2.size E5.size);have hn5:W.heap.size≤w5.heap.size:=Nat.le_trans V4.2.size E5.size;have hg5:g<w5.heap.size:=Nat.lt_of_lt_of_le (World.block_lt_of_cell? _ _ V4.1.1) E5.size;have E0:Ext W (w5.alloc (.cells #[.int .i64 (m:Int)] 2)):=V5.2;replace V5:VarAt g W.heap.size (w5.alloc (.cells #[.int .i64 (m:Int)] 2)) _ _:=⟨V5.1,Below.refl _ _⟩;clear V4 E5 L1ay L1by L2ay L2by h1y h2y;have hX:=powers1_in Fence.wide 8 trivial rfl dcx (w5.alloc (.cells #[.int .i64 (m:Int)] 2)) w5.heap.size m HM.out.1 (by have:=HM.out.2;omega) (by simp) (by simp)
    refine wpIn_wide.1 (wpIn_rangeFunc_box (n:=9) rfl dcx (gf:=89) (lb:= #[.pointer (some ⟨w5.heap.size,0,none⟩)]) rfl trivial (en func89) (c:=w5.heap.size) (by simp)
      hX (fun _=>rfl)
      (fun pre W'=>VarAt g W.heap.size (w5.alloc (.cells #[.int .i64 (m:Int)] 2)) (.int .i64 (unitZ z*pwP (locg (kr z)) pre)) W') (fun _ _ _=>False)
      (varAt_own _ (by simp;omega) (by simp;omega)) (fun _ _ _ _ _ h _ _=>h) (varAt_lone _ (by simp;omega) hn5 (by omega)) (fun _ _ _ _ h _=>h) (by simpa [pwP] using V5) ?_ ?_ ?_ ?_ ?_)
    rotate_left
    · intro l x W' K hK
      gi_wp2
      exact hK
    · intro l pre x W' V6 hp
      obtain ⟨hx1,hx2,hx3,hx4,hx5⟩:=pre_mem HM.out.1 hp;have E6:Ext W W':=Below.trans E0 V6.2;have S6:=S.mono E6;have hcw:w5.heap.size<W'.heap.size:=by have:=V6.2.size;simp at this;omega
      have HX:=hid (show (0<x.1∧x.1≤1048576)∧x.2≤1048576 by have:=hx1.1;have:=HM.out;omega);clear hx1 hx2 hx3 hx4 hx5;have hpl:=pre_last (kr z) pre x;have hle:=pre_le (kr z) HM.out.1 hp;have hu6:0≤unitZ z∧unitZ z≤6:=by unfold unitZ;split <;> (try split) <;> decide
      have hbig:0≤unitZ z*pwP (locg (kr z)) (pre++ [x])∧unitZ z*pwP (locg (kr z)) (pre++ [x])≤6*1048576:=by
        refine ⟨Int.mul_nonneg hu6.1 hle.1,Int.mul_le_mul hu6.2 (Int.le_trans hle.2 ?_) hle.1 dcx⟩;have:=HM.out.2;omega
      rw [hpl,← Int.mul_assoc] at hbig;obtain ⟨t,ht⟩:∃ t,unitZ z*pwP (locg (kr z)) pre=t:=⟨_,rfl⟩;obtain ⟨d,hd⟩:∃ d,locg (kr z) x.1 x.2=d:=⟨_,rfl⟩;rw [ht] at V6;rw [ht,hd] at hbig;have HD:=hid hd;have HT:=hid (show unitZ z*pwP (locg (kr z)) (pre++ [x])=t*d by rw [hpl,← Int.mul_assoc,ht,hd]);have hw8:IntKind.i64.wrap (t*d)=t*d:=by simp only [IntKind.wrap_i64];omega
      have HW8:=hid hw8;clear hw8 hpl hle hu6 hbig ht hd;refine wpIn_block ?_;refine rgI 6 [some 39,some 40,some 41,some 42,some 43,some 44] [iV t,IsI k1 z,iV ((x.1:Nat):Int),iV ((x.2:Nat):Int),iV d,iV (t*d)] [] 1 (not_out_block not_out_box 2) ?_ ?_
      · refine Rc (ldG (fun w e=>Ext.cell e V6.1.1) (Od.lit 7)) ?_
        refine Rc (ldI S6 1 (w.heap.size) 0 (Od.lit 2) ld_Int) ?_;refine Rc (mv (Od.lit 12)) ?_;refine Rc (mv (Od.lit 13)) ?_;refine Rc (cl3 (en func44) (Od.lc (Φ:=IsI k1 z) 1 40) (Od.lc (Φ:=iV ((x.1:Nat):Int)) 2 41) (Od.lc (Φ:=iV ((x.2:Nat):Int)) 3 42) (fun x0 x1 x2 w' hE d0 d1 d2=>by { obtain rfl:x1= .int .i64 ((x.1:Nat):Int):=d1;obtain rfl:x2= .int .i64 ((x.2:Nat):Int):=d2;have hh:=dlocal_f (p:=x.1) (k:=x.2) d0 (by have:=HK.out.1;omega) (HS.out.ext ((hEW.trans E6).trans hE)) HX.out.1 HX.out.2;rw [HD.out] at hh;exact hh})) ?_;refine Rc (bn (r:= .int .i64 (t*d)) (Od.loc 0 39) (Od.loc 4 43) (hr:=fun w=>by have hx9:=HW8.out;go_simp)) ?_;exact rn0
      intro v W7 e1 hΦ _;have v5:v 5= .int .i64 (t*d):=hΦ 5 dcx;have V7:=V6.ext e1 E6.size;have Lg:=V7.1.1;have Fg:=V7.1.2;simp only [lxE,Nat.reduceAdd];rw [v5];clear v5 hΦ;refine wpAny_ready (rs:= [6]) (by kernel_rfl) (by simp) (AllReady.cons rfl (fun K hK=> ?_) AllReady.nil);go_simp;refine hK _ _ ?_;clear hK K;refine wpAny_done (by kernel_rfl) ?_ _;refine inBlock_norm (boxPost_norm (((ext_keeps e1).trans (KeepsOthers.setCell _ _ _)).from _) ?_ ?_)
      · exact (setCell_heap W7 g w5.heap.size _ (by omega)).trans (e1.block _ hcw)
      · rw [HT.out]
        exact V7.set hg _
    · rintro D xs W' hD rfl V6 hK
      have E6:Ext W W':=Below.trans E0 V6.2;have Lg:=V6.1.1;have Fg:=V6.1.2;go_wp2_with fail;have hfin:Ext w (W'.putObj D (.deferred none)):=Below.trans (hEW.trans E6) (belowK_b (w:=w) (Nat.le_refl _) W' D _ _ (by simp at hD;omega) hK rfl rfl);exact marks_ret1 hK (v:= .tuple #[.int .i64 (unitZ z*pwP (locg (kr z)) (pw m 2 m)),.int .i64 0]) (by simp [results,results12,go_sem]) ⟨_,rfl,hfin,_,_,rfl,rfl,rfl⟩
    · intro D q pre W' _ _ h _
      exact h.elim
theorem Total_e {k1 k2 n L:Nat} {z z2:Int} {x y:Value} {w:World} (HZ:Hid (z= -(n:Int))) (hx:IsI k1 z x w) (hy:IsI k2 z2 y w) (hk:k1≤16777216∧k2≤16777216) (hn:1≤n∧n≤4194304∧(n%4=0∨n%4=3)) (hL:L*L≤n∧n<(L+1)*(L+1))
    (u:Int) (hu:unsE (cdB n L) z2=u) (hu0:u≠0):
    Calls prog 12 #[x,y] w (Ret w (IsT2 (iV 0) (iV u))):=by
  have HN:=hid hn;have HL:=hid hL;have HU:=hid hu;have HK:=hid hk;clear hn hL hu hk;obtain ⟨s1,a1,n1,c1,rfl,h1⟩:=hx;obtain ⟨s2,a2,n2,c2,rfl,h2⟩:=hy;have h1:IsI k1 z (.agg #[.bool s1,.slice a1 n1 c1]) w:=⟨_,_,_,_,rfl,h1⟩;have h2:IsI k2 z2 (.agg #[.bool s2,.slice a2 n2 c2]) w:=⟨_,_,_,_,rfl,h2⟩
  obtain ⟨W,hW,S⟩:∃ W,W=(w.alloc (.cells #[.bool s1,.slice a1 n1 c1] 33)).alloc (.cells #[.bool s2,.slice a2 n2 c2] 33)∧Sto w W [((w.heap.size+1,0),IsI k2 z2),((w.heap.size,0),IsI k1 z)]:=
    ⟨_,rfl,((Sto.start w).new1 (w.heap.size) (by simp) s1 a1 n1 c1 33 _ (IsI.gstb _ _) h1).new1 (w.heap.size+1) (by simp) s2 a2 n2 c2 33 _ (IsI.gstb _ _) (h2.ext ((Ext.refl _).alloc _))⟩
  clear h1 h2;go_enter func12,ntmps12;go_upto_region 1 with (fail);rw [← hW];clear hW;obtain ⟨s1,a1,n1,c1,B1,h1⟩:=S.at 1 _ _ _ rfl;obtain ⟨s2,a2,n2,c2,B2,h2⟩:=S.at 0 _ _ _ rfl;have L1a:World.cell? W ⟨w.heap.size,0,none⟩=some (.bool s1):=B1.c0;have L1b:World.cell? W ⟨w.heap.size,1,none⟩=some (.slice a1 n1 c1):=B1.c1;have L2a:World.cell? W ⟨w.heap.size+1,0,none⟩=some (.bool s2):=B2.c0;have L2b:World.cell? W ⟨w.heap.size+1,1,none⟩=some (.slice a2 n2 c2):=B2.c1;have hEW:=S.ext;clear S B1 B2;have hcon:=unsuitable_f (x:= .agg #[.bool s1,.slice a1 n1 c1]) (by rw [← HZ.out];exact h1) h2 HK.out.1 HK.out.2 HN.out HL.out;rw [HU.out] at hcon;have hu1:(u !=0)=true:=by simpa using hu0
  go_wp2_with (go_at_call 39;refine Calls.mono hcon ?_;rintro e w1 ⟨_,rfl,E1,rfl⟩)
  exact bodyPost_ret (v:= .tuple #[.int .i64 0,.int .i64 u]) (by simp [results,results12,go_sem]) rfl ⟨_,rfl,hEW.trans E1,_,_,rfl,rfl,rfl⟩
def totE (n L:Nat) (z:Int):Int:=if unsE (cdB n L) z=0 then unitZ (-(n:Int))*totP (locg (kr (-(n:Int)))) z.toNat else 0
theorem unsE_ok {f:Nat} {z:Int} (h:unsE f z=0):0<z∧z≤1048576:=by
  unfold unsE at h;by_cases h1:z≤0
  · rw [if_pos h1] at h;cases h
  rw [if_neg h1] at h;by_cases h2:1048576<z
  · rw [if_pos h2] at h;cases h
  omega
theorem Total_f {k1 k2 n L:Nat} {z2:Int} {x y:Value} {w:World} (hx:IsI k1 (-(n:Int)) x w) (hy:IsI k2 z2 y w) (hk:k1≤16777216∧k2≤16777216) (hs:Sg w) (hn:1≤n∧n≤4194304∧(n%4=0∨n%4=3)) (hL:L*L≤n∧n<(L+1)*(L+1)):
    Calls prog 12 #[x,y] w (Ret w (IsT2 (iV (totE n L z2)) (iV (unsE (cdB n L) z2)))):=by
  unfold totE;by_cases h:unsE (cdB n L) z2=0
  · obtain ⟨h1,h2⟩:=unsE_ok h
    obtain ⟨m,rfl⟩:=Int.eq_ofNat_of_zero_le (Int.le_of_lt h1);rw [if_pos h,h];exact Total_u (hid rfl) hx hy hk hs hn hL h (by omega)
  · rw [if_neg h]
    exact Total_e (hid rfl) hx hy hk hn hL _ rfl h
open Go Go.RowKit
def dsz (d:Nat):Nat:=if (3+d%2000)%4=1 then 3+d%2000+2 else if (3+d%2000)%4=2 then 3+d%2000+1 else 3+d%2000
theorem dsz_ok (d:Nat):3≤dsz d∧dsz d≤2003∧(dsz d%4=0∨dsz d%4=3):=by
  unfold dsz
  split
  · omega
  · split <;> omega
theorem cell_newAt (w:World) (g:Nat) (hg:w.heap.size=g) (cs:Array Value) (T i:Nat) (v:Value) (h:cs[i]? =some v):World.cell? (w.alloc (.cells cs T)) ⟨g,i,none⟩=some v:=by subst hg;simp [h]
theorem Size_f (w:World) (d:Nat) (v1 v2 v3 v4 v5 v6 v7 v8:Value) (hd:d<65536):Calls prog 37 #[.agg #[.int .u16 (d:Int),v1,v2,v3,v4,v5,v6,v7,v8]] w (Ret w (iV ((dsz d:Nat):Int))):=by
  obtain ⟨W,hW,hc,E⟩:∃ W,W=w.alloc (.cells #[.int .u16 (d:Int),v1,v2,v3,v4,v5,v6,v7,v8] 26)∧World.cell? W ⟨w.heap.size,0,none⟩=some (.int .u16 (d:Int))∧Ext w W:=⟨_,rfl,cell_newAt _ _ rfl _ _ _ _ rfl,(Ext.refl _).alloc _⟩;obtain ⟨a,ha⟩:∃ a,d%2000=a:=⟨_,rfl⟩;obtain ⟨b0,hb0⟩:∃ b,3+a=b:=⟨_,rfl⟩;obtain ⟨T,hT⟩:∃ t,dsz d=t:=⟨_,rfl⟩;have hTT:T=if b0%4=1 then b0+2 else if b0%4=2 then b0+1 else b0:=by rw [← hT];unfold dsz;rw [ha,hb0]
  have hbT:b0≤T∧T≤b0+2∧(T%4=0∨T%4=3)∧ ∀ x,b0≤x→x<T→(x%4=1∨x%4=2):=by
    rw [hTT];by_cases h1:b0%4=1
    · rw [if_pos h1];exact ⟨by omega,by omega,by omega,fun x _ _=>by omega⟩
    · rw [if_neg h1]
      by_cases h2:b0%4=2
      · rw [if_pos h2];exact ⟨by omega,by omega,by omega,fun x _ _=>by omega⟩
      · rw [if_neg h2];exact ⟨by omega,by omega,by omega,fun x _ _=>by omega⟩
  rw [hT];have HB:=hid (And.intro hbT (show b0≤2002 by omega));have hx1:(d:Int).tmod 2000=(a:Int):=by rw [Int.tmod_eq_emod_of_nonneg (by omega)];omega
  have hx2:(d:Int)%2000=(a:Int):=by omega
  have hx3:IntKind.u16.wrap (a:Int)=(a:Int):=by rw [IntKind.wrap_u16];omega
  have hx4:IntKind.i64.wrap (a:Int)=(a:Int):=by simp only [IntKind.wrap_i64];omega
  have hx5:IntKind.i64.wrap (3+(a:Int))=(b0:Int):=by simp only [IntKind.wrap_i64];omega
  have EH:=hid E;clear ha hb0 hT hTT hbT hd E;go_enter func37,ntmps37;go_upto_region 1 with (fail);rw [← hW];clear hW;go_wp2_with fail;clear hx1 hx2 hx3 hx4 hx5 hc
  go_loopg [3] (T-b0) (fun gk v3 wr=> ∃ b:Nat,v3= .int .i64 (b:Int)∧b+gk=T∧b0≤b∧Hid (Ext w wr))
  case atStart=>exact ⟨b0,rfl,by have:=HB.out.1.1;omega,Nat.le_refl _,EH⟩
  case round=>
    obtain ⟨b,rfl,hg,hb,E2⟩:=hrel;obtain ⟨⟨h1,h2,h3,h4⟩,h5⟩:=HB.out;have hbb:b≤2004:=by omega
    obtain ⟨r,hr⟩:∃ r,b%4=r:=⟨_,rfl⟩;have hx1:(b:Int).tmod 4=(r:Int):=by rw [Int.tmod_eq_emod_of_nonneg (by omega)];omega
    have hx2:(b:Int)%4=(r:Int):=by omega
    rcases Nat.eq_zero_or_pos gk with hg0 | hg0
    · obtain rfl:b=T:=by omega
      have hr4:r=0∨r=3:=by omega
      clear h1 h2 h3 h4 h5 hr hg hb hg0 hbb;rcases hr4 with rfl | rfl
      · go_wp2_with fail
        exact bodyPost_ret (v:= .int .i64 (b:Int)) (by simp [results,results37,go_sem]) rfl ⟨_,rfl,E2.out,rfl⟩
      · go_wp2_with fail
        exact bodyPost_ret (v:= .int .i64 (b:Int)) (by simp [results,results37,go_sem]) rfl ⟨_,rfl,E2.out,rfl⟩
    · have hr4:=h4 b hb (by omega)
      have hx3:IntKind.i64.wrap ((b:Int)+1)=(b:Int)+1:=by simp only [IntKind.wrap_i64];omega
      have HG:=hid (And.intro hg (And.intro hb hg0));rw [hr] at hr4;clear h1 h2 h3 h4 h5 hr hg hb hg0 hbb;rcases hr4 with rfl | rfl
      · go_wp2_with fail
        go_roundg (gk-1)
        case measure=>have:=HG.out;omega
        case rel=>exact ⟨b+1,by rw [Int.natCast_add];rfl,by have:=HG.out;omega,by have:=HG.out;omega,E2⟩
      · go_wp2_with fail
        go_roundg (gk-1)
        case measure=>have:=HG.out;omega
        case rel=>exact ⟨b+1,by rw [Int.natCast_add];rfl,by have:=HG.out;omega,by have:=HG.out;omega,E2⟩
attribute [local go_sem] Oper.semAt_some
theorem word_t (w:World) (s:Bool) (b off:Nat) (n c:Nat) (xs:List Nat) (h:Wd w (some ⟨b,off,none⟩) n c xs) (hn:n≤2) (h0:0<n) (V:Int) (HV:Hid (((bval (upto (bwd (fun j=>xs.getD j 0) n) n):Nat):Int)=V)):
    Calls prog 85 #[.agg #[.bool s,.slice (some ⟨b,off,none⟩) n c]] w (Ret w (IsT2 (IsV (.int .u64 V)) (IsV (.bool (!s))))):=by
  have hI:=h.wbel;have hn2:decide ((n:Int)≤2)=true:=by simp;omega
  have hcb:n≤c∧c≤9223372036854775807:=⟨h.capo,h.big⟩;clear h
  obtain ⟨W,hW,E,C1,C2⟩:∃ W,W=w.alloc (.cells #[.bool s,.slice (some ⟨b,off,none⟩) n c] 33)∧Ext w W∧World.cell? W ⟨w.heap.size,0,none⟩=some (.bool s)∧World.cell? W ⟨w.heap.size,1,none⟩=some (.slice (some ⟨b,off,none⟩) n c):=
    ⟨_,rfl,(Ext.refl _).alloc _,by simp,by simp⟩
  refine calls_of_wp_marks func85 rfl ?_;simp only [ntmps85,List.size_toArray,List.length_cons,List.length_nil,Nat.reduceAdd,Nat.reduceSub,Array.replicate_succ,Array.replicate_zero,List.push_toArray,List.append_toArray,List.nil_append,List.cons_append];go_upto_region 1 with (fail);rw [← hW];have hWs:w.heap.size<W.heap.size:=World.block_lt_of_cell? W _ C1;clear hW;go_wp2_with (go_at_call 88;refine Calls.mono (callsIn_wide.1 (back_in Fence.wide 3 trivial rfl _ _ _ _)) ?_;rintro e w' ⟨rfl,rfl⟩)
  have hmin:min (n:Int) 2=(n:Int):=by omega
  rw [hmin,Int.toNat_natCast];clear hmin;obtain ⟨W2,hW2⟩:∃ W2,(W.alloc (.cells #[.int .u64 0] 99)).alloc (.cells #[.slice (some ⟨b,off,none⟩) n c] 27)=W2:=⟨_,rfl⟩
  have V2:VarAt W.heap.size W.heap.size W (.int .u64 0) W2:=by
    have bV:=Boxed.new W 99 (.int .u64 0);rw [← hW2];exact ⟨⟨(bV.alloc _).cell,(bV.alloc _).frozen⟩,((Ext.refl _).alloc _).alloc _⟩
  have cN:World.cell? W2 ⟨W.heap.size+1,0,none⟩=some (.slice (some ⟨b,off,none⟩) n c):=by
    have bN:=Boxed.new (W.alloc (.cells #[.int .u64 0] 99)) 27 (.slice (some ⟨b,off,none⟩) n c);rw [World.size_alloc] at bN;rw [← hW2];exact bN.cell
  have hsz:W2.heap.size=W.heap.size+2:=by rw [← hW2];simp
  rw [hW2];clear hW2
  refine wpIn_wide.1 (wpIn_rangeFunc_ownG (n:=9) rfl dcx (gf:=136) (lb:= #[.pointer (some ⟨W.heap.size+1,0,none⟩)]) rfl trivial (en func136)
    (back_stops Fence.wide 8 trivial rfl dcx (W.heap.size+1) w.heap.size (some ⟨b,off,none⟩) n c (fun j=>xs.getD j 0) (by omega) W2 (by omega) (by omega) cN (hI.below (E.trans V2.2)))
    (fun h k=>h.trans k) (Kpb.put (by omega)) (Below.refl _ _) (fun _=>rfl)
    (fun pre W'=>VarAt W.heap.size W.heap.size W (.int .u64 (bval pre:Nat)) W') (fun _ _ _=>False)
    (varAt_own _ (Nat.le_refl _) (by omega)) (fun _ _ _ _ _ h _ _=>h) V2 ?_ ?_ ?_ ?_ ?_)
  rotate_left
  · intro l x W' K hK
    gi_wp2
    exact hK
  · rintro l pre x W' V6 hlen
    have hbv:=bval_lt pre;have hb1:bval pre<4294967296:=Nat.lt_of_lt_of_le hbv (Nat.le_trans (Nat.pow_le_pow_right dcx (show pre.length≤1 by omega)) dcx);have hx:x.2%4294967296<4294967296:=Nat.mod_lt _ dcx;have hbs:=bval_snoc pre x;have hbits:=low_bits _ _ hb1 hx;rw [← hbs] at hbits;clear hbs hbv;obtain ⟨nx,hnx⟩:∃ nx,bval (pre++ [x])=nx:=⟨_,rfl⟩;rw [hnx] at hbits;have Hnx:=hid hnx;clear hnx;generalize bval pre=v at*;rw [Int.natCast_emod] at hbits;simp only [Int.cast_ofNat_Int] at hbits;clear hx;have Lg:=V6.1.1;have Fg:=V6.1.2
    gi_wp2
    have hne2:(⟨W.heap.size,0,none⟩:Addr)≠⟨W.heap.size+1,0,none⟩:=by simp
    refine ⟨(KeepsOthers.setCell _ _ _).from _,⟨(Below.refl w.heap.size W').setCell (p:=⟨W.heap.size,0,none⟩) (Nat.le_of_lt hWs) _,fun u hu=>(World.cell?_setCell_other (w:=W') _ _ _ hne2).trans hu⟩,?_⟩;show VarAt W.heap.size W.heap.size W (.int .u64 (bval (pre++ [x]):Nat)) _;rw [Hnx.out];exact V6.set (Nat.le_refl _) _
  · rintro D ys W' hD rfl V6 hK
    have HV:=HV.out;generalize bval (upto (bwd (fun j=>xs.getD j 0) n) n)=v at*;have C1':=Ext.cell V6.2 C1;have C2':=Ext.cell V6.2 C2;have Lg:=V6.1.1;have Fg:=V6.1.2;have hfin:Ext w (W'.drew.putObj D (.deferred none)):=Below.trans (E.trans V6.2).drew (belowK_b (w:=w) (Nat.le_refl _) W'.drew D _ _ (by omega) hK rfl rfl);rw [HV] at Lg;clear V6 V2;go_wp2_with fail;cases s
    · go_region
      go_wp2_with fail;exact marks_ret1 hK (v:= .tuple #[.int .u64 V,.bool true]) (by simp [results,results85,go_sem]) ⟨_,rfl,hfin,_,_,rfl,rfl,rfl⟩
    · go_region
      go_wp2_with fail;exact marks_ret1 hK (v:= .tuple #[.int .u64 V,.bool false]) (by simp [results,results85,go_sem]) ⟨_,rfl,hfin,_,_,rfl,rfl,rfl⟩
  · intro D q pre W' _ _ h _
    exact h.elim
theorem word_f {z:Int} {x:Value} {w:World} (hx:IsI 2 z x w) (h0:z≠0):Calls prog 85 #[x] w (Ret w (IsT2 (IsV (.int .u64 ((z.natAbs:Nat):Int))) (IsV (.bool (decide (0<z)))))):=by
  obtain ⟨s,a,n,c,rfl,m,⟨xs,hw,hk,hz,hv⟩,hs,he⟩:=hx;have hlen:=hw.len
  have hn0:0<n:=by
    rcases Nat.eq_zero_or_pos n with h | h
    · have:xs= []:=List.length_eq_zero_iff.1 (by omega)
      subst this;simp [natVal] at hv;subst hv;exfalso;apply h0;rw [he];cases s <;> simp
    · exact h
  rcases hw.at_ with h | ⟨b,off,rfl,hb,hc⟩
  · omega
  have hm0:0<m:=by
    have h3:=natVal_ge xs (by omega) (by rw [hlen];exact hz (by omega));have h4:0<(4294967296:Nat)^(xs.length-1):=Nat.pow_pos dcx;omega
  have hb2:=bval_nat xs hw.lt n hlen (by omega);have key:=word_t w s b off n c xs hw (by omega) hn0 (m:Int) (hid (by rw [hb2,hv]));refine key.mono fun e W' h=> ?_
  obtain ⟨v,rfl,hE,x,y,rfl,rfl,rfl⟩:=h;refine ⟨_,rfl,hE,_,_,rfl,?_,?_⟩
  · cases s
    · simp only [Bool.false_eq_true,if_false] at he;subst he;rfl
    · simp only [if_true] at he;subst he
      show Value.int .u64 _=_
      congr 1
      omega
  · cases s
    · simp only [Bool.false_eq_true,if_false] at he;subst he
      show Value.bool _=_;rw [decide_eq_true (by omega)];rfl
    · simp only [if_true] at he;subst he
      show Value.bool _=_;rw [decide_eq_false (by omega)];rfl
def prBases:List Nat:= [2,3,5,7,11,13,17,19,23,29,31,37,41]
end Go.Proofs.YtknffgdbdadpcaaGreatDoor
