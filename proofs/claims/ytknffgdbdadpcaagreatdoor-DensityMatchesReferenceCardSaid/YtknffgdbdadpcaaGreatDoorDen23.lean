/-
  Package density: powers, Total.
  Forms: the reference's Low below zero, sum, Disc, Check, Definite, Reduced; count's form, quadratic's Primitive. (Printed by wip/gen/den23.py.)
-/
import Derived.Test.YtknffgdbdadpcaaGreatDoorPs1
import Derived.Test.YtknffgdbdadpcaaGreatDoorPrt
import Derived.Test.YtknffgdbdadpcaaGreatDoorDen3
import Derived.Test.YtknffgdbdadpcaaGreatDoorDen7
import Derived.Test.YtknffgdbdadpcaaGreatDoorDen6
import Derived.Test.YtknffgdbdadpcaaGreatDoorMod3
import Derived.Test.YtknffgdbdadpcaaGreatDoorRgm
namespace Go.Proofs.YtknffgdbdadpcaaGreatDoor
open Go Go.RowKit Go.Shelf
open Go.Proofs.Tryz
theorem zbm{P:Prop}(h:P:=by have:=HM.out;omega):P:=h
theorem zb9{P:Prop}(h:P:=by simp[results,results12,go_sem]):P:=h
set_option maxRecDepth 100000
set_option maxHeartbeats 4000000
attribute [local go_sem] Oper.semAt_some
theorem powers_c(w:World)(m:Int):Calls prog 43 #[.int .i64 m] w λe w'=>e=.returned (.func (.func 89) #[] #[.pointer (some ⟨w.heap.size,0,none⟩)])/\w'=w.alloc (.cells #[.int .i64 m] 2):=by
  refine(callsIn_wide (n:=3)).1 ?_;refine callsIn_of_wp func43 rfl trivial ?_ rfl;simp only[ntmps43,List.size_toArray,List.length_cons,List.length_nil,Nat.reduceAdd,Nat.reduceSub,Array.replicate_succ,Array.replicate_zero,List.push_toArray,List.append_toArray,List.nil_append,List.cons_append]
  gi_wp2
  go_ret
  exact⟨rfl,rfl⟩
theorem pre_le(ch:Nat->Int){n:Nat}(hn:0<n){pre:List (Nat×Nat)}(h:pre <+:pw n 2 n):0<=pwP (qV ch) pre/\pwP (qV ch) pre<=n:=by
  have key:∀(a b:List (Nat×Nat)),(∀x∈a,1<=x.1)->0<=pwP (qV ch) a/\pwP (qV ch) a<=pwP (qV (λ_=>1)) a/\1<=pwP (qV (λ_=>1)) b/\pwP (qV (λ_=>1)) a<=pwP (qV (λ_=>1)) (a++b):=by
    have one:∀b:List (Nat×Nat),1<=pwP (qV (λ_=>1)) b:=by
      intro b
      induction b with
      |nil=>simp[pwP]
      | cons x b ih=>
        rw[pwP_cons];have:qV (λ_=>1) x.1 x.2=(x.2:Int)+1:=by simp[qV]
        rw[this];have:=Int.mul_le_mul (show(1:Int)<=(x.2:Int)+1 by omega) ih dcx zb
        simpa using this
    intro a b hx
    induction a with
    |nil=>exact⟨by simp[pwP],by simp[pwP],one b,by rw[List.nil_append];have:=one b;simpa [pwP]using this⟩
    | cons x a ih=>
      obtain⟨h1,h2,h3,h4⟩:=ih λy hy=>hx y (List.mem_cons_of_mem _ hy)
      rw[pwP_cons,List.cons_append,pwP_cons,pwP_cons];have e:qV (λ_=>1) x.1 x.2=(x.2:Int)+1:=by simp[qV]
      rw[e];have l0:=locg_nonneg ch x.1 x.2;have l1:=locg_le ch x.1 x.2;exact⟨Int.mul_nonneg l0 h1,Int.mul_le_mul l1 h2 h1 zb,h3,Int.mul_le_mul_of_nonneg_left h4 zb⟩
  obtain⟨suf,hs⟩:=h
  have hm:∀x∈pre,1<=x.1:=λx hx=>by
    have:=(pw_mem n 2 n dcx hn (noBelow2 n) x (by rw[<-hs];exact List.mem_append_left _ hx)).2.2.2;omega
  obtain⟨h1,h2,_,h4⟩:=key pre suf hm;rw[hs]at h4;exact⟨h1,Int.le_trans h2 (Int.le_trans h4 (Qp_le (λ_=>1) hn))⟩
theorem pre_last(ch:Nat->Int)(pre:List (Nat×Nat))(x:Nat×Nat):pwP (qV ch) (pre++ [x])=pwP (qV ch) pre*qV ch x.1 x.2:=by
  unfold pwP;rw[List.foldl_append];rfl
theorem pre_mem{n:Nat}(hn:0<n){pre:List (Nat×Nat)}{x:Nat×Nat}(h:pre++ [x] <+:pw n 2 n):Pr x.1/\x.2=vl x.1 n/\0<x.2/\x.1<=n/\x.2<=n:=by
  obtain⟨suf,hs⟩:=h;obtain⟨h1,h2,h3,h4⟩:=pw_mem n 2 n dcx hn (noBelow2 n) x (by rw[<-hs];simp);obtain⟨m,e,hm,m0⟩:=xS h1.1 hn;rw[<-h2]at e;have g1:x.2<2^x.2:=Nat.lt_two_pow_self;have g2:2^x.2<=x.1^x.2:=Nat.pow_le_pow_left h1.1 x.2;have g3:x.1^1<=x.1^x.2:=Nat.pow_le_pow_right (by have:=h1.1;omega) h3;have g4:=Nat.mul_le_mul_left (x.1^x.2) m0;rw[Nat.pow_one]at g3;rw[<-e]at g4;exact⟨h1,h2,h3,by omega,by omega⟩
theorem Total_u{k1 k2 n L m:Nat}{z:Int}{x y:Value}{w:World}(HZ:Hid (z= -(n:Int)))(hx:IsI k1 z x w)(hy:IsI k2 (m:Int) y w)(hk:k1<=16777216/\k2<=16777216)(hs:Sg w)(hn:1<=n/\n<=4194304/\(n%4=0\/n%4=3))(hL:L*L<=n/\n<(L+1)*(L+1))
    (hu:unsE (cdB n L) (m:Int)=0) (hm:0<m/\m<=1048576):
    Calls prog 12 #[x,y] w (Ret w (IsT2 (iV (xM z*totP (qV (kr z)) m)) (iV 0))):=by
  have HN:=hid hn;have HL:=hid hL;have HU:=hid hu;have HK:=hid hk;have HM:=hid hm;have HS:=hid hs;have HZB:=hid (show -9223372036854775808<=z/\z<=9223372036854775807 by have:=HZ.out;omega);clear hn hL hu hk hs hm;obtain⟨s1,a1,n1,c1,rfl,h1⟩:=hx;obtain⟨s2,a2,n2,c2,rfl,h2⟩:=hy;have h1:IsI k1 z (.agg #[.bool s1,.slice a1 n1 c1]) w:=⟨_,_,_,_,rfl,h1⟩;have h2:IsI k2 (m:Int) (.agg #[.bool s2,.slice a2 n2 c2]) w:=⟨_,_,_,_,rfl,h2⟩
  obtain⟨W,hW,S⟩:∃W,W=(w.alloc (.cells #[.bool s1,.slice a1 n1 c1] 33)).alloc (.cells #[.bool s2,.slice a2 n2 c2] 33)/\Sto w W [((w.heap.size+1,0),IsI k2 (m:Int)),((w.heap.size,0),IsI k1 z)]:=
    ⟨_,rfl,((Sto.start w).new1 (w.heap.size) zh s1 a1 n1 c1 33 _ (IsI.gstb _ _) h1).new1 (w.heap.size+1) zh s2 a2 n2 c2 33 _ (IsI.gstb _ _) (h2.ext ((Ext.refl _).alloc _))⟩
  clear h1 h2;refine jI func12 rfl ?_;simp only[ntmps12,List.size_toArray,List.length_cons,List.length_nil,Nat.reduceAdd,Nat.reduceSub,Array.replicate_succ,Array.replicate_zero,List.push_toArray,List.append_toArray,List.nil_append,List.cons_append];go_upto_region 1 with fail;rw[<-hW];clear hW;obtain⟨s1,a1,n1,c1,B1,h1⟩:=S.at 1 _ _ _ rfl;obtain⟨s2,a2,n2,c2,B2,h2⟩:=S.at 0 _ _ _ rfl;have L1a:World.cell? W ⟨w.heap.size,0,none⟩=some (.bool s1):=B1.c0;have L1b:World.cell? W ⟨w.heap.size,1,none⟩=some (.slice a1 n1 c1):=B1.c1;have L2a:World.cell? W ⟨w.heap.size+1,0,none⟩=some (.bool s2):=B2.c0;have L2b:World.cell? W ⟨w.heap.size+1,1,none⟩=some (.slice a2 n2 c2):=B2.c1;have hEW:=S.ext;have hsz:w.heap.size+1<W.heap.size:=B2.lt;clear B1 B2;have hcon:=jC (x:=.agg #[.bool s1,.slice a1 n1 c1]) (by rw[<-HZ.out];exact h1) h2 HK.out.1 HK.out.2 HN.out HL.out;rw[HU.out]at hcon;go_upto_region 5 with(go_at_call 39;refine zC hcon ?_;rintro e w1 ⟨_,rfl,E1,rfl⟩);obtain⟨w2,hw2⟩:∃w2,w1.alloc (.cells #[.int .i64 2] 3)=w2:=⟨_,rfl⟩
  have V2:VarAt w1.heap.size W.heap.size W (.int .i64 2) w2:=by
    rw[<-hw2];exact⟨by simp,E1.alloc _⟩
  rw[hw2];have hg:=E1.size;generalize w1.heap.size=g at*;clear hw2 E1;have L1ax:=Ext.cell V2.2 L1a;have L1bx:=Ext.cell V2.2 L1b;have L2ax:=Ext.cell V2.2 L2a;have L2bx:=Ext.cell V2.2 L2b;have h1x:=IsI.stb _ _ _ _ _ V2.2 h1;have h2x:=IsI.stb _ _ _ _ _ V2.2 h2;go_upto_region 6 with(go_at_call 42;refine zC (Low_t h1x HZB.out.1 HZB.out.2) ?_;rintro e w3 ⟨_,rfl,E3,_,_,rfl,rfl,rfl⟩);clear L1ax L1bx L2ax L2bx h1x h2x;have V3:=V2.ext E3 V2.2.size;have Lg:=V3.1.1;have Fg:=V3.1.2;clear V2 E3;have HMB:=hid (show -9223372036854775808<=(m:Int)/\(m:Int)<=9223372036854775807 by have:=HM.out;omega);go_upto_region 11 with fail
  all_goals
    first
    | (have hu:xM z=6:=by unfold xM;simp_all
       obtain⟨w4,hw4⟩:∃w4,w3.setCell ⟨g,0,none⟩ (.int .i64 6)=w4:=⟨_,rfl⟩;have V4:=V3.set hg (.int .i64 6);rw[<-hu]at hw4 V4;rw[<-hu,hw4];rw[hw4]at V4
       clear hw4 hu Lg Fg V3)
    | (have hu:xM z=4:=by unfold xM;simp_all
       obtain⟨w4,hw4⟩:∃w4,w3.setCell ⟨g,0,none⟩ (.int .i64 4)=w4:=⟨_,rfl⟩;have V4:=V3.set hg (.int .i64 4);rw[<-hu]at hw4 V4;rw[<-hu,hw4];rw[hw4]at V4
       clear hw4 hu Lg Fg V3)
    | (have hu:xM z=2:=by unfold xM;simp_all
       have V4:=V3;rw[<-hu]at V4
       clear hu Lg Fg V3)
  all_goals
    have L1ay:=Ext.cell V4.2 L1a;have L1by:=Ext.cell V4.2 L1b;have L2ay:=Ext.cell V4.2 L2a;have L2by:=Ext.cell V4.2 L2b;have h1y:=IsI.stb _ _ _ _ _ V4.2 h1;have h2y:=IsI.stb _ _ _ _ _ V4.2 h2;go_wp2_with (first| (go_at_call 42;refine zC (Low_t h2y HMB.out.1 HMB.out.2) ?_;rintro e w5 ⟨_,rfl,E5,_,_,rfl,rfl,rfl⟩)| (go_at_call 43;refine zC (powers_c _ _) ?_;rintro e w6 ⟨rfl,rfl⟩))
    have V5:=(V4.ext E5 V4.2.size).ext ((Ext.refl w5).alloc (.cells #[.int .i64 (m:Int)] 2)) (zN V4.2.size E5.size);have hn5:W.heap.size<=w5.heap.size:=zN V4.2.size E5.size;have hg5:g<w5.heap.size:=Nat.lt_of_lt_of_le (World.block_lt_of_cell? _ _ V4.1.1) E5.size;have E0:Ext W (w5.alloc (.cells #[.int .i64 (m:Int)] 2)):=V5.2;replace V5:VarAt g W.heap.size (w5.alloc (.cells #[.int .i64 (m:Int)] 2)) _ _:=⟨V5.1,Below.refl _ _⟩;clear V4 E5 L1ay L1by L2ay L2by h1y h2y;have hX:=powers1_in Fence.wide 8 trivial rfl dcx (w5.alloc (.cells #[.int .i64 (m:Int)] 2)) w5.heap.size m HM.out.1 (by have:=HM.out.2;omega) zh zh
    refine wpIn_wide.1 (jX (n:=9) rfl dcx (gf:=89) (lb:= #[.pointer (some ⟨w5.heap.size,0,none⟩)]) rfl trivial (en func89) (c:=w5.heap.size) zh
      hX (λ_=>rfl)
      (λpre W'=>VarAt g W.heap.size (w5.alloc (.cells #[.int .i64 (m:Int)] 2)) (.int .i64 (xM z*pwP (qV (kr z)) pre)) W') (λ_ _ _=>False)
      (varAt_own _ jl jl) (λ_ _ _ _ _ h _ _=>h) (varAt_lone _ jl hn5 zb) (λ_ _ _ _ h _=>h) (by simpa [pwP]using V5) ?_ ?_ ?_ ?_ ?_)
    rotate_left
    · intro l x W' K hK
      gi_wp2
      exact hK
    · intro l pre x W' V6 hp
      obtain⟨hx1,hx2,hx3,hx4,hx5⟩:=pre_mem HM.out.1 hp;have E6:Ext W W':=Below.trans E0 V6.2;have S6:=S.mono E6;have hcw:w5.heap.size<W'.heap.size:=by have:=V6.2.size;simp at this;omega
      have HX:=hid (show(0<x.1/\x.1<=1048576)/\x.2<=1048576 by have:=hx1.1;have:=HM.out;omega);clear hx1 hx2 hx3 hx4 hx5;have hpl:=pre_last (kr z) pre x;have hle:=pre_le (kr z) HM.out.1 hp;have hu6:0<=xM z/\xM z<=6:=by unfold xM;split <;>(try split) <;> decide
      have hbig:0<=xM z*pwP (qV (kr z)) (pre++ [x])/\xM z*pwP (qV (kr z)) (pre++ [x])<=6*1048576:=by
        refine⟨Int.mul_nonneg hu6.1 hle.1,Int.mul_le_mul hu6.2 (Int.le_trans hle.2 ?_) hle.1 dcx⟩;have:=HM.out.2;omega
      rw[hpl,<-Int.mul_assoc]at hbig;obtain⟨t,ht⟩:∃t,xM z*pwP (qV (kr z)) pre=t:=⟨_,rfl⟩;obtain⟨d,hd⟩:∃d,qV (kr z) x.1 x.2=d:=⟨_,rfl⟩;rw[ht]at V6;rw[ht,hd]at hbig;have HD:=hid hd;have HT:=hid (show xM z*pwP (qV (kr z)) (pre++ [x])=t*d by rw[hpl,<-Int.mul_assoc,ht,hd]);have hw8:IntKind.i64.wrap (t*d)=t*d:=zo
      have HW8:=hid hw8;clear hw8 hpl hle hu6 hbig ht hd;refine wpIn_block ?_;refine rgI 6 [some 39,some 40,some 41,some 42,some 43,some 44] [iV t,IsI k1 z,iV ((x.1:Nat):Int),iV ((x.2:Nat):Int),iV d,iV (t*d)] [] 1 (not_out_block not_out_box 2) ?_ ?_
      · refine Rc (ldG (λw e=>Ext.cell e V6.1.1) (qD 7)) ?_
        refine Rc (ldI S6 1 (w.heap.size) 0 (qD 2) qG) ?_;refine Rc (mv (qD 12)) ?_;refine Rc (mv (qD 13)) ?_;refine Rc (cl3 (en func44) (qA (fP:=IsI k1 z) 1 40) (qA (fP:=iV ((x.1:Nat):Int)) 2 41) (qA (fP:=iV ((x.2:Nat):Int)) 3 42) (λx0 x1 x2 w' hE d0 d1 d2=>by{obtain rfl:x1=.int .i64 ((x.1:Nat):Int):=d1;obtain rfl:x2=.int .i64 ((x.2:Nat):Int):=d2;have hh:=dlocal_f (p:=x.1) (k:=x.2) d0 (by have:=HK.out.1;omega) (HS.out.ext ((hEW.trans E6).trans hE)) HX.out.1 HX.out.2;rw[HD.out]at hh;exact hh})) ?_;refine Rc (bn (r:=.int .i64 (t*d)) (qC 0 39) (qC 4 43) (hr:=λw=>by have hx9:=HW8.out;go_simp)) ?_;exact rn0
      intro v W11 e1 hH _;have v5:v 5=.int .i64 (t*d):=hH 5 dcx;have V7:=V6.ext e1 E6.size;have Lg:=V7.1.1;have Fg:=V7.1.2;simp only[lxE,Nat.reduceAdd];rw[v5];clear v5 hH;refine wpAny_ready (rs:= [6]) za zh (AllReady.cons rfl (λK hK=>?_) AllReady.nil);go_simp;refine hK _ _ ?_;clear hK K;refine zO za ?_ _;refine inBlock_norm (boxPost_norm (((ext_keeps e1).trans (KeepsOthers.setCell _ _ _)).from _) ?_ ?_)
      ·exact(setCell_heap W11 g w5.heap.size _ zb).trans (e1.block _ hcw)
      · rw[HT.out]
        exact V7.set hg _
    · rintro D xs W' hD rfl V6 hK
      have E6:Ext W W':=Below.trans E0 V6.2;have Lg:=V6.1.1;have Fg:=V6.1.2;go_wp2_with fail;have hfin:Ext w (W'.putObj D (.deferred none)):=Below.trans (hEW.trans E6) (belowK_b (w:=w) (zL _) W' D _ _ (by simp at hD;omega) hK rfl rfl);exact jY hK (v:=.tuple #[.int .i64 (xM z*pwP (qV (kr z)) (pw m 2 m)),.int .i64 0]) zb9 ⟨_,rfl,hfin,_,_,rfl,rfl,rfl⟩
    · intro D q pre W' _ _ h _
      exact h.elim
theorem Total_e{k1 k2 n L:Nat}{z z2:Int}{x y:Value}{w:World}(HZ:Hid (z= -(n:Int)))(hx:IsI k1 z x w)(hy:IsI k2 z2 y w)(hk:k1<=16777216/\k2<=16777216)(hn:1<=n/\n<=4194304/\(n%4=0\/n%4=3))(hL:L*L<=n/\n<(L+1)*(L+1))
    (u:Int) (hu:unsE (cdB n L) z2=u) (hu0:u≠0):
    Calls prog 12 #[x,y] w (Ret w (IsT2 (iV 0) (iV u))):=by
  have HN:=hid hn;have HL:=hid hL;have HU:=hid hu;have HK:=hid hk;clear hn hL hu hk;obtain⟨s1,a1,n1,c1,rfl,h1⟩:=hx;obtain⟨s2,a2,n2,c2,rfl,h2⟩:=hy;have h1:IsI k1 z (.agg #[.bool s1,.slice a1 n1 c1]) w:=⟨_,_,_,_,rfl,h1⟩;have h2:IsI k2 z2 (.agg #[.bool s2,.slice a2 n2 c2]) w:=⟨_,_,_,_,rfl,h2⟩
  obtain⟨W,hW,S⟩:∃W,W=(w.alloc (.cells #[.bool s1,.slice a1 n1 c1] 33)).alloc (.cells #[.bool s2,.slice a2 n2 c2] 33)/\Sto w W [((w.heap.size+1,0),IsI k2 z2),((w.heap.size,0),IsI k1 z)]:=
    ⟨_,rfl,((Sto.start w).new1 (w.heap.size) zh s1 a1 n1 c1 33 _ (IsI.gstb _ _) h1).new1 (w.heap.size+1) zh s2 a2 n2 c2 33 _ (IsI.gstb _ _) (h2.ext ((Ext.refl _).alloc _))⟩
  clear h1 h2;go_enter func12,ntmps12;go_upto_region 1 with fail;rw[<-hW];clear hW;obtain⟨s1,a1,n1,c1,B1,h1⟩:=S.at 1 _ _ _ rfl;obtain⟨s2,a2,n2,c2,B2,h2⟩:=S.at 0 _ _ _ rfl;have L1a:World.cell? W ⟨w.heap.size,0,none⟩=some (.bool s1):=B1.c0;have L1b:World.cell? W ⟨w.heap.size,1,none⟩=some (.slice a1 n1 c1):=B1.c1;have L2a:World.cell? W ⟨w.heap.size+1,0,none⟩=some (.bool s2):=B2.c0;have L2b:World.cell? W ⟨w.heap.size+1,1,none⟩=some (.slice a2 n2 c2):=B2.c1;have hEW:=S.ext;clear S B1 B2;have hcon:=jC (x:=.agg #[.bool s1,.slice a1 n1 c1]) (by rw[<-HZ.out];exact h1) h2 HK.out.1 HK.out.2 HN.out HL.out;rw[HU.out]at hcon;have hu1:(u !=0)=true:=by simpa using hu0
  go_wp2_with (go_at_call 39;refine zC hcon ?_;rintro e w1 ⟨_,rfl,E1,rfl⟩)
  exact zD (v:=.tuple #[.int .i64 0,.int .i64 u]) zb9 rfl ⟨_,rfl,hEW.trans E1,_,_,rfl,rfl,rfl⟩
def totE(n L:Nat)(z:Int):Int:=if unsE (cdB n L) z=0 then xM (-(n:Int))*totP (qV (kr (-(n:Int)))) z.toNat else 0
theorem unsE_ok{f:Nat}{z:Int}(h:unsE f z=0):0<z/\z<=1048576:=by
  unfold unsE at h;by_cases h1:z<=0
  ·rw[if_pos h1]at h;cases h
  rw[if_neg h1]at h;by_cases h2:1048576<z
  ·rw[if_pos h2]at h;cases h
  omega
theorem Total_f{k1 k2 n L:Nat}{z2:Int}{x y:Value}{w:World}(hx:IsI k1 (-(n:Int)) x w)(hy:IsI k2 z2 y w)(hk:k1<=16777216/\k2<=16777216)(hs:Sg w)(hn:1<=n/\n<=4194304/\(n%4=0\/n%4=3))(hL:L*L<=n/\n<(L+1)*(L+1)):
    Calls prog 12 #[x,y] w (Ret w (IsT2 (iV (totE n L z2)) (iV (unsE (cdB n L) z2)))):=by
  unfold totE;by_cases h:unsE (cdB n L) z2=0
  · obtain⟨h1,h2⟩:=unsE_ok h
    obtain⟨m,rfl⟩:=Int.eq_ofNat_of_zero_le (Int.le_of_lt h1);rw[if_pos h,h];exact Total_u (hid rfl) hx hy hk hs hn hL h zb
  · rw[if_neg h]
    exact Total_e (hid rfl) hx hy hk hn hL _ rfl h
open Go Go.RowKit
section
variable {ops:Array Oper} {Q:Exit->Act->World->Prop} {ds:List (Option Tmp)} {a0:Act} {w0:World} {L:List (Value->World->Prop)} {boxes:List Nat} {i:Nat} {o:Oper}
theorem ldWn{W:World}{B:List Fld}(S:Sto W w0 B)(j g q:Nat){k m:Nat}{z:Int}(hz:z.natAbs=m){x:Operand}(hx:Od ops ds a0 w0 L i x (IsV (.pointer (some ⟨g,2*q+1,none⟩))))(h1:B[j]? =some ((g,q),IsI k z):=by rfl)(ho:o.op=.load 27 x:=by rfl)(hi:L.getD i (λ_ _=>True)=IsWz m:=by kernel_rfl)(hb:boxes.contains i=false:=by kernel_rfl):Ok prog ops Q ds a0 w0 L boxes i o:=
  Ok.of hb λv a w hE hd hf=>by
    have h:a.eval x=_:=hx.out v a w hE hd hf;obtain⟨s,a',n,c,b,h'⟩:=(S.mono hE).at j g q _ h1;obtain⟨s2,a2,n2,c2,e,m',⟨xs,hw,hk,hz',hv⟩,hs,he⟩:=h';injection e with e;simp only[Array.mk.injEq,List.cons.injEq,Value.bool.injEq,Value.slice.injEq,and_true]at e;obtain⟨rfl,rfl,rfl,rfl⟩:=e;have hm:m'=m:=by rw[<-hz];cases s <;> simp at he <;> omega
    subst hm;exact⟨_,ld_run ho h (show(Instr.loadAt 27 (.pointer (some ⟨g,2*q+1,none⟩))).run prog w=.ok (.slice a' n c) w by have h9:=b.c1;go_simp),by rw[hi];exact⟨_,_,_,xs,rfl,hw,hz',hv⟩⟩
end
theorem RLow_neg{k1:Nat}{z:Int}{x:Value}{w:World}(hx:IsI k1 z x w)(hz:z<0)(hm: -4294967296<z):Calls prog 47 #[x] w (Ret w (IsT2 (iV z) (IsV (.bool true)))):=by
  obtain⟨m,hna⟩:∃m,z.natAbs=m:=⟨_,rfl⟩;have hm:m<4294967296:=zb
  have HNA:=hid hna;have HZ0:=hid hz;have HW0:=hid (show m/4294967296^0%4294967296=m by rw[Nat.pow_zero,Nat.div_one];exact Nat.mod_eq_of_lt hm);have HW1:=hid (show m/4294967296^1%4294967296=0 by rw[Nat.pow_one,Nat.div_eq_of_lt hm]);have HOZ:=hid (or_zero64 m hm);obtain⟨nw,hnw⟩:∃x,(if m=0 then 0 else 1)=x:=⟨_,rfl⟩;have HNW:=hid (zJ hnw hm);have HN1:=hid (show(nw:Int)<=2 by rw[<-hnw];split <;> omega);have HMB:=hid (show(m:Int)<=9223372036854775808/\m<=9223372036854775808/\((m:Int)==9223372036854775808)=false/\¬m=9223372036854775808 from⟨by omega,by omega,by rw[zH];omega,by omega⟩);have HCV:=hid (show IntKind.i64.wrap (m:Int)=(m:Int)by simp only[IntKind.wrap_i64];omega);have HNG:=hid (show IntKind.i64.wrap (-(m:Int))=z by simp only[IntKind.wrap_i64];omega);clear hm hnw hna hz;obtain⟨s1,a1,n1,c1,W,rfl,hW,S⟩:=en1 hx;go_enter func47,ntmps47;go_upto_region 1 with fail;rw[<-hW];clear hW;refine rg 9 [some 5,some 6,some 7,some 8,some 9,some 10,some 11,some 12,some 4] [IsV (.pointer (some ⟨w.heap.size,1,none⟩)),IsWz m,IsV (.int .u64 (m:Int)),IsV (.pointer (some ⟨w.heap.size,1,none⟩)),IsWz m,IsV (.int .u64 ((0:Nat):Int)),IsV (.int .u64 0),IsV (.int .u64 (m:Int)),IsV (.int .u64 (m:Int))] [] 0 ?_ ?_ (hst:=by repeat' (first|exact trivial|exact IsWz.stb _|exact IsV.stb _|exact IsI.stb _ _|exact IsBo.stb _ _|apply IsT2.stb|apply IsT3.stb|apply IsJ.stb|apply IsQ.stb|apply IsF.stb|apply zJ))
  · refine RgAll.cons zdu ?_
    refine Rc (ldWn S 0 (w.heap.size) 0 (HNA.out) (qA 0 5)) ?_;refine Rc zam ?_;refine RgAll.cons zdu ?_;refine Rc (ldWn S 0 (w.heap.size) 0 (HNA.out) (qA 3 8)) ?_;refine Rc zan ?_;refine Rc zcy ?_;refine Rc zdc ?_;refine Rc (mv (qA 7 12)) ?_;exact rn0
  intro v W1 e1 hH _;replace S:=S.mono e1;simp only[lxE,Nat.reduceAdd];rw[show v 8=.int .u64 (m:Int)from hH 8 dcx];clear hH e1;refine zO za ?_ _;go_upto_region 2 with fail;refine rgt S 17 [some 13,some 14,some 15,some 16,some 17,some 18,some 19,some 20,some 21,some 22,some 23,some 24,some 25,some 26,some 27,some 28,some 29] [IsV (.pointer (some ⟨w.heap.size,1,none⟩)),IsWz m,iV (nw:Int),IsV (.bool false),IsV (.bool false),IsV (.int .u64 (m:Int)),IsV (.bool false),IsV (.bool false),IsV (.bool false),IsV (.int .u64 (m:Int)),IsV (.bool false),IsV (.bool false),IsV (undef),IsV (undef),IsV (undef),IsV (.bool false),IsV (.bool false)] ?_ ?_ (hst:=by repeat' (first|exact trivial|exact IsWz.stb _|exact IsV.stb _|exact IsI.stb _ _|exact IsBo.stb _ _|apply IsT2.stb|apply IsT3.stb|apply IsJ.stb|apply IsQ.stb|apply IsF.stb|apply zJ))
  · refine RgAll.cons zdu ?_
    refine Rc (ldWn S 0 (w.heap.size) 0 (HNA.out) (qA 0 13)) ?_;refine Rc (lenz (HNW.out) (qA 1 14)) ?_;refine Rc (bn (r:=.bool false) (qC 2 15) qE (hr:=λw=>by have hx9:=HN1.out;go_simp)) ?_;refine Rc (mv (qA 3 16)) ?_;refine RcG 4 17 false zdf ?_;refine RcG 4 17 false zcm ?_;refine Rc (pk (qC 4 17) (qA 6 19)) ?_;refine Rc (mv (qA 7 20)) ?_;refine RcG 8 21 false zdf ?_;refine RcG 8 21 false zcc ?_;refine RcG 8 21 false (mv (qA 10 23)) ?_;refine RcN 11 24 false ?_;refine RcN 11 24 false ?_;refine RcN 11 24 false ?_;refine RcG 8 21 false (pk (qC 11 24) qE) ?_;refine Rc (pk (qC 8 21) (qA 15 28)) ?_;exact rn0
  intro v W2 S hH;simp only[lxE,Nat.reduceAdd];rw[show v 16=.bool false from hH 16 dcx];clear hH;go_upto_region 4 with fail;refine rgt S 2 [some 30,some 31] [IsV (.pointer (some ⟨w.heap.size,0,none⟩)),IsV (.bool true)] ?_ ?_
  · refine RgAll.cons zdu ?_
    refine RgAll.cons (by{ (with_reducible refine RgL.mk zfe ?_);intro v a w' hE hd hf;have d0:v 0=.pointer (some ⟨w.heap.size,0,none⟩):=hd 0 za;have ev0:=hf.val 0 30 _ d0 za za za;clear d0;obtain⟨szx,azx,nzx,czx,bzx,hzx⟩:=(S.mono hE).at 0 (w.heap.size) 0 (IsI k1 z) rfl;have Lzxa:World.cell? w' ⟨w.heap.size,0,none⟩=some (.bool szx):=bzx.c0;have Lzxb:World.cell? w' ⟨w.heap.size,1,none⟩=some (.slice azx nzx czx):=bzx.c1;obtain rfl:=hzx.neg' (HZ0.out);clear hd hf;intro K hK;go_simp;exact hK.out _ _ (Ext.refl _) rfl (FreshIf.no rfl)}) ?_;exact rn0
  intro v W4 S hH;simp only[lxE,Nat.reduceAdd];rw[show v 1=.bool true from hH 1 dcx];clear hH;go_upto_region 5 with fail;refine rgt S 5 [some 32,some 33,some 34,some 2,some 3] [IsV (.int .u64 (m:Int)),iV (m:Int),iV z,iV z,IsV (.bool true)] ?_ ?_
  · refine Rc zdf ?_
    refine RgAll.cons (by{ (with_reducible refine RgL.mk zfe ?_);intro v a w' hE hd hf;have d0:v 0=.int .u64 (m:Int):=hd 0 za;have ev0:=hf.val 0 32 _ d0 za za za;clear d0;have hx9:=HCV.out;clear hd hf;intro K hK;go_simp;exact hK.out _ _ (Ext.refl _) rfl (FreshIf.no rfl)}) ?_;refine Rc (un (r:=.int .i64 z) (qC 1 33) (hr:=λw=>by have hx9:=HNG.out;go_simp)) ?_;refine Rc (mv (qA 2 34)) ?_;refine Rc zaf ?_;exact rn0
  intro v W5 S hH;simp only[lxE,Nat.reduceAdd];rw[show v 3=.int .i64 z from hH 3 dcx,show v 4=.bool true from hH 4 dcx];clear hH;go_wp2_with fail;exact zD (v:=.tuple #[.int .i64 z,.bool true]) (by simp[results,results47,go_sem]) rfl (⟨_,rfl,S.ext,⟨_,_,rfl,rfl,rfl⟩⟩)
theorem RLow_i{k1:Nat}{z:Int}{x:Value}{w:World}(hx:IsI k1 z x w)(h1: -4294967296<z)(h2:z<4294967296):Calls prog 47 #[x] w (Ret w (IsT2 (iV z) (IsV (.bool true)))):=by
  rcases Int.lt_or_le z 0 with h|h
  ·exact RLow_neg hx h h1
  · obtain⟨m,rfl⟩:=Int.eq_ofNat_of_zero_le h
    exact RLow_f hx zb
end Go.Proofs.YtknffgdbdadpcaaGreatDoor
