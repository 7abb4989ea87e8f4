/-
 Package count: the iterator over the reduced forms.
 Package count: the class number: how many reduced forms are primitive.
 Valid of both packages at canonical integers.
 Forms: the reference's Low below zero, sum, Disc, Check, Definite, Reduced; count's form, quadratic's Primitive. (Printed by wip/gen/den23.py.)
-/
import Derived.Test.YtknffgdbdadpcaaGreatDoorRfd
import Derived.Test.YtknffgdbdadpcaaGreatDoorRfr
import Derived.Test.YtknffgdbdadpcaaGreatDoorPri
import Derived.Test.YtknffgdbdadpcaaGreatDoorMod3
import Derived.Test.YtknffgdbdadpcaaGreatDoorRgm
import Derived.Test.YtknffgdbdadpcaaGreatDoorDen7
namespace Go.Proofs.YtknffgdbdadpcaaGreatDoor
open Go Go.RowKit
open Go.Proofs.Tryz
set_option maxRecDepth 100000
set_option maxHeartbeats 16000000
def fmOk (n a b:Int):Bool:=decide ((b*b+n)%(4*a)=0)&&decide (a≤(b*b+n)/(4*a))&& !(decide (b<0)&&decide (a=(b*b+n)/(4*a)))
def fmB (n a:Int):Nat→Int→List (Int×Int×Int)
 | 0,_=> []
 | k+1,b=>(if fmOk n a b=true then [(a,b,(b*b+n)/(4*a))] else [])++fmB n a k (b+1)
def fmA (n:Int):Nat→Int→List (Int×Int×Int)
 | 0,_=> []
 | k+1,a=>if 3*a*a≤n then fmB n a (2*a).toNat (1-a)++fmA n k (a+1) else []
theorem mul_self_nonneg' (b:Int):0≤b*b:=by
 rcases Int.le_total 0 b with h | h
 ·exact Int.mul_nonneg h h
 ·have:=Int.mul_nonneg (show 0≤ -b by omega) (show 0≤ -b by omega)
  rwa [Int.neg_mul_neg] at this
theorem sq_le' {b:Int} (h1: -3000≤b) (h2:b≤3001):b*b≤9006001:=by
 have e:b*b=((b.natAbs*b.natAbs:Nat):Int):=by rw [Int.natCast_mul,Int.natAbs_mul_self']
 have:=Nat.mul_le_mul (show b.natAbs≤3001 by omega) (show b.natAbs≤3001 by omega);rw [e];omega
theorem forms1_in (F:Fence) (m:Nat) (h6:F.fn 157) (hro:F.round=none) (hm:1≤m) (w:World) (c:Nat) (n:Nat) (hn:n≤4194304)
  (hc:w.cell? ⟨c,0,none⟩=some (.int .i64 (n:Int))):
  SeqBox0 F m prog 157 #[.pointer (some ⟨c,0,none⟩)] (fun x:Int×Int×Int=> #[.agg #[.int .i64 x.1,.int .i64 x.2.1,.int .i64 x.2.2]]) c (fun xs=>xs=fmA n (n+1) 1) (fun pre=>pre <+:fmA n (n+1) 1) w:=fun l J Jx W hBel hY h0=>by
 have hcl:=World.block_lt_of_cell? w _ hc;have hcW:=(hBel.cell hcl).trans hc;clear hc;obtain ⟨T,hT⟩:∃ T,fmA n (n+1) 1=T:=⟨_,rfl⟩;rw [hT] at hY ⊢;refine callsIn_of_wp func157 rfl h6 ?_ hro;simp only [ntmps157,List.size_toArray,List.length_cons,List.length_nil,Nat.reduceAdd,Nat.reduceSub,Array.replicate_succ,Array.replicate_zero,List.push_toArray,List.append_toArray,List.nil_append,List.cons_append]
 gi_wp2
 gi_loopw [3] (fun p wr=> ∃ (pre:List (Int×Int×Int)) (k:Nat) (a:Int),p= .int .i64 a∧wr.cell? ⟨c,0,none⟩=some (.int .i64 (n:Int))∧
   pre++fmA n k a=T∧1≤a∧a≤3000∧a+k=n+2∧J pre wr)
  (fun p _=>match p with | .int _ z=>(n+3-z).toNat | _=>0)
 case atStart=>exact ⟨[],n+1,1,rfl,hcW,hT,by omega,by omega,by omega,h0⟩
 case round=>
  obtain ⟨pre,k,a,rfl,hcell,hpw,ha1,ha2,hak,hJs⟩:=hrel;have hw1:IntKind.i64.wrap (3*a)=3*a:=wrapC_small (by omega) (by omega);obtain ⟨a3,ha3⟩:∃ x,3*a*a=x:=⟨_,rfl⟩
  have ha4:0≤a3∧a3≤3*3000*3000:=by
   rw [← ha3];exact ⟨Int.mul_nonneg (by omega) (by omega),Int.mul_le_mul (by omega) ha2 (by omega) (by omega)⟩
  have hw2:IntKind.i64.wrap (3*a*a)=a3:=by rw [ha3];exact wrapC_small (by omega) (by omega)
  have hA:=hid (And.intro ha1 (And.intro ha2 (And.intro hak (And.intro ha3 ha4))));clear ha1 ha2 hak ha3 ha4;by_cases hle:a3≤(n:Int)
  ·have hw3:IntKind.i64.wrap (1-a)=1-a:=by have:=hA.out;exact wrapC_small (by omega) (by omega)
   have hk1:1≤k:=by
    have ha:=hA.out;have h2:=Int.mul_le_mul_of_nonneg_left (show 1≤a by omega) (show 0≤3*a by omega);omega
   have hA2:a≤2000:=by
    refine Int.not_lt.1 fun h=> ?_
    have ha:=hA.out;have h2:=Int.mul_le_mul_of_nonneg_left (show 2000≤a by omega) (show 0≤3*a by omega);omega
   obtain ⟨k,rfl⟩:∃ g,k=g+1:=⟨k-1,by omega⟩;clear hk1;have hA2:=hid hA2;rw [fmA,if_pos (show 3*a*a≤(n:Int) by have:=hA.out;omega)] at hpw
   gi_wp2
   clear hw1 hw2 hw3;have hLE:=hid hle;clear hle
   gi_loopw [4] (fun v4 wr2=> ∃ (pre2:List (Int×Int×Int)) (k2:Nat) (b:Int),v4= .int .i64 b∧wr2.cell? ⟨c,0,none⟩=some (.int .i64 (n:Int))∧
     pre2++(fmB n a k2 b++fmA n k (a+1))=T∧ -3000≤b∧b≤3001∧b+k2=a+1∧J pre2 wr2)
    (fun v4 _=>match v4 with | .int _ z=>(a+2-z).toNat | _=>0)
   case atStart=>have:=hA.out;exact ⟨pre,(2*a).toNat,1-a,rfl,hcell,hpw,by omega,by omega,by omega,hJs⟩
   case round=>
    obtain ⟨pre2,k2,b,rfl,hc2,hp2,hb1,hb2,hbk,hJ2⟩:=hrel;by_cases hba:b≤a
    ·obtain ⟨k2,rfl⟩:∃ g,k2=g+1:=⟨k2-1,by omega⟩;rw [fmB] at hp2
     have hbb:0≤b*b∧b*b≤9006001:=by
      constructor
      ·exact mul_self_nonneg' b
      ·exact sq_le' hb1 hb2
     obtain ⟨bb,hbb2⟩:∃ x,b*b=x:=⟨_,rfl⟩;obtain ⟨s,hs⟩:∃ x,bb+(n:Int)=x:=⟨_,rfl⟩;obtain ⟨q,hq⟩:∃ x,s/(4*a)=x:=⟨_,rfl⟩;obtain ⟨r,hr⟩:∃ x,s%(4*a)=x:=⟨_,rfl⟩;have ha:=hA.out;rw [hbb2] at hbb;have hs0:0≤s∧s≤100000000:=by omega
     have hq0:0≤q∧q≤s:=by rw [← hq];exact ⟨Int.ediv_nonneg hs0.1 (by omega),Int.ediv_le_self _ hs0.1⟩
     have hr0:0≤r∧r≤12000:=by rw [← hr];exact ⟨Int.emod_nonneg _ (by omega),by have:=Int.emod_lt_of_pos s (show 0<4*a by omega);omega⟩
     have hv1:IntKind.i64.wrap (b*b)=bb:=by rw [hbb2];exact wrapC_small (by omega) (by omega)
     have hv2:IntKind.i64.wrap (bb+(n:Int))=s:=by rw [hs];exact wrapC_small (by omega) (by omega)
     have hv3:IntKind.i64.wrap (4*a)=4*a:=wrapC_small (by omega) (by omega);have hv4:s.tdiv (4*a)=q:=by rw [Int.tdiv_eq_ediv_of_nonneg hs0.1];exact hq
     have hv5:s.tmod (4*a)=r:=by rw [Int.tmod_eq_emod_of_nonneg hs0.1];exact hr
     have hv6:IntKind.i64.wrap q=q:=wrapC_small (by omega) (by omega);have hv7:IntKind.i64.wrap r=r:=wrapC_small (by omega) (by omega);have hv8:¬ a=0:=by omega
     have hv9:¬ 4*a=0:=by omega
     have hva:IntKind.i64.wrap (b+1)=b+1:=wrapC_small (by omega) (by omega);have hok:fmOk n a b=(decide (r=0)&&decide (a≤q)&& !(decide (b<0)&&decide (a=q))):=by unfold fmOk;rw [hbb2,hs,hq,hr]
     rw [hok,hbb2,hs,hq] at hp2;have hB:=hid (And.intro hb1 (And.intro hb2 hbk));clear hok hbb2 hs hq hr hbb hs0 hq0 hr0 ha hb1 hb2 hbk;by_cases h1:r=0
     ·by_cases h2:a≤q
      ·have h2':¬ q<a:=by omega
       by_cases h3:b<0
       ·by_cases h4:a=q
        ·obtain rfl:a=q:=h4;rw [if_neg (by simp [h3]),List.nil_append] at hp2
         gi_wp2
         go_roundw
         case rel=>have hb:=hB.out;exact ⟨pre2,k2,b+1,rfl,hc2,hp2,by omega,by omega,by omega,hJ2⟩
         case measure=>have hb:=hB.out;show (a+2-(b+1)).toNat<(a+2-b).toNat;omega
        ·have h4b:(a==q)=false:=by rw [beq_eq_false_iff_ne];exact h4
         rw [if_pos (by simp [h1,h2,h4])] at hp2
         gi_wp2
         obtain ⟨fn,tmps,assign,body,hy,hR⟩:=hY pre2 (a,b,q) wr hJ2 ⟨_,by rw [List.append_assoc,← List.append_assoc [_]];exact hp2⟩;dsimp only at hy;rw [hy,Oper.uponIn_round];refine ⟨fun _=>hm,hR.mono ?_⟩;rintro e W3 (⟨rfl,hJ3,hk3⟩ | ⟨rfl,hJx3⟩)
         ·gi_wp2
          go_roundw
          case rel=>have hb:=hB.out;exact ⟨pre2++ [(a,b,q)],k2,b+1,rfl,ps_cell hk3 hc2,by rw [← hp2];simp,by omega,by omega,by omega,hJ3⟩
          case measure=>have hb:=hB.out;show (a+2-(b+1)).toNat<(a+2-b).toNat;omega
         ·gi_wp2
          refine bodyPost_ret (results_none rfl _ _ _) rfl ?_;exact ⟨⟨_,rfl⟩,.inr ⟨_,⟨_,by rw [List.append_assoc,← List.append_assoc [_]];exact hp2⟩,hJx3⟩⟩
       ·rw [if_pos (by simp [h1,h2,h3])] at hp2
        gi_wp2
        obtain ⟨fn,tmps,assign,body,hy,hR⟩:=hY pre2 (a,b,q) wr hJ2 ⟨_,by rw [List.append_assoc,← List.append_assoc [_]];exact hp2⟩;dsimp only at hy;rw [hy,Oper.uponIn_round];refine ⟨fun _=>hm,hR.mono ?_⟩;rintro e W3 (⟨rfl,hJ3,hk3⟩ | ⟨rfl,hJx3⟩)
        ·gi_wp2
         go_roundw
         case rel=>have hb:=hB.out;exact ⟨pre2++ [(a,b,q)],k2,b+1,rfl,ps_cell hk3 hc2,by rw [← hp2];simp,by omega,by omega,by omega,hJ3⟩
         case measure=>have hb:=hB.out;show (a+2-(b+1)).toNat<(a+2-b).toNat;omega
        ·gi_wp2
         refine bodyPost_ret (results_none rfl _ _ _) rfl ?_;exact ⟨⟨_,rfl⟩,.inr ⟨_,⟨_,by rw [List.append_assoc,← List.append_assoc [_]];exact hp2⟩,hJx3⟩⟩
      ·have h2':q<a:=by omega
       rw [if_neg (by simp [h2]),List.nil_append] at hp2
       gi_wp2
       go_roundw
       case rel=>have hb:=hB.out;exact ⟨pre2,k2,b+1,rfl,hc2,hp2,by omega,by omega,by omega,hJ2⟩
       case measure=>have hb:=hB.out;show (a+2-(b+1)).toNat<(a+2-b).toNat;omega
     ·rw [if_neg (by simp [h1]),List.nil_append] at hp2
      gi_wp2
      go_roundw
      case rel=>have hb:=hB.out;exact ⟨pre2,k2,b+1,rfl,hc2,hp2,by omega,by omega,by omega,hJ2⟩
      case measure=>have hb:=hB.out;show (a+2-(b+1)).toNat<(a+2-b).toNat;omega
    ·have hk0:k2=0:=by omega
     have hA':=hA.out;have hw4:IntKind.i64.wrap (a+1)=a+1:=wrapC_small (by omega) (by omega);clear hA'
     gi_wp2
     go_roundw
     case rel=>have ha:=hA.out;have:=hA2.out;exact ⟨pre2,k,a+1,rfl,hc2,by rw [hk0,fmB,List.nil_append] at hp2;exact hp2,by omega,by omega,by omega,hJ2⟩
     case measure=>have ha:=hA.out;show ((n:Int)+3-(a+1)).toNat<((n:Int)+3-a).toNat;omega
  ·obtain rfl:pre=T:=by
    rw [← hpw];cases k with
    | zero=>simp [fmA]
    | succ k=>rw [fmA,if_neg (by have:=hA.out;omega)];simp
   gi_wp2
   go_end0
   exact ⟨⟨_,rfl⟩,.inl hJs⟩
attribute [local go_sem] Oper.semAt_some
theorem forms_c (w:World) (n:Nat):Calls prog 120 #[.int .i64 (n:Int)] w (fun e w'=>e= .returned (.func (.func 157) #[] #[.pointer (some ⟨w.heap.size,0,none⟩)])∧w'=w.alloc (.cells #[.int .i64 (n:Int)] 2)):=by
 have hmk:∀ w',(Instr.makeFunc (.func 157) #[] #[.pointer (some ⟨w.heap.size,0,none⟩)]).run prog w'= .ok (.func (.func 157) #[] #[.pointer (some ⟨w.heap.size,0,none⟩)]) w':=fun _=>rfl
 go_enter func120,ntmps120;go_wp2_with fail;exact bodyPost_ret (v:= .func (.func 157) #[] #[.pointer (some ⟨w.heap.size,0,none⟩)]) (by simp [results,results120,go_sem]) rfl ⟨rfl,rfl⟩
def fmPrim (x:Int×Int×Int):Bool:=decide (((Int.gcd ((Int.gcd x.1 x.2.1:Nat):Int) x.2.2:Nat):Int)=1)
theorem fmB_mem {n a:Int} :∀ (k:Nat) (b:Int) (x:Int×Int×Int),x∈fmB n a k b→x.1=a∧b≤x.2.1∧x.2.1<b+k∧x.2.2=(x.2.1*x.2.1+n)/(4*a)
 | 0,b,x,h=>by simp [fmB] at h
 | k+1,b,x,h=>by
  rw [fmB,List.mem_append] at h;rcases h with h | h
  ·split at h
   ·rw [List.mem_singleton] at h;subst h;exact ⟨rfl,Int.le_refl _,by simp;omega,rfl⟩
   ·simp at h
  ·obtain ⟨h1,h2,h3,h4⟩:=fmB_mem k (b+1) x h;exact ⟨h1,by omega,by omega,h4⟩
theorem fmA_mem {n:Int} :∀ (k:Nat) (a:Int) (x:Int×Int×Int),1≤a→x∈fmA n k a→1≤x.1∧3*x.1*x.1≤n∧1-x.1≤x.2.1∧x.2.1≤x.1∧x.2.2=(x.2.1*x.2.1+n)/(4*x.1)
 | 0,a,x,_,h=>by simp [fmA] at h
 | k+1,a,x,ha,h=>by
  rw [fmA] at h
  split at h
  ·rename_i hle
   rw [List.mem_append] at h;rcases h with h | h
   ·obtain ⟨h1,h2,h3,h4⟩:=fmB_mem _ _ x h;rw [h1];exact ⟨ha,hle,h2,by omega,h4⟩
   ·exact fmA_mem k (a+1) x (by omega) h
  ·simp at h
theorem fm_box {n:Nat} (hn:n≤4096) {x:Int×Int×Int} (h:x∈fmA n (n+1) 1):(1≤x.1∧x.1≤64)∧(-64≤x.2.1∧x.2.1≤64)∧(-10000≤x.2.2∧x.2.2≤10000):=by
 obtain ⟨h1,h2,h3,h4,h5⟩:=fmA_mem _ _ _ dcx h
 have ha:x.1≤64:=by
  refine Int.not_lt.1 fun hlt=> ?_
  have:=Int.mul_le_mul_of_nonneg_left (show 65≤x.1 by omega) (show 0≤3*x.1 by omega);omega
 have hbb:0≤x.2.1*x.2.1∧x.2.1*x.2.1≤4096:=by
  refine ⟨mul_self_nonneg' _,?_⟩;have e:x.2.1*x.2.1=((x.2.1.natAbs*x.2.1.natAbs:Nat):Int):=by rw [Int.natCast_mul,Int.natAbs_mul_self']
  have:=Nat.mul_le_mul (show x.2.1.natAbs≤64 by omega) (show x.2.1.natAbs≤64 by omega);rw [e];omega
 have hq:0≤x.2.2∧x.2.2≤x.2.1*x.2.1+n:=by
  rw [h5];exact ⟨Int.ediv_nonneg (by omega) (by omega),Int.ediv_le_self _ (by omega)⟩
 omega
theorem fmB_len {n a:Int} :∀ (k:Nat) (b:Int),(fmB n a k b).length≤k
 | 0,b=>by simp [fmB]
 | k+1,b=>by
  rw [fmB,List.length_append];have:=fmB_len (n:=n) (a:=a) k (b+1)
  split <;> simp <;> omega
theorem fmA_len {n:Int} (hn:n≤4096):∀ (k:Nat) (a:Int),1≤a→((fmA n k a).length:Int)≤128*(max (65-a) 0)
 | 0,a,ha=>by simp [fmA];omega
 | k+1,a,ha=>by
  rw [fmA]
  split
  ·rename_i hle
   have ha64:a≤64:=by
    refine Int.not_lt.1 fun hlt=> ?_
    have:=Int.mul_le_mul_of_nonneg_left (show 65≤a by omega) (show 0≤3*a by omega);omega
   rw [List.length_append];have h1:=fmB_len (n:=n) (a:=a) (2*a).toNat (1-a);have h2:=fmA_len hn k (a+1) (by omega);omega
  ·simp;omega
theorem fa_Tr0 (g:Nat) (w:World):(Instr.fieldAt 159 (.pointer (some ⟨g,0,none⟩)) 0).run prog w= .ok (.pointer (some ⟨g,0,none⟩)) w:=by go_simp
theorem fa_Tr1 (g:Nat) (w:World):(Instr.fieldAt 159 (.pointer (some ⟨g,0,none⟩)) 1).run prog w= .ok (.pointer (some ⟨g,1,none⟩)) w:=by go_simp
theorem fa_Tr2 (g:Nat) (w:World):(Instr.fieldAt 159 (.pointer (some ⟨g,0,none⟩)) 2).run prog w= .ok (.pointer (some ⟨g,2,none⟩)) w:=by go_simp
section
variable {ops:Array Oper} {Q:Exit→Act→World→Prop} {ds:List (Option Tmp)} {a0:Act} {w0:World} {L:List (Value→World→Prop)} {boxes:List Nat} {i:Nat} {o:Oper}
theorem ldG2 {b:Addr} {u:Int} {x:Operand} (hc:∀ w,Ext w0 w→World.cell? w b=some (.int .i64 u)) (hx:Od ops ds a0 w0 L i x (IsV (.pointer (some b)))) (ho:o.op= .load 2 x:=by rfl) (hi:L.getD i (fun _ _=>True)=iV u:=by kernel_rfl) (hb:boxes.contains i=false:=by kernel_rfl):Ok prog ops Q ds a0 w0 L boxes i o:=
 Ok.of hb fun v' a w hE hd hf=>by
  have h:a.eval x=_:=hx.out v' a w hE hd hf;have hcell:=hc w hE;exact ⟨_,ld_run ho h (show (Instr.loadAt 2 (.pointer (some b))).run prog w= .ok (.int .i64 u) w by go_simp),by rw [hi];exact rfl⟩
end
theorem IntAt.top {w:World} {k n cap:Nat} {s:Bool} {ao:Option Addr} {z:Int} (h:IntAt w k s ao n cap z) (h0:0<n):∃ b off x,ao=some ⟨b,off,none⟩∧w.cell? ⟨b,off+(n-1),none⟩=some (.int .u32 (x:Nat))∧x≠0∧n≤cap∧cap≤9223372036854775807:=by
 obtain ⟨m,⟨xs,hw,_,hz,_⟩,_⟩:=h;rcases hw.at_ with h1 | ⟨b,off,h1,_,h3⟩
 ·omega
 ·exact ⟨b,off,_,h1,h3 (n-1) (by omega),hz h0,hw.capo,hw.big⟩
theorem Valid_c (w:World) (s1:Bool) (a1:Option Addr) (n1 c1 k1:Nat) (z1:Int) (h1:IntAt w k1 s1 a1 n1 c1 z1):Calls prog 162 #[.agg #[.bool s1,.slice a1 n1 c1]] w (Ret w (IsV (.bool true))):=by
 obtain ⟨W,hW,K0⟩:∃ W,W=w.alloc (.cells #[.bool s1,.slice a1 n1 c1] 33)∧Kq w W [(w.heap.size, [.bool s1,.slice a1 n1 c1])]:=⟨_,rfl,by simpa using (Kq.start w).alloc [.bool s1,.slice a1 n1 c1] 33⟩;have b1:=K0.bx w.heap.size s1 a1 n1 c1 (by simp);have E:=hid K0.ext;clear K0;rcases Nat.eq_zero_or_pos n1 with h0 | h0
 ·subst h0;obtain rfl:s1=false:=by obtain ⟨m,_,h,_⟩:=h1;exact h rfl
  clear h1;go_enter func162,ntmps162;go_upto_region 1 with (fail);rw [← hW];clear hW;have F1:=b1.c0;have F2:=b1.c1;have F3:=b1.f0;have F4:=b1.f1;go_wp2_with fail;exact bodyPost_ret (v:= .bool true) (by simp [results,results162,go_sem]) rfl ⟨_,rfl,E.out,rfl⟩
 ·obtain ⟨b,off,x,rfl,hc,hx,hcap,hbig⟩:=(h1.ext E.out).top h0;have hn:((n1:Int)==0)=false:=by rw [beq_eq_false_iff_ne];omega
  have hx2:((x:Int)==0)=false:=by rw [beq_eq_false_iff_ne];omega
  have hx3:((x:Int) !=0)=true:=by simp;omega
  clear h1 hx;go_enter func162,ntmps162;go_upto_region 1 with (fail);rw [← hW];clear hW;have F1:=b1.c0;have F2:=b1.c1;have F3:=b1.f0;have F4:=b1.f1;go_wp2_with fail;exact bodyPost_ret (v:= .bool true) (by simp [results,results162,go_sem]) rfl ⟨_,rfl,E.out,rfl⟩
theorem Valid_f {k1:Nat} {z1:Int} {x:Value} {w:World} (hx:IsI k1 z1 x w):Calls prog 162 #[x] w (Ret w (IsV (.bool true))):=by
 obtain ⟨s,a,n,c,rfl,h1⟩:=hx;exact Valid_c w s a n c k1 z1 h1
section
variable {ops:Array Oper} {Q:Exit→Act→World→Prop} {ds:List (Option Tmp)} {a0:Act} {w0:World} {L:List (Value→World→Prop)} {boxes:List Nat} {i:Nat} {o:Oper}
theorem ldWn {W:World} {B:List Fld} (S:Sto W w0 B) (j g q:Nat) {k m:Nat} {z:Int} (hz:z.natAbs=m) {x:Operand} (hx:Od ops ds a0 w0 L i x (IsV (.pointer (some ⟨g,2*q+1,none⟩)))) (h1:B[j]? =some ((g,q),IsI k z):=by rfl) (ho:o.op= .load 27 x:=by rfl) (hi:L.getD i (fun _ _=>True)=IsWz m:=by kernel_rfl) (hb:boxes.contains i=false:=by kernel_rfl):Ok prog ops Q ds a0 w0 L boxes i o:=
 Ok.of hb fun v a w hE hd hf=>by
  have h:a.eval x=_:=hx.out v a w hE hd hf;obtain ⟨s,a',n,c,b,h'⟩:=(S.mono hE).at j g q _ h1;obtain ⟨s2,a2,n2,c2,e,m',⟨xs,hw,hk,hz',hv⟩,hs,he⟩:=h';injection e with e;simp only [Array.mk.injEq,List.cons.injEq,Value.bool.injEq,Value.slice.injEq,and_true] at e;obtain ⟨rfl,rfl,rfl,rfl⟩:=e;have hm:m'=m:=by rw [← hz];cases s <;> simp at he <;> omega
  subst hm;exact ⟨_,ld_run ho h (show (Instr.loadAt 27 (.pointer (some ⟨g,2*q+1,none⟩))).run prog w= .ok (.slice a' n c) w by have h9:=b.c1;go_simp),by rw [hi];exact ⟨_,_,_,xs,rfl,hw,hz',hv⟩⟩
end
theorem RLow_neg {k1:Nat} {z:Int} {x:Value} {w:World} (hx:IsI k1 z x w) (hz:z<0) (hm: -4294967296<z):Calls prog 47 #[x] w (Ret w (IsT2 (iV z) (IsV (.bool true)))):=by
 obtain ⟨m,hna⟩:∃ m,z.natAbs=m:=⟨_,rfl⟩;have hm:m<4294967296:=by omega
 have HNA:=hid hna;have HZ0:=hid hz;have HW0:=hid (show m/4294967296^0%4294967296=m by rw [Nat.pow_zero,Nat.div_one];exact Nat.mod_eq_of_lt hm);have HW1:=hid (show m/4294967296^1%4294967296=0 by rw [Nat.pow_one,Nat.div_eq_of_lt hm]);have HOZ:=hid (or_zero64 m hm);obtain ⟨nw,hnw⟩:∃ x,(if m=0 then 0 else 1)=x:=⟨_,rfl⟩;have HNW:=hid (And.intro hnw hm);have HN1:=hid (show (nw:Int)≤2 by rw [← hnw];split <;> omega);have HMB:=hid (show (m:Int)≤9223372036854775808∧m≤9223372036854775808∧((m:Int)==9223372036854775808)=false∧ ¬ m=9223372036854775808 from ⟨by omega,by omega,by rw [beq_eq_false_iff_ne];omega,by omega⟩);have HCV:=hid (show IntKind.i64.wrap (m:Int)=(m:Int) by simp only [IntKind.wrap_i64];omega);have HNG:=hid (show IntKind.i64.wrap (-(m:Int))=z by simp only [IntKind.wrap_i64];omega);clear hm hnw hna hz;obtain ⟨s1,a1,n1,c1,rfl,h1⟩:=hx;have h1:IsI _ _ _ w:=⟨_,_,_,_,rfl,h1⟩;obtain ⟨W,hW,S⟩:∃ W,W=w.alloc (.cells #[.bool s1,.slice a1 n1 c1] 33)∧Sto w W [((w.heap.size,0),IsI k1 z)]:=⟨_,rfl,((Sto.start w).new1 (w.heap.size) (by simp) s1 a1 n1 c1 33 (IsI k1 z) (IsI.gstb _ _) (h1))⟩;clear h1;go_enter func47,ntmps47;go_upto_region 1 with (fail);rw [← hW];clear hW;refine rg 9 [some 5,some 6,some 7,some 8,some 9,some 10,some 11,some 12,some 4] [IsV (.pointer (some ⟨w.heap.size,1,none⟩)),IsWz m,IsV (.int .u64 (m:Int)),IsV (.pointer (some ⟨w.heap.size,1,none⟩)),IsWz m,IsV (.int .u64 ((0:Nat):Int)),IsV (.int .u64 0),IsV (.int .u64 (m:Int)),IsV (.int .u64 (m:Int))] [] 0 ?_ ?_ (hst:=by repeat' (first | exact trivial | exact IsWz.stb _ | exact IsV.stb _ | exact IsI.stb _ _ | exact IsBo.stb _ _ | apply IsT2.stb | apply IsT3.stb | apply IsJ.stb | apply IsQ.stb | apply IsF.stb | apply And.intro))
 ·refine RgAll.cons (by { (with_reducible refine RgL.mk (by rfl) ?_);intro v a w' hE hd hf;have ev0:=hf.lit 1 (.pointer (some ⟨w.heap.size,0,none⟩)) (by kernel_rfl) (by kernel_rfl);clear hd hf;intro K hK;go_simp;exact hK.out _ _ (Ext.refl _) rfl (FreshIf.no rfl)}) ?_;refine Rc (ldWn S 0 (w.heap.size) 0 (HNA.out) (Od.lc 0 5)) ?_;refine Rc (cl2 (en func90) (Od.lc (Φ:=IsWz m) 1 6) Od.con (fun x0 x1 w' hE d0 d1=>by { obtain rfl:x1= .int .i64 0:=d1;exact (by have hh:=wz_word (i:=0) d0 dcx;rw [HW0.out] at hh;exact hh)})) ?_;refine RgAll.cons (by { (with_reducible refine RgL.mk (by rfl) ?_);intro v a w' hE hd hf;have ev0:=hf.lit 1 (.pointer (some ⟨w.heap.size,0,none⟩)) (by kernel_rfl) (by kernel_rfl);clear hd hf;intro K hK;go_simp;exact hK.out _ _ (Ext.refl _) rfl (FreshIf.no rfl)}) ?_;refine Rc (ldWn S 0 (w.heap.size) 0 (HNA.out) (Od.lc 3 8)) ?_;refine Rc (cl2 (en func90) (Od.lc (Φ:=IsWz m) 4 9) Od.con (fun x0 x1 w' hE d0 d1=>by { obtain rfl:x1= .int .i64 1:=d1;exact (by have hh:=wz_word (i:=1) d0 dcx;rw [HW1.out] at hh;exact hh)})) ?_;refine Rc (bn (r:= .int .u64 0) (Od.loc 5 10) Od.con (hr:=fun w=>by have hx9:IntKind.u64.wrap 0=0:=dcx;go_simp)) ?_;refine Rc (bn (r:= .int .u64 (m:Int)) (Od.loc 2 7) (Od.loc 6 11) (hr:=fun w=>by have hx9:=HOZ.out;go_simp)) ?_;refine Rc (mv (Od.lc 7 12)) ?_;exact rn0
 intro v W1 e1 hΦ _;replace S:=S.mono e1;have v8:v 8= .int .u64 (m:Int):=hΦ 8 dcx;simp only [lxE,Nat.reduceAdd];rw [v8];clear v8 hΦ e1;refine wpAny_done (by kernel_rfl) ?_ _;go_upto_region 2 with (fail);refine rgs 17 [some 13,some 14,some 15,some 16,some 17,some 18,some 19,some 20,some 21,some 22,some 23,some 24,some 25,some 26,some 27,some 28,some 29] [IsV (.pointer (some ⟨w.heap.size,1,none⟩)),IsWz m,iV (nw:Int),IsV (.bool false),IsV (.bool false),IsV (.int .u64 (m:Int)),IsV (.bool false),IsV (.bool false),IsV (.bool false),IsV (.int .u64 (m:Int)),IsV (.bool false),IsV (.bool false),IsV (undef),IsV (undef),IsV (undef),IsV (.bool false),IsV (.bool false)] [] ?_ ?_ (hst:=by repeat' (first | exact trivial | exact IsWz.stb _ | exact IsV.stb _ | exact IsI.stb _ _ | exact IsBo.stb _ _ | apply IsT2.stb | apply IsT3.stb | apply IsJ.stb | apply IsQ.stb | apply IsF.stb | apply And.intro))
 ·refine RgAll.cons (by { (with_reducible refine RgL.mk (by rfl) ?_);intro v a w' hE hd hf;have ev0:=hf.lit 1 (.pointer (some ⟨w.heap.size,0,none⟩)) (by kernel_rfl) (by kernel_rfl);clear hd hf;intro K hK;go_simp;exact hK.out _ _ (Ext.refl _) rfl (FreshIf.no rfl)}) ?_;refine Rc (ldWn S 0 (w.heap.size) 0 (HNA.out) (Od.lc 0 13)) ?_;refine Rc (lenz (HNW.out) (Od.lc 1 14)) ?_;refine Rc (bn (r:= .bool false) (Od.loc 2 15) Od.con (hr:=fun w=>by have hx9:=HN1.out;go_simp)) ?_;refine Rc (mv (Od.lc 3 16)) ?_;refine RcG 4 17 false (mv (Od.lit 4)) ?_;refine RcG 4 17 false (bn (r:= .bool false) (Od.loc 5 18) Od.con (hr:=fun w=>by have hx9:=HMB.out.1;have hx8:=HMB.out.2.1;go_simp)) ?_;refine Rc (pk (Od.loc 4 17) (Od.lc 6 19)) ?_;refine Rc (mv (Od.lc 7 20)) ?_;refine RcG 8 21 false (mv (Od.lit 4)) ?_;refine RcG 8 21 false (bn (r:= .bool false) (Od.loc 9 22) Od.con (hr:=fun w=>by have hx9:=HMB.out.2.2.1;have hx8:=HMB.out.2.2.2;go_simp)) ?_;refine RcG 8 21 false (mv (Od.lc 10 23)) ?_;refine RcN 11 24 false ?_;refine RcN 11 24 false ?_;refine RcN 11 24 false ?_;refine RcG 8 21 false (pk (Od.loc 11 24) Od.con) ?_;refine Rc (pk (Od.loc 8 21) (Od.lc 15 28)) ?_;exact rn0
 intro v W2 e1 hΦ _;replace S:=S.mono e1;have v16:v 16= .bool false:=hΦ 16 dcx;simp only [lxE,Nat.reduceAdd];rw [v16];clear v16 hΦ e1;refine wpList_nil ?_;go_upto_region 4 with (fail);refine rgs 2 [some 30,some 31] [IsV (.pointer (some ⟨w.heap.size,0,none⟩)),IsV (.bool true)] [] ?_ ?_
 ·refine RgAll.cons (by { (with_reducible refine RgL.mk (by rfl) ?_);intro v a w' hE hd hf;have ev0:=hf.lit 1 (.pointer (some ⟨w.heap.size,0,none⟩)) (by kernel_rfl) (by kernel_rfl);clear hd hf;intro K hK;go_simp;exact hK.out _ _ (Ext.refl _) rfl (FreshIf.no rfl)}) ?_;refine RgAll.cons (by { (with_reducible refine RgL.mk (by rfl) ?_);intro v a w' hE hd hf;have d0:v 0= .pointer (some ⟨w.heap.size,0,none⟩):=hd 0 (by kernel_rfl);have ev0:=hf.val 0 30 _ d0 (by kernel_rfl) (by kernel_rfl) (by kernel_rfl);clear d0;obtain ⟨szx,azx,nzx,czx,bzx,hzx⟩:=(S.mono hE).at 0 (w.heap.size) 0 (IsI k1 z) rfl;have Lzxa:World.cell? w' ⟨w.heap.size,0,none⟩=some (.bool szx):=bzx.c0;have Lzxb:World.cell? w' ⟨w.heap.size,1,none⟩=some (.slice azx nzx czx):=bzx.c1;obtain rfl:=hzx.neg' (HZ0.out);clear hd hf;intro K hK;go_simp;exact hK.out _ _ (Ext.refl _) rfl (FreshIf.no rfl)}) ?_;exact rn0
 intro v W3 e1 hΦ _;replace S:=S.mono e1;have v1:v 1= .bool true:=hΦ 1 dcx;simp only [lxE,Nat.reduceAdd];rw [v1];clear v1 hΦ e1;refine wpList_nil ?_;go_upto_region 5 with (fail);refine rgs 5 [some 32,some 33,some 34,some 2,some 3] [IsV (.int .u64 (m:Int)),iV (m:Int),iV z,iV z,IsV (.bool true)] [] ?_ ?_
 ·refine Rc (mv (Od.lit 4)) ?_;refine RgAll.cons (by { (with_reducible refine RgL.mk (by rfl) ?_);intro v a w' hE hd hf;have d0:v 0= .int .u64 (m:Int):=hd 0 (by kernel_rfl);have ev0:=hf.val 0 32 _ d0 (by kernel_rfl) (by kernel_rfl) (by kernel_rfl);clear d0;have hx9:=HCV.out;clear hd hf;intro K hK;go_simp;exact hK.out _ _ (Ext.refl _) rfl (FreshIf.no rfl)}) ?_;refine Rc (un (r:= .int .i64 z) (Od.loc 1 33) (hr:=fun w=>by have hx9:=HNG.out;go_simp)) ?_;refine Rc (mv (Od.lc 2 34)) ?_;refine Rc (mv Od.con) ?_;exact rn0
 intro v W4 e1 hΦ _;replace S:=S.mono e1;have v3:v 3= .int .i64 z:=hΦ 3 dcx;have v4:v 4= .bool true:=hΦ 4 dcx;simp only [lxE,Nat.reduceAdd];rw [v3,v4];clear v3 v4 hΦ e1;refine wpList_nil ?_;go_wp2_with fail;exact bodyPost_ret (v:= .tuple #[.int .i64 z,.bool true]) (by simp [results,results47,go_sem]) rfl (⟨_,rfl,S.ext,⟨_,_,rfl,rfl,rfl⟩⟩)
theorem RLow_i {k1:Nat} {z:Int} {x:Value} {w:World} (hx:IsI k1 z x w) (h1: -4294967296<z) (h2:z<4294967296):Calls prog 47 #[x] w (Ret w (IsT2 (iV z) (IsV (.bool true)))):=by
 rcases Int.lt_or_le z 0 with h | h
 ·exact RLow_neg hx h h1
 ·obtain ⟨m,rfl⟩:=Int.eq_ofNat_of_zero_le h;exact RLow_f hx (by omega)
theorem sign_ge {b:Int} (h:0≤b):decide (0≤b.sign)=true:=by
 rw [decide_eq_true_iff];rcases Int.lt_or_eq_of_le h with h | h
 ·rw [Int.sign_eq_one_of_pos h];decide
 ·rw [← h];decide
theorem cmp_z {a b:Int} (h:a=b):(cmpI a b==0)=true:=by
 unfold cmpI;rw [if_neg (by omega),if_neg (by omega)];decide
theorem cmp_nz {a b:Int} (h:a≠b):(cmpI a b==0)=false:=by
 unfold cmpI
 split
 ·decide
 ·rw [if_pos (by omega)];decide
theorem qnumber_f (w:World) (z:Int) (h1: -9223372036854775808≤z) (h2:z≤9223372036854775807):Calls prog 122 #[.int .i64 z] w (Ret w (IsI 2 z)):=by
 have HZ:=hid (And.intro h1 h2);clear h1 h2;obtain ⟨W,hW,S⟩:∃ W,W=w.alloc (.cells #[.bool false,.slice none 0 0] 33)∧Sto w W [((w.heap.size,0),IsI 0 0)]:=⟨_,rfl,((Sto.start w).new1 (w.heap.size) (by simp) false none 0 0 33 (IsI 0 0) (IsI.gstb _ _) (IsI.nil _ _))⟩;go_enter func122,ntmps122;go_upto_region 1 with (fail);rw [← hW];clear hW;refine rgs 2 [some 3,some 4] [iV z,IsI 2 z] [] ?_ ?_
 ·refine Rc (mv (Od.lit 0)) ?_;refine Rc (cl1 (en func41) (Od.lc (Φ:=iV z) 0 3) (fun x0 w' hE d0=>by { obtain rfl:x0= .int .i64 z:=d0;exact Of_f _ z HZ.out.1 HZ.out.2})) ?_;exact rn0
 intro v W1 e1 hΦ _;replace S:=S.mono e1;have h4:=hΦ 1 dcx;simp only [lxE,Nat.reduceAdd];clear hΦ e1
 try simp only [dxE]
 (with_reducible refine stL ?_ (by rfl));intro KK hKK;refine stI S 0 (w.heap.size) 0 h4 st_Int (fun W2 S2 G2=>hKK _ _ ?_) rfl
 replace S:=S2;clear S2 G2 hKK KK h4;simp only [u0x] at S;refine wpList_nil ?_;go_wp2_with fail;obtain ⟨s90x,a90x,n90x,c90x,b90x,h90x⟩:=S.at 0 (w.heap.size) 0 (IsI 2 z) rfl;have L90xa:World.cell? W2 ⟨w.heap.size,0,none⟩=some (.bool s90x):=b90x.c0;have L90xb:World.cell? W2 ⟨w.heap.size,1,none⟩=some (.slice a90x n90x c90x):=b90x.c1;exact bodyPost_ret (v:= .agg #[.bool s90x,.slice a90x n90x c90x]) (by simp [results,results122,go_sem,L90xa,L90xb]) rfl (⟨_,rfl,S.ext,h90x⟩)
theorem qPrim_c {a b c:Int} {x:Value} {w:World} (hx:IsF (IsI 2 a) (IsI 2 b) (IsI 2 c) x w) {c1:Int} {e:Bool} (HC:Hid (cmpI ((Int.gcd a ((Int.gcd b c:Nat):Int):Nat):Int) 1=c1)) (HE:Hid ((c1==0)=e)):Calls prog 68 #[x] w (Ret w (IsV (.bool e))):=by
 obtain ⟨s1x,a1x,n1x,c1x,s1y,a1y,n1y,c1y,s1z,a1z,n1z,c1z,rfl,h1x,h1y,h1z⟩:=hx;obtain ⟨W,hW,S⟩:∃ W,W=w.alloc (.cells #[.bool s1x,.slice a1x n1x c1x,.bool s1y,.slice a1y n1y c1y,.bool s1z,.slice a1z n1z c1z] 62)∧Sto w W [((w.heap.size,2),IsI 2 c),((w.heap.size,1),IsI 2 b),((w.heap.size,0),IsI 2 a)]:=⟨_,rfl,((Sto.start w).new3 (w.heap.size) (by simp) s1x s1y s1z a1x a1y a1z n1x c1x n1y c1y n1z c1z 62 (IsI 2 a) (IsI 2 b) (IsI 2 c) (IsI.gstb _ _) (h1x) (IsI.gstb _ _) (h1y) (IsI.gstb _ _) (h1z))⟩;clear h1x h1y h1z;go_enter func68,ntmps68;go_upto_region 1 with (fail);rw [← hW];clear hW;refine rg 12 [some 3,some 4,some 5,some 6,some 7,some 8,some 9,some 10,some 11,some 12,some 13,some 2] [IsV (.pointer (some ⟨w.heap.size,0,none⟩)),IsI 2 a,IsV (.pointer (some ⟨w.heap.size,2,none⟩)),IsI 2 b,IsV (.pointer (some ⟨w.heap.size,4,none⟩)),IsI 2 c,IsI 2 (((Int.gcd b c:Nat):Int)),IsI 2 (((Int.gcd a ((Int.gcd b c:Nat):Int):Nat):Int)),IsI 2 1,iV c1,IsV (.bool e),IsV (.bool e)] [] 0 ?_ ?_
 ·refine Rc (fa (fa_Frm0 (w.heap.size) 0) (Od.lit 1)) ?_;refine Rc (ldI S 2 (w.heap.size) 0 (Od.lc 0 3) ld_Int) ?_;refine Rc (fa (fa_Frm1 (w.heap.size) 0) (Od.lit 1)) ?_;refine Rc (ldI S 1 (w.heap.size) 1 (Od.lc 2 5) ld_Int) ?_;refine Rc (fa (fa_Frm2 (w.heap.size) 0) (Od.lit 1)) ?_;refine Rc (ldI S 0 (w.heap.size) 2 (Od.lc 4 7) ld_Int) ?_;refine Rc (cl2 (en func50) (Od.lc (Φ:=IsI 2 b) 3 6) (Od.lc (Φ:=IsI 2 c) 5 8) (fun x0 x1 w' hE d0 d1=>Gcd_f d0 d1 dcx dcx)) ?_;refine Rc (cl2 (en func50) (Od.lc (Φ:=IsI 2 a) 1 4) (Od.lc (Φ:=IsI 2 (((Int.gcd b c:Nat):Int))) 6 9) (fun x0 x1 w' hE d0 d1=>Gcd_f d0 d1 dcx dcx)) ?_;refine Rc (cl1 (en func122) Od.con (fun x0 w' hE d0=>by { obtain rfl:x0= .int .i64 1:=d0;exact qnumber_f _ 1 dcx dcx})) ?_;refine Rc (cl2 (en func52) (Od.lc (Φ:=IsI 2 (((Int.gcd a ((Int.gcd b c:Nat):Int):Nat):Int))) 7 10) (Od.lc (Φ:=IsI 2 1) 8 11) (fun x0 x1 w' hE d0 d1=>Calls.mono (Cmp_f d0 d1 dcx dcx) fun _ _ h=>h.int HC.out)) ?_;refine Rc (bn (r:= .bool e) (Od.loc 9 12) Od.con (hr:=fun w=>by have hx9:=HE.out;go_simp)) ?_;refine Rc (mv (Od.lc 10 13)) ?_;exact rn0
 intro v W1 e1 hΦ _;replace S:=S.mono e1;have v11:v 11= .bool e:=hΦ 11 dcx;simp only [lxE,Nat.reduceAdd];rw [v11];clear v11 hΦ e1;refine wpAny_done (by kernel_rfl) ?_ _;go_wp2_with fail;exact bodyPost_ret (v:= .bool e) (by simp [results,results68,go_sem]) rfl (⟨_,rfl,S.ext,rfl⟩)
theorem qPrim_f {a b c:Int} {x:Value} {w:World} (hx:IsF (IsI 2 a) (IsI 2 b) (IsI 2 c) x w):Calls prog 68 #[x] w (Ret w (IsV (.bool (fmPrim (a,b,c))))):=by
 refine qPrim_c hx (hid rfl) (hid ?_);unfold fmPrim;have e:(Int.gcd ((Int.gcd a b:Nat):Int) c)=Int.gcd a ((Int.gcd b c:Nat):Int):=Int.gcd_assoc a b c;simp only [e];by_cases h:((Int.gcd a ((Int.gcd b c:Nat):Int):Nat):Int)=1
 ·rw [cmp_z h,decide_eq_true h]
 ·rw [cmp_nz h,decide_eq_false h]
end Go.Proofs.YtknffgdbdadpcaaGreatDoor
