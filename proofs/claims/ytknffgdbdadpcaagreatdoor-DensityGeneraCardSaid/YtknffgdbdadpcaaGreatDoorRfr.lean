/-
 The iterator of density.powers: it ranges over pw, the factors of n; its n lies in a box of its own.
 The caller of a range over a function, in the plain mode: a function's contract where its body holds such ranges; the statement itself.
 Regions in a round of a range over a function: what the rules on regions show in a function's own frame holds in a round's frame as well.
-/
import Derived.Test.YtknffgdbdadpcaaGreatDoorPw
import Derived.Test.YtknffgdbdadpcaaGreatDoorBase
import Derived.RangeFuncLeaves
import Derived.Shelf.Abstract
import Derived.WalkKit
import Derived.OwnWalkIn
import Derived.TacticsInMore
import Derived.LoopNIn
import Derived.LoopIn
import Derived.RangeFuncBox
import Derived.Test.YtknffgdbdadpcaaGreatDoorProg
import Derived.Test.YtknffgdbdadpcaaGreatDoorSto
import Derived.OrdersIn
namespace Go.Proofs.YtknffgdbdadpcaaGreatDoor
open Go Go.RowKit Go.Shelf
set_option maxRecDepth 100000
set_option maxHeartbeats 4000000
attribute [local go_sem] Oper.semAt_some
theorem wrapN (z:Nat) (h:z≤9223372036854775807):wrap64 (z:Int)=(z:Int):=by simp only [wrap64];omega
theorem sq_small {q r:Nat} (h:q*q≤r) (hr:r≤4611686018427387904):q≤2147483648:=by
 rcases Nat.lt_or_ge 2147483648 q with g | g
 ·have g':2147483649≤q:=by omega
  have:=Nat.mul_le_mul g' g';omega
 ·exact g
theorem pw_one (f p:Nat):pw f p 1= []:=by cases f <;> simp [pw]
theorem vl_step {q n:Nat} (hq:2≤q) (hn:0<n) (h:n%q=0):vl q n=vl q (n/q)+1:=by
 obtain ⟨m,rfl⟩:=Nat.dvd_of_mod_eq_zero h;have hm:0<m:=Nat.pos_of_ne_zero fun k=>by subst k;simp at hn
 rw [Nat.mul_div_cancel_left m (by omega)];obtain ⟨r,e,h1,h2⟩:=vl_spec hq hm;refine vl_uniq hq h2 ?_ h1
 conv=>lhs;rw [e]
 rw [Nat.pow_succ,Nat.mul_assoc,Nat.mul_left_comm]
theorem ps_div {d r r2 k0:Nat} (hd:2≤d) (h20:0<r2) (hmod:r2%d=0) (hr:r2≤r) (hk:k0+r2≤r+1) (hb:r≤4611686018427387904) (hvl:vl d r=vl d r2+k0) (hrr:d^k0*r2=r):
  ∃ m2:Nat,wrap64 ((r2:Int)/(d:Int))=(m2:Int)∧0<m2∧m2≤r∧k0+1≤r∧k0+1+m2≤r+1∧vl d r=vl d m2+(k0+1)∧d^(k0+1)*m2=r∧m2<r2:=by
 have hst:=vl_step hd h20 hmod;obtain ⟨m2,rfl⟩:=Nat.dvd_of_mod_eq_zero hmod;have hm20:0<m2:=Nat.pos_of_ne_zero fun g=>by subst g;exact absurd h20 (by simp)
 have h2m:=Nat.mul_le_mul_right m2 hd;have hdiv:d*m2/d=m2:=Nat.mul_div_cancel_left m2 (by omega);rw [hdiv] at hst;generalize hx:d*m2=x at*;refine ⟨m2,?_,hm20,by omega,by omega,by omega,by omega,?_,by omega⟩
 ·rw [← Int.natCast_ediv,hdiv];exact wrapN _ (by omega)
 ·rw [← hrr,← hx,Nat.pow_succ,Nat.mul_assoc]
theorem ps_out {d r r2 k0:Nat} (hd:2≤d) (h20:0<r2) (hmod:¬ r2%d=0) (hvl:vl d r=vl d r2+k0) (hrr:d^k0*r2=r):vl d r=k0∧r/d^vl d r=r2:=by
 have h0:vl d r2=0:=vl_zero hd h20 fun h=>hmod (Nat.mod_eq_zero_of_dvd h)
 have h1:vl d r=k0:=by omega
 refine ⟨h1,?_⟩;rw [h1,← hrr];exact Nat.mul_div_cancel_left _ (Nat.pow_pos (by omega))
theorem ps_last {r r2 k0:Nat} (hd:2≤r) (h1:vl r r=k0) (hrr:r^k0*r2=r):r2=1:=by
 rw [vl_self hd] at h1;subst h1;rw [Nat.pow_one] at hrr;exact Nat.eq_of_mul_eq_mul_left (show 0<r by omega) (by rw [hrr,Nat.mul_one])
theorem ps_cell {A B:World} {c:Nat} {v:Value} (h:B.heap[c]? =A.heap[c]?) (hc:A.cell? ⟨c,0,none⟩=some v):B.cell? ⟨c,0,none⟩=some v:=by
 unfold World.cell? at hc ⊢;rw [h];exact hc
theorem ps_frozen {A B:World} {c:Nat} (h:B.heap[c]? =A.heap[c]?) (hc:A.frozen? ⟨c,0,none⟩=false):B.frozen? ⟨c,0,none⟩=false:=by
 unfold World.frozen? at hc ⊢;rw [h];exact hc
theorem powers1_in (F:Fence) (n:Nat) (h6:F.fn 89) (hro:F.round=none) (hn:1≤n) (w:World) (c:Nat) (m:Nat) (hm:0<m) (hb:m≤4611686018427387904)
  (hc:w.cell? ⟨c,0,none⟩=some (.int .i64 (m:Int))) (hf:w.frozen? ⟨c,0,none⟩=false):
  SeqBox F n Tryz.prog 89 #[.pointer (some ⟨c,0,none⟩)] (fun x:Nat×Nat=> #[.int .i64 (x.1:Int),.int .i64 (x.2:Int)]) c (fun xs=>xs=pw m 2 m) (fun pre=>pre <+:pw m 2 m) w:=fun l J Jx W hBel hJ hJx hY h0=>by
 have hcl:=World.block_lt_of_cell? w _ hc;have hcW:=(hBel.cell hcl).trans hc;have hfW:=(hBel.frozen hcl).trans hf;clear hc hf;obtain ⟨T,hT⟩:∃ T,pw m 2 m=T:=⟨_,rfl⟩;rw [hT] at hY ⊢;refine callsIn_of_wp Tryz.func89 rfl h6 ?_ hro;simp only [Tryz.ntmps89,List.size_toArray,List.length_cons,List.length_nil,Nat.reduceAdd,Nat.reduceSub,Array.replicate_succ,Array.replicate_zero,List.push_toArray,List.append_toArray,List.nil_append,List.cons_append]
 gi_wp2
 gi_loopw [3] (fun p wr=> ∃ (pre:List (Nat×Nat)) (q f r:Nat),p= .int .i64 (q:Int)∧wr.cell? ⟨c,0,none⟩=some (.int .i64 (r:Int))∧wr.frozen? ⟨c,0,none⟩=false∧
   pre++pw f q r=T∧2≤q∧q≤m+1∧0<r∧r≤m∧(r=1∨(q≤2147483649∧f+q=m+2))∧J pre wr)
  (fun p wr=>match p,wr.cell? ⟨c,0,none⟩ with | .int _ z,some (.int _ y)=>if y=1 then 0 else (m+3-z).toNat | _,_=>0)
 case atStart=>
  exact ⟨[],2,m,m,rfl,hcW,hfW,hT,by omega,by omega,hm,Nat.le_refl _,.inr (by omega),h0⟩
 case round=>
  obtain ⟨pre,q,f,r,rfl,hcell,hfr,hpw,hq2,hqm,hr0,hrm,hor,hJs⟩:=hrel;by_cases hr1:r=1
  ·subst hr1
   gi_wp2
   go_end0
   exact ⟨⟨_,rfl⟩,.inl (by rw [pw_one,List.append_nil] at hpw;rwa [← hpw])⟩
  ·obtain ⟨hq3,hfq⟩:=hor.resolve_left hr1;have hd:decide ((r:Int) >1)=true:=by simp;omega
   have hsq:q*q≤2147483649*2147483649:=Nat.mul_le_mul hq3 hq3;have hw:wrap64 ((q:Int)*(q:Int))=((q*q:Nat):Int):=by rw [← Int.natCast_mul];exact wrapN _ (by omega)
   obtain ⟨f,rfl⟩:∃ g,f=g+1:=⟨f-1,by omega⟩;rw [pw,if_neg (by omega)] at hpw
   gi_wp2
   ·rename_i K1 hK1 hle K2 hK2
    have hle':r<q*q:=by have h':=hle;norm_cast at h';all_goals omega
    rw [if_pos hle'] at hpw;have hd2:2≤r:=by omega
    have hrb:r≤4611686018427387904:=Nat.le_trans hrm hb;clear hsq hw
    gi_loopw [4] (fun k wr2=> ∃ (k0 r2:Nat),k= .int .i64 (k0:Int)∧wr2.cell? ⟨c,0,none⟩=some (.int .i64 (r2:Int))∧wr2.frozen? ⟨c,0,none⟩=false∧0<r2∧r2≤r∧k0≤r∧
      k0+r2≤r+1∧vl r r=vl r r2+k0∧r^k0*r2=r∧J pre wr2)
     (fun _ wr2=>match wr2.cell? ⟨c,0,none⟩ with | some (.int _ z)=>z.toNat | _=>0)
    case atStart=>exact ⟨0,r,rfl,hcell,hfr,hr0,Nat.le_refl _,by omega,by omega,by omega,by simp,hJs⟩
    case round=>
     obtain ⟨k0,r2,rfl,hc2,hf2,h20,h2r,hkr,hkr2,hvl,hrr,hJ2⟩:=hrel
     gi_wp2
     ·rename_i hh
      have hmod:r2%r=0:=by have h':=beq_iff_eq.1 hh;exact_mod_cast h'
      obtain ⟨m2,hwd,hm20,hm2r,hkr',hkr2',hvl',hrr',hlt⟩:=ps_div hd2 h20 hmod h2r hkr2 hrb hvl hrr;have hnew:=World.cell?_setCell_same' wr ⟨c,0,none⟩ (.int .i64 (m2:Int)) (by rw [hc2];rfl);rw [← hwd] at hnew
      go_roundw
      case rel=>
       rw [hwd] at hnew ⊢;exact ⟨k0+1,m2,rfl,hnew,by rw [World.frozen?_setCell];exact hf2,hm20,hm2r,hkr',hkr2',hvl',hrr',hJ _ _ _ hJ2 (grownBy_setCell' _ _ _)⟩
      case measure=>
       rw [hwd] at hnew ⊢;simp only [hnew,hc2,Int.toNat_natCast];exact hlt
     ·rename_i hh K3 hK3 hk0 K4 hK4
      have hmod:¬ r2%r=0:=by intro g;rw [beq_eq_false_iff_ne] at hh;exact hh (by exact_mod_cast g)
      obtain ⟨hv1,hv2⟩:=ps_out hd2 h20 hmod hvl hrr;have hk0':0<k0:=by omega
      rw [hv2,hv1,if_pos hk0'] at hpw;obtain ⟨fn,tmps,assign,body,hy,hR⟩:=hY pre (r,k0) wr hJ2 ⟨_,by rw [List.append_assoc];exact hpw⟩;dsimp only at hy;rw [hy,Oper.uponIn_round];refine ⟨fun _=>hn,hR.mono ?_⟩;rintro e W3 (⟨rfl,hJ3,hk3⟩ | ⟨rfl,hJx3⟩)
      ·gi_wp2
       go_roundw
       case rel=>exact ⟨pre++ [(r,k0)],r+1,f,r2,rfl,ps_cell hk3 hc2,ps_frozen hk3 hf2,by rw [← hpw];simp,by omega,by omega,h20,by omega,.inl (ps_last hd2 hv1 hrr),hJ3⟩
       case measure=>simp only [ps_cell hk3 hc2,hcell];rw [if_neg (show ¬ (r:Int)=1 by omega)];have hr2:=ps_last hd2 hv1 hrr;split <;> omega
      ·gi_wp2
       refine bodyPost_ret (results_none rfl _ _ _) rfl ?_;exact ⟨⟨_,rfl⟩,.inr ⟨_,⟨_,by rw [List.append_assoc];exact hpw⟩,hJx3⟩⟩
     ·rename_i hh K3 hK3 hk0 K4 hK4 x0 x1 x2 hx
      have hmod:¬ r2%r=0:=by intro g;rw [beq_eq_false_iff_ne] at hh;exact hh (by exact_mod_cast g)
      obtain ⟨hv1,hv2⟩:=ps_out hd2 h20 hmod hvl hrr;have hk0':¬ 0<k0:=by omega
      rw [hv2,hv1,if_neg hk0',List.nil_append] at hpw;refine ⟨fun f hf=>(by cases hf),hK4 _ _ ?_⟩
      gi_wp2
      go_roundw
      case rel=>exact ⟨pre,r+1,f,r2,rfl,hc2,hf2,hpw,by omega,by omega,h20,by omega,.inl (ps_last hd2 hv1 hrr),hJ2⟩
      case measure=>simp only [hc2,hcell];rw [if_neg (show ¬ (r:Int)=1 by omega)];have hr2:=ps_last hd2 hv1 hrr;split <;> omega
   ·rename_i K1 hK1 hle K2 hK2
    have hle':q*q≤r:=by have h':=hle;norm_cast at h';all_goals omega
    rw [if_neg (show ¬ r<q*q by omega)] at hpw;have hqr:q≤r:=Nat.le_trans (Nat.le_mul_self q) hle';have hq4:q≤2147483648:=sq_small hle' (by omega);have hd2:=hq2;have hrb:r≤4611686018427387904:=Nat.le_trans hrm hb;clear hsq hw
    gi_loopw [4] (fun k wr2=> ∃ (k0 r2:Nat),k= .int .i64 (k0:Int)∧wr2.cell? ⟨c,0,none⟩=some (.int .i64 (r2:Int))∧wr2.frozen? ⟨c,0,none⟩=false∧0<r2∧r2≤r∧k0≤r∧
      k0+r2≤r+1∧vl q r=vl q r2+k0∧q^k0*r2=r∧J pre wr2)
     (fun _ wr2=>match wr2.cell? ⟨c,0,none⟩ with | some (.int _ z)=>z.toNat | _=>0)
    case atStart=>exact ⟨0,r,rfl,hcell,hfr,hr0,Nat.le_refl _,by omega,by omega,by omega,by simp,hJs⟩
    case round=>
     obtain ⟨k0,r2,rfl,hc2,hf2,h20,h2r,hkr,hkr2,hvl,hrr,hJ2⟩:=hrel
     gi_wp2
     ·rename_i hh
      have hmod:r2%q=0:=by have h':=beq_iff_eq.1 hh;exact_mod_cast h'
      obtain ⟨m2,hwd,hm20,hm2r,hkr',hkr2',hvl',hrr',hlt⟩:=ps_div hd2 h20 hmod h2r hkr2 hrb hvl hrr;have hnew:=World.cell?_setCell_same' wr ⟨c,0,none⟩ (.int .i64 (m2:Int)) (by rw [hc2];rfl);rw [← hwd] at hnew
      go_roundw
      case rel=>
       rw [hwd] at hnew ⊢;exact ⟨k0+1,m2,rfl,hnew,by rw [World.frozen?_setCell];exact hf2,hm20,hm2r,hkr',hkr2',hvl',hrr',hJ _ _ _ hJ2 (grownBy_setCell' _ _ _)⟩
      case measure=>
       rw [hwd] at hnew ⊢;simp only [hnew,hc2,Int.toNat_natCast];exact hlt
     ·rename_i hh K3 hK3 hk0 K4 hK4
      have hmod:¬ r2%q=0:=by intro g;rw [beq_eq_false_iff_ne] at hh;exact hh (by exact_mod_cast g)
      obtain ⟨hv1,hv2⟩:=ps_out hd2 h20 hmod hvl hrr;have hk0':0<k0:=by omega
      rw [hv2,hv1,if_pos hk0'] at hpw;obtain ⟨fn,tmps,assign,body,hy,hR⟩:=hY pre (q,k0) wr hJ2 ⟨_,by rw [List.append_assoc];exact hpw⟩;dsimp only at hy;rw [hy,Oper.uponIn_round];refine ⟨fun _=>hn,hR.mono ?_⟩;rintro e W3 (⟨rfl,hJ3,hk3⟩ | ⟨rfl,hJx3⟩)
      ·gi_wp2
       go_roundw
       case rel=>exact ⟨pre++ [(q,k0)],q+1,f,r2,rfl,ps_cell hk3 hc2,ps_frozen hk3 hf2,by rw [← hpw];simp,by omega,by omega,h20,by omega,.inr ⟨by omega,by omega⟩,hJ3⟩
       case measure=>simp only [ps_cell hk3 hc2,hcell];rw [if_neg (show ¬ (r:Int)=1 by omega)];split <;> omega
      ·gi_wp2
       refine bodyPost_ret (results_none rfl _ _ _) rfl ?_;exact ⟨⟨_,rfl⟩,.inr ⟨_,⟨_,by rw [List.append_assoc];exact hpw⟩,hJx3⟩⟩
     ·rename_i hh K3 hK3 hk0 K4 hK4 x0 x1 x2 hx
      have hmod:¬ r2%q=0:=by intro g;rw [beq_eq_false_iff_ne] at hh;exact hh (by exact_mod_cast g)
      obtain ⟨hv1,hv2⟩:=ps_out hd2 h20 hmod hvl hrr;have hk0':¬ 0<k0:=by omega
      rw [hv2,hv1,if_neg hk0',List.nil_append] at hpw;refine ⟨fun f hf=>(by cases hf),hK4 _ _ ?_⟩
      gi_wp2
      go_roundw
      case rel=>exact ⟨pre,q+1,f,r2,rfl,hc2,hf2,hpw,by omega,by omega,h20,by omega,.inr ⟨by omega,by omega⟩,hJ2⟩
      case measure=>simp only [hc2,hcell];rw [if_neg (show ¬ (r:Int)=1 by omega)];split <;> omega
theorem calls_of_wp_marks {P:Program} {f:FuncId} {fn:Func} {c:Code} {args:Array Value} {w:World} {R:Ending→World→Prop}
  (hf:P.funcs[f]? =some fn) (hb:fn.body=some c) (h:c.wp P (bodyPostM Fence.wide 9 P fn R) { tmps:=args++Array.replicate (fn.ntmps-args.size) undef,defers:= []} w):Calls P f args w R:=
 callsIn_wide.1 (callsIn_of_wp_marks hf hb trivial (wpIn_wide.2 h))
theorem marks_ret1 {P:Program} {fn:Func} {R:Ending→World→Prop} {t:Array Value} {w:World} {v:Value} {D:Nat} (hD:w.heap[D]? =some (.deferred (some [])))
  (h:(results fn t).run P (w.putObj D (.deferred none))= .ok v (w.putObj D (.deferred none))) (hR:R (.returned v) (w.putObj D (.deferred none))):
  bodyPostM Fence.wide 9 P fn R .ret { tmps:=t,defers:= [{ target:= .collected D,args:= #[]}]} w:=⟨by simp,.inl ⟨_,_,rfl,run_takeDeferred hD,v,h,hR⟩⟩
theorem in_round {n:Nat} {P:Program} {f:FuncId} {args:Array Value} {w:World} {R:Ending→World→Prop} (l:Nat) (h:Calls P f args w R):CallsIn (Fence.wide.inRound l) n P f args w R:=(callsIn_wide (n:=n)).2 h
theorem ext_keeps {W W':World} (h:Ext W W'):KeepsOthers W W':=⟨h.size,fun k _ hk _=>(h.block k (Array.getElem?_eq_some_iff.1 hk).1).trans hk⟩
theorem lone_cell {A B:World} {c:Nat} {p:Addr} {v:Value} (h:A.cell? p=some v) (hg:A.grownBy B (some c)) (hne:p.block≠c):B.cell? p=some v:=by
 have hb:B.heap[p.block]? =A.heap[p.block]? :=hg.block _ (World.block_lt_of_cell? A p h) (fun e=>hne (by cases e;rfl));exact (World.cell?_of_block (w:=A) hb).trans h
theorem lone_frozen {A B:World} {c:Nat} {p:Addr} {v:Value} (h:A.cell? p=some v) (hg:A.grownBy B (some c)) (hne:p.block≠c):B.frozen? p=A.frozen? p:=by
 have hb:B.heap[p.block]? =A.heap[p.block]? :=hg.block _ (World.block_lt_of_cell? A p h) (fun e=>hne (by cases e;rfl));exact World.frozen?_of_block (w:=A) hb
theorem lone_below {n:Nat} {W0 A B:World} {c:Nat} (h:Below n W0 A) (hg:A.grownBy B (some c)) (hn:n≤W0.heap.size) (hc:n≤c):Below n W0 B:=
 h.grown hg (Nat.le_trans hn h.size) (fun k e=>by cases e;exact hc)
theorem boxPost_norm {α:Type} {B c:Nat} {I:List α→World→Prop} {Ix:Code→List α→World→Prop} {xs:List α} {W W':World} {a:Act} (hk:KeepsFrom B W W') (hc:W'.heap[c]? =W.heap[c]?) (hI:I xs W'):boxPost B c I Ix xs W .normal a W':=⟨none,rfl,hk,hc,hI⟩
theorem boxPost_ret {α:Type} {B c:Nat} {I:List α→World→Prop} {Ix:Code→List α→World→Prop} {xs:List α} {W W':World} {a:Act} (hk:KeepsFrom B W W') (hI:Ix .ret xs W'):boxPost B c I Ix xs W .ret a W':=⟨some .ret,rfl,hk,hI⟩
def VarAt (g n0:Nat) (W0:World) (v:Value) (W:World):Prop:=(W.cell? ⟨g,0,none⟩=some v∧W.frozen? ⟨g,0,none⟩=false)∧Below n0 W0 W
theorem varAt_own {α:Type} {g n0 B:Nat} {W0:World} (f:List α→Value) (h0:n0≤W0.heap.size) (hB:n0≤B):OwnFrom B (fun pre W=>VarAt g n0 W0 (f pre) W):=
 OwnFrom.and (Own.from (fun _ _ _ _ hs hg hr=>⟨cell_kept hs.1 hg hr,(frozen_kept hs.1 hg hr).trans hs.2⟩) _) (ownFrom_below h0 hB)
theorem varAt_lone {α:Type} {g n0 c:Nat} {W0:World} (f:List α→Value) (h0:n0≤W0.heap.size) (hc:n0≤c) (hne:g≠c):Lone c (fun (pre:List α) W=>VarAt g n0 W0 (f pre) W):=
 fun _ _ _ h hg=>⟨⟨lone_cell h.1.1 hg hne,(lone_frozen h.1.1 hg hne).trans h.1.2⟩,lone_below h.2 hg h0 hc⟩
theorem VarAt.ext {g n0:Nat} {W0 W W':World} {v:Value} (h:VarAt g n0 W0 v W) (e:Ext W W') (hn:n0≤W.heap.size):VarAt g n0 W0 v W':=
 ⟨⟨e.cell (p:=⟨g,0,none⟩) h.1.1,(e.frozen (p:=⟨g,0,none⟩) (World.block_lt_of_cell? W _ h.1.1)).trans h.1.2⟩,h.2.trans (e.mono hn)⟩
theorem VarAt.set {g n0:Nat} {W0 W:World} {v:Value} (h:VarAt g n0 W0 v W) (hg:n0≤g) (u:Value):VarAt g n0 W0 u (W.setCell ⟨g,0,none⟩ u):=
 ⟨⟨World.cell?_setCell_same' _ _ _ (by rw [h.1.1];rfl),by rw [World.frozen?_setCell];exact h.1.2⟩,h.2.setCell hg u⟩
theorem setCell_heap (W:World) (g c:Nat) (u:Value) (h:c≠g):(W.setCell ⟨g,0,none⟩ u).heap[c]? =W.heap[c]? :=Below.heap_setCell W ⟨g,0,none⟩ u c h
theorem inBlock_norm {Q:Exit→Act→World→Prop} {b:Nat} {a:Act} {w:World} (h:Q .normal a w):Exit.inBlock b Q .normal a w:=h
open Go Go.RowKit
def noDefer (ops:Array Oper):Bool:=ops.all fun o=>match o.op with | .defer _=>false | _=>true
theorem noDefer_spec {ops:Array Oper} (h:noDefer ops=true) {i:Nat} {o:Oper} (ho:ops[i]? =some o) (c:Call):o.op≠ .defer c:=fun e=>by
 obtain ⟨hi,rfl⟩:=Array.getElem?_eq_some_iff.1 ho;have:=Array.all_eq_true.1 h i hi;rw [e] at this;cases this
section
variable {l n:Nat} {P:Program} {ops:Array Oper} {Q:Exit→Act→World→Prop} {md:Region.Mode}
theorem rows_wide {row:String} {args:Array Value} {w:World} {R:Value→World→Prop} (h:Rows P row args w R):RowsIn (Fence.wide.inRound l) n P row args w R:=
 fun c cs _=>let ⟨v,w',r,s⟩:=h c cs;⟨v,w',r,stepsIn_wide.2 s⟩
theorem oper_round {o:Oper} {a:Act} {w:World} {K K':Act→World→Prop} (hd:∀ c,o.op≠ .defer c) (hK:∀ a w,K a w→K' a w) (h:o.wp P a w K Q):o.wpIn (Fence.wide.inRound l) n P a w K' Q:=by
 refine ⟨fun _ _=>trivial,?_⟩;rw [Fence.inRound_round,Oper.semAt_some l a.eval o hd];unfold Oper.wp at h;generalize (execOp a.eval o).run P w=r at h;cases r with
 | ok x w'=>
  cases x <;> simp only [Oper.upon,Oper.uponIn] at h ⊢ <;>
   first
    | exact hK _ _ h
    | exact ⟨(fun e=>by cases e),CallsIn.mono (in_round l h) (fun e w'' he=>by cases e <;> first | exact hK _ _ he | exact he)⟩
    | exact ⟨(fun e=>by cases e),RowsIn.mono (rows_wide h) (fun _ _ he=>hK _ _ he)⟩
    | exact h.elim
 | halt x w'=>cases x <;> simp only [Oper.upon,Oper.uponIn] at h ⊢ <;> exact h
theorem list_round (hQ:¬ LetsOut Q):∀ (os:List Oper) (a:Act) (w:World),(∀ o∈os,∀ c,o.op≠ .defer c)→wpList P ops Q os a w→wpListIn (Fence.wide.inRound l) n P ops Q os a w
 | [],_,_,_,h=>h
 | o ::os,a,w,hd,h=>by
  unfold wpListIn;unfold wpList at h
  split
  ·rename_i hw
   rw [if_pos hw] at h;exact oper_round (hd o (List.mem_cons_self ..)) (fun a w=>list_round hQ os a w fun o' ho'=>hd o' (List.mem_cons_of_mem _ ho')) (h.resolve_right fun k=>hQ k.2)
  ·rename_i hw
   rw [if_neg hw] at h;exact ⟨fun _ _=>trivial,list_round hQ os _ w (fun o' ho'=>hd o' (List.mem_cons_of_mem _ ho')) h⟩
theorem any_round (hQ:¬ LetsOut Q) (hd:noDefer ops=true):∀ (fuel:Nat) (listed:Array Bool) (a:Act) (w:World),wpAny P md ops Q fuel listed a w→wpAnyIn (Fence.wide.inRound l) n P md ops Q fuel listed a w
 | 0,_,_,_,h=>h
 | fuel+1,listed,a,w,h=>by
  refine ⟨h.1,fun i hi=> ?_⟩;have:=h.2 i hi;unfold wpOp at this;unfold wpOpIn;cases ho:ops[i]? with
  | none=>rw [ho] at this;exact any_round hQ hd fuel _ _ _ this
  | some o=>
   rw [ho] at this;dsimp only at this ⊢
   split
   ·rename_i hw
    rw [if_pos hw] at this;exact oper_round (noDefer_spec hd ho) (any_round hQ hd fuel _) (this.resolve_right fun k=>hQ k.2)
   ·rename_i hw
    rw [if_neg hw] at this;exact ⟨fun _ _=>trivial,any_round hQ hd fuel _ _ _ this⟩
theorem region_round {id:Nat} {a:Act} {w:World} (hQ:¬ LetsOut Q) (hm:P.follows .mixedOrders=true) (hd:noDefer ops=true) (h:wpAny P .any ops Q ops.size (Array.replicate ops.size false) a { w with drawn:=w.drawn+1}):
  (Code.region id ops true).wpIn (Fence.wide.inRound l) n P Q a w:=wpIn_region_any hm (any_round hQ hd _ _ _ _ h)
theorem region_roundS {id:Nat} {a:Act} {w:World} (hQ:¬ LetsOut Q) (hd:noDefer ops=true) (h:wpList P ops Q ops.toList a w):
  (Code.region id ops false).wpIn (Fence.wide.inRound l) n P Q a w:=wpIn_region_list (list_round hQ _ _ _ (fun o ho c=>by
   obtain ⟨i,hi,rfl⟩:=List.getElem_of_mem ho
   exact noDefer_spec hd (i:=i) (by simp at hi;simp [hi]) c) h)
theorem rgI (n':Nat) (ds:List (Option Tmp)) (L:List (Value→World→Prop)) (boxes:List Nat) (fuel:Nat) {a0:Act} {w0:World} {id:Nat} (hQ:¬ LetsOut Q)
  (hop:RgAll P .any ops Q ds a0 w0 L boxes 0 n' ops.toList)
  (hend:∀ v w,Ext w0 w→(∀ i,i<n'→L.getD i (fun _ _=>True) (v i) w)→(∀ i j,i∈boxes→j∈boxes→i<n'→j<n'→i≠j→v i≠v j)→
   wpAny P .any ops Q fuel (firstN ops.size n') (layL v a0 0 ds) w)
  (hm:P.follows .mixedOrders=true:=by kernel_rfl) (hn:n'≤ops.size:=by decide) (hf:ops.size-n'=fuel:=by kernel_rfl) (hds:(List.range n').map (dstOf ops)=ds:=by kernel_rfl) (hap:dstsApart ops n'=true:=by kernel_rfl) (htp:twoParts .any ops n' []=true:=by kernel_rfl) (hns:Region.noSelect ops=true:=by kernel_rfl)
  (hst:AllStb L:=by repeat' (first | exact trivial | exact IsV.stb _ | exact IsW.stb _ | exact IsI.stb _ _ | exact IsBo.stb _ _ | exact IsR.stb _ _ | exact IsMag.stb _ _ | exact IsPos.stb | apply IsJ.stb | apply IsQ.stb | apply IsT3.stb | apply IsT2.stb | apply And.intro)) (hbx:AllBox L boxes:=by repeat' (first | exact trivial | exact IsBo.box _ _ | apply And.intro)) (hnd:noDefer ops=true:=by kernel_rfl):
  (Code.region id ops true).wpIn (Fence.wide.inRound l) n P Q a0 w0:=by
 refine region_round hQ hm hnd ?_;have hE:Ext w0 w0.drew:=(Ext.refl w0).drew
 have hD:∀ m,doneN (Array.replicate ops.size false) m=0:=fun m=>by
  unfold doneN;rw [List.countP_eq_zero.2];intro i _;simp [listed_false]
 refine wpAny_rgT n' [] ds L boxes fuel ?_ hn hf hds hap htp hns hst hbx.get (by simp) (by simp) ?_ (fun v w hR=>hend v w (hE.trans hR))
 ·simp [startOk,hD,listed_false]
 ·have key:∀ (k i:Nat) (os:List Oper),RgAll P .any ops Q ds a0 w0 L boxes i k os→RgAll P .any ops Q ds a0 w0.drew L boxes i k os:=by
   intro k
   induction k with
   | zero=>intro i os _;cases os <;> trivial
   | succ k ih=>
    intro i os h;cases os with
    | nil=>trivial
    | cons o os=>exact ⟨fun v w hR=>h.1 v w (hE.trans hR),ih _ _ h.2⟩
  exact key n' 0 ops.toList hop
end
theorem not_out_box {α:Type} {B c:Nat} {I:List α→World→Prop} {Ix:Code→List α→World→Prop} {xs:List α} {W:World} :¬ LetsOut (boxPost B c I Ix xs W):=fun ⟨_,_,_,h,_⟩=>by cases h
theorem not_out_block {Q:Exit→Act→World→Prop} (h:¬ LetsOut Q) (b:Nat):¬ LetsOut (Exit.inBlock b Q):=h
theorem not_out_then {Q:Exit→Act→World→Prop} (h:¬ LetsOut Q) (K:Act→World→Prop):¬ LetsOut (Exit.then K Q):=h
end Go.Proofs.YtknffgdbdadpcaaGreatDoor
