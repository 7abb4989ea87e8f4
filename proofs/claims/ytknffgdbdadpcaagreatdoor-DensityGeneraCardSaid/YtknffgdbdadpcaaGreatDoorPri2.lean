/-
 Package prime: isPrime of a number that one of the bases divides; Is of it. (Printed by wip/gen/pri.py.)
-/
import Derived.Test.YtknffgdbdadpcaaGreatDoorPri
namespace Go.Proofs.YtknffgdbdadpcaaGreatDoor
open Go Go.RowKit
open Go.Proofs.Tryz
set_option maxRecDepth 100000
set_option maxHeartbeats 8000000
theorem pri_ix0 (w:World):(Instr.index 168 (.agg #[.int .u64 2,.int .u64 3,.int .u64 5,.int .u64 7,.int .u64 11,.int .u64 13,.int .u64 17,.int .u64 19,.int .u64 23,.int .u64 29,.int .u64 31,.int .u64 37,.int .u64 41]) (.int .i64 0)).run prog w= .ok (.int .u64 2) w:=by
 first
 | rfl
 | (simp [Instr.index,go_sem];done)
theorem pri_ix1 (w:World):(Instr.index 168 (.agg #[.int .u64 2,.int .u64 3,.int .u64 5,.int .u64 7,.int .u64 11,.int .u64 13,.int .u64 17,.int .u64 19,.int .u64 23,.int .u64 29,.int .u64 31,.int .u64 37,.int .u64 41]) (.int .i64 1)).run prog w= .ok (.int .u64 3) w:=by
 first
 | rfl
 | (simp [Instr.index,go_sem];done)
theorem pri_ix2 (w:World):(Instr.index 168 (.agg #[.int .u64 2,.int .u64 3,.int .u64 5,.int .u64 7,.int .u64 11,.int .u64 13,.int .u64 17,.int .u64 19,.int .u64 23,.int .u64 29,.int .u64 31,.int .u64 37,.int .u64 41]) (.int .i64 2)).run prog w= .ok (.int .u64 5) w:=by
 first
 | rfl
 | (simp [Instr.index,go_sem];done)
theorem pri_ix3 (w:World):(Instr.index 168 (.agg #[.int .u64 2,.int .u64 3,.int .u64 5,.int .u64 7,.int .u64 11,.int .u64 13,.int .u64 17,.int .u64 19,.int .u64 23,.int .u64 29,.int .u64 31,.int .u64 37,.int .u64 41]) (.int .i64 3)).run prog w= .ok (.int .u64 7) w:=by
 first
 | rfl
 | (simp [Instr.index,go_sem];done)
theorem pri_ix4 (w:World):(Instr.index 168 (.agg #[.int .u64 2,.int .u64 3,.int .u64 5,.int .u64 7,.int .u64 11,.int .u64 13,.int .u64 17,.int .u64 19,.int .u64 23,.int .u64 29,.int .u64 31,.int .u64 37,.int .u64 41]) (.int .i64 4)).run prog w= .ok (.int .u64 11) w:=by
 first
 | rfl
 | (simp [Instr.index,go_sem];done)
theorem pri_ix5 (w:World):(Instr.index 168 (.agg #[.int .u64 2,.int .u64 3,.int .u64 5,.int .u64 7,.int .u64 11,.int .u64 13,.int .u64 17,.int .u64 19,.int .u64 23,.int .u64 29,.int .u64 31,.int .u64 37,.int .u64 41]) (.int .i64 5)).run prog w= .ok (.int .u64 13) w:=by
 first
 | rfl
 | (simp [Instr.index,go_sem];done)
theorem pri_ix6 (w:World):(Instr.index 168 (.agg #[.int .u64 2,.int .u64 3,.int .u64 5,.int .u64 7,.int .u64 11,.int .u64 13,.int .u64 17,.int .u64 19,.int .u64 23,.int .u64 29,.int .u64 31,.int .u64 37,.int .u64 41]) (.int .i64 6)).run prog w= .ok (.int .u64 17) w:=by
 first
 | rfl
 | (simp [Instr.index,go_sem];done)
theorem pri_ix7 (w:World):(Instr.index 168 (.agg #[.int .u64 2,.int .u64 3,.int .u64 5,.int .u64 7,.int .u64 11,.int .u64 13,.int .u64 17,.int .u64 19,.int .u64 23,.int .u64 29,.int .u64 31,.int .u64 37,.int .u64 41]) (.int .i64 7)).run prog w= .ok (.int .u64 19) w:=by
 first
 | rfl
 | (simp [Instr.index,go_sem];done)
theorem pri_ix8 (w:World):(Instr.index 168 (.agg #[.int .u64 2,.int .u64 3,.int .u64 5,.int .u64 7,.int .u64 11,.int .u64 13,.int .u64 17,.int .u64 19,.int .u64 23,.int .u64 29,.int .u64 31,.int .u64 37,.int .u64 41]) (.int .i64 8)).run prog w= .ok (.int .u64 23) w:=by
 first
 | rfl
 | (simp [Instr.index,go_sem];done)
theorem pri_ix9 (w:World):(Instr.index 168 (.agg #[.int .u64 2,.int .u64 3,.int .u64 5,.int .u64 7,.int .u64 11,.int .u64 13,.int .u64 17,.int .u64 19,.int .u64 23,.int .u64 29,.int .u64 31,.int .u64 37,.int .u64 41]) (.int .i64 9)).run prog w= .ok (.int .u64 29) w:=by
 first
 | rfl
 | (simp [Instr.index,go_sem];done)
theorem pri_ix10 (w:World):(Instr.index 168 (.agg #[.int .u64 2,.int .u64 3,.int .u64 5,.int .u64 7,.int .u64 11,.int .u64 13,.int .u64 17,.int .u64 19,.int .u64 23,.int .u64 29,.int .u64 31,.int .u64 37,.int .u64 41]) (.int .i64 10)).run prog w= .ok (.int .u64 31) w:=by
 first
 | rfl
 | (simp [Instr.index,go_sem];done)
theorem pri_ix11 (w:World):(Instr.index 168 (.agg #[.int .u64 2,.int .u64 3,.int .u64 5,.int .u64 7,.int .u64 11,.int .u64 13,.int .u64 17,.int .u64 19,.int .u64 23,.int .u64 29,.int .u64 31,.int .u64 37,.int .u64 41]) (.int .i64 11)).run prog w= .ok (.int .u64 37) w:=by
 first
 | rfl
 | (simp [Instr.index,go_sem];done)
theorem pri_ix12 (w:World):(Instr.index 168 (.agg #[.int .u64 2,.int .u64 3,.int .u64 5,.int .u64 7,.int .u64 11,.int .u64 13,.int .u64 17,.int .u64 19,.int .u64 23,.int .u64 29,.int .u64 31,.int .u64 37,.int .u64 41]) (.int .i64 12)).run prog w= .ok (.int .u64 41) w:=by
 first
 | rfl
 | (simp [Instr.index,go_sem];done)
theorem isPrime_d (w:World) (N i0:Nat) (hN:N<18446744073709551616) (hi0:i0<13) (hd:N%prBases.getD i0 1=0) (hlt:∀ j,j<i0→N%prBases.getD j 1≠0):
  Calls prog 86 #[.int .u64 (N:Int)] w (Ret w (IsV (.bool ((N:Int)==((prBases.getD i0 1:Nat):Int))))):=by
 obtain ⟨W,hW,E,C1⟩:∃ W,W=w.alloc (.cells #[.int .u64 (N:Int)] 99)∧Ext w W∧World.cell? W ⟨w.heap.size,0,none⟩=some (.int .u64 (N:Int)):=
  ⟨_,rfl,(Ext.refl _).alloc _,by simp⟩
 have HN:=hid hN;have HD:=hid hd;have HLT:=hid hlt;clear hN hd hlt;go_enter func86,ntmps86;go_upto_region 1 with (fail);rw [← hW];clear hW;go_upto_region 2 with (fail);obtain ⟨W2,hW2⟩:∃ W2,W.alloc (.cells #[.int .u64 2,.int .u64 3,.int .u64 5,.int .u64 7,.int .u64 11,.int .u64 13,.int .u64 17,.int .u64 19,.int .u64 23,.int .u64 29,.int .u64 31,.int .u64 37,.int .u64 41] 168)=W2:=⟨_,rfl⟩;have E2:Ext W W2:=by rw [← hW2];exact (Ext.refl _).alloc _
 have C2:World.cell? W2 ⟨w.heap.size,0,none⟩=some (.int .u64 (N:Int)):=E2.cell C1
 have hld:∀ (j:Nat) (v:Value),(#[.int .u64 2,.int .u64 3,.int .u64 5,.int .u64 7,.int .u64 11,.int .u64 13,.int .u64 17,.int .u64 19,.int .u64 23,.int .u64 29,.int .u64 31,.int .u64 37,.int .u64 41]:Array Value)[j]? =some v→World.cell? W2 ⟨W.heap.size,j,none⟩=some v:=by
  intro j v hj;rw [← hW2];exact cell_newAt _ _ rfl _ _ _ _ hj
 have M0:=hld 0 _ rfl;have M1:=hld 1 _ rfl;have M2:=hld 2 _ rfl;have M3:=hld 3 _ rfl;have M4:=hld 4 _ rfl;have M5:=hld 5 _ rfl;have M6:=hld 6 _ rfl;have M7:=hld 7 _ rfl;have M8:=hld 8 _ rfl;have M9:=hld 9 _ rfl;have M10:=hld 10 _ rfl;have M11:=hld 11 _ rfl;have M12:=hld 12 _ rfl;rw [hW2];clear hW2 hld;go_wp2_with fail;clear M0 M1 M2 M3 M4 M5 M6 M7 M8 M9 M10 M11 M12
 go_loopg [8] i0 (fun gk v8 wr=> ∃ (i:Nat) (z:Int),v8= .int .i64 z∧z=(i:Int)∧i+gk=i0∧wr=W2)
 case atStart=>exact ⟨0,0,rfl,rfl,by omega,rfl⟩
 case round=>
  obtain ⟨i,z,rfl,hz,hg,rfl⟩:=hrel;rcases (show i=0∨i=1∨i=2∨i=3∨i=4∨i=5∨i=6∨i=7∨i=8∨i=9∨i=10∨i=11∨i=12 by omega) with rfl | rfl | rfl | rfl | rfl | rfl | rfl | rfl | rfl | rfl | rfl | rfl | rfl
  ·obtain rfl:z=0:=by omega
   clear hz;have hix:=pri_ix0 wr;rcases Nat.eq_zero_or_pos gk with h0 | h0
   ·obtain rfl:i0=0:=by omega
    have hr:N%2=0:=HD.out;have hx1:(N:Int).tmod 2=0:=by rw [Int.tmod_eq_emod_of_nonneg (by omega)];omega
    have hx2:(N:Int)%2=0:=by omega
    clear hg hr h0;go_wp2_with fail;exact bodyPost_ret (v:= .bool ((N:Int)==2)) (by simp [results,results86,go_sem]) rfl ⟨_,rfl,E.trans E2,rfl⟩
   ·have hr:N%2≠0:=HLT.out 0 (by omega);obtain ⟨r,hr2⟩:∃ r,N%2=r:=⟨_,rfl⟩;have hrb:r<2:=by rw [← hr2];exact Nat.mod_lt _ dcx
    have hx1:(N:Int).tmod 2=(r:Int):=by rw [Int.tmod_eq_emod_of_nonneg (by omega)];omega
    have hx2:(N:Int)%2=(r:Int):=by omega
    have hx3:((r:Int)==0)=false:=by rw [beq_eq_false_iff_ne];omega
    have hx4:IntKind.u64.wrap (r:Int)=(r:Int):=by simp only [IntKind.wrap_u64];omega
    have HG:=hid (And.intro hg h0);clear hg hr hr2 hrb h0;go_wp2_with fail
    go_roundg (gk-1)
    case measure=>have:=HG.out;omega
    case rel=>exact ⟨1,1,rfl,rfl,by have:=HG.out;omega,rfl⟩
  ·obtain rfl:z=1:=by omega
   clear hz;have hix:=pri_ix1 wr;rcases Nat.eq_zero_or_pos gk with h0 | h0
   ·obtain rfl:i0=1:=by omega
    have hr:N%3=0:=HD.out;have hx1:(N:Int).tmod 3=0:=by rw [Int.tmod_eq_emod_of_nonneg (by omega)];omega
    have hx2:(N:Int)%3=0:=by omega
    clear hg hr h0;go_wp2_with fail;exact bodyPost_ret (v:= .bool ((N:Int)==3)) (by simp [results,results86,go_sem]) rfl ⟨_,rfl,E.trans E2,rfl⟩
   ·have hr:N%3≠0:=HLT.out 1 (by omega);obtain ⟨r,hr2⟩:∃ r,N%3=r:=⟨_,rfl⟩;have hrb:r<3:=by rw [← hr2];exact Nat.mod_lt _ dcx
    have hx1:(N:Int).tmod 3=(r:Int):=by rw [Int.tmod_eq_emod_of_nonneg (by omega)];omega
    have hx2:(N:Int)%3=(r:Int):=by omega
    have hx3:((r:Int)==0)=false:=by rw [beq_eq_false_iff_ne];omega
    have hx4:IntKind.u64.wrap (r:Int)=(r:Int):=by simp only [IntKind.wrap_u64];omega
    have HG:=hid (And.intro hg h0);clear hg hr hr2 hrb h0;go_wp2_with fail
    go_roundg (gk-1)
    case measure=>have:=HG.out;omega
    case rel=>exact ⟨2,2,rfl,rfl,by have:=HG.out;omega,rfl⟩
  ·obtain rfl:z=2:=by omega
   clear hz;have hix:=pri_ix2 wr;rcases Nat.eq_zero_or_pos gk with h0 | h0
   ·obtain rfl:i0=2:=by omega
    have hr:N%5=0:=HD.out;have hx1:(N:Int).tmod 5=0:=by rw [Int.tmod_eq_emod_of_nonneg (by omega)];omega
    have hx2:(N:Int)%5=0:=by omega
    clear hg hr h0;go_wp2_with fail;exact bodyPost_ret (v:= .bool ((N:Int)==5)) (by simp [results,results86,go_sem]) rfl ⟨_,rfl,E.trans E2,rfl⟩
   ·have hr:N%5≠0:=HLT.out 2 (by omega);obtain ⟨r,hr2⟩:∃ r,N%5=r:=⟨_,rfl⟩;have hrb:r<5:=by rw [← hr2];exact Nat.mod_lt _ dcx
    have hx1:(N:Int).tmod 5=(r:Int):=by rw [Int.tmod_eq_emod_of_nonneg (by omega)];omega
    have hx2:(N:Int)%5=(r:Int):=by omega
    have hx3:((r:Int)==0)=false:=by rw [beq_eq_false_iff_ne];omega
    have hx4:IntKind.u64.wrap (r:Int)=(r:Int):=by simp only [IntKind.wrap_u64];omega
    have HG:=hid (And.intro hg h0);clear hg hr hr2 hrb h0;go_wp2_with fail
    go_roundg (gk-1)
    case measure=>have:=HG.out;omega
    case rel=>exact ⟨3,3,rfl,rfl,by have:=HG.out;omega,rfl⟩
  ·obtain rfl:z=3:=by omega
   clear hz;have hix:=pri_ix3 wr;rcases Nat.eq_zero_or_pos gk with h0 | h0
   ·obtain rfl:i0=3:=by omega
    have hr:N%7=0:=HD.out;have hx1:(N:Int).tmod 7=0:=by rw [Int.tmod_eq_emod_of_nonneg (by omega)];omega
    have hx2:(N:Int)%7=0:=by omega
    clear hg hr h0;go_wp2_with fail;exact bodyPost_ret (v:= .bool ((N:Int)==7)) (by simp [results,results86,go_sem]) rfl ⟨_,rfl,E.trans E2,rfl⟩
   ·have hr:N%7≠0:=HLT.out 3 (by omega);obtain ⟨r,hr2⟩:∃ r,N%7=r:=⟨_,rfl⟩;have hrb:r<7:=by rw [← hr2];exact Nat.mod_lt _ dcx
    have hx1:(N:Int).tmod 7=(r:Int):=by rw [Int.tmod_eq_emod_of_nonneg (by omega)];omega
    have hx2:(N:Int)%7=(r:Int):=by omega
    have hx3:((r:Int)==0)=false:=by rw [beq_eq_false_iff_ne];omega
    have hx4:IntKind.u64.wrap (r:Int)=(r:Int):=by simp only [IntKind.wrap_u64];omega
    have HG:=hid (And.intro hg h0);clear hg hr hr2 hrb h0;go_wp2_with fail
    go_roundg (gk-1)
    case measure=>have:=HG.out;omega
    case rel=>exact ⟨4,4,rfl,rfl,by have:=HG.out;omega,rfl⟩
  ·obtain rfl:z=4:=by omega
   clear hz;have hix:=pri_ix4 wr;rcases Nat.eq_zero_or_pos gk with h0 | h0
   ·obtain rfl:i0=4:=by omega
    have hr:N%11=0:=HD.out;have hx1:(N:Int).tmod 11=0:=by rw [Int.tmod_eq_emod_of_nonneg (by omega)];omega
    have hx2:(N:Int)%11=0:=by omega
    clear hg hr h0;go_wp2_with fail;exact bodyPost_ret (v:= .bool ((N:Int)==11)) (by simp [results,results86,go_sem]) rfl ⟨_,rfl,E.trans E2,rfl⟩
   ·have hr:N%11≠0:=HLT.out 4 (by omega);obtain ⟨r,hr2⟩:∃ r,N%11=r:=⟨_,rfl⟩;have hrb:r<11:=by rw [← hr2];exact Nat.mod_lt _ dcx
    have hx1:(N:Int).tmod 11=(r:Int):=by rw [Int.tmod_eq_emod_of_nonneg (by omega)];omega
    have hx2:(N:Int)%11=(r:Int):=by omega
    have hx3:((r:Int)==0)=false:=by rw [beq_eq_false_iff_ne];omega
    have hx4:IntKind.u64.wrap (r:Int)=(r:Int):=by simp only [IntKind.wrap_u64];omega
    have HG:=hid (And.intro hg h0);clear hg hr hr2 hrb h0;go_wp2_with fail
    go_roundg (gk-1)
    case measure=>have:=HG.out;omega
    case rel=>exact ⟨5,5,rfl,rfl,by have:=HG.out;omega,rfl⟩
  ·obtain rfl:z=5:=by omega
   clear hz;have hix:=pri_ix5 wr;rcases Nat.eq_zero_or_pos gk with h0 | h0
   ·obtain rfl:i0=5:=by omega
    have hr:N%13=0:=HD.out;have hx1:(N:Int).tmod 13=0:=by rw [Int.tmod_eq_emod_of_nonneg (by omega)];omega
    have hx2:(N:Int)%13=0:=by omega
    clear hg hr h0;go_wp2_with fail;exact bodyPost_ret (v:= .bool ((N:Int)==13)) (by simp [results,results86,go_sem]) rfl ⟨_,rfl,E.trans E2,rfl⟩
   ·have hr:N%13≠0:=HLT.out 5 (by omega);obtain ⟨r,hr2⟩:∃ r,N%13=r:=⟨_,rfl⟩;have hrb:r<13:=by rw [← hr2];exact Nat.mod_lt _ dcx
    have hx1:(N:Int).tmod 13=(r:Int):=by rw [Int.tmod_eq_emod_of_nonneg (by omega)];omega
    have hx2:(N:Int)%13=(r:Int):=by omega
    have hx3:((r:Int)==0)=false:=by rw [beq_eq_false_iff_ne];omega
    have hx4:IntKind.u64.wrap (r:Int)=(r:Int):=by simp only [IntKind.wrap_u64];omega
    have HG:=hid (And.intro hg h0);clear hg hr hr2 hrb h0;go_wp2_with fail
    go_roundg (gk-1)
    case measure=>have:=HG.out;omega
    case rel=>exact ⟨6,6,rfl,rfl,by have:=HG.out;omega,rfl⟩
  ·obtain rfl:z=6:=by omega
   clear hz;have hix:=pri_ix6 wr;rcases Nat.eq_zero_or_pos gk with h0 | h0
   ·obtain rfl:i0=6:=by omega
    have hr:N%17=0:=HD.out;have hx1:(N:Int).tmod 17=0:=by rw [Int.tmod_eq_emod_of_nonneg (by omega)];omega
    have hx2:(N:Int)%17=0:=by omega
    clear hg hr h0;go_wp2_with fail;exact bodyPost_ret (v:= .bool ((N:Int)==17)) (by simp [results,results86,go_sem]) rfl ⟨_,rfl,E.trans E2,rfl⟩
   ·have hr:N%17≠0:=HLT.out 6 (by omega);obtain ⟨r,hr2⟩:∃ r,N%17=r:=⟨_,rfl⟩;have hrb:r<17:=by rw [← hr2];exact Nat.mod_lt _ dcx
    have hx1:(N:Int).tmod 17=(r:Int):=by rw [Int.tmod_eq_emod_of_nonneg (by omega)];omega
    have hx2:(N:Int)%17=(r:Int):=by omega
    have hx3:((r:Int)==0)=false:=by rw [beq_eq_false_iff_ne];omega
    have hx4:IntKind.u64.wrap (r:Int)=(r:Int):=by simp only [IntKind.wrap_u64];omega
    have HG:=hid (And.intro hg h0);clear hg hr hr2 hrb h0;go_wp2_with fail
    go_roundg (gk-1)
    case measure=>have:=HG.out;omega
    case rel=>exact ⟨7,7,rfl,rfl,by have:=HG.out;omega,rfl⟩
  ·obtain rfl:z=7:=by omega
   clear hz;have hix:=pri_ix7 wr;rcases Nat.eq_zero_or_pos gk with h0 | h0
   ·obtain rfl:i0=7:=by omega
    have hr:N%19=0:=HD.out;have hx1:(N:Int).tmod 19=0:=by rw [Int.tmod_eq_emod_of_nonneg (by omega)];omega
    have hx2:(N:Int)%19=0:=by omega
    clear hg hr h0;go_wp2_with fail;exact bodyPost_ret (v:= .bool ((N:Int)==19)) (by simp [results,results86,go_sem]) rfl ⟨_,rfl,E.trans E2,rfl⟩
   ·have hr:N%19≠0:=HLT.out 7 (by omega);obtain ⟨r,hr2⟩:∃ r,N%19=r:=⟨_,rfl⟩;have hrb:r<19:=by rw [← hr2];exact Nat.mod_lt _ dcx
    have hx1:(N:Int).tmod 19=(r:Int):=by rw [Int.tmod_eq_emod_of_nonneg (by omega)];omega
    have hx2:(N:Int)%19=(r:Int):=by omega
    have hx3:((r:Int)==0)=false:=by rw [beq_eq_false_iff_ne];omega
    have hx4:IntKind.u64.wrap (r:Int)=(r:Int):=by simp only [IntKind.wrap_u64];omega
    have HG:=hid (And.intro hg h0);clear hg hr hr2 hrb h0;go_wp2_with fail
    go_roundg (gk-1)
    case measure=>have:=HG.out;omega
    case rel=>exact ⟨8,8,rfl,rfl,by have:=HG.out;omega,rfl⟩
  ·obtain rfl:z=8:=by omega
   clear hz;have hix:=pri_ix8 wr;rcases Nat.eq_zero_or_pos gk with h0 | h0
   ·obtain rfl:i0=8:=by omega
    have hr:N%23=0:=HD.out;have hx1:(N:Int).tmod 23=0:=by rw [Int.tmod_eq_emod_of_nonneg (by omega)];omega
    have hx2:(N:Int)%23=0:=by omega
    clear hg hr h0;go_wp2_with fail;exact bodyPost_ret (v:= .bool ((N:Int)==23)) (by simp [results,results86,go_sem]) rfl ⟨_,rfl,E.trans E2,rfl⟩
   ·have hr:N%23≠0:=HLT.out 8 (by omega);obtain ⟨r,hr2⟩:∃ r,N%23=r:=⟨_,rfl⟩;have hrb:r<23:=by rw [← hr2];exact Nat.mod_lt _ dcx
    have hx1:(N:Int).tmod 23=(r:Int):=by rw [Int.tmod_eq_emod_of_nonneg (by omega)];omega
    have hx2:(N:Int)%23=(r:Int):=by omega
    have hx3:((r:Int)==0)=false:=by rw [beq_eq_false_iff_ne];omega
    have hx4:IntKind.u64.wrap (r:Int)=(r:Int):=by simp only [IntKind.wrap_u64];omega
    have HG:=hid (And.intro hg h0);clear hg hr hr2 hrb h0;go_wp2_with fail
    go_roundg (gk-1)
    case measure=>have:=HG.out;omega
    case rel=>exact ⟨9,9,rfl,rfl,by have:=HG.out;omega,rfl⟩
  ·obtain rfl:z=9:=by omega
   clear hz;have hix:=pri_ix9 wr;rcases Nat.eq_zero_or_pos gk with h0 | h0
   ·obtain rfl:i0=9:=by omega
    have hr:N%29=0:=HD.out;have hx1:(N:Int).tmod 29=0:=by rw [Int.tmod_eq_emod_of_nonneg (by omega)];omega
    have hx2:(N:Int)%29=0:=by omega
    clear hg hr h0;go_wp2_with fail;exact bodyPost_ret (v:= .bool ((N:Int)==29)) (by simp [results,results86,go_sem]) rfl ⟨_,rfl,E.trans E2,rfl⟩
   ·have hr:N%29≠0:=HLT.out 9 (by omega);obtain ⟨r,hr2⟩:∃ r,N%29=r:=⟨_,rfl⟩;have hrb:r<29:=by rw [← hr2];exact Nat.mod_lt _ dcx
    have hx1:(N:Int).tmod 29=(r:Int):=by rw [Int.tmod_eq_emod_of_nonneg (by omega)];omega
    have hx2:(N:Int)%29=(r:Int):=by omega
    have hx3:((r:Int)==0)=false:=by rw [beq_eq_false_iff_ne];omega
    have hx4:IntKind.u64.wrap (r:Int)=(r:Int):=by simp only [IntKind.wrap_u64];omega
    have HG:=hid (And.intro hg h0);clear hg hr hr2 hrb h0;go_wp2_with fail
    go_roundg (gk-1)
    case measure=>have:=HG.out;omega
    case rel=>exact ⟨10,10,rfl,rfl,by have:=HG.out;omega,rfl⟩
  ·obtain rfl:z=10:=by omega
   clear hz;have hix:=pri_ix10 wr;rcases Nat.eq_zero_or_pos gk with h0 | h0
   ·obtain rfl:i0=10:=by omega
    have hr:N%31=0:=HD.out;have hx1:(N:Int).tmod 31=0:=by rw [Int.tmod_eq_emod_of_nonneg (by omega)];omega
    have hx2:(N:Int)%31=0:=by omega
    clear hg hr h0;go_wp2_with fail;exact bodyPost_ret (v:= .bool ((N:Int)==31)) (by simp [results,results86,go_sem]) rfl ⟨_,rfl,E.trans E2,rfl⟩
   ·have hr:N%31≠0:=HLT.out 10 (by omega);obtain ⟨r,hr2⟩:∃ r,N%31=r:=⟨_,rfl⟩;have hrb:r<31:=by rw [← hr2];exact Nat.mod_lt _ dcx
    have hx1:(N:Int).tmod 31=(r:Int):=by rw [Int.tmod_eq_emod_of_nonneg (by omega)];omega
    have hx2:(N:Int)%31=(r:Int):=by omega
    have hx3:((r:Int)==0)=false:=by rw [beq_eq_false_iff_ne];omega
    have hx4:IntKind.u64.wrap (r:Int)=(r:Int):=by simp only [IntKind.wrap_u64];omega
    have HG:=hid (And.intro hg h0);clear hg hr hr2 hrb h0;go_wp2_with fail
    go_roundg (gk-1)
    case measure=>have:=HG.out;omega
    case rel=>exact ⟨11,11,rfl,rfl,by have:=HG.out;omega,rfl⟩
  ·obtain rfl:z=11:=by omega
   clear hz;have hix:=pri_ix11 wr;rcases Nat.eq_zero_or_pos gk with h0 | h0
   ·obtain rfl:i0=11:=by omega
    have hr:N%37=0:=HD.out;have hx1:(N:Int).tmod 37=0:=by rw [Int.tmod_eq_emod_of_nonneg (by omega)];omega
    have hx2:(N:Int)%37=0:=by omega
    clear hg hr h0;go_wp2_with fail;exact bodyPost_ret (v:= .bool ((N:Int)==37)) (by simp [results,results86,go_sem]) rfl ⟨_,rfl,E.trans E2,rfl⟩
   ·have hr:N%37≠0:=HLT.out 11 (by omega);obtain ⟨r,hr2⟩:∃ r,N%37=r:=⟨_,rfl⟩;have hrb:r<37:=by rw [← hr2];exact Nat.mod_lt _ dcx
    have hx1:(N:Int).tmod 37=(r:Int):=by rw [Int.tmod_eq_emod_of_nonneg (by omega)];omega
    have hx2:(N:Int)%37=(r:Int):=by omega
    have hx3:((r:Int)==0)=false:=by rw [beq_eq_false_iff_ne];omega
    have hx4:IntKind.u64.wrap (r:Int)=(r:Int):=by simp only [IntKind.wrap_u64];omega
    have HG:=hid (And.intro hg h0);clear hg hr hr2 hrb h0;go_wp2_with fail
    go_roundg (gk-1)
    case measure=>have:=HG.out;omega
    case rel=>exact ⟨12,12,rfl,rfl,by have:=HG.out;omega,rfl⟩
  ·obtain rfl:z=12:=by omega
   clear hz;have hix:=pri_ix12 wr;rcases Nat.eq_zero_or_pos gk with h0 | h0
   ·obtain rfl:i0=12:=by omega
    have hr:N%41=0:=HD.out;have hx1:(N:Int).tmod 41=0:=by rw [Int.tmod_eq_emod_of_nonneg (by omega)];omega
    have hx2:(N:Int)%41=0:=by omega
    clear hg hr h0;go_wp2_with fail;exact bodyPost_ret (v:= .bool ((N:Int)==41)) (by simp [results,results86,go_sem]) rfl ⟨_,rfl,E.trans E2,rfl⟩
   ·have hr:N%41≠0:=HLT.out 12 (by omega);obtain ⟨r,hr2⟩:∃ r,N%41=r:=⟨_,rfl⟩;have hrb:r<41:=by rw [← hr2];exact Nat.mod_lt _ dcx
    have hx1:(N:Int).tmod 41=(r:Int):=by rw [Int.tmod_eq_emod_of_nonneg (by omega)];omega
    have hx2:(N:Int)%41=(r:Int):=by omega
    have hx3:((r:Int)==0)=false:=by rw [beq_eq_false_iff_ne];omega
    have hx4:IntKind.u64.wrap (r:Int)=(r:Int):=by simp only [IntKind.wrap_u64];omega
    have HG:=hid (And.intro hg h0);clear hg hr hr2 hrb h0;go_wp2_with fail
    go_roundg (gk-1)
    case measure=>have:=HG.out;omega
    case rel=>exact ⟨13,13,rfl,rfl,by have:=HG.out;omega,rfl⟩
theorem Is_b {x:Value} {w:World} (i0:Nat) (hi0:i0<13) (hx:IsI 2 ((prBases.getD i0 1:Nat):Int) x w):Calls prog 40 #[x] w (Ret w (IsT2 (IsV (.bool true)) (iV 0))):=by
 have hfacts:∀ i,i<13→1<prBases.getD i 1∧prBases.getD i 1<42∧(∀ j,j<i→prBases.getD i 1%prBases.getD j 1≠0):=by decide
 obtain ⟨f1,f2,f3⟩:=hfacts i0 hi0;have hP:=isPrime_d;obtain ⟨N,hN⟩:∃ N,prBases.getD i0 1=N:=⟨_,rfl⟩
 have hP:∀ w,Calls prog 86 #[.int .u64 (N:Int)] w (Ret w (IsV (.bool true))):=fun w=>by
  have:=isPrime_d w N i0 (by omega) hi0 (by rw [hN,Nat.mod_self]) (fun j hj=>by rw [← hN];exact f3 j hj);rw [hN,beq_self_eq_true] at this;exact this
 rw [hN] at hx f1 f2;clear f3 hN hfacts;obtain ⟨s1,a1,n1,c1,rfl,h1⟩:=hx;have h1:IsI 2 (N:Int) (.agg #[.bool s1,.slice a1 n1 c1]) w:=⟨_,_,_,_,rfl,h1⟩;have hs:s1=false:=h1.pos' (by omega);subst hs
 obtain ⟨W,hW,E,C1,C2⟩:∃ W,W=w.alloc (.cells #[.bool false,.slice a1 n1 c1] 33)∧Ext w W∧World.cell? W ⟨w.heap.size,0,none⟩=some (.bool false)∧World.cell? W ⟨w.heap.size,1,none⟩=some (.slice a1 n1 c1):=
  ⟨_,rfl,(Ext.refl _).alloc _,by simp,by simp⟩
 have hcon:=word_f (IsI.stb _ _ _ _ _ E h1) (by omega);rw [decide_eq_true (show (0:Int)<(N:Int) by omega),Int.natAbs_natCast] at hcon;clear h1;go_enter func40,ntmps40;go_upto_region 1 with (fail);rw [← hW];clear hW;go_upto_region 2 with (go_at_call 85;refine Calls.mono hcon ?_;rintro e w1 ⟨_,rfl,E1,_,_,rfl,rfl,rfl⟩);have C1':=Ext.cell E1 C1;go_wp2_with (go_at_call 86;refine Calls.mono (hP w1) ?_;rintro e w2 ⟨_,rfl,E2,rfl⟩)
 exact bodyPost_ret (v:= .tuple #[.bool true,.int .i64 0]) (by simp [results,results40,go_sem]) rfl ⟨_,rfl,(E.trans E1).trans E2,_,_,rfl,rfl,rfl⟩
end Go.Proofs.YtknffgdbdadpcaaGreatDoor
