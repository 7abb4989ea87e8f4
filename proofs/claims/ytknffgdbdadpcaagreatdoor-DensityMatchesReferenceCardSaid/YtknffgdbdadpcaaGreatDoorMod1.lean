/-
 Descriptions of integers and integers as arguments: how they read, and that they read so behind a call that only makes memory. No condition.
 Package modular: odd and low: the parity, and the residue modulo 4 and 8, of an integer in memory.
-/
import Derived.Test.YtknffgdbdadpcaaGreatDoorRgm
import Derived.LaidMore
import Derived.MakeChecks
import Derived.Test.YtknffgdbdadpcaaGreatDoorRows
import Derived.Lib.SmallJoins
import Derived.ChangeSlices
import Derived.ChangeSame
import Derived.Below
import Derived.ProofKit
import Derived.Stop.Joined
import Derived.OpenShut
import Derived.Test.YtknffgdbdadpcaaGreatDoorFact
import Derived.Laws.BitsLemmas
namespace Go.Proofs.YtknffgdbdadpcaaGreatDoor
open Go Go.RowKit Go.ChangeShapes Go.WideShapes Go.ChangeAt Go.Joins
open Go.Proofs.Tryz
theorem jn{P:Prop}(h:P:=by simp[results,results116,go_sem]):P:=h
abbrev zG:=@Int.tmod_eq_emod_of_nonneg
set_option maxRecDepth 100000
set_option maxHeartbeats 4000000
section
variable {P:Program} {md:Region.Mode} {ops:Array Oper} {Q:Exit ->Act ->World ->Prop} {ds:List (Option Tmp)} {a0:Act} {w0:World} {L:List (Value ->World ->Prop)} {boxes:List Nat} {i:Nat} {o:Oper}
end
section
variable {H:Type} {enc:TypeId×Value ->H}
theorem wf_u32(n:Int)(h:(Lit.int .u32 n).wf =true):0 <=n/\n <=4294967295:=by
 simp only[Lit.wf,Bool.and_eq_true,zU]at h
 have h1:IntKind.min .u32 =0:=rfl
 have h2:IntKind.max .u32 =4294967295:=rfl
 rw[h1,h2]at h
 exact h
def Reads(enc:TypeId×Value ->H)(W:World)(t:TypeId)(v:Value)(d:DataW H)(p:List MemPlace):Prop:=
 ∀(W':World) (sp:Nat ->Bool),Below W.heap.size W W' ->(∀q∈p,sp q.block =true) ->DataW.Trod enc prog W' 0 sp true t v d p
theorem words_open{W:World}{t:TypeId}(ht:prog.underlying t =some (.slice 100)){fuel:Nat}{c:Value}{y:DataW H×List MemPlace}(h:DataW.trod enc prog W 0 (λ_ =>true) true fuel t [c]=some y):
  ∃ao n cap xs,c =.slice ao n cap/\Wd W ao n cap xs/\∀(W':World) (sp:Nat ->Bool),Below W.heap.size W W' ->(∀q∈y.2,sp q.block =true) ->∃m,DataW.trod enc prog W' 0 sp true m t [c]=some y:=by
 have he:prog.underlying 100 =some (.int .u32) :=za
 have hc:prog.cellsOf 100 =1:=za
 rcases open_ints ht he hc h with⟨h1,rfl⟩| ⟨a,len,cap,zs,h1,hb,hl,hm,hlen,rfl,hcell,hwf⟩
 ·simp only[List.cons.injEq,and_true]at h1
  subst h1
  refine⟨none,0,0, [],rfl,wd_nil _ _ _ zb,λW' sp _ _ =>?_⟩
  obtain⟨m,hm⟩ :=shut_slice_nil (enc:=enc) (w:=W') (base:=0) (spare:=sp) (held:=true) ht
  exact⟨m,by simpa [Value.cells]using hm⟩
 ·simp only[List.cons.injEq,and_true]at h1
  subst h1
  simp only[if_true]at hlen
  have hlt:∀i,i < zs.length ->a.block < W.heap.size:=λi hi =>by
   have:=World.block_lt_of_cell? W (a.add i) (hcell i hi)
   unfold Addr.add at this
   split at this <;> exact this
  refine⟨some a,len,cap,(zs.take len).map Int.toNat,rfl,⟨by simp;omega,hl,by unfold maxLen at hm;omega,λi =>?_,?_⟩,λW' sp hbel hsp =>?_⟩
  ·rcases zQ i ((zs.take len).map Int.toNat).length with hi|hi
   ·have hi2:i < zs.length:=by simp at hi;omega
    have h3:=wf_u32 _ (hwf zs[i] (List.getElem_mem hi2))
    have h2:((zs.take len).map Int.toNat).getD i 0 =zs[i].toNat:=by simp[List.getD,show i < len by simp at hi;omega,hi2]
    rw[h2]
    omega
   ·rw[List.getD_eq_getElem?_getD,List.getElem?_eq_none hi];simp
  ·rcases zI len with h0|h0
   ·left;exact h0
   ·have h00:=hcell 0 zb
    have hsn:a.spot =none:=by
     simp only[Addr.add,if_true,World.cell?]at h00
     split at h00
     ·split at h00
      ·cases h00
      ·rename_i hs;simpa using hs
     ·cases h00
    obtain⟨b,off,sn⟩ :=a
    simp only at hsn
    subst hsn
    refine .inr ⟨b,off,rfl,hlt 0 zb,λj hj =>?_⟩
    have hj2:j < zs.length:=zb
    have:=hcell j hj2
    rw[Addr.add_lit]at this
    rw[this]
    have h2:((zs.take len).map Int.toNat).getD j 0 =zs[j].toNat:=by simp[List.getD,hj,hj2]
    have h3:=wf_u32 _ (hwf zs[j] (List.getElem_mem hj2))
    have h4:zs.getD j 0 =zs[j] :=by simp[List.getD,hj2]
    rw[h2,h4]
    rw[Int.toNat_of_nonneg h3.1]
  ·refine⟨0 + 2,shut_ints 0 ht he hc hb hl hm ?_ (λi hi =>?_) hwf⟩
   ·rcases zI zs.length with h0|h0
    ·split <;> omega
    ·have:sp a.block =true:=hsp (.cell a.block a.off) (by simp only[MemPlace.row,List.mem_map,List.mem_range];exact⟨0,h0,by simp⟩)
     rw[this];simpa using hlen
   ·have h1:=hcell i hi
    rw[Below.cell hbel (by have:=World.block_lt_of_cell? W (a.add i) h1;exact this)]
    exact h1
theorem post_of_below{P:Program}{f:Func}{s:ChangeSpec}{apart fresh handsOn again:Bool}{W W':World}{args:Array Value}{v:Value}{ds gs:List (DataW H)}{before pa pv:List MemPlace}
  (hW:DataW.Whole enc P f.params.toList s.vars apart W args.toList ds gs before)
  (hres:∀(b:Nat) (sp:Nat ->Bool) (hd:Bool),DataW.TrodAll enc P W' b sp hd f.resultTypes.toList (v.resultList f.resultTypes.size) (s.fn H (ds ++gs)).results [])
  (hargs:∀sp:Nat ->Bool,(∀p∈before,sp p.block =true) ->DataW.TrodAll enc P W' 0 sp true f.params.toList args.toList (s.fn H (ds ++gs)).args pa)
  (hvars:∀sp:Nat ->Bool,(∀p∈before,sp p.block =true) ->DataW.TrodVars enc P W' sp s.vars (s.fn H (ds ++gs)).vars pv)
  (hps:before =pa ++pv) (hb:Below W.heap.size W W')
  (hok:∀(j:Nat) (t:TypeId) (r:Value),f.resultTypes[j]? =some t ->(v.resultList f.resultTypes.size)[j]? =some r ->Value.okWide P W' .any 0 t r) :
  s.post enc P f apart fresh handsOn again W args v W':=by
 have hlt:∀p∈before,p.block < W.heap.size:=λp hp =>hW.lt p hp
 have hold:∀p∈before,(λb =>decide (b < W.heap.size)) p.block =true:=λp hp =>by simpa using hlt p hp
 refine⟨ds,gs,before, [],pa,pv,hW,hres _ _ _,hargs _ hold,hvars _ hold,World.keptBut_mono (λp hp =>⟨hp,?_⟩) (hb.frame (· ∈before)),λ_ =>?_⟩
 ·rw[hps,List.mem_append]at hp
  exact Or.inr hp
 ·obtain⟨_,_,_,_,_,hz,hn⟩ :=hW
  refine⟨hok,_,_,([] ++pa) ++pv,⟨[] ++pa,pv,trodAll_append (hargs _ (λ_ _ =>rfl)) (hres _ _ _),hvars _ (λ_ _ =>rfl),rfl,?_,?_⟩,?_⟩
  ·intro b off hp
   have hin:MemPlace.cell b off∈before:=by rw[hps];simpa using hp
   rw[hb.frozen (hlt _ hin)]
   exact hz b off hin
  ·intro ha
   have:=hn ha
   rw[hps]at this
   simpa using this
  ·intro p hp _
   rw[hps]
   simpa using hp
end
theorem own:ownKnob prog.godebug =none:=by kernel_rfl
/-! ### Valid of package integer and of the reference:every integer that a call hands back is canonical. -/
open Go Go.RowKit
theorem wraps_u32_32(n:Int)(h₀:0 <=n)(h₁:n < 2 ^ 32):IntKind.u32.wrap n =n:=by rw[IntKind.wrap_u32];omega
theorem and_one32(x:Nat)(h:x < 4294967296):bits .and .u32 (x:Int) 1 =((x % 2:Nat):Int) :=by
 have h:=bits_mask .u32 32 dcx wraps_u32_32 1 dcx (x:Int) zb zb
 have e:((2:Int) ^ 1 - 1)=1:=zdp
 have e2:((2:Int) ^ 1)=2:=zdp
 rw[e,e2]at h
 rw[h];omega
theorem Wd.bot{w:World}{n cap:Nat}{ao:Option Addr}{xs:List Nat}(hw:Wd w ao n cap xs)(h0:0 < n):∃b off,ao =some ⟨b,off,none⟩/\w.cell? ⟨b,off,none⟩=some (.int .u32 (xs.getD 0 0:Nat))/\n <=cap/\cap <=9223372036854775807:=by
 rcases hw.at_ with h1| ⟨b,off,h1,_,h3⟩
 ·omega
 ·exact⟨b,off,h1,h3 0 h0,hw.capo,hw.big⟩
theorem natVal_low(xs:List Nat):qF xs % 4294967296 =xs.getD 0 0 % 4294967296:=by
 cases xs with
 |nil =>rfl
 |cons x xs =>show(x + 4294967296 * qF xs) % 4294967296 =x % 4294967296;omega
theorem IntAt.low{w:World}{k n cap:Nat}{s:Bool}{ao:Option Addr}{z:Int}(h:IntAt w k s ao n cap z):
  (n =0/\z =0)\/ (0 < n/\∃b off x,ao =some ⟨b,off,none⟩/\w.cell? ⟨b,off,none⟩=some (.int .u32 ((x:Nat):Int))/\n <=cap/\cap <=9223372036854775807/\x < 4294967296/\z.natAbs % 4294967296 =x/\ (s =false ->0 <=z)/\ (s =true ->z <=0)) :=by
 obtain⟨m,⟨xs,hw,_,_,hv⟩,hs,hz⟩ :=h
 rcases zI n with h0|h0
 ·left
  refine⟨h0,?_⟩
  have:xs = [] :=List.eq_nil_of_length_eq_zero (by rw[hw.len];exact h0)
  subst this
  have hm:m =0:=hv.symm
  rw[hz,hm];split <;> rfl
 ·right
  obtain⟨b,off,h1,h2,h3,h4⟩ :=hw.bot h0
  have hx:=hw.lt 0
  have hl:=natVal_low xs
  rw[hv]at hl
  refine⟨h0,b,off,xs.getD 0 0,h1,h2,h3,h4,hx,?_,?_,?_⟩
  ·rw[Nat.mod_eq_of_lt hx]at hl
   rw[hz]
   cases s
   ·rw[if_neg dcx,Int.natAbs_natCast];exact hl
   ·rw[if_pos rfl,Int.natAbs_neg,Int.natAbs_natCast];exact hl
  ·rintro rfl;rw[hz,if_neg dcx];omega
  ·rintro rfl;rw[hz,if_pos rfl];omega
theorem odd_f{k:Nat}{z:Int}{x:Value}{w:World}(hx:IsI k z x w):Calls prog 113 #[x] w (Ret w (IsV (.bool (decide (z % 2 =1))))) :=by
 obtain⟨s1,a1,n1,c1,rfl,h1⟩ :=hx
 obtain⟨W,hW,K0⟩:∃W,W =w.alloc (.cells #[.bool s1,.slice a1 n1 c1] 33)/\Kq w W [(w.heap.size, [.bool s1,.slice a1 n1 c1])] :=⟨_,rfl,by simpa using(Kq.start w).alloc [.bool s1,.slice a1 n1 c1] 33⟩;have b1:=K0.bx w.heap.size s1 a1 n1 c1 zh;have E:=hid K0.ext;clear K0
 rcases(h1.ext E.out).low with⟨h0,hz⟩| ⟨h0,b,off,v,rfl,hc,hcap,hbig,hv,hm,_,_⟩
 ·subst h0
  rw[hz,show decide ((0:Int) % 2 =1)=false by decide]
  clear h1 hz
  go_enter func113,ntmps113
  go_upto_region 1 with fail
  rw[<-hW]
  clear hW
  have F1:=b1.c0;have F2:=b1.c1;have F3:=b1.f0;have F4:=b1.f1
  go_wp2_with fail
  exact zD (v:=.bool false) (by simp[results,results113,go_sem]) rfl ⟨_,rfl,E.out,rfl⟩
 ·obtain⟨q,hq⟩:∃q,decide (z % 2 =1)=q:=⟨_,rfl⟩
  rw[hq]
  have hn2:decide ((0:Int) < (n1:Int))=true:=zds
  have hb:=and_one32 v hv
  have hq2:(((v % 2:Nat):Int) ==1)=q:=by
   rw[<-hq,Bool.eq_iff_iff,beq_iff_eq,decide_eq_true_iff];omega
  have hq3:((v:Int) % 2 ==1)=q:=by rw[<-hq2,zM];rfl
  clear h1 hq hm hv
  go_enter func113,ntmps113
  go_upto_region 1 with fail
  rw[<-hW]
  clear hW
  have F1:=b1.c0;have F2:=b1.c1;have F3:=b1.f0;have F4:=b1.f1
  go_wp2_with fail
  exact zD (v:=.bool q) (by simp[results,results113,go_sem]) rfl ⟨_,rfl,E.out,rfl⟩
theorem low_res{z:Int}{v m:Nat}{s:Bool}(hm:m =4\/m =8)(h:z.natAbs % 4294967296 =v)(h0:s =false ->0 <=z)(h1:s =true ->z <=0):
  (s =false\/v % m =0 ->(z % (m:Int))=((v % m:Nat):Int))/\ (s =true/\0 < v % m ->z % (m:Int)=((m - v % m:Nat):Int)) :=by
 rcases hm with rfl|rfl
 ·refine⟨?_,?_⟩
  ·rintro(rfl|k)
   ·have:=h0 rfl;omega
   ·cases s
    ·have:=h0 rfl;omega
    ·have:=h1 rfl;omega
  ·rintro⟨rfl,k⟩;have:=h1 rfl;omega
 ·refine⟨?_,?_⟩
  ·rintro(rfl|k)
   ·have:=h0 rfl;omega
   ·cases s
    ·have:=h0 rfl;omega
    ·have:=h1 rfl;omega
  ·rintro⟨rfl,k⟩;have:=h1 rfl;omega
theorem low_4{k:Nat}{z:Int}{x:Value}{w:World}(hx:IsI k z x w):Calls prog 116 #[x,.int .u32 4] w (Ret w (IsV (.int .u32 (z % 4)))) :=by
 obtain⟨s1,a1,n1,c1,rfl,h1⟩ :=hx
 obtain⟨W,hW,K0⟩:∃W,W =w.alloc (.cells #[.bool s1,.slice a1 n1 c1] 33)/\Kq w W [(w.heap.size, [.bool s1,.slice a1 n1 c1])] :=⟨_,rfl,by simpa using(Kq.start w).alloc [.bool s1,.slice a1 n1 c1] 33⟩;have b1:=K0.bx w.heap.size s1 a1 n1 c1 zh;have E:=hid K0.ext;clear K0
 rcases(h1.ext E.out).low with⟨h0,hz⟩| ⟨h0,b,off,v,rfl,hc,hcap,hbig,hv,hm,hp,hn⟩
 ·subst h0
  rw[hz,show(0:Int) % 4 =0 by decide]
  clear h1 hz
  go_enter func116,ntmps116
  go_upto_region 1 with fail
  rw[<-hW]
  clear hW
  have F1:=b1.c0;have F2:=b1.c1;have F3:=b1.f0;have F4:=b1.f1
  go_wp2_with fail
  exact zD (v:=.int .u32 0) jn rfl ⟨_,rfl,E.out,rfl⟩
 ·obtain⟨g1,g2⟩ :=low_res (s:=s1) (m:=4) (.inl rfl) hm hp hn
  have hn0:((n1:Int) ==0)=false:=by rw[zH];omega
  have hn2:decide ((0:Int) < (n1:Int))=true:=zds
  obtain⟨r,hr⟩:∃r,v % 4 =r:=⟨_,rfl⟩
  rw[hr]at g1 g2
  have hrlt:r < 4:=zb
  have hr1:((v:Int) % 4)=(r:Int) :=zb
  have hr2:(v:Int).tmod 4 =(r:Int) :=by rw[zG (by omega)];exact hr1
  clear h1 hm hp hn hv hr
  rcases zI r with hr0|hr0
  ·have e:=g1 (.inr hr0)
   subst hr0
   rw[show(z % 4)=((0:Nat):Int)from e]
   clear g1 g2 e
   go_enter func116,ntmps116
   go_upto_region 1 with fail
   rw[<-hW]
   clear hW
   have F1:=b1.c0;have F2:=b1.c1;have F3:=b1.f0;have F4:=b1.f1
   cases s1
   ·go_wp2_with fail
    exact zD (v:=.int .u32 0) jn rfl ⟨_,rfl,E.out,rfl⟩
   ·go_wp2_with fail
    exact zD (v:=.int .u32 0) jn rfl ⟨_,rfl,E.out,rfl⟩
  ·have hpos:decide ((0:Int) < (r:Int))=true:=by simp;omega
   have hpos2:0 < r:=hr0
   cases s1
   ·rw[show(z % 4)=(r:Int)from g1 (.inl rfl)]
    clear g1 g2
    go_enter func116,ntmps116
    go_upto_region 1 with fail
    rw[<-hW]
    clear hW
    have F1:=b1.c0;have F2:=b1.c1;have F3:=b1.f0;have F4:=b1.f1
    go_wp2_with fail
    exact zD (v:=.int .u32 (r:Int)) jn rfl ⟨_,rfl,E.out,rfl⟩
   ·rw[show(z % 4)=((4 - r:Nat):Int)from g2 ⟨rfl,hr0⟩]
    obtain⟨q,hq⟩:∃q:Nat,4 - r =q:=⟨_,rfl⟩
    rw[hq]
    have hw1:IntKind.u32.wrap (4 - (r:Int))=(q:Int) :=by rw[IntKind.wrap_u32];omega
    have hw2:((4:Int) - (r:Int)) % 4294967296 =(q:Int) :=zb
    clear g1 g2 hq
    go_enter func116,ntmps116
    go_upto_region 1 with fail
    rw[<-hW]
    clear hW
    have F1:=b1.c0;have F2:=b1.c1;have F3:=b1.f0;have F4:=b1.f1
    go_wp2_with fail
    exact zD (v:=.int .u32 (q:Int)) jn rfl ⟨_,rfl,E.out,rfl⟩
theorem low_8{k:Nat}{z:Int}{x:Value}{w:World}(hx:IsI k z x w):Calls prog 116 #[x,.int .u32 8] w (Ret w (IsV (.int .u32 (z % 8)))) :=by
 obtain⟨s1,a1,n1,c1,rfl,h1⟩ :=hx
 obtain⟨W,hW,K0⟩:∃W,W =w.alloc (.cells #[.bool s1,.slice a1 n1 c1] 33)/\Kq w W [(w.heap.size, [.bool s1,.slice a1 n1 c1])] :=⟨_,rfl,by simpa using(Kq.start w).alloc [.bool s1,.slice a1 n1 c1] 33⟩;have b1:=K0.bx w.heap.size s1 a1 n1 c1 zh;have E:=hid K0.ext;clear K0
 rcases(h1.ext E.out).low with⟨h0,hz⟩| ⟨h0,b,off,v,rfl,hc,hcap,hbig,hv,hm,hp,hn⟩
 ·subst h0
  rw[hz,show(0:Int) % 8 =0 by decide]
  clear h1 hz
  go_enter func116,ntmps116
  go_upto_region 1 with fail
  rw[<-hW]
  clear hW
  have F1:=b1.c0;have F2:=b1.c1;have F3:=b1.f0;have F4:=b1.f1
  go_wp2_with fail
  exact zD (v:=.int .u32 0) jn rfl ⟨_,rfl,E.out,rfl⟩
 ·obtain⟨g1,g2⟩ :=low_res (s:=s1) (m:=8) (.inr rfl) hm hp hn
  have hn0:((n1:Int) ==0)=false:=by rw[zH];omega
  have hn2:decide ((0:Int) < (n1:Int))=true:=zds
  obtain⟨r,hr⟩:∃r,v % 8 =r:=⟨_,rfl⟩
  rw[hr]at g1 g2
  have hrlt:r < 8:=zb
  have hr1:((v:Int) % 8)=(r:Int) :=zb
  have hr2:(v:Int).tmod 8 =(r:Int) :=by rw[zG (by omega)];exact hr1
  clear h1 hm hp hn hv hr
  rcases zI r with hr0|hr0
  ·have e:=g1 (.inr hr0)
   subst hr0
   rw[show(z % 8)=((0:Nat):Int)from e]
   clear g1 g2 e
   go_enter func116,ntmps116
   go_upto_region 1 with fail
   rw[<-hW]
   clear hW
   have F1:=b1.c0;have F2:=b1.c1;have F3:=b1.f0;have F4:=b1.f1
   cases s1
   ·go_wp2_with fail
    exact zD (v:=.int .u32 0) jn rfl ⟨_,rfl,E.out,rfl⟩
   ·go_wp2_with fail
    exact zD (v:=.int .u32 0) jn rfl ⟨_,rfl,E.out,rfl⟩
  ·have hpos:decide ((0:Int) < (r:Int))=true:=by simp;omega
   have hpos2:0 < r:=hr0
   cases s1
   ·rw[show(z % 8)=(r:Int)from g1 (.inl rfl)]
    clear g1 g2
    go_enter func116,ntmps116
    go_upto_region 1 with fail
    rw[<-hW]
    clear hW
    have F1:=b1.c0;have F2:=b1.c1;have F3:=b1.f0;have F4:=b1.f1
    go_wp2_with fail
    exact zD (v:=.int .u32 (r:Int)) jn rfl ⟨_,rfl,E.out,rfl⟩
   ·rw[show(z % 8)=((8 - r:Nat):Int)from g2 ⟨rfl,hr0⟩]
    obtain⟨q,hq⟩:∃q:Nat,8 - r =q:=⟨_,rfl⟩
    rw[hq]
    have hw1:IntKind.u32.wrap (8 - (r:Int))=(q:Int) :=by rw[IntKind.wrap_u32];omega
    have hw2:((8:Int) - (r:Int)) % 4294967296 =(q:Int) :=zb
    clear g1 g2 hq
    go_enter func116,ntmps116
    go_upto_region 1 with fail
    rw[<-hW]
    clear hW
    have F1:=b1.c0;have F2:=b1.c1;have F3:=b1.f0;have F4:=b1.f1
    go_wp2_with fail
    exact zD (v:=.int .u32 (q:Int)) jn rfl ⟨_,rfl,E.out,rfl⟩
theorem low_f{k:Nat}{z:Int}{x:Value}{w:World}(hx:IsI k z x w)(m:Nat)(hm:m =4\/m =8):Calls prog 116 #[x,.int .u32 (m:Int)] w (Ret w (IsV (.int .u32 (z % (m:Int))))) :=by
 rcases hm with rfl|rfl
 ·exact low_4 hx
 ·exact low_8 hx
end Go.Proofs.YtknffgdbdadpcaaGreatDoor
