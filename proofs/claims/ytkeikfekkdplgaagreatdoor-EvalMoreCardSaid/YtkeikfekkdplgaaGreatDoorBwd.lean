/- Lemmas. -/
import Derived.Test.YtkeikfekkdplgaaGreatDoorReadB
import Derived.Test.YtkeikfekkdplgaaGreatDoorTre
import Derived.RangeFuncBox
import Derived.RangeFuncLeaves
import Derived.Shelf.Abstract
import Derived.OwnWalkIn
import Derived.TacticsInMore
import Derived.LoopNIn
import Derived.LoopIn
import Derived.Test.YtkeikfekkdplgaaGreatDoorDivMod
import Derived.Test.YtkeikfekkdplgaaGreatDoorEg4
import Derived.Test.YtkeikfekkdplgaaGreatDoorEv16
import Derived.Test.YtkeikfekkdplgaaGreatDoorRgm
import Derived.RangeFuncNested
import Derived.Lib.ReplaceLaws
import Derived.Lib.ItoaLen
import Derived.SizedLaws
import Derived.Shelf.Vars
import Derived.Test.YtkeikfekkdplgaaGreatDoorEv0
import Derived.Test.YtkeikfekkdplgaaGreatDoorEv8
import Derived.Lib.SliceRun
namespace Go.Proofs.YtkeikfekkdplgaaGreatDoor
section
open Go Go.RowKit Go.ChangeShapes Go.WideShapes Go.ChangeAt Go.Joins
open Go.Proofs.Tryz
theorem zai{P:Prop}(h:P:=by rw[ByteArray.size_append,ByteArray.size_append];exact Nat.le_add_left _ _):P:=h
set_option maxRecDepth 100000
set_option maxHeartbeats 4000000
section
variable {H:Type} {enc:TypeId×Value ->H}
theorem bytes_open{W:World}{t:TypeId}(ht:prog.underlying t =some (.slice 5)){fuel:Nat}{c:Value}{y:DataW H×List MemPlace}(h:DataW.trod enc prog W 0 (λ_ =>true) true fuel t [c]=some y):
    IsBy c W/\∀(W':World) (sp:Nat ->Bool),Below W.heap.size W W' ->(∀q∈y.2,sp q.block =true) ->∃m,DataW.trod enc prog W' 0 sp true m t [c]=some y:=by
  have he:prog.underlying 5 =some (.int .u8) :=za
  have hc:prog.cellsOf 5 =1:=za
  rcases open_ints ht he hc h with⟨h1,rfl⟩| ⟨a,len,cap,zs,h1,hb,hl,hm,hlen,rfl,hcell,hwf⟩
  · simp only[List.cons.injEq,and_true]at h1
    subst h1
    refine⟨⟨none,0,0,rfl,by decide,λh =>absurd rfl h⟩,λW' sp _ _ =>?_⟩
    obtain⟨m,hm⟩ :=shut_slice_nil (enc:=enc) (w:=W') (base:=0) (spare:=sp) (held:=true) ht
    exact⟨m,by simpa [Value.cells]using hm⟩
  · simp only[List.cons.injEq,and_true]at h1
    subst h1
    simp only[if_true]at hlen
    refine⟨⟨some a,len,cap,rfl,by unfold maxLen at hm;omega,λh0 =>?_⟩,λW' sp hbel hsp =>?_⟩
    · have h00:=hcell 0 zb
      have hsn:a.spot =none:=by
        simp only[Addr.add,if_true,World.cell?]at h00
        split at h00
        · split at h00
          ·cases h00
          ·rename_i hs;simpa using hs
        ·cases h00
      obtain⟨b,off,sn⟩ :=a
      simp only at hsn
      subst hsn
      refine⟨b,off,rfl,λj hj =>?_⟩
      have hj2:j < zs.length:=zb
      have h4:zs.getD j 0 =zs[j] :=by simp[List.getD,hj2]
      have h3:=wf_u8 _ (hwf zs[j] (List.getElem_mem hj2))
      have:=hcell j hj2
      rw[Addr.add_lit,h4]at this
      exact⟨zs[j].toNat,by omega,by rw[this,Int.toNat_of_nonneg h3.1]⟩
    · refine⟨0 + 2,shut_ints 0 ht he hc hb hl hm ?_ (λi hi =>?_) hwf⟩
      · rcases jH zs.length with h0|h0
        ·split <;> omega
        · have:sp a.block =true:=hsp (.cell a.block a.off) (by simp only[MemPlace.row,List.mem_map,List.mem_range];exact⟨0,h0,by simp⟩)
          rw[this];simpa using hlen
      · have h1:=hcell i hi
        rw[Below.cell hbel (by have:=World.block_lt_of_cell? W (a.add i) h1;exact this)]
        exact h1
def ReadsC(enc:TypeId×Value ->H)(W:World)(t:TypeId)(v:Value)(d:DataW H)(p:List MemPlace):Prop:=
  ∀(W':World) (sp:Nat ->Bool),Below W.heap.size W W' ->(∀q∈p,sp q.block =true) ->DataW.Trod enc prog W' 0 sp true t v d p
theorem bytes_arg{W:World}{b0:Nat}{r:Reach}{t:TypeId}{v:Value}{d:DataW H}{p:List MemPlace}(ht:prog.underlying t =some (.slice 5))(hv:Value.okWide prog W r b0 t v)(h:DataW.Trod enc prog W 0 (λ_ =>true) true t v d p):IsBy v W/\ReadsC enc W t v d p:=by
  obtain⟨a,n,c,rfl⟩ :=okWide_slice ht hv
  obtain⟨fuel,hf⟩ :=h
  obtain⟨h1,h2⟩ :=bytes_open ht (c:=.slice a n c) (y:=(d,p)) (by simpa [Value.cells]using hf)
  exact⟨h1,λW' sp hb hs =>let ⟨m,hm⟩ :=h2 W' sp hb hs;⟨m,by simpa [Value.cells]using hm⟩⟩
theorem raw43_arg{W:World}{b0:Nat}{r:Reach}{v:Value}{d:DataW H}{p:List MemPlace}(hv:Value.okWide prog W r b0 24 v)(h:DataW.Trod enc prog W 0 (λ_ =>true) true 24 v d p):
    ∃ca cn cc ea en' ec,∃g:Nat,v =.agg #[.slice ca cn cc,.slice ea en' ec,.int .u8 (g:Int)]/\g <=255/\IsBy (.slice ca cn cc) W/\IsBy (.slice ea en' ec) W/\ReadsC enc W 24 v d p:=by
  obtain⟨v0,v1,v2,y0,y1,y2,n,rfl,rfl,rfl,h0,h1,h2⟩ :=open_agg3 underlying24 za za hv h
  obtain⟨k0,r0⟩ :=bytes_open za h0
  obtain⟨k1,r1⟩ :=bytes_open za h1
  have he8:prog.underlying 5 =some (.int .u8) :=za
  obtain⟨m,hm,rfl,hw⟩ :=DataW.trod_int he8 h2
  simp only[List.cons.injEq,and_true]at hm
  subst hm
  obtain⟨g1,g2⟩ :=wf_u8 _ hw
  obtain⟨g,rfl⟩ :=Int.eq_ofNat_of_zero_le g1
  obtain⟨ca,cn,cc,rfl,-⟩ :=id k0
  obtain⟨ea,en',ec,rfl,-⟩ :=id k1
  refine⟨ca,cn,cc,ea,en',ec,g,rfl,by omega,k0,k1,λW' sp hb hsp =>?_⟩
  exact shut_agg3 underlying24 za za (r0 W' sp hb (λq hq =>hsp q (by simp[hq]))) (r1 W' sp hb (λq hq =>hsp q (by simp[hq])))
    (by
      obtain⟨k,hk⟩ :=shut_int (enc:=enc) (P:=prog) (w:=W') (base:=0) (spare:=sp) (held:=true) (t:=5) (k:=.u8) za hw
      exact⟨k,by simpa [Value.cells]using hk⟩)
theorem two16_arg{W:World}{b0:Nat}{r:Reach}{t:TypeId}{v:Value}{d:DataW H}{p:List MemPlace}(ht:prog.underlying t =some (.array 2 62))(hC:prog.cellsOf t =2)(hv:Value.okWide prog W r b0 t v)(h:DataW.Trod enc prog W 0 (λ_ =>true) true t v d p):
    ∃x y:Nat,v =.agg #[.int .u16 (x:Int),.int .u16 (y:Int)]/\x <=65535/\y <=65535/\ReadsC enc W t v d p:=by
  simp only[Value.okWide,ht]at hv
  obtain⟨cs,rfl,hsz,-⟩ :=hv
  obtain⟨c0,c1,rfl⟩ :=array2 (hsz.trans hC)
  obtain⟨fuel,hf⟩ :=h
  have he:prog.underlying 62 =some (.int .u16) :=za
  have hce:prog.cellsOf 62 =1:=za
  obtain⟨xs,m,-,hx,-,hl,hi⟩ :=DataW.trod_array ht hf
  have i0:=hi 0 dcx
  have i1:=hi 1 dcx
  match xs,hl with
  | [y0,y1],_ =>
    simp only[hce,Nat.zero_mul,Nat.one_mul,List.drop_zero,List.getElem?_cons_zero,List.getElem?_cons_succ]at i0 i1
    obtain⟨z0,q0,rfl,w0⟩ :=DataW.trod_int he i0
    obtain⟨z1,q1,rfl,w1⟩ :=DataW.trod_int he i1
    simp[Value.cells]at q0 q1
    subst q0
    subst q1
    have b0:=bounds_u16 w0
    have b1:=bounds_u16 w1
    obtain⟨x,rfl⟩ :=Int.eq_ofNat_of_zero_le b0.1
    obtain⟨y,rfl⟩ :=Int.eq_ofNat_of_zero_le b1.1
    simp only[Prod.mk.injEq]at hx
    obtain⟨rfl,rfl⟩ :=hx
    refine⟨x,y,rfl,by omega,by omega,λW' sp _ _ =>⟨2,?_⟩⟩
    have r2:List.range 2 = [0,1] :=rfl
    simp[DataW.trod,Value.cells,ht,hC,hce,he,r2,w0,w1]
end
open Go Go.RowKit Go.Shelf
attribute [local go_sem] Oper.semAt_some
def upto{α:Type}(f:Nat ->α)(k:Nat):List α:=(List.range k).map f
theorem upto_succ{α:Type}(f:Nat ->α)(k:Nat):upto f (k + 1)=upto f k ++ [f k] :=by simp[upto,List.range_succ]
theorem upto_length{α:Type}(f:Nat ->α)(k:Nat):(upto f k).length =k:=by simp[upto]
def Kpb(n₀ Bs:Nat)(W W':World):Prop:=Below n₀ W W'/\∀v,W.cell? ⟨Bs,0,none⟩=some v ->W'.cell? ⟨Bs,0,none⟩=some v
theorem Kpb.refl(n₀ Bs:Nat)(W:World):Kpb n₀ Bs W W:=⟨Below.refl _ _,λ_ h =>h⟩
theorem Kpb.trans{n₀ Bs:Nat}{A B C:World}(h:Kpb n₀ Bs A B)(k:Kpb n₀ Bs B C):Kpb n₀ Bs A C:=⟨h.1.trans k.1,λv e =>k.2 v (h.2 v e)⟩
theorem Kpb.put{n₀ Bs:Nat}{w:World}(hn:n₀ <=w.heap.size)(W:World)(l:Nat)(o o':Obj)(hl:w.heap.size <=l)(h:W.heap[l]? =some o)(hc:o.isCells =false)(hw:o.isWalk =false):Kpb n₀ Bs W (W.putObj l o') :=
  ⟨belowK_b hn W l o o' hl h hc hw,λ_ e =>cell_kept e (grownBy_putObj' W l o') (λ_ e =>by cases e;exact⟨o,h,hc⟩)⟩
open Go Go.RowKit Go.Maps Go.Sort
attribute [local go_sem] Oper.semAt_some
def HyR(H:Nat)(hs:List Int)(v:Value)(w:World):Prop:=∃ao c,v =.slice ao hs.length c/\ (hs≠ [] ->∃g o,ao =some ⟨g,o,none⟩/\ (g < H\/H + 3 <=g)/\∀j x,hs[j]? =some x ->World.cell? w ⟨g,o + j,none⟩=some (.int .i64 x))
theorem ix_Io(g o c n j:Nat)(h:j < n)(w:World):(Instr.indexAt 41 (.slice (some ⟨g,o,none⟩) n c) (.int .i64 (j:Int))).run prog w =.ok (.pointer (some ⟨g,o + j,none⟩)) w:=by
  have h1:(0:Int) <=(j:Int) :=zb
  have h2:(j:Int) < (n:Int) :=zb
  go_simp
theorem use_g{w:World}{m:Mc}{left:Nat}{SS:List (List UInt8)}{SI:List Int}{s:Lg}{hs:List Int}{v:Value}(hM:MAt m left w)(hj:JG SS SI m.h s w)(hh:m.h + 3 <=w.heap.size)(hv:HyR m.h hs v w)(hS:∀x∈hs,x∈SI/\ (Lit.int .i64 x).wf =true)(hn:SI.length < maxLen)(hl:hs.length <=1000000):
    Calls prog 134 #[.pointer (some ⟨m.h + 2,0,none⟩),v] w (λe w' =>e =.returned (.tuple #[])/\Rm m.h w w'/\MAt m left w'/\JG SS SI m.h (s.1,s.2 ++hs) w') :=by
  obtain⟨ao,c,rfl,hcs⟩ :=hv
  obtain⟨n0,hn0⟩:∃n0,hs.length =n0:=⟨_,rfl⟩
  have HN:=hid hn0
  have HL:=hid hl
  rw[hn0]
  have HCS:=hid hcs
  have HSS:=hid hS
  clear hcs hn0 hl hS
  go_enter func134,ntmps134
  go_wp2
  go_loopg [8] n0 (λgk v8 wr =>∃(i:Nat),v8 =.int .i64 (i:Int)/\i + gk =n0/\Hid (Rm m.h w wr/\MAt m left wr/\JG SS SI m.h (s.1,s.2 ++hs.take i) wr))
  case atStart =>exact⟨0,rfl,by omega,hid ⟨Rm.refl _ _,hM,by simpa using hj⟩⟩
  case round =>
    obtain⟨i,rfl,hg,S⟩ :=hrel
    obtain⟨R,M,J⟩ :=S.out
    clear S
    by_cases hi:i < n0
    · obtain⟨x,hx⟩:∃x,hs[i]? =some x:=⟨_,List.getElem?_eq_getElem (by have:=HN.out;omega)⟩
      obtain⟨g,o,rfl,hgb,hc⟩ :=HCS.out (by intro h0;rw[h0]at hx;simp at hx)
      have hcx:=R.cell (hc i x hx) hgb
      obtain⟨hx1,hx2⟩ :=HSS.out x (List.mem_of_getElem? hx)
      have HI:=hid (show i + 1 + (gk - 1)=n0 by omega)
      have HX:=hid hx
      have hil:(i:Int) < (n0:Int) :=zb
      have HIW:=hid (show IntKind.i64.wrap ((i:Int) + 1)=((i + 1:Nat):Int)by have:=HL.out;have:=HN.out;simp only[IntKind.wrap_i64];omega)
      have HG:=hid hg
      have HI2:=hid hi
      clear hc hx hg hi
      have hgI:=ix_Io g o c n0 i HI2.out
      have hmh:=jK hh R.size
      go_upto_region 3 with fail
      clear hcx hil hgI
      refine rgs 5 (dR 12 5) [IsV (.pointer (some ⟨m.h + 2,0,none⟩)),IsV (.pointer (some ⟨m.h + 2,0,none⟩)),IsV (.pointer (some ⟨m.h + 2,6,none⟩)),IsV (.map (some (m.h + 1))),iV x] [] ?_ ?_
      · refine Rc zt ?_
        refine Rc (nc (p:=⟨m.h + 2,0,none⟩) (qA 0 12)) ?_
        refine Rc (fa (fa_Mc6 (m.h + 2)) (qA 1 13)) ?_
        refine Rc (lvC 6 M.bk ld_mi (qA 2 14)) ?_
        refine Rc (mv (qB 5)) ?_
        exact rn0
      intro v X1 e1 hZ _
      replace J:=(JG.inv SS SI m.h).ext J e1 hmh
      replace M:=M.ext e1
      simp only[lxE,Nat.reduceAdd]
      rw[show v 3 =.map (some (m.h + 1))from hZ 3 dcx,show v 4 =.int .i64 x from hZ 4 dcx]
      clear hZ
      obtain⟨w2,hrun,J2,tur⟩ :=J.use hx2 hx1 hn
      have R2:=(R.trans (Rm.ext (h:=m.h) e1)).trans (turned_rm (h:=m.h) tur (.inr rfl))
      have M2:=M.grown tur.grown (.inr rfl)
      try simp only[List.drop_succ_cons,List.drop_zero]
      (with_reducible refine stL ?_ zbq);intro KK hKK
      refine wp_mu za za rfl hrun (hKK _ _ ?_)
      clear hKK
      refine jE ?_
      try simp only[Act.put]
      have J3:=hid (show Rm m.h w w2/\MAt m left w2/\JG SS SI m.h (s.1,s.2 ++hs.take (i + 1)) w2 from⟨R2,M2,by
        have:hs.take (i + 1)=hs.take i ++ [x] :=by rw[List.take_add_one,HX.out];rfl
        rw[this,<-List.append_assoc];exact J2⟩)
      clear J J2 M M2 R R2 tur hrun e1 hx1 hx2
      have hx9:=HIW.out
      go_wp2_with fail
      go_roundg (gk - 1)
      case measure =>have:=HI.out;have:=HI2.out;have:=HG.out;omega
      case rel =>exact⟨i + 1,rfl,HI.out,J3⟩
    · have hil:¬(i:Int) < (n0:Int) :=by omega
      have hie:i =n0:=zb
      subst hie
      rw[List.take_of_length_le (by rw[HN.out];exact jJ _)]at J
      go_wp2_with fail
      exact bodyPost_end (v:=.tuple #[]) (by simp[results,results134,go_sem]) rfl ⟨rfl,R,M,J⟩
attribute [local go_sem] Oper.semAt_some
def bwv(env:Env):Nat ->Nat× (ByteArray×Int) :=λk =>(env.length - 1 - k,env.getD (env.length - 1 - k) (⟨#[]⟩,0))
def clp(x:Nat× (ByteArray×Int)):ByteArray×Int:=if x.2.1.size <=16/\ -100 <=x.2.2/\x.2.2 <=161 then x.2 else(⟨#[]⟩,0)
theorem clp_fit(x:Nat× (ByteArray×Int)):(clp x).1.size <=16/\ -100 <=(clp x).2/\ (clp x).2 <=161:=by
  unfold clp
  split
  ·assumption
  ·exact⟨by decide,by decide,by decide⟩
theorem clp_id{x:Nat× (ByteArray×Int)}(h:x.2.1.size <=16/\ -100 <=x.2.2/\x.2.2 <=161):clp x =x.2:=if_pos h
theorem back1v_in(F:Fence)(n:Nat)(h7:F.fn 179)(hro:F.round =none)(hn:1 <=n)(l Bs n₀ b len cap:Nat)(env:Env)(hlen:env.length =len)(hreach:len <=1000000)(hfit:∀p∈env,p.1.size <=16/\ -100 <=p.2/\p.2 <=161)(hb:b < n₀)(J Jx:List (Nat× (ByteArray×Int)) ->World ->Prop)
    (hY:∀pre x W,J pre W ->pre.length < len ->YieldAt F (n - 1) prog l #[.int .i64 (x.1:Int),.agg #[.string (clp x).1,.int .i64 (clp x).2]] W λe W' =>
      (e =.returned (.bool true)/\J (pre ++ [x]) W'/\Kpb n₀ Bs W W')\/ (e =.returned (.bool false)/\Jx (pre ++ [x]) W'))
    (W:World) (hBs:W.cell? ⟨Bs,0,none⟩=some (.slice (some ⟨b,0,none⟩) len cap)) (hc:∀j y k,env[j]? =some (y,k) ->W.cell? ⟨b,2 * j,none⟩=some (.string y)/\W.cell? ⟨b,2 * j + 1,none⟩=some (.int .i64 k)) (h0:J [] W) :
    CallsIn F n prog 179 #[.func (.yield l) #[] #[],.pointer (some ⟨Bs,0,none⟩)] W λe W' =>(∃v,e =.returned v)/\
      ((∃xs,xs =upto (bwv env) len/\J xs W')\/ (∃pre,(∃k,k <=len/\pre =upto (bwv env) k)/\Jx pre W')) :=by
  refine callsIn_of_wp func179 rfl h7 ?_ hro
  simp only[ntmps179,List.size_toArray,List.length_cons,List.length_nil,Nat.reduceAdd,Nat.reduceSub,Array.replicate_succ,Array.replicate_zero,List.push_toArray,List.append_toArray,List.nil_append,List.cons_append]
  gi_wp2
  gi_loopw [3] (λi wr =>∃j:Nat,j <=len/\i =.int .i64 ((j:Int) - 1)/\J (upto (bwv env) (len - j)) wr/\Kpb n₀ Bs W wr)
    (λi _ =>(intOf i + 1).toNat)
  case atStart =>exact⟨len,jJ _,rfl,by rw[Nat.sub_self];exact h0,Kpb.refl _ _ _⟩
  case round =>
    obtain⟨j,hj,rfl,hJs,hnx⟩ :=hrel
    rcases j with _|j
    · rw[show((0:Nat):Int) - 1 = -1 from rfl]
      gi_wp2
      go_end0
      exact⟨⟨_,rfl⟩,.inl ⟨_,rfl,hJs⟩⟩
    · rw [show((j + 1:Nat):Int) - 1 =(j:Int)by omega]
      obtain⟨⟨y,k⟩,hyk⟩:∃p,env[j]? =some p:=⟨_,List.getElem?_eq_getElem zb⟩
      have hf:bwv env (len - (j + 1))=(j,(y,k)) :=by
        unfold bwv;rw[show env.length - 1 - (len - (j + 1))=j by omega]
        rw[List.getD_eq_getElem?_getD,hyk];rfl
      obtain⟨q1,q2⟩ :=hc j y k hyk
      have hcx:wr.cell? ⟨b,2 * j,none⟩=some (.string y) :=(hnx.1.cell (p:=⟨b,2 * j,none⟩) hb).trans q1
      have hcx2:wr.cell? ⟨b,2 * j + 1,none⟩=some (.int .i64 k) :=(hnx.1.cell (p:=⟨b,2 * j + 1,none⟩) hb).trans q2
      have hBx:wr.cell? ⟨Bs,0,none⟩=some (.slice (some ⟨b,0,none⟩) len cap) :=hnx.2 _ hBs
      have hk:len - j =len - (j + 1) + 1:=zb
      obtain⟨fn,tmps,assign,body,hy,hR⟩ :=hY _ (j,(y,k)) wr hJs (by rw[upto_length];omega)
      rw[clp_id (x:=(j,(y,k))) (hfit _ (List.mem_of_getElem? hyk))]at hy
      have hjl:j < len:=zb
      have hj2:j * 2 =2 * j:=zb
      have hj3:0 + 2 * j =2 * j:=zb
      clear q1 q2 hyk
      gi_wp2
      refine hR.mono ?_
      rintro e W0 (⟨rfl,hJ3,hk3⟩| ⟨rfl,hJx3⟩)
      · gi_wp2
        go_roundw
        case rel =>exact⟨j,by omega,by simp,by rw[hk,upto_succ,hf];exact hJ3,hnx.trans hk3⟩
        case measure =>simp[intOf]
      · gi_wp2
        refine jD (results_none rfl _ _ _) rfl ?_
        exact⟨⟨_,rfl⟩,.inr ⟨_,⟨len - (j + 1) + 1,by omega,by rw[upto_succ,hf]⟩,hJx3⟩⟩
theorem back1v_nil_in(F:Fence)(n:Nat)(h7:F.fn 179)(hro:F.round =none)(l Bs cap:Nat)(ao:Option Addr)(J:List (Nat× (ByteArray×Int)) ->World ->Prop)(W:World)(hBs:W.cell? ⟨Bs,0,none⟩=some (.slice ao 0 cap))(h0:J [] W):
    CallsIn F n prog 179 #[.func (.yield l) #[] #[],.pointer (some ⟨Bs,0,none⟩)] W λe W' =>(∃v,e =.returned v)/\J [] W':=by
  refine callsIn_of_wp func179 rfl h7 ?_ hro
  simp only[ntmps179,List.size_toArray,List.length_cons,List.length_nil,Nat.reduceAdd,Nat.reduceSub,Array.replicate_succ,Array.replicate_zero,List.push_toArray,List.append_toArray,List.nil_append,List.cons_append]
  gi_wp2
  gi_loopw [3] (λi wr =>i =.int .i64 (-1)/\J [] wr) (λ_ _ =>0)
  case atStart =>exact⟨rfl,h0⟩
  case round =>
    obtain⟨rfl,hJs⟩ :=hrel
    gi_wp2
    go_end0
    exact⟨⟨_,rfl⟩,hJs⟩
def EnvB(n₀:Nat)(W:World)(a:Option Addr)(env:Env):Prop:=
  env = []\/∃b,a =some ⟨b,0,none⟩/\b < n₀/\∀j y k,env[j]? =some (y,k) ->W.cell? ⟨b,2 * j,none⟩=some (.string y)/\W.cell? ⟨b,2 * j + 1,none⟩=some (.int .i64 k)
theorem EnvB.below{n₀:Nat}{A B:World}(h:Below n₀ A B){a:Option Addr}{env:Env}:EnvB n₀ A a env ->EnvB n₀ B a env
  | .inl e => .inl e
  | .inr ⟨b,e,hb,hc⟩ => .inr ⟨b,e,hb,λj y k hj =>⟨(h.cell (p:=⟨b,2 * j,none⟩) hb).trans (hc j y k hj).1,(h.cell (p:=⟨b,2 * j + 1,none⟩) hb).trans (hc j y k hj).2⟩⟩
theorem backv_stops(F:Fence)(n:Nat)(h7:F.fn 179)(hro:F.round =none)(hn:1 <=n)(Bs n₀:Nat)(a:Option Addr)(cap:Nat)(env:Env)(hreach:env.length <=1000000)(hfit:∀p∈env,p.1.size <=16/\ -100 <=p.2/\p.2 <=161)(w:World)(hBs:Bs < w.heap.size)(hn₀:n₀ <=w.heap.size)
    (hc:w.cell? ⟨Bs,0,none⟩=some (.slice a env.length cap)) (hI:EnvB n₀ w a env) :
    SeqStopsK F n prog 179 #[.pointer (some ⟨Bs,0,none⟩)] (λx:Nat× (ByteArray×Int) => #[Value.int .i64 (x.1:Int),.agg #[.string (clp x).1,.int .i64 (clp x).2]]) (Kpb n₀ Bs) (λxs =>xs =upto (bwv env) env.length)
      (λpre =>∃k,k <=env.length/\pre =upto (bwv env) k) env.length w:=λl J Jx W hW _ _ hY h0 =>by
  have hc':=(hW.cell (p:=⟨Bs,0,none⟩) hBs).trans hc
  rcases hI.below (hW.mono hn₀)with h| ⟨b,rfl,hb,hcs⟩
  · subst h
    exact(back1v_nil_in F n h7 hro l Bs cap a J W hc' h0).mono λe W' ⟨he,hj⟩ =>⟨he,.inl ⟨_,rfl,hj⟩⟩
  ·exact back1v_in F n h7 hro hn l Bs n₀ b env.length cap env rfl hreach hfit hb J Jx hY W hc' hcs h0
/-! ### Fill -/
def TabM(w:World):Prop:=Tab w/\∃m:Int,World.cell? w ⟨0,0,none⟩=some (.int .i64 m)
theorem TabM.ext{w w':World}(h:TabM w)(e:Ext w w'):TabM w':=⟨h.1.ext e,let ⟨m,hm⟩ :=h.2;⟨m,e.cell hm⟩⟩
def fillB(s x:ByteArray)(k:Int):ByteArray:=⟨(Lib.replaceAll s.data.toList (⟨#[123]⟩ ++x ++ ⟨#[125]⟩:ByteArray).data.toList (Lib.itoa k)).toArray⟩
theorem repK_len(old new:List UInt8):∀(k:Nat) (s:List UInt8),(Lib.replaceK old new k s).length <=s.length + k * new.length
  |0,s =>by simp[Lib.replaceK]
  | k + 1,s =>by
    rw[Lib.replaceK]
    split
    ·exact Nat.le_add_right _ _
    · have:=repK_len old new k (s.drop ((Lib.index s old).toNat + old.length))
      simp only[jM,List.length_take,List.length_drop]at this ⊢
      rw[Nat.add_mul,Nat.one_mul]
      omega
theorem cnt_le(s x:ByteArray):Lib.countB s (⟨#[123]⟩ ++x ++ ⟨#[125]⟩) <=s.size:=
  Lib.countB_le _ zai s.size s (jJ _)
theorem fillB_size(s x:ByteArray)(k:Int)(h0: -9223372036854775808 <=k)(h1:k <=9223372036854775807):(fillB s x k).size <=s.size * 22:=by
  have hl:=Lib.itoa_length_le k h0 h1
  have hc:Lib.count s.data.toList (⟨#[123]⟩ ++x ++ ⟨#[125]⟩:ByteArray).data.toList <=s.size:=cnt_le s x
  show(Lib.replaceAll s.data.toList (⟨#[123]⟩ ++x ++ ⟨#[125]⟩:ByteArray).data.toList (Lib.itoa k)).toArray.size <=_
  rw[List.size_toArray]
  unfold Lib.replaceAll Lib.replace
  have hs:s.data.toList.length =s.size:=zd
  split
  ·omega
  · refine jK (repK_len _ _ _ _) ?_
    unfold Lib.replaceNum
    rw[if_pos (.inl dcx),hs]
    have:=Nat.mul_le_mul hc hl
    omega
theorem Fill_f{w:World}(T:TabM w)(s x:ByteArray)(k:Int)(hs:s.size <=100000000)(hx:x.size <=1000)(h0: -9223372036854775808 <=k)(h1:k <=9223372036854775807):Calls prog 136 #[.string s,.string x,.int .i64 k] w (Ret w (IsV (.string (fillB s x k)))) :=by
  obtain⟨hT,m,hm⟩ :=T
  have hl:=Lib.itoa_length_le k h0 h1
  have hc:=cnt_le s x
  have ho:1 <=(⟨#[123]⟩ ++x ++ ⟨#[125]⟩:ByteArray).size:=zai
  have hlen:s.size + Lib.countB s (⟨#[123]⟩ ++x ++ ⟨#[125]⟩) * (⟨(Lib.itoa k).toArray⟩:ByteArray).size <=140737488355328:=by
    have:(⟨(Lib.itoa k).toArray⟩:ByteArray).size <=21:=by show(Lib.itoa k).toArray.size <=21;rw[List.size_toArray];exact hl
    have:=Nat.mul_le_mul hc this
    omega
  have q1:(⟨#[123]⟩:ByteArray).size + x.size <=9223372036854775807:=by have:(⟨#[123]⟩:ByteArray).size =1:=rfl;omega
  have q2:(⟨#[123]⟩ ++x:ByteArray).size + (⟨#[125]⟩:ByteArray).size <=9223372036854775807:=by rw[ByteArray.size_append];have:(⟨#[123]⟩:ByteArray).size =1:=rfl;have:(⟨#[125]⟩:ByteArray).size =1:=rfl;omega
  have hfin:(fillB s x k)=⟨(Lib.replaceAll s.data.toList (⟨#[123]⟩ ++x ++ ⟨#[125]⟩:ByteArray).data.toList (⟨(Lib.itoa k).toArray⟩:ByteArray).data.toList).toArray⟩ :=by simp[fillB]
  rw[hfin]
  clear hfin
  generalize hold:(⟨#[123]⟩ ++x ++ ⟨#[125]⟩:ByteArray)=old at ho hlen hc
  go_enter func136,ntmps136
  go_wp2_with (first
    | (go_at_call 181;refine(Tryz.strconv_Itoa k h0 h1 _ (by first|exact hT|exact hT.ext zf)).mono ?_;rintro e w1 ⟨rfl,kk,os,rfl⟩)
    | (go_at_call 180;refine(Tryz.strings_ReplaceAll s old _ m _ zb (Ext.cell (ext_grow _ _ _) hm) ho hlen).mono ?_;rintro e w2 ⟨rfl,e2⟩))
  go_ret
  exact⟨_,rfl,(ext_grow _ _ _).trans e2,rfl⟩
def fiN(x:ByteArray)(xs:List (Nat× (ByteArray×Int))):ByteArray:=xs.foldl (λs p =>fillB s (clp p).1 (clp p).2) x
def flG(s:ByteArray)(env:Env):ByteArray:=fiN s (upto (bwv env) env.length)
theorem fiN_snoc(x:ByteArray)(xs:List (Nat× (ByteArray×Int)))(p:Nat× (ByteArray×Int)):fiN x (xs ++ [p])=fillB (fiN x xs) (clp p).1 (clp p).2:=by simp[fiN,List.foldl_append]
theorem fiN_size:∀(xs:List (Nat× (ByteArray×Int))) (x:ByteArray),(fiN x xs).size <=x.size * 22 ^ xs.length
  | [],x =>by simp[fiN]
  | p ::xs,x =>by
    have h:=fiN_size xs (fillB x (clp p).1 (clp p).2)
    obtain⟨_,h1,h2⟩ :=clp_fit p
    have h3:=fillB_size x (clp p).1 (clp p).2 zb zb
    refine jK h (jK (Nat.mul_le_mul_right _ h3) ?_)
    rw[List.length_cons,Nat.pow_succ,Nat.mul_assoc,Nat.mul_comm 22]
    exact jJ _
theorem fiN_le{xs:List (Nat× (ByteArray×Int))}{x:ByteArray}(hx:x.size <=16)(hl:xs.length <=4):(fiN x xs).size <=100000000:=by
  refine jK (fiN_size xs x) ?_
  have h1:22 ^ xs.length <=22 ^ 4:=Nat.pow_le_pow_right dcx hl
  have h2:(22:Nat) ^ 4 =234256:=by decide
  have h3:=Nat.mul_le_mul hx h1
  omega
end
section
open Go Go.RowKit Go.ChangeShapes Go.WideShapes Go.ChangeAt Go.Joins
open Go.Proofs.Tryz
theorem zo{P:Prop}(h:P:=by exact⟨_,List.getElem?_eq_getElem (by have:=HN.out;omega)⟩):P:=h
theorem zv{P:Prop}(h:P:=by exact mv (qB (x:=.int .i64 (i:Int)) 5)):P:=h
theorem jo{P:Prop}(h:P:=by simpa [Value.cells]using hu):P:=h
theorem xc{P:Prop}(h:P:=by intro h0;rw[h0]at hd;simp at hd):P:=h
theorem zan{P:Prop}(h:P:=by rw[List.getElem?_eq_getElem hj,he]):P:=h
set_option maxRecDepth 100000
set_option maxHeartbeats 8000000
theorem handed_and_shaped{H:Type}{enc:TypeId×Value->H}{a:Assume}{C:Checked}{os:Os}{f:FuncId}{fn:Func}{s:ChangeSpec}{conds:List PathCond}{apart fresh handsOn again:Bool}{X:World->Array Value->Prop}
    (hX:∀(w w':World) (args:Array Value),w.heap=w'.heap->X w args->X w' args)
    (own:ownKnob C.prog.godebug=none) (started:os.Started) (noInit:C.prog.inits.idxOf? f=none) (hfn:C.prog.funcs[f]? =some fn)
    (witness:∃(w:World) (tape:Tape) (i:Input),w.os=os/\(w.forCall tape i).Shaped C.prog/\i.vars= []/\Input.okWide C.prog (w.forCall tape i) .any w.heap.size f i/\
      ((s.pre enc C.prog fn conds apart (w.forCall tape i).memory i.args/\X (w.forCall tape i).memory i.args)/\sizedMet enc C.prog fn (OpenSpec.ofChange s) apart (w.forCall tape i).memory i.args)/\a.holds C.prog (lone (Frame.enter C.prog f i.args .normal) [] (w.forCall tape i)))
    (contract:∀(W:World) (base:Nat) (args:Array Value) (ds gs:List (DataW H)) (before:List MemPlace),
      (∀(j:Nat) t v,fn.params[j]? =some t->args[j]? =some v->Value.okWide C.prog W .any base t v)->
      DataW.Whole enc C.prog fn.params.toList s.vars apart W args.toList ds gs before->X W args->W.ShapedOpen C.prog->
      Calls C.prog f args W λe W'=>∃v,e=.returned v/\s.post enc C.prog fn apart fresh handsOn again W args v W'):
    ReturnsInHanded a C os f .any (λw args=>(s.pre enc C.prog fn conds apart w args/\X w args)/\sizedMet enc C.prog fn (OpenSpec.ofChange s) apart w args) (s.post enc C.prog fn apart fresh handsOn again):=by
  refine returnsInHanded_of_calls own started noInit witness ?_;intro w tape i _ hsh _ hok hpre _;obtain⟨_,_,_,fn',hfn',_,_,_,_,hval⟩:=hok;have e:fn'=fn:=Option.some.inj (hfn'.symm.trans hfn);subst e;obtain⟨⟨⟨ds,gs,before,hw,_⟩,hx⟩,_⟩:=hpre;have hw':=DataW.Whole.of_heap (w':=w.forCall tape i) zbq hw;refine(contract (w.forCall tape i) w.heap.size i.args ds gs before hval hw' (hX _ _ _ zbq hx) hsh).mono λe W' ⟨v,he,hp⟩=>?_
  subst he;exact ChangeSpec.post_blind hp
theorem tab5{W:World}(h:laidMetH prog Rows.evalMoreRow.laid W):Tab W:=by
  rw[MakeChecks.laidMetH_plain _ _ _ (by kernel_rfl)]at h;obtain⟨ps,⟨g0,t0,cs0,f0,p0,q0,hg0,ht0,hv0,hd0,⟨g1,t1,cs1,f1,p1,q1,hg1,ht1,hv1,hd1,⟨g2,t2,cs2,f2,p2,q2,hg2,ht2,hv2,hd2,_,_⟩,_⟩,_⟩,_,_⟩:=h;have hty:(prog.globals[g2]?).map (·.type)=some t2:=ht2;have hg:prog.globalNamed "internal/strconv.uint64pow10" =some 3:=za
  obtain rfl:=Option.some.inj (hg.symm.trans hg2);have ht:(prog.globals[3]?).map (·.type)=some 348:=za
  obtain rfl:=Option.some.inj (ht.symm.trans ht2);unfold Tab Lib.TabIs;rw[hv2,<-Lib.cells_of_tab (n:=20) (k:=.u64) (e:=143) (zs:=Lib.pow10Tab) (by kernel_rfl) (by kernel_rfl) (by kernel_rfl) (by kernel_rfl) hd2]
theorem tabM_of{W:World}(h:laidMetH prog Rows.evalMoreRow.laid W)(hs:W.ShapedOpen prog):TabM W:=
  ⟨tab5 h,cell_of_shapedOpen_int (g:=0) (t:=3) (zero:= #[.int .i64 0]) (k:=.i64) hs (of_decide_eq_true za) za rfl za za za⟩
open Go Go.RowKit
def NwB(w:World)(v:Value):Prop:=∀g cs e fz,v.ownBlock=some g->w.heap[g]? =some (.cells cs e fz)->∀u∈cs.toList,NoWord u
theorem NwB.nil(w:World):NwB w (.slice none 0 0):=λ_ _ _ _ h=>by cases h
theorem NwB.kept{w w':World}{v:Value}(h:NwB w v)(hg:∀g,v.ownBlock=some g->w'.heap[g]? =w.heap[g]?):NwB w' v:=λg cs e fz h1 h2=>h g cs e fz h1 ((hg g h1)▸h2)
theorem gr_of_grown{w w':World}{v:Value}(hg:w.grownBy w' v.ownBlock)(h:NwB w v):Gr w w':=by
  refine⟨hg.size,λp x hp=>?_⟩;by_cases hb:some p.block=v.ownBlock
  · exfalso
    have hp2:=hp;unfold World.cell? at hp
    split at hp
    · rename_i c e fz ho
      split at hp
      ·cases hp
      · have hm:(.int .u32 x:Value)∈c.toList:=by
          obtain⟨hlt,he⟩:=Array.getElem?_eq_some_iff.1 hp;rw[<-he];exact Array.getElem_mem_toList hlt
        exact h _ _ _ _ hb.symm ho _ hm x rfl
    ·cases hp
  ·exact hg.cell hp hb
theorem zero_nw{z:Array Value}(hz:∀u∈z.toList,NoWord u)(n:Nat):∀u∈(Builtin.zeroCells z n).toList,NoWord u:=by
  intro u hu;simp[Builtin.zeroCells]at hu;obtain⟨j,hj,rfl⟩:=hu
  have h0:0<z.size:=by
    rcases jH z.size with h|h;·rw[h]at hj;omega
    ·exact h
  rw[getElem!_pos z _ (jO _ h0)];exact hz _ (Array.getElem_mem_toList _)
section
variable {P:Program} (w:World)
theorem run_append_nw(base:Nat)(t ty e:TypeId)(i:TypeInfo)(z:Value)(size bytes:Nat)(ht:P.underlying t=some (.slice e))(hi:P.info? e=some i)(hz:i.zero=some z)
    (hsize:i.size=size) (hby:i.bytes=bytes) (hzs:z.cells.size=size) (hsz:0<size) (hzn:∀u∈z.cells.toList,NoWord u)
    (v:Value) (n:Nat) (xs:List Value) (hown:w.ownsRow base e size v n xs) (hnw:NwB w v)
    (a:Addr) (m c:Nat) (news:List Value) (hl:news.length=m*size) (hnews:∀j u,news[j]? =some u->w.cell? (a.add j)=some u) (h1:∀u∈news,u.oneCell'=true) (hnn:∀u∈news,NoWord u)
    (h63:n+m<=maxLen) (hbytes:(n+m)*bytes<=140737488355328) (hbase:base<=w.heap.size):
    ∃v' w',(Builtin.append_ #[t,t] ty #[v,.slice (some a) m c]).run P w=.ok v' w'/\w'.ownsRow base e size v' (n+m) (xs++news)/\w.grownBy w' v.ownBlock/\(v'.ownBlock=v.ownBlock\/v'.ownBlock=some w.heap.size)/\NwB w' v':=by
  obtain⟨v',w',hr,h2,h3,h4,h5⟩:=run_append_own_at (P:=P) w base t ty e i z size bytes ht hi hz hsize hby hzs hsz v n xs hown a m c news hl hnews h1 h63 hbytes hbase;refine⟨v',w',hr,h2,h3,h5,?_⟩;subst hsize;subst hby;have hsmall:n+m<=9223372036854775807:=by simp only[maxLen]at h63;omega
  rcases hown.2 with⟨rfl,rfl⟩| ⟨g,cap,cur,rfl,hbg,hg,hnc,hcm,hcs,htake⟩
  · by_cases hm:m=0
    ·have:=(h4.2 ⟨rfl,hm⟩);subst this;exact NwB.nil _
    · have hr2:=run_append_nil (P:=P) w t ty e i z ht hi hz a m c news hl hnews zb zb (by have hb:=hbytes;simp only[Nat.zero_add]at hb;omega)
      rw[hr2]at hr;injection hr with e1 e2;subst e1;subst e2;intro g cs e' fz hb ho u hu;injection hb with hb;subst hb;rw[show(w.drew.alloc (.cells (news.toArray++Builtin.zeroCells z.cells (grownCap w m 0 e-m)) e)).heap[w.heap.size]? =some (.cells (news.toArray++Builtin.zeroCells z.cells (grownCap w m 0 e-m)) e)from heap_alloc_new w.drew _]at ho;injection ho with ho;injection ho with ho _ _;subst ho;rw[Array.toList_append,List.mem_append]at hu;rcases hu with hu|hu
      ·exact hnn u (by simpa using hu)
      ·exact zero_nw hzn _ u hu
  · have hcn:∀u∈cur.toList,NoWord u:=hnw g cur e (0,0) rfl hg
    by_cases hroom:n+m<=cap
    · have hfit:n*i.size+news.length<=cur.size:=by rw[hl,hcs,<-Nat.add_mul];exact Nat.mul_le_mul_right _ hroom
      have hr2:=run_append_room (P:=P) w t ty e i ht hi g n cap cur hg a m c news hl hnews h1 hroom hfit;rw[hr2]at hr;injection hr with e1 e2;subst e1;subst e2;intro g' cs e' fz hb ho u hu;injection hb with hb;subst hb;rw[setRow_heap w g cur _ e _ hg]at ho;injection ho with ho;injection ho with ho _ _;subst ho;simp only[List.mem_append]at hu;rcases hu with(hu|hu)|hu
      ·exact hcn u (List.mem_of_mem_take hu)
      ·exact hnn u hu
      ·exact hcn u (List.mem_of_mem_drop hu)
    · have holds:∀j u,xs[j]? =some u->w.cell? ((⟨g,0,none⟩:Addr).add j)=some u:=hown.cells (g:=g) rfl
      have hr2:=run_append_grow (P:=P) w t ty e i z ht hi hz ⟨g,0,none⟩ n cap xs hown.1 holds a m c news hl hnews zb zb (growslice_fits zb hbytes);rw[hr2]at hr;injection hr with e1 e2;subst e1;subst e2;intro g' cs e' fz hb ho u hu;injection hb with hb;subst hb;rw[show(w.drew.alloc (.cells (xs.toArray++news.toArray++Builtin.zeroCells z.cells (grownCap w (n+m) cap e-(n+m))) e)).heap[w.heap.size]? =some (.cells (xs.toArray++news.toArray++Builtin.zeroCells z.cells (grownCap w (n+m) cap e-(n+m))) e)from heap_alloc_new w.drew _]at ho;injection ho with ho;injection ho with ho _ _;subst ho;rw[Array.toList_append,Array.toList_append,List.mem_append,List.mem_append]at hu;rcases hu with(hu|hu)|hu
      · have hu:u∈xs:=by simpa using hu
        rw[<-htake]at hu;exact hcn u (List.mem_of_mem_take hu)
      ·exact hnn u (by simpa using hu)
      ·exact zero_nw hzn _ u hu
end
theorem wpl_rwn{P:Program}{w:World}{ops:Array Oper}{rest:List Oper}{o:Oper}{a:Act}{Q:Exit->Act->World->Prop}(hgd:o.guard=none)(s x:Operand)(t:TypeId)
    (ho:o.op=.call {callee:=.builtin .append,args:= #[s,x],argTypes:= #[t,t]}) (base e:Nat) (z:Value) (k bytes:Nat) (ht:P.underlying t=some (.slice e)) (hinfo:(P.info? e).map (λi=>(i.zero,i.size,i.bytes))=some (some z,k,bytes))
    (hzs:z.cells.size=k) (hk:0<k) (hzn:∀u∈z.cells.toList,NoWord u) (v:Value) (n:Nat) (xs:List Value) (hs:a.eval s=v) (hown:Rwg e k base w v n xs) (hnw:NwB w v) (g m c:Nat) (news:List Value) (hx:a.eval x=.slice (some ⟨g,0,none⟩) m c) (hl:news.length=m*k)
    (hnews:∀j u,news[j]? =some u->w.cell? ⟨g,j,none⟩=some u) (h1:∀u∈news,u.oneCell'=true) (hnn:∀u∈news,NoWord u) (h63:n+m<=140737488355328) (hbytes:(n+m)*bytes<=140737488355328) (hbase:base<=w.heap.size)
    (h:∀v' w',Rwg e k base w' v' (n+m) (xs++news)->NwB w' v'->w.grownBy w' v.ownBlock->Gr w w'->Below base w w'->(v'.ownBlock=v.ownBlock\/v'.ownBlock=some w.heap.size)->wpList P ops Q rest (a.put o.dst v') w'):
    wpList P ops Q (o ::rest) a w:=by
  obtain⟨i,hi,hz0,hz1,hz2⟩:=info_parts hinfo;refine wpList_plain hgd λK hK=>?_
  obtain⟨v',w',hr,h2,h3,h5,h6⟩:=run_append_nw (P:=P) w base t o.type e i z k bytes ht hi hz0 hz1 hz2 hzs hk hzn v n xs hown hnw ⟨g,0,none⟩ m c news hl (λj u hj=>by cases j <;> simpa [Addr.add]using hnews _ u hj) h1 hnn ym hbytes hbase;unfold Oper.wp execOp;simp only[ho,resolve,invoke,builtin,Sem.run_bind,Sem.run_pure,Result.andThen_ok,List.map_toArray,List.map_cons,List.map_nil,hs,hx,hr];refine hK _ _ (h v' w' h2 h6 h3 (gr_of_grown h3 hnw) ((Below.refl base w).grown h3 hbase λb hb=>?_) h5);obtain⟨_,⟨hv,_⟩| ⟨g,cap,cur,hv,hb2,_⟩⟩:=hown
  ·rw[hv]at hb;cases hb
  ·rw[hv]at hb;cases hb;exact hb2
theorem OnlyB.trans{g:Nat}{a b c:World}(x:OnlyB g a b)(y:OnlyB g b c):OnlyB g a c:=
  ⟨y.os.trans x.os,y.tape.trans x.tape,y.output.trans x.output,y.size.trans x.size,λk hk=>(y.block k hk).trans (x.block k hk),x.gr.trans y.gr⟩
theorem OnlyB.refl(g:Nat)(w:World):OnlyB g w w:=⟨rfl,rfl,rfl,rfl,λ_ _=>rfl,Gr.refl w⟩
theorem Bk.ovr:∀(us:List Value) {w:World} {g:Nat} (f:Nat) {cs:List Value},Bk w g cs->f+us.length<=cs.length->(∀v∈cs,NoWord v)->(∀v∈us,NoWord v)->
    ∃cs',OnlyB g w (xD w g f us)/\Bk (xD w g f us) g cs'/\cs'.length=cs.length/\(∀v∈cs',NoWord v)/\∀j,cs'[j]? =if f<=j/\j<f+us.length then us[j-f]? else cs[j]?
  | [],w,g,f,cs,B,hl,hn,hu=>⟨cs,OnlyB.refl g w,B,rfl,hn,λj=>by rw[if_neg (by simp)]⟩
  | u ::us,w,g,f,cs,B,hl,hn,hu=>by
    have hf:f<cs.length:=by simp only[List.length_cons]at hl;omega
    obtain⟨O,B1⟩:=B.setO f hf u (hn _ (List.getElem_mem hf));have hn1:∀v∈cs.set f u,NoWord v:=λv hv=>(List.mem_or_eq_of_mem_set hv).elim (hn v) (λe=>e▸hu u List.mem_cons_self)
    obtain⟨cs',O2,B2,h1,h2,h3⟩:=Bk.ovr us (f+1) B1 (by simp only[List.length_cons,List.length_set]at hl ⊢;omega) hn1 (λv hv=>hu v (List.mem_cons_of_mem _ hv));refine⟨cs',O.trans O2,B2,by rw[h1,List.length_set],h2,λj=>?_⟩;rw[h3 j,List.getElem?_set];simp only[List.length_cons];by_cases c1:j=f
    · subst c1
      rw[if_neg (by omega),if_pos rfl,if_pos hf,if_pos (by omega)];simp
    · by_cases c2:f+1<=j/\j<f+1+us.length
      · rw[if_pos c2,if_pos (by omega),show j-f=j-(f+1)+1 by omega]
        simp
      ·rw[if_neg c2,if_neg (by omega),if_neg (by omega)]
theorem apL{j:Nat}{v:Value}(xs ys:List Value)(h:xs[j]? =some v):(xs++ys)[j]? =some v:=by rw[List.getElem?_append_left (List.getElem?_eq_some_iff.1 h).1];exact h
theorem apR{j:Nat}{v:Value}(xs ys:List Value)(h:ys[j]? =some v):(xs++ys)[xs.length+j]? =some v:=by rw[List.getElem?_append_right (Nat.le_add_right _ _),Nat.add_sub_cancel_left];exact h
def HdOk(vs:List Value):Prop:=vs.length=32/\vs.all (λu=>u.oneCell')=true/\∀u∈vs,NoWord u
def HdR(L:List (List Value))(g:Nat)(W:World):Prop:=∀j vs,L[j]? =some vs->∀q u,vs[q]? =some u->World.cell? W ⟨g,32*j+q,none⟩=some u
theorem HdR.ext{L:List (List Value)}{g:Nat}{W W':World}(h:HdR L g W)(e:Ext W W'):HdR L g W':=λj vs hj q u hq=>e.cell (h j vs hj q u hq)
theorem flat_at:∀ {L:List (List Value)},(∀vs∈L,vs.length=32)->∀ {j:Nat} {vs:List Value},L[j]? =some vs->∀ {q:Nat} {u:Value},vs[q]? =some u->L.flatten[32*j+q]? =some u
  | [],_,j,vs,h,_,_,_=>by simp at h
  | x ::L,hl,0,vs,h,q,u,hq=>by
    have h:x=vs:=yj
    subst h;rw[List.flatten_cons,Nat.mul_zero,Nat.zero_add];exact apL _ _ hq
  | x ::L,hl,j+1,vs,h,q,u,hq=>by
    have h:L[j]? =some vs:=yj
    have:=flat_at (L:=L) (λv hv=>hl v (List.mem_cons_of_mem _ hv)) h hq;rw[List.flatten_cons];have e:32*(j+1)+q=x.length+(32*j+q):=by rw[hl x List.mem_cons_self];omega
    rw[e];exact apR _ _ this
theorem flat_len:∀ {L:List (List Value)},(∀vs∈L,vs.length=32)->L.flatten.length=32*L.length
  | [],_=>rfl
  | x ::L,h=>by
    rw[List.flatten_cons,jM,h x List.mem_cons_self,flat_len (λv hv=>h v (List.mem_cons_of_mem _ hv)),List.length_cons];omega
def HdB(L:List (List Value))(g:Nat)(W:World):Prop:=HdR L g W/\∃cs,Bk W g cs/\32*L.length<=cs.length/\∀v∈cs,NoWord v
theorem HdB.ext{L:List (List Value)}{g:Nat}{W W':World}(h:HdB L g W)(e:Ext W W'):HdB L g W':=⟨h.1.ext e,let ⟨cs,h1,h2⟩:=h.2;⟨cs,h1.ext e,h2⟩⟩
theorem HdB.lt{L:List (List Value)}{g:Nat}{W:World}(h:HdB L g W):g<W.heap.size:=let ⟨_,h1,_⟩:=h.2;h1.lt
theorem HdB.set{L:List (List Value)}{g i:Nat}{W:World}{us:List Value}(h:HdB L g W)(hL:∀vs∈L,vs.length=32)(hi:i<L.length)(hu:HdOk us):OnlyB g W (xD W g (32*i) us)/\HdB (L.set i us) g (xD W g (32*i) us):=by
  obtain⟨hR,cs,B,hl,hn⟩:=h;obtain⟨hu1,hu2,hu3⟩:=hu;obtain⟨cs',O,B',h1,h2,h3⟩:=Bk.ovr us (32*i) B zb hn hu3;refine⟨O,λj vs hj q u hq=>?_,cs',B',by rw[List.length_set,h1];exact hl,h2⟩;have hql:=(List.getElem?_eq_some_iff.1 hq).1;refine B'.c _ u ?_;rw[h3];rw[List.getElem?_set]at hj;by_cases e:i=j
  · subst e
    rw[if_pos rfl,if_pos hi]at hj;cases hj;rw[if_pos (by omega),show 32*i+q-32*i=q by omega];exact hq
  · rw[if_neg e]at hj
    have hv:=hL vs (List.mem_of_getElem? hj);rw[if_neg (by omega)];have hc:=hR j vs hj q u hq;have hlt:32*j+q<cs.length:=by have:=(List.getElem?_eq_some_iff.1 hj).1;omega
    rw[List.getElem?_eq_getElem hlt];rw[B.c _ _ (List.getElem?_eq_getElem hlt)]at hc;exact hc
theorem ix_Hd(g c n j:Nat)(h:j<n)(w:World):(Instr.indexAt 37 (.slice (some ⟨g,0,none⟩) n c) (.int .i64 (j:Int))).run prog w=.ok (.pointer (some ⟨g,32*j,none⟩)) w:=by
  have h1:(0:Int)<=(j:Int):=zb
  have h2:(j:Int)<(n:Int):=zb
  have h3:0+j*32=32*j:=zb
  have h4:j*32=32*j:=zb
  go_simp
theorem ld_Hd{w:World}{L:List (List Value)}{g j:Nat}{vs:List Value}(h:HdR L g w)(hj:L[j]? =some vs)(hl:vs.length=32):(Instr.loadAt 98 (.pointer (some ⟨g,32*j,none⟩))).run prog w=.ok (.agg vs.toArray) w:=ldM za za hl (h j vs hj)
theorem st_Hd{w:World}{L:List (List Value)}{g i:Nat}{us:List Value}(h:HdB L g w)(hi:i<L.length)(hu:HdOk us):(Instr.storeAt 98 (.pointer (some ⟨g,32*i,none⟩)) (.agg us.toArray)).run prog w=.ok () (xD w g (32*i) us):=by
  obtain⟨hR,cs,B,hl,hn⟩:=h;obtain⟨hu1,hu2,hu3⟩:=hu
  have ht:w.there g (32*i) us.toArray.size:=λj hj=>by
    have hj':j<32:=by simp at hj;omega
    have hlt:32*i+j<cs.length:=zb
    exact⟨by rw[B.c _ _ (List.getElem?_eq_getElem hlt)];rfl,B.f _⟩
  rw[run_storeAt_mid w g (32*i) 98 us.toArray ht (by simp only[List.size_toArray];rw[hu1];kernel_rfl) (by simpa using hu2),setCellsL]
def idxH(p:List Value->Bool)(L:List (List Value)):Int:=match L.findIdx? p with
  |none=> -1
  |some i=>(i:Nat)
theorem idxHd_f{w:World}{L:List (List Value)}{v:Value}{f:FuncId}{caps:List Value}{p:List Value->Bool}{n0 c:Nat}{ao:Option Addr}(he:∀args w,(callFunc f args).run prog w=.ok (.enter f args) w)(hn:L.length=n0)(hl:n0<=1000000)(hL:∀vs∈L,vs.length=32)
    (hv:v=.slice ao n0 c) (hg:L≠ []->∃g,ao=some ⟨g,0,none⟩/\HdR L g w) (HF:∀vs∈L,∀w',Ext w w'->Calls prog f (.agg vs.toArray ::caps).toArray w' (Ret w' (IsV (.bool (p vs))))):
    Calls prog 218 #[v,.func (.func f) #[] caps.toArray] w (Ret w (iV (idxH p L))):=by
  subst hv;have HN:=hid hn;have HL:=hid hl;have HG:=hid hg;have HF:=hid HF;have HLL:=hid hL;clear hn hl hg hL;go_enter func218,ntmps218
  go_wp2
  go_loopg [8] n0 (λgk v8 wr=>∃(i:Nat),v8=.int .i64 (i:Int)/\i+gk=n0/\Hid (Ext w wr/\∀j vs,j<i->L[j]? =some vs->p vs=false))
  case atStart=>exact⟨0,rfl,by omega,hid ⟨Ext.refl _,λj e hj=>absurd hj (Nat.not_lt_zero _)⟩⟩
  case round=>
    obtain⟨i,rfl,hg,S⟩:=hrel;by_cases hi:i<n0
    · obtain ⟨vs,hd⟩:∃d,L[i]? =some d:=zo
      obtain⟨g,rfl,hc⟩:=HG.out xc;have hvl:=HLL.out vs (List.mem_of_getElem? hd);have HI:=hid (show i+1+(gk-1)=n0 by omega);have HD:=hid hd;have HC:=hid hc;have hil:(i:Int)<(n0:Int):=zb
      have HIW:=hid (show IntKind.i64.wrap ((i:Int)+1)=((i+1:Nat):Int)by have:=HL.out;have:=HN.out;simp only[IntKind.wrap_i64];omega);have HG2:=hid hg;have HI2:=hid hi;clear hc hd hg hi;have E:=S.out.1;go_upto_region 4 with fail;clear hil;refine rgs 6 (dR 11 6) [IsV (.func (.func f) #[] caps.toArray),IsV (.slice (some ⟨g,0,none⟩) n0 c),iV (i:Int),IsP g (32*i),IsV (.agg vs.toArray),IsV (.bool (p vs))] [] ?_ ?_
      · refine Rc yo ?_
        refine Rc zt ?_;refine Rc zv ?_;refine Rc (ixq (ix_Hd g c n0 i HI2.out) (qA 1 12) (qA 2 13)) ?_;refine Rc (lv (fP:=IsV (.agg vs.toArray)) _ (λw' e=>ld_Hd ((HC.out.ext E).ext e) HD.out hvl) (qA 3 14) (λ_ _=>rfl)) ?_;refine Rc (cv1 (caps:=caps) he (qA 0 11) (qA (fP:=IsV (.agg vs.toArray)) 4 15) (λx0 w' hE d0=>by{obtain rfl:x0=_:=d0;exact HF.out vs (List.mem_of_getElem? HD.out) w' (E.trans hE)})) ?_;exact rn0
      intro v X1 e1 hZ _;simp only[lxE,Nat.reduceAdd];rw[show v 5=.bool (p vs)from hZ 5 dcx];clear hZ;refine jE ?_;cases hp:p vs with
      | true=>
        have HR:idxH p L=(i:Nat):=by
          have hlt:=(List.getElem?_eq_some_iff.1 HD.out).1
          have h1:L.findIdx? p=some i:=by
            rw[List.findIdx?_eq_some_iff_getElem];refine⟨hlt,by rw[(List.getElem?_eq_some_iff.1 HD.out).2];exact hp,λj hj=>?_⟩;have:=S.out.2 j _ hj (List.getElem?_eq_getElem zb);simp[this]
          rw[idxH,h1]
        clear S;go_wp2_with fail
        go_ret
        exact⟨_,rfl,E.trans e1,by first|rfl| (rw[HR];rfl)⟩
      | false=>
        have S':=hid (show Ext w X1/\∀j vs,j<i+1->L[j]? =some vs->p vs=false from⟨E.trans e1,λj e hj he=>by
          rcases Nat.lt_succ_iff_lt_or_eq.1 hj with h|h
          ·exact S.out.2 j e h he
          ·subst h;rw[HD.out]at he;cases he;exact hp⟩)
        clear S E e1 hp;have hx9:=HIW.out;go_wp2_with fail
        go_roundg (gk-1)
        case measure=>have:=HI.out;have:=HI2.out;have:=HG2.out;omega
        case rel=>exact⟨i+1,rfl,HI.out,S'⟩
    · have hil:¬(i:Int)<(n0:Int):=by omega
      have hie:i=n0:=zb
      have HR:idxH p L= -1:=by
        have h1:L.findIdx? p=none:=List.findIdx?_eq_none_iff.2 λx hx=>by
          obtain⟨j,hj,he⟩:=List.getElem_of_mem hx;exact S.out.2 j x (by have:=HN.out;omega) zan
        rw[idxH,h1]
      have E:=S.out.1;clear S hg hie;go_wp2_with fail
      go_ret
      exact⟨_,rfl,E,by first|rfl| (rw[HR];rfl)⟩
attribute [local go_sem] Oper.semAt_some
def z32':List Value:= [.string ⟨#[]⟩,.slice none 0 0,.slice none 0 0,.bool false,.slice none 0 0,.slice none 0 0,.slice none 0 0,.int .i64 0,.bool false,.slice none 0 0,.slice none 0 0,.slice none 0 0,.int .i64 0,.int .i64 0,.int .i64 0,.int .i64 0,.slice none 0 0,.slice none 0 0,.slice none 0 0,.slice none 0 0,.bool false,.slice none 0 0,.bool false,.slice none 0 0,.slice none 0 0,.slice none 0 0,.slice none 0 0,.slice none 0 0,.slice none 0 0,.slice none 0 0,.slice none 0 0,.slice none 0 0]
theorem nwZ32:∀v∈z32',NoWord v:=by
  intro v hv;have:z32'.all (λv=>match v with| .string _=>true| .slice _ _ _=>true| .int .i64 _=>true| .bool _=>true|_=>false)=true:=rfl;have h:=List.all_eq_true.1 this v hv;cases v with
  |string s=>exact NoWord.string s
  |slice a n c=>exact NoWord.slice _ _ _
  |bool b=>exact NoWord.bool _
  |int k z=>cases k <;> first|exact NoWord.int64 _|cases h
  |_=>cases h
theorem al_Hd(w:World):(Instr.alloc 98 true (.tuple #[])).run prog w=.ok (.pointer (some ⟨w.heap.size,0,none⟩)) (w.alloc (.cells z32'.toArray 98)):=by unfold z32';go_simp
theorem st_HdV:StV prog 98 32:=stM za
theorem ld_HdV:LdV prog 98 32:=λw g vs hl B=>ldM za za hl (λj v hj=>by rw[Nat.zero_add];exact B.c j v hj)
theorem lv_Hd{w:World}{g:Nat}{vs:List Value}(hl:vs.length=32)(B:Bk w g vs):(loadVar 98 ⟨g,0,none⟩).run prog w=.ok (.agg vs.toArray) w:=lvM za za hl B
theorem HdR.only{L:List (List Value)}{g b:Nat}{W W':World}(h:HdR L g W)(O:Ob b W W')(hne:g≠b):HdR L g W':=λj vs hj q u hq=>
  (World.cell?_of_block (w:=W) (a:=⟨g,_,none⟩) (O.block g (World.block_lt_of_cell? W ⟨g,_,none⟩ (h j vs hj q u hq)) hne)).trans (h j vs hj q u hq)
theorem HdB.only{L:List (List Value)}{g b:Nat}{W W':World}(h:HdB L g W)(O:Ob b W W')(hne:g≠b):HdB L g W':=⟨h.1.only O hne,let ⟨cs,h1,h2⟩:=h.2;⟨cs,O.bk h1 hne,h2⟩⟩
theorem Ob.ext'{g:Nat}{a b c:World}(x:Ob g a b)(e:Ext b c):Ob g a c:=x.trans ⟨e.os,e.tape,e.output,e.size,λk hk _=>e.block k hk,e.gr⟩
theorem Ob.newB{g k:Nat}{a b c:World}(x:Ob g a b)(O:OnlyB k b c)(hk:a.heap.size<=k):Ob g a c:=
  ⟨O.os.trans x.os,O.tape.trans x.tape,O.output.trans x.output,by rw[O.size];exact x.size,λj hj hg=>(O.block j zb).trans (x.block j hj hg),x.gr.trans O.gr⟩
theorem fil_take{p:List Value->Bool}{L:List (List Value)}{j:Nat}{vs:List Value}(h:L[j]? =some vs):(L.take (j+1)).filter p=(L.take j).filter p++(if p vs then [vs]else []):=by
  rw[List.take_add_one,h];rw[List.filter_append];cases hp:p vs <;> simp[hp]
theorem zC_len(n:Nat):(Builtin.zeroCells (Value.agg z32'.toArray).cells n).toList.length=n*32:=by
  simp[Builtin.zeroCells,Value.cells,z32']
theorem zC_nw(n:Nat):∀v∈(Builtin.zeroCells (Value.agg z32'.toArray).cells n).toList,NoWord v:=zero_nw (λu hu=>nwZ32 u jo) n
theorem clr_run{L:List (List Value)}{g i n ty:Nat}{T:TypeId}{W:World}(hB:HdB L g W)(hn:L.length=n)(hi:i<n)(hL:∀vs∈L,vs.length=32)(c:Nat)(hT:T=37:=by rfl):
    ∃W',(Builtin.clear_ #[T] ty #[.slice (some ⟨g,32*i,none⟩) (n-i) c]).run prog W=.ok (.tuple #[]) W'/\OnlyB g W W'/\HdB (L.take i) g W':=by
  subst hT;obtain⟨hR,cs,B,hl,hnw⟩:=hB;obtain⟨zs,hzs⟩:∃zs,(Builtin.zeroCells (Value.agg z32'.toArray).cells (n-i)).toList=zs:=⟨_,rfl⟩;have hzl:zs.length=(n-i)*32:=by rw[<-hzs];exact zC_len _
  have hzn:∀v∈zs,NoWord v:=by rw[<-hzs];exact zC_nw _
  obtain⟨cs',O,B',h1,h2,h3⟩:=Bk.ovr zs (32*i) B zb hnw hzn;refine⟨xD W g (32*i) zs,?_,O,λj vs hj q u hq=>?_,cs',B',by rw[List.length_take];omega,h2⟩
  · have ht:prog.underlying 37=some (.slice 98):=by kernel_rfl
    have hv:∀w,(zeroValue 98).run prog w=.ok (.agg z32'.toArray) w:=λw=>by unfold z32';go_simp
    have h1c:∀v∈zs,v.oneCell'=true:=by
      intro v hv;rw[<-hzs]at hv;simp[Builtin.zeroCells,Value.cells]at hv;obtain⟨q,hq,rfl⟩:=hv;have hall:z32'.all (λu=>u.oneCell')=true:=rfl;have hq':q%z32'.length<z32'.length:=jO _ dcx;rw[List.getElem?_eq_getElem hq'];exact List.all_eq_true.1 hall _ (List.getElem_mem hq')
    have hst:=run_storeCells_cells (P:=prog) g (32*i) zs 0 W (λj hj=>by
        have hlt:32*i+j<cs.length:=zb
        rw[Nat.add_zero,B.c _ _ (List.getElem?_eq_getElem hlt)];rfl) (λj hj=>B.f _) h1c
    simp only[Nat.add_zero]at hst;obtain⟨m,hm⟩:∃m,n-i=m+1:=⟨n-i-1,by omega⟩;rw[hm]at hzs ⊢;simp[Builtin.clear_,run_underlying ht,hv,hzs,hst,setCellsL]
  · refine B'.c _ u ?_
    have hjl:j<i:=by have:=(List.getElem?_eq_some_iff.1 hj).1;rw[List.length_take]at this;omega
    have hj':L[j]? =some vs:=by rw[<-hj,List.getElem?_take,if_pos hjl]
    have hql:=(List.getElem?_eq_some_iff.1 hq).1;have hv:=hL vs (List.mem_of_getElem? hj');rw[h3,if_neg (by omega)];have hc:=hR j vs hj' q u hq;have hlt:32*j+q<cs.length:=zb
    rw[List.getElem?_eq_getElem hlt];rw[B.c _ _ (List.getElem?_eq_getElem hlt)]at hc;exact hc
theorem delHd_f{w:World}{L:List (List Value)}{f:FuncId}{caps:List Value}{p:List Value->Bool}{g n0 c:Nat}(he:∀args w,(callFunc f args).run prog w=.ok (.enter f args) w)(hn:L.length=n0)(hl:n0<=1000000)(hc:n0<=c)(hL:∀vs∈L,HdOk vs)(hB:HdB L g w)
    (HF:∀vs∈L,∀w',Ob g w w'->Calls prog f (.agg vs.toArray ::caps).toArray w' (Ret w' (IsV (.bool (p vs))))):
    Calls prog 183 #[.slice (some ⟨g,0,none⟩) n0 c,.func (.func f) #[] caps.toArray] w (λe w'=>Ob g w w'/\e=.returned (.slice (some ⟨g,0,none⟩) (L.filter (λvs=> !p vs)).length c)/\HdB (L.filter (λvs=> !p vs)) g w'):=by
  have hidx:=idxHd_f (c:=c) (ao:=some ⟨g,0,none⟩) he hn hl (λvs hv=>(hL vs hv).1) rfl (λ_=>⟨g,rfl,hB.1⟩) (λvs hv w' e=>HF vs hv w' ⟨e.os,e.tape,e.output,e.size,λk hk _=>e.block k hk,e.gr⟩);have HN:=hid hn;have HL:=hid (jI hl hc);have HF:=hid HF;have HLL:=hid hL;have hgl:=hB.lt;have HB0:=hid hB;clear hn hl hL hB hc;obtain⟨ix,hix⟩:∃ix,idxH p L=ix:=⟨_,rfl⟩;rw[hix]at hidx;have HIX:=hid hix;clear hix;go_enter func183,ntmps183;go_upto_region 2 with(go_at_call 218;refine jC hidx ?_;rintro e w1 ⟨_,rfl,e1,rfl⟩);clear hidx;have O1:Ob g w w1:=⟨e1.os,e1.tape,e1.output,e1.size,λk hk _=>e1.block k hk,e1.gr⟩;replace HB0:=hid (HB0.out.ext e1);replace hgl:=Nat.lt_of_lt_of_le hgl e1.size;clear e1;cases hfi:L.findIdx? p with
  | none=>
    have hix:ix= -1:=by have:=HIX.out;rw[idxH,hfi]at this;exact this.symm
    have hfl:L.filter (λvs=> !p vs)=L:=List.filter_eq_self.2 λvs hv=>by
      have:=(List.findIdx?_eq_none_iff.1 hfi) vs hv;simp[this]
    subst hix;go_wp2_with fail
    go_ret
    exact⟨O1,by rw[hfl,HN.out];rfl,by rw[hfl];exact HB0.out⟩
  | some i0=>
    have hix:ix=(i0:Nat):=by have:=HIX.out;rw[idxH,hfi]at this;exact this.symm
    subst hix;obtain⟨hi0,hpi,hbf⟩:=List.findIdx?_eq_some_iff_getElem.1 hfi;have hi0':i0<n0:=by have:=HN.out;omega
    have HI0:=hid (show(L.take (i0+1)).filter (λvs=> !p vs)=L.take i0 by
      rw[fil_take (List.getElem?_eq_getElem hi0),hpi];simp only[Bool.not_true,Bool.false_eq_true,if_false,List.append_nil];refine List.filter_eq_self.2 λvs hv=>?_
      obtain⟨j,hj,hjv⟩:=List.getElem_of_mem hv;rw[List.length_take]at hj;rw[List.getElem_take]at hjv;have:=hbf j zb;rw[hjv]at this
      simpa using this)
    have hne:¬(i0:Int)= -1:=zb
    have hw1:IntKind.i64.wrap ((i0:Int)+1)=((i0+1:Nat):Int):=by have:=HL.out;simp only[IntKind.wrap_i64];omega
    have HI1:=hid hi0';clear hbf hpi hfi hi0 hi0';go_wp2_with fail;clear hne hw1
    go_loopg [5,6] (n0-i0) (λgk v5 v6 wr=>∃(i j:Nat) (cur:List (List Value)),v5=.int .i64 (i:Int)/\v6=.int .i64 (j:Int)/\j+gk=n0+1/\Hid (i<j/\j<=n0/\cur.length=n0/\(∀vs∈cur,HdOk vs)/\cur.take i=(L.take j).filter (λvs=> !p vs)/\cur.drop j=L.drop j/\HdB cur g wr/\Ob g w wr))
    case atStart=>exact⟨i0,i0+1,L,rfl,rfl,by have:=HI1.out;omega,hid ⟨Nat.lt_succ_self _,HI1.out,HN.out,HLL.out,HI0.out.symm,rfl,HB0.out,O1⟩⟩
    case round=>
      obtain⟨i,j,cur,rfl,rfl,hjg,S⟩:=hrel;clear HB0 O1;by_cases hj:j<n0
      · obtain ⟨s1,s2,s3,s4,s5,s6,s7,s8⟩:=S.out
        obtain⟨vs,hd⟩:∃d,L[j]? =some d:=zo
        have hdc:cur[j]? =some vs:=by
          have h1:(cur.drop j)[0]? =(L.drop j)[0]? :=by rw[s6]
          rw[List.getElem?_drop,List.getElem?_drop]at h1;rw[Nat.add_zero]at h1;rw[h1,hd]
        have hok:=HLL.out vs (List.mem_of_getElem? hd);have HD:=hid hd;have HJ:=hid (jI hj (show j+1+(gk-1)=n0+1 by omega));have HG:=hid (show 0<gk by omega);have HS:=hid (jI s1 (jI s2 (jI s3 (jI s4 (jI s5 s6)))));have hjl:(j:Int)<(n0:Int):=zb
        have hwj:=hid (show IntKind.i64.wrap ((j:Int)+1)=((j+1:Nat):Int)by have:=HL.out;simp only[IntKind.wrap_i64];omega);have hwi:=hid (show IntKind.i64.wrap ((i:Int)+1)=((i+1:Nat):Int)by have:=HL.out;simp only[IntKind.wrap_i64];omega);have hij:=hid (jI s1 hj);clear hd hj hjg s1 s2 s3 s4 s5 s6 S;go_upto_region 7 with fail;clear hjl;refine rgs 4 (dR 22 4) [IsV (.slice (some ⟨g,0,none⟩) n0 c),iV (j:Int),IsP g (32*j),IsV (.agg vs.toArray)] [] ?_ ?_
        · refine Rc zt ?_
          refine Rc (mv (qB (x:=.int .i64 (j:Int)) 6)) ?_;refine Rc (ixq (ix_Hd g c n0 j hij.out.2) (qA 0 22) (qA 1 23)) ?_;refine Rc (lv (fP:=IsV (.agg vs.toArray)) _ (λw' e=>ld_Hd (s7.1.ext e) hdc hok.1) (qA 2 24) (λ_ _=>rfl)) ?_;exact rn0
        intro v X1 e1 hZ _;simp only[lxE,Nat.reduceAdd];rw[show v 3=.agg vs.toArray from hZ 3 dcx];clear hZ hdc;replace s7:=s7.ext e1;replace s8:=s8.ext' e1;clear e1;refine stL (λK hK=>?_);refine xK (vs:=z32') al_Hd (λBn e3=>hK _ _ ?_);obtain⟨g7,hg7⟩:∃g,X1.heap.size=g:=⟨_,rfl⟩;have hgg:g<g7:=by rw[<-hg7];exact s7.lt
        have hww:w.heap.size<=g7:=by rw[<-hg7];exact s8.size
        rw[hg7]at Bn ⊢;generalize X1.alloc (.cells z32'.toArray 98)=Y1 at Bn e3 ⊢;replace s7:=s7.ext e3;replace s8:=s8.ext' e3;clear hK K e3 hg7
        go_simp
        refine stL (λK hK=>?_);refine qX (us:=vs) Bn st_HdV rfl hok.1 nwZ32 (λX2 B7 O=>hK _ _ ?_) (ho1:=hok.2.1);replace s7:=s7.only (Ob.only O) zb;replace s8:=s8.newB O hww;clear hK K O Bn;refine jE ?_;go_upto_region 8 with fail;obtain⟨b,hb⟩:∃b,p vs=b:=⟨_,rfl⟩;refine rgs 4 (dR 26 4) [IsV (.func (.func f) #[] caps.toArray),IsV (.agg vs.toArray),IsV (.bool b),IsV (.bool (!b))] [] ?_ ?_
        · refine Rc yo ?_
          refine Rc (lvV B7 ld_HdV (qB 7) hok.1) ?_;refine Rc (cv1 (caps:=caps) he (qA 0 26) (qA (fP:=IsV (.agg vs.toArray)) 1 27) (λx0 w' hE d0=>by{obtain rfl:x0=_:=d0;have hq:=HF.out vs (List.mem_of_getElem? HD.out) w' (s8.ext' hE);rw[hb]at hq;exact hq})) ?_;refine Rc (un (r:=.bool (!b)) (qA (fP:=IsV (.bool b)) 2 28) (hr:=λw=>by go_simp)) ?_;exact rn0
        intro v X3 e1 hZ _;simp only[lxE,Nat.reduceAdd];rw[show v 3=.bool (!b)from hZ 3 dcx];clear hZ;replace s7:=s7.ext e1;replace s8:=s8.ext' e1;replace B7:=B7.ext e1;clear e1;refine jE ?_;cases b with
        | true=>
          have S':=hid (show i<j+1/\j+1<=n0/\cur.length=n0/\(∀vs∈cur,HdOk vs)/\cur.take i=(L.take (j+1)).filter (λvs=> !p vs)/\cur.drop (j+1)=L.drop (j+1)/\HdB cur g X3/\Ob g w X3 from by
            obtain⟨t1,t2,t3,t4,t5,t6⟩:=HS.out;refine⟨by omega,hij.out.2,t3,t4,?_,?_,s7,s8⟩
            ·rw[fil_take HD.out,hb,t5];simp
            ·rw[<-List.drop_drop,t6,List.drop_drop])
          clear s7 s8 HS B7 hb;have hx9:=hwj.out;go_wp2_with fail
          go_roundg (gk-1)
          case measure=>have:=HG.out;omega
          case rel=>exact⟨i,j+1,cur,rfl,rfl,HJ.out.2,S'⟩
        | false=>
          go_upto_region 9 with fail;have hil:i<cur.length:=by have:=HS.out.2.2.1;have:=hij.out;omega
          refine rgs 4 (dR 30 4) [IsV (.slice (some ⟨g,0,none⟩) n0 c),iV (i:Int),IsV (.agg vs.toArray),IsP g (32*i)] [] ?_ ?_
          · refine Rc zt ?_
            refine Rc zv ?_;refine Rc (lvV B7 ld_HdV (qB 7) hok.1) ?_;refine Rc (ixq (ix_Hd g c n0 i (by have:=hij.out;omega)) (qA 0 30) (qA 1 31)) ?_;exact rn0
          intro v X4 e1 hZ _;simp only[lxE,Nat.reduceAdd];rw[show v 2=.agg vs.toArray from hZ 2 dcx,show v 3=.pointer (some ⟨g,32*i,none⟩)from hZ 3 dcx];clear hZ;replace s7:=s7.ext e1;replace s8:=s8.ext' e1;clear e1 B7;obtain⟨O,s7'⟩:=s7.set (λvs hv=>(HS.out.2.2.2.1 vs hv).1) hil hok;have hst:=st_Hd s7 hil hok;refine stL (λK hK=>?_);refine st_wp rfl za za hst ?_;refine hK _ _ ?_;generalize xD X4 g (32*i) vs=X5 at O s7' ⊢;have s8':=s8.trans (Ob.only O);clear hK K hst s7 s8;refine jE ?_
          have S':=hid (show i+1<j+1/\j+1<=n0/\(cur.set i vs).length=n0/\(∀x∈cur.set i vs,HdOk x)/\(cur.set i vs).take (i+1)=(L.take (j+1)).filter (λvs=> !p vs)/\(cur.set i vs).drop (j+1)=L.drop (j+1)/\HdB (cur.set i vs) g X5/\Ob g w X5 from by
            obtain⟨t1,t2,t3,t4,t5,t6⟩:=HS.out;refine⟨by omega,hij.out.2,by rw[List.length_set,t3],λx hx=>(List.mem_or_eq_of_mem_set hx).elim (t4 x) (λe=>e▸hok),?_,?_,s7',s8'⟩
            · rw[fil_take HD.out,hb,<-t5]
              simp only[Bool.not_false,if_true];rw[List.take_add_one,List.getElem?_set,if_pos rfl,if_pos hil,List.take_set_of_le (jJ _)];rfl
            ·rw[List.drop_set_of_lt (by omega),<-List.drop_drop,t6,List.drop_drop])
          clear s7' s8' HS O hb;have hx9:=hwj.out;have hx8:=hwi.out;go_wp2_with fail
          go_roundg (gk-1)
          case measure=>have:=HG.out;omega
          case rel=>exact⟨i+1,j+1,cur.set i vs,rfl,rfl,HJ.out.2,S'⟩
      · have hjl:¬(j:Int)<(n0:Int):=by omega
        go_upto_region 11 with fail;obtain⟨s1,s2,s3,s4,s5,s6,s7,s8⟩:=S.out;clear S;have hjn:j=n0:=zb
        subst hjn;have s5:cur.take i=L.filter (λvs=> !p vs):=by rw[s5,List.take_of_length_le (by rw[HN.out];exact jJ _)]
        have hfl:(L.filter (λvs=> !p vs)).length=i:=by rw[<-s5,List.length_take,s3];omega
        have b1:(0:Int)<=(i:Int):=zb
        have b2:(i:Int)<=(j:Int):=zb
        have b3:(j:Int)<=(c:Int):=by have:=HL.out.2;omega
        have b4:(i:Int)<=(c:Int):=zb
        have b5:¬c=i:=by have:=HL.out.2;omega
        have b6:i*32=32*i:=zb
        refine rgs 2 [some 36,some 37] [IsV (.slice (some ⟨g,0,none⟩) j c),iV (i:Int)] [] ?_ ?_
        · refine Rc zt ?_
          refine Rc zv ?_;exact rn0
        intro v X1 e1 hZ _;simp only[lxE,Nat.reduceAdd];rw[show v 0=.slice (some ⟨g,0,none⟩) j c from hZ 0 dcx,show v 1=.int .i64 (i:Int)from hZ 1 dcx];clear hZ;replace s7:=s7.ext e1;replace s8:=s8.ext' e1
        try simp only[dxE]
        refine jP λK hK=>?_
        go_simp
        refine hK _ _ ?_;clear hK K;obtain⟨W11,hrun,O2,s9⟩:=clr_run (T:=37) (ty:=0) s7 s3 (show i<j from s1) (λvs hv=>(s4 vs hv).1) (c-i);refine jP λK hK=>?_
        go_simp
        refine hK _ _ ?_;clear hK K hrun;refine jE ?_;go_wp2_with fail
        go_ret
        exact⟨s8.trans (Ob.only O2),by first|rfl| (rw[hfl];rfl),by rw[<-s5];exact s9⟩
end
end Go.Proofs.YtkeikfekkdplgaaGreatDoor
