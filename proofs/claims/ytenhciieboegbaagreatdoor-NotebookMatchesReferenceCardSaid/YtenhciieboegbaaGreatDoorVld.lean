/-
  Rows of words that a call has made, as slices with room: written, read, appended to. No condition.
  The reference package: Neg, Abs, Add, Sub, Sign, Cmp, Bits. Every two integers of at most 2^28 words.
  Valid of the reference at canonical integers (out of XValid).
-/
import Derived.Test.YtenhciieboegbaaGreatDoorRow
import Derived.Test.YtenhciieboegbaaGreatDoorInt1
import Derived.Test.YtenhciieboegbaaGreatDoorRwn
namespace Go.Proofs.YtenhciieboegbaaGreatDoor
open Go Go.RowKit
theorem RowOf.set{e:TypeId}{ok:Value→Prop}{w:World}{base:Nat}{xs:List Value}{g n cap:Nat}(h:RowOf e ok w base (.slice (some ⟨g,0,none⟩) n cap) xs)(j:Nat)(u:Value)(hu:ok u):
    RowOf e ok (w.setCell ⟨g,j,none⟩ u) base (.slice (some ⟨g,0,none⟩) n cap) (xs.set j u)∧Below base w (w.setCell ⟨g,j,none⟩ u):=by
  rcases h with⟨h,rfl⟩| ⟨g',cap',cur,h1,h2,h3,h4,h5,h6,h7,h8⟩
  ·cases h
  · simp only[Value.slice.injEq,Option.some.injEq,Addr.mk.injEq,and_true]at h1
    obtain⟨rfl,rfl,rfl⟩:=h1;refine⟨.inr ⟨g,cap,cur.setIfInBounds j u,by simp,h2,?_,by simpa using h4,h5,by simpa using h6,?_,?_⟩,(Below.refl base w).setCell h2 u⟩
    · simp only[World.setCell,Array.getElem?_modify,if_true]
      rw[h3];simp
    ·rw[Array.toList_setIfInBounds,List.length_set,List.take_set,h7]
    · intro i v hv
      rw[Array.getElem?_setIfInBounds]at hv
      split at hv
      · split at hv
        ·simp at hv;rw[← hv];exact hu
        ·simp at hv
      ·exact h8 i v hv
def isU32(x:Value):Prop:=∃n:Nat,x=.int .u32 (n:Int)
theorem RowOf.wd{w:World}{base n cap:Nat}{ao:Option Addr}{xs:List Nat}(h:RowOf 97 isU32 w base (.slice ao n cap) (wcells xs))(hx:∀i,xs.getD i 0<4294967296):Wd w ao n cap xs:=by
  have h0:=h;rcases h with⟨h,hw⟩| ⟨g,cap',cur,h1,h2,h3,h4,h5,h6,h7,h8⟩
  · simp only[Value.slice.injEq]at h
    obtain⟨rfl,rfl,rfl⟩:=h;have:xs= []:=by simpa [wcells]using hw
    rw[this];exact wd_nil _ _ _ (by omega)
  · simp only[Value.slice.injEq]at h1
    obtain⟨rfl,rfl,rfl⟩:=h1;refine⟨(wcells_length xs).symm,h4,h5,hx,.inr ⟨g,0,rfl,heap_lt h3,λj hj=>?_⟩⟩;rw[Nat.zero_add];exact h0.cell j _ (wcells_getElem? xs j (by rw[wcells_length]at hj;exact hj))
def Rw(w:World)(base:Nat)(v:Value)(xs:List Nat):Prop:=RowOf 97 isU32 w base v (wcells xs)∧ ∀i,xs.getD i 0<4294967296
theorem Rw.ext{w w':World}{base:Nat}{v:Value}{xs:List Nat}(h:Rw w base v xs)(e:Ext w w'):Rw w' base v xs:=⟨h.1.ext e,h.2⟩
theorem Rw.shape{w:World}{base:Nat}{v:Value}{xs:List Nat}(h:Rw w base v xs):∃ao cap,v=.slice ao xs.length cap∧(xs≠ []→ ∃g,ao=some ⟨g,0,none⟩∧base≤g∧g<w.heap.size)∧xs.length≤cap∧cap≤9223372036854775807:=by
  obtain⟨ao,cap,h1,h2,h3,h4⟩:=h.1.shape;rw[wcells_length]at h1 h3;exact⟨ao,cap,h1,λhx=>h2 (λh=>hx (List.map_eq_nil_iff.1 h)),h3,h4⟩
theorem Rw.start(w:World)(base:Nat)(h:base≤w.heap.size):Rw (w.alloc (.cells #[] 97)) base (.slice (some ⟨w.heap.size,0,none⟩) 0 0) []:=
  ⟨.inr ⟨w.heap.size,0,#[],rfl,h,heap_alloc_new _ _,by simp[wcells],by omega,rfl,by simp[wcells],by simp⟩,λi=>by simp⟩
def IsWk(k m:Nat):Value→World→Prop:=λx w=>∃a n c xs,x=.slice a n c∧Wd w a n c xs∧n≤k∧natVal xs=m
theorem IsWk.gstb(k m:Nat):GStb (IsWk k m):=λ_ _ _ e ⟨a,n,c,xs,h1,h2,h3⟩=>⟨a,n,c,xs,h1,h2.gr e,h3⟩
theorem IsWk.stb(k m:Nat):Stb (IsWk k m):=(IsWk.gstb k m).stb
theorem app_row(w:World)(base g:Nat)(ao:Option Addr)(n cap:Nat)(xs:List Nat)(h:Wd w ao n cap xs)(hn:n≤1099511627776)(hr:Rw w base (.slice (some ⟨g,0,none⟩) 0 0) [])(hbase:base≤w.heap.size)(ty:TypeId):
    ∃v w',(Builtin.append_ #[27,27] ty #[.slice (some ⟨g,0,none⟩) 0 0,.slice ao n cap]).run Tryz.prog w=.ok v w'∧Ext w w'∧Rw w' base v xs:=by
  obtain⟨i,hi,hz0,hz1,hz2⟩:=info_parts Tryz.infoU32;have hu:Tryz.prog.underlying 27=some (.slice 97):=by kernel_rfl
  have hlen:=h.len;rcases Nat.eq_zero_or_pos n with h0|h0
  · subst h0
    obtain rfl:xs= []:=List.eq_nil_of_length_eq_zero hlen
    have hsrc:Src Tryz.prog i.size 27 (.slice ao 0 cap) 0 [] w:=by
      cases ao with
      |none=>exact Src.ofNil w hu cap
      |some a=>exact Src.ofSlice w hu a 0 cap [] (by simp) (by simp) (λ_ h=>by cases h)
    have:=run_append_room_src w 27 27 ty 97 i hu hi g 0 0 0 (.slice ao 0 cap) 0 [] hsrc (by omega) (λj hj=>by simp at hj) (λj hj=>by simp at hj);exact⟨_,_,this,Ext.refl w,hr⟩
  · rcases h.at_ with h1| ⟨b,off,rfl,hb,hc⟩
    ·omega
    · have hnews:∀j u,(wcells xs)[j]? =some u→w.cell? ((⟨b,off,none⟩:Addr).add j)=some u:=λj u hj=>by
        have hjn:j<n:=by
          rcases Nat.lt_or_ge j n with h|h
          ·exact h
          ·rw[List.getElem?_eq_none (by rw[wcells_length];omega)]at hj;cases hj
        rw[wcells_getElem? _ _ (by omega)]at hj;rw[Addr.add_lit,hc j hjn];exact hj
      have hsrc:Src Tryz.prog i.size 27 (.slice (some ⟨b,off,none⟩) n cap) n (wcells xs) w:=
        Src.ofSlice w hu _ n cap (wcells xs) (by rw[wcells_length,hlen,hz1,Nat.mul_one]) hnews (λv hv=>by
          simp only[wcells,List.mem_map]at hv;obtain⟨y,_,rfl⟩:=hv
          rfl)
      have hge:=grownCap_ge w n 0 97;have hle:=grownCap_le_maxLen w n 0 97 (by unfold maxLen;omega)
      have hrun:=run_append_grow_src w 27 27 ty 97 i (.int .u32 0) hu hi hz0 (some ⟨g,0,none⟩) 0 0 [] (run_firstCells_some w.drew i.size 0 ⟨g,0,none⟩ 0 0 [] (by simp) (by simp)) (.slice (some ⟨b,off,none⟩) n cap) n (wcells xs) hsrc
        (by omega) (by omega) (by rw[Nat.zero_add];exact growslice_fits (by omega) (by rw[hz2];omega))
      rw[Nat.zero_add]at hrun;refine⟨_,_,hrun,(Ext.refl w).drew.alloc _,⟨.inr ⟨w.heap.size,_,_,by rw[wcells_length,hlen],hbase,heap_alloc_new w.drew _,?_,?_,?_,?_,?_⟩,h.lt⟩⟩
      ·rw[wcells_length,hlen];exact hge
      ·unfold maxLen at hle;omega
      · simp only[List.nil_append,Array.size_append,List.size_toArray,wcells_length,hlen,size_zeroCells]
        first| (simp[Value.cells];done)| (simp[Value.cells];omega)
      ·rw[Array.toList_append];exact List.take_left
      · intro j y hj
        have hmem:=List.mem_of_getElem? (by rw[Array.getElem?_toList];exact hj);rw[Array.toList_append]at hmem;rcases List.mem_append.1 hmem with h|h
        · have h9:y∈wcells xs:=by simpa using h
          simp only[wcells,List.mem_map]at h9;obtain⟨z,_,rfl⟩:=h9;exact⟨z,rfl⟩
        · have hz:(Value.int .u32 0).cells= #[.int .u32 0]:=rfl
          rw[hz,toList_zeroCells_one]at h;rw[(List.mem_replicate.1 h).2];exact⟨0,rfl⟩
theorem wpl_app{w:World}{ops:Array Oper}{rest:List Oper}{o:Oper}{a:Act}{Q:Exit→Act→World→Prop}(hgd:o.guard=none)(s x:Operand)
    (ho:o.op=Op.call {callee:=Callee.builtin Builtin.append,args:= #[s,x],argTypes:= #[27,27]})
    (base g:Nat) (ao:Option Addr) (n cap:Nat) (xs:List Nat) (hs:a.eval s=.slice (some ⟨g,0,none⟩) 0 0) (hx:a.eval x=.slice ao n cap) (h:Wd w ao n cap xs) (hn:n≤1099511627776) (hr:Rw w base (.slice (some ⟨g,0,none⟩) 0 0) []) (hbase:base≤w.heap.size)
    (hK:∀v w',Ext w w'→Rw w' base v xs→wpList Tryz.prog ops Q rest (a.put o.dst v) w'):wpList Tryz.prog ops Q (o ::rest) a w:=by
  obtain⟨v,w',hrun,e,hv⟩:=app_row w base g ao n cap xs h hn hr hbase o.type;refine wpList_plain hgd λK hK'=>?_
  unfold Oper.wp;simp[execOp,ho,resolve,invoke,builtin,hs,hx,hrun,Result.andThen];exact hK' _ _ (hK v w' e hv)
def Upd(g:Nat)(w w':World):Prop:=Below g w w'∧ ∀b,b≠g→b<w.heap.size→w'.heap[b]? =w.heap[b]?
theorem Upd.refl(g:Nat)(w:World):Upd g w w:=⟨Below.refl _ _,λ_ _ _=>rfl⟩
theorem Upd.trans{g:Nat}{a b c:World}(h:Upd g a b)(k:Upd g b c):Upd g a c:=
  ⟨Below.trans h.1 k.1,λx hx hl=>(k.2 x hx (Nat.lt_of_lt_of_le hl (Below.size h.1))).trans (h.2 x hx hl)⟩
theorem Upd.set(g j:Nat)(w:World)(v:Value):Upd g w (w.setCell ⟨g,j,none⟩ v):=
  ⟨(Below.refl g w).setCell (Nat.le_refl _) v,λ_ hb _=>Below.heap_setCell _ _ _ _ hb⟩
theorem Upd.ext{g:Nat}{w0 w w':World}(u:Upd g w w')(e:Ext w0 w)(hg:w0.heap.size≤g):Ext w0 w':=Below.ext e u.1 hg
theorem Bx.upd{g b n c:Nat}{s:Bool}{a:Option Addr}{w w':World}(h:Bx w b s a n c)(u:Upd g w w')(hb:b≠g):Bx w' b s a n c:=by
  have h5:=u.2 b hb h.lt;obtain⟨h1,h2,h3,h4⟩:=h;simp only[World.cell?,World.frozen?]at*;exact⟨by simp only[World.cell?];rw[h5];exact h1,by simp only[World.cell?];rw[h5];exact h2,by simp only[World.frozen?];rw[h5];exact h3,by simp only[World.frozen?];rw[h5];exact h4⟩
theorem Rw.put{w:World}{base g n cap:Nat}{xs:List Nat}(h:Rw w base (.slice (some ⟨g,0,none⟩) n cap) xs)(j y:Nat)(hj:j<xs.length)(hy:y<4294967296):Rw (w.setCell ⟨g,j,none⟩ (.int .u32 (y:Int))) base (.slice (some ⟨g,0,none⟩) n cap) (xs.set j y):=by
  refine⟨?_,λi=>?_⟩
  · have:=(h.1.set j (.int .u32 (y:Int)) ⟨y,rfl⟩).1
    rwa [show(wcells xs).set j (Value.int .u32 (y:Int))=wcells (xs.set j y)by simp[wcells,List.map_set]]at this
  · rw[getD_set _ _ _ _ hj];split
    ·exact hy
    ·exact h.2 i
theorem Rw.cell{w:World}{base g n cap:Nat}{xs:List Nat}(h:Rw w base (.slice (some ⟨g,0,none⟩) n cap) xs)(j:Nat)(hj:j<xs.length):w.cell? ⟨g,j,none⟩=some (.int .u32 ((xs.getD j 0:Nat):Int)):=h.1.cell j _ (wcells_getElem? xs j hj)
theorem Rw.free{w:World}{base g n cap:Nat}{xs:List Nat}(h:Rw w base (.slice (some ⟨g,0,none⟩) n cap) xs)(j:Nat):w.frozen? ⟨g,j,none⟩=false:=h.1.free j
end Go.Proofs.YtenhciieboegbaaGreatDoor
namespace Go.Proofs.YtenhciieboegbaaGreatDoor
open Go Go.RowKit
theorem bitLen_half(x:Nat)(h:0<x):bitLen x=bitLen (x/2)+1:=by
  obtain⟨k,h1,h2,h3⟩:=bitLen_bounds x (by omega);rcases Nat.eq_zero_or_pos k with h0|h0
  · subst h0
    have:x=1:=by omega
    subst this;decide
  · obtain⟨j,rfl⟩:∃j,k=j+1:=⟨k-1,by omega⟩
    rw[h1,bitLen_eq (x/2) j (by rw[Nat.pow_succ]at h2;omega) (by rw[Nat.pow_succ]at h3;omega)]
set_option maxRecDepth 100000 in
set_option maxHeartbeats 1000000 in
theorem RBits_c(w:World)(s1:Bool)(a1:Option Addr)(n1 c1 k1:Nat)(z1:Int)(h1:IntAt w k1 s1 a1 n1 c1 z1)(l1:k1≤268435456):Calls Tryz.prog 67 #[.agg #[.bool s1,.slice a1 n1 c1]] w (RVal w (.int .i64 (bitLen z1.natAbs:Nat))):=by
  obtain⟨W,hW,K0⟩:∃W,W=w.alloc (.cells #[.bool s1,.slice a1 n1 c1] 29)∧Kq w W [(w.heap.size, [.bool s1,.slice a1 n1 c1])]:=⟨_,rfl,by simpa using(Kq.start w).alloc [.bool s1,.slice a1 n1 c1] 29⟩;have b2:=K0.bx w.heap.size s1 a1 n1 c1 (by simp);have E:=hid K0.ext;have F1:=b2.c0;have F2:=b2.c1;have F3:=b2.f0;have F4:=b2.f1;obtain⟨m,⟨xs,hw,hk,htop,hv⟩,hs,hz⟩:=h1;have hz':bitLen z1.natAbs=bitLen m:=by rw[hz];cases s1 <;> simp
  rw[hz'];have hlen:=hw.len;rcases Nat.eq_zero_or_pos n1 with h0|h0
  · subst h0
    have hm:bitLen m=0:=by
      rw[← hv,List.eq_nil_of_length_eq_zero hlen];rfl
    rw[hm];clear hw hk htop hv hs hz hz' hlen b2 K0;go_enter Tryz.func67,Tryz.ntmps67;go_wp2_with fail;rw[← hW];clear hW;go_wp2_with fail
    go_ret
    exact⟨rfl,E.out⟩
  · obtain⟨j,rfl⟩:∃j,n1=j+1:=⟨n1-1,by omega⟩
    have hbv:=bitLen_natVal xs j hlen hw.lt (by simpa using htop (by omega));rw[hv]at hbv;rcases hw.shape with h9| ⟨b,off,rfl,hb⟩
    ·omega
    have hw':=hw.ext K0.ext;have hcell:=hw'.cell j (by omega);have hcellw:=hw.cell j (by omega);have hjl:j<268435456:=by omega
    have hxl:=hw.lt j;have hcapo:=hw.capo;have hbig:=hw.big;obtain⟨x,hx⟩:∃x,x=xs.getD j 0:=⟨_,rfl⟩;rw[← hx]at hbv hcell hxl hcellw;have Hbv:=hid hbv;obtain⟨T,hT⟩:∃T,T=bitLen m:=⟨_,rfl⟩;rw[← hT]at Hbv ⊢
    have hTl:T≤34359738368:=by
      have:=(lib_bitLen x hxl).2;have h2:=Hbv.out;omega
    have hnz:((((j+1:Nat):Int))==0)=false:=by rw[beq_eq_false_iff_ne];omega
    have hje:(((j+1:Nat):Int)-1)=(j:Int):=by omega
    clear hw hk htop hv hs hz hz' hlen b2 K0 hw' hbv hT h0 hx;go_enter Tryz.func67,Tryz.ntmps67;go_wp2_with fail;rw[← hW];clear hW;go_wp2_with fail;have I0:=hid (show 32*j+bitLen x=T from Hbv.out.symm);clear Hbv F1 F2 F3 F4 hcell hcellw
    go_loopg [3,4] x (λgk v3 v4 wr=>∃n:Nat,v3=.int .i64 (n:Int)∧v4=.int .u32 (gk:Int)∧gk<4294967296∧Hid (n+bitLen gk=T)∧wr=W)
    case atStart=>exact⟨32*j,by go_must (first|rfl| (congr 1;omega)),rfl,hxl,I0,rfl⟩
    case round=>
      clear I0;obtain⟨n,rfl,rfl,hgl,hn,rfl⟩:=hrel;by_cases hg:0<gk
      · have hb:=bitLen_half gk hg
        have hn2:=hid (show n+1+bitLen (gk/2)=T by have:=hn.out;omega);have hnl:n≤T:=by have:=hn.out;omega
        clear hb hn;go_wp2_with fail
        go_roundg (gk/2)
        case measure=>omega
        case rel=>exact⟨n+1,by go_num,by go_num,by omega,hn2,rfl⟩
      · obtain rfl:gk=0:=by omega
        have hn2:=hid (show n=T by have:=hn.out;simpa [bitLen]using this);clear hn;go_wp2_with fail
        go_ret
        exact⟨by rw[hn2.out];rfl,E.out⟩
end Go.Proofs.YtenhciieboegbaaGreatDoor
namespace Go.Proofs.YtenhciieboegbaaGreatDoor
open Go Go.RowKit
theorem IntAt.top{w:World}{k n cap:Nat}{s:Bool}{ao:Option Addr}{z:Int}(h:IntAt w k s ao n cap z)(h0:0<n):∃b off x,ao=some ⟨b,off,none⟩∧w.cell? ⟨b,off+(n-1),none⟩=some (.int .u32 (x:Nat))∧x≠0∧n≤cap∧cap≤9223372036854775807:=by
  obtain⟨m,⟨xs,hw,_,hz,_⟩,_⟩:=h;rcases hw.at_ with h1| ⟨b,off,h1,_,h3⟩
  ·omega
  ·exact⟨b,off,_,h1,h3 (n-1) (by omega),hz h0,hw.capo,hw.big⟩
theorem RValid_c(w:World)(s1:Bool)(a1:Option Addr)(n1 c1 k1:Nat)(z1:Int)(h1:IntAt w k1 s1 a1 n1 c1 z1):Calls Tryz.prog 66 #[.agg #[.bool s1,.slice a1 n1 c1]] w (Ret w (IsV (.bool true))):=by
  obtain⟨W,hW,K0⟩:∃W,W=w.alloc (.cells #[.bool s1,.slice a1 n1 c1] 29)∧Kq w W [(w.heap.size, [.bool s1,.slice a1 n1 c1])]:=⟨_,rfl,by simpa using(Kq.start w).alloc [.bool s1,.slice a1 n1 c1] 29⟩;have b1:=K0.bx w.heap.size s1 a1 n1 c1 (by simp);have E:=hid K0.ext;clear K0;rcases Nat.eq_zero_or_pos n1 with h0|h0
  · subst h0
    obtain rfl:s1=false:=by obtain⟨m,_,h,_⟩:=h1;exact h rfl
    clear h1;go_enter Tryz.func66,Tryz.ntmps66;go_upto_region 1 with(fail);rw[← hW];clear hW;have F1:=b1.c0;have F2:=b1.c1;have F3:=b1.f0;have F4:=b1.f1;go_wp2_with fail;exact bodyPost_ret (v:=.bool true) (by simp[results,Tryz.results66,go_sem]) rfl ⟨_,rfl,E.out,rfl⟩
  · obtain⟨b,off,x,rfl,hc,hx,hcap,hbig⟩:=(h1.ext E.out).top h0
    have hn:((n1:Int)==0)=false:=by rw[beq_eq_false_iff_ne];omega
    have hn2:decide ((0:Int)<(n1:Int))=true:=by simp;omega
    have hx2:((x:Int)==0)=false:=by rw[beq_eq_false_iff_ne];omega
    have hx3:((x:Int) !=0)=true:=by simp;omega
    clear h1 hx;go_enter Tryz.func66,Tryz.ntmps66;go_upto_region 1 with(fail);rw[← hW];clear hW;have F1:=b1.c0;have F2:=b1.c1;have F3:=b1.f0;have F4:=b1.f1;go_wp2_with fail;exact bodyPost_ret (v:=.bool true) (by simp[results,Tryz.results66,go_sem]) rfl ⟨_,rfl,E.out,rfl⟩
theorem RValid_f{k1:Nat}{z1:Int}{x:Value}{w:World}(hx:IsI k1 z1 x w):Calls Tryz.prog 66 #[x] w (Ret w (IsV (.bool true))):=by
  obtain⟨s,a,n,c,rfl,h1⟩:=hx;exact RValid_c w s a n c k1 z1 h1
end Go.Proofs.YtenhciieboegbaaGreatDoor
