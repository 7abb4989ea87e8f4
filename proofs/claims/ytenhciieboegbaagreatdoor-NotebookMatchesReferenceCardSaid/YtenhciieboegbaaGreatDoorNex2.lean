/-
  Package notebook: Uses: the names of the cells that an expression uses, in order.
  Package notebook: Fill.
  The laws' example. (Printed by wip/gen/nex1.py.)
  The laws' fixed calls in plain words.
-/
import Derived.Test.YtenhciieboegbaaGreatDoorNus
import Derived.Shelf.SlIter.Keys
import Derived.Shelf.Slices.In.SortNone
import Derived.Test.YtenhciieboegbaaGreatDoorText
import Derived.Lib.ReplaceLaws
import Derived.Lib.ItoaLen
namespace Go.Proofs.YtenhciieboegbaaGreatDoor
open Go Go.RowKit Go.Maps Go.Sort Go.Shelf
@[go_sem] theorem st_fnU {P:Program} {w:World} {a:Addr} {f:Fn} {u c:Array Value} {m:Mode}:(store a (.func f u c) m).run P w =stored P w a (.func f u c) m:=run_store P w a _ m rfl
def soRen:Ren:=⟨fun|6 =>46|7 =>47|8 =>54|9 =>88|10 =>89|11 =>94|n =>n,fun|0 =>0|3 =>4|4 =>4|23 =>69|24 =>53|26 =>9|27 =>90|28 =>90|33 =>70|n =>n,fun|n =>n⟩
theorem so6:SlLaysZ.n6 Tryz.prog soRen:= {
  mixed:=by kernel_rfl
  f6:=⟨Tryz.f46.name,by kernel_rfl,Tryz.func46.trans (congrArg some (by kernel_rfl))⟩
  f8:=⟨Tryz.f54.name,by kernel_rfl,Tryz.func54.trans (congrArg some (by kernel_rfl))⟩
  f11:=⟨Tryz.f94.name,by kernel_rfl,Tryz.func94.trans (congrArg some (by kernel_rfl))⟩
  t0:=by kernel_rfl
  a0:=λw =>by kernel_rfl
  z0:=λw =>by kernel_rfl
  v0:=λw =>by kernel_rfl
  t24:=by kernel_rfl
  a24:=λw =>by kernel_rfl
  z24:=λw =>by kernel_rfl
  v24:=λw =>by kernel_rfl
  t26:=by kernel_rfl
  a26:=λw =>by kernel_rfl
  z26:=λw =>by kernel_rfl
  v26:=λw =>by kernel_rfl
  t28:=by kernel_rfl
  a28:=λw =>by kernel_rfl
  z28:=λw =>by kernel_rfl
  v28:=λw =>by kernel_rfl
  i26:=by kernel_rfl}
theorem so7:SlLaysZ.n10 Tryz.prog soRen:= {
  mixed:=by kernel_rfl
  f10:=⟨Tryz.f89.name,by kernel_rfl,Tryz.func89.trans (congrArg some (by kernel_rfl))⟩
  t0:=by kernel_rfl
  a0:=λw =>by kernel_rfl
  z0:=λw =>by kernel_rfl
  v0:=λw =>by kernel_rfl
  t4:=by kernel_rfl
  a4:=λw =>by kernel_rfl
  z4:=λw =>by kernel_rfl
  v4:=λw =>by kernel_rfl
  t23:=by kernel_rfl
  a23:=λw =>by kernel_rfl
  z23:=λw =>by kernel_rfl
  v23:=λw =>by kernel_rfl
  t26:=by kernel_rfl
  a26:=λw =>by kernel_rfl
  z26:=λw =>by kernel_rfl
  v26:=λw =>by kernel_rfl
  t33:=by kernel_rfl
  a33:=λw =>by kernel_rfl
  z33:=λw =>by kernel_rfl
  v33:=λw =>by kernel_rfl}
theorem soSort:AnyZ.SortsIn Tryz.prog soRen Fence.wide 4:=
  ⟨λblk off cap ss W h1 h2 h3 =>callsIn_wide.2 (Tryz.slices_Sort_string blk off cap ss W h1 h2 h3),λp cap W =>callsIn_wide.2 (Any.slices_Sort_string_none Tryz.lays190 p cap W)⟩
noncomputable def usS (x:Nd):Sc:=(strKeys (putS (usN x).reverse)).mergeSort (λx y =>decide (x ≤ y))
set_option maxRecDepth 100000 in
set_option maxHeartbeats 4000000 in
theorem sortedK_f{w:World}{b n:Nat}{l:Sc}(hown:w.ownsMap (H:=Unit) Tryz.prog 9 (plainElem Tryz.prog 4) b n (putS l))(hn:n ≤ 1000000)(Bm:Nat)(hBm:Bm < w.heap.size)(hm:w.cell? ⟨Bm,0,none⟩=some (.map (some b))):
    Calls Tryz.prog 46 #[.func (.func 89) #[] #[.pointer (some ⟨Bm,0,none⟩)]] w (Ret w (IsSr ((strKeys (putS l)).mergeSort (λx y =>decide (x ≤ y))))) :=by
  have hsz:=hown.size_le
  have hseq:SeqGives Fence.wide 2 Tryz.prog 89 #[.pointer (some ⟨Bm,0,none⟩)] encStr (λss =>ss.Perm (strKeys (putS l))) (Maps.size (putS l)) w:=
    AnyZ.keys_gives (ρ:=soRen) {so7 with} Fence.wide 2 trivial rfl (by decide) Bm b n (putS l) w hBm hm hown
  refine Calls.mono (callsIn_wide.1 (AnyZ.sorted_in so6 Fence.wide 5 trivial trivial trivial trivial rfl (by decide) soSort (enters_of Tryz.func88 (by kernel_rfl) rfl) 89 _ trivial (enters_of Tryz.func89 (by kernel_rfl) rfl) _ (Maps.size (putS l)) (by unfold maxLen;omega) (by omega) w hseq)) ?_
  rintro e w' ⟨v,ss,rfl,hp,hrow,hnil,hb⟩
  refine⟨v,rfl,hb,?_⟩
  have hM:ss.mergeSort (λx y =>decide (x ≤ y))=(strKeys (putS l)).mergeSort (λx y =>decide (x ≤ y)) :=mergeSort_of_perm hp
  rw[← hM]
  have hr:Rwg 9 1 _ w' v _ _:=hrow
  obtain⟨ao,cap,rfl,h1,h2,-,h4⟩ :=hr.shape
  have hl:(ss.mergeSort (λx y =>decide (x ≤ y))).length =ss.length:=by simp
  refine⟨ao,cap,by rw[hl],by rw[hl];omega,λhne =>?_⟩
  obtain⟨g,rfl,-,-,k⟩ :=h4 (λe =>hne (List.length_eq_zero_iff.1 (by rw[hl];exact e)))
  exact⟨g,0,rfl,λj s hj =>by rw[Nat.zero_add];exact k j _ (by rw[List.getElem?_map,hj];rfl)⟩
section
set_option maxRecDepth 100000
set_option maxHeartbeats 4000000
theorem st_fnT(f:Fn)(caps:Array Value):StC1 Tryz.prog 87 (.func f #[] caps) :=λw a v h2 h3 =>by go_simp
theorem keysM_f(w:World)(b:Nat):Calls Tryz.prog 47 #[.map (some b)] w (λe w' =>e =.returned (.func (.func 89) #[] #[.pointer (some ⟨w.heap.size,0,none⟩)]) ∧ w' =w.alloc (.cells #[.map (some b)] 69)) :=by
  have hmf:∀(fn:Fn) (first cap:Array Value) (w:World),(Instr.makeFunc fn first cap).run Tryz.prog w =.ok (.func fn first cap) w:=λ_ _ _ _ =>rfl
  go_enter Tryz.func47,Tryz.ntmps47
  go_wp2
  go_ret
  exact⟨rfl,rfl⟩
theorem Uses_f{x:Nd}{B:Nat}{us:List Value}{w:World}(hx:NdC B w x us)(hok:NdOk x)(hn:(usN x).length ≤ 900000):Calls Tryz.prog 23 #[.agg us.toArray] w (Ret w (IsSr (usS x))) :=by
  have hmf:∀(fn:Fn) (first cap:Array Value) (w:World),(Instr.makeFunc fn first cap).run Tryz.prog w =.ok (.func fn first cap) w:=λ_ _ _ _ =>rfl
  have hmk:∀w,(Instr.makeMap 69 none).run Tryz.prog w =.ok (.map (some w.heap.size)) (w.alloc (.map #[] 0)) :=λw =>@run_makeMap Tryz.prog 69 w
  have hl8:=hx.len
  obtain⟨u0,u1,u2,u3,u4,u5,u6,u7,rfl⟩ :=len8 hl8
  have h1:(w.alloc (.cells #[u0,u1,u2,u3,u4,u5,u6,u7] 32)).heap.size =w.heap.size + 1:=by simp
  have h2:((w.alloc (.cells #[u0,u1,u2,u3,u4,u5,u6,u7] 32)).alloc (.map #[] 0)).heap.size =w.heap.size + 2:=by simp
  have h3:(((w.alloc (.cells #[u0,u1,u2,u3,u4,u5,u6,u7] 32)).alloc (.map #[] 0)).alloc (.cells #[.map (some (w.heap.size + 1))] 69)).heap.size =w.heap.size + 3:=by simp
  obtain⟨W,hW,E,B1,OM,B3,B4⟩:∃W,W =(((w.alloc (.cells #[u0,u1,u2,u3,u4,u5,u6,u7] 32)).alloc (.map #[] 0)).alloc (.cells #[.map (some (w.heap.size + 1))] 69)).alloc (.cells #[.nilFunc] 87) ∧ Ext w W ∧
      Bk W w.heap.size [u0,u1,u2,u3,u4,u5,u6,u7] ∧ W.ownsMap (H:=Unit) Tryz.prog 9 (plainElem Tryz.prog 4) (w.heap.size + 1) 0 (putS []) ∧ Bk W (w.heap.size + 2) [.map (some (w.heap.size + 1))] ∧ Bk W (w.heap.size + 3) [.nilFunc] :=
    ⟨_,rfl,((((Ext.refl w).alloc _).alloc _).alloc _).alloc _,(Bk.new w _ _).ext ((((Ext.refl _).alloc _).alloc _).alloc _),by rw[← h1];exact ownsMap_ext (World.ownsMap_made _ _ _ _) (((Ext.refl _).alloc _).alloc _),(Bk.newE _ _ h2 _ _).ext ((Ext.refl _).alloc _),Bk.newE _ _ h3 _ _⟩
  have HX:=hid hx
  have HOK:=hid (And.intro hok hn)
  have HE:=hid E
  have HB1:=hid B1
  have HOM:=hid OM
  have HB3:=hid B3
  have HB4:=hid B4
  clear hx hok hn hl8 h1 h2 h3 E B1 OM B3 B4
  go_enter Tryz.func23,Tryz.ntmps23
  go_upto_region 3 with(fail)
  try simp only[Nat.reduceAdd,Nat.add_assoc]
  rw[← hW]
  clear hW hmk
  refine wp_region_lit ?_
  refine wpList_step λK hK =>?_
  go_simp
  refine hK _ _ ?_
  clear hK K hmf
  refine stL (λK hK =>?_)
  refine stCO 0 (u:=.func (.func 45) #[] #[.pointer (some ⟨w.heap.size + 2,0,none⟩),.pointer (some ⟨w.heap.size + 3,0,none⟩)]) HB4.out (st_fnT _ _) rfl (λx =>by simp) (λX B9 O =>hK _ _ ?_)
  have HE1:=hid (O.ext HE.out (Nat.le_add_right _ _))
  have HU1:=hid (show UsA (w.heap.size + 2) (w.heap.size + 3) (w.heap.size + 1) 0 [] X from by
    have h:UsA (w.heap.size + 2) (w.heap.size + 3) (w.heap.size + 1) 0 [] X:=⟨by
      have hbl:=HOM.out.lt
      obtain⟨es,clock,hb,Ft,hs,hD⟩ :=HOM.out
      exact⟨es,clock,(O.block _ (by omega)).trans hb,Ft,hs,hD⟩,O.bk HB3.out (by omega),B9⟩
    exact h)
  have HB5:=hid (O.bk HB1.out (by omega))
  clear hK K O B9
  refine wpList_nil ?_
  go_upto_region 4 with(fail)
  refine wp_region_lit ?_
  refine stL (λK hK =>wp_ld (p:=.pointer (some ⟨w.heap.size + 3,0,none⟩)) (u:=.func (.func 45) #[] #[.pointer (some ⟨w.heap.size + 2,0,none⟩),.pointer (some ⟨w.heap.size + 3,0,none⟩)]) (ld_fn _ _ _ (HU1.out.2.2.c 0 _ rfl)) (hK _ _ ?_))
  clear hK K
  go_simp
  refine stL (λK hK =>wp_ld (p:=.pointer (some ⟨w.heap.size,0,none⟩)) (u:=.agg #[u0,u1,u2,u3,u4,u5,u6,u7]) (ld_Nd _ _ _ rfl HB5.out) (hK _ _ ?_))
  clear hK K
  go_simp
  have HCL:=hid (look_f x B (w.heap.size + 2) (w.heap.size + 3) (w.heap.size + 1) 0 [] [u0,u1,u2,u3,u4,u5,u6,u7] w X HX.out HE1.out (Nat.le_succ _) HU1.out (by omega) (by omega) HOK.out.1 (by have:=HOK.out.2;omega))
  refine stL (λK hK =>?_)
  refine wp_callC (us:= [.agg #[u0,u1,u2,u3,u4,u5,u6,u7]]) (caps:= #[.pointer (some ⟨w.heap.size + 2,0,none⟩),.pointer (some ⟨w.heap.size + 3,0,none⟩)]) (en Tryz.func45) (by kernel_rfl) (by kernel_rfl) HCL.out (λv X2 h =>hK _ _ ?_) (λch X h =>by{obtain⟨hx,_⟩ :=h;cases hx}) (λX h =>by{obtain⟨hx,_⟩ :=h;cases hx})
  clear hK K HCL
  obtain⟨h0,hO,hU⟩ :=h
  cases h0
  have HE2:=hid (hO.ext HE1.out (Nat.le_succ _))
  rw[List.append_nil,Nat.zero_add]at hU
  have HU2:=hid hU
  clear hO hU HE1 HU1 HB5 HB1 HOM HB3 HB4 HE
  refine wpList_nil ?_
  have c0:=HU2.out.2.1.c 0 _ rfl
  have HOW:=hid (ownsMap_ext HU2.out.1 ((Ext.refl X2).alloc (.cells #[.map (some (w.heap.size + 1))] 69)))
  have HSO:=hid (sortedK_f HOW.out (by have:=HOK.out.2;omega) X2.heap.size (by simp) (by simp))
  go_wp2_with (first| (go_at_call 47;refine Calls.mono (keysM_f X2 _) ?_;rintro e w3 ⟨rfl,rfl⟩)| (go_at_call 46;refine Calls.mono HSO.out ?_;rintro e w4 ⟨v,rfl,e4,hv⟩;have hv:=hid hv))
  go_ret
  exact⟨_,rfl,(HE2.out.alloc _).trans e4,hv.out⟩
end
end Go.Proofs.YtenhciieboegbaaGreatDoor
namespace Go.Proofs.YtenhciieboegbaaGreatDoor
open Go Go.RowKit Go.Shelf
/-! ### Fill -/
def TabM(w:World):Prop:=Tab w ∧ ∃m:Int,World.cell? w ⟨0,0,none⟩=some (.int .i64 m)
theorem TabM.ext{w w':World}(h:TabM w)(e:Ext w w'):TabM w':=⟨h.1.ext e,let ⟨m,hm⟩ :=h.2;⟨m,e.cell hm⟩⟩
def fillB(s x:ByteArray)(k:Int):ByteArray:=⟨(Lib.replaceAll s.data.toList (⟨#[123]⟩ ++x ++ ⟨#[125]⟩:ByteArray).data.toList (Lib.itoa k)).toArray⟩
theorem cnt_le(s x:ByteArray):Lib.countB s (⟨#[123]⟩ ++x ++ ⟨#[125]⟩) ≤ s.size:=
  Lib.countB_le _ (by rw[ByteArray.size_append,ByteArray.size_append];exact Nat.le_add_left _ _) s.size s (Nat.le_refl _)
set_option maxRecDepth 100000 in
set_option maxHeartbeats 4000000 in
theorem Fill_f{w:World}(T:TabM w)(s x:ByteArray)(k:Int)(hs:s.size ≤ 100000000)(hx:x.size ≤ 1000)(h0: -9223372036854775808 ≤ k)(h1:k ≤ 9223372036854775807):Calls Tryz.prog 28 #[.string s,.string x,.int .i64 k] w (Ret w (IsV (.string (fillB s x k)))) :=by
  obtain⟨hT,m,hm⟩ :=T
  have hl:=Lib.itoa_length_le k h0 h1
  have hc:=cnt_le s x
  have ho:1 ≤ (⟨#[123]⟩ ++x ++ ⟨#[125]⟩:ByteArray).size:=by rw[ByteArray.size_append,ByteArray.size_append];exact Nat.le_add_left _ _
  have hlen:s.size + Lib.countB s (⟨#[123]⟩ ++x ++ ⟨#[125]⟩) * (⟨(Lib.itoa k).toArray⟩:ByteArray).size ≤ 140737488355328:=by
    have:(⟨(Lib.itoa k).toArray⟩:ByteArray).size ≤ 21:=by show(Lib.itoa k).toArray.size ≤ 21;rw[List.size_toArray];exact hl
    have:=Nat.mul_le_mul hc this
    omega
  have q1:(⟨#[123]⟩:ByteArray).size + x.size ≤ 9223372036854775807:=by have:(⟨#[123]⟩:ByteArray).size =1:=rfl;omega
  have q2:(⟨#[123]⟩ ++x:ByteArray).size + (⟨#[125]⟩:ByteArray).size ≤ 9223372036854775807:=by rw[ByteArray.size_append];have:(⟨#[123]⟩:ByteArray).size =1:=rfl;have:(⟨#[125]⟩:ByteArray).size =1:=rfl;omega
  have hfin:(fillB s x k)=⟨(Lib.replaceAll s.data.toList (⟨#[123]⟩ ++x ++ ⟨#[125]⟩:ByteArray).data.toList (⟨(Lib.itoa k).toArray⟩:ByteArray).data.toList).toArray⟩ :=by simp[fillB]
  rw[hfin]
  clear hfin
  generalize hold:(⟨#[123]⟩ ++x ++ ⟨#[125]⟩:ByteArray)=old at ho hlen hc
  go_enter Tryz.func28,Tryz.ntmps28
  go_wp2_with (first
    | (go_at_call 50;refine(Tryz.strconv_Itoa k h0 h1 _ (by first|exact hT|exact hT.ext (by assumption))).mono ?_;rintro e w1 ⟨rfl,kk,os,rfl⟩)
    | (go_at_call 49;refine(Tryz.strings_ReplaceAll s old _ m _ (by omega) (Ext.cell (ext_grow _ _ _) hm) ho hlen).mono ?_;rintro e w2 ⟨rfl,e2⟩))
  go_ret
  exact⟨_,rfl,(ext_grow _ _ _).trans e2,rfl⟩
end Go.Proofs.YtenhciieboegbaaGreatDoor
namespace Go.Proofs.YtenhciieboegbaaGreatDoor
open Go Go.RowKit
def exD:Nd:=⟨3, [104,58,123,100,125],0,0,0,0, []⟩
def exT:Nd:=⟨1, [],0,12,0,0, []⟩
def exS:Nd:=⟨13, [],0,0,0,0, [exD,exT]⟩
def exN:Nd:=⟨9, [100],0,0,3,100, [exS]⟩
def exH:Nd:=⟨3, [99,58,45,50,51],0,0,0,0, []⟩
def exL:List Cl:= [⟨[104],exH⟩,⟨[110],exN⟩]
theorem nd_leaf{B:Nat}{w:World}{op:Int}{nm:List UInt8}{n:Int}(h:NdBd nm op):NdC B w (.mk op nm n 0 0 0 []) [.int .i64 op,encS nm,.int .i64 n,.bool false,.slice none 0 0,.int .i64 0,.int .i64 0,.slice none 0 0] :=
  NdC.mk' h rfl (IsI.nil _ _) (Nat.le_refl _) (show(0:Nat) ≤ 9223372036854775807 by decide) (λe =>absurd rfl e)
theorem nd_num{B:Nat}{w:World}{z:Int}{s:Bool}{a:Option Addr}{n c:Nat}(h:IsI 136 z (.agg #[.bool s,.slice a n c]) w):NdC B w (.mk 1 [] 0 z 0 0 []) [.int .i64 1,.string ⟨#[]⟩,.int .i64 0,.bool s,.slice a n c,.int .i64 0,.int .i64 0,.slice none 0 0] :=
  NdC.mk' ⟨by simp[Nd.nm],show(-9223372036854775808:Int) ≤ 1 by decide,show(1:Int) ≤ 9223372036854775807 by decide⟩ rfl h (Nat.le_refl _) (show(0:Nat) ≤ 9223372036854775807 by decide) (λe =>absurd rfl e)
theorem ndr_two{B g:Nat}{w:World}{x y:Nd}{us vs:List Value}(hB:Bk w g (us ++vs))(hx:NdC B w x us)(hy:NdC B w y vs):NdR B w [x,y] g 0:=by
  have l1:=hx.len
  have l2:=hy.len
  refine NdR.of λi z hi =>?_
  rcases i with _|_|i
  · obtain rfl:x =z:=by simpa using hi
    exact⟨us,l1,λj u hj =>by have:=hB.c j u (apL us vs hj);simpa using this,hx⟩
  · obtain rfl:y =z:=by simpa using hi
    exact⟨vs,l2,λj u hj =>by have:=hB.c (us.length + j) u (apR us vs hj);rw[l1]at this;simpa using this,hy⟩
  ·simp at hi
theorem ndr_one{B g:Nat}{w:World}{x:Nd}{us:List Value}(hB:Bk w g us)(hx:NdC B w x us):NdR B w [x] g 0:=by
  refine NdR.of λi z hi =>?_
  rcases i with _|i
  · obtain rfl:x =z:=by simpa using hi
    exact⟨us,hx.len,λj u hj =>by have:=hB.c j u hj;simpa using this,hx⟩
  ·simp at hi
theorem cs_two{B g:Nat}{w:World}{n1 n2:List UInt8}{x y:Nd}{us vs:List Value}(hB:Bk w g ((encS n1 ::us) ++ (encS n2 ::vs)))(hg:B ≤ g)(hx:NdC B w x us)(hy:NdC B w y vs):IsCs B [⟨n1,x⟩,⟨n2,y⟩] (.slice (some ⟨g,0,none⟩) 2 2) w:=by
  have l1:=hx.len
  refine⟨some ⟨g,0,none⟩,2,rfl,Nat.le_refl _,by decide,λ_ =>⟨g,0,rfl,hg,λi z hi =>?_⟩⟩
  rcases i with _|_|i
  · obtain rfl:(⟨n1,x⟩:Cl)=z:=by simpa using hi
    refine⟨us,λj u hj =>?_,hx,hB.c 0 _ rfl⟩
    have:=hB.c (j + 1) u (apL _ _ (by simpa using hj))
    rwa [show 0 + 9 * 0 + 1 + j =j + 1 by omega]
  · obtain rfl:(⟨n2,y⟩:Cl)=z:=by simpa using hi
    have h9:(encS n1 ::us).length =9:=by rw[List.length_cons,l1]
    refine⟨vs,λj u hj =>?_,hy,?_⟩
    · have:=hB.c ((encS n1 ::us).length + (j + 1)) u (apR _ _ (by simpa using hj))
      rw[h9]at this
      rwa [show 0 + 9 * (0 + 1) + 1 + j =9 + (j + 1)by omega]
    · have:=hB.c ((encS n1 ::us).length + 0) (encS n2) (apR _ _ rfl)
      rw[h9]at this
      exact this
  ·simp at hi
theorem cs_one{B g:Nat}{w:World}{n1:List UInt8}{x:Nd}{us:List Value}(hB:Bk w g (encS n1 ::us))(hg:B ≤ g)(hx:NdC B w x us):IsCs B [⟨n1,x⟩] (.slice (some ⟨g,0,none⟩) 1 1) w:=by
  refine⟨some ⟨g,0,none⟩,1,rfl,Nat.le_refl _,by decide,λ_ =>⟨g,0,rfl,hg,λi z hi =>?_⟩⟩
  rcases i with _|i
  · obtain rfl:(⟨n1,x⟩:Cl)=z:=by simpa using hi
    refine⟨us,λj u hj =>?_,hx,hB.c 0 _ rfl⟩
    have:=hB.c (j + 1) u (by simpa using hj)
    rwa [show 0 + 9 * 0 + 1 + j =j + 1 by omega]
  ·simp at hi
section
set_option maxRecDepth 100000
set_option maxHeartbeats 8000000
theorem example_f(w:World):Calls Tryz.prog 27 #[] w (Ret w (IsCs w.heap.size exL)) :=by
  have HOF:=hid (λw' =>ROf_f w' 12 (by decide) (by decide))
  obtain⟨W1,hW1,E1,B1⟩:∃W,W =w.alloc (.cells #[.int .i64 3,.string ⟨#[104,58,123,100,125]⟩,.int .i64 0,.bool false,.slice none 0 0,.int .i64 0,.int .i64 0,.slice none 0 0] 32) ∧ Ext w W ∧ Bk W w.heap.size [.int .i64 3,.string ⟨#[104,58,123,100,125]⟩,.int .i64 0,.bool false,.slice none 0 0,.int .i64 0,.int .i64 0,.slice none 0 0] :=⟨_,rfl,(Ext.refl w).alloc _,Bk.new w _ _⟩
  have HE1:=hid E1
  have HB1:=hid B1
  clear E1 B1
  go_enter Tryz.func27,Tryz.ntmps27
  go_upto_region 2 with(fail)
  rw[← hW1]
  clear hW1
  go_upto_region 3 with(go_at_call 31;refine Calls.mono (HOF.out _) ?_;rintro e w1 ⟨v,rfl,e1,s,a,n,c,rfl,hI⟩;have hI:=hid hI;have e1:=hid e1)
  obtain⟨W2,hW2,E2,B2⟩:∃W,W =w1.alloc (.cells #[.int .i64 1,.string ⟨#[]⟩,.int .i64 0,.bool s,.slice a n c,.int .i64 0,.int .i64 0,.slice none 0 0] 32) ∧ Ext w1 W ∧ Bk W w1.heap.size [.int .i64 1,.string ⟨#[]⟩,.int .i64 0,.bool s,.slice a n c,.int .i64 0,.int .i64 0,.slice none 0 0] :=⟨_,rfl,(Ext.refl w1).alloc _,Bk.new w1 _ _⟩
  rw[← hW2]
  clear hW2
  obtain⟨g2,hg2⟩:∃g,w1.heap.size =g:=⟨_,rfl⟩
  rw[hg2]at B2 ⊢
  have HG2:=hid (show w.heap.size < g2 by rw[← hg2];exact(HB1.out.ext e1.out).lt)
  clear hg2
  have HE2:=hid ((HE1.out.trans e1.out).trans E2)
  have HI2:=hid (show IsI 136 12 (.agg #[.bool s,.slice a n c]) W2 from IsI.gstb _ _ _ _ _ E2.gr (IsI.mono ⟨s,a,n,c,rfl,hI.out⟩ (by decide)))
  have HB12:=hid ((HB1.out.ext e1.out).ext E2)
  clear e1 E2 hI HE1 HB1
  have d0:=(HB12.out).c 0 _ rfl
  have d1:=(HB12.out).c 1 _ rfl
  have d2:=(HB12.out).c 2 _ rfl
  have d3:=(HB12.out).c 3 _ rfl
  have d4:=(HB12.out).c 4 _ rfl
  have d5:=(HB12.out).c 5 _ rfl
  have d6:=(HB12.out).c 6 _ rfl
  have d7:=(HB12.out).c 7 _ rfl
  have f0:=(B2).c 0 _ rfl
  have f1:=(B2).c 1 _ rfl
  have f2:=(B2).c 2 _ rfl
  have f3:=(B2).c 3 _ rfl
  have f4:=(B2).c 4 _ rfl
  have f5:=(B2).c 5 _ rfl
  have f6:=(B2).c 6 _ rfl
  have f7:=(B2).c 7 _ rfl
  clear B2 HB12
  obtain⟨W3,hW3,E3,B3,B4⟩:∃W,W =(W2.alloc (.cells #[.int .i64 3,.string ⟨#[104,58,123,100,125]⟩,.int .i64 0,.bool false,.slice none 0 0,.int .i64 0,.int .i64 0,.slice none 0 0,.int .i64 1,.string ⟨#[]⟩,.int .i64 0,.bool s,.slice a n c,.int .i64 0,.int .i64 0,.slice none 0 0] 32)).alloc (.cells #[.int .i64 13,.string ⟨#[]⟩,.int .i64 0,.bool false,.slice none 0 0,.int .i64 0,.int .i64 0,.slice (some ⟨W2.heap.size,0,none⟩) 2 2] 32) ∧ Ext W2 W ∧ Bk W W2.heap.size [.int .i64 3,.string ⟨#[104,58,123,100,125]⟩,.int .i64 0,.bool false,.slice none 0 0,.int .i64 0,.int .i64 0,.slice none 0 0,.int .i64 1,.string ⟨#[]⟩,.int .i64 0,.bool s,.slice a n c,.int .i64 0,.int .i64 0,.slice none 0 0] ∧ Bk W (W2.heap.size + 1) [.int .i64 13,.string ⟨#[]⟩,.int .i64 0,.bool false,.slice none 0 0,.int .i64 0,.int .i64 0,.slice (some ⟨W2.heap.size,0,none⟩) 2 2] :=⟨_,rfl,((Ext.refl W2).alloc _).alloc _,(Bk.new W2 _ _).ext ((Ext.refl _).alloc _),Bk.newE _ _ (by simp) _ _⟩
  go_upto_region 4 with(fail)
  rw[← hW3]
  clear hW3 d0 d1 d2 d3 d4 d5 d6 d7 f0 f1 f2 f3 f4 f5 f6 f7
  obtain⟨g3,hg3⟩:∃g,W2.heap.size =g:=⟨_,rfl⟩
  have HG3:=hid (show w.heap.size ≤ g3 by rw[← hg3];exact HE2.out.size)
  rw[hg3]at B3 B4 ⊢
  clear hg3
  have HE3:=hid (HE2.out.trans E3)
  have HI3:=hid (IsI.gstb _ _ _ _ _ E3.gr HI2.out)
  have HB3:=hid B3
  have d0:=(B4).c 0 _ rfl
  have d1:=(B4).c 1 _ rfl
  have d2:=(B4).c 2 _ rfl
  have d3:=(B4).c 3 _ rfl
  have d4:=(B4).c 4 _ rfl
  have d5:=(B4).c 5 _ rfl
  have d6:=(B4).c 6 _ rfl
  have d7:=(B4).c 7 _ rfl
  clear B3 B4 E3 HE2 HI2
  obtain⟨W4,hW4,E4,B5,B6⟩:∃W,W =(W3.alloc (.cells #[.int .i64 13,.string ⟨#[]⟩,.int .i64 0,.bool false,.slice none 0 0,.int .i64 0,.int .i64 0,.slice (some ⟨g3,0,none⟩) 2 2] 32)).alloc (.cells #[.int .i64 9,.string ⟨#[100]⟩,.int .i64 0,.bool false,.slice none 0 0,.int .i64 3,.int .i64 100,.slice (some ⟨W3.heap.size,0,none⟩) 1 1] 32) ∧ Ext W3 W ∧ Bk W W3.heap.size [.int .i64 13,.string ⟨#[]⟩,.int .i64 0,.bool false,.slice none 0 0,.int .i64 0,.int .i64 0,.slice (some ⟨g3,0,none⟩) 2 2] ∧ Bk W (W3.heap.size + 1) [.int .i64 9,.string ⟨#[100]⟩,.int .i64 0,.bool false,.slice none 0 0,.int .i64 3,.int .i64 100,.slice (some ⟨W3.heap.size,0,none⟩) 1 1] :=⟨_,rfl,((Ext.refl W3).alloc _).alloc _,(Bk.new W3 _ _).ext ((Ext.refl _).alloc _),Bk.newE _ _ (by simp) _ _⟩
  go_upto_region 5 with(fail)
  rw[← hW4]
  clear hW4 d0 d1 d2 d3 d4 d5 d6 d7
  obtain⟨g5,hg5⟩:∃g,W3.heap.size =g:=⟨_,rfl⟩
  have HG5:=hid (show w.heap.size ≤ g5 by rw[← hg5];exact HE3.out.size)
  rw[hg5]at B5 B6 ⊢
  clear hg5
  have HE4:=hid (HE3.out.trans E4)
  have HI4:=hid (IsI.gstb _ _ _ _ _ E4.gr HI3.out)
  have HB4:=hid (HB3.out.ext E4)
  have HB5:=hid B5
  have d0:=(B6).c 0 _ rfl
  have d1:=(B6).c 1 _ rfl
  have d2:=(B6).c 2 _ rfl
  have d3:=(B6).c 3 _ rfl
  have d4:=(B6).c 4 _ rfl
  have d5:=(B6).c 5 _ rfl
  have d6:=(B6).c 6 _ rfl
  have d7:=(B6).c 7 _ rfl
  clear B5 B6 E4 HE3 HI3 HB3
  obtain⟨W5,hW5,E5,B7⟩:∃W,W =W4.alloc (.cells #[.string ⟨#[104]⟩,.int .i64 3,.string ⟨#[99,58,45,50,51]⟩,.int .i64 0,.bool false,.slice none 0 0,.int .i64 0,.int .i64 0,.slice none 0 0,.string ⟨#[110]⟩,.int .i64 9,.string ⟨#[100]⟩,.int .i64 0,.bool false,.slice none 0 0,.int .i64 3,.int .i64 100,.slice (some ⟨g5,0,none⟩) 1 1] 34) ∧ Ext W4 W ∧ Bk W W4.heap.size [.string ⟨#[104]⟩,.int .i64 3,.string ⟨#[99,58,45,50,51]⟩,.int .i64 0,.bool false,.slice none 0 0,.int .i64 0,.int .i64 0,.slice none 0 0,.string ⟨#[110]⟩,.int .i64 9,.string ⟨#[100]⟩,.int .i64 0,.bool false,.slice none 0 0,.int .i64 3,.int .i64 100,.slice (some ⟨g5,0,none⟩) 1 1] :=⟨_,rfl,(Ext.refl W4).alloc _,Bk.new W4 _ _⟩
  have HE5:=hid E5
  have HB7:=hid B7
  clear E5 B7
  go_wp2_with fail
  rw[← hW5]
  clear hW5
  go_ret
  have b4:=HB4.out.ext HE5.out
  have b5:=HB5.out.ext HE5.out
  have i4:=IsI.gstb _ _ _ _ _ HE5.out.gr HI4.out
  have hd:NdC w.heap.size W5 exD [.int .i64 3,.string ⟨#[104,58,123,100,125]⟩,.int .i64 0,.bool false,.slice none 0 0,.int .i64 0,.int .i64 0,.slice none 0 0] :=nd_leaf (nm:= [104,58,123,100,125]) ⟨by decide,by decide,by decide⟩
  have ht:NdC w.heap.size W5 exT [.int .i64 1,.string ⟨#[]⟩,.int .i64 0,.bool s,.slice a n c,.int .i64 0,.int .i64 0,.slice none 0 0] :=nd_num i4
  have hs:NdC w.heap.size W5 exS [.int .i64 13,.string ⟨#[]⟩,.int .i64 0,.bool false,.slice none 0 0,.int .i64 0,.int .i64 0,.slice (some ⟨g3,0,none⟩) 2 2] :=NdC.mk' ⟨by decide,by decide,by decide⟩ rfl (IsI.nil _ _) (Nat.le_refl _) (show(2:Nat) ≤ 9223372036854775807 by decide) (λ_ =>⟨g3,0,rfl,HG3.out,ndr_two b4 hd ht⟩)
  have hn:NdC w.heap.size W5 exN [.int .i64 9,.string ⟨#[100]⟩,.int .i64 0,.bool false,.slice none 0 0,.int .i64 3,.int .i64 100,.slice (some ⟨g5,0,none⟩) 1 1] :=NdC.mk' ⟨by decide,by decide,by decide⟩ rfl (IsI.nil _ _) (Nat.le_refl _) (show(1:Nat) ≤ 9223372036854775807 by decide) (λ_ =>⟨g5,0,rfl,HG5.out,ndr_one b5 hs⟩)
  have hh:NdC w.heap.size W5 exH [.int .i64 3,.string ⟨#[99,58,45,50,51]⟩,.int .i64 0,.bool false,.slice none 0 0,.int .i64 0,.int .i64 0,.slice none 0 0] :=nd_leaf (nm:= [99,58,45,50,51]) ⟨by decide,by decide,by decide⟩
  exact⟨_,rfl,HE4.out.trans HE5.out,cs_two (n1:= [104]) (n2:= [110]) (us:= [.int .i64 3,.string ⟨#[99,58,45,50,51]⟩,.int .i64 0,.bool false,.slice none 0 0,.int .i64 0,.int .i64 0,.slice none 0 0]) (vs:= [.int .i64 9,.string ⟨#[100]⟩,.int .i64 0,.bool false,.slice none 0 0,.int .i64 3,.int .i64 100,.slice (some ⟨g5,0,none⟩) 1 1]) HB7.out HE4.out.size hh hn⟩
end
end Go.Proofs.YtenhciieboegbaaGreatDoor
namespace Go.Proofs.YtenhciieboegbaaGreatDoor
open Go Go.RowKit Go.Maps
def exText:List UInt8:= [104,32,61,32,118,97,108,117,101,40,34,99,58,45,50,51,34,44,32,48,41,10,110,32,61,32,99,111,117,110,116,40,100,44,32,51,44,32,49,48,48,44,32,101,113,117,97,108,40,118,97,108,117,101,40,34,104,58,123,100,125,34,44,32,48,41,44,32,49,50,41,41,10]
def exBad:List UInt8:= [97,32,61,32,40,49,32,43,32,50,41,42,51,10]
set_option maxRecDepth 100000
theorem ex_rt:rtE exL =true:=by kernel_rfl
theorem ex_rt2:rtE [⟨[104],exH⟩,⟨[104],exH⟩]=false:=by kernel_rfl
theorem ex_rt3:rtE [⟨[109,105,110],exH⟩]=false:=by kernel_rfl
theorem ex_shL:shL exL =exText:=by kernel_rfl
theorem ex_bad:clP exBad.length exBad =none:=by kernel_rfl
theorem ex_us:usS ⟨2, [98],0,0,0,0, []⟩= [[98]] :=by kernel_rfl
theorem ex_fill:fillB ⟨#[101,58,123,112,125,58,49,58,123,112,125]⟩ ⟨#[112]⟩ 7 =⟨#[101,58,55,58,49,58,55]⟩ :=by kernel_rfl
end Go.Proofs.YtenhciieboegbaaGreatDoor
