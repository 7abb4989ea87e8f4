/-
  Package notebook: Uses: the names of the cells that an expression uses, in order.
  Package notebook: Fill.
  The laws' example. (Printed by wip/gen/nex1.py.)
  The laws' fixed calls in plain words.
  A drawn region that makes boxes and fills them, stores early or late: facts that a relation keeps; what a store leaves is said of the box that it fills.
-/
import Derived.Test.YtenhciieboegbaaGreatDoorNus
import Derived.Shelf.SlIter.Keys
import Derived.Shelf.Slices.In.SortNone
import Derived.Test.YtenhciieboegbaaGreatDoorRwn
import Derived.Lib.ReplaceLaws
import Derived.Lib.ItoaLen
import Derived.Test.YtenhciieboegbaaGreatDoorRgx
namespace Go.Proofs.YtenhciieboegbaaGreatDoor
open Go Go.RowKit Go.Maps Go.Sort Go.Shelf
open Go.Proofs.Tryz
theorem xw{P:Prop}(h:P:=by rw[ByteArray.size_append,ByteArray.size_append];exact Nat.le_add_left _ _):P:=h
set_option maxRecDepth 100000
set_option maxHeartbeats 4000000
@[go_sem] theorem st_fnU {P:Program} {w:World} {a:Addr} {f:Fn} {u c:Array Value} {m:Mode}:(store a (.func f u c) m).run P w =stored P w a (.func f u c) m:=run_store P w a _ m rfl
def soRen:Ren:=⟨fun|6 =>46|7 =>47|8 =>54|9 =>88|10 =>89|11 =>94|n =>n,fun|0 =>0|3 =>4|4 =>4|23 =>69|24 =>53|26 =>9|27 =>90|28 =>90|33 =>70|n =>n,fun|n =>n⟩
theorem so6:SlLaysZ.n6 prog soRen:= {
  mixed:=zc
  f6:=⟨Tryz.f46.name,by kernel_rfl,func46.trans (congrArg some zc)⟩
  f8:=⟨Tryz.f54.name,by kernel_rfl,func54.trans (congrArg some zc)⟩
  f11:=⟨Tryz.f94.name,by kernel_rfl,func94.trans (congrArg some zc)⟩
  t0:=zc
  a0:=λw =>by kernel_rfl
  z0:=λw =>by kernel_rfl
  v0:=λw =>by kernel_rfl
  t24:=zc
  a24:=λw =>by kernel_rfl
  z24:=λw =>by kernel_rfl
  v24:=λw =>by kernel_rfl
  t26:=zc
  a26:=λw =>by kernel_rfl
  z26:=λw =>by kernel_rfl
  v26:=λw =>by kernel_rfl
  t28:=zc
  a28:=λw =>by kernel_rfl
  z28:=λw =>by kernel_rfl
  v28:=λw =>by kernel_rfl
  i26:=by kernel_rfl}
theorem so7:SlLaysZ.n10 prog soRen:= {
  mixed:=zc
  f10:=⟨Tryz.f89.name,by kernel_rfl,func89.trans (congrArg some zc)⟩
  t0:=zc
  a0:=λw =>by kernel_rfl
  z0:=λw =>by kernel_rfl
  v0:=λw =>by kernel_rfl
  t4:=zc
  a4:=λw =>by kernel_rfl
  z4:=λw =>by kernel_rfl
  v4:=λw =>by kernel_rfl
  t23:=zc
  a23:=λw =>by kernel_rfl
  z23:=λw =>by kernel_rfl
  v23:=λw =>by kernel_rfl
  t26:=zc
  a26:=λw =>by kernel_rfl
  z26:=λw =>by kernel_rfl
  v26:=λw =>by kernel_rfl
  t33:=zc
  a33:=λw =>by kernel_rfl
  z33:=λw =>by kernel_rfl
  v33:=λw =>by kernel_rfl}
theorem soSort:AnyZ.SortsIn prog soRen Fence.wide 4:=
  ⟨λblk off cap ss W h1 h2 h3 =>callsIn_wide.2 (Tryz.slices_Sort_string blk off cap ss W h1 h2 h3),λp cap W =>callsIn_wide.2 (Any.slices_Sort_string_none Tryz.lays190 p cap W)⟩
noncomputable def usS (x:Nd):Sc:=(strKeys (putS (usN x).reverse)).mergeSort (λx y =>decide (x <=y))
theorem sortedK_f{w:World}{b n:Nat}{l:Sc}(hown:w.ownsMap (H:=Unit) prog 9 (plainElem prog 4) b n (putS l))(hn:n <=1000000)(Bm:Nat)(hBm:Bm < w.heap.size)(hm:w.cell? ⟨Bm,0,none⟩=some (.map (some b))):
    Calls prog 46 #[.func (.func 89) #[] #[.pointer (some ⟨Bm,0,none⟩)]] w (Ret w (IsSr ((strKeys (putS l)).mergeSort (λx y =>decide (x <=y))))) :=by
  have hsz:=hown.size_le
  have hseq:SeqGives Fence.wide 2 prog 89 #[.pointer (some ⟨Bm,0,none⟩)] encStr (λss =>ss.Perm (strKeys (putS l))) (Maps.size (putS l)) w:=
    AnyZ.keys_gives (ρ:=soRen) {so7 with} Fence.wide 2 trivial rfl dcx Bm b n (putS l) w hBm hm hown
  refine zG (callsIn_wide.1 (AnyZ.sorted_in so6 Fence.wide 5 trivial trivial trivial trivial rfl dcx soSort (enters_of func88 zc rfl) 89 _ trivial (enters_of func89 zc rfl) _ (Maps.size (putS l)) (by unfold maxLen;omega) ze w hseq)) ?_
  rintro e w' ⟨v,ss,rfl,hp,hrow,hnil,hb⟩
  refine⟨v,rfl,hb,?_⟩
  have hM:ss.mergeSort (λx y =>decide (x <=y))=(strKeys (putS l)).mergeSort (λx y =>decide (x <=y)) :=mergeSort_of_perm hp
  rw[<-hM]
  have hr:Rwg 9 1 _ w' v _ _:=hrow
  obtain⟨ao,cap,rfl,h1,h2,-,h4⟩ :=hr.shape
  have hl:(ss.mergeSort (λx y =>decide (x <=y))).length =ss.length:=zo
  refine⟨ao,cap,by rw[hl],by rw[hl];omega,λhne =>?_⟩
  obtain⟨g,rfl,-,-,k⟩ :=h4 (λe =>hne (List.length_eq_zero_iff.1 (by rw[hl];exact e)))
  exact⟨g,0,rfl,λj s hj =>by rw[Nat.zero_add];exact k j _ (by rw[List.getElem?_map,hj];rfl)⟩
section
set_option maxRecDepth 100000
set_option maxHeartbeats 4000000
theorem st_fnT(f:Fn)(caps:Array Value):StC1 prog 87 (.func f #[] caps) :=λw a v h2 h3 =>by go_simp
theorem keysM_f(w:World)(b:Nat):Calls prog 47 #[.map (some b)] w (λe w' =>e =.returned (.func (.func 89) #[] #[.pointer (some ⟨w.heap.size,0,none⟩)])/\w' =w.alloc (.cells #[.map (some b)] 69)) :=by
  have hmf:∀(fn:Fn) (first cap:Array Value) (w:World),(Instr.makeFunc fn first cap).run prog w =.ok (.func fn first cap) w:=λ_ _ _ _ =>rfl
  go_enter func47,ntmps47
  go_wp2
  go_ret
  exact⟨rfl,rfl⟩
theorem Uses_f{x:Nd}{B:Nat}{us:List Value}{w:World}(hx:NdC B w x us)(hok:NdOk x)(hn:(usN x).length <=900000):Calls prog 23 #[.agg us.toArray] w (Ret w (IsSr (usS x))) :=by
  have hmf:∀(fn:Fn) (first cap:Array Value) (w:World),(Instr.makeFunc fn first cap).run prog w =.ok (.func fn first cap) w:=λ_ _ _ _ =>rfl
  have hmk:∀w,(Instr.makeMap 69 none).run prog w =.ok (.map (some w.heap.size)) (w.alloc (.map #[] 0)) :=λw =>@run_makeMap prog 69 w
  have hl8:=hx.len
  obtain⟨u0,u1,u2,u3,u4,u5,u6,u7,rfl⟩ :=len8 hl8
  have h1:(w.alloc (.cells #[u0,u1,u2,u3,u4,u5,u6,u7] 32)).heap.size =w.heap.size + 1:=zo
  have h2:((w.alloc (.cells #[u0,u1,u2,u3,u4,u5,u6,u7] 32)).alloc (.map #[] 0)).heap.size =w.heap.size + 2:=zo
  have h3:(((w.alloc (.cells #[u0,u1,u2,u3,u4,u5,u6,u7] 32)).alloc (.map #[] 0)).alloc (.cells #[.map (some (w.heap.size + 1))] 69)).heap.size =w.heap.size + 3:=zo
  obtain⟨W,hW,E,B1,OM,B3,B4⟩:∃W,W =(((w.alloc (.cells #[u0,u1,u2,u3,u4,u5,u6,u7] 32)).alloc (.map #[] 0)).alloc (.cells #[.map (some (w.heap.size + 1))] 69)).alloc (.cells #[.nilFunc] 87)/\Ext w W/\
      Bk W w.heap.size [u0,u1,u2,u3,u4,u5,u6,u7]/\W.ownsMap (H:=Unit) prog 9 (plainElem prog 4) (w.heap.size + 1) 0 (putS [])/\Bk W (w.heap.size + 2) [.map (some (w.heap.size + 1))]/\Bk W (w.heap.size + 3) [.nilFunc] :=
    ⟨_,rfl,((((Ext.refl w).alloc _).alloc _).alloc _).alloc _,(Bk.new w _ _).ext ((((Ext.refl _).alloc _).alloc _).alloc _),by rw[<-h1];exact xN (World.ownsMap_made _ _ _ _) (((Ext.refl _).alloc _).alloc _),(Bk.newE _ _ h2 _ _).ext ((Ext.refl _).alloc _),Bk.newE _ _ h3 _ _⟩
  have HX:=hid hx
  have HOK:=hid (zL hok hn)
  have HE:=hid E
  have HB1:=hid B1
  have HOM:=hid OM
  have HB3:=hid B3
  have HB4:=hid B4
  clear hx hok hn hl8 h1 h2 h3 E B1 OM B3 B4
  go_enter func23,ntmps23
  go_upto_region 3 with fail
  try simp only[Nat.reduceAdd,Nat.add_assoc]
  rw[<-hW]
  clear hW hmk
  refine wp_region_lit ?_
  refine wpList_step λK hK =>?_
  go_simp
  refine hK _ _ ?_
  clear hK K hmf
  refine stL (λK hK =>?_)
  refine stCO 0 (u:=.func (.func 45) #[] #[.pointer (some ⟨w.heap.size + 2,0,none⟩),.pointer (some ⟨w.heap.size + 3,0,none⟩)]) HB4.out (st_fnT _ _) rfl (λx =>by simp) (λX B9 O =>hK _ _ ?_)
  have HE1:=hid (O.ext HE.out (Nat.le_add_right _ _))
  have HU1:=hid (show UsA (w.heap.size + 2) (w.heap.size + 3) (w.heap.size + 1) 0 [] X from by
    have h:UsA (w.heap.size + 2) (w.heap.size + 3) (w.heap.size + 1) 0 [] X:=⟨by
      have hbl:=HOM.out.lt
      obtain⟨es,clock,hb,Ft,hs,hD⟩ :=HOM.out
      exact⟨es,clock,(O.block _ ze).trans hb,Ft,hs,hD⟩,O.bk HB3.out ze,B9⟩
    exact h)
  have HB5:=hid (O.bk HB1.out ze)
  clear hK K O B9
  refine zI ?_
  go_upto_region 4 with fail
  refine wp_region_lit ?_
  refine stL (λK hK =>wp_ld (p:=.pointer (some ⟨w.heap.size + 3,0,none⟩)) (u:=.func (.func 45) #[] #[.pointer (some ⟨w.heap.size + 2,0,none⟩),.pointer (some ⟨w.heap.size + 3,0,none⟩)]) (ld_fn _ _ _ (HU1.out.2.2.c 0 _ rfl)) (hK _ _ ?_))
  clear hK K
  go_simp
  refine stL (λK hK =>wp_ld (p:=.pointer (some ⟨w.heap.size,0,none⟩)) (u:=.agg #[u0,u1,u2,u3,u4,u5,u6,u7]) (ld_Nd _ _ _ rfl HB5.out) (hK _ _ ?_))
  clear hK K
  go_simp
  have HCL:=hid (look_f x B (w.heap.size + 2) (w.heap.size + 3) (w.heap.size + 1) 0 [] [u0,u1,u2,u3,u4,u5,u6,u7] w X HX.out HE1.out (Nat.le_succ _) HU1.out ze ze HOK.out.1 (by have:=HOK.out.2;omega))
  refine stL (λK hK =>?_)
  refine wp_callC (us:= [.agg #[u0,u1,u2,u3,u4,u5,u6,u7]]) (caps:= #[.pointer (some ⟨w.heap.size + 2,0,none⟩),.pointer (some ⟨w.heap.size + 3,0,none⟩)]) (en func45) zc zc HCL.out (λv X2 h =>hK _ _ ?_) (λch X h =>by{obtain⟨hx,_⟩ :=h;cases hx}) (λX h =>by{obtain⟨hx,_⟩ :=h;cases hx})
  clear hK K HCL
  obtain⟨h0,hO,hU⟩ :=h
  cases h0
  have HE2:=hid (hO.ext HE1.out (Nat.le_succ _))
  rw[List.append_nil,Nat.zero_add]at hU
  have HU2:=hid hU
  clear hO hU HE1 HU1 HB5 HB1 HOM HB3 HB4 HE
  refine zI ?_
  have c0:=HU2.out.2.1.c 0 _ rfl
  have HOW:=hid (xN HU2.out.1 ((Ext.refl X2).alloc (.cells #[.map (some (w.heap.size + 1))] 69)))
  have HSO:=hid (sortedK_f HOW.out (by have:=HOK.out.2;omega) X2.heap.size zo zo)
  go_wp2_with (first| (go_at_call 47;refine zG (keysM_f X2 _) ?_;rintro e w3 ⟨rfl,rfl⟩)| (go_at_call 46;refine zG HSO.out ?_;rintro e w4 ⟨v,rfl,e4,hv⟩;have hv:=hid hv))
  go_ret
  exact⟨_,rfl,(HE2.out.alloc _).trans e4,hv.out⟩
end
open Go Go.RowKit Go.Shelf
/-! ### Fill -/
def TabM(w:World):Prop:=Tab w/\∃m:Int,World.cell? w ⟨0,0,none⟩=some (.int .i64 m)
theorem TabM.ext{w w':World}(h:TabM w)(e:Ext w w'):TabM w':=⟨h.1.ext e,let ⟨m,hm⟩ :=h.2;⟨m,e.cell hm⟩⟩
def fillB(s x:ByteArray)(k:Int):ByteArray:=⟨(Lib.replaceAll s.data.toList (⟨#[123]⟩ ++x ++ ⟨#[125]⟩:ByteArray).data.toList (Lib.itoa k)).toArray⟩
theorem cnt_le(s x:ByteArray):Lib.countB s (⟨#[123]⟩ ++x ++ ⟨#[125]⟩) <=s.size:=
  Lib.countB_le _ xw s.size s (zN _)
theorem Fill_f{w:World}(T:TabM w)(s x:ByteArray)(k:Int)(hs:s.size <=100000000)(hx:x.size <=1000)(h0: -9223372036854775808 <=k)(h1:k <=9223372036854775807):Calls prog 28 #[.string s,.string x,.int .i64 k] w (Ret w (IsV (.string (fillB s x k)))) :=by
  obtain⟨hT,m,hm⟩ :=T
  have hl:=Lib.itoa_length_le k h0 h1
  have hc:=cnt_le s x
  have ho:1 <=(⟨#[123]⟩ ++x ++ ⟨#[125]⟩:ByteArray).size:=xw
  have hlen:s.size + Lib.countB s (⟨#[123]⟩ ++x ++ ⟨#[125]⟩) * (⟨(Lib.itoa k).toArray⟩:ByteArray).size <=140737488355328:=by
    have:(⟨(Lib.itoa k).toArray⟩:ByteArray).size <=21:=by show(Lib.itoa k).toArray.size <=21;rw[List.size_toArray];exact hl
    have:=Nat.mul_le_mul hc this
    omega
  have q1:(⟨#[123]⟩:ByteArray).size + x.size <=9223372036854775807:=by have:(⟨#[123]⟩:ByteArray).size =1:=rfl;omega
  have q2:(⟨#[123]⟩ ++x:ByteArray).size + (⟨#[125]⟩:ByteArray).size <=9223372036854775807:=by rw[ByteArray.size_append];have:(⟨#[123]⟩:ByteArray).size =1:=rfl;have:(⟨#[125]⟩:ByteArray).size =1:=rfl;omega
  have hfin:(fillB s x k)=⟨(Lib.replaceAll s.data.toList (⟨#[123]⟩ ++x ++ ⟨#[125]⟩:ByteArray).data.toList (⟨(Lib.itoa k).toArray⟩:ByteArray).data.toList).toArray⟩ :=by simp[fillB]
  rw[hfin]
  clear hfin
  generalize hold:(⟨#[123]⟩ ++x ++ ⟨#[125]⟩:ByteArray)=old at ho hlen hc
  go_enter func28,ntmps28
  go_wp2_with (first
    | (go_at_call 50;refine(Tryz.strconv_Itoa k h0 h1 _ (by first|exact hT|exact hT.ext (by assumption))).mono ?_;rintro e w1 ⟨rfl,kk,os,rfl⟩)
    | (go_at_call 49;refine(Tryz.strings_ReplaceAll s old _ m _ ze (Ext.cell (ext_grow _ _ _) hm) ho hlen).mono ?_;rintro e w2 ⟨rfl,e2⟩))
  go_ret
  exact⟨_,rfl,(ext_grow _ _ _).trans e2,rfl⟩
open Go Go.RowKit
def exD:Nd:=⟨3, [104,58,123,100,125],0,0,0,0, []⟩
def exT:Nd:=⟨1, [],0,12,0,0, []⟩
def exS:Nd:=⟨13, [],0,0,0,0, [exD,exT]⟩
def exN:Nd:=⟨9, [100],0,0,3,100, [exS]⟩
def exH:Nd:=⟨3, [99,58,45,50,51],0,0,0,0, []⟩
def exL:List Cl:= [⟨[104],exH⟩,⟨[110],exN⟩]
theorem nd_leaf{B:Nat}{w:World}{op:Int}{nm:List UInt8}{n:Int}(h:NdBd nm op):NdC B w (.mk op nm n 0 0 0 []) [.int .i64 op,qB nm,.int .i64 n,.bool false,.slice none 0 0,.int .i64 0,.int .i64 0,.slice none 0 0] :=
  NdC.mk' h rfl (IsI.nil _ _) (zN _) (show(0:Nat) <=9223372036854775807 by decide) (λe =>absurd rfl e)
theorem nd_num{B:Nat}{w:World}{z:Int}{s:Bool}{a:Option Addr}{n c:Nat}(h:IsI 136 z (.agg #[.bool s,.slice a n c]) w):NdC B w (.mk 1 [] 0 z 0 0 []) [.int .i64 1,.string ⟨#[]⟩,.int .i64 0,.bool s,.slice a n c,.int .i64 0,.int .i64 0,.slice none 0 0] :=
  NdC.mk' ⟨by simp[Nd.nm],show(-9223372036854775808:Int) <=1 by decide,show(1:Int) <=9223372036854775807 by decide⟩ rfl h (zN _) (show(0:Nat) <=9223372036854775807 by decide) (λe =>absurd rfl e)
theorem ndr_two{B g:Nat}{w:World}{x y:Nd}{us vs:List Value}(hB:Bk w g (us ++vs))(hx:NdC B w x us)(hy:NdC B w y vs):NdR B w [x,y] g 0:=by
  have l1:=hx.len
  have l2:=hy.len
  refine NdR.of λi z hi =>?_
  rcases i with _|_|i
  · obtain rfl:x =z:=by simpa using hi
    exact⟨us,l1,λj u hj =>by have:=hB.c j u (apL us vs hj);simpa using this,hx⟩
  · obtain rfl:y =z:=by simpa using hi
    exact⟨vs,l2,λj u hj =>by have:=hB.c (us.length + j) u (apR us vs hj);rw[l1]at this;simpa using this,hy⟩
  ·simp at hi
theorem ndr_one{B g:Nat}{w:World}{x:Nd}{us:List Value}(hB:Bk w g us)(hx:NdC B w x us):NdR B w [x] g 0:=by
  refine NdR.of λi z hi =>?_
  rcases i with _|i
  · obtain rfl:x =z:=by simpa using hi
    exact⟨us,hx.len,λj u hj =>by have:=hB.c j u hj;simpa using this,hx⟩
  ·simp at hi
theorem cs_two{B g:Nat}{w:World}{n1 n2:List UInt8}{x y:Nd}{us vs:List Value}(hB:Bk w g ((qB n1 ::us) ++ (qB n2 ::vs)))(hg:B <=g)(hx:NdC B w x us)(hy:NdC B w y vs):IsCs B [⟨n1,x⟩,⟨n2,y⟩] (.slice (some ⟨g,0,none⟩) 2 2) w:=by
  have l1:=hx.len
  refine⟨some ⟨g,0,none⟩,2,rfl,zN _,by decide,λ_ =>⟨g,0,rfl,hg,λi z hi =>?_⟩⟩
  rcases i with _|_|i
  · obtain rfl:(⟨n1,x⟩:Cl)=z:=by simpa using hi
    refine⟨us,λj u hj =>?_,hx,hB.c 0 _ rfl⟩
    have:=hB.c (j + 1) u (apL _ _ ja)
    rwa [show 0 + 9 * 0 + 1 + j =j + 1 by omega]
  · obtain rfl:(⟨n2,y⟩:Cl)=z:=by simpa using hi
    have h9:(qB n1 ::us).length =9:=by rw[List.length_cons,l1]
    refine⟨vs,λj u hj =>?_,hy,?_⟩
    · have:=hB.c ((qB n1 ::us).length + (j + 1)) u (apR _ _ ja)
      rw[h9]at this
      rwa [show 0 + 9 * (0 + 1) + 1 + j =9 + (j + 1)by omega]
    · have:=hB.c ((qB n1 ::us).length + 0) (qB n2) (apR _ _ rfl)
      rw[h9]at this
      exact this
  ·simp at hi
theorem cs_one{B g:Nat}{w:World}{n1:List UInt8}{x:Nd}{us:List Value}(hB:Bk w g (qB n1 ::us))(hg:B <=g)(hx:NdC B w x us):IsCs B [⟨n1,x⟩] (.slice (some ⟨g,0,none⟩) 1 1) w:=by
  refine⟨some ⟨g,0,none⟩,1,rfl,zN _,by decide,λ_ =>⟨g,0,rfl,hg,λi z hi =>?_⟩⟩
  rcases i with _|i
  · obtain rfl:(⟨n1,x⟩:Cl)=z:=by simpa using hi
    refine⟨us,λj u hj =>?_,hx,hB.c 0 _ rfl⟩
    have:=hB.c (j + 1) u ja
    rwa [show 0 + 9 * 0 + 1 + j =j + 1 by omega]
  ·simp at hi
section
set_option maxRecDepth 100000
set_option maxHeartbeats 8000000
theorem example_f(w:World):Calls prog 27 #[] w (Ret w (IsCs w.heap.size exL)) :=by
  have HOF:=hid (λw' =>ROf_f w' 12 dcx dcx)
  obtain⟨W0,hW1,E1,B1⟩:∃W,W =w.alloc (.cells #[.int .i64 3,.string ⟨#[104,58,123,100,125]⟩,.int .i64 0,.bool false,.slice none 0 0,.int .i64 0,.int .i64 0,.slice none 0 0] 32)/\Ext w W/\Bk W w.heap.size [.int .i64 3,.string ⟨#[104,58,123,100,125]⟩,.int .i64 0,.bool false,.slice none 0 0,.int .i64 0,.int .i64 0,.slice none 0 0] :=⟨_,rfl,(Ext.refl w).alloc _,Bk.new w _ _⟩
  have HE1:=hid E1
  have HB1:=hid B1
  clear E1 B1
  go_enter func27,ntmps27
  go_upto_region 2 with fail
  rw[<-hW1]
  clear hW1
  go_upto_region 3 with(go_at_call 31;refine zG (HOF.out _) ?_;rintro e w1 ⟨v,rfl,e1,s,a,n,c,rfl,hI⟩;have hI:=hid hI;have e1:=hid e1)
  obtain⟨W3,hW2,E2,B2⟩:∃W,W =w1.alloc (.cells #[.int .i64 1,.string ⟨#[]⟩,.int .i64 0,.bool s,.slice a n c,.int .i64 0,.int .i64 0,.slice none 0 0] 32)/\Ext w1 W/\Bk W w1.heap.size [.int .i64 1,.string ⟨#[]⟩,.int .i64 0,.bool s,.slice a n c,.int .i64 0,.int .i64 0,.slice none 0 0] :=⟨_,rfl,(Ext.refl w1).alloc _,Bk.new w1 _ _⟩
  rw[<-hW2]
  clear hW2
  obtain⟨g2,hg2⟩:∃g,w1.heap.size =g:=⟨_,rfl⟩
  rw[hg2]at B2 ⊢
  have HG2:=hid (show w.heap.size < g2 by rw[<-hg2];exact(HB1.out.ext e1.out).lt)
  clear hg2
  have HE2:=hid ((HE1.out.trans e1.out).trans E2)
  have HI2:=hid (show IsI 136 12 (.agg #[.bool s,.slice a n c]) W3 from IsI.gstb _ _ _ _ _ E2.gr (IsI.mono ⟨s,a,n,c,rfl,hI.out⟩ dcx))
  have HB12:=hid ((HB1.out.ext e1.out).ext E2)
  clear e1 E2 hI HE1 HB1
  have d0:=(HB12.out).c 0 _ rfl
  have d1:=(HB12.out).c 1 _ rfl
  have d2:=(HB12.out).c 2 _ rfl
  have d3:=(HB12.out).c 3 _ rfl
  have d4:=(HB12.out).c 4 _ rfl
  have d5:=(HB12.out).c 5 _ rfl
  have d6:=(HB12.out).c 6 _ rfl
  have d7:=(HB12.out).c 7 _ rfl
  have f0:=(B2).c 0 _ rfl
  have f1:=(B2).c 1 _ rfl
  have f2:=(B2).c 2 _ rfl
  have f3:=(B2).c 3 _ rfl
  have f4:=(B2).c 4 _ rfl
  have f5:=(B2).c 5 _ rfl
  have f6:=(B2).c 6 _ rfl
  have f7:=(B2).c 7 _ rfl
  clear B2 HB12
  obtain⟨W3a,hW3,E3,B3,B4⟩:∃W,W =(W3.alloc (.cells #[.int .i64 3,.string ⟨#[104,58,123,100,125]⟩,.int .i64 0,.bool false,.slice none 0 0,.int .i64 0,.int .i64 0,.slice none 0 0,.int .i64 1,.string ⟨#[]⟩,.int .i64 0,.bool s,.slice a n c,.int .i64 0,.int .i64 0,.slice none 0 0] 32)).alloc (.cells #[.int .i64 13,.string ⟨#[]⟩,.int .i64 0,.bool false,.slice none 0 0,.int .i64 0,.int .i64 0,.slice (some ⟨W3.heap.size,0,none⟩) 2 2] 32)/\Ext W3 W/\Bk W W3.heap.size [.int .i64 3,.string ⟨#[104,58,123,100,125]⟩,.int .i64 0,.bool false,.slice none 0 0,.int .i64 0,.int .i64 0,.slice none 0 0,.int .i64 1,.string ⟨#[]⟩,.int .i64 0,.bool s,.slice a n c,.int .i64 0,.int .i64 0,.slice none 0 0]/\Bk W (W3.heap.size + 1) [.int .i64 13,.string ⟨#[]⟩,.int .i64 0,.bool false,.slice none 0 0,.int .i64 0,.int .i64 0,.slice (some ⟨W3.heap.size,0,none⟩) 2 2] :=⟨_,rfl,((Ext.refl W3).alloc _).alloc _,(Bk.new W3 _ _).ext ((Ext.refl _).alloc _),Bk.newE _ _ zo _ _⟩
  go_upto_region 4 with fail
  rw[<-hW3]
  clear hW3 d0 d1 d2 d3 d4 d5 d6 d7 f0 f1 f2 f3 f4 f5 f6 f7
  obtain⟨g3,hg3⟩:∃g,W3.heap.size =g:=⟨_,rfl⟩
  have HG3:=hid (show w.heap.size <=g3 by rw[<-hg3];exact HE2.out.size)
  rw[hg3]at B3 B4 ⊢
  clear hg3
  have HE3:=hid (HE2.out.trans E3)
  have HI3:=hid (IsI.gstb _ _ _ _ _ E3.gr HI2.out)
  have HB3:=hid B3
  have d0:=(B4).c 0 _ rfl
  have d1:=(B4).c 1 _ rfl
  have d2:=(B4).c 2 _ rfl
  have d3:=(B4).c 3 _ rfl
  have d4:=(B4).c 4 _ rfl
  have d5:=(B4).c 5 _ rfl
  have d6:=(B4).c 6 _ rfl
  have d7:=(B4).c 7 _ rfl
  clear B3 B4 E3 HE2 HI2
  obtain⟨W4,hW4,E4,B5,B6⟩:∃W,W =(W3a.alloc (.cells #[.int .i64 13,.string ⟨#[]⟩,.int .i64 0,.bool false,.slice none 0 0,.int .i64 0,.int .i64 0,.slice (some ⟨g3,0,none⟩) 2 2] 32)).alloc (.cells #[.int .i64 9,.string ⟨#[100]⟩,.int .i64 0,.bool false,.slice none 0 0,.int .i64 3,.int .i64 100,.slice (some ⟨W3a.heap.size,0,none⟩) 1 1] 32)/\Ext W3a W/\Bk W W3a.heap.size [.int .i64 13,.string ⟨#[]⟩,.int .i64 0,.bool false,.slice none 0 0,.int .i64 0,.int .i64 0,.slice (some ⟨g3,0,none⟩) 2 2]/\Bk W (W3a.heap.size + 1) [.int .i64 9,.string ⟨#[100]⟩,.int .i64 0,.bool false,.slice none 0 0,.int .i64 3,.int .i64 100,.slice (some ⟨W3a.heap.size,0,none⟩) 1 1] :=⟨_,rfl,((Ext.refl W3a).alloc _).alloc _,(Bk.new W3a _ _).ext ((Ext.refl _).alloc _),Bk.newE _ _ zo _ _⟩
  go_upto_region 5 with fail
  rw[<-hW4]
  clear hW4 d0 d1 d2 d3 d4 d5 d6 d7
  obtain⟨g5,hg5⟩:∃g,W3a.heap.size =g:=⟨_,rfl⟩
  have HG5:=hid (show w.heap.size <=g5 by rw[<-hg5];exact HE3.out.size)
  rw[hg5]at B5 B6 ⊢
  clear hg5
  have HE4:=hid (HE3.out.trans E4)
  have HI4:=hid (IsI.gstb _ _ _ _ _ E4.gr HI3.out)
  have HB4:=hid (HB3.out.ext E4)
  have HB5:=hid B5
  have d0:=(B6).c 0 _ rfl
  have d1:=(B6).c 1 _ rfl
  have d2:=(B6).c 2 _ rfl
  have d3:=(B6).c 3 _ rfl
  have d4:=(B6).c 4 _ rfl
  have d5:=(B6).c 5 _ rfl
  have d6:=(B6).c 6 _ rfl
  have d7:=(B6).c 7 _ rfl
  clear B5 B6 E4 HE3 HI3 HB3
  obtain⟨W5,hW5,E5,B7⟩:∃W,W =W4.alloc (.cells #[.string ⟨#[104]⟩,.int .i64 3,.string ⟨#[99,58,45,50,51]⟩,.int .i64 0,.bool false,.slice none 0 0,.int .i64 0,.int .i64 0,.slice none 0 0,.string ⟨#[110]⟩,.int .i64 9,.string ⟨#[100]⟩,.int .i64 0,.bool false,.slice none 0 0,.int .i64 3,.int .i64 100,.slice (some ⟨g5,0,none⟩) 1 1] 34)/\Ext W4 W/\Bk W W4.heap.size [.string ⟨#[104]⟩,.int .i64 3,.string ⟨#[99,58,45,50,51]⟩,.int .i64 0,.bool false,.slice none 0 0,.int .i64 0,.int .i64 0,.slice none 0 0,.string ⟨#[110]⟩,.int .i64 9,.string ⟨#[100]⟩,.int .i64 0,.bool false,.slice none 0 0,.int .i64 3,.int .i64 100,.slice (some ⟨g5,0,none⟩) 1 1] :=⟨_,rfl,(Ext.refl W4).alloc _,Bk.new W4 _ _⟩
  have HE5:=hid E5
  have HB7:=hid B7
  clear E5 B7
  go_wp2_with fail
  rw[<-hW5]
  clear hW5
  go_ret
  have b4:=HB4.out.ext HE5.out
  have b5:=HB5.out.ext HE5.out
  have i4:=IsI.gstb _ _ _ _ _ HE5.out.gr HI4.out
  have hd:NdC w.heap.size W5 exD [.int .i64 3,.string ⟨#[104,58,123,100,125]⟩,.int .i64 0,.bool false,.slice none 0 0,.int .i64 0,.int .i64 0,.slice none 0 0] :=nd_leaf (nm:= [104,58,123,100,125]) ⟨by decide,by decide,by decide⟩
  have ht:NdC w.heap.size W5 exT [.int .i64 1,.string ⟨#[]⟩,.int .i64 0,.bool s,.slice a n c,.int .i64 0,.int .i64 0,.slice none 0 0] :=nd_num i4
  have hs:NdC w.heap.size W5 exS [.int .i64 13,.string ⟨#[]⟩,.int .i64 0,.bool false,.slice none 0 0,.int .i64 0,.int .i64 0,.slice (some ⟨g3,0,none⟩) 2 2] :=NdC.mk' ⟨by decide,by decide,by decide⟩ rfl (IsI.nil _ _) (zN _) (show(2:Nat) <=9223372036854775807 by decide) (λ_ =>⟨g3,0,rfl,HG3.out,ndr_two b4 hd ht⟩)
  have hn:NdC w.heap.size W5 exN [.int .i64 9,.string ⟨#[100]⟩,.int .i64 0,.bool false,.slice none 0 0,.int .i64 3,.int .i64 100,.slice (some ⟨g5,0,none⟩) 1 1] :=NdC.mk' ⟨by decide,by decide,by decide⟩ rfl (IsI.nil _ _) (zN _) (show(1:Nat) <=9223372036854775807 by decide) (λ_ =>⟨g5,0,rfl,HG5.out,ndr_one b5 hs⟩)
  have hh:NdC w.heap.size W5 exH [.int .i64 3,.string ⟨#[99,58,45,50,51]⟩,.int .i64 0,.bool false,.slice none 0 0,.int .i64 0,.int .i64 0,.slice none 0 0] :=nd_leaf (nm:= [99,58,45,50,51]) ⟨by decide,by decide,by decide⟩
  exact⟨_,rfl,HE4.out.trans HE5.out,cs_two (n1:= [104]) (n2:= [110]) (us:= [.int .i64 3,.string ⟨#[99,58,45,50,51]⟩,.int .i64 0,.bool false,.slice none 0 0,.int .i64 0,.int .i64 0,.slice none 0 0]) (vs:= [.int .i64 9,.string ⟨#[100]⟩,.int .i64 0,.bool false,.slice none 0 0,.int .i64 3,.int .i64 100,.slice (some ⟨g5,0,none⟩) 1 1]) HB7.out HE4.out.size hh hn⟩
end
open Go Go.RowKit Go.Maps
def exText:List UInt8:= [104,32,61,32,118,97,108,117,101,40,34,99,58,45,50,51,34,44,32,48,41,10,110,32,61,32,99,111,117,110,116,40,100,44,32,51,44,32,49,48,48,44,32,101,113,117,97,108,40,118,97,108,117,101,40,34,104,58,123,100,125,34,44,32,48,41,44,32,49,50,41,41,10]
def exBad:List UInt8:= [97,32,61,32,40,49,32,43,32,50,41,42,51,10]
set_option maxRecDepth 100000
theorem ex_rt:rtE exL =true:=by kernel_rfl
theorem ex_rt2:rtE [⟨[104],exH⟩,⟨[104],exH⟩]=false:=by kernel_rfl
theorem ex_rt3:rtE [⟨[109,105,110],exH⟩]=false:=by kernel_rfl
theorem ex_shL:shL exL =exText:=by kernel_rfl
theorem ex_bad:clP exBad.length exBad =none:=by kernel_rfl
theorem ex_us:usS ⟨2, [98],0,0,0,0, []⟩= [[98]] :=by kernel_rfl
theorem ex_fill:fillB ⟨#[101,58,123,112,125,58,49,58,123,112,125]⟩ ⟨#[112]⟩ 7 =⟨#[101,58,55,58,49,58,55]⟩ :=by kernel_rfl
section
variable {P:Program} {ops:Array Oper} {Q:Exit ->Act ->World ->Prop}
abbrev Tv:=Option (Nat× (Value ->World ->Prop))
structure RgSv (P:Program) (ops:Array Oper) (Q:Exit ->Act ->World ->Prop) (R:World ->World ->Prop) (ds:List (Option Tmp)) (a0:Act) (w0:World) (L:List (Value ->World ->Prop)) (i:Nat) (o:Oper) (j:Nat) (F:Value ->World ->Prop):Prop where
  out:∀(v:Nat ->Value) (w:World),R w0 w ->(∀j,(ups .any ops i).contains j =true ->L.getD j (λ_ _ =>True) (v j) w) ->Fr ds a0 v (xZ v a0 0 ds) ->
    ∀K:Act ->World ->Prop,Shut (∀w',R w w' ->F (v j) w' ->K (xZ v a0 0 ds) w') ->Oper.wp P o (xZ v a0 0 ds) w K Q
inductive RgAllV (P:Program) (ops:Array Oper) (Q:Exit ->Act ->World ->Prop) (R:World ->World ->Prop) (ds:List (Option Tmp)) (a0:Act) (w0:World) (L:List (Value ->World ->Prop)) (tg:List Tv):Nat ->Nat ->List Oper ->Prop
  |nil {i:Nat} {os:List Oper}:RgAllV P ops Q R ds a0 w0 L tg i 0 os
  |op {i k:Nat} {o:Oper} {os:List Oper}:tg.getD i none =none ->RgLx P ops Q R ds a0 w0 L i o ->RgAllV P ops Q R ds a0 w0 L tg (i + 1) k os ->RgAllV P ops Q R ds a0 w0 L tg i (k + 1) (o ::os)
  |st {i k j:Nat} {F:Value ->World ->Prop} {o:Oper} {os:List Oper}:tg.getD i none =some (j,F) ->o.dst =none ->o.guard =none ->RgSv P ops Q R ds a0 w0 L i o j F ->RgAllV P ops Q R ds a0 w0 L tg (i + 1) k os ->RgAllV P ops Q R ds a0 w0 L tg i (k + 1) (o ::os)
variable {R:World ->World ->Prop} {ds:List (Option Tmp)} {a0:Act} {w0:World} {L:List (Value ->World ->Prop)} {tg:List Tv} {i:Nat} {o:Oper}
theorem RgAllV.get{k i:Nat}{os:List Oper}(h:RgAllV P ops Q R ds a0 w0 L tg i k os):∀j,j < k ->∀o,os[j]? =some o ->
    (match tg.getD (i + j) none with|none =>RgLx P ops Q R ds a0 w0 L (i + j) o|some (t,F) =>o.dst =none/\o.guard =none/\RgSv P ops Q R ds a0 w0 L (i + j) o t F) :=by
  induction h with
  |nil =>intro j hj;omega
  | op ht h _ ih =>
    intro j hj o ho
    cases j with
    | zero =>
      obtain rfl:=xf
      simp only[Nat.add_zero]
      rw[ht];exact h
    | succ j =>
      have:=ih j ze o xf
      rwa [Nat.add_assoc,Nat.add_comm 1 j]at this
  | st ht hd hg h _ ih =>
    intro j hj o ho
    cases j with
    | zero =>
      obtain rfl:=xf
      simp only[Nat.add_zero]
      rw[ht];exact⟨hd,hg,h⟩
    | succ j =>
      have:=ih j ze o xf
      rwa [Nat.add_assoc,Nat.add_comm 1 j]at this
theorem tRgv_1{P:Prop}(h:P:=by
  by_cases hij:i =j
  · subst hij
    exact getD_set_true (xA hi e he)
  · rw[getD_set_ne false hij]at hj
    exact getD_set_true (hcl j hj e he)
  ):P:=h
theorem rgv_main(n:Nat)(hn:n <=ops.size)(hds:(List.range n).map (xG ops)=ds)(hap:xJ ops n =true)(htp:jG .any ops n []=true)
    (hRt:∀ {a b c},R a b ->R b c ->R a c)
    (hst:AllStbR R L)
    (htg:∀i,i < n ->∀j F,tg.getD i none =some (j,F) ->(ups .any ops i).contains j =true/\StbR R F/\∀x w,L.getD i (λ_ _ =>True) x w)
    (hop:RgAllV P ops Q R ds a0 w0 L tg 0 n ops.toList)
    (hend:∀v w,R w0 w ->(∀i,i < n ->L.getD i (λ_ _ =>True) (v i) w) ->(∀i,i < n ->∀j F,tg.getD i none =some (j,F) ->F (v j) w) ->wpAny P .any ops Q (ops.size - n) (qU ops.size n) (xZ v a0 0 ds) w) :
    ∀ (fuel:Nat) (listed:Array Bool) (v:Nat ->Value) (w:World),listed.size =ops.size ->(∀j,n <=j ->listed.getD j false =false) ->
      fuel + jC listed n =ops.size ->(∀i,listed.getD i false =true ->∀e∈xW .any ops i,listed.getD e false =true) ->R w0 w ->
      (∀i,i < n ->listed.getD i false =true ->L.getD i (λ_ _ =>True) (v i) w) ->
      (∀i,i < n ->listed.getD i false =true ->∀j F,tg.getD i none =some (j,F) ->F (v j) w) ->
      wpAny P .any ops Q fuel listed (jV ops v a0 n) w:=by
  simp only[jG,Bool.and_eq_true,List.all_eq_true,List.mem_range,Bool.or_eq_true,zS]at htp
  obtain⟨htp1,htp2⟩ :=htp
  intro fuel
  induction fuel with
  | zero =>
    intro listed v w hsz hbig hcnt hcl hE hΦ hS
    have hle:jC listed n <=n:=by
      have:=List.countP_le_length (p:=λi =>listed.getD i false) (l:=List.range n)
      simpa [jC]using this
    have hall:∀i,i < n ->listed.getD i false =true:=λi hi =>by
      cases h:listed.getD i false
      ·have:=doneN_lt hi h;omega
      ·rfl
    have hl:listed =qU ops.size n:=by
      apply Array.ext (by simp[qU,hsz])
      intro i h1 h2
      have h3:listed[i]=listed.getD i false:=by simp[h1]
      rw[h3,hall i (by omega)];simp[qU];omega
    have:=hend v w hE (λi hi =>hΦ i hi (hall i hi)) (λi hi =>hS i hi (hall i hi))
    rw[xT v a0 n ds hds,hl]
    rwa [show ops.size - n =0 by omega]at this
  | succ fuel ih =>
    intro listed v w hsz hbig hcnt hcl hE hΦ hS
    by_cases hall:∃i,i < n/\ (!listed.getD i false)=true
    · obtain ⟨i1,hi1,h1⟩ :=hall
      have hu1:listed.getD i1 false =false:=yj
      obtain⟨i0,hi0,h0,hmin⟩ :=exists_least (λi => !listed.getD i false) n ⟨i1,hi1,by rw[hu1];rfl⟩
      have hi0s:i0 < listed.size:=ze
      have hr0:i0∈Region.ready .any ops listed:=ready_of_needs (by simpa [hi0s]using h0) ze (λe he =>by
        have:=hmin e (by simpa using htp2 i0 hi0 e he)
        simpa using this)
      refine⟨λh =>(by rw[h]at hr0;cases hr0),λi hi =>?_⟩
      have hin:i < n:=by
        rcases zR i n with h|h
        ·exact h
        · exfalso
          obtain⟨_,o,ho,_⟩ :=mem_ready.1 hi
          have his:i < ops.size:=(Array.getElem?_eq_some_iff.1 ho).1
          rcases(htp1 i his).resolve_left ze i1 hi1 with h2|h2
          · have h3:=xK hcl i (xW .any ops i) (xA hi) i1 (List.contains_iff_mem.1 h2)
            rw[hu1]at h3;cases h3
          ·simp at h2
      obtain⟨hun,o,ho,_⟩ :=mem_ready.1 hi
      have hil:i < listed.size:=ze
      have hunf:listed.getD i false =false:=by simp[hil]at hun ⊢;exact hun
      have hdeps:∀j,(ups .any ops i).contains j =true ->L.getD j (λ_ _ =>True) (v j) w:=λj hj =>by
        have hjl:=xK hcl i (xW .any ops i) (xA hi) j (List.contains_iff_mem.1 hj)
        have hjn:j < n:=by
          rcases zR j n with h|h
          ·exact h
          ·rw[hbig j h]at hjl;cases hjl
        exact hΦ j hjn hjl
      have hthis:=RgAllV.get hop i hin o xf
      rw[Nat.zero_add]at hthis
      refine wpOp_step ho λK hK =>?_
      have hdst:o.dst =xG ops i:=by simp[xG,ho]
      cases htgi:tg.getD i none with
      | none =>
        rw[htgi]at hthis
        have hrun:=hthis v w hE hdeps K
        rw[<-xT v a0 n ds hds]at hrun
        refine hrun ?_
        intro x w' e1 hx
        refine hK _ _ ?_
        rw[hdst,layN_put a0 v i x n hin (λj k hj hk hjk =>jN hap hj hk hjk)]
        refine ih _ _ _ (by simp[hsz]) (λj hj =>?_) ?_ (λj hj e he =>?_) (hRt hE e1) (λj hj hlj =>?_) (λk hk hlk j F ht =>?_)
        ·rw[getD_set_ne false (by omega)];exact hbig j hj
        ·rw[doneN_set _ _ hun,if_pos hin];omega
        ·exact tRgv_1
        · by_cases hij:j =i
          ·subst hij;simpa only[jD,if_true]using hx
          · rw[getD_set_ne false (Ne.symm hij)]at hlj
            simp only[jD];rw[if_neg hij]
            exact hst.get j _ _ _ e1 (hΦ j hj hlj)
        · have hki:k≠i:=λh =>by rw[h,htgi]at ht;cases ht
          rw[getD_set_ne false (Ne.symm hki)]at hlk
          have hji:j≠i:=λh =>by
            have h1:=(htg k hk j F ht).1
            have h2:=xK hcl k (xW .any ops k) (λe he =>hcl k hlk e he) j (List.contains_iff_mem.1 h1)
            rw[h,hunf]at h2;cases h2
          simp only[jD];rw[if_neg hji]
          exact(htg k hk j F ht).2.1 _ _ _ e1 (hS k hk hlk j F ht)
      | some jF =>
        obtain⟨t,F⟩ :=jF
        rw[htgi]at hthis
        obtain⟨hd0,hg0,hthis⟩ :=hthis
        have hrun:=hthis.out v w hE hdeps (Fr.of ds a0 v) K
        rw[<-xT v a0 n ds hds]at hrun
        rw[if_pos (by simp[Region.wanted,hg0])]
        refine hrun ?_
        intro w' e1 hst'
        refine hK _ _ ?_
        refine ih _ _ _ (by simp[hsz]) (λj hj =>?_) ?_ (λj hj e he =>?_) (hRt hE e1) (λj hj hlj =>?_) (λk hk hlk j F2 ht =>?_)
        ·rw[getD_set_ne false (by omega)];exact hbig j hj
        ·rw[doneN_set _ _ hun,if_pos hin];omega
        ·exact tRgv_1
        · by_cases hij:j =i
          ·rw[hij];exact(htg i hin t F htgi).2.2 _ _
          · rw[getD_set_ne false (Ne.symm hij)]at hlj
            exact hst.get j _ _ _ e1 (hΦ j hj hlj)
        · by_cases hki:k =i
          · subst hki
            rw[htgi]at ht
            injection ht with ht
            injection ht with h1 h2
            subst h1;subst h2
            exact hst'
          · rw[getD_set_ne false (Ne.symm hki)]at hlk
            exact(htg k hk j F2 ht).2.1 _ _ _ e1 (hS k hk hlk j F2 ht)
    · have hall':∀i,i < n ->listed.getD i false =true:=λi hi =>by
        cases h:listed.getD i false
        ·exact absurd ⟨i,hi,by rw[h];rfl⟩ hall
        ·rfl
      have hl:listed =qU ops.size n:=by
        apply Array.ext (by simp[qU,hsz])
        intro i h1 h2
        have h3:listed[i]=listed.getD i false:=by simp[h1]
        rw[h3]
        rcases zR i n with h|h
        ·rw[hall' i h];simp[qU,h]
        ·rw[hbig i h];simp[qU];omega
      have:=hend v w hE (λi hi =>hΦ i hi (hall' i hi)) (λi hi =>hS i hi (hall' i hi))
      rw[xT v a0 n ds hds,hl]
      have hdn:=doneN_all n hall'
      rwa [show ops.size - n =fuel + 1 by omega]at this
theorem wp_region_rgv(R:World ->World ->Prop)(n:Nat)(ds:List (Option Tmp))(L:List (Value ->World ->Prop))(tg:List Tv){id:Nat}
    (hm:P.follows .mixedOrders =true) (hn:decide (n <=ops.size)=true) (hds:(List.range n).map (xG ops)=ds) (hap:xJ ops n =true) (htp:jG .any ops n []=true)
    (hRt:∀ {a b c},R a b ->R b c ->R a c) (hRe:∀ {a b},Ext a b ->R a b)
    (hst:AllStbR R L)
    (htg:∀i,i < n ->∀j F,tg.getD i none =some (j,F) ->(ups .any ops i).contains j =true/\StbR R F/\∀x w,L.getD i (λ_ _ =>True) x w)
    (hop:RgAllV P ops Q R ds a0 w0 L tg 0 n ops.toList)
    (hend:∀v w,R w0 w ->(∀i,i < n ->L.getD i (λ_ _ =>True) (v i) w) ->(∀i,i < n ->∀j F,tg.getD i none =some (j,F) ->F (v j) w) ->wpAny P .any ops Q (ops.size - n) (qU ops.size n) (xZ v a0 0 ds) w) :
    (Code.region id ops true).wp P Q a0 w0:=by
  refine wp_region_any hm ?_
  have hE:R w0 w0.drew:=hRe (Ext.refl w0).drew
  have hD:∀m,jC (Array.replicate ops.size false) m =0:=λm =>by
    unfold jC
    rw[List.countP_eq_zero.2]
    intro i _
    simp[xF]
  have:=rgv_main (P:=P) (Q:=Q) (R:=R) (a0:=a0) (w0:=w0) (tg:=tg) (L:=L) n (of_decide_eq_true hn) hds hap htp hRt hst htg hop hend
    ops.size (Array.replicate ops.size false) (slotVal ops a0) w0.drew zo (λj _ =>by simp[xF]) (by rw[hD];rfl)
    (λi hi =>by simp[xF]at hi) hE (λi hi h =>by simp[xF]at h) (λi hi h =>by simp[xF]at h)
  have hlay:jV ops (slotVal ops a0) a0 n =a0:=layN_self a0 n
  rwa [hlay]at this
theorem RcV{k:Nat}{os:List Oper}(hRe:∀ {a b},Ext a b ->R a b)(h:∀w,R w0 w ->Ok P ops Q ds a0 w L [] i o)(hs:RgAllV P ops Q R ds a0 w0 L tg (i + 1) k os)(ht:tg.getD i none =none:=by kernel_rfl)(hg:o.guard =none:=by rfl):RgAllV P ops Q R ds a0 w0 L tg i (k + 1) (o ::os) :=
  .op ht (RgLx.mk hg λv a w hR hd hf K hK =>(h w hR).out v a w (Ext.refl w) hd hf K (by intro x w' e hL _;exact hK.out x w' (hRe e) hL)) hs
theorem RcT(j tp:Nat){T k:Nat}{y:Operand}{fR F:Value ->World ->Prop}{os:List Oper}(h:∀w x u,R w0 w ->L.getD j (λ_ _ =>True) x w ->fR u w ->∃w',(Instr.storeAt T x u).run P w =.ok () w'/\R w w'/\F x w')(hy:∀w,R w0 w ->Od ops ds a0 w L i y fR)
    (hs:RgAllV P ops Q R ds a0 w0 L tg (i + 1) k os) (ht:tg.getD i none =some (j,F) :=by rfl) (ho:o.op =.store T (.tmp tp) y:=by rfl) (hdd:o.dst =none:=by rfl) (hg:o.guard =none:=by rfl) (hu:(ups .any ops i).contains j =true:=by kernel_rfl)
    (h1:ds[j]? =some (some tp) :=by kernel_rfl) (h2:(ds.drop (j + 1)).contains (some tp)=false:=by kernel_rfl) (h3:decide (tp < a0.tmps.size)=true:=by kernel_rfl):RgAllV P ops Q R ds a0 w0 L tg i (k + 1) (o ::os) :=by
  refine .st ht hdd hg ⟨λv w hR hd hf K hK =>?_⟩ hs
  have hp:(xZ v a0 0 ds).eval (.tmp tp)=v j:=by rw[xB,hf.val j tp _ rfl h1 h2 h3]
  obtain⟨w',h4,h5,h6⟩ :=h w (v j) _ hR (hd j hu) ((hy w hR).out v _ w (Ext.refl w) hd hf)
  refine st_wp ho hp rfl h4 ?_
  rw[hdd]
  exact hK.out w' h5 h6
theorem alX{T:Nat}{vs:List Value}{boxes:List Nat}{fQ:Value ->World ->Prop}(hr:∀w,(Instr.alloc T true (.tuple #[])).run P w =.ok (.pointer (some ⟨w.heap.size,0,none⟩)) (w.alloc (.cells vs.toArray T)))(hΧ:∀w,Ext w0 w ->fQ (.pointer (some ⟨w.heap.size,0,none⟩)) (w.alloc (.cells vs.toArray T)))
    (ho:o.op =.alloc T:=by rfl) (hi:L.getD i (λ_ _ =>True)=fQ:=by kernel_rfl) (hb:boxes.contains i =false:=by kernel_rfl):Ok P ops Q ds a0 w0 L boxes i o:=
  ⟨fun v a w hE hd hf K hK =>by
    have hrun:(execOp a.eval o).run P w =.ok (.value (.pointer (some ⟨w.heap.size,0,none⟩))) (w.alloc (.cells vs.toArray T)) :=by
      unfold execOp
      rw[ho]
      dsimp only
      simp[hr]
    unfold Oper.wp
    rw[hrun]
    refine hK.out _ _ ((Ext.refl _).alloc _) ?_ (FreshIf.no hb)
    rw[hi]
    exact hΧ w hE⟩
end
end Go.Proofs.YtenhciieboegbaaGreatDoor
