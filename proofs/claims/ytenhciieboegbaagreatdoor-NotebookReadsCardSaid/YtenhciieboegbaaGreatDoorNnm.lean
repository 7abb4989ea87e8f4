/-
  Package notebook: its two maps with constant keys: the words of the operations, their checks. (Printed by wip/gen/nwd.py.)
  Package notebook: isName.
-/
import Derived.Test.YtenhciieboegbaaGreatDoorBase
import Derived.Maps.OwnSet
import Derived.Maps.StringElems
import Derived.Maps.RangeWalk
import Derived.Test.YtenhciieboegbaaGreatDoorNix
import Derived.Laws.IdiomStrings
namespace Go.Proofs.YtenhciieboegbaaGreatDoor
open Go Go.RowKit Go.Maps
open Go.Proofs.Tryz
theorem zab{P:Prop}(h:P:=by rfl):P:=h
set_option maxRecDepth 100000
set_option maxHeartbeats 4000000
abbrev DU:=DataW Unit
theorem xD:prog.underlying 3=some (.int .i64):=by kernel_rfl
theorem jK:prog.underlying 9=some .string:=by kernel_rfl
theorem ty_bool:prog.underlying 4=some .bool:=by kernel_rfl
theorem ty_mis:prog.underlying 100=some (.map 3 9):=by kernel_rfl
theorem jY:prog.underlying 108=some (.map 3 106):=by kernel_rfl
theorem ty_msb:prog.underlying 69=some (.map 9 4):=by kernel_rfl
theorem lawI:Keyed prog 3:=int_keyed xD
theorem lawS:Keyed prog 9:=string_keyed jK
theorem zStr(w:World):(zeroValue 9).run prog w=.ok (.string ⟨#[]⟩) w:=by kernel_rfl
theorem zChk(w:World):(zeroValue 106).run prog w=.ok .nilFunc w:=by kernel_rfl
theorem zBool(w:World):(zeroValue 4).run prog w=.ok (.bool false) w:=by kernel_rfl
def putL(f:Int->DU):List Int->DU
  | []=> .map []
  |k ::t=>(putL f t).put (.int .i64 k) (f k)
theorem putL_map(f:Int->DU):∀l:List Int,IsMap (putL f l)
  | []=>isMap_empty
  |_ ::t=>(putL_map f t).put _ _
theorem putL_has(f:Int->DU)(x:Int):∀l:List Int,Maps.has (putL f l) (.int .i64 x)=decide (x∈l)
  | []=>rfl
  | k ::t=>by
    by_cases e:x=k
    ·subst e;rw[putL,has_put_same (putL_map f t) (show WideAt.IsKeyLit (Lit.int .i64 x)from trivial)];simp
    ·rw[putL,has_put_other (λe'=>e (by cases e';rfl)),putL_has f x t];simp[e]
theorem putL_at(f:Int->DU)(x:Int)(z:DU):∀l:List Int,(putL f l).atKey (.int .i64 x) z=if x∈l then f x else z
  | []=>by simp[putL,atKey_of_not_has (show Maps.has (.map []:DU) (.int .i64 x)=false from rfl)]
  | k ::t=>by
    by_cases e:x=k
    ·subst e;rw[putL,atKey_put_same (putL_map f t) (show WideAt.IsKeyLit (Lit.int .i64 x)from trivial)];simp
    ·rw[putL,atKey_put_other (λe'=>e (by cases e';rfl)),putL_at f x z t];simp[e]
theorem qO{w0 w w':World}{b:Nat}(e:Ext w0 w)(h:w.mapTurned w' b)(hb:w0.heap.size<=b):Ext w0 w':=Below.grown e h.grown e.size (λk hk=>by cases hk;exact hb)
def opW:Int->List UInt8:=λop=>
  if op=4 then [43]else if op=5 then [45]else if op=6 then [42]else if op=7 then [109,105,110]else if op=8 then [109,97,120]
  else if op=9 then [99,111,117,110,116]else if op=10 then [102,105,114,115,116]else if op=12 then [108,101,115,115]else if op=13 then [101,113,117,97,108]else []
def wKeys:List Int:= [10,9,13,12,8,7,6,5,4]
def wD:DU:=putL (λk=> .lit (.string (opW k))) wKeys
theorem words_f(w:World):Calls prog 56 #[] w (λe w'=>∃b,e=.returned (.map (some b))/\Ext w w'/\w.heap.size<=b/\w'.ownsMap prog 3 (plainElem prog 9) b 9 wD):=by
  obtain⟨W0,hW0⟩:∃W,W=w.alloc (.map #[] 0):=⟨_,rfl⟩;have o0:W0.ownsMap (H:=Unit) prog 3 (plainElem prog 9) w.heap.size 0 (.map []):=by rw[hW0];exact World.ownsMap_made _ _ _ _
  have e0:Ext w W0:=by rw[hW0];exact(Ext.refl w).alloc _
  have hm:(Instr.makeMap 100 none).run prog w=.ok (.map (some w.heap.size)) W0:=by rw[hW0];exact @run_makeMap prog 100 w
  clear hW0;obtain⟨W0a,r1,o1,t1⟩:=o0.store lawI ty_mis dcx (key:=.int .i64 4) (val:=.string ⟨#[43]⟩) (kl:=.int .i64 4) (d:=.lit (.string (opW 4))) (ps:= []) (keyOf_int_mk xD dcx) (plainElem_string jK dcx);have e1:=qO e0 t1 (zN _);obtain⟨W0b,r2,o2,t2⟩:=o1.store lawI ty_mis dcx (key:=.int .i64 5) (val:=.string ⟨#[45]⟩) (kl:=.int .i64 5) (d:=.lit (.string (opW 5))) (ps:= []) (keyOf_int_mk xD dcx) (plainElem_string jK dcx);have e2:=qO e1 t2 (zN _);obtain⟨W0c,r3,o3,t3⟩:=o2.store lawI ty_mis dcx (key:=.int .i64 6) (val:=.string ⟨#[42]⟩) (kl:=.int .i64 6) (d:=.lit (.string (opW 6))) (ps:= []) (keyOf_int_mk xD dcx) (plainElem_string jK dcx);have e3:=qO e2 t3 (zN _);obtain⟨W0d,r4,o4,t4⟩:=o3.store lawI ty_mis dcx (key:=.int .i64 7) (val:=.string ⟨#[109,105,110]⟩) (kl:=.int .i64 7) (d:=.lit (.string (opW 7))) (ps:= []) (keyOf_int_mk xD dcx) (plainElem_string jK dcx);have e4:=qO e3 t4 (zN _);obtain⟨W0e,r5,o5,t5⟩:=o4.store lawI ty_mis dcx (key:=.int .i64 8) (val:=.string ⟨#[109,97,120]⟩) (kl:=.int .i64 8) (d:=.lit (.string (opW 8))) (ps:= []) (keyOf_int_mk xD dcx) (plainElem_string jK dcx);have e5:=qO e4 t5 (zN _);obtain⟨W0f,r6,o6,t6⟩:=o5.store lawI ty_mis dcx (key:=.int .i64 12) (val:=.string ⟨#[108,101,115,115]⟩) (kl:=.int .i64 12) (d:=.lit (.string (opW 12))) (ps:= []) (keyOf_int_mk xD dcx) (plainElem_string jK dcx);have e6:=qO e5 t6 (zN _);obtain⟨W0g,r7,o7,t7⟩:=o6.store lawI ty_mis dcx (key:=.int .i64 13) (val:=.string ⟨#[101,113,117,97,108]⟩) (kl:=.int .i64 13) (d:=.lit (.string (opW 13))) (ps:= []) (keyOf_int_mk xD dcx) (plainElem_string jK dcx);have e7:=qO e6 t7 (zN _);obtain⟨W0h,r8,o8,t8⟩:=o7.store lawI ty_mis dcx (key:=.int .i64 9) (val:=.string ⟨#[99,111,117,110,116]⟩) (kl:=.int .i64 9) (d:=.lit (.string (opW 9))) (ps:= []) (keyOf_int_mk xD dcx) (plainElem_string jK dcx);have e8:=qO e7 t8 (zN _);obtain⟨W0i,r9,o9,t9⟩:=o8.store lawI ty_mis dcx (key:=.int .i64 10) (val:=.string ⟨#[102,105,114,115,116]⟩) (kl:=.int .i64 10) (d:=.lit (.string (opW 10))) (ps:= []) (keyOf_int_mk xD dcx) (plainElem_string jK dcx);have e9:=qO e8 t9 (zN _);have hD:=hid o9;have hE:=hid e9;clear o0 o1 o2 o3 o4 o5 o6 o7 o8 o9 t1 t2 t3 t4 t5 t6 t7 t8 t9 e0 e1 e2 e3 e4 e5 e6 e7 e8 e9;go_enter func56,ntmps56
  go_wp2
  go_ret
  exact⟨_,rfl,hE.out,zN _,hD.out⟩
def chF:Int->Int:=λop=>if op=1 then 98 else if op=2 then 101 else if op=11 then 103 else if op=3 then 104 else if op=9\/op=10 then 106 else 107
def cKeys:List Int:= [13,12,8,7,6,5,4,10,9,3,11,2,1]
def cD:DU:=putL (λk=> .lit (.int .i64 (chF k))) cKeys
def RF:Value->Option (DU×List MemPlace)
  | .func (.func f) a b=>if a= #[]/\b= #[]then some (.lit (.int .i64 (f:Int)), [])else none
  | .nilFunc=>some (.lit (.int .i64 (-1)), [])
  |_=>none
theorem RF_inv{v:Value}{z:Int}{ps:List MemPlace}(h:RF v=some (.lit (.int .i64 z),ps))(hz:0<=z):v=.func (.func z.toNat) #[] #[]:=by
  unfold RF at h
  split at h
  · split at h
    · rename_i hab
      obtain⟨rfl,rfl⟩:=hab;simp only[Option.some.injEq,Prod.mk.injEq,DataW.lit.injEq,Lit.int.injEq,true_and]at h;rw[<-h.1];rfl
    ·cases h
  · simp only[Option.some.injEq,Prod.mk.injEq,DataW.lit.injEq,Lit.int.injEq,true_and]at h
    omega
  ·cases h
theorem checks_f(w:World):Calls prog 61 #[] w (λe w'=>∃b,e=.returned (.map (some b))/\Ext w w'/\w.heap.size<=b/\w'.ownsMap prog 3 RF b 13 cD):=by
  obtain⟨W0,hW0⟩:∃W,W=w.alloc (.map #[] 0):=⟨_,rfl⟩;have o0:W0.ownsMap (H:=Unit) prog 3 RF w.heap.size 0 (.map []):=by rw[hW0];exact World.ownsMap_made _ _ _ _
  have e0:Ext w W0:=by rw[hW0];exact(Ext.refl w).alloc _
  have hm:(Instr.makeMap 108 none).run prog w=.ok (.map (some w.heap.size)) W0:=by rw[hW0];exact @run_makeMap prog 108 w
  clear hW0;obtain⟨W0a,r1,o1,t1⟩:=o0.store lawI jY dcx (key:=.int .i64 1) (val:=.func (.func 98) #[] #[]) (kl:=.int .i64 1) (d:=.lit (.int .i64 (chF 1))) (ps:= []) (keyOf_int_mk xD dcx) zab;have e1:=qO e0 t1 (zN _);obtain⟨W0b,r2,o2,t2⟩:=o1.store lawI jY dcx (key:=.int .i64 2) (val:=.func (.func 101) #[] #[]) (kl:=.int .i64 2) (d:=.lit (.int .i64 (chF 2))) (ps:= []) (keyOf_int_mk xD dcx) zab;have e2:=qO e1 t2 (zN _);obtain⟨W0c,r3,o3,t3⟩:=o2.store lawI jY dcx (key:=.int .i64 11) (val:=.func (.func 103) #[] #[]) (kl:=.int .i64 11) (d:=.lit (.int .i64 (chF 11))) (ps:= []) (keyOf_int_mk xD dcx) zab;have e3:=qO e2 t3 (zN _);obtain⟨W0d,r4,o4,t4⟩:=o3.store lawI jY dcx (key:=.int .i64 3) (val:=.func (.func 104) #[] #[]) (kl:=.int .i64 3) (d:=.lit (.int .i64 (chF 3))) (ps:= []) (keyOf_int_mk xD dcx) zab;have e4:=qO e3 t4 (zN _);obtain⟨W0e,r5,o5,t5⟩:=o4.store lawI jY dcx (key:=.int .i64 9) (val:=.func (.func 106) #[] #[]) (kl:=.int .i64 9) (d:=.lit (.int .i64 (chF 9))) (ps:= []) (keyOf_int_mk xD dcx) zab;have e5:=qO e4 t5 (zN _);obtain⟨W0f,r6,o6,t6⟩:=o5.store lawI jY dcx (key:=.int .i64 10) (val:=.func (.func 106) #[] #[]) (kl:=.int .i64 10) (d:=.lit (.int .i64 (chF 10))) (ps:= []) (keyOf_int_mk xD dcx) zab;have e6:=qO e5 t6 (zN _);obtain⟨W0g,r7,o7,t7⟩:=o6.store lawI jY dcx (key:=.int .i64 4) (val:=.func (.func 107) #[] #[]) (kl:=.int .i64 4) (d:=.lit (.int .i64 (chF 4))) (ps:= []) (keyOf_int_mk xD dcx) zab;have e7:=qO e6 t7 (zN _);obtain⟨W0h,r8,o8,t8⟩:=o7.store lawI jY dcx (key:=.int .i64 5) (val:=.func (.func 107) #[] #[]) (kl:=.int .i64 5) (d:=.lit (.int .i64 (chF 5))) (ps:= []) (keyOf_int_mk xD dcx) zab;have e8:=qO e7 t8 (zN _);obtain⟨W0i,r9,o9,t9⟩:=o8.store lawI jY dcx (key:=.int .i64 6) (val:=.func (.func 107) #[] #[]) (kl:=.int .i64 6) (d:=.lit (.int .i64 (chF 6))) (ps:= []) (keyOf_int_mk xD dcx) zab;have e9:=qO e8 t9 (zN _);obtain⟨W0j,r10,o10,t10⟩:=o9.store lawI jY dcx (key:=.int .i64 7) (val:=.func (.func 107) #[] #[]) (kl:=.int .i64 7) (d:=.lit (.int .i64 (chF 7))) (ps:= []) (keyOf_int_mk xD dcx) zab;have e10:=qO e9 t10 (zN _);obtain⟨W0k,r11,o11,t11⟩:=o10.store lawI jY dcx (key:=.int .i64 8) (val:=.func (.func 107) #[] #[]) (kl:=.int .i64 8) (d:=.lit (.int .i64 (chF 8))) (ps:= []) (keyOf_int_mk xD dcx) zab;have e11:=qO e10 t11 (zN _)
  obtain⟨W0l,r12,o12,t12⟩:=o11.store lawI jY dcx (key:=.int .i64 12) (val:=.func (.func 107) #[] #[]) (kl:=.int .i64 12) (d:=.lit (.int .i64 (chF 12))) (ps:= []) (keyOf_int_mk xD dcx) zab;have e12:=qO e11 t12 (zN _);obtain⟨W0m,r13,o13,t13⟩:=o12.store lawI jY dcx (key:=.int .i64 13) (val:=.func (.func 107) #[] #[]) (kl:=.int .i64 13) (d:=.lit (.int .i64 (chF 13))) (ps:= []) (keyOf_int_mk xD dcx) zab;have e13:=qO e12 t13 (zN _);have hD:=hid o13;have hE:=hid e13;clear o0 o1 o2 o3 o4 o5 o6 o7 o8 o9 o10 o11 o12 o13 t1 t2 t3 t4 t5 t6 t7 t8 t9 t10 t11 t12 t13 e0 e1 e2 e3 e4 e5 e6 e7 e8 e9 e10 e11 e12 e13;go_enter func61,ntmps61
  go_wp2
  go_ret
  exact⟨_,rfl,hE.out,zN _,hD.out⟩
theorem words_at{w:World}{b n:Nat}(h:w.ownsMap prog 3 (plainElem prog 9) b n wD){op:Int}(hw:(Lit.int .i64 op).wf=true):(Instr.lookup 100 (.map (some b)) (.int .i64 op) false).run prog w=.ok (.string ⟨(opW op).toArray⟩) w:=by
  obtain⟨v,ps,hr,hv⟩:=h.lookup lawI ty_mis (zStr w) (zd:=.lit (.string [])) (zp:= []) (by exact plainElem_string jK dcx) (key:=.int .i64 op) (kl:=.int .i64 op) (keyOf_int_mk xD hw);obtain⟨s,rfl,hz,_⟩:=plainElem_string_inv jK hv;rw[hr];simp only[Prod.mk.injEq]at hz
  have h1:s.data.toList=opW op:=by
    have h2:=hz.1;rw[wD,putL_at]at h2;by_cases hm:op∈wKeys
    ·rw[if_pos hm]at h2;simpa using h2.symm
    · rw [if_neg hm]at h2
      have h3:opW op= []:=by
        simp only[wKeys,List.mem_cons,List.not_mem_nil,or_false,not_or]at hm;unfold opW;simp[hm]
      rw[h3];simpa using h2.symm
  rw[<-h1]
theorem checks_yes{w:World}{b n:Nat}(h:w.ownsMap prog 3 RF b n cD){op:Int}(hw:(Lit.int .i64 op).wf=true)(hm:op∈cKeys):(Instr.lookup 108 (.map (some b)) (.int .i64 op) true).run prog w=.ok (.tuple #[.func (.func (chF op).toNat) #[] #[],.bool true]) w:=by
  obtain⟨v,ps,hr,hv⟩:=h.look_ok lawI jY (zChk w) (zd:=.lit (.int .i64 (-1))) (zp:= []) zab (key:=.int .i64 op) (kl:=.int .i64 op) (keyOf_int_mk xD hw);rw[cD,putL_has,decide_eq_true hm]at hr;rw[cD,putL_at,if_pos hm]at hv
  have h0:0<=chF op:=by
    unfold chF
    repeat' split
    all_goals decide
  rw[RF_inv hv h0]at hr;exact hr
theorem checks_no{w:World}{b n:Nat}(h:w.ownsMap prog 3 RF b n cD){op:Int}(hw:(Lit.int .i64 op).wf=true)(hm:op∉cKeys):∃v,(Instr.lookup 108 (.map (some b)) (.int .i64 op) true).run prog w=.ok (.tuple #[v,.bool false]) w:=by
  obtain⟨v,ps,hr,hv⟩:=h.look_ok lawI jY (zChk w) (zd:=.lit (.int .i64 (-1))) (zp:= []) zab (key:=.int .i64 op) (kl:=.int .i64 op) (keyOf_int_mk xD hw);rw[cD,putL_has,decide_eq_false hm]at hr;exact⟨v,hr⟩
def wVal:List UInt8:= [118,97,108,117,101]
def resv:List (List UInt8):= [wVal,opW 9,opW 10,opW 7,opW 8,opW 12,opW 13]
def wordB(s:List UInt8):Bool:=decide (s.length<=12)&&(match s with| []=>false|c ::_=>xP c)&&s.all qH
def qT(s:List UInt8):Bool:= !(resv.contains s)&&wordB s
def VlsC:Prop:=∀(w:World) (b:Nat),w.ownsMap (H:=Unit) prog 3 (plainElem prog 9) b 9 wD->
  Calls prog 55 #[.map (some b)] w (λe w'=>Ext w w'/\∃x,e=.returned x/\
    Calls prog 54 #[x] w' (λe2 w2=>Ext w' w2/\∃v,e2=.returned v/\∃vs:Sc,IsSr vs v w2/\vs.length<=9/\∀s,s∈vs↔s∈wKeys.map opW))
theorem name_no{s:List UInt8}(h:s∈wKeys.map opW\/s=wVal):qT s=false:=by
  simp only[wKeys,List.map_cons,List.map_nil,List.mem_cons,List.not_mem_nil,or_false]at h;rcases h with(rfl|rfl|rfl|rfl|rfl|rfl|rfl|rfl|rfl)|rfl <;> decide
theorem name_yes{s:List UInt8}(h1:s∉wKeys.map opW)(h2:s≠wVal):qT s=wordB s:=by
  have:resv.contains s=false:=by
    simp only[wKeys,List.map_cons,List.map_nil,List.mem_cons,List.not_mem_nil,or_false,not_or]at h1;simp only[resv,List.contains_eq_mem,List.mem_cons,List.not_mem_nil,or_false,zM,not_or];exact⟨h2,h1.2.1,h1.1,h1.2.2.2.2.2.1,h1.2.2.2.2.1,h1.2.2.2.1,h1.2.2.1⟩
  rw[qT,this];rfl
theorem conv_bytes(l:List UInt8):∃(G:World->Nat) (X:World->World),(∀W,(convert 9 52 (.string ⟨l.toArray⟩)).run prog W=.ok (.slice (some ⟨W.heap.size,0,none⟩) l.length (G W)) (X W))/\
    ∀W,Ext W (X W)/\IsBr l (.slice (some ⟨W.heap.size,0,none⟩) l.length (G W)) (X W):=by
  refine⟨_,_,λW=>run_bytes_of_string W 9 52 5 ⟨l.toArray⟩ zc zc zc,λW=>⟨?_,_,_,rfl,λ_=>⟨_,0,rfl,λj x hj=>?_⟩⟩⟩
  ·exact((Ext.refl W).drew).alloc _
  · rw [Nat.zero_add]
    have hl:j<l.length:=(List.getElem?_eq_some_iff.1 hj).1;have hx:l[j]=x:=(List.getElem?_eq_some_iff.1 hj).2;obtain⟨cap,hcap⟩:∃n,grownCap W (⟨l.toArray⟩:ByteArray).size 0 5=n:=⟨_,rfl⟩;rw[hcap];simp only[World.cell?];have h1:∀o:Obj,(W.drew.alloc o).heap[W.heap.size]? =some o:=λo=>by show(W.heap.push o)[W.heap.size]? =some o;simp
    rw[h1]
    have h2:(bytesRow ⟨l.toArray⟩ cap)[j]? =some (bV x):=by
      rw[bytesRow,Array.getElem?_append_left (by simpa using hl)];simp[hj,bV]
    simpa using h2
theorem isName_f(HV:VlsC)(s:List UInt8)(w:World)(hl:s.length<=4611686018427387904):Calls prog 32 #[qB s] w (RVal w (.bool (qT s))):=by
  by_cases hv:s=wVal
  · subst hv
    rw[name_no (.inr rfl),qB];go_enter func32,ntmps32
    go_wp2
    all_goals (go_ret;exact⟨rfl,Ext.refl _⟩)
  have hv1:(s== [118,97,108,117,101])=false:=by simpa [wVal]using hv
  by_cases hw:s∈wKeys.map opW
  · rw [name_no (.inl hw),qB]
    have HW:=hid hw;clear hw hl hv;go_enter func32,ntmps32
    go_wp2_with (first
        | (go_at_call 56;refine zG (words_f _) ?_;rintro e w1 ⟨b,rfl,e1,-,o1⟩)
        | (go_at_call 55;refine zG (HV _ _ o1) ?_;rintro e w2 ⟨e2,x,rfl,hC⟩)
        | (go_at_call 54;refine zG hC ?_;rintro e w3 ⟨e3,v,rfl,vs,hvs,hvl,hm⟩;have HM:=hid hm;clear hm hC)
        | (go_at_call 53;refine zG (contains_f hvs s ze) ?_;rintro e w4 ⟨rfl,rfl⟩;rw[show vs.contains s=true from by simpa using(HM.out s).2 HW.out];clear hvs hvl)
        | (go_at_call 57;refine zG (xY c _) ?_;rintro e w4 ⟨rfl,rfl⟩;rw[HC.out])
        | (go_at_call 58;go_must (refine zG (containsB_f (l:=c ::t) ?_ ze) ?_)))
    all_goals (go_ret;exact⟨rfl,(e1.trans e2).trans e3⟩)
  · rw [name_yes hw hv,qB]
    have HW:=hid hw;clear hw hv;cases s with
    | nil=>
      go_enter func32,ntmps32
      go_wp2_with (first
        | (go_at_call 56;refine zG (words_f _) ?_;rintro e w1 ⟨b,rfl,e1,-,o1⟩)
        | (go_at_call 55;refine zG (HV _ _ o1) ?_;rintro e w2 ⟨e2,x,rfl,hC⟩)
        | (go_at_call 54;refine zG hC ?_;rintro e w3 ⟨e3,v,rfl,vs,hvs,hvl,hm⟩;have HM:=hid hm;clear hm hC)
        | (go_at_call 53;refine zG (contains_f hvs [] ze) ?_;rintro e w4 ⟨rfl,rfl⟩;rw[show vs.contains []=false from by simpa using λh=>HW.out ((HM.out []).1 h)];clear hvs hvl)
        | (go_at_call 57;refine zG (xY c _) ?_;rintro e w4 ⟨rfl,rfl⟩;rw[HC.out])
        | (go_at_call 58;go_must (refine zG (containsB_f (l:=c ::t) ?_ ze) ?_)))
      all_goals (go_ret;exact⟨rfl,(e1.trans e2).trans e3⟩)
    | cons c t=>
      by_cases hlen:t.length+1<=12
      · have hle:(t.length:Int)+1<=12:=by omega
        obtain⟨r,hr⟩:∃r,xP c=r:=⟨_,rfl⟩;have HC:=hid hr;have HW2:wordB (c ::t)=(r&&(c ::t).all qH):=by rw[<-hr];simp[wordB,hlen]
        rw[HW2];clear HW2 hr;cases r with
        | false=>
          go_enter func32,ntmps32
          go_wp2_with (first
        | (go_at_call 56;refine zG (words_f _) ?_;rintro e w1 ⟨b,rfl,e1,-,o1⟩)
        | (go_at_call 55;refine zG (HV _ _ o1) ?_;rintro e w2 ⟨e2,x,rfl,hC⟩)
        | (go_at_call 54;refine zG hC ?_;rintro e w3 ⟨e3,v,rfl,vs,hvs,hvl,hm⟩;have HM:=hid hm;clear hm hC)
        | (go_at_call 53;refine zG (contains_f hvs (c ::t) ze) ?_;rintro e w4 ⟨rfl,rfl⟩;rw[show vs.contains (c ::t)=false from by simpa using λh=>HW.out ((HM.out (c ::t)).1 h)];clear hvs hvl)
        | (go_at_call 57;refine zG (xY c _) ?_;rintro e w4 ⟨rfl,rfl⟩;rw[HC.out])
        | (go_at_call 58;go_must (refine zG (containsB_f (HX.out _).2 (by simpa using hl)) ?_;rintro e w4 ⟨rfl,rfl⟩;rw[HQ.out])))
          go_ret
          exact⟨rfl,(e1.trans e2).trans e3⟩
        | true=>
          obtain⟨G,X,hcv,hX⟩:=conv_bytes (c ::t);have HX:=hid hX;clear hX;obtain⟨q,hq⟩:∃q,(c ::t).all qH=q:=⟨_,rfl⟩;rw[hq];have HQ:=hid hq;clear hq;go_enter func32,ntmps32
          go_wp2_with (first
        | (go_at_call 56;refine zG (words_f _) ?_;rintro e w1 ⟨b,rfl,e1,-,o1⟩)
        | (go_at_call 55;refine zG (HV _ _ o1) ?_;rintro e w2 ⟨e2,x,rfl,hC⟩)
        | (go_at_call 54;refine zG hC ?_;rintro e w3 ⟨e3,v,rfl,vs,hvs,hvl,hm⟩;have HM:=hid hm;clear hm hC)
        | (go_at_call 53;refine zG (contains_f hvs (c ::t) ze) ?_;rintro e w4 ⟨rfl,rfl⟩;rw[show vs.contains (c ::t)=false from by simpa using λh=>HW.out ((HM.out (c ::t)).1 h)];clear hvs hvl)
        | (go_at_call 57;refine zG (xY c _) ?_;rintro e w4 ⟨rfl,rfl⟩;rw[HC.out])
        | (go_at_call 58;go_must (refine zG (containsB_f (HX.out _).2 (by simpa using hl)) ?_;rintro e w4 ⟨rfl,rfl⟩;rw[HQ.out])))
          go_ret
          exact⟨by cases q <;> rfl,((e1.trans e2).trans e3).trans (HX.out _).1⟩
      · have hle:12<(t.length:Int)+1:=by omega
        have HW2:wordB (c ::t)=false:=by simp[wordB,hlen]
        rw[HW2];clear HW2;go_enter func32,ntmps32
        go_wp2_with (first
        | (go_at_call 56;refine zG (words_f _) ?_;rintro e w1 ⟨b,rfl,e1,-,o1⟩)
        | (go_at_call 55;refine zG (HV _ _ o1) ?_;rintro e w2 ⟨e2,x,rfl,hC⟩)
        | (go_at_call 54;refine zG hC ?_;rintro e w3 ⟨e3,v,rfl,vs,hvs,hvl,hm⟩;have HM:=hid hm;clear hm hC)
        | (go_at_call 53;refine zG (contains_f hvs (c ::t) ze) ?_;rintro e w4 ⟨rfl,rfl⟩;rw[show vs.contains (c ::t)=false from by simpa using λh=>HW.out ((HM.out (c ::t)).1 h)];clear hvs hvl)
        | (go_at_call 57;refine zG (xY c _) ?_;rintro e w4 ⟨rfl,rfl⟩;rw[HC.out])
        | (go_at_call 58;go_must (refine zG (containsB_f (HX.out _).2 (by simpa using hl)) ?_;rintro e w4 ⟨rfl,rfl⟩;rw[HQ.out])))
        go_ret
        exact⟨rfl,(e1.trans e2).trans e3⟩
end Go.Proofs.YtenhciieboegbaaGreatDoor
