/- Lemmas. -/
import Derived.Test.YtkeikfekkdplgaaGreatDoorBwd
import Derived.Test.YtkeikfekkdplgaaGreatDoorEv16
import Derived.Test.YtkeikfekkdplgaaGreatDoorEg4
import Derived.Test.YtkeikfekkdplgaaGreatDoorTre
namespace Go.Proofs.YtkeikfekkdplgaaGreatDoor
section
open Go Go.RowKit
open Go.Proofs.Tryz
theorem jn{P:Prop}(h:P:=by have:=HL.out;have:=HN.out;simp only[IntKind.wrap_i64];omega):P:=h
theorem yn{P:Prop}(h:P:=by have:=(List.getElem?_eq_some_iff.1 he).1;have:=HN.out;omega):P:=h
set_option maxRecDepth 100000
set_option maxHeartbeats 8000000
attribute [local go_sem] Oper.semAt_some
def IrR(hs:List Int)(v:Value)(w:World):Prop:=∃ao c,v=.slice ao hs.length c/\(hs≠ []->∃g o,ao=some ⟨g,o,none⟩/\∀j x,hs[j]? =some x->World.cell? w ⟨g,o+j,none⟩=some (.int .i64 x))
theorem IrR.ext{hs:List Int}{v:Value}{w w':World}(h:IrR hs v w)(e:Ext w w'):IrR hs v w':=by
 obtain⟨ao,c,h1,h2⟩:=h;exact⟨ao,c,h1,λhn=>let ⟨g,o,k1,k2⟩:=h2 hn;⟨g,o,k1,λj x hj=>e.cell (k2 j x hj)⟩⟩
theorem ix_Ir(g o c n j:Nat)(h:j<n)(w:World):(Instr.indexAt 41 (.slice (some ⟨g,o,none⟩) n c) (.int .i64 (j:Int))).run prog w=.ok (.pointer (some ⟨g,o+j,none⟩)) w:=by
 have h1:(0:Int)<=(j:Int):=zb
 have h2:(j:Int)<(n:Int):=zb
 go_simp
def fidx{α:Type}(p:α->Bool)(L:List α):Int:=match L.findIdx? p with
 |none=> -1
 |some i=>(i:Nat)
theorem fidx_hit{α:Type}{p:α->Bool}{L:List α}{i:Nat}{d:α}(h:L[i]? =some d)(hp:p d=true)(hb:∀(j:Nat) (e:α),j<i->L[j]? =some e->p e=false):fidx p L=(i:Nat):=by
 have hlt:=(List.getElem?_eq_some_iff.1 h).1
 have h1:L.findIdx? p=some i:=by
  rw[List.findIdx?_eq_some_iff_getElem];refine⟨hlt,by rw[(List.getElem?_eq_some_iff.1 h).2];exact hp,λj hj=>?_⟩;have:=hb j _ hj (List.getElem?_eq_getElem zb);simp[this]
 rw[fidx,h1]
theorem fidx_miss{α:Type}{p:α->Bool}{L:List α}(hb:∀(j:Nat) (e:α),L[j]? =some e->p e=false):fidx p L= -1:=by
 have h1:L.findIdx? p=none:=List.findIdx?_eq_none_iff.2 λx hx=>by
  obtain⟨j,hj,he⟩:=List.getElem_of_mem hx;exact hb j x zan
 rw[fidx,h1]
theorem fidx_any{α:Type}(p:α->Bool)(L:List α):decide (0<=fidx p L)=L.any p:=by
 unfold fidx;cases h:L.findIdx? p with
 | none=>
  have:=List.findIdx?_eq_none_iff.1 h;simp only[show decide ((0:Int)<= -1)=false from rfl];symm;rw[List.any_eq_false];intro x hx;simp[this x hx]
 | some i=>
  obtain⟨h1,h2,_⟩:=List.findIdx?_eq_some_iff_getElem.1 h;rw[show decide ((0:Int)<=(i:Nat))=true from by simp];symm;rw[List.any_eq_true];exact⟨_,List.getElem_mem h1,h2⟩
theorem idxI_f{w:World}{hs:List Int}{v:Value}{x:Int}(hv:IrR hs v w)(hl:hs.length<=1000000):Calls prog 220 #[v,.int .i64 x] w (Ret w (iV (fidx (λy=>decide (y=x)) hs))):=by
 obtain⟨ao,c,rfl,hcs⟩:=hv;obtain⟨n0,hn0⟩:∃n0,hs.length=n0:=⟨_,rfl⟩;have HN:=hid hn0;have HL:=hid hl;rw[hn0];have HCS:=hid hcs;clear hcs hn0 hl;go_enter func220,ntmps220
 go_wp2
 go_loopg [8] n0 (λgk v8 wr=>∃(i:Nat),v8=.int .i64 (i:Int)/\i+gk=n0/\Hid (wr=w/\∀(j:Nat) (e:Int),j<i->hs[j]? =some e->decide (e=x)=false))
 case atStart=>exact⟨0,rfl,by omega,hid ⟨rfl,λj e hj=>absurd hj (Nat.not_lt_zero _)⟩⟩
 case round=>
  obtain⟨i,rfl,hg,S⟩:=hrel;have hwr:=S.out.1;subst hwr;by_cases hi:i<n0
  ·obtain⟨y,hd⟩:∃d,hs[i]? =some d:=zo;obtain⟨g,o,rfl,hc⟩:=HCS.out xc;have hcx:=hc i y hd;have hgI:=ix_Ir g o c n0 i hi;have HI:=hid (show i+1+(gk-1)=n0 by omega);have HD:=hid hd;have hil:(i:Int)<(n0:Int):=by omega
   have hiw:IntKind.i64.wrap ((i:Int)+1)=((i+1:Nat):Int):=jn
   have HG:=hid (show 0<gk by omega);clear hc hd hg hi;by_cases hx:y=x
   ·have HR:=fidx_hit (p:=λy=>decide (y=x)) HD.out (by simpa using hx) S.out.2;subst hx;clear S;go_wp2_with fail
    go_ret
    exact⟨_,rfl,Ext.refl _,by first|rfl| (rw[HR];rfl)⟩
   ·have S':=hid (show wr=wr/\∀(j:Nat) (e:Int),j<i+1->hs[j]? =some e->decide (e=x)=false from⟨rfl,λj e hj he=>by
     rcases Nat.lt_succ_iff_lt_or_eq.1 hj with h|h
     ·exact S.out.2 j e h he
     ·subst h;rw[HD.out]at he;cases he;simpa using hx⟩)
    have hx':¬x=y:=λe=>hx e.symm
    clear S;go_wp2_with fail
    go_roundg (gk-1)
    case measure=>have:=HG.out;omega
    case rel=>exact⟨i+1,rfl,HI.out,hid ⟨rfl,S'.out.2⟩⟩
  ·have hil:¬(i:Int)<(n0:Int):=by omega
   have hie:i=n0:=zb
   have HR:=fidx_miss (p:=λy=>decide (y=x)) (L:=hs) (λj e he=>S.out.2 j e yn he);clear S hg hie;go_wp2_with fail
   go_ret
   exact⟨_,rfl,Ext.refl _,by first|rfl| (rw[HR];rfl)⟩
theorem hasI_f{w:World}{hs:List Int}{v:Value}{x:Int}(hv:IrR hs v w)(hl:hs.length<=1000000):Calls prog 187 #[v,.int .i64 x] w (Ret w (IsV (.bool (hs.any (λy=>decide (y=x)))))):=by
 have h:=fidx_any (λy=>decide (y=x)) hs;have hc:=idxI_f (x:=x) hv hl;generalize fidx (λy=>decide (y=x)) hs=r at h hc;go_enter func187,ntmps187;go_wp2_with (go_at_call 220;refine hc.mono ?_;rintro e w1 ⟨_,rfl,e1,rfl⟩)
 go_ret
 exact⟨_,rfl,e1,by first|rfl| (rw[<-h];rfl)⟩
theorem not1_f{w:World}{gs:List Int}{gv:Value}{x:Int}{b:Nat}(cb:World.cell? w ⟨b,0,none⟩=some gv)(hv:IrR gs gv w)(hl:gs.length<=1000000):Calls prog 186 #[.int .i64 x,.pointer (some ⟨b,0,none⟩)] w (Ret w (IsV (.bool (!gs.any (λy=>decide (y=x)))))):=by
 have hc:=hasI_f (x:=x) hv hl;obtain⟨ao,c,rfl,_⟩:=hv;generalize gs.any (λy=>decide (y=x))=r at hc;go_enter func186,ntmps186;go_wp2_with (go_at_call 187;refine hc.mono ?_;rintro e w1 ⟨_,rfl,e1,rfl⟩)
 go_ret
 exact⟨_,rfl,e1,rfl⟩
theorem idxF_f{w:World}{hs gs:List Int}{v gv:Value}{b:Nat}(hv:IrR hs v w)(hl:hs.length<=1000000)(cb:World.cell? w ⟨b,0,none⟩=some gv)(hg:IrR gs gv w)(hgl:gs.length<=1000000):
  Calls prog 219 #[v,.func (.func 186) #[] #[.pointer (some ⟨b,0,none⟩)]] w (Ret w (iV (fidx (λx=> !gs.any (λy=>decide (y=x))) hs))):=by
 obtain⟨ao,c,rfl,hcs⟩:=hv;obtain⟨n0,hn0⟩:∃n0,hs.length=n0:=⟨_,rfl⟩;have HN:=hid hn0;have HL:=hid hl;rw[hn0];have HCS:=hid hcs;have HCB:=hid (jI cb (jI hg hgl));clear hcs hn0 hl cb hg hgl;go_enter func219,ntmps219
 go_wp2
 go_loopg [8] n0 (λgk v8 wr=>∃(i:Nat),v8=.int .i64 (i:Int)/\i+gk=n0/\Hid (Ext w wr/\∀(j:Nat) (e:Int),j<i->hs[j]? =some e->(!gs.any (λy=>decide (y=e)))=false))
 case atStart=>exact⟨0,rfl,by omega,hid ⟨Ext.refl _,λj e hj=>absurd hj (Nat.not_lt_zero _)⟩⟩
 case round=>
  obtain⟨i,rfl,hg,S⟩:=hrel;by_cases hi:i<n0
  ·obtain⟨x,hd⟩:∃d,hs[i]? =some d:=zo;obtain⟨g,o,rfl,hc⟩:=HCS.out xc;have E:=S.out.1;have hcx:=E.cell (hc i x hd);have hgI:=ix_Ir g o c n0 i hi;have HI:=hid (show i+1+(gk-1)=n0 by omega);have HD:=hid hd;have hil:(i:Int)<(n0:Int):=by omega
   have hiw:IntKind.i64.wrap ((i:Int)+1)=((i+1:Nat):Int):=jn
   have HG:=hid (show 0<gk by omega);have he:=en func186;obtain⟨r,hr⟩:∃r,(!gs.any (λy=>decide (y=x)))=r:=⟨_,rfl⟩;have hcon:=not1_f (x:=x) (E.cell HCB.out.1) (HCB.out.2.1.ext E) HCB.out.2.2;rw[hr]at hcon;have HR0:=hid hr;clear hc hd hg hi hr;cases r with
   | true=>
    have HR:=fidx_hit (p:=λx=> !gs.any (λy=>decide (y=x))) HD.out HR0.out S.out.2;clear S;go_wp2_with (go_at_call 186;refine hcon.mono ?_;rintro e w1 ⟨_,rfl,e1,rfl⟩)
    go_ret
    exact⟨_,rfl,E.trans e1,by first|rfl| (rw[HR];rfl)⟩
   | false=>
    have S':=hid (show ∀(j:Nat) (e:Int),j<i+1->hs[j]? =some e->(!gs.any (λy=>decide (y=e)))=false from λj e hj he=>by
     rcases Nat.lt_succ_iff_lt_or_eq.1 hj with h|h
     ·exact S.out.2 j e h he
     ·subst h;rw[HD.out]at he;cases he;exact HR0.out)
    clear S;go_wp2_with (go_at_call 186;refine hcon.mono ?_;rintro e w1 ⟨_,rfl,e1,rfl⟩)
    go_roundg (gk-1)
    case measure=>have:=HG.out;omega
    case rel=>exact⟨i+1,rfl,HI.out,hid ⟨E.trans e1,S'.out⟩⟩
  ·have hil:¬(i:Int)<(n0:Int):=by omega
   have hie:i=n0:=zb
   have HR:=fidx_miss (p:=λx=> !gs.any (λy=>decide (y=x))) (L:=hs) (λj e he=>S.out.2 j e yn he);have E:=S.out.1;clear S hg hie;go_wp2_with fail
   go_ret
   exact⟨_,rfl,E,by first|rfl| (rw[HR];rfl)⟩
theorem conF_f{w:World}{hs gs:List Int}{v gv:Value}{b:Nat}(hv:IrR hs v w)(hl:hs.length<=1000000)(cb:World.cell? w ⟨b,0,none⟩=some gv)(hg:IrR gs gv w)(hgl:gs.length<=1000000):
  Calls prog 185 #[v,.func (.func 186) #[] #[.pointer (some ⟨b,0,none⟩)]] w (Ret w (IsV (.bool (hs.any (λx=> !gs.any (λy=>decide (y=x))))))):=by
 have h:=fidx_any (λx=> !gs.any (λy=>decide (y=x))) hs;have hc:=idxF_f hv hl cb hg hgl;generalize fidx (λx=> !gs.any (λy=>decide (y=x))) hs=r at h hc;go_enter func185,ntmps185;go_wp2_with (go_at_call 219;refine hc.mono ?_;rintro e w1 ⟨_,rfl,e1,rfl⟩)
 go_ret
 exact⟨_,rfl,e1,by first|rfl| (rw[<-h];rfl)⟩
def xZ(vs:List Value):ByteArray:=match vs[0]? with|some (Value.string x)=>x|_=>⟨#[]⟩
theorem find1_g{w:World}{vs:List Value}{x y:ByteArray}{b:Nat}(h0:vs[0]? =some (.string y))(cb:World.cell? w ⟨b,0,none⟩=some (.string x)):Calls prog 217 #[.agg vs.toArray,.pointer (some ⟨b,0,none⟩)] w (Ret w (IsV (.bool (!decide (y=x))))):=by
 obtain⟨W,hW,E,c0⟩:∃W,W=w.alloc (.cells vs.toArray 98)/\Ext w W/\World.cell? W ⟨w.heap.size,0,none⟩=some (.string y):=⟨_,rfl,(Ext.refl w).alloc _,(Bk.new w vs.toArray _).c 0 _ h0⟩;replace cb:=E.cell cb;have hb:=ba_listE y x;go_enter func217,ntmps217;go_upto_region 1 with fail;rw[<-hW];clear hW;go_wp2_with fail
 go_ret
 exact⟨_,rfl,E,rfl⟩
theorem best1_g{w:World}{vs:List Value}{hs gs:List Int}{hv gv:Value}{b:Nat}(h30:vs[30]? =some hv)(hh:IrR hs hv w)(hl:hs.length<=1000000)(cb:World.cell? w ⟨b,0,none⟩=some gv)(hg:IrR gs gv w)(hgl:gs.length<=1000000):
  Calls prog 184 #[.agg vs.toArray,.pointer (some ⟨b,0,none⟩)] w (Ret w (IsV (.bool (hs.any (λx=> !gs.any (λy=>decide (y=x))))))):=by
 obtain⟨W,hW,E,c30⟩:∃W,W=w.alloc (.cells vs.toArray 98)/\Ext w W/\World.cell? W ⟨w.heap.size,30,none⟩=some hv:=⟨_,rfl,(Ext.refl w).alloc _,(Bk.new w vs.toArray _).c 30 _ h30⟩;have hmf:∀(fn:Fn) (first cap:Array Value) (w:World),(Instr.makeFunc fn first cap).run prog w=.ok (.func fn first cap) w:=λ_ _ _ _=>rfl
 have hc:=conF_f (hh.ext E) hl (E.cell cb) (hg.ext E) hgl;obtain⟨ao,c,rfl,_⟩:=hh;generalize hs.any (λx=> !gs.any (λy=>decide (y=x)))=r at hc;go_enter func184,ntmps184;go_upto_region 1 with fail;rw[<-hW];clear hW;go_wp2_with (go_at_call 185;refine hc.mono ?_;rintro e w1 ⟨_,rfl,e1,rfl⟩)
 go_ret
 exact⟨_,rfl,E.trans e1,rfl⟩
attribute [local go_sem] Oper.semAt_some
theorem flat_inv:∀ {L:List (List Value)},(∀vs∈L,vs.length=32)->∀ {j:Nat} {u:Value},L.flatten[j]? =some u->∃vs,L[j/32]? =some vs/\vs[j%32]? =some u
 | [],_,j,u,h=>by simp at h
 | x ::L,hl,j,u,h=>by
  have hx:=hl x List.mem_cons_self;rw[List.flatten_cons]at h;by_cases c:j<32
  ·rw[List.getElem?_append_left (by omega)]at h;exact⟨x,by rw[Nat.div_eq_of_lt c];rfl,by rw[Nat.mod_eq_of_lt c];exact h⟩
  ·rw[List.getElem?_append_right (by omega),hx]at h;obtain⟨vs,h1,h2⟩:=flat_inv (λv hv=>hl v (List.mem_cons_of_mem _ hv)) h;refine⟨vs,?_,?_⟩
   ·rw[show j/32=(j-32)/32+1 by omega];simpa using h1
   ·rw[show j%32=(j-32)%32 by omega];exact h2
theorem Bk.ofBlock{w:World}{g:Nat}{cur:Array Value}{e:TypeId}(h:w.heap[g]? =some (.cells cur e (0,0))):Bk w g cur.toList:=by
 refine⟨λj v hj=>?_,λj=>?_,(Array.getElem?_eq_some_iff.1 h).1⟩
 ·simp only[World.cell?];rw[h];show cur[j]? =some v
  simpa using hj
 ·simp[World.frozen?,h]
def HdO(B:Nat)(L:List (List Value))(v:Value)(w:World):Prop:=(L= []/\v=.slice none 0 0)\/∃g c,v=.slice (some ⟨g,0,none⟩) L.length c/\L.length<=c/\B<=g/\HdB L g w
theorem HdO.of{base n:Nat}{L:List (List Value)}{v:Value}{w:World}(h:Rwg 98 32 base w v n L.flatten)(hn:L.length=n)(hw:NwB w v)(hL:∀vs∈L,vs.length=32):HdO base L v w:=by
 obtain⟨h1,⟨h2,h3⟩| ⟨g,cap,cur,hv,hb,hg,hnc,hc,hsz,ht⟩⟩:=h
 ·subst h3;exact .inl ⟨List.eq_nil_of_length_eq_zero hn,h2⟩
 ·refine .inr ⟨g,cap,by rw[hn];exact hv,by omega,hb,λj vs hj q u hq=>?_,cur.toList,Bk.ofBlock hg,?_,hw g cur _ _ (by rw[hv];rfl) hg⟩
  ·have hf:=flat_at hL hj hq;rw[<-ht,List.getElem?_take]at hf
   split at hf
   ·exact(Bk.ofBlock hg).c _ _ hf
   ·cases hf
  ·have h3:cur.toList.length=cap*32:=by rw[Array.length_toList,hsz]
   show 32*L.length<=cur.toList.length;omega
theorem infoH:∃bytes,(prog.info? 98).map (λi=>(i.zero,i.size,i.bytes))=some (some (.agg z32'.toArray),32,bytes)/\bytes<=100000:=by
 obtain⟨i,hi,hq⟩:=Option.map_eq_some_iff.1 (show(prog.info? 98).map (λi=>(i.zero,i.size,decide (i.bytes<=100000)))=some (some (.agg z32'.toArray),32,true)by kernel_rfl);simp only[Prod.mk.injEq,jQ]at hq;obtain⟨h0,h1,h2⟩:=hq;exact⟨i.bytes,by rw[hi];simp[h0,h1],h2⟩
theorem RwgH.zero(w:World){base:Nat}(hb:base<=w.heap.size):Rwg 98 32 base (w.alloc (.cells #[] 98)) (.slice (some ⟨w.heap.size,0,none⟩) 0 0) 0 []:=by
 refine⟨by simp,.inr ⟨w.heap.size,0,#[],rfl,hb,World.alloc_heap_new _ _,?_,?_,?_,?_⟩⟩
 all_goals simp
theorem NwB.zero(w:World)(T:TypeId):NwB (w.alloc (.cells #[] T)) (.slice (some ⟨w.heap.size,0,none⟩) 0 0):=λg cs e fz h ho=>by
 obtain rfl:w.heap.size=g:=by injection h
 rw[World.alloc_heap_new]at ho;cases ho;intro u hu;simp at hu
theorem eqNH(w:World):(binOp .eql 37 (.slice none 0 0) (.slice none 0 0)).run prog w=.ok (.bool true) w:=by kernel_rfl
theorem eqSH(w:World)(a:Addr)(n c:Nat):(binOp .eql 37 (.slice (some a) n c) (.slice none 0 0)).run prog w=.ok (.bool false) w:=by kernel_rfl
def HdS(L:List (List Value))(v:Value)(w:World):Prop:=(L= []/\v=.slice none 0 0)\/∃g c,v=.slice (some ⟨g,0,none⟩) L.length c/\HdR L g w
theorem HdS.ext{L:List (List Value)}{v:Value}{w w':World}(h:HdS L v w)(e:Ext w w'):HdS L v w':=h.imp id λ⟨g,c,h1,h2⟩=>⟨g,c,h1,h2.ext e⟩
theorem cloneH_g{w:World}{L:List (List Value)}{v:Value}(hl:L.length<=1000000)(hL:∀vs∈L,HdOk vs)(hv:HdS L v w):Calls prog 216 #[v] w (λe w'=>Ext w w'/\∃u,e=.returned u/\HdO w.heap.size L u w'):=by
 obtain⟨bytes,hinfo,hby⟩:=infoH;have hL32:∀vs∈L,vs.length=32:=λvs h=>(hL vs h).1
 rcases hv with⟨rfl,rfl⟩| ⟨g,c,rfl,hR⟩
 ·have hq:=eqNH;go_enter func216,ntmps216
  go_wp2
  go_ret
  exact⟨Ext.refl _,_,rfl,.inl ⟨rfl,rfl⟩⟩
 ·have hfl:L.flatten.length=L.length*32:=by rw[flat_len hL32,Nat.mul_comm]
  have hnews:∀j u,L.flatten[j]? =some u->World.cell? (w.alloc (.cells #[] 98)) ⟨g,j,none⟩=some u:=λj u hj=>by
   obtain⟨vs,h1,h2⟩:=flat_inv hL32 hj;have:=hR _ vs h1 _ u h2;rw[show 32*(j/32)+j%32=j by omega]at this;exact((Ext.refl w).alloc _).cell this
  have h1c:∀u∈L.flatten,u.oneCell'=true:=λu hu=>by
   obtain⟨vs,h1,h2⟩:=List.mem_flatten.1 hu;exact List.all_eq_true.1 (hL vs h1).2.1 u h2
  have hnn:∀u∈L.flatten,NoWord u:=λu hu=>by
   obtain⟨vs,h1,h2⟩:=List.mem_flatten.1 hu;exact(hL vs h1).2.2 u h2
  obtain⟨n0,hn0⟩:∃n0,L.length=n0:=⟨_,rfl⟩;have HN:=hid hn0;rw[hn0]at hfl ⊢;have HF:=hid (jI hfl (jI hnews (jI h1c hnn)));have HB:=hid (show(0+n0)*bytes<=140737488355328 by have:=Nat.mul_le_mul (show 0+n0<=1000000 by omega) hby;omega);have HL2:=hid (show 0+n0<=140737488355328 by omega);have HI:=hid hinfo;obtain⟨fl,hfle⟩:∃fl,L.flatten=fl:=⟨_,rfl⟩;rw[hfle]at HF;have HFL:=hid hfle;clear hfl hnews h1c hnn hn0 hinfo hby hL hR hl hfle;have hq:=λw=>eqSH w ⟨g,0,none⟩ n0 c
  go_enter func216,ntmps216;go_wp2_with (at_builtin;go_must (refine wpl_rwn rfl _ _ 37 rfl w.heap.size 98 (.agg z32'.toArray) 32 bytes za HI.out zbq dcx (λu hu=>nwZ32 u jo) _ 0 [] rfl (RwgH.zero w (jJ _)) (NwB.zero w _) g n0 c fl rfl HF.out.1 HF.out.2.1 HF.out.2.2.1 HF.out.2.2.2 HL2.out HB.out zd ?_;intro v4 w4 hr4 hw4 hg4 gr4 hb4 ho4))
  go_ret
  refine⟨Below.trans ((Ext.refl w).alloc _) hb4,_,rfl,HdO.of (n:=n0) (by simpa [HFL.out]using hr4) HN.out hw4 hL32⟩
attribute [local go_sem] Oper.semAt_some
theorem Ob.below{B g:Nat}{w w':World}(O:Ob g w w')(hB:B<=g)(hw:B<=w.heap.size):Below B w w':=⟨O.os,O.tape,O.output,O.size,λk hk=>O.block k zb zb⟩
theorem delO_f{w:World}{L:List (List Value)}{v:Value}{f:FuncId}{caps:List Value}{p:List Value->Bool}{B:Nat}(he:∀args w,(callFunc f args).run prog w=.ok (.enter f args) w)(hl:L.length<=1000000)(hL:∀vs∈L,HdOk vs)(hO:HdO B L v w)(hB:B<=w.heap.size)
  (HF:∀vs∈L,∀w',Below B w w'->Calls prog f (.agg vs.toArray ::caps).toArray w' (Ret w' (IsV (.bool (p vs))))):
  Calls prog 183 #[v,.func (.func f) #[] caps.toArray] w (λe w'=>Below B w w'/\∃u,e=.returned u/\HdO B (L.filter (λvs=> !p vs)) u w'):=by
 rcases hO with⟨rfl,rfl⟩| ⟨g,c,rfl,h1,h2,h3⟩
 ·have hidx:=idxHd_f (w:=w) (L:= []) (n0:=0) (c:=0) (ao:=none) (p:=p) (caps:=caps) he rfl dcx (λvs hv=>by cases hv) rfl (λh=>absurd rfl h) (λvs hv=>by cases hv);go_enter func183,ntmps183;go_wp2_with (go_at_call 218;refine hidx.mono ?_;rintro e w1 ⟨_,rfl,e1,rfl⟩)
  go_ret
  exact⟨e1.mono hB,_,rfl,.inl ⟨rfl,rfl⟩⟩
 ·refine jC (delHd_f he rfl hl h1 hL h3 (λvs hv w' O=>HF vs hv w' (O.below h2 hB))) λe w' ⟨O,q1,q2⟩=>⟨O.below h2 hB,_,q1,.inr ⟨g,c,rfl,jK (List.length_filter_le _ _) h1,h2,q2⟩⟩
theorem find_g{w:World}{L:List (List Value)}{v:Value}{x:ByteArray}(hl:L.length<=1000000)(hL:∀vs∈L,HdOk vs)(hN:∀vs∈L,vs[0]? =some (.string (xZ vs)))(hv:HdS L v w):Calls prog 182 #[.agg #[v],.string x] w (λe w'=>Ext w w'/\∃u,e=.returned u/\HdO w.heap.size (L.filter (λvs=>decide (xZ vs=x))) u w'):=by
 have hmf:∀(fn:Fn) (first cap:Array Value) (w:World),(Instr.makeFunc fn first cap).run prog w=.ok (.func fn first cap) w:=λ_ _ _ _=>rfl
 obtain⟨W,hW,E,c0,cx,hlt⟩:∃W,W=(w.alloc (.cells #[v] 39)).alloc (.cells #[.string x] 9)/\Ext w W/\World.cell? W ⟨w.heap.size,0,none⟩=some v/\World.cell? W ⟨w.heap.size+1,0,none⟩=some (.string x)/\w.heap.size+1<W.heap.size:=
  ⟨_,rfl,((Ext.refl w).alloc _).alloc _,((Bk.new w _ _).ext ((Ext.refl _).alloc _)).c 0 _ rfl,(Bk.newE _ _ zd _ _).c 0 _ rfl,by simp⟩
 have hcl:=cloneH_g hl hL (hv.ext E)
 have hdel:∀w1 u,Ext W w1->HdO W.heap.size L u w1->Calls prog 183 #[u,.func (.func 217) #[] #[.pointer (some ⟨w.heap.size+1,0,none⟩)]] w1 (λe w'=>Below W.heap.size w1 w'/\∃u,e=.returned u/\HdO W.heap.size (L.filter (λvs=> !(!decide (xZ vs=x)))) u w'):=λw1 u e1 hu=>
  delO_f (caps:= [.pointer (some ⟨w.heap.size+1,0,none⟩)]) (en func217) hl hL hu e1.size (λvs hvs w' hb=>find1_g (hN vs hvs) (((hb.cell (p:=⟨w.heap.size+1,0,none⟩) hlt)).trans (e1.cell cx)))
 clear hl hL hN;go_enter func182,ntmps182;go_upto_region 1 with fail;rw[<-hW];clear hW;go_wp2_with (first| (go_at_call 216;refine hcl.mono ?_;rintro e w1 ⟨e1,u1,rfl,hu1⟩)| (go_at_call 183;refine(hdel _ _ e1 hu1).mono ?_;rintro e w2 ⟨e2,u2,rfl,hu2⟩))
 go_ret
 have E2:Ext w w2:=E.trans (Below.trans e1 e2);refine⟨E2,_,rfl,?_⟩;have:(L.filter (λvs=> !(!decide (xZ vs=x))))=L.filter (λvs=>decide (xZ vs=x)):=zd
 rw[this]at hu2;exact hu2.imp id λ⟨g,c,h1,h2,h3,h4⟩=>⟨g,c,h1,h2,jK E.size h3,h4⟩
theorem cmp2_f{w:World}{va vb:List Value}{la lb ca cb:Nat}{pa pb:Option Addr}(ha:va[30]? =some (.slice pa la ca))(hb:vb[30]? =some (.slice pb lb cb))(h1:la<=1000000)(h2:lb<=1000000):
  Calls prog 189 #[.agg va.toArray,.agg vb.toArray] w (Ret w (iV ((la:Int)-(lb:Int)))):=by
 obtain⟨W,hW,E,c1,c2⟩:∃W,W=(w.alloc (.cells va.toArray 98)).alloc (.cells vb.toArray 98)/\Ext w W/\World.cell? W ⟨w.heap.size,30,none⟩=some (.slice pa la ca)/\World.cell? W ⟨w.heap.size+1,30,none⟩=some (.slice pb lb cb):=
  ⟨_,rfl,((Ext.refl w).alloc _).alloc _,((Bk.new w va.toArray _).ext ((Ext.refl _).alloc _)).c 30 _ ha,(Bk.newE _ _ zd vb.toArray _).c 30 _ hb⟩
 have hw:IntKind.i64.wrap ((la:Int)-(lb:Int))=(la:Int)-(lb:Int):=js
 go_enter func189,ntmps189;go_upto_region 1 with fail;rw[<-hW];clear hW;go_wp2_with fail
 go_ret
 exact⟨_,rfl,E,rfl⟩
def minL(hl:List Value->Nat):List (List Value)->List Value->List Value
 | [],m=>m
 |v ::t,m=>minL hl t (if hl v<hl m then v else m)
theorem minL_snoc(hl:List Value->Nat)(v:List Value):∀(t:List (List Value)) (m:List Value),minL hl (t++ [v]) m=if hl v<hl (minL hl t m)then v else minL hl t m
 | [],m=>rfl
 |u ::t,m=>by rw[List.cons_append,minL,minL_snoc hl v t,minL]
theorem minL_mem(hl:List Value->Nat):∀(t:List (List Value)) (m:List Value),minL hl t m=m\/minL hl t m∈t
 | [],m=> .inl rfl
 | v ::t,m=>by
  rw[minL];rcases minL_mem hl t (if hl v<hl m then v else m)with h|h
  ·rw[h]
   split
   ·exact .inr List.mem_cons_self
   ·exact .inl rfl
  ·exact .inr (List.mem_cons_of_mem _ h)
theorem tBst4_1{P:Prop}(h:P:=by
  have hx9:=HIW.out;go_wp2_with fail
  go_roundg (gk-1)
  case measure=>have:=HI.out;omega
  case rel=>exact⟨i+1,rfl,HI.out.1,HI.out.2.1,S'⟩
  ):P:=h
theorem minH_g{w:World}{L:List (List Value)}{hd:List Value}{hl:List Value->Nat}{g c n0:Nat}(hn:(hd ::L).length=n0)(hl0:n0<=1000000)(hL:∀vs∈hd ::L,HdOk vs)(hh:∀vs∈hd ::L,hl vs<=1000000/\∃p q,vs[30]? =some (.slice p (hl vs) q))(hR:HdR (hd ::L) g w):
  Calls prog 188 #[.slice (some ⟨g,0,none⟩) n0 c,.func (.func 189) #[] #[]] w (Ret w (IsV (.agg (minL hl L hd).toArray))):=by
 obtain⟨W,hW,E,B4⟩:∃W,W=w.alloc (.cells #[.string ⟨#[]⟩,.slice none 0 0,.slice none 0 0,.bool false,.slice none 0 0,.slice none 0 0,.slice none 0 0,.int .i64 0,.bool false,.slice none 0 0,.slice none 0 0,.slice none 0 0,.int .i64 0,.int .i64 0,.int .i64 0,.int .i64 0,.slice none 0 0,.slice none 0 0,.slice none 0 0,.slice none 0 0,.bool false,.slice none 0 0,.bool false,.slice none 0 0,.slice none 0 0,.slice none 0 0,.slice none 0 0,.slice none 0 0,.slice none 0 0,.slice none 0 0,.slice none 0 0,.slice none 0 0] 98)/\Ext w W/\Bk W w.heap.size z32':=zh;have HN:=hid hn;have HL:=hid hl0;have HLL:=hid hL;have HH:=hid hh;have hn1:1<=n0:=by simp at hn;omega
 have hok:=hL hd List.mem_cons_self;have HR:=hid (hR.ext E);have hni:¬(n0:Int)<1:=zb
 have hgl:g<w.heap.size:=by
  obtain⟨u,hu⟩:∃u,hd[0]? =some u:=⟨_,List.getElem?_eq_getElem (show 0<hd.length by rw[hok.1];decide)⟩;exact World.block_lt_of_cell? w ⟨g,32*0+0,none⟩ (hR 0 hd rfl 0 _ hu)
 clear hn hL hh hR hl0;go_enter func188,ntmps188;go_upto_region 1 with fail;rw[<-hW];clear hW;go_upto_region 3 with fail;clear hni;refine rgs 3 (dR 11 3) [IsV (.slice (some ⟨g,0,none⟩) n0 c),IsP g (32*0),IsV (.agg hd.toArray)] [] ?_ ?_
 ·refine Rc zt ?_;refine Rc (ixq (u:=.int .i64 ((0:Nat):Int)) (ix_Hd g c n0 0 hn1) (qA 0 11) qF) ?_;refine Rc (lv (fP:=IsV (.agg hd.toArray)) _ (λw' e=>ld_Hd (j:=0) (HR.out.ext e) rfl hok.1) (qA 1 12) (λ_ _=>rfl)) ?_;exact rn0
 intro v X1 e1 hZ _;simp only[lxE,Nat.reduceAdd];rw[show v 2=.agg hd.toArray from hZ 2 dcx];clear hZ;replace E:=E.trans e1;replace B4:=B4.ext e1;replace HR:=hid (HR.out.ext e1);clear e1;refine stL (λK hK=>?_);refine xK (vs:=z32') al_Hd (λBn e3=>hK _ _ ?_);obtain⟨g5,hg5⟩:∃g,X1.heap.size=g:=⟨_,rfl⟩;have hg45:w.heap.size<g5:=by rw[<-hg5];exact B4.lt
 rw[hg5]at Bn ⊢;generalize X1.alloc (.cells z32'.toArray 98)=Y1 at Bn e3 ⊢;replace E:=E.trans e3;replace B4:=B4.ext e3;replace HR:=hid (HR.out.ext e3);clear hK K e3
 go_simp
 refine stL (λK hK=>?_);refine qX (us:=hd) Bn st_HdV rfl hok.1 nwZ32 (λX2 B5 O=>hK _ _ ?_) (ho1:=hok.2.1);have hgr:g≠g5:=zb
 replace E:=O.ext E zb;replace B4:=O.bk B4 zb;replace HR:=hid (HR.out.only (Ob.only O) hgr);clear hK K O Bn hok hg5;refine jE ?_;go_wp2_with fail
 have HMEM:Hid (∀i,minL hl (L.take i) hd∈hd ::L):=hid λi=>by
  rcases minL_mem hl (L.take i) hd with h|h
  ·rw[h];exact List.mem_cons_self
  ·exact List.mem_cons_of_mem _ (List.mem_of_mem_take h)
 have S0:=hid (show Ext w X2/\Bk X2 w.heap.size z32'/\Bk X2 g5 (minL hl (L.take (1-1)) hd)/\HdR (hd ::L) g X2 from⟨E,B4,B5,HR.out⟩);clear E B4 B5 HR
 go_loopg [6] (n0-1) (λgk v6 wr=>∃(i:Nat),v6=.int .i64 (i:Int)/\i+gk=n0/\1<=i/\Hid (Ext w wr/\Bk wr w.heap.size z32'/\Bk wr g5 (minL hl (L.take (i-1)) hd)/\HdR (hd ::L) g wr))
 case atStart=>exact⟨1,rfl,by omega,jJ _,S0⟩
 case round=>
  clear S0;obtain⟨i,rfl,hg,h1i,S⟩:=hrel;obtain⟨E,B4,B5,hR⟩:=S.out;clear S;have hmo:=HMEM.out (i-1);by_cases hi:i<n0
  ·obtain⟨vs,hd9⟩:∃d,(hd ::L)[i]? =some d:=zo;have hvm:=List.mem_of_getElem? hd9;have hokv:=HLL.out vs hvm;have hokm:=HLL.out _ hmo;obtain⟨hv1,pv,qv,hv2⟩:=HH.out vs hvm;obtain⟨hm1,pm,qm,hm2⟩:=HH.out _ hmo
   have HNX:=hid (show minL hl (L.take (i+1-1)) hd=if hl vs<hl (minL hl (L.take (i-1)) hd)then vs else minL hl (L.take (i-1)) hd by
    have hLi:L[i-1]? =some vs:=by
     have:(hd ::L)[(i-1)+1]? =some vs:=by rw[show i-1+1=i by omega];exact hd9
     simpa using this
    rw[show i+1-1=(i-1)+1 by omega,List.take_add_one,hLi]
    exact minL_snoc hl vs _ _)
   obtain⟨mv9,hmv⟩:∃m,minL hl (L.take (i-1)) hd=m:=⟨_,rfl⟩;rw[hmv]at B5 hokm hm1 hm2 HNX;have HI:=hid (show i+1+(gk-1)=n0/\1<=i+1/\0<gk by omega);have hil:(i:Int)<(n0:Int):=zb
   have HIW:=hid (show IntKind.i64.wrap ((i:Int)+1)=((i+1:Nat):Int)by have:=HL.out;simp only[IntKind.wrap_i64];omega);have HI2:=hid hi;clear hg hi h1i hmo hvm hmv;go_upto_region 7 with fail;clear hil;obtain⟨b,hb⟩:∃b,decide (((hl vs:Nat):Int)-((hl mv9:Nat):Int)<0)=b:=⟨_,rfl⟩;have HB:=hid hb;refine rg 8 (dR 20 8) [IsV (.func (.func 189) #[] #[]),IsV (.slice (some ⟨g,0,none⟩) n0 c),iV (i:Int),IsP g (32*i),IsV (.agg vs.toArray),IsV (.agg mv9.toArray),iV (((hl vs:Nat):Int)-((hl mv9:Nat):Int)),IsV (.bool b)] [] 0 ?_ ?_
   ·refine Rc yo ?_;refine Rc zt ?_;refine Rc (mv (qB (x:=.int .i64 (i:Int)) 6)) ?_;refine Rc (ixq (ix_Hd g c n0 i HI2.out) (qA 1 21) (qA 2 22)) ?_;refine Rc (lv (fP:=IsV (.agg vs.toArray)) _ (λw' e=>ld_Hd (hR.ext e) hd9 hokv.1) (qA 3 23) (λ_ _=>rfl)) ?_;refine Rc (lvV B5 ld_HdV (qB 5) hokm.1) ?_;refine Rc (cv2 (caps:= []) (en func189) (qA 0 20) (qA (fP:=IsV (.agg vs.toArray)) 4 24) (qA (fP:=IsV (.agg mv9.toArray)) 5 25) (λx0 x1 w' hE d0 d1=>by{obtain rfl:x0=_:=d0;obtain rfl:x1=_:=d1;exact cmp2_f hv2 hm2 hv1 hm1})) ?_;refine Rc (bn (r:=.bool b) (qC 6 26) qF (hr:=λw=>by have hx9:=HB.out;go_simp)) ?_;exact rn0
   intro v X3 e1 hZ _;simp only[lxE,Nat.reduceAdd];rw[show v 7=.bool b from hZ 7 dcx];clear hZ;replace E:=E.trans e1;replace B4:=B4.ext e1;replace B5:=B5.ext e1;replace hR:=hR.ext e1;clear e1 hv2 hm2 hv1 hm1;refine jL za ?_ _;cases b with
   | false=>
    have hnb:¬hl vs<hl mv9:=by simp only[decide_eq_false_iff_not]at hb;omega
    have S':=hid (show Ext w X3/\Bk X3 w.heap.size z32'/\Bk X3 g5 (minL hl (L.take (i+1-1)) hd)/\HdR (hd ::L) g X3 from⟨E,B4,by rw[HNX.out,if_neg hnb];exact B5,hR⟩);clear E B4 B5 hR HNX hb hnb hd9 hokv hokm;exact tBst4_1
   | true=>
    have hnb:hl vs<hl mv9:=by simp only[jQ]at hb;omega
    go_upto_region 8 with fail;refine rgs 4 (dR 28 4) [IsV (.slice (some ⟨g,0,none⟩) n0 c),iV (i:Int),IsP g (32*i),IsV (.agg vs.toArray)] [] ?_ ?_
    ·refine Rc zt ?_;refine Rc (mv (qB (x:=.int .i64 (i:Int)) 6)) ?_;refine Rc (ixq (ix_Hd g c n0 i HI2.out) (qA 0 28) (qA 1 29)) ?_;refine Rc (lv (fP:=IsV (.agg vs.toArray)) _ (λw' e=>ld_Hd (hR.ext e) hd9 hokv.1) (qA 2 30) (λ_ _=>rfl)) ?_;exact rn0
    intro v X4 e1 hZ _;simp only[lxE,Nat.reduceAdd];rw[show v 3=.agg vs.toArray from hZ 3 dcx];clear hZ;replace E:=E.trans e1;replace B4:=B4.ext e1;replace B5:=B5.ext e1;replace hR:=hR.ext e1;clear e1;refine stL (λK hK=>?_);refine qX (us:=vs) B5 st_HdV hokm.1 hokv.1 hokm.2.2 (λX5 B5' O=>hK _ _ ?_) (ho1:=hokv.2.1);have S':=hid (show Ext w X5/\Bk X5 w.heap.size z32'/\Bk X5 g5 (minL hl (L.take (i+1-1)) hd)/\HdR (hd ::L) g X5 from⟨O.ext E zb,O.bk B4 zb,by rw[HNX.out,if_pos hnb];exact B5',hR.only (Ob.only O) hgr⟩);clear E B4 B5 hR HNX hb hnb hd9 hokv hokm hK K O B5';refine jE ?_;exact tBst4_1
  ·have hie:i=n0:=by omega
   have hokm:=HLL.out _ hmo;have hil:¬(i:Int)<(n0:Int):=zb
   have hfin:minL hl (L.take (i-1)) hd=minL hl L hd:=by rw[List.take_of_length_le (by have:=HN.out;simp at this;omega)]
   rw[hfin]at B5 hokm;clear hfin hie hmo hR hg;go_upto_region 9 with fail;refine rgs 1 [some 32] [IsV (.agg (minL hl L hd).toArray)] [] ?_ ?_
   ·refine Rc (lvV B5 ld_HdV (qB 5) hokm.1) ?_;exact rn0
   intro v X3 e1 hZ _;replace E:=E.trans e1;replace B4:=B4.ext e1;simp only[lxE];rw[show v 0=.agg (minL hl L hd).toArray from hZ 0 dcx];clear hZ e1;refine stL (λK hK=>?_);refine qX (us:=minL hl L hd) B4 st_HdV rfl hokm.1 nwZ32 (λX4 B4' O=>hK _ _ ?_) (ho1:=hokm.2.1);replace E:=(Ob.only O).ext E (jJ _);clear hK O B4 K;refine jE ?_;go_wp2_with fail;exact jD (v:=.agg (minL hl L hd).toArray) (resC results188 rfl (lv_Hd hokm.1 B4')) rfl ⟨_,rfl,E,rfl⟩
end
section
open Go Go.RowKit
open Go.Proofs.Tryz
set_option maxRecDepth 100000
set_option maxHeartbeats 8000000
attribute [local go_sem] Oper.semAt_some
theorem resCT{P:Program}{fn:Func}{a b:Tmp}{t:TypeId}{tmps:Array Value}{w:World}{p:Addr}{v:Value}(h:fn.results= #[.cell a t,.tmp b])(ha:tmps.getD a undef=.pointer (some p))(hl:(loadVar t p).run P w=.ok v w):(results fn tmps).run P w=.ok (.tuple #[v,tmps.getD b undef]) w:=by
 have ha':tmps[a]?.getD undef=.pointer (some p):=by simpa using ha
 simp[results,h,ha',hl,asAddr]
theorem lv_EnD{w:World}{g:Nat}{vs:List Value}(hl:vs.length=31)(B:Bk w g vs):(loadVar 95 ⟨g,0,none⟩).run prog w=.ok (.agg vs.toArray) w:=lvM za za hl B
theorem fld_Hd{w:World}{hs:List Value}(_hl:hs.length=32):(Instr.field 98 (.agg hs.toArray) 0).run prog w=.ok (.agg (hs.take 31).toArray) w:=by
 have h:(hs.toArray.extract 0 31)=(hs.take 31).toArray:=by apply Array.ext';simp
 unfold Instr.field
 go_simp
 simp[asAgg,h]
section
variable {ops:Array Oper} {Q:Exit->Act->World->Prop} {ds:List (Option Tmp)} {a0:Act} {w0:World} {L:List (Value->World->Prop)} {boxes:List Nat} {i k:Nat} {o:Oper} {os:List Oper}
theorem fldHd{hs:List Value}{x:Operand}(hl:hs.length=32)(hx:Od ops ds a0 w0 L i x (IsV (.agg hs.toArray)))(ho:o.op=.field 98 x 0:=by rfl)(hi:L.getD i (λ_ _=>True)=IsV (.agg (hs.take 31).toArray):=by kernel_rfl)(hb:boxes.contains i=false:=by kernel_rfl):Ok prog ops Q ds a0 w0 L boxes i o:=
 Ok.of hb λv a w hE hd hf=>by
  have h1:a.eval x=_:=hx.out v a w hE hd hf;refine⟨.agg (hs.take 31).toArray,?_,by rw[hi];rfl⟩;unfold execOp;rw[ho];dsimp only;rw[h1];simp[fld_Hd hl]
theorem bdEn0(ho:o.op=.build 95 #[]:=by rfl)(hi:L.getD i (λ_ _=>True)=IsV (.agg z31.toArray):=by kernel_rfl)(hb:boxes.contains i=false:=by kernel_rfl):Ok prog ops Q ds a0 w0 L boxes i o:=
 Ok.of hb λv a w hE hd hf=>by
  have hr:(Instr.build 95 #[]).run prog w=.ok (.agg z31.toArray) w:=by unfold z31;go_simp
  refine⟨.agg z31.toArray,?_,by rw[hi];rfl⟩;unfold execOp;rw[ho];simp[hr]
end
theorem IrR.below{hs:List Int}{v:Value}{w w1 w':World}{B:Nat}(h:IrR hs v w)(e:Ext w w1)(hB:w.heap.size<=B)(b:Below B w1 w'):IrR hs v w':=by
 obtain⟨ao,c,h1,h2⟩:=h;exact⟨ao,c,h1,λhn=>let ⟨g,o,k1,k2⟩:=h2 hn;⟨g,o,k1,λj x hj=>(b.cell (p:=⟨g,o+j,none⟩) (Nat.lt_of_lt_of_le (World.block_lt_of_cell? w ⟨g,o+j,none⟩ (k2 j x hj)) hB)).trans (e.cell (k2 j x hj))⟩⟩
def bestL(hy:List Value->List Int):List (List Value)->Option (List Value)
 | []=>none
 |hd ::t=>some (minL (λvs=>(hy vs).length) t hd)
def bestH(hy:List Value->List Int)(gs:List Int)(L:List (List Value))(x:ByteArray):Option (List Value):=
 bestL hy ((L.filter (λvs=>decide (xZ vs=x))).filter (λvs=> !(hy vs).any (λh=> !gs.any (λy=>decide (y=h)))))
def IsBe(o:Option (List Value)):Value->World->Prop:=λx _=>∃es:List Value,x=.agg es.toArray/\es.length=31/\es.all (λu=>u.oneCell')=true/\(∀v∈es,NoWord v)/\∀vs,o=some vs->es=vs.take 31
theorem best_g{w:World}{L:List (List Value)}{v gv:Value}{x:ByteArray}{gs:List Int}{hy:List Value->List Int}(hl:L.length<=1000000)(hL:∀vs∈L,HdOk vs)(hN:∀vs∈L,vs[0]? =some (.string (xZ vs)))(hv:HdS L v w)
  (hH:∀vs∈L,∃u,vs[30]? =some u/\IrR (hy vs) u w/\(hy vs).length<=1000000) (hg:IrR gs gv w) (hgl:gs.length<=1000000):
  Calls prog 137 #[.agg #[v],.string x,gv] w (Ret w (IsT2 (IsBe (bestH hy gs L x)) (IsV (.bool (bestH hy gs L x).isSome)))):=by
 have hmf:∀(fn:Fn) (first cap:Array Value) (w:World),(Instr.makeFunc fn first cap).run prog w=.ok (.func fn first cap) w:=λ_ _ _ _=>rfl
 obtain⟨gao,gcc,hgv,-⟩:=id hg;obtain⟨gl,hgl'⟩:∃n,gs.length=n:=⟨_,rfl⟩;rw[hgl']at hgv;subst hgv
 obtain⟨W,hW,E,c3,c5,B6⟩:∃W,W=((w.alloc (.cells #[v] 39)).alloc (.cells #[.slice gao gl gcc] 41)).alloc (.cells z31.toArray 95)/\Ext w W/\World.cell? W ⟨w.heap.size,0,none⟩=some v/\World.cell? W ⟨w.heap.size+1,0,none⟩=some (.slice gao gl gcc)/\Bk W (w.heap.size+2) z31:=
  ⟨_,rfl,(((Ext.refl w).alloc _).alloc _).alloc _,((Bk.new w _ _).ext (((Ext.refl _).alloc _).alloc _)).c 0 _ rfl,((Bk.newE _ _ zd _ _).ext ((Ext.refl _).alloc _)).c 0 _ rfl,by simpa using Bk.newE ((w.alloc (.cells #[v] 39)).alloc (.cells #[.slice gao gl gcc] 41)) (w.heap.size+2) zd z31.toArray 95⟩
 have hlt:=B6.lt;obtain⟨L1,hL1⟩:∃L1,L.filter (λvs=>decide (xZ vs=x))=L1:=⟨_,rfl⟩;obtain⟨L2,hL2⟩:∃L2,L1.filter (λvs=> !(hy vs).any (λh=> !gs.any (λy=>decide (y=h))))=L2:=⟨_,rfl⟩;have hbe:bestH hy gs L x=bestL hy L2:=by rw[bestH,hL1,hL2]
 have h1m:∀vs∈L1,vs∈L:=λvs h=>by rw[<-hL1]at h;exact(List.mem_filter.1 h).1
 have h2m:∀vs∈L2,vs∈L:=λvs h=>by rw[<-hL2]at h;exact h1m vs (List.mem_filter.1 h).1
 have hl1:L1.length<=1000000:=by rw[<-hL1];exact jK (List.length_filter_le _ _) hl
 have hl2:L2.length<=1000000:=by rw[<-hL2];exact jK (List.length_filter_le _ _) hl1
 have hfind:∀w1,Ext W w1->Calls prog 182 #[.agg #[v],.string x] w1 (λe w'=>Ext w1 w'/\∃u,e=.returned u/\HdO W.heap.size L1 u w'):=λw1 e1=>by
  rw[<-hL1];exact jC (find_g hl hL hN (hv.ext (E.trans e1))) λe w' ⟨q1,u,q2,q3⟩=>⟨q1,u,q2,q3.imp id λ⟨g,c,r1,r2,r3,r4⟩=>⟨g,c,r1,r2,jK e1.size r3,r4⟩⟩
 have hdel:∀w1 u,Ext W w1->HdO W.heap.size L1 u w1->Calls prog 183 #[u,.func (.func 184) #[] #[.pointer (some ⟨w.heap.size+1,0,none⟩)]] w1 (λe w'=>Below W.heap.size w1 w'/\∃u,e=.returned u/\HdO W.heap.size L2 u w'):=λw1 u e1 hu=>by
  rw[<-hL2];refine delO_f (caps:= [.pointer (some ⟨w.heap.size+1,0,none⟩)]) (en func184) hl1 (λvs h=>hL vs (h1m vs h)) hu e1.size (λvs hvs w' hb=>?_);obtain⟨u30,r1,r2,r3⟩:=hH vs (h1m vs hvs);exact best1_g r1 (r2.below (E.trans e1) E.size hb) r3 ((hb.cell (p:=⟨w.heap.size+1,0,none⟩) (by show w.heap.size+1<W.heap.size;omega)).trans (e1.cell c5)) (hg.below (E.trans e1) E.size hb) hgl
 have HBE:=hid hbe;have H2:=hid (jI h2m hl2);have HLL:=hid (jI hL hH);clear hl hN hv hg hgl hgl' hl1 h1m hL1 hL2 hbe h2m hl2 hL hH c5;go_enter func137,ntmps137;go_upto_region 1 with fail;simp only[z31]at hW;rw[<-hW];clear hW;go_upto_region 3 with(first| (go_at_call 182;refine(hfind _ (Ext.refl _)).mono ?_;rintro e w1 ⟨e1,u1,rfl,hu1⟩)| (go_at_call 183;refine(hdel _ _ e1 hu1).mono ?_;rintro e w2 ⟨e2,u2,rfl,hu2⟩));have E2:Ext W w2:=Below.trans e1 e2;replace E:=E.trans E2;replace B6:=B6.ext E2;have h6:=B6.lt;clear hfind hdel e1 e2 hu1 c3 hmf;cases L2 with
 | nil=>
  have hlen:∃ao c,u2=.slice ao 0 c:=by
   rcases hu2 with⟨_,rfl⟩| ⟨g,c,rfl,_⟩
   ·exact⟨_,_,rfl⟩
   ·exact⟨_,_,rfl⟩
  obtain⟨ao,c,rfl⟩:=hlen;clear hu2;go_upto_region 4 with fail;refine rgs 1 [some 18] [IsV (.agg z31.toArray)] [] ?_ ?_
  ·refine Rc bdEn0 ?_;exact rn0
  intro v X3 e1 hZ _;replace E:=E.trans e1;replace B6:=B6.ext e1;simp only[lxE];rw[show v 0=.agg z31.toArray from hZ 0 dcx];clear hZ e1;refine stL (λK hK=>?_);refine qX (us:=z31) B6 st_En rfl rfl nwE (λX4 B6' O=>hK _ _ ?_);replace E:=(Ob.only O).ext E zb;clear hK O B6 K;refine stL (λK hK=>?_);refine wp_mvA (u:=.bool false) za (hK _ _ ?_);clear hK K;refine jE ?_
  try simp only[Act.put,uAx,u0x,u1x]
  go_wp2_with fail;exact jD (resCT results137 rfl (lv_EnD rfl B6')) rfl ⟨_,rfl,E,_,_,rfl,⟨z31,rfl,rfl,rfl,nwE,λvs h=>by rw[HBE.out]at h;cases h⟩,by rw[HBE.out];rfl⟩
 | cons hd t=>
  rcases hu2 with⟨h0,_⟩| ⟨g,c,rfl,hc1,hc2,hB⟩
  ·cases h0
  obtain⟨n0,hn0⟩:∃n0,(hd ::t).length=n0:=⟨_,rfl⟩;have hn1:¬n0=0:=by simp at hn0;omega
  have hn2:¬(n0:Int)=0:=zb
  have HM:=hid (show minL (λvs=>(hy vs).length) t hd∈hd ::t from(minL_mem _ t hd).elim (λh=>by rw[h];exact List.mem_cons_self) (λh=>List.mem_cons_of_mem _ h))
  have hmin:=λw' (e:Ext w2 w')=>minH_g (w:=w') (L:=t) (hd:=hd) (hl:=λvs=>(hy vs).length) (g:=g) (c:=c) hn0 (by rw[<-hn0];exact H2.out.2) (λvs h=>HLL.out.1 vs (H2.out.1 vs h)) (λvs h=>by
   obtain⟨u,r1,⟨ao,c',r2,_⟩,r3⟩:=HLL.out.2 vs (H2.out.1 vs h)
   exact⟨r3,ao,c',by rw[r1,r2]⟩) (hB.1.ext e)
  obtain⟨mm,hmm⟩:∃m,minL (λvs=>(hy vs).length) t hd=m:=⟨_,rfl⟩;rw[hmm]at HM hmin;have hmok:=HLL.out.1 mm (H2.out.1 mm HM.out);have HMM:=hid hmm;clear hmm hc1 hc2;rw[hn0];go_upto_region 5 with fail;clear hn1 hn2;refine rgs 3 (dR 19 3) [IsV (.slice (some ⟨g,0,none⟩) n0 c),IsV (.agg mm.toArray),IsV (.agg (mm.take 31).toArray)] [] ?_ ?_
  ·refine Rc (mv (qB 8)) ?_
   refine Rc (cl (fQ:=IsV (.agg mm.toArray)) (en func188) rfl rfl za za λv a w2 hE hd' hf=>by
    have e0:a.eval (.tmp 19)=.slice (some ⟨g,0,none⟩) n0 c:=(qA 0 19:Od _ _ _ _ _ _ _ (IsV (.slice (some ⟨g,0,none⟩) n0 c))).out v a w2 hE hd' hf;simp only[List.map_toArray,List.map_cons,List.map_nil];rw[e0]
    exact hmin w2 hE) ?_
   refine Rc (fldHd hmok.1 (qA 1 20)) ?_;exact rn0
  intro v X3 e1 hZ _;replace E:=E.trans e1;replace B6:=B6.ext e1;simp only[lxE,Nat.reduceAdd];rw[show v 2=.agg (mm.take 31).toArray from hZ 2 dcx];clear hZ e1 hmin hB;have hl':(mm.take 31).length=31:=by simp[hmok.1]
  have h1':(mm.take 31).all (λu=>u.oneCell')=true:=List.all_eq_true.2 λu hu=>List.all_eq_true.1 hmok.2.1 u (List.mem_of_mem_take hu)
  have hn':∀u∈mm.take 31,NoWord u:=λu hu=>hmok.2.2 u (List.mem_of_mem_take hu)
  refine stL (λK hK=>?_);refine qX (us:=mm.take 31) B6 st_En rfl hl' nwE (λX4 B6' O=>hK _ _ ?_) (ho1:=h1');replace E:=(Ob.only O).ext E zb;clear hK O B6 K;refine stL (λK hK=>?_);refine wp_mvA (u:=.bool true) za (hK _ _ ?_);clear hK K;refine jE ?_
  try simp only[Act.put,uAx,u0x,u1x]
  go_wp2_with fail;exact jD (resCT results137 rfl (lv_EnD hl' B6')) rfl ⟨_,rfl,E,_,_,rfl,⟨mm.take 31,rfl,hl',h1',hn',λvs h=>by rw[HBE.out,bestL,HMM.out]at h;cases h;rfl⟩,by rw[HBE.out];rfl⟩
open Go Go.RowKit Go.Maps Go.Sort
attribute [local go_sem] Oper.semAt_some
def CsR(H:Nat)(cs:List qL)(v:Value)(w:World):Prop:=∃ao c,v=.slice ao cs.length c/\(cs≠ []->∃g,ao=some ⟨g,0,none⟩/\g<H/\∀(j:Nat) (d:qL),cs[j]? =some d->∃vs:List Value,vs.length=9/\vs[0]? =some (.string d.name)/\∀q u,vs[q]? =some u->World.cell? w ⟨g,9*j+q,none⟩=some u)
def VcR(H:Nat)(d:qL)(vs:List Value)(w:World):Prop:=vs.length=11/\vs.all (λu=>u.oneCell')=true/\(∃s a n c,vs[0]? =some (.bool s)/\vs[1]? =some (.slice a n c)/\IsI 128 d.lo (.agg #[.bool s,.slice a n c]) w)/\(∃s a n c,vs[4]? =some (.bool s)/\vs[5]? =some (.slice a n c)/\IsI 128 d.hi (.agg #[.bool s,.slice a n c]) w)/\
 vs[8]? =some (.bool d.fin)/\vs[10]? =some (.int .i64 d.err)/\∃hv,vs[9]? =some hv/\∀h,H<=h->HyR h d.hyps hv w
def VsR(H:Nat)(cs:List qL)(v:Value)(w:World):Prop:=∃ao c,v=.slice ao cs.length c/\(cs≠ []->∃g,ao=some ⟨g,0,none⟩/\g<H/\∀(j:Nat) (d:qL),cs[j]? =some d->∃vs:List Value,VcR H d vs w/\∀q u,vs[q]? =some u->World.cell? w ⟨g,11*j+q,none⟩=some u)
theorem HyR.rmB{H h:Nat}{hs:List Int}{v:Value}{w w':World}(hv:∀h,H<=h->HyR h hs v w)(r:Rm h w w')(hh:H<=h):∀h,H<=h->HyR h hs v w':=λh' hh'=>by
 obtain⟨ao,c,h1,h2⟩:=hv h hh;obtain⟨ao',c',h1',h2'⟩:=hv h' hh';rw[h1]at h1';injection h1' with e1 e2 e3;refine⟨ao,c,h1,λhn=>?_⟩;obtain⟨g,o,k1,k2,k3⟩:=h2 hn;obtain⟨g',o',k1',k2',k3'⟩:=h2' hn;rw[<-e1,k1]at k1';injection k1' with k1';injection k1' with q1 q2;exact⟨g,o,k1,by rw[q1];exact k2',λj x hj=>r.cell (k3 j x hj) k2⟩
theorem CsR.rm{H h:Nat}{cs:List qL}{v:Value}{w w':World}(x:CsR H cs v w)(r:Rm h w w')(hh:H<=h):CsR H cs v w':=by
 obtain⟨ao,c,h1,h2⟩:=x;exact⟨ao,c,h1,λhn=>let ⟨g,k1,k2,k3⟩:=h2 hn;⟨g,k1,k2,λj d hj=>let ⟨vs,q1,q2,q3⟩:=k3 j d hj;⟨vs,q1,q2,λq u hq=>r.cell (q3 q u hq) (.inl (Nat.lt_of_lt_of_le k2 hh))⟩⟩⟩
theorem VsR.rm{H h:Nat}{cs:List qL}{v:Value}{w w':World}(x:VsR H cs v w)(r:Rm h w w')(hh:H<=h):VsR H cs v w':=by
 obtain⟨ao,c,h1,h2⟩:=x;refine⟨ao,c,h1,λhn=>?_⟩;obtain⟨g,k1,k2,k3⟩:=h2 hn;refine⟨g,k1,k2,λj d hj=>?_⟩;obtain⟨vs,⟨q1,q1',⟨s,a,n,c1,a1,a2,a3⟩,⟨s',a',n',c1',b1,b2,b3⟩,q4,q5,hv,q6,q7⟩,q8⟩:=k3 j d hj;exact⟨vs,⟨q1,q1',⟨s,a,n,c1,a1,a2,IsI.gstb _ _ _ _ _ r.gr a3⟩,⟨s',a',n',c1',b1,b2,IsI.gstb _ _ _ _ _ r.gr b3⟩,q4,q5,hv,q6,HyR.rmB q7 r hh⟩,λq u hq=>r.cell (q8 q u hq) (.inl (Nat.lt_of_lt_of_le k2 hh))⟩
theorem cell1_f{w:World}{vs:List Value}{x y:ByteArray}{b:Nat}(_hl:vs.length=9)(h0:vs[0]? =some (.string y))(cb:World.cell? w ⟨b,0,none⟩=some (.string x)):Calls prog 133 #[.agg vs.toArray,.pointer (some ⟨b,0,none⟩)] w (Ret w (IsV (.bool (decide (y=x))))):=by
 obtain⟨W,hW,E,c0⟩:∃W,W=w.alloc (.cells vs.toArray 127)/\Ext w W/\World.cell? W ⟨w.heap.size,0,none⟩=some (.string y):=⟨_,rfl,(Ext.refl w).alloc _,(Bk.new w vs.toArray _).c 0 _ h0⟩;replace cb:=E.cell cb;have hb:=ba_listE y x;go_enter func133,ntmps133;go_upto_region 1 with fail;rw[<-hW];clear hW;go_wp2_with fail
 go_ret
 exact⟨_,rfl,E,rfl⟩
theorem ix_Ce(g c n j:Nat)(h:j<n)(w:World):(Instr.indexAt 33 (.slice (some ⟨g,0,none⟩) n c) (.int .i64 (j:Int))).run prog w=.ok (.pointer (some ⟨g,9*j,none⟩)) w:=by
 have h1:(0:Int)<=(j:Int):=zb
 have h2:(j:Int)<(n:Int):=zb
 have h3:0+j*9=9*j:=zb
 have h4:j*9=9*j:=zb
 go_simp
theorem ld_CeO{w:World}{g f:Nat}{vs:List Value}(hl:vs.length=9)(hc:∀q u,vs[q]? =some u->World.cell? w ⟨g,f+q,none⟩=some u):(Instr.loadAt 127 (.pointer (some ⟨g,f,none⟩))).run prog w=.ok (.agg vs.toArray) w:=ldM za za hl hc
def idxC(cs:List qL)(x:ByteArray):Int:=match cs.findIdx? (λc=>c.name==x)with
 |none=> -1
 |some i=>(i:Nat)
theorem idxC_hit{cs:List qL}{x:ByteArray}{i:Nat}{d:qL}(h:cs[i]? =some d)(hx:d.name=x)(hn:∀(j:Nat) (e:qL),j<i->cs[j]? =some e->e.name≠x):idxC cs x=(i:Nat)/\cs.find? (λc=>c.name==x)=some d:=by
 have hl:=(List.getElem?_eq_some_iff.1 h).1
 have h1:cs.findIdx? (λc=>c.name==x)=some i:=by
  rw[List.findIdx?_eq_some_iff_getElem];refine⟨hl,by rw[ba_beq];simp[(List.getElem?_eq_some_iff.1 h).2,hx],λj hj=>?_⟩;rw[ba_beq];have:=hn j _ hj (List.getElem?_eq_getElem zb)
  simpa using this
 refine⟨by rw[idxC,h1],?_⟩;rw[List.find?_eq_some_iff_getElem]
 exact⟨by rw[ba_beq];simp[hx],i,hl,(List.getElem?_eq_some_iff.1 h).2,λj hj=>by
  rw[ba_beq];have:=hn j _ hj (List.getElem?_eq_getElem zb)
  simpa using this⟩
theorem idxC_miss{cs:List qL}{x:ByteArray}(hn:∀(j:Nat) (e:qL),cs[j]? =some e->e.name≠x):idxC cs x= -1/\cs.find? (λc=>c.name==x)=none:=by
 have h0:∀c∈cs,(c.name==x)=false:=λc hc=>by
  obtain⟨j,hj,he⟩:=List.getElem_of_mem hc;rw[ba_beq]
  simpa using hn j c zan
 have h1:cs.findIdx? (λc=>c.name==x)=none:=List.findIdx?_eq_none_iff.2 h0;exact⟨by rw[idxC,h1],List.find?_eq_none.2 λc hc=>by rw[h0 c hc];simp⟩
theorem idxC_f{w:World}{H:Nat}{cs:List qL}{v:Value}{x:ByteArray}{b:Nat}(_hH:H<=w.heap.size)(hv:CsR H cs v w)(cb:World.cell? w ⟨b,0,none⟩=some (.string x))(hl:cs.length<=1000000):
  Calls prog 132 #[v,.func (.func 133) #[] #[.pointer (some ⟨b,0,none⟩)]] w (Ret w (iV (idxC cs x))):=by
 obtain⟨ao,c,rfl,hcs⟩:=hv;obtain⟨n0,hn0⟩:∃n0,cs.length=n0:=⟨_,rfl⟩;have HN:=hid hn0;have HL:=hid hl;rw[hn0];have HCS:=hid hcs;have HCB:=hid cb;clear hcs hn0 hl cb;go_enter func132,ntmps132
 go_wp2
 go_loopg [8] n0 (λgk v8 wr=>∃(i:Nat),v8=.int .i64 (i:Int)/\i+gk=n0/\Hid (Ext w wr/\∀(j:Nat) (e:qL),j<i->cs[j]? =some e->e.name≠x))
 case atStart=>exact⟨0,rfl,by omega,hid ⟨Ext.refl _,λj e hj=>absurd hj (Nat.not_lt_zero _)⟩⟩
 case round=>
  obtain⟨i,rfl,hg,S⟩:=hrel;by_cases hi:i<n0
  ·obtain⟨d,hd⟩:∃d,cs[i]? =some d:=zo;obtain⟨g,rfl,hgb,hc⟩:=HCS.out xc;obtain⟨vs,hvl,hv0,hvc⟩:=hc i d hd;have HI:=hid (show i+1+(gk-1)=n0 by omega);have HD:=hid hd;have hil:(i:Int)<(n0:Int):=by omega
   have HIW:=hid (show IntKind.i64.wrap ((i:Int)+1)=((i+1:Nat):Int)by have:=HL.out;have:=HN.out;simp only[IntKind.wrap_i64];omega);have HG:=hid hg;have HI2:=hid hi;clear hc hd hg hi;have E:=S.out.1;go_upto_region 4 with fail;clear hil;refine rgs 6 (dR 11 6) [IsV (.func (.func 133) #[] #[.pointer (some ⟨b,0,none⟩)]),IsV (.slice (some ⟨g,0,none⟩) n0 c),iV (i:Int),IsP g (9*i),IsV (.agg vs.toArray),IsV (.bool (decide (d.name=x)))] [] ?_ ?_
   ·refine Rc yo ?_;refine Rc zt ?_;refine Rc zv ?_;refine Rc (ixq (ix_Ce g c n0 i HI2.out) (qA 1 12) (qA 2 13)) ?_;refine Rc (lv (fP:=IsV (.agg vs.toArray)) _ (λw' e=>ld_CeO hvl (λq u hq=>e.cell (E.cell (hvc q u hq)))) (qA 3 14) (λ_ _=>rfl)) ?_;refine Rc (cv1 (caps:= [.pointer (some ⟨b,0,none⟩)]) (en func133) (qA 0 11) (qA (fP:=IsV (.agg vs.toArray)) 4 15) (λx0 w' hE d0=>by{obtain rfl:x0=_:=d0;exact cell1_f hvl hv0 (hE.cell (E.cell HCB.out))})) ?_;exact rn0
   intro v X1 e1 hZ _;simp only[lxE,Nat.reduceAdd];rw[show v 5=.bool (decide (d.name=x))from hZ 5 dcx];clear hZ;refine jE ?_;by_cases hx:d.name=x
   ·have HR:=idxC_hit HD.out hx S.out.2;rw[show decide (d.name=x)=true from by simpa using hx];clear S;go_wp2_with fail
    go_ret
    exact⟨_,rfl,E.trans e1,by first|rfl| (rw[HR.1];rfl)⟩
   ·rw[show decide (d.name=x)=false from by simpa using hx]
    have S':=hid (show Ext w X1/\∀(j:Nat) (e:qL),j<i+1->cs[j]? =some e->e.name≠x from⟨E.trans e1,λj e hj he=>by
     rcases Nat.lt_succ_iff_lt_or_eq.1 hj with h|h
     ·exact S.out.2 j e h he
     ·subst h;rw[HD.out]at he;cases he;exact hx⟩)
    clear S E e1 hx;have hx9:=HIW.out;go_wp2_with fail
    go_roundg (gk-1)
    case measure=>have:=HI.out;have:=HI2.out;have:=HG.out;omega
    case rel=>exact⟨i+1,rfl,HI.out,S'⟩
  ·have hil:¬(i:Int)<(n0:Int):=by omega
   have hie:i=n0:=zb
   have HR:=idxC_miss (cs:=cs) (x:=x) (λj e he=>S.out.2 j e yn he);have E:=S.out.1;clear S hg hie;go_wp2_with fail
   go_ret
   exact⟨_,rfl,E,by first|rfl| (rw[HR.1];rfl)⟩
end
end Go.Proofs.YtkeikfekkdplgaaGreatDoor
