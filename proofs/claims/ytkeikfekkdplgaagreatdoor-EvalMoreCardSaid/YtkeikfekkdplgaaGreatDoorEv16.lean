/- Lemmas. -/
import Derived.Test.YtkeikfekkdplgaaGreatDoorEv10
import Derived.Maps.RangeWalk
import Derived.Maps.OwnSet
import Derived.Test.YtkeikfekkdplgaaGreatDoorEv6
import Derived.RangeFuncMany
import Derived.RangeFuncWrites
import Derived.Below
import Derived.RangeFuncLeaves
import Derived.Shelf.Abstract
import Derived.WalkKit
import Derived.OwnWalkIn
import Derived.TacticsInMore
import Derived.LoopNIn
import Derived.LoopIn
import Derived.RangeFuncBox
import Derived.Test.YtkeikfekkdplgaaGreatDoorBase
import Derived.Test.YtkeikfekkdplgaaGreatDoorReadB
import Derived.OrdersIn
import Derived.Deep.MidRow
import Derived.Sort.OwnSortedInts
import Derived.Sort.KeysCollected
import Derived.Lib.SlKeysI
section
namespace Go.Proofs.YtkeikfekkdplgaaGreatDoor
open Go Go.RowKit
open Go.Proofs.Tryz
theorem zbp{P:Prop}(h:P:=by exact⟨_,rfl,((Ext.refl w).alloc _).alloc _,(Bk.new w _ _).ext ((Ext.refl _).alloc _),Bk.newE _ _ zd _ _⟩):P:=h
theorem zh{P:Prop}(h:P:=by exact⟨_,rfl,(Ext.refl w).alloc _,Bk.new w _ _⟩):P:=h
theorem zq{P:Prop}(h:P:=by simp[results,go_sem]):P:=h
theorem ja{P:Prop}(h:P:=by simp[results,results115,go_sem]):P:=h
theorem jb{P:Prop}(h:P:=by simp[results,results117,go_sem]):P:=h
theorem xg{P:Prop}(h:P:=by simp[results,results152,go_sem]):P:=h
theorem xh{P:Prop}(h:P:=by simp[results,results163,go_sem]):P:=h
theorem xj{P:Prop}(h:P:=by simp[results,results85,go_sem]):P:=h
theorem xk{P:Prop}(h:P:=by simp[results,results86,go_sem]):P:=h
theorem zal{P:Prop}(h:P:=by simp only[List.map_toArray,List.map_cons,List.map_nil];rw[e1];exact hr):P:=h
set_option maxRecDepth 100000
set_option maxHeartbeats 8000000
theorem ins_int(ao:Option Addr)(n c:Nat)(w:World)(hn:n<=1):Calls prog 152 #[.slice ao n c,.int .i64 0,.int .i64 (n:Int)] w (λe w'=>e=.returned (.tuple #[])/\Ext w w'):=by
 obtain rfl|rfl:n=0\/n=1:=zb
 ·go_enter func152,ntmps152
  go_wp2
  refine wp_loop_rounds 1 ?_;rw[rounds_succ];go_wp2_with fail
  first|exact jD (v:=.tuple #[]) zq rfl ⟨rfl,Ext.refl _⟩|exact jD (v:=.tuple #[]) zq rfl ⟨rfl,e1⟩|exact bodyPost_end (v:=.tuple #[]) xg rfl ⟨rfl,Ext.refl _⟩|exact bodyPost_end (v:=.tuple #[]) xg rfl ⟨rfl,e1⟩|trace_state
 ·go_enter func152,ntmps152
  go_wp2
  refine wp_loop_rounds 1 ?_;rw[rounds_succ];go_wp2_with fail
  first|exact jD (v:=.tuple #[]) zq rfl ⟨rfl,Ext.refl _⟩|exact jD (v:=.tuple #[]) zq rfl ⟨rfl,e1⟩|exact bodyPost_end (v:=.tuple #[]) xg rfl ⟨rfl,Ext.refl _⟩|exact bodyPost_end (v:=.tuple #[]) xg rfl ⟨rfl,e1⟩|trace_state
theorem pdq_int(ao:Option Addr)(n c:Nat)(w:World)(hn:n<=1)(l:Int):Calls prog 115 #[.slice ao n c,.int .i64 0,.int .i64 (n:Int),.int .i64 l] w (λe w'=>e=.returned (.tuple #[])/\Ext w w'):=by
 obtain rfl|rfl:n=0\/n=1:=zb
 ·go_enter func115,ntmps115
  go_wp2
  refine wp_loop_rounds 1 ?_;rw[rounds_succ];go_wp2_with (go_at_call 152;refine(ins_int ao 0 c _ dcx).mono ?_;rintro e w1 ⟨rfl,e1⟩)
  first|exact jD (v:=.tuple #[]) ja rfl ⟨rfl,Ext.refl _⟩|exact jD (v:=.tuple #[]) ja rfl ⟨rfl,e1⟩|exact bodyPost_end (v:=.tuple #[]) ja rfl ⟨rfl,Ext.refl _⟩|exact bodyPost_end (v:=.tuple #[]) ja rfl ⟨rfl,e1⟩|trace_state
 ·go_enter func115,ntmps115
  go_wp2
  refine wp_loop_rounds 1 ?_;rw[rounds_succ];go_wp2_with (go_at_call 152;refine(ins_int ao 1 c _ dcx).mono ?_;rintro e w1 ⟨rfl,e1⟩)
  first|exact jD (v:=.tuple #[]) ja rfl ⟨rfl,Ext.refl _⟩|exact jD (v:=.tuple #[]) ja rfl ⟨rfl,e1⟩|exact bodyPost_end (v:=.tuple #[]) ja rfl ⟨rfl,Ext.refl _⟩|exact bodyPost_end (v:=.tuple #[]) ja rfl ⟨rfl,e1⟩|trace_state
theorem sort_int(ao:Option Addr)(n c:Nat)(w:World)(hn:n<=1):Calls prog 85 #[.slice ao n c] w (λe w'=>e=.returned (.tuple #[])/\Ext w w'):=by
 obtain rfl|rfl:n=0\/n=1:=zb
 ·go_enter func85,ntmps85;go_wp2_with (first| (go_at_call 116;refine(Tryz.bits_Len _ _ zb zb).mono ?_;rintro e w1 ⟨rfl,rfl⟩)| (go_at_call 115;refine(pdq_int ao 0 c _ dcx _).mono ?_;rintro e w1 ⟨rfl,e1⟩))
  first|exact jD (v:=.tuple #[]) zq rfl ⟨rfl,Ext.refl _⟩|exact jD (v:=.tuple #[]) zq rfl ⟨rfl,e1⟩|exact bodyPost_end (v:=.tuple #[]) xj rfl ⟨rfl,Ext.refl _⟩|exact bodyPost_end (v:=.tuple #[]) xj rfl ⟨rfl,e1⟩|trace_state
 ·go_enter func85,ntmps85;go_wp2_with (first| (go_at_call 116;refine(Tryz.bits_Len _ _ zb zb).mono ?_;rintro e w1 ⟨rfl,rfl⟩)| (go_at_call 115;refine(pdq_int ao 1 c _ dcx _).mono ?_;rintro e w1 ⟨rfl,e1⟩))
  first|exact jD (v:=.tuple #[]) zq rfl ⟨rfl,Ext.refl _⟩|exact jD (v:=.tuple #[]) zq rfl ⟨rfl,e1⟩|exact bodyPost_end (v:=.tuple #[]) xj rfl ⟨rfl,Ext.refl _⟩|exact bodyPost_end (v:=.tuple #[]) xj rfl ⟨rfl,e1⟩|trace_state
theorem ins_string(ao:Option Addr)(n c:Nat)(w:World)(hn:n<=1):Calls prog 163 #[.slice ao n c,.int .i64 0,.int .i64 (n:Int)] w (λe w'=>e=.returned (.tuple #[])/\Ext w w'):=by
 obtain rfl|rfl:n=0\/n=1:=zb
 ·go_enter func163,ntmps163
  go_wp2
  refine wp_loop_rounds 1 ?_;rw[rounds_succ];go_wp2_with fail
  first|exact jD (v:=.tuple #[]) zq rfl ⟨rfl,Ext.refl _⟩|exact jD (v:=.tuple #[]) zq rfl ⟨rfl,e1⟩|exact bodyPost_end (v:=.tuple #[]) xh rfl ⟨rfl,Ext.refl _⟩|exact bodyPost_end (v:=.tuple #[]) xh rfl ⟨rfl,e1⟩|trace_state
 ·go_enter func163,ntmps163
  go_wp2
  refine wp_loop_rounds 1 ?_;rw[rounds_succ];go_wp2_with fail
  first|exact jD (v:=.tuple #[]) zq rfl ⟨rfl,Ext.refl _⟩|exact jD (v:=.tuple #[]) zq rfl ⟨rfl,e1⟩|exact bodyPost_end (v:=.tuple #[]) xh rfl ⟨rfl,Ext.refl _⟩|exact bodyPost_end (v:=.tuple #[]) xh rfl ⟨rfl,e1⟩|trace_state
theorem pdq_string(ao:Option Addr)(n c:Nat)(w:World)(hn:n<=1)(l:Int):Calls prog 117 #[.slice ao n c,.int .i64 0,.int .i64 (n:Int),.int .i64 l] w (λe w'=>e=.returned (.tuple #[])/\Ext w w'):=by
 obtain rfl|rfl:n=0\/n=1:=zb
 ·go_enter func117,ntmps117
  go_wp2
  refine wp_loop_rounds 1 ?_;rw[rounds_succ];go_wp2_with (go_at_call 163;refine(ins_string ao 0 c _ dcx).mono ?_;rintro e w1 ⟨rfl,e1⟩)
  first|exact jD (v:=.tuple #[]) jb rfl ⟨rfl,Ext.refl _⟩|exact jD (v:=.tuple #[]) jb rfl ⟨rfl,e1⟩|exact bodyPost_end (v:=.tuple #[]) jb rfl ⟨rfl,Ext.refl _⟩|exact bodyPost_end (v:=.tuple #[]) jb rfl ⟨rfl,e1⟩|trace_state
 ·go_enter func117,ntmps117
  go_wp2
  refine wp_loop_rounds 1 ?_;rw[rounds_succ];go_wp2_with (go_at_call 163;refine(ins_string ao 1 c _ dcx).mono ?_;rintro e w1 ⟨rfl,e1⟩)
  first|exact jD (v:=.tuple #[]) jb rfl ⟨rfl,Ext.refl _⟩|exact jD (v:=.tuple #[]) jb rfl ⟨rfl,e1⟩|exact bodyPost_end (v:=.tuple #[]) jb rfl ⟨rfl,Ext.refl _⟩|exact bodyPost_end (v:=.tuple #[]) jb rfl ⟨rfl,e1⟩|trace_state
theorem sort_string(ao:Option Addr)(n c:Nat)(w:World)(hn:n<=1):Calls prog 86 #[.slice ao n c] w (λe w'=>e=.returned (.tuple #[])/\Ext w w'):=by
 obtain rfl|rfl:n=0\/n=1:=zb
 ·go_enter func86,ntmps86;go_wp2_with (first| (go_at_call 116;refine(Tryz.bits_Len _ _ zb zb).mono ?_;rintro e w1 ⟨rfl,rfl⟩)| (go_at_call 117;refine(pdq_string ao 0 c _ dcx _).mono ?_;rintro e w1 ⟨rfl,e1⟩))
  first|exact jD (v:=.tuple #[]) zq rfl ⟨rfl,Ext.refl _⟩|exact jD (v:=.tuple #[]) zq rfl ⟨rfl,e1⟩|exact bodyPost_end (v:=.tuple #[]) xk rfl ⟨rfl,Ext.refl _⟩|exact bodyPost_end (v:=.tuple #[]) xk rfl ⟨rfl,e1⟩|trace_state
 ·go_enter func86,ntmps86;go_wp2_with (first| (go_at_call 116;refine(Tryz.bits_Len _ _ zb zb).mono ?_;rintro e w1 ⟨rfl,rfl⟩)| (go_at_call 117;refine(pdq_string ao 1 c _ dcx _).mono ?_;rintro e w1 ⟨rfl,e1⟩))
  first|exact jD (v:=.tuple #[]) zq rfl ⟨rfl,Ext.refl _⟩|exact jD (v:=.tuple #[]) zq rfl ⟨rfl,e1⟩|exact bodyPost_end (v:=.tuple #[]) xk rfl ⟨rfl,Ext.refl _⟩|exact bodyPost_end (v:=.tuple #[]) xk rfl ⟨rfl,e1⟩|trace_state
open Go Go.RowKit Go.Maps
abbrev DU:=DataW Unit
theorem ty_int:prog.underlying 3=some (.int .i64):=by kernel_rfl
theorem ty_str:prog.underlying 9=some .string:=by kernel_rfl
theorem ty_bool:prog.underlying 4=some .bool:=by kernel_rfl
theorem ty_mi:prog.underlying 152=some (.map 3 4):=by kernel_rfl
theorem ty_ms:prog.underlying 151=some (.map 9 4):=by kernel_rfl
theorem ty_ai:prog.underlying 41=some (.slice 3):=by kernel_rfl
theorem ty_as:prog.underlying 51=some (.slice 9):=by kernel_rfl
theorem lawI:Keyed prog 3:=int_keyed ty_int
theorem lawS:Keyed prog 9:=string_keyed ty_str
theorem boolV{v:Value}{z:DU×List MemPlace}(h:plainElem prog 4 v=some z):∃q:Nat,v=.bool (Nat.beq q 0):=by
 unfold plainElem at h;rw[ty_bool]at h;cases v <;> simp at h
 rename_i c
 cases c
 ·exact⟨1,rfl⟩
 ·exact⟨0,rfl⟩
structure RS (g:Nat) (z u:List Value) (w w':World):Prop where
 ob:Ob g w w'
 k:Bk w g z\/Bk w g u->Bk w' g z\/Bk w' g u
 s:Bk w g u->Bk w' g u
theorem RS.trans{g:Nat}{z u:List Value}{a b c:World}(x:RS g z u a b)(y:RS g z u b c):RS g z u a c:=⟨x.ob.trans y.ob,λh=>y.k (x.k h),λh=>y.s (x.s h)⟩
theorem RS.of{g:Nat}{z u:List Value}{a b:World}(e:Ext a b):RS g z u a b:=⟨Ob.of e,λh=>h.imp (λx=>x.ext e) (λx=>x.ext e),λh=>h.ext e⟩
section
variable {P:Program} {ops:Array Oper} {Q:Exit->Act->World->Prop} {ds:List (Option Tmp)} {a0:Act} {w0:World} {L:List (Value->World->Prop)} {boxes:List Nat} {i k:Nat} {o:Oper} {os:List Oper}
theorem RxS{g q:Nat}{z u:List Value}{os:List Oper}(h:∀w,RS g z u w0 w->Ok P ops Q ds a0 w L [] i o)(hs:RgAllx P ops Q (RS g z u) ds a0 w0 L (i+1) q os)(hg:o.guard=none:=by rfl):RgAllx P ops Q (RS g z u) ds a0 w0 L i (q+1) (o ::os):=
 RgAllx.cons (RgLx.ofOk RS.of h hg) hs
theorem stS{g q T m:Nat}{z u:List Value}{x y:Operand}{os:List Oper}(hk:Bk w0 g z\/Bk w0 g u)(hT:StV P T m)(hz:z.length=m)(hu:u.length=m)(nz:∀v∈z,NoWord v)(nu:∀v∈u,NoWord v)(hone:u.all (λu=>u.oneCell')=true)(hx:∀w,Od ops ds a0 w L i x (IsP g 0))(hy:∀w,Od ops ds a0 w L i y (IsV (.agg u.toArray)))
  (hs:RgAllx P ops Q (RS g z u) ds a0 w0 L (i+1) q os) (ho:o.op=.store T x y:=by rfl) (hL:L.getD i (λ_ _=>True)=(λ_ w=>Bk w g u):=by kernel_rfl) (hg:o.guard=none:=by rfl):RgAllx P ops Q (RS g z u) ds a0 w0 L i (q+1) (o ::os):=by
 refine RgAllx.cons (RgLx.mk hg λv a w hR hdd hf K hK=>?_) hs;have h1:a.eval x=_:=(hx w).out v a w (Ext.refl w) hdd hf;have h2:a.eval y=_:=(hy w).out v a w (Ext.refl w) hdd hf
 have key:(Instr.storeAt T (.pointer (some ⟨g,0,none⟩)) (.agg u.toArray)).run P w=.ok () (xD w g 0 u)/\OnlyB g w (xD w g 0 u)/\Bk (xD w g 0 u) g u:=by
  rcases hR.k hk with B|B
  ·exact⟨hT w g z u hz hu hone B,B.putO zb nz⟩
  ·exact⟨hT w g u u hu hu hone B,B.putO rfl nu⟩
 obtain⟨hr,O,B⟩:=key;refine st_wp ho h1 h2 hr ?_;exact hK.out undef _ ⟨Ob.only O,λ_=> .inr B,λ_=>B⟩ (by rw[hL];exact B)
end
theorem tEv16_1{P:Prop}(h:P:=by
  intro v hv;simp only[u1x,u0x,List.mem_cons,List.not_mem_nil,or_false]at hv;rcases hv with rfl|rfl|rfl|rfl|rfl|rfl|rfl|rfl|rfl|rfl|rfl
  all_goals first|exact h1|exact NoWord.bool _|exact NoWord.slice _ _ _|exact NoWord.int64 _
  ):P:=h
theorem IsVl.cells{r:Res Kn}{x:Value}{w:World}(h:IsVl r (.slice none 0 0) x w):∃ul:List Value,x=.agg ul.toArray/\ul.length=11/\(∀v∈ul,NoWord v)/\ul.all (λu=>u.oneCell')=true/\(∃y,ul[9]? =some y/\NoWord y)/\
  (∀hy,NoWord hy->hy.oneCell'=true->(∀v∈ul.set 9 hy,NoWord v)/\(ul.set 9 hy).all (λu=>u.oneCell')=true/\∀w',Gr w w'->IsVl r hy (.agg (ul.set 9 hy).toArray) w'):=by
 cases r with
 | error n=>
  refine⟨_,h,rfl,nwVl,rfl,⟨_,rfl,NoWord.slice _ _ _⟩,λhy h1 h2=>⟨?_,by{simp only[u1x,u0x,List.all_cons,h2];rfl},λw' e=>rfl⟩⟩;exact tEv16_1
 | ok q=>
  obtain⟨s1,a1,n1,c1,s2,a2,n2,c2,s3,a3,n3,c3,s4,a4,n4,c4,h,g1,g2⟩:=h;refine⟨_,h,rfl,nwVl,rfl,⟨_,rfl,NoWord.slice _ _ _⟩,λhy h1 h2=>⟨?_,by{simp only[u1x,u0x,List.all_cons,h2];rfl},λw' e=>⟨_,_,_,_,_,_,_,_,_,_,_,_,_,_,_,_,rfl,IsRat.gstb _ _ _ _ _ e g1,IsRat.gstb _ _ _ _ _ e g2⟩⟩⟩;exact tEv16_1
theorem len11{us:List Value}(hl:us.length=11):∃u0 u1 u2 u3 u4 u5 u6 u7 u8 u9 u10,us= [u0,u1,u2,u3,u4,u5,u6,u7,u8,u9,u10]:=by
 match us,hl with
 | [u0,u1,u2,u3,u4,u5,u6,u7,u8,u9,u10],_=>exact⟨_,_,_,_,_,_,_,_,_,_,_,rfl⟩
theorem Rm.extAll{h:Nat}{b w w':World}(R:Rm h w w')(e:Ext b w)(hb:b.heap.size<=h):Ext b w':=
 ⟨R.os.trans e.os,R.tape.trans e.tape,R.output.trans e.output,jK e.size R.size,λk hk=>(R.block k (Nat.lt_of_lt_of_le hk e.size) (.inl zb)).trans (e.block k hk)⟩
theorem al_Vl(w:World):(Instr.alloc 50 true (.tuple #[])).run prog w=.ok (.pointer (some ⟨w.heap.size,0,none⟩)) (w.alloc (.cells zVl.toArray 50)):=by unfold zVl;go_simp
theorem fa_Mc5(g:Nat)(w:World):(Instr.fieldAt 154 (.pointer (some ⟨g,0,none⟩)) 5).run prog w=.ok (.pointer (some ⟨g,5,none⟩)) w:=by go_simp
theorem fa_Mc6(g:Nat)(w:World):(Instr.fieldAt 154 (.pointer (some ⟨g,0,none⟩)) 6).run prog w=.ok (.pointer (some ⟨g,6,none⟩)) w:=by go_simp
theorem fa_Vl2(g:Nat)(w:World):(Instr.fieldAt 50 (.pointer (some ⟨g,0,none⟩)) 2).run prog w=.ok (.pointer (some ⟨g,9,none⟩)) w:=by go_simp
theorem ld_mi:LdC1 prog 152:=λw a v h=>by go_simp
theorem ld_ms:LdC1 prog 151:=λw a v h=>by go_simp
theorem st_ai(a:Option Addr)(n c:Nat):StC1 prog 41 (.slice a n c):=λw p v h2 h3=>by go_simp
theorem nwZ:∀v∈zVl,NoWord v:=nwVl
section
variable {σ:Type} {f:Int->Mst σ->Res Kn×Mst σ} {fst:Bool} {hi:Int} {s:σ} {c:Nat} {opn last:Int} {q:Kn}
end
section
variable {σ:Type} (M:Mem σ) (s:σ) (x:ByteArray)
theorem look_one(i:Int):look ([]++ [(x,i)]) x=i:=rfl
end
theorem IsNd.up{h h':Nat}(hh:h<=h'){w:World}:∀ {e:Ex} {us:List Value},IsNd h e us w->IsNd h' e us w
 | .num _z,_us,H=>H
 | .var _x,_us,H=>H
 | .cell _x,_us,H=>H
 | .val _x _j,_us,H=>H
 | .loop _fst _x _lo _hi _b,_us,⟨k,s,a,n,c,g,o,m,cp,h1,h2,h3,h4,vs,h5,h6,h7⟩=>⟨k,s,a,n,c,g,o,m,cp,h1,h2,h3,Nat.lt_of_lt_of_le h4 hh,vs,h5,h6,IsNd.up hh h7⟩
 | .bin _op _p _q,_us,⟨x,k,s,a,n,c,lo,hi,g,o,m,cp,h1,h2,h3,h4,⟨vs,h5,h6,h7⟩,vs',h5',h6',h7'⟩=>
  ⟨x,k,s,a,n,c,lo,hi,g,o,m,cp,h1,h2,h3,Nat.lt_of_lt_of_le h4 hh,⟨vs,h5,h6,IsNd.up hh h7⟩,vs',h5',h6',IsNd.up hh h7'⟩
theorem getE_app{j:Nat}{v:Value}(xs ys:List Value)(h:xs[j]? =some v):(xs++ys)[j]? =some v:=by rw[List.getElem?_append_left (List.getElem?_eq_some_iff.1 h).1];exact h
theorem getE_app2{j:Nat}{v:Value}(xs ys:List Value)(h:ys[j]? =some v):(xs++ys)[xs.length+j]? =some v:=by rw[List.getElem?_append_right (Nat.le_add_right _ _),Nat.add_sub_cancel_left];exact h
def IsNh(H:Nat)(e:Ex):Value->World->Prop:=λx w=>∃us:List Value,x=.agg us.toArray/\us.length=8/\us.all (λu=>u.oneCell')=true/\(∀v∈us,NoWord v)/\IsNd H e us w
def IsNe(e:Ex):Value->World->Prop:=λx w=>IsNh w.heap.size e x w
theorem IsNh.stb(H:Nat)(e:Ex):Stb (IsNh H e):=λ_ _ _ E ⟨us,h1,h2,h3,h4,h5⟩=>⟨us,h1,h2,h3,h4,h5.rm (Rm.ext E)⟩
instance (H:Nat) (e:Ex):StbC (IsNh H e):=⟨IsNh.stb H e⟩
theorem IsNh.up{H H':Nat}{e:Ex}{x:Value}{w:World}(h:IsNh H e x w)(hh:H<=H'):IsNh H' e x w:=let ⟨us,h1,h2,h3,h4,h5⟩:=h;⟨us,h1,h2,h3,h4,IsNd.up hh h5⟩
theorem IsNe.stb(e:Ex):Stb (IsNe e):=λx w w' E h=>IsNh.up (IsNh.stb _ e x w w' E h) E.size
instance (e:Ex):StbC (IsNe e):=⟨IsNe.stb e⟩
theorem OnlyB.rmg{g:Nat}{w w':World}(O:OnlyB g w w'):Rm g w w':=⟨O.os,O.tape,O.output,by rw[O.size];exact jJ _,λk _ hg=>O.block k zb,O.gr⟩
theorem nwNd{a b c d:Int}{s:ByteArray}{t:Bool}{p q:Option Addr}{n m k l:Nat}:∀v∈ [Value.int .i64 a,.string s,.int .i64 b,.bool t,.slice p n m,.int .i64 c,.int .i64 d,.slice q k l],NoWord v:=by
 intro v hv;simp only[List.mem_cons,List.not_mem_nil,or_false]at hv;rcases hv with rfl|rfl|rfl|rfl|rfl|rfl|rfl|rfl
 all_goals first|exact NoWord.bool _|exact NoWord.slice _ _ _|exact NoWord.int64 _|exact NoWord.string _
def zNd:List Value:= [.int .i64 0,.string ⟨#[]⟩,.int .i64 0,.bool false,.slice none 0 0,.int .i64 0,.int .i64 0,.slice none 0 0]
set_option maxRecDepth 100000
theorem st_Nd:StV prog 31 8:=by
 intro w g vs us h1 h2 hs B
 match vs,h1 with
 | [v0,v1,v2,v3,v4,v5,v6,v7],_=>
  match us,h2 with
  | [u0,u1,u2,u3,u4,u5,u6,u7],_=>
   simp only[List.all_cons,List.all_nil,Bool.and_true,Bool.and_eq_true]at hs;obtain⟨s0,s1,s2,s3,s4,s5,s6,s7⟩:=hs;have r0:=λw a m=>run_store prog w a u0 m s0;have r1:=λw a m=>run_store prog w a u1 m s1;have r2:=λw a m=>run_store prog w a u2 m s2;have r3:=λw a m=>run_store prog w a u3 m s3;have r4:=λw a m=>run_store prog w a u4 m s4;have r5:=λw a m=>run_store prog w a u5 m s5;have r6:=λw a m=>run_store prog w a u6 m s6;have r7:=λw a m=>run_store prog w a u7 m s7
   have c0:=B.c 0 _ rfl;have c1:=B.c 1 _ rfl;have c2:=B.c 2 _ rfl;have c3:=B.c 3 _ rfl;have c4:=B.c 4 _ rfl;have c5:=B.c 5 _ rfl;have c6:=B.c 6 _ rfl;have c7:=B.c 7 _ rfl;have f0:=B.f 0;have f1:=B.f 1;have f2:=B.f 2;have f3:=B.f 3;have f4:=B.f 4;have f5:=B.f 5;have f6:=B.f 6;have f7:=B.f 7;clear B s0 s1 s2 s3 s4 s5 s6 s7;simp only[xD]
   go_simp
theorem al_Nd(w:World):(Instr.alloc 31 true (.tuple #[])).run prog w=.ok (.pointer (some ⟨w.heap.size,0,none⟩)) (w.alloc (.cells zNd.toArray 31)):=by unfold zNd;go_simp
theorem nwZN:∀v∈zNd,NoWord v:=nwNd
theorem bdN_run{x:Operand}{a:Act}{u v:Value}{w:World}{o:Oper}{op:Int}(ho:o.op=.build 31 #[(0,.const (.int .i64 op)),(3,x)])(h:a.eval x=u)(hr:(Instr.build 31 #[(0,.int .i64 op),(3,u)]).run prog w=.ok v w):(execOp a.eval o).run prog w=.ok (.value v) w:=by
 unfold execOp;rw[ho];dsimp only;simp only[List.map_toArray,List.map_cons,List.map_nil];rw[h];simp[show a.eval (.const (.int .i64 op))=.int .i64 op from rfl,hr]
theorem bdG{P:Program}{T:Nat}{ps:Array (Nat×Operand)}{a:Act}{v:Value}{w:World}{o:Oper}(ho:o.op=.build T ps)(hr:(Instr.build T (ps.map λp=>(p.1,a.eval p.2))).run P w=.ok v w):(execOp a.eval o).run P w=.ok (.value v) w:=by
 unfold execOp;rw[ho];dsimp only;simp[hr]
section
variable {ops:Array Oper} {Q:Exit->Act->World->Prop} {ds:List (Option Tmp)} {a0:Act} {w0:World} {L:List (Value->World->Prop)} {boxes:List Nat} {i k:Nat} {o:Oper} {os:List Oper}
def IsNs(B H:Nat)(es:List Ex):Value->World->Prop:=λx w=>∃g,x=.slice (some ⟨g,0,none⟩) es.length es.length/\B<=g/\g<w.heap.size/\∀i e,es[i]? =some e->∃vs:List Value,vs.length=8/\(∀j v,vs[j]? =some v->World.cell? w ⟨g,8*i+j,none⟩=some v)/\IsNd H e vs w
theorem IsNs.stb(B H:Nat)(es:List Ex):Stb (IsNs B H es):=λ_ _ _ E ⟨g,h1,h2,h3,h4⟩=>⟨g,h1,h2,Nat.lt_of_lt_of_le h3 E.size,λi e hi=>let ⟨vs,q1,q2,q3⟩:=h4 i e hi;⟨vs,q1,λj v hj=>E.cell (q2 j v hj),q3.rm (Rm.ext E)⟩⟩
instance (B H:Nat) (es:List Ex):StbC (IsNs B H es):=⟨IsNs.stb B H es⟩
theorem IsNs.only{B H g:Nat}{es:List Ex}{x:Value}{w w':World}(h:IsNs B H es x w)(O:OnlyB g w w')(h1:H<=g)(h2:g<B):IsNs B g es x w':=by
 obtain⟨b,q1,q2,q3,q4⟩:=h;refine⟨b,q1,q2,by rw[O.size];exact q3,λi e hi=>?_⟩;obtain⟨vs,r1,r2,r3⟩:=q4 i e hi;exact⟨vs,r1,λj v hj=>(World.cell?_of_block (w:=w) (a:=⟨b,_,none⟩) (O.block b zb)).trans (r2 j v hj),(IsNd.up h1 r3).rm O.rmg⟩
theorem bs1{B H:Nat}{x:Operand}{e:Ex}(hx:Od ops ds a0 w0 L i x (IsNh H e))(hB:B<=w0.heap.size)(ho:o.op=.buildSlice 29 1 #[(0,x)]:=by rfl)(hi:L.getD i (λ_ _=>True)=IsNs B H [e]:=by kernel_rfl)(hb:boxes.contains i=false:=by kernel_rfl):Ok prog ops Q ds a0 w0 L boxes i o:=
 ⟨fun v a w hE hd hf K hK=>by
  obtain⟨us,h1,hl,h3,h4,h5⟩:=hx.out v a w hE hd hf;obtain⟨u0,u1,u2,u3,u4,u5,u6,u7,rfl⟩:=len8 hl;have hr:(Instr.buildSlice 29 1 #[(0,.agg #[u0,u1,u2,u3,u4,u5,u6,u7])]).run prog w=.ok (.slice (some ⟨w.heap.size,0,none⟩) 1 1) (w.alloc (.cells #[u0,u1,u2,u3,u4,u5,u6,u7] 31)):=zy
  have hrun:(execOp a.eval o).run prog w=.ok (.value (.slice (some ⟨w.heap.size,0,none⟩) 1 1)) (w.alloc (.cells #[u0,u1,u2,u3,u4,u5,u6,u7] 31)):=by
   unfold execOp;rw[ho];dsimp only;simp only[List.map_toArray,List.map_cons,List.map_nil];rw[h1];simp[hr]
  unfold Oper.wp;rw[hrun];have E1:Ext w (w.alloc (.cells #[u0,u1,u2,u3,u4,u5,u6,u7] 31)):=(Ext.refl _).alloc _;have B1:=Bk.new w #[u0,u1,u2,u3,u4,u5,u6,u7] 31;refine hK.out _ _ E1 ?_ (FreshIf.no hb);rw[hi];refine⟨_,rfl,jK hB hE.size,B1.lt,λi' e' hi'=>?_⟩;rcases i' with _|i'
  ·obtain rfl:e=e':=by simpa using hi'
   exact⟨[u0,u1,u2,u3,u4,u5,u6,u7],rfl,λj v hj=>by rw[Nat.mul_zero,Nat.zero_add];exact B1.c j v hj,h5.rm (Rm.ext E1)⟩
  ·simp at hi'⟩
theorem bs2{B H:Nat}{x y:Operand}{e f:Ex}(hx:Od ops ds a0 w0 L i x (IsNh H e))(hy:Od ops ds a0 w0 L i y (IsNh H f))(hB:B<=w0.heap.size)(ho:o.op=.buildSlice 29 2 #[(0,x),(1,y)]:=by rfl)(hi:L.getD i (λ_ _=>True)=IsNs B H [e,f]:=by kernel_rfl)(hb:boxes.contains i=false:=by kernel_rfl):Ok prog ops Q ds a0 w0 L boxes i o:=
 ⟨fun v a w hE hd hf K hK=>by
  obtain⟨us,h1,hl,h3,h4,h5⟩:=hx.out v a w hE hd hf;obtain⟨u0,u1,u2,u3,u4,u5,u6,u7,rfl⟩:=len8 hl;obtain⟨us',h1',hl',h3',h4',h5'⟩:=hy.out v a w hE hd hf;obtain⟨t0,t1,t2,t3,t4,t5,t6,t7,rfl⟩:=len8 hl';have hr:(Instr.buildSlice 29 2 #[(0,.agg #[u0,u1,u2,u3,u4,u5,u6,u7]),(1,.agg #[t0,t1,t2,t3,t4,t5,t6,t7])]).run prog w=.ok (.slice (some ⟨w.heap.size,0,none⟩) 2 2) (w.alloc (.cells #[u0,u1,u2,u3,u4,u5,u6,u7,t0,t1,t2,t3,t4,t5,t6,t7] 31)):=zy
  have hrun:(execOp a.eval o).run prog w=.ok (.value (.slice (some ⟨w.heap.size,0,none⟩) 2 2)) (w.alloc (.cells #[u0,u1,u2,u3,u4,u5,u6,u7,t0,t1,t2,t3,t4,t5,t6,t7] 31)):=by
   unfold execOp;rw[ho];dsimp only;simp only[List.map_toArray,List.map_cons,List.map_nil];rw[h1,h1'];simp[hr]
  unfold Oper.wp;rw[hrun];have E1:Ext w (w.alloc (.cells #[u0,u1,u2,u3,u4,u5,u6,u7,t0,t1,t2,t3,t4,t5,t6,t7] 31)):=(Ext.refl _).alloc _;have B1:=Bk.new w #[u0,u1,u2,u3,u4,u5,u6,u7,t0,t1,t2,t3,t4,t5,t6,t7] 31;refine hK.out _ _ E1 ?_ (FreshIf.no hb);rw[hi];refine⟨_,rfl,jK hB hE.size,B1.lt,λi' e' hi'=>?_⟩;rcases i' with _|_|i'
  ·obtain rfl:e=e':=by simpa using hi'
   exact⟨[u0,u1,u2,u3,u4,u5,u6,u7],rfl,λj v hj=>by rw[Nat.mul_zero,Nat.zero_add];exact B1.c j v (getE_app [u0,u1,u2,u3,u4,u5,u6,u7] [t0,t1,t2,t3,t4,t5,t6,t7] hj),h5.rm (Rm.ext E1)⟩
  ·obtain rfl:f=e':=by simpa using hi'
   exact⟨[t0,t1,t2,t3,t4,t5,t6,t7],rfl,λj v hj=>B1.c (8*(0+1)+j) v (getE_app2 [u0,u1,u2,u3,u4,u5,u6,u7] [t0,t1,t2,t3,t4,t5,t6,t7] hj),h5'.rm (Rm.ext E1)⟩
  ·simp at hi'⟩
end
theorem num_f(w:World)(z:Int)(hz: -9223372036854775808<=z/\z<=9223372036854775807):Calls prog 43 #[.int .i64 z] w (Ret w (IsNe (.num z))):=by
 have HZ:=hid hz;clear hz;obtain⟨W,hW,E,B⟩:∃W,W=w.alloc (.cells #[.int .i64 0,.string ⟨#[]⟩,.int .i64 0,.bool false,.slice none 0 0,.int .i64 0,.int .i64 0,.slice none 0 0] 31)/\Ext w W/\Bk W w.heap.size zNd:=zh;go_enter func43,ntmps43;go_upto_region 1 with fail;rw[<-hW];clear hW;refine rgs 3 (dR 3 3) [iV z,IsI 2 z,(λx w=>∃s a n c,x=.agg #[.int .i64 1,.string ⟨#[]⟩,.int .i64 0,.bool s,.slice a n c,.int .i64 0,.int .i64 0,.slice none 0 0]/\IsI 2 z (.agg #[.bool s,.slice a n c]) w)] [] ?_ ?_ (hst:=⟨IsV.stb _,IsI.stb _ _,λ_ _ _ e ⟨s,a,n,c,h1,h2⟩=>⟨s,a,n,c,h1,h2.ext e⟩,trivial⟩)
 ·refine Rc zt ?_;refine Rc (cl1 (en func26) (qA (fP:=iV z) 0 3) (λx0 w' hE d0=>by{obtain rfl:x0=.int .i64 z:=d0;exact ROf_f w' z HZ.out.1 HZ.out.2})) ?_
  refine Rc (Ok.of za λv a w hE hd hf=>by
   obtain⟨s,b,n,c,e1,h1⟩:=(qA (fP:=IsI 2 z) 1 4:Od _ _ _ _ _ _ _ _).out v a w hE hd hf;refine⟨.agg #[.int .i64 1,.string ⟨#[]⟩,.int .i64 0,.bool s,.slice b n c,.int .i64 0,.int .i64 0,.slice none 0 0],?_,s,b,n,c,rfl,s,b,n,c,rfl,h1⟩;have hr:(Instr.build 31 #[(0,.int .i64 1),(3,.agg #[.bool s,.slice b n c])]).run prog w=.ok (.agg #[.int .i64 1,.string ⟨#[]⟩,.int .i64 0,.bool s,.slice b n c,.int .i64 0,.int .i64 0,.slice none 0 0]) w:=zy
   exact bdN_run rfl e1 hr) ?_
  exact rn0
 intro v W1 e1 hZ _;replace E:=E.trans e1;replace B:=B.ext e1;obtain⟨s,a,n,c,hv,hz⟩:=hZ 2 dcx;simp only[lxE,Nat.reduceAdd];rw[hv];clear hv hZ e1;refine stL (λK hK=>?_);refine stV (us:= [.int .i64 1,.string ⟨#[]⟩,.int .i64 0,.bool s,.slice a n c,.int .i64 0,.int .i64 0,.slice none 0 0]) B st_Nd rfl rfl nwNd E zb (λW1a B9 E9 G9 _ _=>hK _ _ ?_);refine jE ?_;have d0:=B9.c 0 _ rfl;have d1:=B9.c 1 _ rfl;have d2:=B9.c 2 _ rfl;have d3:=B9.c 3 _ rfl;have d4:=B9.c 4 _ rfl;have d5:=B9.c 5 _ rfl;have d6:=B9.c 6 _ rfl;have d7:=B9.c 7 _ rfl;clear hK K;go_wp2_with fail;exact jD (v:=.agg #[.int .i64 1,.string ⟨#[]⟩,.int .i64 0,.bool s,.slice a n c,.int .i64 0,.int .i64 0,.slice none 0 0]) (by simp[results,results43,go_sem,d0,d1,d2,d3,d4,d5,d6,d7]) rfl ⟨_,rfl,E9,_,rfl,rfl,rfl,nwNd,⟨_,_,_,_,_,_,_,_,_,rfl,(IsI.gstb _ _ _ _ _ G9 hz).mono dcx⟩⟩
theorem variable_f(w:World)(s:ByteArray):Calls prog 40 #[.string s] w (Ret w (IsNe (.var s))):=by
 obtain⟨W,hW,E,B⟩:∃W,W=w.alloc (.cells #[.int .i64 0,.string ⟨#[]⟩,.int .i64 0,.bool false,.slice none 0 0,.int .i64 0,.int .i64 0,.slice none 0 0] 31)/\Ext w W/\Bk W w.heap.size zNd:=zh;go_enter func40,ntmps40;go_upto_region 1 with fail;rw[<-hW];clear hW;refine rgs 2 [some 3,some 4] [IsV (.string s),IsV (.agg #[.int .i64 11,.string s,.int .i64 0,.bool false,.slice none 0 0,.int .i64 0,.int .i64 0,.slice none 0 0])] [] ?_ ?_ (hst:=⟨IsV.stb _,IsV.stb _,trivial⟩)
 ·refine Rc zt ?_
  refine Rc (Ok.of za λv a w hE hd hf=>by
   have e1:a.eval (.tmp 3)=.string s:=(qA (fP:=IsV (.string s)) 0 3:Od _ _ _ _ _ _ _ _).out v a w hE hd hf;have hr:(Instr.build 31 #[(0,.int .i64 11),(1,.string s)]).run prog w=.ok (.agg #[.int .i64 11,.string s,.int .i64 0,.bool false,.slice none 0 0,.int .i64 0,.int .i64 0,.slice none 0 0]) w:=zy
   exact⟨_,bdG rfl zal,rfl⟩) ?_
  exact rn0
 intro v W1 e1 hZ _;replace E:=E.trans e1;replace B:=B.ext e1;simp only[lxE,Nat.reduceAdd];rw[show v 1=.agg #[.int .i64 11,.string s,.int .i64 0,.bool false,.slice none 0 0,.int .i64 0,.int .i64 0,.slice none 0 0]from hZ 1 dcx];clear hZ e1;refine stL (λK hK=>?_);refine stV (us:= [.int .i64 11,.string s,.int .i64 0,.bool false,.slice none 0 0,.int .i64 0,.int .i64 0,.slice none 0 0]) B st_Nd rfl rfl nwNd E zb (λW1a B9 E9 G9 _ _=>hK _ _ ?_);refine jE ?_;have d0:=B9.c 0 _ rfl;have d1:=B9.c 1 _ rfl;have d2:=B9.c 2 _ rfl;have d3:=B9.c 3 _ rfl;have d4:=B9.c 4 _ rfl;have d5:=B9.c 5 _ rfl;have d6:=B9.c 6 _ rfl;have d7:=B9.c 7 _ rfl;clear hK K;go_wp2_with fail;exact jD (v:=.agg #[.int .i64 11,.string s,.int .i64 0,.bool false,.slice none 0 0,.int .i64 0,.int .i64 0,.slice none 0 0]) (by simp[results,results40,go_sem,d0,d1,d2,d3,d4,d5,d6,d7]) rfl ⟨_,rfl,E9,_,rfl,rfl,rfl,nwNd,⟨_,_,_,_,_,_,_,_,rfl⟩⟩
theorem two_f{w:World}{x y:Value}{p q:Ex}(op:Int)(hx:IsNe p x w)(hy:IsNe q y w):Calls prog 28 #[.int .i64 op,x,y] w (Ret w (IsNe (.bin op p q))):=by
 obtain⟨us,rfl,hl,h3,h4,h5⟩:=id hx;obtain⟨u0,u1,u2,u3,u4,u5,u6,u7,rfl⟩:=len8 hl;obtain⟨us',rfl,hl',h3',h4',h5'⟩:=id hy;obtain⟨t0,t1,t2,t3,t4,t5,t6,t7,rfl⟩:=len8 hl';clear h3 h4 h5 hl h3' h4' h5' hl';obtain⟨W,hW,E,B1,B2,B⟩:∃W,W=((w.alloc (.cells #[u0,u1,u2,u3,u4,u5,u6,u7] 31)).alloc (.cells #[t0,t1,t2,t3,t4,t5,t6,t7] 31)).alloc (.cells #[.int .i64 0,.string ⟨#[]⟩,.int .i64 0,.bool false,.slice none 0 0,.int .i64 0,.int .i64 0,.slice none 0 0] 31)/\Ext w W/\Bk W w.heap.size [u0,u1,u2,u3,u4,u5,u6,u7]/\Bk W (w.heap.size+1) [t0,t1,t2,t3,t4,t5,t6,t7]/\Bk W (w.heap.size+2) zNd:=⟨_,rfl,(((Ext.refl w).alloc _).alloc _).alloc _,(Bk.new w _ _).ext (((Ext.refl _).alloc _).alloc _),(Bk.newE _ _ zd _ _).ext ((Ext.refl _).alloc _),Bk.newE _ _ zd _ _⟩;replace hx:=IsNh.stb w.heap.size _ _ _ _ E hx;replace hy:=IsNh.stb w.heap.size _ _ _ _ E hy;have hsz:=B.lt;go_enter func28,ntmps28;go_upto_region 1 with fail;rw[<-hW];clear hW;refine rgs 5 (dR 7 5) [iV op,IsNh w.heap.size p,IsNh w.heap.size q,IsNs W.heap.size w.heap.size [p,q],(λx w'=>∃g,x=.agg #[.int .i64 op,.string ⟨#[]⟩,.int .i64 0,.bool false,.slice none 0 0,.int .i64 0,.int .i64 0,.slice (some ⟨g,0,none⟩) 2 2]/\IsNs W.heap.size w.heap.size [p,q] (.slice (some ⟨g,0,none⟩) 2 2) w')] [] ?_ ?_ (hst:=⟨IsV.stb _,IsNh.stb _ _,IsNh.stb _ _,IsNs.stb _ _ _,λ_ _ _ e ⟨g,h1,h2⟩=>⟨g,h1,IsNs.stb _ _ _ _ _ _ e h2⟩,trivial⟩)
 ·refine Rc zt ?_;refine Rc (lv _ (λw' e=>xY w' _ _ rfl (B1.ext e)) (qB 4) (λw' e=>IsNh.stb _ _ _ _ _ e hx)) ?_;refine Rc (lv _ (λw' e=>xY w' _ _ rfl (B2.ext e)) (qB 5) (λw' e=>IsNh.stb _ _ _ _ _ e hy)) ?_;refine Rc (bs2 (qA (fP:=IsNh w.heap.size p) 1 8) (qA (fP:=IsNh w.heap.size q) 2 9) (jJ _)) ?_
  refine Rc (Ok.of za λv a w2 hE hd hf=>by
   have e1:a.eval (.tmp 7)=.int .i64 op:=(qA (fP:=iV op) 0 7:Od _ _ _ _ _ _ _ _).out v a w2 hE hd hf;obtain⟨g,e2,h2⟩:=(qA (fP:=IsNs W.heap.size w.heap.size [p,q]) 3 10:Od _ _ _ _ _ _ _ _).out v a w2 hE hd hf;have hr:(Instr.build 31 #[(0,.int .i64 op),(6,.slice (some ⟨g,0,none⟩) 2 2)]).run prog w2=.ok (.agg #[.int .i64 op,.string ⟨#[]⟩,.int .i64 0,.bool false,.slice none 0 0,.int .i64 0,.int .i64 0,.slice (some ⟨g,0,none⟩) 2 2]) w2:=zy
   exact⟨_,bdG rfl (by simp only[List.map_toArray,List.map_cons,List.map_nil];rw[e1,e2];exact hr),g,rfl,g,rfl,h2⟩) ?_
  exact rn0
 intro v W1 e1 hZ _;replace E:=E.trans e1;replace B:=B.ext e1;obtain⟨g,hv,hn⟩:=hZ 4 dcx;simp only[lxE,Nat.reduceAdd];rw[hv];clear hv hZ e1 B1 B2 hx hy;refine stL (λK hK=>?_);refine qX (us:= [.int .i64 op,.string ⟨#[]⟩,.int .i64 0,.bool false,.slice none 0 0,.int .i64 0,.int .i64 0,.slice (some ⟨g,0,none⟩) 2 2]) B st_Nd rfl rfl nwNd (λW1a B9 O=>hK _ _ ?_);have hnn:=hn.only O (Nat.le_add_right _ _) zb;have E9:=O.ext E zb;refine jE ?_;have d0:=B9.c 0 _ rfl;have d1:=B9.c 1 _ rfl;have d2:=B9.c 2 _ rfl;have d3:=B9.c 3 _ rfl;have d4:=B9.c 4 _ rfl;have d5:=B9.c 5 _ rfl;have d6:=B9.c 6 _ rfl;have d7:=B9.c 7 _ rfl;clear hK K;go_wp2_with fail
 exact jD (v:=.agg #[.int .i64 op,.string ⟨#[]⟩,.int .i64 0,.bool false,.slice none 0 0,.int .i64 0,.int .i64 0,.slice (some ⟨g,0,none⟩) 2 2]) (by simp[results,results28,go_sem,d0,d1,d2,d3,d4,d5,d6,d7]) rfl ⟨_,rfl,E9,_,rfl,rfl,rfl,nwNd,(λhn'=>by
  obtain⟨g',q1,q2,q3,q4⟩:=hn';injection q1 with q1;injection q1 with q1;injection q1 with q1;subst q1;obtain⟨vs,r1,r2,r3⟩:=q4 0 p rfl;obtain⟨vs',r1',r2',r3'⟩:=q4 1 q rfl
  exact⟨_,_,_,_,_,_,_,_,g,0,2,2,rfl,jJ _,by decide,q3,⟨vs,r1,λj v hj=>by simpa using r2 j v hj,IsNd.up (by have:=B9.lt;omega) r3⟩,vs',r1',λj v hj=>by simpa using r2' j v hj,IsNd.up (by have:=B9.lt;omega) r3'⟩) hnn⟩
theorem loop_f{w:World}{y:Value}{b:Ex}(opc:Int)(fst:Bool)(hopc:opc=if fst then 10 else 9)(x:ByteArray)(lo hi:Int)(hx:IsNe b y w):Calls prog 42 #[.int .i64 opc,.string x,.int .i64 lo,.int .i64 hi,y] w (Ret w (IsNe (.loop fst x lo hi b))):=by
 obtain⟨us,rfl,hl,h3,h4,h5⟩:=id hx;obtain⟨u0,u1,u2,u3,u4,u5,u6,u7,rfl⟩:=len8 hl;clear h3 h4 h5 hl;have HO:=hid hopc;clear hopc;obtain⟨W,hW,E,B1,B⟩:∃W,W=(w.alloc (.cells #[u0,u1,u2,u3,u4,u5,u6,u7] 31)).alloc (.cells #[.int .i64 0,.string ⟨#[]⟩,.int .i64 0,.bool false,.slice none 0 0,.int .i64 0,.int .i64 0,.slice none 0 0] 31)/\Ext w W/\Bk W w.heap.size [u0,u1,u2,u3,u4,u5,u6,u7]/\Bk W (w.heap.size+1) zNd:=zbp;replace hx:=IsNh.stb w.heap.size _ _ _ _ E hx;have hsz:=B.lt;go_enter func42,ntmps42;go_upto_region 1 with fail;rw[<-hW];clear hW;refine rgs 7 (dR 11 7) [iV opc,IsV (.string x),iV lo,iV hi,IsNh w.heap.size b,IsNs W.heap.size w.heap.size [b],(λx' w'=>∃g,x'=.agg #[.int .i64 opc,.string x,.int .i64 0,.bool false,.slice none 0 0,.int .i64 lo,.int .i64 hi,.slice (some ⟨g,0,none⟩) 1 1]/\IsNs W.heap.size w.heap.size [b] (.slice (some ⟨g,0,none⟩) 1 1) w')] [] ?_ ?_ (hst:=⟨IsV.stb _,IsV.stb _,IsV.stb _,IsV.stb _,IsNh.stb _ _,IsNs.stb _ _ _,λ_ _ _ e ⟨g,h1,h2⟩=>⟨g,h1,IsNs.stb _ _ _ _ _ _ e h2⟩,trivial⟩)
 ·refine Rc zt ?_;refine Rc yo ?_;refine Rc yw ?_;refine Rc (mv (qB 3)) ?_;refine Rc (lv _ (λw' e=>xY w' _ _ rfl (B1.ext e)) (qB 9) (λw' e=>IsNh.stb _ _ _ _ _ e hx)) ?_;refine Rc (bs1 (qA (fP:=IsNh w.heap.size b) 4 15) (jJ _)) ?_
  refine Rc (Ok.of za λv a w2 hE hd hf=>by
   have e1:a.eval (.tmp 11)=.int .i64 opc:=(qA (fP:=iV opc) 0 11:Od _ _ _ _ _ _ _ _).out v a w2 hE hd hf;have e2:a.eval (.tmp 12)=.string x:=(qA (fP:=IsV (.string x)) 1 12:Od _ _ _ _ _ _ _ _).out v a w2 hE hd hf;have e3:a.eval (.tmp 13)=.int .i64 lo:=(qA (fP:=iV lo) 2 13:Od _ _ _ _ _ _ _ _).out v a w2 hE hd hf;have e4:a.eval (.tmp 14)=.int .i64 hi:=(qA (fP:=iV hi) 3 14:Od _ _ _ _ _ _ _ _).out v a w2 hE hd hf;obtain⟨g,e5,h2⟩:=(qA (fP:=IsNs W.heap.size w.heap.size [b]) 5 16:Od _ _ _ _ _ _ _ _).out v a w2 hE hd hf;have hr:(Instr.build 31 #[(0,.int .i64 opc),(1,.string x),(4,.int .i64 lo),(5,.int .i64 hi),(6,.slice (some ⟨g,0,none⟩) 1 1)]).run prog w2=.ok (.agg #[.int .i64 opc,.string x,.int .i64 0,.bool false,.slice none 0 0,.int .i64 lo,.int .i64 hi,.slice (some ⟨g,0,none⟩) 1 1]) w2:=zy
   exact⟨_,bdG rfl (by simp only[List.map_toArray,List.map_cons,List.map_nil];rw[e1,e2,e3,e4,e5];exact hr),g,rfl,g,rfl,h2⟩) ?_
  exact rn0
 intro v W1 e1 hZ _;replace E:=E.trans e1;replace B:=B.ext e1;obtain⟨g,hv,hn⟩:=hZ 6 dcx;simp only[lxE,Nat.reduceAdd];rw[hv];clear hv hZ e1 B1 hx;refine stL (λK hK=>?_);refine qX (us:= [.int .i64 opc,.string x,.int .i64 0,.bool false,.slice none 0 0,.int .i64 lo,.int .i64 hi,.slice (some ⟨g,0,none⟩) 1 1]) B st_Nd rfl rfl nwNd (λW1a B9 O=>hK _ _ ?_);have hnn:=hn.only O (Nat.le_add_right _ _) zb;have E9:=O.ext E zb;refine jE ?_;have d0:=B9.c 0 _ rfl;have d1:=B9.c 1 _ rfl;have d2:=B9.c 2 _ rfl;have d3:=B9.c 3 _ rfl;have d4:=B9.c 4 _ rfl;have d5:=B9.c 5 _ rfl;have d6:=B9.c 6 _ rfl;have d7:=B9.c 7 _ rfl;clear hK K;go_wp2_with fail
 exact jD (v:=.agg #[.int .i64 opc,.string x,.int .i64 0,.bool false,.slice none 0 0,.int .i64 lo,.int .i64 hi,.slice (some ⟨g,0,none⟩) 1 1]) (by simp[results,results42,go_sem,d0,d1,d2,d3,d4,d5,d6,d7]) rfl ⟨_,rfl,E9,_,rfl,rfl,rfl,nwNd,(λhn'=>by
  obtain⟨g',q1,q2,q3,q4⟩:=hn';injection q1 with q1;injection q1 with q1;injection q1 with q1;subst q1;obtain⟨vs,r1,r2,r3⟩:=q4 0 b rfl
  exact⟨_,_,_,_,_,g,0,1,1,by rw[HO.out],jJ _,by decide,q3,vs,r1,λj v hj=>by simpa using r2 j v hj,IsNd.up (by have:=B9.lt;omega) r3⟩) hnn⟩
end Go.Proofs.YtkeikfekkdplgaaGreatDoor
end
section
namespace Go.Proofs.YtkeikfekkdplgaaGreatDoor
open Go Go.RowKit Go.Maps
open Go.Proofs.Tryz
theorem zaa{P:Prop}(h:P:=by have:=hnx.size;have:=hg2.size;simp;omega):P:=h
set_option maxRecDepth 100000
set_option maxHeartbeats 8000000
theorem IsVl.list{r:Res Kn}{a:Option Addr}{n c:Nat}{x:Value}{w:World}(h:IsVl r (.slice a n c) x w):∃vl:List Value,x=.agg vl.toArray/\vl.length=11/\vl.all (λu=>u.oneCell')=true/\(∀v∈vl,NoWord v):=by
 cases r with
 |error n=>exact⟨_,h,rfl,rfl,nwVl⟩
 | ok q=>
  obtain⟨s1,a1,n1,c1,s2,a2,n2,c2,s3,a3,n3,c3,s4,a4,n4,c4,h,_⟩:=h;exact⟨_,h,rfl,rfl,nwVl⟩
def zOut:List Value:= [.bool false,.slice none 0 0,.bool false,.slice none 0 0,.bool false,.slice none 0 0,.bool false,.slice none 0 0,.bool false,.slice none 0 0,.int .i64 0,.slice none 0 0,.int .i64 0]
theorem nwOut{s1 s2 s3 s4:Bool}{a1 a2 a3 a4 a5 a6:Option Addr}{n1 n2 n3 n4 n5 c1 c2 c3 c4 c5 n6 c6:Nat}{f:Bool}{e i:Int}:∀v∈ [Value.bool s1,.slice a1 n1 c1,.bool s2,.slice a2 n2 c2,.bool s3,.slice a3 n3 c3,.bool s4,.slice a4 n4 c4,.bool f,.slice a5 n5 c5,.int .i64 e,.slice a6 n6 c6,.int .i64 i],NoWord v:=by
 intro v hv;simp only[List.mem_cons,List.not_mem_nil,or_false]at hv;rcases hv with rfl|rfl|rfl|rfl|rfl|rfl|rfl|rfl|rfl|rfl|rfl|rfl|rfl
 all_goals first|exact NoWord.bool _|exact NoWord.slice _ _ _|exact NoWord.int64 _
set_option maxRecDepth 100000
theorem st_Out:StV prog 53 13:=by
 intro w g vs us h1 h2 hs B
 match vs,h1 with
 | [v0,v1,v2,v3,v4,v5,v6,v7,v8,v9,v10,v11,v12],_=>
  match us,h2 with
  | [u0,u1,u2,u3,u4,u5,u6,u7,u8,u9,u10,u11,u12],_=>
   simp only[List.all_cons,List.all_nil,Bool.and_true,Bool.and_eq_true]at hs;obtain⟨s0,s1,s2,s3,s4,s5,s6,s7,s8,s9,s10,s11,s12⟩:=hs;have r0:=λw a m=>run_store prog w a u0 m s0
   have r1:=λw a m=>run_store prog w a u1 m s1
   have r2:=λw a m=>run_store prog w a u2 m s2
   have r3:=λw a m=>run_store prog w a u3 m s3
   have r4:=λw a m=>run_store prog w a u4 m s4
   have r5:=λw a m=>run_store prog w a u5 m s5
   have r6:=λw a m=>run_store prog w a u6 m s6
   have r7:=λw a m=>run_store prog w a u7 m s7
   have r8:=λw a m=>run_store prog w a u8 m s8
   have r9:=λw a m=>run_store prog w a u9 m s9
   have r10:=λw a m=>run_store prog w a u10 m s10
   have r11:=λw a m=>run_store prog w a u11 m s11
   have r12:=λw a m=>run_store prog w a u12 m s12
   have c0:=B.c 0 _ rfl;have c1:=B.c 1 _ rfl;have c2:=B.c 2 _ rfl;have c3:=B.c 3 _ rfl;have c4:=B.c 4 _ rfl;have c5:=B.c 5 _ rfl;have c6:=B.c 6 _ rfl;have c7:=B.c 7 _ rfl;have c8:=B.c 8 _ rfl;have c9:=B.c 9 _ rfl;have c10:=B.c 10 _ rfl;have c11:=B.c 11 _ rfl;have c12:=B.c 12 _ rfl;have f0:=B.f 0;have f1:=B.f 1;have f2:=B.f 2;have f3:=B.f 3;have f4:=B.f 4;have f5:=B.f 5;have f6:=B.f 6;have f7:=B.f 7;have f8:=B.f 8;have f9:=B.f 9;have f10:=B.f 10;have f11:=B.f 11;have f12:=B.f 12;clear B s0 s1 s2 s3 s4 s5 s6 s7 s8 s9 s10 s11 s12;simp only[xD]
   go_simp
theorem ld_Sh:LdV prog 39 1:=by
 intro w g vs h1 B
 match vs,h1 with
 | [v0],_=>
  have c0:=B.c 0 _ rfl;clear B
  go_simp
theorem al_Out(w:World):(Instr.alloc 53 true (.tuple #[])).run prog w=.ok (.pointer (some ⟨w.heap.size,0,none⟩)) (w.alloc (.cells zOut.toArray 53)):=by unfold zOut;go_simp
end Go.Proofs.YtkeikfekkdplgaaGreatDoor
namespace Go.Proofs.YtkeikfekkdplgaaGreatDoor
open Go Go.RowKit Go.Maps
open Go.Proofs.Tryz
set_option maxRecDepth 100000
set_option maxHeartbeats 8000000
theorem fa_Vl0(g:Nat)(w:World):(Instr.fieldAt 50 (.pointer (some ⟨g,0,none⟩)) 0).run prog w=.ok (.pointer (some ⟨g,0,none⟩)) w:=by go_simp
theorem fa_Vl1(g:Nat)(w:World):(Instr.fieldAt 50 (.pointer (some ⟨g,0,none⟩)) 1).run prog w=.ok (.pointer (some ⟨g,8,none⟩)) w:=by go_simp
theorem fa_Vl3(g:Nat)(w:World):(Instr.fieldAt 50 (.pointer (some ⟨g,0,none⟩)) 3).run prog w=.ok (.pointer (some ⟨g,10,none⟩)) w:=by go_simp
theorem ld_e:LdC1 prog 48:=λw a v h=>by go_simp
theorem is_f{q:Kn}{ha:Option Addr}{hn hc:Nat}{x:Value}{w:World}(hx:IsVl (.ok q) (.slice ha hn hc) x w)(hl: -9223372036854775808<=q.lo/\q.lo<=9223372036854775807)(hh: -9223372036854775808<=q.hi/\q.hi<=9223372036854775807):
  Calls prog 38 #[x,.int .i64 q.lo,.int .i64 q.hi,.bool q.fin] w (Ret w (IsV (.bool true))):=by
 have HL:=hid hl;have HH:=hid hh;clear hl hh;obtain⟨s1,a1,n1,c1,s2,a2,n2,c2,s3,a3,n3,c3,s4,a4,n4,c4,rfl,g1,g2⟩:=hx;obtain⟨W,hW,E,B⟩:∃W,W=w.alloc (.cells #[.bool s1,.slice a1 n1 c1,.bool s2,.slice a2 n2 c2,.bool s3,.slice a3 n3 c3,.bool s4,.slice a4 n4 c4,.bool q.fin,.slice ha hn hc,.int .i64 0] 50)/\Ext w W/\Bk W w.heap.size [.bool s1,.slice a1 n1 c1,.bool s2,.slice a2 n2 c2,.bool s3,.slice a3 n3 c3,.bool s4,.slice a4 n4 c4,.bool q.fin,.slice ha hn hc,.int .i64 0]:=zh;replace g1:=IsRat.stbE _ _ _ _ _ E g1;replace g2:=IsRat.stbE _ _ _ _ _ E g2;go_enter func38,ntmps38;go_upto_region 1 with fail;rw[<-hW];clear hW;refine rg 26 [some 9,some 10,some 11,some 12,some 13,some 14,some 15,some 16,some 17,some 18,some 19,some 20,some 21,some 22,some 23,some 24,some 25,some 26,some 27,some 28,some 29,some 30,some 31,some 32,some 33,some 8] [IsP (w.heap.size) 10,iV 0,IsV (.bool true),IsV (.bool true),IsP (w.heap.size) 8,IsV (.bool q.fin),IsV (.bool q.fin),IsV (.bool true),IsV (.bool true),IsV (.bool true),IsP (w.heap.size) 0,IsP (w.heap.size) 0,IsRat 130 (Rat.divInt q.lo 1),iV q.lo,IsRat 2 (Rat.divInt q.lo 1),IsV (.bool true),IsV (.bool true),IsV (.bool true),IsP (w.heap.size) 0,IsP (w.heap.size) 4,IsRat 130 (Rat.divInt q.hi 1),iV q.hi,IsRat 2 (Rat.divInt q.hi 1),IsV (.bool true),IsV (.bool true),IsV (.bool true)] [] 0 ?_ ?_
 ·refine Rc (fa (fa_Vl3 w.heap.size) (qB 4)) ?_;refine Rc (lvC 10 B ld_e (qA 0 9)) ?_;refine Rc (bn (r:=.bool true) (qC 1 10) qF (hr:=λw=>by go_simp)) ?_;refine Rc (mv (qA 2 11)) ?_;refine RcG 3 12 true (fa (fa_Vl1 w.heap.size) (qB 4)) ?_;refine RcG 3 12 true (lvC 8 B ld_b (qA 4 13)) ?_;refine RcG 3 12 true (mv (qB 3)) ?_;refine RcG 3 12 true (bn (r:=.bool true) (qC 5 14) (qC 6 15) (hr:=λw=>by go_simp)) ?_;refine Rc (pk (qC 3 12) (qA 7 16)) ?_;refine Rc (mv (qA 8 17)) ?_;refine RcG 9 18 true (fa (fa_Vl0 w.heap.size) (qB 4)) ?_;refine RcG 9 18 true (fa (fa_Iv0 w.heap.size 0) (qA 10 19)) ?_;refine RcG 9 18 true (lv (fP:=IsRat 130 (Rat.divInt q.lo 1)) _ (λw' e=>ld_Rat w' w.heap.size 0 s1 a1 n1 c1 s2 a2 n2 c2 ((B.ext e).c 0 _ rfl) ((B.ext e).c 1 _ rfl) ((B.ext e).c 2 _ rfl) ((B.ext e).c 3 _ rfl)) (qA 11 20) (λw' e=>IsRat.stbE _ _ _ _ _ e g1)) ?_;refine RcG 9 18 true yo ?_;refine RcG 9 18 true (cl2 (en func47) (qA (fP:=iV q.lo) 13 22) qF (λx0 x1 w' hE d0 d1=>by{obtain rfl:x0=.int .i64 q.lo:=d0;obtain rfl:x1=.int .i64 1:=d1;exact rqOf_f w' q.lo 1 HL.out dcx dcx})) ?_;refine RcG 9 18 true (cl2 (en func19) (qA (fP:=IsRat 130 (Rat.divInt q.lo 1)) 12 21) (qA (fP:=IsRat 2 (Rat.divInt q.lo 1)) 14 23) (λx0 x1 w' hE d0 d1=>rqSame_eq d0 d1 dcx rfl)) ?_;refine Rc (pk (qC 9 18) (qA 15 24)) ?_;refine Rc (mv (qA 16 25)) ?_;refine RcG 17 26 true (fa (fa_Vl0 w.heap.size) (qB 4)) ?_;refine RcG 17 26 true (fa (fa_Iv1 w.heap.size 0) (qA 18 27)) ?_;refine RcG 17 26 true (lv (fP:=IsRat 130 (Rat.divInt q.hi 1)) _ (λw' e=>ld_Rat w' w.heap.size 4 s3 a3 n3 c3 s4 a4 n4 c4 ((B.ext e).c 4 _ rfl) ((B.ext e).c 5 _ rfl) ((B.ext e).c 6 _ rfl) ((B.ext e).c 7 _ rfl)) (qA 19 28) (λw' e=>IsRat.stbE _ _ _ _ _ e g2)) ?_;refine RcG 17 26 true yw ?_;refine RcG 17 26 true (cl2 (en func47) (qA (fP:=iV q.hi) 21 30) qF (λx0 x1 w' hE d0 d1=>by{obtain rfl:x0=.int .i64 q.hi:=d0;obtain rfl:x1=.int .i64 1:=d1;exact rqOf_f w' q.hi 1 HH.out dcx dcx})) ?_;refine RcG 17 26 true (cl2 (en func19) (qA (fP:=IsRat 130 (Rat.divInt q.hi 1)) 20 29) (qA (fP:=IsRat 2 (Rat.divInt q.hi 1)) 22 31) (λx0 x1 w' hE d0 d1=>rqSame_eq d0 d1 dcx rfl)) ?_;refine Rc (pk (qC 17 26) (qA 23 32)) ?_;refine Rc (mv (qA 24 33)) ?_;exact rn0
 intro v X1 e1 hZ _;replace E:=E.trans e1;simp only[lxE,Nat.reduceAdd];rw[show v 25=.bool true from hZ 25 dcx];clear hZ e1;refine jL za ?_ _;go_wp2_with fail
 go_ret
 exact⟨_,rfl,E,rfl⟩
end Go.Proofs.YtkeikfekkdplgaaGreatDoor
namespace Go.Proofs.YtkeikfekkdplgaaGreatDoor
open Go Go.RowKit
open Go.Proofs.Tryz
set_option maxRecDepth 100000
set_option maxHeartbeats 8000000
def Lone{α:Type}(c:Nat)(J:α->World->Prop):Prop:=∀s A B,J s A->A.grownBy B (some c)->J s B
theorem lone_at{A B:World}{c k:Nat}{o:Obj}(hg:A.grownBy B (some c))(hk:A.heap[k]? =some o)(hne:k≠c):B.heap[k]? =some o:=
 (hg.block k (Array.getElem?_eq_some_iff.1 hk).1 (λe=>hne (by cases e;rfl))).trans hk
def SeqBox{α:Type}(F:Fence)(n:Nat)(P:Program)(g:Nat)(lb:Array Value)(encs:α->Array Value)(c:Nat)(S Sp:List α->Prop)(w:World):Prop:=
 ∀ (l:Nat) (J Jx:List α->World->Prop) (W:World),Below w.heap.size w W->Lone c J->Lone c Jx->
  (∀pre x W0,J pre W0->Sp (pre++ [x])->YieldAt F (n-1) P l (encs x) W0 λe W'=>
   (e=.returned (.bool true)/\J (pre++ [x]) W'/\W'.heap[c]? =W0.heap[c]?)\/(e=.returned (.bool false)/\Jx (pre++ [x]) W'))->
  J [] W->
  CallsIn F n P g (#[.func (.yield l) #[] #[]]++lb) W λe W'=>(∃v,e=.returned v)/\((∃xs,S xs/\J xs W')\/(∃pre,Sp pre/\Jx pre W'))
def jumpOf:Exit->Option (Option Code)
 | .normal=>some none
 | .ret=>some (some .ret)
 | .exit id=>some (some (.exit id))
 | .goto t=>some (some (.goto t))
 | .panic _=>none
 | .outgrown=>none
theorem roundPost_of{P:Program}{l:Nat}{R:Ending->World->Prop}{e:Exit}{j:Option Code}{a:Act}{w:World}(hj:jumpOf e=some j)
  (h:∃v w',(Instr.endRound l j).run P w=.ok v w'/\R (.returned v) w'):roundPost P l R e a w:=by
 cases e <;> simp only[jumpOf,Option.some.injEq,reduceCtorEq]at hj <;> subst hj <;> exact h
def boxPost{α:Type}(B c:Nat)(I:List α->World->Prop)(Ix:Code->List α->World->Prop)(xs:List α)(W:World)(e:Exit)(_:Act)(W':World):Prop:=
 ∃j,jumpOf e=some j/\KeepsFrom B W W'/\(match j with|none=>W'.heap[c]? =W.heap[c]? /\I xs W'|some q=>Ix q xs W')
variable {F:Fence} {n:Nat} {P:Program}
theorem wpIn_rangeFunc_box{α:Type}{g:Operand}{ps:Array Tmp}{assign body:Code}{Q:Exit->Act->World->Prop}{a:Act}{w:World}
  (hro:F.round=none) (h1:1<=n) {gf:Nat} {lb:Array Value} (hg:a.eval g=.func (.func gf) #[] lb) (hFg:F.fn gf) (eg:∀args w,(callFunc gf args).run P w=.ok (.enter gf args) w)
  {encs:α->Array Value} {c:Nat} {S Sp:List α->Prop} (hc:c<w.heap.size) (hseq:SeqBox F (n-1) P gf lb encs c S Sp w) (hps:∀x,(encs x).size=ps.size)
  (I:List α->World->Prop) (Ix:Code->List α->World->Prop) (hI:OwnFrom w.heap.size I) (hIx:∀q,OwnFrom w.heap.size (Ix q)) (hIc:Lone c I) (hIxc:∀q,Lone c (Ix q)) (h0:I [] w) (a₁:α->Act)
  (hassign:∀(l:Nat) (x:α) (W:World) (K:Act->World->Prop),K (a₁ x) W->
   assign.wpIn (F.inRound l) (n-1-1) P (Exit.then K (λ_ _ _=>False)) {tmps:=(ps.zip (encs x)).foldl (λt (p,v)=>t.setIfInBounds p v) a.tmps,defers:= []} W)
  (hbody:∀(l:Nat) (pre:List α) (x:α) (W:World),I pre W->Sp (pre++ [x])->body.wpIn (F.inRound l) (n-1-1) P (boxPost w.heap.size c I Ix (pre++ [x]) W) (a₁ x) W)
  (hdone:∀(D:Nat) (xs:List α) (W:World),w.heap.size<=D->S xs->I xs W->W.heap[D]? =some (.deferred (some []))->Q .normal {a with defers:= {target:=.collected D,args:= #[]} ::a.defers} W)
  (hstop:∀(D:Nat) (q:Code) (pre:List α) (W:World),w.heap.size<=D->Sp pre->Ix q pre W->W.heap[D]? =some (.deferred (some []))->q.wpIn F n P Q {a with defers:= {target:=.collected D,args:= #[]} ::a.defers} W):
  (Code.rangeFunc g ps assign body).wpIn F n P Q a w:=by
 refine wpIn_rangeFunc λfn hfn=>?_
 rw[hro];generalize hD:w.heap.size=D at hc hI hIx hbody hdone hstop;have hR:∃R:LoopState->Option Code->Loop,R=λst pe=>{state:=st,pending:=pe,fn,tmps:=a.tmps,params:=ps,assign,body,defers:=D} :=⟨_,rfl⟩
 obtain⟨R,hR⟩:=hR;have hV:∃V,V=(w.alloc (.deferred (some []))).alloc (.loop (R .ready none)):=⟨_,rfl⟩;obtain⟨V,hV⟩:=hV
 have hVl:V.heap[D+1]? =some (.loop (R .ready none)):=by
  have:=World.alloc_heap_new (w.alloc (.deferred (some []))) (.loop (R .ready none));rw[World.size_alloc,hD]at this;rw[hV];exact this
 have hVd:V.heap[D]? =some (.deferred (some [])):=by
  rw[hV,<-hD];exact(Below.heap_alloc _ _ _ zd).trans (World.alloc_heap_new w _)
 have hVb:Below w.heap.size w V:=by
  rw[hV];exact((Below.refl _ w).alloc (jJ _) _).alloc zd _
 have hVI:I [] V:=by rw[hV];exact hI.alloc _ (hI.alloc _ h0)
 have henter:(Instr.enterLoop fn a.tmps ps assign body none).run P w=.ok (D+1, [{target:=.collected D,args:= #[]}]) V:=by
  rw[run_enterLoop_outer,hD,hV,hR]
 refine⟨D+1, [{target:=.collected D,args:= #[]}],V,{target:=.fn (.func gf) lb,args:= #[.func (.yield (D+1)) #[] #[]]},V,gf,
  #[.func (.yield (D+1)) #[] #[]]++lb,V,henter,?_,?_,?_,λ_=>h1,?_⟩
 ·simp only[resolve,hg];simp[go_sem]
 ·intro f' hf';simp[Target.leads]at hf';subst hf';exact hFg
 ·simp[invoke,go_sem,eg]
 ·have hcl:D+1≠c:=by omega
  have hcd:D≠c:=zb
  refine(hseq (D+1)
   (λpre W=>I pre W/\W.heap[D+1]? =some (.loop (R .ready none))/\W.heap[D]? =some (.deferred (some [])))
   (λpre W=>∃q,Ix q pre W/\W.heap[D+1]? =some (.loop (R .done (some q)))/\W.heap[D]? =some (.deferred (some [])))
   V hVb (λs A B h hg=>⟨hIc s A B h.1 hg,lone_at hg h.2.1 hcl,lone_at hg h.2.2 hcd⟩)
   (λs A B ⟨q,h,hl,hd⟩ hg=>⟨q,hIxc q s A B h hg,lone_at hg hl hcl,lone_at hg hd hcd⟩) ?_ ⟨hVI,hVl,hVd⟩).mono ?_
  ·rintro pre x W ⟨hi,hl,hd⟩ hlen;have hy:=run_yield (P:=P) (args:=encs x) hl (by rw[hR];exact hps x);rw[hR]at hy;refine⟨fn,_,assign,body,hy,roundIn_of_wpIn hfn (hassign _ x W _ ⟨_,run_beginRound hl (by rw[hR]),?_⟩)⟩;have hlt:D+1<W.heap.size:=(Array.getElem?_eq_some_iff.1 hl).1;generalize hB:W.putObj (D+1) (.loop {R .ready none with state:=.busy})=B;have hBl:B.heap[D+1]? =some (.loop {R .ready none with state:=.busy}):=by rw[<-hB];exact World.putObj_heap_same hlt
   have hBd:B.heap[D]? =some (.deferred (some [])):=by rw[<-hB];exact(World.putObj_heap_other zb).trans hd
   have hBc:B.heap[c]? =W.heap[c]? :=by rw[<-hB];exact World.putObj_heap_other zb
   have hBI:I pre B:=by rw[<-hB];exact hI.putObj _ hi zb hl rfl
   refine wpIn_mono (hbody _ pre x B hBI hlen) ?_;rintro e a3 C ⟨j,hj,hk,hp⟩;have hCl:=hk.same _ _ zb hBl rfl;have hCd:=hk.same _ _ zb hBd rfl;have hlt':D+1<C.heap.size:=(Array.getElem?_eq_some_iff.1 hCl).1;refine roundPost_of hj ⟨_,_,run_endRound j hCl,?_⟩;have hEl:=World.putObj_heap_same (o:=.loop { {R .ready none with state:=.busy}with state:=if j.isNone then .ready else .done,pending:=j}) hlt';have hEd:=(World.putObj_heap_other (w:=C) (o:=.loop { {R .ready none with state:=.busy}with state:=if j.isNone then .ready else .done,pending:=j}) (show D≠D+1 by omega)).trans hCd;cases j with
   | none=>
    refine .inl ⟨rfl,⟨hI.putObj _ hp.2 zb hCl rfl,?_,hEd⟩,?_⟩
    ·rw[hEl,hR];rfl
    ·exact(World.putObj_heap_other zb).trans (hp.1.trans hBc)
   | some q=>
    refine .inr ⟨rfl,q,(hIx q).putObj _ hp zb hCl rfl,?_,hEd⟩;rw[hEl,hR];rfl
  ·rintro e W0 ⟨⟨v,rfl⟩,(⟨xs,hS,hi,hl,hd⟩| ⟨pre,hSp,q,hi,hl,hd⟩)⟩
   ·have:=run_endLoop (P:=P) hl (by rw[hR];simp);rw[hR]at this;exact⟨none,_,this,hdone _ xs _ (jJ _) hS (hI.putObj _ hi zb hl rfl) ((World.putObj_heap_other zb).trans hd)⟩
   ·have:=run_endLoop (P:=P) hl (by rw[hR];simp);rw[hR]at this;exact⟨some q,_,this,hstop _ q pre _ (jJ _) hSp ((hIx q).putObj _ hi zb hl rfl) ((World.putObj_heap_other zb).trans hd)⟩
#print axioms wpIn_rangeFunc_box
end Go.Proofs.YtkeikfekkdplgaaGreatDoor
namespace Go.Proofs.YtkeikfekkdplgaaGreatDoor
open Go Go.RowKit Go.Shelf
open Go.Proofs.Tryz
set_option maxRecDepth 100000
set_option maxHeartbeats 8000000
theorem calls_of_wp_marks{P:Program}{f:FuncId}{fn:Func}{c:Code}{args:Array Value}{w:World}{R:Ending->World->Prop}
  (hf:P.funcs[f]? =some fn) (hb:fn.body=some c) (h:c.wp P (bodyPostM Fence.wide 9 P fn R) {tmps:=args++Array.replicate (fn.ntmps-args.size) undef,defers:= []} w):Calls P f args w R:=
 callsIn_wide.1 (callsIn_of_wp_marks hf hb trivial (wpIn_wide.2 h))
theorem marks_ret1{P:Program}{fn:Func}{R:Ending->World->Prop}{t:Array Value}{w:World}{v:Value}{D:Nat}(hD:w.heap[D]? =some (.deferred (some [])))
  (h:(results fn t).run P (w.putObj D (.deferred none))=.ok v (w.putObj D (.deferred none))) (hR:R (.returned v) (w.putObj D (.deferred none))):
  bodyPostM Fence.wide 9 P fn R .ret {tmps:=t,defers:= [{target:=.collected D,args:= #[]}]} w:=⟨by simp,.inl ⟨_,_,rfl,run_takeDeferred hD,v,h,hR⟩⟩
theorem in_round{n:Nat}{P:Program}{f:FuncId}{args:Array Value}{w:World}{R:Ending->World->Prop}(l:Nat)(h:Calls P f args w R):CallsIn (Fence.wide.inRound l) n P f args w R:=(callsIn_wide (n:=n)).2 h
theorem ext_keeps{W W':World}(h:Ext W W'):KeepsOthers W W':=⟨h.size,λk _ hk _=>(h.block k (Array.getElem?_eq_some_iff.1 hk).1).trans hk⟩
end Go.Proofs.YtkeikfekkdplgaaGreatDoor
namespace Go.Proofs.YtkeikfekkdplgaaGreatDoor
open Go Go.RowKit Go.Maps Go.Shelf
open Go.Proofs.Tryz
set_option maxRecDepth 100000
set_option maxHeartbeats 8000000
attribute [local go_sem] Oper.semAt_some
theorem marks_panic1{P:Program}{fn:Func}{R:Ending->World->Prop}{t:Array Value}{w:World}{D:Nat}{ch:List PanicEntry}(hD:w.heap[D]? =some (.deferred (some [])))(hR:R (.panicked ch) (w.putObj D (.deferred none))):
  bodyPostM Fence.wide 9 P fn R (.panic ch) {tmps:=t,defers:= [{target:=.collected D,args:= #[]}]} w:=⟨by simp,.inl ⟨_,_,rfl,run_takeDeferred hD,hR⟩⟩
theorem setCells_setL:∀(us:List Value) (W:World) (g j:Nat),W.setCells g j us=xD W g j us
 | [],W,g,j=>rfl
 | u ::us,W,g,j=>by
  unfold xD;rw[<-setCells_setL us];rfl
theorem row_of{T:TypeId}(h:((prog.underlying T).any (·.isRow))=true):∃d,prog.underlying T=some d/\d.isRow=true:=by
 cases hq:prog.underlying T with
 |none=>rw[hq]at h;cases h
 |some d=>rw[hq]at h;exact⟨d,rfl,h⟩
theorem ld_mid{T m:Nat}(hu:((prog.underlying T).any (·.isRow))=true)(hi:(prog.info? T).map (·.size)=some m):LdV prog T m:=λw g vs hl B=>by
 obtain⟨d,h1,h2⟩:=row_of hu;exact run_loadAt_mid w g 0 T vs d (λj v hj=>by rw[Nat.zero_add];exact B.c j v hj) h1 h2 (by rw[hl];exact hi)
theorem st_mid{T m:Nat}(hi:(prog.info? T).map (·.size)=some m):StV prog T m:=λw g vs us hl hl' h1 B=>by
 have ht:w.there g 0 us.toArray.size:=λj hj=>by
  have hj':j<vs.length:=by simp at hj;omega
  rw[Nat.zero_add];exact⟨by rw[B.c j _ (List.getElem?_eq_getElem hj')];rfl,B.f j⟩
 rw[run_storeAt_mid w g 0 T us.toArray ht (by simp only[List.size_toArray];rw[hl'];exact hi) (by simpa using h1),setCells_setL]
def z31:List Value:= [.string ⟨#[]⟩,.slice none 0 0,.slice none 0 0,.bool false,.slice none 0 0,.slice none 0 0,.slice none 0 0,.int .i64 0,.bool false,.slice none 0 0,.slice none 0 0,.slice none 0 0,.int .i64 0,.int .i64 0,.int .i64 0,.int .i64 0,.slice none 0 0,.slice none 0 0,.slice none 0 0,.slice none 0 0,.bool false,.slice none 0 0,.bool false,.slice none 0 0,.slice none 0 0,.slice none 0 0,.slice none 0 0,.slice none 0 0,.slice none 0 0,.slice none 0 0,.slice none 0 0]
theorem al_En(w:World):(Instr.alloc 95 true (.tuple #[])).run prog w=.ok (.pointer (some ⟨w.heap.size,0,none⟩)) (w.alloc (.cells z31.toArray 95)):=by unfold z31;go_simp
theorem nwE:∀v∈z31,NoWord v:=by
 intro v hv;have:z31.all (λv=>match v with| .string _=>true| .slice _ _ _=>true| .int .i64 _=>true| .bool _=>true|_=>false)=true:=rfl;have h:=List.all_eq_true.1 this v hv;cases v with
 |string s=>exact NoWord.string _
 |slice a n c=>exact NoWord.slice _ _ _
 |bool b=>exact NoWord.bool _
 |int q z=>cases q <;> first|exact NoWord.int64 _|simp at h
 |_=>simp at h
theorem ld_En:LdV prog 95 31:=ld_mid za za
theorem st_En:StV prog 95 31:=st_mid za
end Go.Proofs.YtkeikfekkdplgaaGreatDoor
namespace Go.Proofs.YtkeikfekkdplgaaGreatDoor
open Go Go.RowKit Go.Maps Go.Shelf
open Go.Proofs.Tryz
set_option maxRecDepth 100000
set_option maxHeartbeats 8000000
attribute [local go_sem] Oper.semAt_some
theorem back_c(w:World)(a:Option Addr)(n c:Nat):Calls prog 135 #[.slice a n c] w λe w'=>e=.returned (.func (.func 179) #[] #[.pointer (some ⟨w.heap.size,0,none⟩)])/\w'=w.alloc (.cells #[.slice a n c] 197):=by
 have hmf:∀(fn:Fn) (first cap:Array Value) (w:World),(Instr.makeFunc fn first cap).run prog w=.ok (.func fn first cap) w:=λ_ _ _ _=>rfl
 go_enter func135,ntmps135;go_wp2_with fail
 go_ret
 exact⟨rfl,rfl⟩
theorem turned_rm{h b:Nat}{w w':World}(t:w.mapTurned w' b)(hb:b=h\/b=h+1):Rm h w w':=by
 have hg:=t.grown;obtain⟨es,clock,_,_,hm,_⟩:=t;refine⟨hg.os,hg.tape,hg.output,hg.size,λk hk hh=>hg.block k hk (λe=>by injection e with e;omega),⟨hg.size,λp x hp=>?_⟩⟩;have hl:=World.block_lt_of_cell? w p hp;refine(World.cell?_of_block (w:=w) (a:=p) (hg.block p.block hl (λe=>?_))).trans hp;injection e with e;obtain⟨o,h1,h2⟩:=cells_of_cell hp;rw[e,hm]at h1;cases h1;cases h2
theorem wp_mu{P:Program}{Q:Exit->Act->World->Prop}{o:Oper}{a:Act}{W w':World}{K:Act->World->Prop}{t:Nat}{x y z:Operand}{m key val:Value}(hx:a.eval x=m)(hy:a.eval y=key)(hz:a.eval z=val)(hr:(Instr.mapUpdate t m key val).run P W=.ok () w')(hK:K a w')(ho:o.op=.mapUpdate t x y z:=by rfl)(hd:o.dst=none:=by rfl):Oper.wp P o a W K Q:=by
 have h9:(execOp a.eval o).run P W=.ok .skip w':=by
  unfold execOp;rw[ho];dsimp only;rw[hx,hy,hz];simp[hr]
 unfold Oper.wp;rw[h9];show K (a.put o.dst undef) w';rw[hd];exact hK
theorem wp_mvA{P:Program}{Q:Exit->Act->World->Prop}{o:Oper}{a:Act}{W:World}{K:Act->World->Prop}{x:Operand}{u:Value}(hx:a.eval x=u)(hK:K (a.put o.dst u) W)(ho:o.op=.assign x:=by rfl):Oper.wp P o a W K Q:=by
 have h9:(execOp a.eval o).run P W=.ok (.value u) W:=by
  unfold execOp;rw[ho];dsimp only;rw[hx];simp
 unfold Oper.wp;rw[h9];exact hK
theorem fa_Mc2(g:Nat)(w:World):(Instr.fieldAt 154 (.pointer (some ⟨g,0,none⟩)) 2).run prog w=.ok (.pointer (some ⟨g,2,none⟩)) w:=by go_simp
theorem fa_Mc3(g:Nat)(w:World):(Instr.fieldAt 154 (.pointer (some ⟨g,0,none⟩)) 3).run prog w=.ok (.pointer (some ⟨g,3,none⟩)) w:=by go_simp
theorem ld_ai:LdC1 prog 41:=λw a v h=>by go_simp
theorem ld_aI:LdC1 prog 69:=λw a v h=>by go_simp
theorem ld_ShM{w:World}{g o:Nat}{v:Value}(h:World.cell? w ⟨g,o,none⟩=some v):(Instr.loadAt 39 (.pointer (some ⟨g,o,none⟩))).run prog w=.ok (.agg #[v]) w:=by
 obtain⟨d,h1,h2⟩:=row_of (T:=39) za
 exact run_loadAt_mid w g o 39 [v] d (λj u hj=>by
  rcases j with _|j
  ·simp at hj;subst hj;exact h
  ·simp at hj) h1 h2 za
theorem Bk.grown{W W':World}{g b:Nat}{vs:List Value}(B:Bk W g vs)(hg:W.grownBy W' (some b))(hne:g≠b):Bk W' g vs:=by
 have hb:=hg.block g B.lt (λe=>hne (by injection e));exact⟨λj v hj=>(World.cell?_of_block (w:=W) (a:=⟨g,j,none⟩) hb).trans (B.c j v hj),λj=>(World.frozen?_of_block (w:=W) (a:=⟨g,j,none⟩) hb).trans (B.f j),Nat.lt_of_lt_of_le B.lt hg.size⟩
theorem obD{W:World}{D:Nat}{p q:Option (List Deferred)}(h:W.heap[D]? =some (.deferred p)):Ob D W (W.putObj D (.deferred q)):=by
 have hs:(W.putObj D (.deferred q)).heap.size=W.heap.size:=by simp[World.putObj]
 have hb:∀k,k≠D->(W.putObj D (.deferred q)).heap[k]? =W.heap[k]? :=λk hk=>World.putObj_heap_other zb
 refine⟨rfl,rfl,rfl,by omega,λk _ hg=>hb k hg,⟨by omega,λp x hp=>?_⟩⟩;refine(World.cell?_of_block (w:=W) (a:=p) (hb p.block λe=>?_)).trans hp;obtain⟨o,h1,h2⟩:=cells_of_cell hp;rw[e,h]at h1;cases h1;cases h2
theorem Rm.ob{h g:Nat}{w0 w w':World}(r:Rm h w0 w)(e:Ob g w w')(hg:w0.heap.size<=g):Rm h w0 w':=
 ⟨e.os.trans r.os,e.tape.trans r.tape,e.output.trans r.output,jK r.size e.size,λk hk hh=>(e.block k (Nat.lt_of_lt_of_le hk r.size) zb).trans (r.block k hk hh),r.gr.trans e.gr⟩
theorem MAt.grown{m:Mc}{left b:Nat}{w w':World}(x:MAt m left w)(hg:w.grownBy w' (some b))(hb:b=m.h\/b=m.h+1):MAt m left w':=⟨x.bk.grown hg zb,x.fit⟩
theorem MAt.ob{m:Mc}{left g:Nat}{w w':World}(x:MAt m left w)(e:Ob g w w')(hg:m.h+2≠g):MAt m left w':=⟨e.bk x.bk hg,x.fit⟩
end Go.Proofs.YtkeikfekkdplgaaGreatDoor
namespace Go.Proofs.YtkeikfekkdplgaaGreatDoor
open Go Go.RowKit Go.Maps Go.Sort
open Go.Proofs.Tryz
set_option maxRecDepth 100000
set_option maxHeartbeats 8000000
abbrev Own1(T:TypeId)(base:Nat)(xs:List Value)(v:Value)(w:World):Prop:=w.ownsRow base T 1 v xs.length xs
theorem ext_sort{w0 w w':World}{g:Nat}(E:Ext w0 w)(h:w.grownBy w' (some g))(hg:w0.heap.size<=g):Ext w0 w':=Below.grown E h E.size (λk hk=>by cases hk;exact hg)
theorem tEg1_1{P:Prop}(h:P:=by
  refine⟨_,cnt2,ss++ [x],hrg3,by simp;omega,by simpa using hown',hC.step hlk hat,?_⟩;exact((hnx.grown hg2 hnx.size (λj hj=>by cases hj;exact jJ _)).alloc (by have:=hnx.size;have:=hg2.size;omega) _).grown hg3 zaa (λj hj=>(hrow2.lt j hj).1)
  ):P:=h
theorem sortedS_g{b n:Nat}{w:World}{D:DU}(hown:w.ownsMap prog 9 (plainElem prog 4) b n D)(hmax:n<=1000000):
  Calls prog 68 #[.map (some b)] w (λe w'=>Ext w w'/\∃v,e=.returned v/\Own1 9 w.heap.size (((strKeys D).mergeSort leB).map (encStr)) v w'):=by
 obtain⟨i0,hi,hz0,hz1,hz2⟩:=info_parts (P:=prog) (e:=9) (z:=.string ⟨#[]⟩) (size:=1) (bytes:=16) za;have hbl:=hown.lt;have hsz:=hown.size_le;go_enter func68,ntmps68;go_wp2_with (first| (at_range;refine wpList_range_own _ rfl _ 151 rfl 9 4 lawS ty_ms _ b n _ rfl hown ?_;intro w0 hrg0 hg0 hs0)|go_in)
 go_frame
 have hs1:=hg0.size
 go_loopw [3] (λv wr=>∃(left:Lit->Bool) (cnt:Nat) (ss:List (List UInt8)),wr.ranges prog 9 (plainElem prog 4) b w.heap.size n D left cnt/\ss.length+cnt<=Maps.size D/\
   wr.ownsRow w.heap.size 9 1 v ss.length (ss.map (encStr))/\Collected D left ss/\Below w.heap.size w wr)
  (λ_ wr=>wr.rangeLeft b w.heap.size)
 case atStart=>
  exact⟨_,_, [],hrg0,by simp,World.ownsRow_nil _ _ _ _,Collected.start D,(Below.refl _ _).grown hg0 (jJ _) (λj hj=>by cases hj)⟩
 case round=>
  obtain⟨left,cnt,ss,hrg,hcs,hrow,hC,hnx⟩:=hrel
  go_wp2_with (first
   | (at_next;go_loud (refine wpList_next_ranges _ rfl _ rfl 9 lawS (plainElem prog 4) (encStr) (λq:Nat=>Value.bool (Nat.beq q 0)) (λkey kl hk=>by obtain⟨x,hx,_⟩:=Maps.keyOf_str ty_str hk;exact⟨x,hx⟩) (λv y hv=>boolV hv) b w.heap.size n _ _ _ rfl hrg ?_ ?_))
   |go_in)
  ·intro hc0 hl0;have hP:ss.Perm (strKeys D):=hC.perm hown lawS ty_str hl0;have hM:ss.mergeSort leB=(strKeys D).mergeSort leB:=mergeSort_of_perm hP;rcases hrow.2 with⟨hnil,hl⟩| ⟨g,cap,cur,hv,hbase,hb,h1,h2,h3,h4⟩
   ·subst hnil;obtain rfl:ss= []:=List.eq_nil_of_length_eq_zero hl;go_wp2_with (go_at_call 86;refine(sort_string none 0 0 _ dcx).mono ?_;rintro e w1 ⟨rfl,e1⟩)
    go_ret
    rw[<-hM,show([]:List (List UInt8)).mergeSort leB= []from by simp];exact⟨Ext.trans hnx e1,_,rfl,World.ownsRow_nil _ _ _ _⟩
   ·subst hv;have hH:Holds (encStr) wr g 0 ss.toArray:=holds_of_block hb (by simpa using h4);have hgl:g<wr.heap.size:=(Array.getElem?_eq_some_iff.1 hb).1;have hc:=Tryz.slices_Sort_string g 0 cap ss wr hH hgl zb;go_wp2_with (go_at_call 86;refine hc.mono ?_;rintro e w' ⟨rfl,nn,os,rfl⟩)
    go_ret
    rw[<-hM];refine⟨ext_sort hnx (grownBy_sorted _) hbase,_,rfl,?_⟩;have:=ownsRow_sorted (n:=nn) (os:=os) (ts:=ss.mergeSort leB) zd hbase hb h1 h2 h3
    simpa [Own1]using this
  ·intro x c kl yd yp w2 cnt2 hkey hlk hv hat hrg2 hlt hg2 hs2 hen;obtain⟨x',ex,rfl,_⟩:=Maps.keyOf_str ty_str hkey;obtain rfl:x=x':=encStr_inj ex;have hrow2:=hrow.kept hg2 (Or.inr (row_ne_iter hrow hrg).symm);clear hs2
   go_wp2_with (first
    | (at_builtin;refine wpList_append_own _ rfl _ _ 51 rfl w.heap.size 9 i0 (.string ⟨#[]⟩) 1 16 ty_as hi hz0 hz1 hz2 rfl dcx _ _ _ rfl (hrow2.alloc _) ⟨w2.heap.size,0,none⟩ 1 1 [(encStr) x] rfl rfl (cell_one_new _ _ _) (by simp[Value.oneCell',encStr]) (by unfold maxLen at *;omega) zb zaa ?_;intro v' w3 hown' hg3 hnil3;go_frame)
    |go_in)
   have hrg3:=(hrg2.alloc _).kept hg3 (row_ne_low hrow2 hbl) (row_ne_iter hrow2 hrg2)
   go_roundw
   case rel=>
    exact tEg1_1
   case measure=>rw[hrg3.left_eq,hrg.left_eq];exact hlt
theorem sortedI_g{b n:Nat}{w:World}{D:DU}(hown:w.ownsMap prog 3 (plainElem prog 4) b n D)(hmax:n<=1000000):
  Calls prog 67 #[.map (some b)] w (λe w'=>Ext w w'/\∃v,e=.returned v/\Own1 3 w.heap.size (((intKeys D).mergeSort (λx y:Int=>decide (x<=y))).map (Value.int .i64)) v w'):=by
 obtain⟨i0,hi,hz0,hz1,hz2⟩:=info_parts (P:=prog) (e:=3) (z:=.int .i64 0) (size:=1) (bytes:=8) za;have hbl:=hown.lt;have hsz:=hown.size_le;go_enter func67,ntmps67;go_wp2_with (first| (at_range;refine wpList_range_own _ rfl _ 152 rfl 3 4 lawI ty_mi _ b n _ rfl hown ?_;intro w0 hrg0 hg0 hs0)|go_in)
 go_frame
 have hs1:=hg0.size
 go_loopw [3] (λv wr=>∃(left:Lit->Bool) (cnt:Nat) (ss:List (Int)),wr.ranges prog 3 (plainElem prog 4) b w.heap.size n D left cnt/\ss.length+cnt<=Maps.size D/\
   wr.ownsRow w.heap.size 3 1 v ss.length (ss.map (Value.int .i64))/\CollectedI D left ss/\Below w.heap.size w wr)
  (λ_ wr=>wr.rangeLeft b w.heap.size)
 case atStart=>
  exact⟨_,_, [],hrg0,by simp,World.ownsRow_nil _ _ _ _,CollectedI.start D,(Below.refl _ _).grown hg0 (jJ _) (λj hj=>by cases hj)⟩
 case round=>
  obtain⟨left,cnt,ss,hrg,hcs,hrow,hC,hnx⟩:=hrel
  go_wp2_with (first
   | (at_next;go_loud (refine wpList_next_ranges _ rfl _ rfl 3 lawI (plainElem prog 4) (Value.int .i64) (λq:Nat=>Value.bool (Nat.beq q 0)) (λkey kl hk=>by obtain⟨x,hx,_⟩:=Maps.keyOf_int_inv ty_int hk;exact⟨x,hx⟩) (λv y hv=>boolV hv) b w.heap.size n _ _ _ rfl hrg ?_ ?_))
   |go_in)
  ·intro hc0 hl0;have hP:ss.Perm (intKeys D):=hC.perm hown lawI ty_int hl0;have hM:ss.mergeSort (λx y:Int=>decide (x<=y))=(intKeys D).mergeSort (λx y:Int=>decide (x<=y)):=mergeSort_of_perm_i hP;rcases hrow.2 with⟨hnil,hl⟩| ⟨g,cap,cur,hv,hbase,hb,h1,h2,h3,h4⟩
   ·subst hnil;obtain rfl:ss= []:=List.eq_nil_of_length_eq_zero hl;go_wp2_with (go_at_call 85;refine(sort_int none 0 0 _ dcx).mono ?_;rintro e w1 ⟨rfl,e1⟩)
    go_ret
    rw[<-hM,show([]:List (Int)).mergeSort (λx y:Int=>decide (x<=y))= []from by simp];exact⟨Ext.trans hnx e1,_,rfl,World.ownsRow_nil _ _ _ _⟩
   ·subst hv;have hH:Holds (Value.int .i64) wr g 0 ss.toArray:=holds_of_blockI hb (by simpa using h4);have hgl:g<wr.heap.size:=(Array.getElem?_eq_some_iff.1 hb).1;have hc:=Tryz.slices_Sort_int g 0 cap ss wr hH hgl zb;go_wp2_with (go_at_call 85;refine hc.mono ?_;rintro e w' ⟨rfl,nn,os,rfl⟩)
    go_ret
    rw[<-hM];refine⟨ext_sort hnx (grownBy_sortedI _) hbase,_,rfl,?_⟩;have:=ownsRow_sortedI (n:=nn) (os:=os) (ts:=ss.mergeSort (λx y:Int=>decide (x<=y))) zd hbase hb h1 h2 h3
    simpa [Own1]using this
  ·intro x c kl yd yp w2 cnt2 hkey hlk hv hat hrg2 hlt hg2 hs2 hen;obtain⟨x',ex,rfl,_⟩:=Maps.keyOf_int_inv ty_int hkey;injection ex with _ ex;subst ex;have hrow2:=hrow.kept hg2 (Or.inr (row_ne_iter hrow hrg).symm);clear hs2
   go_wp2_with (first
    | (at_builtin;refine wpList_append_own _ rfl _ _ 41 rfl w.heap.size 3 i0 (.int .i64 0) 1 8 ty_ai hi hz0 hz1 hz2 rfl dcx _ _ _ rfl (hrow2.alloc _) ⟨w2.heap.size,0,none⟩ 1 1 [(Value.int .i64) x] rfl rfl (cell_one_new _ _ _) xt (by unfold maxLen at *;omega) zb zaa ?_;intro v' w3 hown' hg3 hnil3;go_frame)
    |go_in)
   have hrg3:=(hrg2.alloc _).kept hg3 (row_ne_low hrow2 hbl) (row_ne_iter hrow2 hrg2)
   go_roundw
   case rel=>
    exact tEg1_1
   case measure=>rw[hrg3.left_eq,hrg.left_eq];exact hlt
end Go.Proofs.YtkeikfekkdplgaaGreatDoor
end
