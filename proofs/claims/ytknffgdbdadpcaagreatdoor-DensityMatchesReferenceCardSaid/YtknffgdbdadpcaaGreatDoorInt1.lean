/-
 Integers of package integer: of, Neg, Abs, Sign, Bits. Every integer of at most 2^28 words. Integers of package integer: Neg, Abs, Bits, Add, Mul. Every integer of at most 2^28 words. What a function's own boxes (parameters and results that lie in memory) keep while it calls others. No condition. Boxes of a function's own, by their numbers, each with what it holds. No condition. Integers of package integer: Neg, Bits, Mul, Add, Sub. Every integer of at most 2^28 words.
-/
import Derived.Test.YtknffgdbdadpcaaGreatDoorDivN
import Derived.Deep.RegionHeld3
import Derived.WalkSpells
import Derived.Test.YtknffgdbdadpcaaGreatDoorAdd
namespace Go.Proofs.YtknffgdbdadpcaaGreatDoor
open Go Go.RowKit
open Go.Proofs.Tryz
theorem zbd{P:Prop}(h:P:=by simpa using hj):P:=h
abbrev zD:=@bodyPost_ret
abbrev zC:=@Calls.mono
set_option maxRecDepth 100000
set_option maxHeartbeats 1000000
theorem IntAt.mk{w:World}{k n cap m:Nat}{ao:Option Addr}(h:NatAt w k ao n cap m)(s:Bool)(h0:n≠0):IntAt w k s ao n cap (if s then -(m:Int)else m):=⟨m,h,λh=>absurd h h0,rfl⟩
theorem IntAt.zero{w:World}:IntAt w 0 false none 0 0 0:=⟨0,⟨[],wd_nil _ _ _ zb,by omega,by omega,rfl⟩,λ_=>rfl,rfl⟩
theorem NatAt.back{w0 w:World}{k n n' cap cap' m:Nat}{ao:Option Addr}{xs:List Nat}(h:NatAt w k ao n' cap' m)(h0:Wd w0 ao n cap xs)(e:Ext w0 w)(hn:n'<=n):NatAt w0 k ao n' cap' m:=by
 obtain⟨ys,a,b⟩:=h;refine⟨ys,⟨a.len,a.capo,a.big,a.lt,?_⟩,b⟩;rcases h0.at_ with h1| ⟨b1,off,h1,h2,h3⟩
 ·left;omega
 ·refine .inr ⟨b1,off,h1,h2,λj hj=>?_⟩;subst h1;have c1:=h3 j zb;have c2:=a.cell j hj;rw[e.cell c1]at c2;rw[c1,c2]
theorem of_c(w:World)(s:Bool)(ao:Option Addr)(n cap:Nat)(xs:List Nat)(z:Int)(h:Wd w ao n cap xs)(hz:z=if s then -(qF xs:Int)else qF xs):
  Calls prog 87 #[.bool s,.slice ao n cap] w (RInt w n z):=by
 have h1:=hid (trim_wd _ ao n cap xs (h.ext ((Ext.refl w).alloc (.cells #[.bool false,.slice none 0 0] 33))));have Hz:=hid hz;have Hh:=hid h;clear hz h;go_enter func87,ntmps87;go_wp2_with fail;refine(h1.out).mono ?_;rintro e w' ⟨n',rfl,rfl,hn⟩;clear h1;have hle:=hn.le;have hn:=hn.back Hh.out ((Ext.refl w).alloc _) hle;by_cases h0:n'=0
 ·have hm:=(hn.zero).2 h0;have hz0:z=0:=by rw[Hz.out,hm];cases s <;> rfl
  subst h0;go_wp2_with fail;refine zD (v:=.agg #[.bool false,.slice none 0 0]) (by simp[results,results87,go_sem]) rfl ?_;rw[hz0];exact⟨_,_,_,_,rfl,(Ext.refl w).alloc _,IntAt.zero.mono zb⟩
 ·have h0':((n':Int)==0)=false:=by rw[zH];omega
  have h00:=hid h0;clear h0;go_wp2_with fail;refine zD (v:=.agg #[.bool s,.slice ao n' cap]) (by simp[results,results87,go_sem]) rfl ?_;refine⟨_,_,_,_,rfl,(Ext.refl w).alloc _,?_⟩;rw[Hz.out];exact IntAt.mk (hn.ext ((Ext.refl w).alloc _)) s h00.out
theorem Sign_c(w:World)(s:Bool)(ao:Option Addr)(n cap k:Nat)(z:Int)(h:IntAt w k s ao n cap z):
  Calls prog 84 #[.agg #[.bool s,.slice ao n cap]] w (RVal w (.int .i64 z.sign)):=by
 obtain⟨m,hm,hs,hz⟩:=h;have hz0:=hm.zero;rcases zI n with h0|h0
 ·have:z.sign=0:=by
   rw[hz,hz0.2 h0];cases s <;> rfl
  rw[this];subst h0;clear hm hs hz hz0 this;go_enter func84,ntmps84
  go_wp2
  go_ret
  exact⟨rfl,(Ext.refl w).alloc _⟩
 ·have hm0:m≠0:=λh=>by have:=hz0.1 h;omega
  have h1:((n:Int)==0)=false:=jk
  cases s
  ·have:z.sign=1:=by rw[hz];exact Int.sign_eq_one_of_pos jl
   rw[this];clear hm hs hz hz0 this hm0 h0;go_enter func84,ntmps84
   go_wp2
   go_ret
   exact⟨rfl,(Ext.refl w).alloc _⟩
  ·have:z.sign= -1:=by rw[hz];exact Int.sign_eq_neg_one_of_neg jl
   rw[this];clear hm hs hz hz0 this hm0 h0;go_enter func84,ntmps84
   go_wp2
   go_ret
   exact⟨rfl,(Ext.refl w).alloc _⟩
theorem Wd.set{w:World}{ao:Option Addr}{n cap:Nat}{xs:List Nat}(h:Wd w ao n cap xs)(p:Addr){u:Value}(hp:w.cell? p=some u)(hu:∀x,u≠ .int .u32 x)(v:Value):Wd (w.setCell p v) ao n cap xs:=by
 refine⟨h.len,h.capo,h.big,h.lt,h.at_.imp id λ⟨b,off,h1,h2,h3⟩=>⟨b,off,h1,by simpa [World.setCell]using h2,λj hj=>?_⟩⟩;have:=h3 j hj;rw[World.cell?_setCell_other]
 ·exact this
 ·intro he;rw[he,this]at hp;exact hu _ (Option.some.inj hp).symm
theorem NatAt.set{w:World}{k n cap m:Nat}{ao:Option Addr}(h:NatAt w k ao n cap m)(p:Addr){u:Value}(hp:w.cell? p=some u)(hu:∀x,u≠ .int .u32 x)(v:Value):NatAt (w.setCell p v) k ao n cap m:=
 let ⟨xs,h1,h2⟩:=h;⟨xs,h1.set p hp hu v,h2⟩
theorem IntAt.set{w:World}{k n cap:Nat}{s:Bool}{ao:Option Addr}{z:Int}(h:IntAt w k s ao n cap z)(p:Addr){u:Value}(hp:w.cell? p=some u)(hu:∀x,u≠ .int .u32 x)(v:Value):IntAt (w.setCell p v) k s ao n cap z:=
 let ⟨m,h1,h2⟩:=h;⟨m,h1.set p hp hu v,h2⟩
def Blk(w:World)(b:Nat)(s:Bool)(ao:Option Addr)(n cap:Nat):Prop:=w.heap[b]? =some (.cells #[.bool s,.slice ao n cap] 33 (0,0))
theorem Blk.lt{w:World}{b n cap:Nat}{s:Bool}{ao:Option Addr}(h:Blk w b s ao n cap):b<w.heap.size:=by
 rcases zQ b w.heap.size with h1|h1
 ·exact h1
 ·unfold Blk at h;simp[Array.getElem?_eq_none h1]at h
theorem Blk.ext{w w':World}{b n cap:Nat}{s:Bool}{ao:Option Addr}(h:Blk w b s ao n cap)(e:Ext w w'):Blk w' b s ao n cap:=by
 have:=Below.block e b h.lt;unfold Blk at*;rw[this];exact h
theorem Blk.c0{w:World}{b n cap:Nat}{s:Bool}{ao:Option Addr}(h:Blk w b s ao n cap):w.cell? ⟨b,0,none⟩=some (.bool s):=by
 simp only[World.cell?];rw[h];simp
theorem Blk.c1{w:World}{b n cap:Nat}{s:Bool}{ao:Option Addr}(h:Blk w b s ao n cap):w.cell? ⟨b,1,none⟩=some (.slice ao n cap):=by
 simp only[World.cell?];rw[h];simp
theorem Blk.f{w:World}{b n cap:Nat}{s:Bool}{ao:Option Addr}(h:Blk w b s ao n cap)(i:Nat):w.frozen? ⟨b,i,none⟩=false:=by
 simp only[World.frozen?];rw[h];simp
theorem Blk.new(w:World)(s:Bool)(ao:Option Addr)(n cap:Nat):Blk (w.alloc (.cells #[.bool s,.slice ao n cap] 33)) w.heap.size s ao n cap:=by
 show(w.heap.push _)[w.heap.size]? =_;simp
def setBlk(w:World)(b:Nat)(s:Bool)(ao:Option Addr)(n cap:Nat):World:=(w.setCell ⟨b,0,none⟩ (.bool s)).setCell ⟨b,1,none⟩ (.slice ao n cap)
theorem IntAt.put{w:World}{k n cap b n1 cap1 n2 cap2:Nat}{s s1 s2:Bool}{ao a1 a2:Option Addr}{z:Int}(h:IntAt w k s ao n cap z)(hb:Blk w b s1 a1 n1 cap1):IntAt (setBlk w b s2 a2 n2 cap2) k s ao n cap z:=by
 refine(h.set ⟨b,0,none⟩ hb.c0 (λx=>by simp) _).set ⟨b,1,none⟩ (u:=.slice a1 n1 cap1) ?_ (λx=>by simp) _;rw[World.cell?_setCell_other]
 ·exact hb.c1
 ·simp
theorem Ext.put{a w:World}(h:Ext a w){b n cap:Nat}{s:Bool}{ao:Option Addr}(hb:a.heap.size<=b):Ext a (setBlk w b s ao n cap):=(h.set hb _).set hb _
theorem pro1(w:World)(s:Bool)(ao:Option Addr)(n cap:Nat):∃W,W=(w.alloc (.cells #[.bool s,.slice ao n cap] 33)).alloc (.cells #[.bool false,.slice none 0 0] 33)/\Ext w W/\
  Blk W w.heap.size s ao n cap/\Blk W (w.heap.size+1) false none 0 0:=by
 refine⟨_,rfl,((Ext.refl w).alloc _).alloc _,(Blk.new w s ao n cap).ext ((Ext.refl _).alloc _),?_⟩;have:=Blk.new (w.alloc (.cells #[.bool s,.slice ao n cap] 33)) false none 0 0
 simpa using this
theorem Abs_c(w:World)(s:Bool)(ao:Option Addr)(n cap k:Nat)(z:Int)(h:IntAt w k s ao n cap z):
  Calls prog 96 #[.agg #[.bool s,.slice ao n cap]] w (RInt w k z.natAbs):=by
 obtain⟨m,⟨xs,hw,hk,_,hm⟩,hs,hz⟩:=h;have hz':(z.natAbs:Int)=qF xs:=by rw[hz,hm];cases s <;> simp
 have Hw:=hid hw;have Hz:=hid hz';clear hw hz hz' hm;obtain⟨W,hW,e0,b0,b1⟩:=pro1 w s ao n cap;go_enter func96,ntmps96;go_wp2_with fail;refine zC (of_c _ false _ _ _ xs z.natAbs (hW▸Hw.out.ext e0) (by rw[Hz.out];simp)) ?_;rw[<-hW];clear hW;rintro e w1 ⟨s1,a1,n1,c1,rfl,e1,h1⟩;have b1:=b1.ext e1;have q0:=b1.c0;have q1:=b1.c1;have r0:=b1.f 0;have r1:=b1.f 1;have B1:=hid b1;clear b0 b1;go_wp2_with fail;refine zD (v:=.agg #[.bool s1,.slice a1 n1 c1]) (by simp[results,results96,go_sem,q0,q1]) rfl ?_;exact⟨_,_,_,_,rfl,(e0.trans e1).put (Nat.le_succ _),(h1.put B1.out).mono hk⟩
def NoWord(v:Value):Prop:=∀x,v≠ .int .u32 x
theorem NoWord.bool(b:Bool):NoWord (.bool b):=λx=>by simp
theorem NoWord.slice(a:Option Addr)(n c:Nat):NoWord (.slice a n c):=λx=>by simp
structure Kp (w w':World) (L:List (Nat×List Value)) (R:List (Nat×Nat)):Prop where
 ext:Ext w w'
 known:∀e∈L,∃t,w'.heap[w.heap.size+e.1]? =some (.cells e.2.toArray t (0,0))
 free:∀e∈R,∃(c:Array Value) (t:TypeId),c.size=e.2/\(∀(j:Nat) (v:Value),c[j]? =some v->NoWord v)/\w'.heap[w.heap.size+e.1]? =some (.cells c t (0,0))
theorem heap_lt{w:World}{b:Nat}{o:Obj}(h:w.heap[b]? =some o):b<w.heap.size:=by
 rcases zQ b w.heap.size with h1|h1
 ·exact h1
 ·simp[Array.getElem?_eq_none h1]at h
theorem Ext.heap{w w':World}{b:Nat}{o:Obj}(e:Ext w w')(h:w.heap[b]? =some o):w'.heap[b]? =some o:=by
 rw[Below.block e b (heap_lt h)];exact h
theorem Kp.after{w w' w'':World}{L:List (Nat×List Value)}{R:List (Nat×Nat)}(h:Kp w w' L R)(e:Ext w' w''):Kp w w'' L R:=
 ⟨h.ext.trans e,λx hx=>let ⟨t,h1⟩:=h.known x hx;⟨t,e.heap h1⟩,λx hx=>let ⟨c,t,h1,h2,h3⟩:=h.free x hx;⟨c,t,h1,h2,e.heap h3⟩⟩
theorem Kp.drew{w w':World}{L:List (Nat×List Value)}{R:List (Nat×Nat)}(h:Kp w w' L R):Kp w w'.drew L R:=h.after (Ext.refl _).drew
theorem Kp.drewN{w w':World}{L:List (Nat×List Value)}{R:List (Nat×Nat)}(h:Kp w w' L R)(n:Nat):Kp w (w'.drewN n) L R:=h.after ((Ext.refl _).drewN n)
theorem Kp.cell{w w':World}{L:List (Nat×List Value)}{R:List (Nat×Nat)}(h:Kp w w' L R)(i j:Nat)(c:List Value)(v:Value)(hi:(i,c)∈L)(hj:c[j]? =some v):w'.cell? ⟨w.heap.size+i,j,none⟩=some v:=by
 obtain⟨t,h1⟩:=h.known _ hi;simp only[World.cell?];rw[h1];simpa using hj
theorem Kp.res{w w':World}{L:List (Nat×List Value)}{R:List (Nat×Nat)}(h:Kp w w' L R)(i n:Nat)(hi:(i,n)∈R)(j:Nat)(hj:j<n):
  (∃v,w'.cell? ⟨w.heap.size+i,j,none⟩=some v/\NoWord v)/\w'.frozen? ⟨w.heap.size+i,j,none⟩=false:=by
 obtain⟨c,t,h1,h2,h3⟩:=h.free _ hi;have hj':j<c.size:=zb
 refine⟨⟨c[j],?_,h2 j _ (by simp[hj'])⟩,?_⟩
 ·simp only[World.cell?];rw[h3];simp[hj']
 ·simp only[World.frozen?];rw[h3];simp
theorem Kp.set{w w':World}{L:List (Nat×List Value)}{R:List (Nat×Nat)}(h:Kp w w' L R)(i n j:Nat)(v:Value)(_hi:(i,n)∈R)(hv:NoWord v)(hL:∀e∈L,e.1≠i):
  Kp w (w'.setCell ⟨w.heap.size+i,j,none⟩ v) L R:=by
 refine⟨h.ext.set (Nat.le_add_right _ _) _,λx hx=>?_,λx hx=>?_⟩
 ·obtain⟨t,h1⟩:=h.known x hx;refine⟨t,?_⟩;rw[Below.heap_setCell _ _ _ _ (by have:=hL x hx;simp;omega)];exact h1
 ·obtain⟨c,t,h1,h2,h3⟩:=h.free x hx;by_cases hxi:x.1=i
  ·refine⟨c.setIfInBounds j v,t,by simpa using h1,λk u hk=>?_,?_⟩
   ·rw[Array.getElem?_setIfInBounds]at hk
    split at hk
    ·split at hk
     ·cases hk;exact hv
     ·cases hk
    ·exact h2 k u hk
   ·simp only[World.setCell,Array.getElem?_modify];rw[if_pos (by rw[hxi]),h3];simp
  ·refine⟨c,t,h1,h2,?_⟩;rw[Below.heap_setCell _ _ _ _ (by simp;omega)];exact h3
theorem Kp.put2{w w':World}{L:List (Nat×List Value)}{R:List (Nat×Nat)}(h:Kp w w' L R)(i:Nat)(hi:(i,2)∈R)(s:Bool)(a:Option Addr)(n c:Nat)(hL:∀e∈L,e.1≠i):
  Kp w ((w'.setCell ⟨w.heap.size+i,0,none⟩ (.bool s)).setCell ⟨w.heap.size+i,1,none⟩ (.slice a n c)) L R/\
   ∀k s1 a1 n1 c1 z,IntAt w' k s1 a1 n1 c1 z->IntAt ((w'.setCell ⟨w.heap.size+i,0,none⟩ (.bool s)).setCell ⟨w.heap.size+i,1,none⟩ (.slice a n c)) k s1 a1 n1 c1 z:=by
 have h1:=h.set i 2 0 (.bool s) hi (NoWord.bool s) hL;refine⟨h1.set i 2 1 _ hi (NoWord.slice a n c) hL,λk s1 a1 n1 c1 z hz=>?_⟩;obtain⟨⟨v,hv,hw⟩,_⟩:=h.res i 2 hi 0 zb;obtain⟨⟨v',hv',hw'⟩,_⟩:=h1.res i 2 hi 1 zb;exact(hz.set _ hv hw _).set _ hv' hw' _
theorem Kp.fin{w w':World}{L:List (Nat×List Value)}{R:List (Nat×Nat)}(h:Kp w w' L R)(i:Nat)(hi:(i,2)∈R){s:Bool}{a:Option Addr}{n c k:Nat}{z:Int}(hL:∀e∈L,e.1≠i)(hz:IntAt w' k s a n c z):
  RInt w k z (.returned (.agg #[.bool s,.slice a n c])) ((w'.setCell ⟨w.heap.size+i,0,none⟩ (.bool s)).setCell ⟨w.heap.size+i,1,none⟩ (.slice a n c)):=
 ⟨s,a,n,c,rfl,(h.put2 i hi s a n c hL).1.ext,(h.put2 i hi s a n c hL).2 _ _ _ _ _ _ hz⟩
theorem Kp.start(w:World):Kp w w [] []:=⟨Ext.refl w,(λ_ h=>by cases h),(λ_ h=>by cases h)⟩
theorem Kp.box{w w':World}{L:List (Nat×List Value)}{R:List (Nat×Nat)}(h:Kp w w' L R)(i:Nat)(hi:w'.heap.size=w.heap.size+i)(c:List Value)(t:TypeId):Kp w (w'.alloc (.cells c.toArray t)) ((i,c) ::L) R:=by
 have e:Ext w' (w'.alloc (.cells c.toArray t)):=(Ext.refl _).alloc _;refine⟨(h.after e).ext,λx hx=>?_,(h.after e).free⟩;rcases List.mem_cons.1 hx with rfl|hx
 ·refine⟨t,?_⟩;rw[<-hi];show(w'.heap.push _)[w'.heap.size]? =_;simp
 ·exact(h.after e).known x hx
theorem Kp.out{w w':World}{L:List (Nat×List Value)}{R:List (Nat×Nat)}(h:Kp w w' L R)(i:Nat)(hi:w'.heap.size=w.heap.size+i)(c:List Value)(t:TypeId)(hc:∀v∈c,NoWord v):Kp w (w'.alloc (.cells c.toArray t)) L ((i,c.length) ::R):=by
 have e:Ext w' (w'.alloc (.cells c.toArray t)):=(Ext.refl _).alloc _;refine⟨(h.after e).ext,(h.after e).known,λx hx=>?_⟩;rcases List.mem_cons.1 hx with rfl|hx
 ·refine⟨c.toArray,t,by simp,λj v hj=>hc v ?_,?_⟩
  ·exact List.mem_of_getElem? zbd
  ·rw[<-hi];show(w'.heap.push _)[w'.heap.size]? =_;simp
 ·exact(h.after e).free x hx
theorem kp2(w:World)(s1 s2:Bool)(a1 a2:Option Addr)(n1 n2 c1 c2:Nat):
  ∃ W,W=((w.alloc (.cells #[.bool s1,.slice a1 n1 c1] 33)).alloc (.cells #[.bool s2,.slice a2 n2 c2] 33)).alloc (.cells #[.bool false,.slice none 0 0] 33)/\
   Kp w W [(1, [.bool s2,.slice a2 n2 c2]),(0, [.bool s1,.slice a1 n1 c1])] [(2,2)]:=by
 refine⟨_,rfl,?_⟩
 exact(((Kp.start w).box 0 rfl [.bool s1,.slice a1 n1 c1] 33).box 1 zh [.bool s2,.slice a2 n2 c2] 33).out 2 zh [.bool false,.slice none 0 0] 33 (by
  intro v hv;simp at hv;rcases hv with rfl|rfl
  ·exact NoWord.bool _
  ·exact NoWord.slice _ _ _)
theorem kp1(w:World)(s1:Bool)(a1:Option Addr)(n1 c1:Nat):
  ∃W,W=(w.alloc (.cells #[.bool s1,.slice a1 n1 c1] 33)).alloc (.cells #[.bool false,.slice none 0 0] 33)/\Kp w W [(0, [.bool s1,.slice a1 n1 c1])] [(1,2)]:=by
 refine⟨_,rfl,?_⟩
 exact((Kp.start w).box 0 rfl [.bool s1,.slice a1 n1 c1] 33).out 1 zh [.bool false,.slice none 0 0] 33 (by
  intro v hv;simp at hv;rcases hv with rfl|rfl
  ·exact NoWord.bool _
  ·exact NoWord.slice _ _ _)
structure Kq (w w':World) (L:List (Nat×List Value)):Prop where
 ext:Ext w w'
 known:∀e∈L,w.heap.size<=e.1/\∃t,w'.heap[e.1]? =some (.cells e.2.toArray t (0,0))
theorem Kq.after{w w' w'':World}{L:List (Nat×List Value)}(h:Kq w w' L)(e:Ext w' w''):Kq w w'' L:=
 ⟨h.ext.trans e,λx hx=>let ⟨h0,t,h1⟩:=h.known x hx;⟨h0,t,e.heap h1⟩⟩
theorem Kq.cell{w w':World}{L:List (Nat×List Value)}(h:Kq w w' L)(b j:Nat)(c:List Value)(v:Value)(hi:(b,c)∈L)(hj:c[j]? =some v):w'.cell? ⟨b,j,none⟩=some v:=by
 obtain⟨_,t,h1⟩:=h.known _ hi;simp only[World.cell?];rw[h1];simpa using hj
theorem Kq.free{w w':World}{L:List (Nat×List Value)}(h:Kq w w' L)(b j:Nat)(c:List Value)(hi:(b,c)∈L):w'.frozen? ⟨b,j,none⟩=false:=by
 obtain⟨_,t,h1⟩:=h.known _ hi;simp only[World.frozen?];rw[h1];simp
theorem Kq.start(w:World):Kq w w []:=⟨Ext.refl w,(λ_ h=>by cases h)⟩
theorem Kq.alloc{w w':World}{L:List (Nat×List Value)}(h:Kq w w' L)(c:List Value)(t:TypeId):Kq w (w'.alloc (.cells c.toArray t)) ((w'.heap.size,c) ::L):=by
 have e:Ext w' (w'.alloc (.cells c.toArray t)):=(Ext.refl _).alloc _;refine⟨(h.after e).ext,λx hx=>?_⟩;rcases List.mem_cons.1 hx with rfl|hx
 ·exact⟨h.ext.size,t,by show(w'.heap.push _)[w'.heap.size]? =_;simp⟩
 ·exact(h.after e).known x hx
theorem kq22(w:World)(s1 s2:Bool)(a1 a2:Option Addr)(n1 n2 c1 c2:Nat):
  ∃ W,W=(((w.alloc (.cells #[.bool s1,.slice a1 n1 c1] 33)).alloc (.cells #[.bool s2,.slice a2 n2 c2] 33)).alloc (.cells #[.bool false,.slice none 0 0] 33)).alloc (.cells #[.bool false,.slice none 0 0] 33)/\
   Kq w W [(w.heap.size+3, [.bool false,.slice none 0 0]),(w.heap.size+2, [.bool false,.slice none 0 0]),(w.heap.size+1, [.bool s2,.slice a2 n2 c2]),(w.heap.size, [.bool s1,.slice a1 n1 c1])]:=by
 refine⟨_,rfl,?_⟩;have:=((((Kq.start w).alloc [.bool s1,.slice a1 n1 c1] 33).alloc [.bool s2,.slice a2 n2 c2] 33).alloc [.bool false,.slice none 0 0] 33).alloc [.bool false,.slice none 0 0] 33
 simpa using this
theorem neg_mul_val(s1 s2:Bool)(m1 m2:Nat)(z1 z2:Int)(h1:z1=if s1 then -(m1:Int)else m1)(h2:z2=if s2 then -(m2:Int)else m2):z1*z2=if (!(s1==s2))then -((m1*m2:Nat):Int)else(m1*m2:Nat):=by
 subst h1 h2;cases s1 <;> cases s2 <;> simp <;> grind
theorem kc2(w:World)(s1 s2:Bool)(a1 a2:Option Addr)(n1 n2 c1 c2:Nat):∀w',Kp w w' [(1, [.bool s2,.slice a2 n2 c2]),(0, [.bool s1,.slice a1 n1 c1])] [(2,2)]->(λw'=>Kp w w' [(1, [.bool s2,.slice a2 n2 c2]),(0, [.bool s1,.slice a1 n1 c1])] [(2,2)]/\w'.cell? ⟨w.heap.size,0,none⟩=some (.bool s1)/\w'.cell? ⟨w.heap.size,1,none⟩=some (.slice a1 n1 c1)/\w'.cell? ⟨w.heap.size+1,0,none⟩=some (.bool s2)/\w'.cell? ⟨w.heap.size+1,1,none⟩=some (.slice a2 n2 c2)) w':=λw' h=>
  ⟨h,h.cell 0 0 [.bool s1,.slice a1 n1 c1] _ zh rfl,h.cell 0 1 [.bool s1,.slice a1 n1 c1] _ zh rfl,h.cell 1 0 [.bool s2,.slice a2 n2 c2] _ zh rfl,h.cell 1 1 [.bool s2,.slice a2 n2 c2] _ zh rfl⟩
theorem Mul_c(w:World)(s1 s2:Bool)(a1 a2:Option Addr)(n1 n2 c1 c2 k1 k2:Nat)(z1 z2:Int)(h1:IntAt w k1 s1 a1 n1 c1 z1)(h2:IntAt w k2 s2 a2 n2 c2 z2)(l1:k1<=268435456)(l2:k2<=268435456):
  Calls prog 51 #[.agg #[.bool s1,.slice a1 n1 c1],.agg #[.bool s2,.slice a2 n2 c2]] w (RInt w (k1+k2) (z1*z2)):=by
 obtain⟨m1,h1,_,hz1⟩:=h1;obtain⟨m2,h2,_,hz2⟩:=h2;obtain⟨W,hW,K0⟩:=kp2 w s1 s2 a1 a2 n1 n2 c1 c2;have Hz:=hid (neg_mul_val s1 s2 m1 m2 z1 z2 hz1 hz2);clear hz1 hz2;have KC:=hid (kc2 w s1 s2 a1 a2 n1 n2 c1 c2);go_enter func51,ntmps51;go_wp2_with fail;rw[<-hW];clear hW
 go_region_held3 (λw'=>Kp w w' [(1, [.bool s2,.slice a2 n2 c2]),(0, [.bool s1,.slice a1 n1 c1])] [(2,2)]/\w'.cell? ⟨w.heap.size,0,none⟩=some (.bool s1)/\w'.cell? ⟨w.heap.size,1,none⟩=some (.slice a1 n1 c1)/\w'.cell? ⟨w.heap.size+1,0,none⟩=some (.bool s2)/\w'.cell? ⟨w.heap.size+1,1,none⟩=some (.slice a2 n2 c2)) ((go_split_ands;refine KC.out _ ?_;first|assumption|exact Kp.drew zp|exact Kp.drew (Kp.drewN zp _)|exact Kp.after zp zp|exact(Kp.put2 zp 2 zh _ _ _ _ zh).1))
  (first
   | (go_at_call 97;go_must (go_split_ands;(with_reducible refine zC (mul_c _ _ _ _ _ _ _ k1 k2 m1 m2 ?_ ?_ zb zb) ?_);exact h1.ext (Kp.ext zp);exact h2.ext (Kp.ext zp);rintro e w1 ⟨ao,n,cap,rfl,e1,hm⟩;obtain⟨xs,hm,hk,_,hv⟩:=hm;have Hv:=hid hv;clear hv))
   | (go_at_call 87;go_must (go_split_ands;(with_reducible refine zC (of_c _ _ _ _ _ xs (z1*z2) hm ?_) ?_);rw[Hv.out];exact Hz.out;rintro e w2 ⟨s3,a3,n3,c3,rfl,e2,h3⟩;have KF:=Kp.after zp e2;obtain⟨⟨_,r0,_⟩,f0⟩:=Kp.res KF 2 2 zh 0 zb;obtain⟨⟨_,r1,_⟩,f1⟩:=Kp.res KF 2 2 zh 1 zb)))
 have h3:=h3.mono hk;go_wp2_with fail;refine zD (v:=.agg #[.bool s3,.slice a3 n3 c3]) (by simp[results,results51,go_sem,r0,r1]) rfl (Kp.fin KF 2 zh zh h3)
theorem Neg_c(w:World)(s1:Bool)(a1:Option Addr)(n1 c1 k1:Nat)(z1:Int)(h1:IntAt w k1 s1 a1 n1 c1 z1):Calls prog 114 #[.agg #[.bool s1,.slice a1 n1 c1]] w (RInt w k1 (-z1)):=by
 obtain⟨m,⟨xs,hw,hk,_,hm⟩,hs,hz⟩:=h1;have hz': -z1=if (!s1)then -(qF xs:Int)else qF xs:=by rw[hz,hm];cases s1 <;> simp
 have Hz:=hid hz';clear hz hz' hm hs;obtain⟨W,hW,K0⟩:=kp1 w s1 a1 n1 c1;have q0:=K0.cell 0 0 [.bool s1,.slice a1 n1 c1] _ zh rfl;have q1:=K0.cell 0 1 [.bool s1,.slice a1 n1 c1] _ zh rfl;have hnot:∀(x:Bool) (w:World),(Op.unary .not (.bool x)).run prog w=.ok (.bool (!x)) w:=λ_ _=>rfl
 go_enter func114,ntmps114;go_wp2_with fail;rw[<-hW];refine zC (of_c _ (!s1) _ _ _ xs (-z1) (hw.ext K0.ext) Hz.out) ?_;clear hW;rintro e w1 ⟨s3,a3,n3,c3,rfl,e1,h3⟩;have KF:=K0.after e1;obtain⟨⟨_,r0,_⟩,f0⟩:=Kp.res KF 1 2 zh 0 zb;obtain⟨⟨_,r1,_⟩,f1⟩:=Kp.res KF 1 2 zh 1 zb;have h3:=h3.mono hk;clear q0 q1 hnot;go_wp2_with fail;refine zD (v:=.agg #[.bool s3,.slice a3 n3 c3]) (by simp[results,results114,go_sem,r0,r1]) rfl (Kp.fin KF 1 zh zh h3)
end Go.Proofs.YtknffgdbdadpcaaGreatDoor
