/-
 Forms: structs of three integers, their values and boxes. No condition on the program but its type api.Form.
 Package count: the greatest common divisor of two words, by Euclid's loop. (Printed by wip/gen/cnt.py.)
 A range over an iterator with a box, where the round's variable is a box of its own: the law of the statement. (As in Rfb.)
 Package count: the iterator over the reduced forms.
 Package count: the class number: how many reduced forms are primitive.
 Valid of both packages at canonical integers.
-/
import Derived.Test.YtknffgdbdadpcaaGreatDoorRgn
import Derived.Test.YtknffgdbdadpcaaGreatDoorRfb
import Derived.Test.YtknffgdbdadpcaaGreatDoorRfr
import Derived.Test.YtknffgdbdadpcaaGreatDoorPri
import Derived.Test.YtknffgdbdadpcaaGreatDoorMod3
import Derived.Test.YtknffgdbdadpcaaGreatDoorRgm
namespace Go.Proofs.YtknffgdbdadpcaaGreatDoor
open Go Go.RowKit
def IsF (Φ Ψ Χ:Value→World→Prop):Value→World→Prop:=fun x w=> ∃ s a n c s' a' n' c' s2 a2 n2 c2,
 x= .agg #[.bool s,.slice a n c,.bool s',.slice a' n' c',.bool s2,.slice a2 n2 c2]∧Φ (.agg #[.bool s,.slice a n c]) w∧Ψ (.agg #[.bool s',.slice a' n' c']) w∧Χ (.agg #[.bool s2,.slice a2 n2 c2]) w
theorem IsF.stb {Φ Ψ Χ:Value→World→Prop} (h:Stb Φ) (k:Stb Ψ) (l:Stb Χ):Stb (IsF Φ Ψ Χ):=
 fun _ _ _ e ⟨s,a,n,c,s',a',n',c',s2,a2,n2,c2,h1,h2,h3,h4⟩=>⟨s,a,n,c,s',a',n',c',s2,a2,n2,c2,h1,h _ _ _ e h2,k _ _ _ e h3,l _ _ _ e h4⟩
theorem Bo.new3 (w:World) (s s' s2:Bool) (a a' a2:Option Addr) (n c n' c' n2 c2:Nat) (t:TypeId):
  let W:=w.alloc (.cells #[.bool s,.slice a n c,.bool s',.slice a' n' c',.bool s2,.slice a2 n2 c2] t)
  Bo W w.heap.size 0 s a n c∧Bo W w.heap.size 1 s' a' n' c'∧Bo W w.heap.size 2 s2 a2 n2 c2:=
 ⟨⟨by simp,by simp,by simp,by simp⟩,⟨by simp,by simp,by simp,by simp⟩,⟨by simp,by simp,by simp,by simp⟩⟩
theorem IsBo.new3 (w0 w:World) (t:TypeId) (h:w0.heap.size≤w.heap.size):IsBo w0 3 (.pointer (some ⟨w.heap.size,0,none⟩)) (w.alloc (.cells #[.bool false,.slice none 0 0,.bool false,.slice none 0 0,.bool false,.slice none 0 0] t)):=by
 refine ⟨_,rfl,h,fun i hi=> ?_,?_⟩
 ·skip;have b:=Bo.new3 w false false false none none none 0 0 0 0 0 0 t;rcases (by omega:i=0∨i=1∨i=2) with rfl | rfl | rfl
  ·exact b.1
  ·exact b.2.1
  ·exact b.2.2
 ·simp
theorem Sto.new3 {w0 w:World} {B:List Fld} (h:Sto w0 w B) (g:Nat) (hg:w.heap.size=g) (s s' s2:Bool) (a a' a2:Option Addr) (n c n' c' n2 c2:Nat) (t:TypeId) (Φ Ψ Χ:Value→World→Prop)
  (hs:GStb Φ) (hΦ:Φ (.agg #[.bool s,.slice a n c]) w) (hs':GStb Ψ) (hΨ:Ψ (.agg #[.bool s',.slice a' n' c']) w) (hs2:GStb Χ) (hΧ:Χ (.agg #[.bool s2,.slice a2 n2 c2]) w):
  Sto w0 (w.alloc (.cells #[.bool s,.slice a n c,.bool s',.slice a' n' c',.bool s2,.slice a2 n2 c2] t)) (((g,2),Χ) ::((g,1),Ψ) ::((g,0),Φ) ::B):=by
 subst hg;have e:Ext w (w.alloc (.cells #[.bool s,.slice a n c,.bool s',.slice a' n' c',.bool s2,.slice a2 n2 c2] t)):=(Ext.refl w).alloc _;have b:=Bo.new3 w s s' s2 a a' a2 n c n' c' n2 c2 t;have hl:∀ p∈B,p.1.1≠w.heap.size:=fun p hp he=>by have:=h.lt p hp;omega
 refine (((h.mono e).add b.1 h.ext.size (fun p hp he=>hl p hp (by rw [he])) hs (hs _ _ _ e.gr hΦ)).add b.2.1 h.ext.size (fun p hp he=> ?_) hs' (hs' _ _ _ e.gr hΨ)).add b.2.2 h.ext.size (fun p hp he=> ?_) hs2 (hs2 _ _ _ e.gr hΧ)
 ·rcases List.mem_cons.1 hp with rfl | hp
  ·simp at he
  ·exact hl p hp (by rw [he])
 ·rcases List.mem_cons.1 hp with rfl | hp
  ·simp at he
  ·rcases List.mem_cons.1 hp with rfl | hp
   ·simp at he
   ·exact hl p hp (by rw [he])
section
variable {P:Program} {ops:Array Oper} {Q:Exit→Act→World→Prop} {ds:List (Option Tmp)} {a0:Act} {w0:World} {L:List (Value→World→Prop)} {boxes:List Nat} {i k:Nat} {o:Oper} {os:List Oper}
def LdF (P:Program) (T:TypeId):Prop:= ∀ (w:World) (b f:Nat) (s:Bool) (a:Option Addr) (n c:Nat) (s':Bool) (a':Option Addr) (n' c':Nat) (s2:Bool) (a2:Option Addr) (n2 c2:Nat),w.cell? ⟨b,f,none⟩=some (.bool s)→w.cell? ⟨b,f+1,none⟩=some (.slice a n c)→w.cell? ⟨b,f+2,none⟩=some (.bool s')→w.cell? ⟨b,f+3,none⟩=some (.slice a' n' c')→
 w.cell? ⟨b,f+4,none⟩=some (.bool s2)→w.cell? ⟨b,f+5,none⟩=some (.slice a2 n2 c2)→
 (Instr.loadAt T (.pointer (some ⟨b,f,none⟩))).run P w= .ok (.agg #[.bool s,.slice a n c,.bool s',.slice a' n' c',.bool s2,.slice a2 n2 c2]) w
theorem ldF {W:World} {B:List Fld} (S:Sto W w0 B) (j j2 j3 g q:Nat) {T:Nat} {x:Operand} {Φ Ψ Χ:Value→World→Prop} (hx:Od ops ds a0 w0 L i x (IsV (.pointer (some ⟨g,2*q,none⟩)))) (hT:LdF P T) (h1:B[j]? =some ((g,q),Φ)) (h2:B[j2]? =some ((g,q+1),Ψ)) (h3:B[j3]? =some ((g,q+2),Χ)) (ho:o.op= .load T x:=by rfl)
  (hi:L.getD i (fun _ _=>True)=IsF Φ Ψ Χ:=by kernel_rfl) (hb:boxes.contains i=false:=by kernel_rfl):Ok P ops Q ds a0 w0 L boxes i o:=
 Ok.of hb fun v a w hE hd hf=>by
  have h:a.eval x=_:=hx.out v a w hE hd hf;obtain ⟨s,a',n,c,b,h'⟩:=(S.mono hE).at j g q _ h1;obtain ⟨s2,a2,n2,c2,b2,h2'⟩:=(S.mono hE).at j2 g (q+1) _ h2;obtain ⟨s3,a3,n3,c3,b3,h3'⟩:=(S.mono hE).at j3 g (q+2) _ h3;exact ⟨_,ld_run ho h (hT w g (2*q) _ _ _ _ _ _ _ _ _ _ _ _ b.c0 b.c1 b2.c0 b2.c1 b3.c0 b3.c1),by rw [hi];exact ⟨_,_,_,_,_,_,_,_,_,_,_,_,rfl,h',h2',h3'⟩⟩
theorem ldFX {g q T:Nat} {x:Operand} {Φ Ψ Χ:Value→World→Prop} (h:∀ w,Ext w0 w→(∃ s a n c,Bo w g q s a n c∧Φ (.agg #[.bool s,.slice a n c]) w)∧(∃ s a n c,Bo w g (q+1) s a n c∧Ψ (.agg #[.bool s,.slice a n c]) w)∧ ∃ s a n c,Bo w g (q+2) s a n c∧Χ (.agg #[.bool s,.slice a n c]) w)
  (hx:Od ops ds a0 w0 L i x (IsV (.pointer (some ⟨g,2*q,none⟩)))) (hT:LdF P T) (ho:o.op= .load T x:=by rfl) (hi:L.getD i (fun _ _=>True)=IsF Φ Ψ Χ:=by kernel_rfl) (hb:boxes.contains i=false:=by kernel_rfl):Ok P ops Q ds a0 w0 L boxes i o:=
 Ok.of hb fun v a w hE hd hf=>by
  have h0:a.eval x=_:=hx.out v a w hE hd hf;obtain ⟨⟨s,a1,n,c,b,k1⟩,⟨s',a1',n',c',b',k2⟩,s2,a2,n2,c2,b2,k3⟩:=h w hE;exact ⟨_,ld_run ho h0 (hT w g (2*q) _ _ _ _ _ _ _ _ _ _ _ _ b.c0 b.c1 b'.c0 b'.c1 b2.c0 b2.c1),by rw [hi];exact ⟨_,_,_,_,_,_,_,_,_,_,_,_,rfl,k1,k2,k3⟩⟩
def BdF (P:Program) (T:TypeId):Prop:= ∀ (w:World) (s:Bool) (a:Option Addr) (n c:Nat) (s':Bool) (a':Option Addr) (n' c':Nat) (s2:Bool) (a2:Option Addr) (n2 c2:Nat),(Instr.build T #[(0,.agg #[.bool s,.slice a n c]),(1,.agg #[.bool s',.slice a' n' c']),(2,.agg #[.bool s2,.slice a2 n2 c2])]).run P w= .ok (.agg #[.bool s,.slice a n c,.bool s',.slice a' n' c',.bool s2,.slice a2 n2 c2]) w
theorem bd3_run {x y z:Operand} {T:Nat} {a:Act} {p q r u:Value} {w:World} (ho:o.op= .build T #[(0,x),(1,y),(2,z)]) (h:a.eval x=p) (h':a.eval y=q) (h2:a.eval z=r) (hr:(Instr.build T #[(0,p),(1,q),(2,r)]).run P w= .ok u w):(execOp a.eval o).run P w= .ok (.value u) w:=by
 unfold execOp;rw [ho];dsimp only;simp only [List.map_toArray,List.map_cons,List.map_nil];rw [h,h',h2];simp [hr]
theorem bF {x y z:Operand} {T k1 k2 k3:Nat} {z1 z2 z3:Int} (hx:Od ops ds a0 w0 L i x (IsI k1 z1)) (hy:Od ops ds a0 w0 L i y (IsI k2 z2)) (hz:Od ops ds a0 w0 L i z (IsI k3 z3)) (hT:BdF P T) (ho:o.op= .build T #[(0,x),(1,y),(2,z)]:=by rfl)
  (hi:L.getD i (fun _ _=>True)=IsF (IsI k1 z1) (IsI k2 z2) (IsI k3 z3):=by kernel_rfl) (hb:boxes.contains i=false:=by kernel_rfl):Ok P ops Q ds a0 w0 L boxes i o:=
 Ok.of hb fun v a w hE hd hf=>by
  obtain ⟨s,a1,n,c,e1,h1⟩:=hx.out v a w hE hd hf;obtain ⟨s',a1',n',c',e2,h2⟩:=hy.out v a w hE hd hf;obtain ⟨s2,a2,n2,c2,e3,h3⟩:=hz.out v a w hE hd hf;exact ⟨_,bd3_run ho e1 e2 e3 (hT w _ _ _ _ _ _ _ _ _ _ _ _),by rw [hi];exact ⟨_,_,_,_,_,_,_,_,_,_,_,_,rfl,⟨_,_,_,_,rfl,h1⟩,⟨_,_,_,_,rfl,h2⟩,⟨_,_,_,_,rfl,h3⟩⟩⟩
def StF (P:Program) (T:TypeId):Prop:= ∀ (w:World) (b f:Nat) (s0:Bool) (a0:Option Addr) (n0 c0:Nat) (s1:Bool) (a1:Option Addr) (n1 c1:Nat) (s2:Bool) (a2:Option Addr) (n2 c2:Nat) (s:Bool) (a:Option Addr) (n c:Nat) (s':Bool) (a':Option Addr) (n' c':Nat) (t:Bool) (d:Option Addr) (m e:Nat),
 w.cell? ⟨b,f,none⟩=some (.bool s0)→w.cell? ⟨b,f+1,none⟩=some (.slice a0 n0 c0)→w.frozen? ⟨b,f,none⟩=false→w.frozen? ⟨b,f+1,none⟩=false→w.cell? ⟨b,f+2,none⟩=some (.bool s1)→w.cell? ⟨b,f+3,none⟩=some (.slice a1 n1 c1)→w.frozen? ⟨b,f+2,none⟩=false→w.frozen? ⟨b,f+3,none⟩=false→
 w.cell? ⟨b,f+4,none⟩=some (.bool s2)→w.cell? ⟨b,f+5,none⟩=some (.slice a2 n2 c2)→w.frozen? ⟨b,f+4,none⟩=false→w.frozen? ⟨b,f+5,none⟩=false→
 (Instr.storeAt T (.pointer (some ⟨b,f,none⟩)) (.agg #[.bool s,.slice a n c,.bool s',.slice a' n' c',.bool t,.slice d m e])).run P w=
  .ok () ((((((w.setCell ⟨b,f,none⟩ (.bool s)).setCell ⟨b,f+1,none⟩ (.slice a n c)).setCell ⟨b,f+2,none⟩ (.bool s')).setCell ⟨b,f+3,none⟩ (.slice a' n' c')).setCell ⟨b,f+4,none⟩ (.bool t)).setCell ⟨b,f+5,none⟩ (.slice d m e))
theorem stF {w W:World} {B:List Fld} {a:Act} {K:Act→World→Prop} (S:Sto w W B) (j j2 j3 g q:Nat) {T:Nat} {x y:Operand} {Φ Ψ Χ Φ' Ψ' Χ':Value→World→Prop} {u:Value} (hu:IsF Φ' Ψ' Χ' u W) (g1:GStb Φ') (g2:GStb Ψ') (g3:GStb Χ') (hT:StF P T)
  (h:∀ W',Sto w W' (((B.set j ((g,q),Φ')).set j2 ((g,q+1),Ψ')).set j3 ((g,q+2),Χ'))→Gr W W'→K a W')
  (hB:B[j]? =some ((g,q),Φ)) (hB2:B[j2]? =some ((g,q+1),Ψ)) (hB3:B[j3]? =some ((g,q+2),Χ)) (hj:(j==j2||j==j3||j2==j3)=false:=by rfl) (ho:o.op= .store T x y:=by rfl) (hd:o.dst=none:=by rfl) (hx:a.eval x= .pointer (some ⟨g,2*q,none⟩):=by kernel_rfl) (hy:a.eval y=u:=by kernel_rfl):Oper.wp P o a W K Q:=by
 obtain ⟨s,a1,n,c,s',a1',n',c',t,d,m,e,rfl,h1,h2,h3⟩:=hu;simp only [Bool.or_eq_false_iff,beq_eq_false_iff_ne] at hj;obtain ⟨⟨n1,n2⟩,n4⟩:=hj;obtain ⟨s0,a2,n0,c0,b,_⟩:=S.at j g q Φ hB;obtain ⟨s2,a3,n2',c2,b2,_⟩:=S.at j2 g (q+1) Ψ hB2;obtain ⟨s3,a4,n3',c3,b3,_⟩:=S.at j3 g (q+2) Χ hB3;obtain ⟨W',hW,S',G⟩:=S.put j g q Φ Φ' hB s a1 n c g1 h1;obtain ⟨W2,hW2,S2,G2⟩:=S'.put j2 g (q+1) Ψ Ψ' (by rw [List.getElem?_set_ne n1];exact hB2) s' a1' n' c' g2 (g2 _ _ _ G h2);obtain ⟨W3,hW3,S3,G3⟩:=S2.put j3 g (q+2) Χ Χ' (by rw [List.getElem?_set_ne n4,List.getElem?_set_ne n2];exact hB3) t d m e g3 (g3 _ _ _ (G.trans G2) h3);refine st_wp ho hx hy (hT W g (2*q) _ _ _ _ _ _ _ _ _ _ _ _ _ _ _ _ _ _ _ _ _ _ _ _ b.c0 b.c1 b.f0 b.f1 b2.c0 b2.c1 b2.f0 b2.f1 b3.c0 b3.c1 b3.f0 b3.f1) ?_;rw [← hW,hd];have:=h W3 S3 ((G.trans G2).trans G3);rw [hW3,hW2] at this;exact this
end
set_option maxRecDepth 100000
theorem ld_Frm:LdF Tryz.prog 62:=fun w b f s a n c s' a' n' c' s2 a2 n2 c2 h0 h1 h2 h3 h4 h5=>by go_simp
theorem st_Frm:StF Tryz.prog 62:=fun w b f s0 a0 n0 c0 s1 a1 n1 c1 s2 a2 n2 c2 s a n c s' a' n' c' t d m e h0 h1 f0 f1 h2 h3 f2 f3 h4 h5 f4 f5=>by go_simp
theorem bd_Frm:BdF Tryz.prog 62:=fun w s a n c s' a' n' c' s2 a2 n2 c2=>by go_simp
theorem al_Frm:AlO Tryz.prog 62 3:=fun w0 w h=>⟨_,by go_simp,(Ext.refl _).alloc _,IsBo.new3 w0 w 62 h⟩
theorem fa_Frm0 (g f:Nat) (w:World):(Instr.fieldAt 62 (.pointer (some ⟨g,f,none⟩)) 0).run Tryz.prog w= .ok (.pointer (some ⟨g,f,none⟩)) w:=by go_simp
theorem fa_Frm1 (g f:Nat) (w:World):(Instr.fieldAt 62 (.pointer (some ⟨g,f,none⟩)) 1).run Tryz.prog w= .ok (.pointer (some ⟨g,f+2,none⟩)) w:=by go_simp
theorem fa_Frm2 (g f:Nat) (w:World):(Instr.fieldAt 62 (.pointer (some ⟨g,f,none⟩)) 2).run Tryz.prog w= .ok (.pointer (some ⟨g,f+4,none⟩)) w:=by go_simp
end Go.Proofs.YtknffgdbdadpcaaGreatDoor
namespace Go.Proofs.YtknffgdbdadpcaaGreatDoor
open Go Go.RowKit
theorem wrapC_small {z:Int} (h: -9223372036854775808≤z) (h':z≤9223372036854775807):IntKind.i64.wrap z=z:=by simp only [IntKind.wrap_i64];omega
end Go.Proofs.YtknffgdbdadpcaaGreatDoor
namespace Go.Proofs.YtknffgdbdadpcaaGreatDoor
open Go Go.RowKit
variable {F:Fence} {n:Nat} {P:Program}
def SeqBox0 {α:Type} (F:Fence) (n:Nat) (P:Program) (g:Nat) (lb:Array Value) (encs:α→Array Value) (c:Nat) (S Sp:List α→Prop) (w:World):Prop:=
 ∀ (l:Nat) (J Jx:List α→World→Prop) (W:World),Below w.heap.size w W→
  (∀ pre x W1,J pre W1→Sp (pre++ [x])→YieldAt F (n-1) P l (encs x) W1 fun e W'=>
   (e= .returned (.bool true)∧J (pre++ [x]) W'∧W'.heap[c]? =W1.heap[c]?)∨(e= .returned (.bool false)∧Jx (pre++ [x]) W'))→
  J [] W→
  CallsIn F n P g (#[.func (.yield l) #[] #[]]++lb) W fun e W'=>(∃ v,e= .returned v)∧((∃ xs,S xs∧J xs W')∨(∃ pre,Sp pre∧Jx pre W'))
theorem wpIn_rangeFunc_boxA {α:Type} {g:Operand} {ps:Array Tmp} {assign body:Code} {Q:Exit→Act→World→Prop} {a:Act} {w:World}
  (hro:F.round=none) (h1:1≤n) {gf:Nat} {lb:Array Value} (hg:a.eval g= .func (.func gf) #[] lb) (hFg:F.fn gf) (eg:∀ args w,(callFunc gf args).run P w= .ok (.enter gf args) w)
  {encs:α→Array Value} {c:Nat} {S Sp:List α→Prop} (hc:c<w.heap.size) (hseq:SeqBox0 F (n-1) P gf lb encs c S Sp w) (hps:∀ x,(encs x).size=ps.size)
  (I:List α→World→Prop) (Ix:Code→List α→World→Prop) (hI:OwnFrom w.heap.size I) (hIx:∀ q,OwnFrom w.heap.size (Ix q)) (h0:I [] w) (obj:α→Obj) (a₁:α→Nat→Act)
  (hassign:∀ (l:Nat) (x:α) (W:World) (K:Act→World→Prop),K (a₁ x W.heap.size) (W.alloc (obj x))→
   assign.wpIn (F.inRound l) (n-1-1) P (Exit.then K (fun _ _ _=>False)) { tmps:=(ps.zip (encs x)).foldl (fun t (p,v)=>t.setIfInBounds p v) a.tmps,defers:= []} W)
  (hbody:∀ (l:Nat) (pre:List α) (x:α) (W:World) (b:Nat),I pre W→Sp (pre++ [x])→w.heap.size<b→W.heap[b]? =some (obj x)→body.wpIn (F.inRound l) (n-1-1) P (boxPost w.heap.size c I Ix (pre++ [x]) W) (a₁ x b) W)
  (hdone:∀ (D:Nat) (xs:List α) (W:World),w.heap.size≤D→S xs→I xs W→W.heap[D]? =some (.deferred (some []))→Q .normal { a with defers:= { target:= .collected D,args:= #[]} ::a.defers} W)
  (hstop:∀ (D:Nat) (q:Code) (pre:List α) (W:World),w.heap.size≤D→Sp pre→Ix q pre W→W.heap[D]? =some (.deferred (some []))→q.wpIn F n P Q { a with defers:= { target:= .collected D,args:= #[]} ::a.defers} W):
  (Code.rangeFunc g ps assign body).wpIn F n P Q a w:=by
 refine wpIn_rangeFunc fun fn hfn=> ?_
 rw [hro];generalize hD:w.heap.size=D at hc hI hIx hbody hdone hstop;have hR:∃ R:LoopState→Option Code→Loop,R=fun st pe=> { state:=st,pending:=pe,fn,tmps:=a.tmps,params:=ps,assign,body,defers:=D} :=⟨_,rfl⟩
 obtain ⟨R,hR⟩:=hR;have hV:∃ V,V=(w.alloc (.deferred (some []))).alloc (.loop (R .ready none)):=⟨_,rfl⟩;obtain ⟨V,hV⟩:=hV
 have hVl:V.heap[D+1]? =some (.loop (R .ready none)):=by
  have:=World.alloc_heap_new (w.alloc (.deferred (some []))) (.loop (R .ready none));rw [World.size_alloc,hD] at this;rw [hV];exact this
 have hVd:V.heap[D]? =some (.deferred (some [])):=by
  rw [hV,← hD];exact (Below.heap_alloc _ _ _ (by simp)).trans (World.alloc_heap_new w _)
 have hVb:Below w.heap.size w V:=by
  rw [hV];exact ((Below.refl _ w).alloc (Nat.le_refl _) _).alloc (by simp) _
 have hVI:I [] V:=by rw [hV];exact hI.alloc _ (hI.alloc _ h0)
 have henter:(Instr.enterLoop fn a.tmps ps assign body none).run P w= .ok (D+1, [{ target:= .collected D,args:= #[]}]) V:=by
  rw [run_enterLoop_outer,hD,hV,hR]
 refine ⟨D+1, [{ target:= .collected D,args:= #[]}],V,{ target:= .fn (.func gf) lb,args:= #[.func (.yield (D+1)) #[] #[]]},V,gf,
  #[.func (.yield (D+1)) #[] #[]]++lb,V,henter,?_,?_,?_,fun _=>h1,?_⟩
 ·simp only [resolve,hg];simp [go_sem]
 ·intro f' hf';simp [Target.leads] at hf';subst hf';exact hFg
 ·simp [invoke,go_sem,eg]
 ·have hcl:D+1≠c:=by omega
  have hcd:D≠c:=by omega
  refine (hseq (D+1)
   (fun pre W=>I pre W∧W.heap[D+1]? =some (.loop (R .ready none))∧W.heap[D]? =some (.deferred (some [])))
   (fun pre W=> ∃ q,Ix q pre W∧W.heap[D+1]? =some (.loop (R .done (some q)))∧W.heap[D]? =some (.deferred (some [])))
   V hVb ?_ ⟨hVI,hVl,hVd⟩).mono ?_
  ·rintro pre x W ⟨hi,hl,hd⟩ hlen;have hy:=run_yield (P:=P) (args:=encs x) hl (by rw [hR];exact hps x);rw [hR] at hy;have hlt0:D+1<W.heap.size:=(Array.getElem?_eq_some_iff.1 hl).1;have hkeep:∀ k,k<W.heap.size→(W.alloc (obj x)).heap[k]? =W.heap[k]? :=fun k hk=>Below.heap_alloc _ _ _ hk
   have hlA:(W.alloc (obj x)).heap[D+1]? =_:=(hkeep _ hlt0).trans hl;refine ⟨fn,_,assign,body,hy,roundIn_of_wpIn hfn (hassign _ x W _ ⟨_,run_beginRound hlA (by rw [hR]),?_⟩)⟩;have hlt:D+1<(W.alloc (obj x)).heap.size:=by simp;omega
   generalize hB:(W.alloc (obj x)).putObj (D+1) (.loop { R .ready none with state:= .busy})=B;have hBl:B.heap[D+1]? =some (.loop { R .ready none with state:= .busy}):=by rw [← hB];exact World.putObj_heap_same hlt
   have hBd:B.heap[D]? =some (.deferred (some [])):=by rw [← hB];exact (World.putObj_heap_other (by omega)).trans ((hkeep _ (by omega)).trans hd)
   have hBc:B.heap[c]? =W.heap[c]? :=by rw [← hB];exact (World.putObj_heap_other (by omega)).trans (hkeep _ (by omega))
   have hBI:I pre B:=by rw [← hB];exact hI.putObj _ (hI.alloc _ hi) (by omega) hlA rfl
   have hBo:B.heap[W.heap.size]? =some (obj x):=by rw [← hB];exact (World.putObj_heap_other (by omega)).trans (World.alloc_heap_new _ _)
   refine wpIn_mono (hbody _ pre x B _ hBI hlen (by omega) hBo) ?_;rintro e a3 C ⟨j,hj,hk,hp⟩;have hCl:=hk.same _ _ (by omega) hBl rfl;have hCd:=hk.same _ _ (by omega) hBd rfl;have hlt':D+1<C.heap.size:=(Array.getElem?_eq_some_iff.1 hCl).1;refine roundPost_of hj ⟨_,_,run_endRound j hCl,?_⟩;have hEl:=World.putObj_heap_same (o:= .loop { { R .ready none with state:= .busy} with state:=if j.isNone then .ready else .done,pending:=j}) hlt';have hEd:=(World.putObj_heap_other (w:=C) (o:= .loop { { R .ready none with state:= .busy} with state:=if j.isNone then .ready else .done,pending:=j}) (show D≠D+1 by omega)).trans hCd;cases j with
   | none=>
    refine .inl ⟨rfl,⟨hI.putObj _ hp.2 (by omega) hCl rfl,?_,hEd⟩,?_⟩
    ·rw [hEl,hR];rfl
    ·exact (World.putObj_heap_other (by omega)).trans (hp.1.trans hBc)
   | some q=>
    refine .inr ⟨rfl,q,(hIx q).putObj _ hp (by omega) hCl rfl,?_,hEd⟩;rw [hEl,hR];rfl
  ·rintro e W2 ⟨⟨v,rfl⟩,(⟨xs,hS,hi,hl,hd⟩ | ⟨pre,hSp,q,hi,hl,hd⟩)⟩
   ·have:=run_endLoop (P:=P) hl (by rw [hR];simp);rw [hR] at this;exact ⟨none,_,this,hdone _ xs _ (Nat.le_refl _) hS (hI.putObj _ hi (by omega) hl rfl) ((World.putObj_heap_other (by omega)).trans hd)⟩
   ·have:=run_endLoop (P:=P) hl (by rw [hR];simp);rw [hR] at this;exact ⟨some q,_,this,hstop _ q pre _ (Nat.le_refl _) hSp ((hIx q).putObj _ hi (by omega) hl rfl) ((World.putObj_heap_other (by omega)).trans hd)⟩
end Go.Proofs.YtknffgdbdadpcaaGreatDoor
namespace Go.Proofs.YtknffgdbdadpcaaGreatDoor
open Go Go.RowKit
def fmOk (n a b:Int):Bool:=decide ((b*b+n)%(4*a)=0)&&decide (a≤(b*b+n)/(4*a))&& !(decide (b<0)&&decide (a=(b*b+n)/(4*a)))
def fmB (n a:Int):Nat→Int→List (Int×Int×Int)
 | 0,_=> []
 | k+1,b=>(if fmOk n a b=true then [(a,b,(b*b+n)/(4*a))] else [])++fmB n a k (b+1)
def fmA (n:Int):Nat→Int→List (Int×Int×Int)
 | 0,_=> []
 | k+1,a=>if 3*a*a≤n then fmB n a (2*a).toNat (1-a)++fmA n k (a+1) else []
theorem mul_self_nonneg' (b:Int):0≤b*b:=by
 rcases Int.le_total 0 b with h | h
 ·exact Int.mul_nonneg h h
 ·have:=Int.mul_nonneg (show 0≤ -b by omega) (show 0≤ -b by omega)
  rwa [Int.neg_mul_neg] at this
theorem sq_le' {b:Int} (h1: -3000≤b) (h2:b≤3001):b*b≤9006001:=by
 have e:b*b=((b.natAbs*b.natAbs:Nat):Int):=by rw [Int.natCast_mul,Int.natAbs_mul_self']
 have:=Nat.mul_le_mul (show b.natAbs≤3001 by omega) (show b.natAbs≤3001 by omega);rw [e];omega
set_option maxRecDepth 100000 in
set_option maxHeartbeats 16000000 in
theorem forms1_in (F:Fence) (m:Nat) (h6:F.fn 157) (hro:F.round=none) (hm:1≤m) (w:World) (c:Nat) (n:Nat) (hn:n≤4194304)
  (hc:w.cell? ⟨c,0,none⟩=some (.int .i64 (n:Int))):
  SeqBox0 F m Tryz.prog 157 #[.pointer (some ⟨c,0,none⟩)] (fun x:Int×Int×Int=> #[.agg #[.int .i64 x.1,.int .i64 x.2.1,.int .i64 x.2.2]]) c (fun xs=>xs=fmA n (n+1) 1) (fun pre=>pre <+:fmA n (n+1) 1) w:=fun l J Jx W hBel hY h0=>by
 have hcl:=World.block_lt_of_cell? w _ hc;have hcW:=(hBel.cell hcl).trans hc;clear hc;obtain ⟨T,hT⟩:∃ T,fmA n (n+1) 1=T:=⟨_,rfl⟩;rw [hT] at hY ⊢;refine callsIn_of_wp Tryz.func157 rfl h6 ?_ hro;simp only [Tryz.ntmps157,List.size_toArray,List.length_cons,List.length_nil,Nat.reduceAdd,Nat.reduceSub,Array.replicate_succ,Array.replicate_zero,List.push_toArray,List.append_toArray,List.nil_append,List.cons_append]
 gi_wp2
 gi_loopw [3] (fun p wr=> ∃ (pre:List (Int×Int×Int)) (k:Nat) (a:Int),p= .int .i64 a∧wr.cell? ⟨c,0,none⟩=some (.int .i64 (n:Int))∧
   pre++fmA n k a=T∧1≤a∧a≤3000∧a+k=n+2∧J pre wr)
  (fun p _=>match p with | .int _ z=>(n+3-z).toNat | _=>0)
 case atStart=>exact ⟨[],n+1,1,rfl,hcW,hT,by omega,by omega,by omega,h0⟩
 case round=>
  obtain ⟨pre,k,a,rfl,hcell,hpw,ha1,ha2,hak,hJs⟩:=hrel;have hw1:IntKind.i64.wrap (3*a)=3*a:=wrapC_small (by omega) (by omega);obtain ⟨a3,ha3⟩:∃ x,3*a*a=x:=⟨_,rfl⟩
  have ha4:0≤a3∧a3≤3*3000*3000:=by
   rw [← ha3];exact ⟨Int.mul_nonneg (by omega) (by omega),Int.mul_le_mul (by omega) ha2 (by omega) (by omega)⟩
  have hw2:IntKind.i64.wrap (3*a*a)=a3:=by rw [ha3];exact wrapC_small (by omega) (by omega)
  have hA:=hid (And.intro ha1 (And.intro ha2 (And.intro hak (And.intro ha3 ha4))));clear ha1 ha2 hak ha3 ha4;by_cases hle:a3≤(n:Int)
  ·have hw3:IntKind.i64.wrap (1-a)=1-a:=by have:=hA.out;exact wrapC_small (by omega) (by omega)
   have hk1:1≤k:=by
    have ha:=hA.out;have h2:=Int.mul_le_mul_of_nonneg_left (show 1≤a by omega) (show 0≤3*a by omega);omega
   have hA2:a≤2000:=by
    refine Int.not_lt.1 fun h=> ?_
    have ha:=hA.out;have h2:=Int.mul_le_mul_of_nonneg_left (show 2000≤a by omega) (show 0≤3*a by omega);omega
   obtain ⟨k,rfl⟩:∃ g,k=g+1:=⟨k-1,by omega⟩;clear hk1;have hA2:=hid hA2;rw [fmA,if_pos (show 3*a*a≤(n:Int) by have:=hA.out;omega)] at hpw
   gi_wp2
   clear hw1 hw2 hw3;have hLE:=hid hle;clear hle
   gi_loopw [4] (fun v4 wr2=> ∃ (pre2:List (Int×Int×Int)) (k2:Nat) (b:Int),v4= .int .i64 b∧wr2.cell? ⟨c,0,none⟩=some (.int .i64 (n:Int))∧
     pre2++(fmB n a k2 b++fmA n k (a+1))=T∧ -3000≤b∧b≤3001∧b+k2=a+1∧J pre2 wr2)
    (fun v4 _=>match v4 with | .int _ z=>(a+2-z).toNat | _=>0)
   case atStart=>have:=hA.out;exact ⟨pre,(2*a).toNat,1-a,rfl,hcell,hpw,by omega,by omega,by omega,hJs⟩
   case round=>
    obtain ⟨pre2,k2,b,rfl,hc2,hp2,hb1,hb2,hbk,hJ2⟩:=hrel;by_cases hba:b≤a
    ·obtain ⟨k2,rfl⟩:∃ g,k2=g+1:=⟨k2-1,by omega⟩;rw [fmB] at hp2
     have hbb:0≤b*b∧b*b≤9006001:=by
      constructor
      ·exact mul_self_nonneg' b
      ·exact sq_le' hb1 hb2
     obtain ⟨bb,hbb2⟩:∃ x,b*b=x:=⟨_,rfl⟩;obtain ⟨s,hs⟩:∃ x,bb+(n:Int)=x:=⟨_,rfl⟩;obtain ⟨q,hq⟩:∃ x,s/(4*a)=x:=⟨_,rfl⟩;obtain ⟨r,hr⟩:∃ x,s%(4*a)=x:=⟨_,rfl⟩;have ha:=hA.out;rw [hbb2] at hbb;have hs0:0≤s∧s≤100000000:=by omega
     have hq0:0≤q∧q≤s:=by rw [← hq];exact ⟨Int.ediv_nonneg hs0.1 (by omega),Int.ediv_le_self _ hs0.1⟩
     have hr0:0≤r∧r≤12000:=by rw [← hr];exact ⟨Int.emod_nonneg _ (by omega),by have:=Int.emod_lt_of_pos s (show 0<4*a by omega);omega⟩
     have hv1:IntKind.i64.wrap (b*b)=bb:=by rw [hbb2];exact wrapC_small (by omega) (by omega)
     have hv2:IntKind.i64.wrap (bb+(n:Int))=s:=by rw [hs];exact wrapC_small (by omega) (by omega)
     have hv3:IntKind.i64.wrap (4*a)=4*a:=wrapC_small (by omega) (by omega);have hv4:s.tdiv (4*a)=q:=by rw [Int.tdiv_eq_ediv_of_nonneg hs0.1];exact hq
     have hv5:s.tmod (4*a)=r:=by rw [Int.tmod_eq_emod_of_nonneg hs0.1];exact hr
     have hv6:IntKind.i64.wrap q=q:=wrapC_small (by omega) (by omega);have hv7:IntKind.i64.wrap r=r:=wrapC_small (by omega) (by omega);have hv8:¬ a=0:=by omega
     have hv9:¬ 4*a=0:=by omega
     have hva:IntKind.i64.wrap (b+1)=b+1:=wrapC_small (by omega) (by omega);have hok:fmOk n a b=(decide (r=0)&&decide (a≤q)&& !(decide (b<0)&&decide (a=q))):=by unfold fmOk;rw [hbb2,hs,hq,hr]
     rw [hok,hbb2,hs,hq] at hp2;have hB:=hid (And.intro hb1 (And.intro hb2 hbk));clear hok hbb2 hs hq hr hbb hs0 hq0 hr0 ha hb1 hb2 hbk;by_cases h1:r=0
     ·by_cases h2:a≤q
      ·have h2':¬ q<a:=by omega
       by_cases h3:b<0
       ·by_cases h4:a=q
        ·obtain rfl:a=q:=h4;rw [if_neg (by simp [h3]),List.nil_append] at hp2
         gi_wp2
         go_roundw
         case rel=>have hb:=hB.out;exact ⟨pre2,k2,b+1,rfl,hc2,hp2,by omega,by omega,by omega,hJ2⟩
         case measure=>have hb:=hB.out;show (a+2-(b+1)).toNat<(a+2-b).toNat;omega
        ·have h4b:(a==q)=false:=by rw [beq_eq_false_iff_ne];exact h4
         rw [if_pos (by simp [h1,h2,h4])] at hp2
         gi_wp2
         obtain ⟨fn,tmps,assign,body,hy,hR⟩:=hY pre2 (a,b,q) wr hJ2 ⟨_,by rw [List.append_assoc,← List.append_assoc [_]];exact hp2⟩;dsimp only at hy;rw [hy,Oper.uponIn_round];refine ⟨fun _=>hm,hR.mono ?_⟩;rintro e W3 (⟨rfl,hJ3,hk3⟩ | ⟨rfl,hJx3⟩)
         ·gi_wp2
          go_roundw
          case rel=>have hb:=hB.out;exact ⟨pre2++ [(a,b,q)],k2,b+1,rfl,ps_cell hk3 hc2,by rw [← hp2];simp,by omega,by omega,by omega,hJ3⟩
          case measure=>have hb:=hB.out;show (a+2-(b+1)).toNat<(a+2-b).toNat;omega
         ·gi_wp2
          refine bodyPost_ret (results_none rfl _ _ _) rfl ?_;exact ⟨⟨_,rfl⟩,.inr ⟨_,⟨_,by rw [List.append_assoc,← List.append_assoc [_]];exact hp2⟩,hJx3⟩⟩
       ·rw [if_pos (by simp [h1,h2,h3])] at hp2
        gi_wp2
        obtain ⟨fn,tmps,assign,body,hy,hR⟩:=hY pre2 (a,b,q) wr hJ2 ⟨_,by rw [List.append_assoc,← List.append_assoc [_]];exact hp2⟩;dsimp only at hy;rw [hy,Oper.uponIn_round];refine ⟨fun _=>hm,hR.mono ?_⟩;rintro e W3 (⟨rfl,hJ3,hk3⟩ | ⟨rfl,hJx3⟩)
        ·gi_wp2
         go_roundw
         case rel=>have hb:=hB.out;exact ⟨pre2++ [(a,b,q)],k2,b+1,rfl,ps_cell hk3 hc2,by rw [← hp2];simp,by omega,by omega,by omega,hJ3⟩
         case measure=>have hb:=hB.out;show (a+2-(b+1)).toNat<(a+2-b).toNat;omega
        ·gi_wp2
         refine bodyPost_ret (results_none rfl _ _ _) rfl ?_;exact ⟨⟨_,rfl⟩,.inr ⟨_,⟨_,by rw [List.append_assoc,← List.append_assoc [_]];exact hp2⟩,hJx3⟩⟩
      ·have h2':q<a:=by omega
       rw [if_neg (by simp [h2]),List.nil_append] at hp2
       gi_wp2
       go_roundw
       case rel=>have hb:=hB.out;exact ⟨pre2,k2,b+1,rfl,hc2,hp2,by omega,by omega,by omega,hJ2⟩
       case measure=>have hb:=hB.out;show (a+2-(b+1)).toNat<(a+2-b).toNat;omega
     ·rw [if_neg (by simp [h1]),List.nil_append] at hp2
      gi_wp2
      go_roundw
      case rel=>have hb:=hB.out;exact ⟨pre2,k2,b+1,rfl,hc2,hp2,by omega,by omega,by omega,hJ2⟩
      case measure=>have hb:=hB.out;show (a+2-(b+1)).toNat<(a+2-b).toNat;omega
    ·have hk0:k2=0:=by omega
     have hA':=hA.out;have hw4:IntKind.i64.wrap (a+1)=a+1:=wrapC_small (by omega) (by omega);clear hA'
     gi_wp2
     go_roundw
     case rel=>have ha:=hA.out;have:=hA2.out;exact ⟨pre2,k,a+1,rfl,hc2,by rw [hk0,fmB,List.nil_append] at hp2;exact hp2,by omega,by omega,by omega,hJ2⟩
     case measure=>have ha:=hA.out;show ((n:Int)+3-(a+1)).toNat<((n:Int)+3-a).toNat;omega
  ·obtain rfl:pre=T:=by
    rw [← hpw];cases k with
    | zero=>simp [fmA]
    | succ k=>rw [fmA,if_neg (by have:=hA.out;omega)];simp
   gi_wp2
   go_end0
   exact ⟨⟨_,rfl⟩,.inl hJs⟩
end Go.Proofs.YtknffgdbdadpcaaGreatDoor
namespace Go.Proofs.YtknffgdbdadpcaaGreatDoor
open Go Go.RowKit
attribute [local go_sem] Oper.semAt_some
theorem forms_c (w:World) (n:Nat):Calls Tryz.prog 120 #[.int .i64 (n:Int)] w (fun e w'=>e= .returned (.func (.func 157) #[] #[.pointer (some ⟨w.heap.size,0,none⟩)])∧w'=w.alloc (.cells #[.int .i64 (n:Int)] 2)):=by
 have hmk:∀ w',(Instr.makeFunc (.func 157) #[] #[.pointer (some ⟨w.heap.size,0,none⟩)]).run Tryz.prog w'= .ok (.func (.func 157) #[] #[.pointer (some ⟨w.heap.size,0,none⟩)]) w':=fun _=>rfl
 go_enter Tryz.func120,Tryz.ntmps120;go_wp2_with fail;exact bodyPost_ret (v:= .func (.func 157) #[] #[.pointer (some ⟨w.heap.size,0,none⟩)]) (by simp [results,Tryz.results120,go_sem]) rfl ⟨rfl,rfl⟩
def fmPrim (x:Int×Int×Int):Bool:=decide (((Int.gcd ((Int.gcd x.1 x.2.1:Nat):Int) x.2.2:Nat):Int)=1)
theorem fmB_mem {n a:Int} :∀ (k:Nat) (b:Int) (x:Int×Int×Int),x∈fmB n a k b→x.1=a∧b≤x.2.1∧x.2.1<b+k∧x.2.2=(x.2.1*x.2.1+n)/(4*a)
 | 0,b,x,h=>by simp [fmB] at h
 | k+1,b,x,h=>by
  rw [fmB,List.mem_append] at h;rcases h with h | h
  ·split at h
   ·rw [List.mem_singleton] at h;subst h;exact ⟨rfl,Int.le_refl _,by simp;omega,rfl⟩
   ·simp at h
  ·obtain ⟨h1,h2,h3,h4⟩:=fmB_mem k (b+1) x h;exact ⟨h1,by omega,by omega,h4⟩
theorem fmA_mem {n:Int} :∀ (k:Nat) (a:Int) (x:Int×Int×Int),1≤a→x∈fmA n k a→1≤x.1∧3*x.1*x.1≤n∧1-x.1≤x.2.1∧x.2.1≤x.1∧x.2.2=(x.2.1*x.2.1+n)/(4*x.1)
 | 0,a,x,_,h=>by simp [fmA] at h
 | k+1,a,x,ha,h=>by
  rw [fmA] at h
  split at h
  ·rename_i hle
   rw [List.mem_append] at h;rcases h with h | h
   ·obtain ⟨h1,h2,h3,h4⟩:=fmB_mem _ _ x h;rw [h1];exact ⟨ha,hle,h2,by omega,h4⟩
   ·exact fmA_mem k (a+1) x (by omega) h
  ·simp at h
theorem fm_box {n:Nat} (hn:n≤4096) {x:Int×Int×Int} (h:x∈fmA n (n+1) 1):(1≤x.1∧x.1≤64)∧(-64≤x.2.1∧x.2.1≤64)∧(-10000≤x.2.2∧x.2.2≤10000):=by
 obtain ⟨h1,h2,h3,h4,h5⟩:=fmA_mem _ _ _ (by decide) h
 have ha:x.1≤64:=by
  refine Int.not_lt.1 fun hlt=> ?_
  have:=Int.mul_le_mul_of_nonneg_left (show 65≤x.1 by omega) (show 0≤3*x.1 by omega);omega
 have hbb:0≤x.2.1*x.2.1∧x.2.1*x.2.1≤4096:=by
  refine ⟨mul_self_nonneg' _,?_⟩;have e:x.2.1*x.2.1=((x.2.1.natAbs*x.2.1.natAbs:Nat):Int):=by rw [Int.natCast_mul,Int.natAbs_mul_self']
  have:=Nat.mul_le_mul (show x.2.1.natAbs≤64 by omega) (show x.2.1.natAbs≤64 by omega);rw [e];omega
 have hq:0≤x.2.2∧x.2.2≤x.2.1*x.2.1+n:=by
  rw [h5];exact ⟨Int.ediv_nonneg (by omega) (by omega),Int.ediv_le_self _ (by omega)⟩
 omega
theorem fmB_len {n a:Int} :∀ (k:Nat) (b:Int),(fmB n a k b).length≤k
 | 0,b=>by simp [fmB]
 | k+1,b=>by
  rw [fmB,List.length_append];have:=fmB_len (n:=n) (a:=a) k (b+1)
  split <;> simp <;> omega
theorem fmA_len {n:Int} (hn:n≤4096):∀ (k:Nat) (a:Int),1≤a→((fmA n k a).length:Int)≤128*(max (65-a) 0)
 | 0,a,ha=>by simp [fmA];omega
 | k+1,a,ha=>by
  rw [fmA]
  split
  ·rename_i hle
   have ha64:a≤64:=by
    refine Int.not_lt.1 fun hlt=> ?_
    have:=Int.mul_le_mul_of_nonneg_left (show 65≤a by omega) (show 0≤3*a by omega);omega
   rw [List.length_append];have h1:=fmB_len (n:=n) (a:=a) (2*a).toNat (1-a);have h2:=fmA_len hn k (a+1) (by omega);omega
  ·simp;omega
theorem fa_Tr0 (g:Nat) (w:World):(Instr.fieldAt 159 (.pointer (some ⟨g,0,none⟩)) 0).run Tryz.prog w= .ok (.pointer (some ⟨g,0,none⟩)) w:=by go_simp
theorem fa_Tr1 (g:Nat) (w:World):(Instr.fieldAt 159 (.pointer (some ⟨g,0,none⟩)) 1).run Tryz.prog w= .ok (.pointer (some ⟨g,1,none⟩)) w:=by go_simp
theorem fa_Tr2 (g:Nat) (w:World):(Instr.fieldAt 159 (.pointer (some ⟨g,0,none⟩)) 2).run Tryz.prog w= .ok (.pointer (some ⟨g,2,none⟩)) w:=by go_simp
section
variable {ops:Array Oper} {Q:Exit→Act→World→Prop} {ds:List (Option Tmp)} {a0:Act} {w0:World} {L:List (Value→World→Prop)} {boxes:List Nat} {i:Nat} {o:Oper}
theorem ldG2 {b:Addr} {u:Int} {x:Operand} (hc:∀ w,Ext w0 w→World.cell? w b=some (.int .i64 u)) (hx:Od ops ds a0 w0 L i x (IsV (.pointer (some b)))) (ho:o.op= .load 2 x:=by rfl) (hi:L.getD i (fun _ _=>True)=IsV (.int .i64 u):=by kernel_rfl) (hb:boxes.contains i=false:=by kernel_rfl):Ok Tryz.prog ops Q ds a0 w0 L boxes i o:=
 Ok.of hb fun v' a w hE hd hf=>by
  have h:a.eval x=_:=hx.out v' a w hE hd hf;have hcell:=hc w hE;exact ⟨_,ld_run ho h (show (Instr.loadAt 2 (.pointer (some b))).run Tryz.prog w= .ok (.int .i64 u) w by go_simp),by rw [hi];exact rfl⟩
end
end Go.Proofs.YtknffgdbdadpcaaGreatDoor
namespace Go.Proofs.YtknffgdbdadpcaaGreatDoor
open Go Go.RowKit
theorem IntAt.top {w:World} {k n cap:Nat} {s:Bool} {ao:Option Addr} {z:Int} (h:IntAt w k s ao n cap z) (h0:0<n):∃ b off x,ao=some ⟨b,off,none⟩∧w.cell? ⟨b,off+(n-1),none⟩=some (.int .u32 (x:Nat))∧x≠0∧n≤cap∧cap≤9223372036854775807:=by
 obtain ⟨m,⟨xs,hw,_,hz,_⟩,_⟩:=h;rcases hw.at_ with h1 | ⟨b,off,h1,_,h3⟩
 ·omega
 ·exact ⟨b,off,_,h1,h3 (n-1) (by omega),hz h0,hw.capo,hw.big⟩
theorem RValid_c (w:World) (s1:Bool) (a1:Option Addr) (n1 c1 k1:Nat) (z1:Int) (h1:IntAt w k1 s1 a1 n1 c1 z1):Calls Tryz.prog 158 #[.agg #[.bool s1,.slice a1 n1 c1]] w (Ret w (IsV (.bool true))):=by
 obtain ⟨W,hW,K0⟩:∃ W,W=w.alloc (.cells #[.bool s1,.slice a1 n1 c1] 33)∧Kq w W [(w.heap.size, [.bool s1,.slice a1 n1 c1])]:=⟨_,rfl,by simpa using (Kq.start w).alloc [.bool s1,.slice a1 n1 c1] 33⟩;have b1:=K0.bx w.heap.size s1 a1 n1 c1 (by simp);have E:=hid K0.ext;clear K0;rcases Nat.eq_zero_or_pos n1 with h0 | h0
 ·subst h0;obtain rfl:s1=false:=by obtain ⟨m,_,h,_⟩:=h1;exact h rfl
  clear h1;go_enter Tryz.func158,Tryz.ntmps158;go_upto_region 1 with (fail);rw [← hW];clear hW;have F1:=b1.c0;have F2:=b1.c1;have F3:=b1.f0;have F4:=b1.f1;go_wp2_with fail;exact bodyPost_ret (v:= .bool true) (by simp [results,Tryz.results158,go_sem]) rfl ⟨_,rfl,E.out,rfl⟩
 ·obtain ⟨b,off,x,rfl,hc,hx,hcap,hbig⟩:=(h1.ext E.out).top h0;have hn:((n1:Int)==0)=false:=by rw [beq_eq_false_iff_ne];omega
  have hn2:decide ((0:Int)<(n1:Int))=true:=by simp;omega
  have hx2:((x:Int)==0)=false:=by rw [beq_eq_false_iff_ne];omega
  have hx3:((x:Int) !=0)=true:=by simp;omega
  clear h1 hx;go_enter Tryz.func158,Tryz.ntmps158;go_upto_region 1 with (fail);rw [← hW];clear hW;have F1:=b1.c0;have F2:=b1.c1;have F3:=b1.f0;have F4:=b1.f1;go_wp2_with fail;exact bodyPost_ret (v:= .bool true) (by simp [results,Tryz.results158,go_sem]) rfl ⟨_,rfl,E.out,rfl⟩
theorem RValid_f {k1:Nat} {z1:Int} {x:Value} {w:World} (hx:IsI k1 z1 x w):Calls Tryz.prog 158 #[x] w (Ret w (IsV (.bool true))):=by
 obtain ⟨s,a,n,c,rfl,h1⟩:=hx;exact RValid_c w s a n c k1 z1 h1
end Go.Proofs.YtknffgdbdadpcaaGreatDoor
