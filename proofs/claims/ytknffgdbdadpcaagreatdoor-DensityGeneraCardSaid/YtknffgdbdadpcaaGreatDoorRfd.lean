/-
 disc of the laws of package density: the discriminant of a description. (Printed by wip/gen/den9.py.)
 Forms: structs of three integers, their values and boxes. No condition on the program but its type api.Form.
 Package count: the greatest common divisor of two words, by Euclid's loop. (Printed by wip/gen/cnt.py.)
 A range over an iterator with a box, where the round's variable is a box of its own: the law of the statement. (As in Rfb.)
-/
import Derived.Test.YtknffgdbdadpcaaGreatDoorPri
import Derived.Test.YtknffgdbdadpcaaGreatDoorRgn
import Derived.Test.YtknffgdbdadpcaaGreatDoorPw
namespace Go.Proofs.YtknffgdbdadpcaaGreatDoor
open Go Go.RowKit
open Go.Proofs.Tryz
set_option maxRecDepth 100000
set_option maxHeartbeats 4000000
section
variable {ops:Array Oper} {Q:Exit→Act→World→Prop} {ds:List (Option Tmp)} {a0:Act} {w0:World} {L:List (Value→World→Prop)} {boxes:List Nat} {i:Nat} {o:Oper}
theorem ldRaw {b:Addr} {r:Value} {x:Operand} (hr:∀ w,Ext w0 w→(Instr.loadAt 26 (.pointer (some b))).run prog w= .ok r w) (hx:Od ops ds a0 w0 L i x (IsV (.pointer (some b)))) (ho:o.op= .load 26 x:=by rfl) (hi:L.getD i (fun _ _=>True)=IsV r:=by kernel_rfl) (hb:boxes.contains i=false:=by kernel_rfl):Ok prog ops Q ds a0 w0 L boxes i o:=
 Ok.of hb fun v' a w hE hd hf=>by
  have h:a.eval x=_:=hx.out v' a w hE hd hf;exact ⟨_,ld_run ho h (hr w hE),by rw [hi];exact rfl⟩
end
theorem raw_run {w0:World} {g:Nat} {d:Nat} {v1 v2 v3 v4 v5 v6 v7 v8:Value} (h:World.cell? w0 ⟨g,0,none⟩=some (.int .u16 (d:Int))∧World.cell? w0 ⟨g,1,none⟩=some v1∧World.cell? w0 ⟨g,2,none⟩=some v2∧World.cell? w0 ⟨g,3,none⟩=some v3∧World.cell? w0 ⟨g,4,none⟩=some v4∧World.cell? w0 ⟨g,5,none⟩=some v5∧World.cell? w0 ⟨g,6,none⟩=some v6∧World.cell? w0 ⟨g,7,none⟩=some v7∧World.cell? w0 ⟨g,8,none⟩=some v8) (w:World) (e:Ext w0 w):
  (Instr.loadAt 26 (.pointer (some ⟨g,0,none⟩))).run prog w= .ok (.agg #[.int .u16 (d:Int),v1,v2,v3,v4,v5,v6,v7,v8]) w:=by
 obtain ⟨h0,h1,h2,h3,h4,h5,h6,h7,h8⟩:=h;have h0:=e.cell h0;have h1:=e.cell h1;have h2:=e.cell h2;have h3:=e.cell h3;have h4:=e.cell h4;have h5:=e.cell h5;have h6:=e.cell h6;have h7:=e.cell h7;have h8:=e.cell h8
 go_simp
theorem disc_f (w:World) (d:Nat) (v1 v2 v3 v4 v5 v6 v7 v8:Value) (hd:d<65536):Calls prog 8 #[.agg #[.int .u16 (d:Int),v1,v2,v3,v4,v5,v6,v7,v8]] w (Ret w (IsI 2 (-((dsz d:Nat):Int)))):=by
 obtain ⟨T,hT⟩:∃ t,dsz d=t:=⟨_,rfl⟩;have HD:=hid hd;have HT:=hid hT;have hb:=dsz_ok d;rw [hT] at hb;have HW:=hid (show IntKind.i64.wrap (-(T:Int))= -(T:Int) by simp only [IntKind.wrap_i64];omega);have HO:=hid (show -9223372036854775808≤ -(T:Int)∧ -(T:Int)≤9223372036854775807 by omega);clear hd hT hb;obtain ⟨W,hW,S,cB0,cB1,cB2,cB3,cB4,cB5,cB6,cB7,cB8⟩:∃ W,W=(w.alloc (.cells #[.int .u16 (d:Int),v1,v2,v3,v4,v5,v6,v7,v8] 26)).alloc (.cells #[.bool false,.slice none 0 0] 33)∧Sto w W [((w.heap.size+1,0),IsI 0 0)]∧World.cell? W ⟨w.heap.size,0,none⟩=some (.int .u16 (d:Int))∧World.cell? W ⟨w.heap.size,1,none⟩=some (v1)∧World.cell? W ⟨w.heap.size,2,none⟩=some (v2)∧World.cell? W ⟨w.heap.size,3,none⟩=some (v3)∧World.cell? W ⟨w.heap.size,4,none⟩=some (v4)∧World.cell? W ⟨w.heap.size,5,none⟩=some (v5)∧World.cell? W ⟨w.heap.size,6,none⟩=some (v6)∧World.cell? W ⟨w.heap.size,7,none⟩=some (v7)∧World.cell? W ⟨w.heap.size,8,none⟩=some (v8):=⟨_,rfl,(((Sto.start w).mono ((Ext.refl _).alloc _)).new1 (w.heap.size+1) (by simp) false none 0 0 33 (IsI 0 0) (IsI.gstb _ _) (IsI.nil _ _)),((Ext.refl _).alloc _).cell (cell_newAt _ _ (by simp) _ _ _ _ rfl),((Ext.refl _).alloc _).cell (cell_newAt _ _ (by simp) _ _ _ _ rfl),((Ext.refl _).alloc _).cell (cell_newAt _ _ (by simp) _ _ _ _ rfl),((Ext.refl _).alloc _).cell (cell_newAt _ _ (by simp) _ _ _ _ rfl),((Ext.refl _).alloc _).cell (cell_newAt _ _ (by simp) _ _ _ _ rfl),((Ext.refl _).alloc _).cell (cell_newAt _ _ (by simp) _ _ _ _ rfl),((Ext.refl _).alloc _).cell (cell_newAt _ _ (by simp) _ _ _ _ rfl),((Ext.refl _).alloc _).cell (cell_newAt _ _ (by simp) _ _ _ _ rfl),((Ext.refl _).alloc _).cell (cell_newAt _ _ (by simp) _ _ _ _ rfl)⟩;go_enter func8,ntmps8;go_upto_region 1 with (fail);rw [← hW];clear hW;refine rgs 4 [some 3,some 4,some 5,some 6] [IsV (.agg #[.int .u16 (d:Int),v1,v2,v3,v4,v5,v6,v7,v8]),iV (T:Int),iV (-(T:Int)),IsI 2 (-(T:Int))] [] ?_ ?_
 ·refine Rc (ldRaw (raw_run ⟨cB0,cB1,cB2,cB3,cB4,cB5,cB6,cB7,cB8⟩) (Od.lit 1)) ?_;refine Rc (cl1 (en func37) (Od.lc (Φ:=IsV (.agg #[.int .u16 (d:Int),v1,v2,v3,v4,v5,v6,v7,v8])) 0 3) (fun x0 w' hE d0=>by { obtain rfl:x0= .agg #[.int .u16 (d:Int),v1,v2,v3,v4,v5,v6,v7,v8]:=d0;exact (by have hh:=Size_f w' d v1 v2 v3 v4 v5 v6 v7 v8 HD.out;rw [HT.out] at hh;exact hh)})) ?_;refine Rc (un (r:= .int .i64 (-(T:Int))) (Od.loc 1 4) (hr:=fun w=>by have hx9:=HW.out;go_simp)) ?_;refine Rc (cl1 (en func22) (Od.lc (Φ:=iV (-(T:Int))) 2 5) (fun x0 w' hE d0=>by { obtain rfl:x0= .int .i64 (-(T:Int)):=d0;exact ROf_f _ (-(T:Int)) HO.out.1 HO.out.2})) ?_;exact rn0
 intro v W1 e1 hΦ _;replace S:=S.mono e1;have h6:=hΦ 3 dcx;simp only [lxE,Nat.reduceAdd];clear hΦ e1
 try simp only [dxE]
 (with_reducible refine stL ?_ (by rfl));intro KK hKK;refine stI S 0 (w.heap.size+1) 0 h6 st_Int (fun W2 S2 G2=>hKK _ _ ?_) rfl
 replace S:=S2;clear S2 G2 hKK KK h6;simp only [u0x] at S;refine wpList_nil ?_;go_wp2_with fail;obtain ⟨s90x,a90x,n90x,c90x,b90x,h90x⟩:=S.at 0 (w.heap.size+1) 0 (IsI 2 (-(T:Int))) rfl;have L90xa:World.cell? W2 ⟨w.heap.size+1,0,none⟩=some (.bool s90x):=b90x.c0;have L90xb:World.cell? W2 ⟨w.heap.size+1,1,none⟩=some (.slice a90x n90x c90x):=b90x.c1;exact bodyPost_ret (v:= .agg #[.bool s90x,.slice a90x n90x c90x]) (by simp [results,results8,go_sem,L90xa,L90xb]) rfl (⟨_,rfl,S.ext,HT.out▸h90x⟩)
end Go.Proofs.YtknffgdbdadpcaaGreatDoor
namespace Go.Proofs.YtknffgdbdadpcaaGreatDoor
open Go Go.RowKit
open Go.Proofs.Tryz
set_option maxRecDepth 100000
set_option maxHeartbeats 4000000
def IsF (Φ Ψ Χ:Value→World→Prop):Value→World→Prop:=fun x w=> ∃ s a n c s' a' n' c' s2 a2 n2 c2,
 x= .agg #[.bool s,.slice a n c,.bool s',.slice a' n' c',.bool s2,.slice a2 n2 c2]∧Φ (.agg #[.bool s,.slice a n c]) w∧Ψ (.agg #[.bool s',.slice a' n' c']) w∧Χ (.agg #[.bool s2,.slice a2 n2 c2]) w
theorem IsF.stb {Φ Ψ Χ:Value→World→Prop} (h:Stb Φ) (k:Stb Ψ) (l:Stb Χ):Stb (IsF Φ Ψ Χ):=
 fun _ _ _ e ⟨s,a,n,c,s',a',n',c',s2,a2,n2,c2,h1,h2,h3,h4⟩=>⟨s,a,n,c,s',a',n',c',s2,a2,n2,c2,h1,h _ _ _ e h2,k _ _ _ e h3,l _ _ _ e h4⟩
theorem Bo.new3 (w:World) (s s' s2:Bool) (a a' a2:Option Addr) (n c n' c' n2 c2:Nat) (t:TypeId):
  let W:=w.alloc (.cells #[.bool s,.slice a n c,.bool s',.slice a' n' c',.bool s2,.slice a2 n2 c2] t)
  Bo W w.heap.size 0 s a n c∧Bo W w.heap.size 1 s' a' n' c'∧Bo W w.heap.size 2 s2 a2 n2 c2:=
 ⟨⟨by simp,by simp,by simp,by simp⟩,⟨by simp,by simp,by simp,by simp⟩,⟨by simp,by simp,by simp,by simp⟩⟩
theorem IsBo.new3 (w0 w:World) (t:TypeId) (h:w0.heap.size≤w.heap.size):IsBo w0 3 (.pointer (some ⟨w.heap.size,0,none⟩)) (w.alloc (.cells #[.bool false,.slice none 0 0,.bool false,.slice none 0 0,.bool false,.slice none 0 0] t)):=by
 refine ⟨_,rfl,h,fun i hi=> ?_,?_⟩
 ·skip;have b:=Bo.new3 w false false false none none none 0 0 0 0 0 0 t;rcases (by omega:i=0∨i=1∨i=2) with rfl | rfl | rfl
  ·exact b.1
  ·exact b.2.1
  ·exact b.2.2
 ·simp
theorem Sto.new3 {w0 w:World} {B:List Fld} (h:Sto w0 w B) (g:Nat) (hg:w.heap.size=g) (s s' s2:Bool) (a a' a2:Option Addr) (n c n' c' n2 c2:Nat) (t:TypeId) (Φ Ψ Χ:Value→World→Prop)
  (hs:GStb Φ) (hΦ:Φ (.agg #[.bool s,.slice a n c]) w) (hs':GStb Ψ) (hΨ:Ψ (.agg #[.bool s',.slice a' n' c']) w) (hs2:GStb Χ) (hΧ:Χ (.agg #[.bool s2,.slice a2 n2 c2]) w):
  Sto w0 (w.alloc (.cells #[.bool s,.slice a n c,.bool s',.slice a' n' c',.bool s2,.slice a2 n2 c2] t)) (((g,2),Χ) ::((g,1),Ψ) ::((g,0),Φ) ::B):=by
 subst hg;have e:Ext w (w.alloc (.cells #[.bool s,.slice a n c,.bool s',.slice a' n' c',.bool s2,.slice a2 n2 c2] t)):=(Ext.refl w).alloc _;have b:=Bo.new3 w s s' s2 a a' a2 n c n' c' n2 c2 t;have hl:∀ p∈B,p.1.1≠w.heap.size:=fun p hp he=>by have:=h.lt p hp;omega
 refine (((h.mono e).add b.1 h.ext.size (fun p hp he=>hl p hp (by rw [he])) hs (hs _ _ _ e.gr hΦ)).add b.2.1 h.ext.size (fun p hp he=> ?_) hs' (hs' _ _ _ e.gr hΨ)).add b.2.2 h.ext.size (fun p hp he=> ?_) hs2 (hs2 _ _ _ e.gr hΧ)
 ·rcases List.mem_cons.1 hp with rfl | hp
  ·simp at he
  ·exact hl p hp (by rw [he])
 ·rcases List.mem_cons.1 hp with rfl | hp
  ·simp at he
  ·rcases List.mem_cons.1 hp with rfl | hp
   ·simp at he
   ·exact hl p hp (by rw [he])
section
variable {P:Program} {ops:Array Oper} {Q:Exit→Act→World→Prop} {ds:List (Option Tmp)} {a0:Act} {w0:World} {L:List (Value→World→Prop)} {boxes:List Nat} {i k:Nat} {o:Oper} {os:List Oper}
def LdF (P:Program) (T:TypeId):Prop:= ∀ (w:World) (b f:Nat) (s:Bool) (a:Option Addr) (n c:Nat) (s':Bool) (a':Option Addr) (n' c':Nat) (s2:Bool) (a2:Option Addr) (n2 c2:Nat),w.cell? ⟨b,f,none⟩=some (.bool s)→w.cell? ⟨b,f+1,none⟩=some (.slice a n c)→w.cell? ⟨b,f+2,none⟩=some (.bool s')→w.cell? ⟨b,f+3,none⟩=some (.slice a' n' c')→
 w.cell? ⟨b,f+4,none⟩=some (.bool s2)→w.cell? ⟨b,f+5,none⟩=some (.slice a2 n2 c2)→
 (Instr.loadAt T (.pointer (some ⟨b,f,none⟩))).run P w= .ok (.agg #[.bool s,.slice a n c,.bool s',.slice a' n' c',.bool s2,.slice a2 n2 c2]) w
theorem ldF {W:World} {B:List Fld} (S:Sto W w0 B) (j j2 j3 g q:Nat) {T:Nat} {x:Operand} {Φ Ψ Χ:Value→World→Prop} (hx:Od ops ds a0 w0 L i x (IsV (.pointer (some ⟨g,2*q,none⟩)))) (hT:LdF P T) (h1:B[j]? =some ((g,q),Φ)) (h2:B[j2]? =some ((g,q+1),Ψ)) (h3:B[j3]? =some ((g,q+2),Χ)) (ho:o.op= .load T x:=by rfl)
  (hi:L.getD i (fun _ _=>True)=IsF Φ Ψ Χ:=by kernel_rfl) (hb:boxes.contains i=false:=by kernel_rfl):Ok P ops Q ds a0 w0 L boxes i o:=
 Ok.of hb fun v a w hE hd hf=>by
  have h:a.eval x=_:=hx.out v a w hE hd hf;obtain ⟨s,a',n,c,b,h'⟩:=(S.mono hE).at j g q _ h1;obtain ⟨s2,a2,n2,c2,b2,h2'⟩:=(S.mono hE).at j2 g (q+1) _ h2;obtain ⟨s3,a3,n3,c3,b3,h3'⟩:=(S.mono hE).at j3 g (q+2) _ h3;exact ⟨_,ld_run ho h (hT w g (2*q) _ _ _ _ _ _ _ _ _ _ _ _ b.c0 b.c1 b2.c0 b2.c1 b3.c0 b3.c1),by rw [hi];exact ⟨_,_,_,_,_,_,_,_,_,_,_,_,rfl,h',h2',h3'⟩⟩
theorem ldFX {g q T:Nat} {x:Operand} {Φ Ψ Χ:Value→World→Prop} (h:∀ w,Ext w0 w→(∃ s a n c,Bo w g q s a n c∧Φ (.agg #[.bool s,.slice a n c]) w)∧(∃ s a n c,Bo w g (q+1) s a n c∧Ψ (.agg #[.bool s,.slice a n c]) w)∧ ∃ s a n c,Bo w g (q+2) s a n c∧Χ (.agg #[.bool s,.slice a n c]) w)
  (hx:Od ops ds a0 w0 L i x (IsV (.pointer (some ⟨g,2*q,none⟩)))) (hT:LdF P T) (ho:o.op= .load T x:=by rfl) (hi:L.getD i (fun _ _=>True)=IsF Φ Ψ Χ:=by kernel_rfl) (hb:boxes.contains i=false:=by kernel_rfl):Ok P ops Q ds a0 w0 L boxes i o:=
 Ok.of hb fun v a w hE hd hf=>by
  have h0:a.eval x=_:=hx.out v a w hE hd hf;obtain ⟨⟨s,a1,n,c,b,k1⟩,⟨s',a1',n',c',b',k2⟩,s2,a2,n2,c2,b2,k3⟩:=h w hE;exact ⟨_,ld_run ho h0 (hT w g (2*q) _ _ _ _ _ _ _ _ _ _ _ _ b.c0 b.c1 b'.c0 b'.c1 b2.c0 b2.c1),by rw [hi];exact ⟨_,_,_,_,_,_,_,_,_,_,_,_,rfl,k1,k2,k3⟩⟩
def BdF (P:Program) (T:TypeId):Prop:= ∀ (w:World) (s:Bool) (a:Option Addr) (n c:Nat) (s':Bool) (a':Option Addr) (n' c':Nat) (s2:Bool) (a2:Option Addr) (n2 c2:Nat),(Instr.build T #[(0,.agg #[.bool s,.slice a n c]),(1,.agg #[.bool s',.slice a' n' c']),(2,.agg #[.bool s2,.slice a2 n2 c2])]).run P w= .ok (.agg #[.bool s,.slice a n c,.bool s',.slice a' n' c',.bool s2,.slice a2 n2 c2]) w
theorem bd3_run {x y z:Operand} {T:Nat} {a:Act} {p q r u:Value} {w:World} (ho:o.op= .build T #[(0,x),(1,y),(2,z)]) (h:a.eval x=p) (h':a.eval y=q) (h2:a.eval z=r) (hr:(Instr.build T #[(0,p),(1,q),(2,r)]).run P w= .ok u w):(execOp a.eval o).run P w= .ok (.value u) w:=by
 unfold execOp;rw [ho];dsimp only;simp only [List.map_toArray,List.map_cons,List.map_nil];rw [h,h',h2];simp [hr]
theorem bF {x y z:Operand} {T k1 k2 k3:Nat} {z1 z2 z3:Int} (hx:Od ops ds a0 w0 L i x (IsI k1 z1)) (hy:Od ops ds a0 w0 L i y (IsI k2 z2)) (hz:Od ops ds a0 w0 L i z (IsI k3 z3)) (hT:BdF P T) (ho:o.op= .build T #[(0,x),(1,y),(2,z)]:=by rfl)
  (hi:L.getD i (fun _ _=>True)=IsF (IsI k1 z1) (IsI k2 z2) (IsI k3 z3):=by kernel_rfl) (hb:boxes.contains i=false:=by kernel_rfl):Ok P ops Q ds a0 w0 L boxes i o:=
 Ok.of hb fun v a w hE hd hf=>by
  obtain ⟨s,a1,n,c,e1,h1⟩:=hx.out v a w hE hd hf;obtain ⟨s',a1',n',c',e2,h2⟩:=hy.out v a w hE hd hf;obtain ⟨s2,a2,n2,c2,e3,h3⟩:=hz.out v a w hE hd hf;exact ⟨_,bd3_run ho e1 e2 e3 (hT w _ _ _ _ _ _ _ _ _ _ _ _),by rw [hi];exact ⟨_,_,_,_,_,_,_,_,_,_,_,_,rfl,⟨_,_,_,_,rfl,h1⟩,⟨_,_,_,_,rfl,h2⟩,⟨_,_,_,_,rfl,h3⟩⟩⟩
def StF (P:Program) (T:TypeId):Prop:= ∀ (w:World) (b f:Nat) (s0:Bool) (a0:Option Addr) (n0 c0:Nat) (s1:Bool) (a1:Option Addr) (n1 c1:Nat) (s2:Bool) (a2:Option Addr) (n2 c2:Nat) (s:Bool) (a:Option Addr) (n c:Nat) (s':Bool) (a':Option Addr) (n' c':Nat) (t:Bool) (d:Option Addr) (m e:Nat),
 w.cell? ⟨b,f,none⟩=some (.bool s0)→w.cell? ⟨b,f+1,none⟩=some (.slice a0 n0 c0)→w.frozen? ⟨b,f,none⟩=false→w.frozen? ⟨b,f+1,none⟩=false→w.cell? ⟨b,f+2,none⟩=some (.bool s1)→w.cell? ⟨b,f+3,none⟩=some (.slice a1 n1 c1)→w.frozen? ⟨b,f+2,none⟩=false→w.frozen? ⟨b,f+3,none⟩=false→
 w.cell? ⟨b,f+4,none⟩=some (.bool s2)→w.cell? ⟨b,f+5,none⟩=some (.slice a2 n2 c2)→w.frozen? ⟨b,f+4,none⟩=false→w.frozen? ⟨b,f+5,none⟩=false→
 (Instr.storeAt T (.pointer (some ⟨b,f,none⟩)) (.agg #[.bool s,.slice a n c,.bool s',.slice a' n' c',.bool t,.slice d m e])).run P w=
  .ok () ((((((w.setCell ⟨b,f,none⟩ (.bool s)).setCell ⟨b,f+1,none⟩ (.slice a n c)).setCell ⟨b,f+2,none⟩ (.bool s')).setCell ⟨b,f+3,none⟩ (.slice a' n' c')).setCell ⟨b,f+4,none⟩ (.bool t)).setCell ⟨b,f+5,none⟩ (.slice d m e))
theorem stF {w W:World} {B:List Fld} {a:Act} {K:Act→World→Prop} (S:Sto w W B) (j j2 j3 g q:Nat) {T:Nat} {x y:Operand} {Φ Ψ Χ Φ' Ψ' Χ':Value→World→Prop} {u:Value} (hu:IsF Φ' Ψ' Χ' u W) (g1:GStb Φ') (g2:GStb Ψ') (g3:GStb Χ') (hT:StF P T)
  (h:∀ W',Sto w W' (((B.set j ((g,q),Φ')).set j2 ((g,q+1),Ψ')).set j3 ((g,q+2),Χ'))→Gr W W'→K a W')
  (hB:B[j]? =some ((g,q),Φ)) (hB2:B[j2]? =some ((g,q+1),Ψ)) (hB3:B[j3]? =some ((g,q+2),Χ)) (hj:(j==j2||j==j3||j2==j3)=false:=by rfl) (ho:o.op= .store T x y:=by rfl) (hd:o.dst=none:=by rfl) (hx:a.eval x= .pointer (some ⟨g,2*q,none⟩):=by kernel_rfl) (hy:a.eval y=u:=by kernel_rfl):Oper.wp P o a W K Q:=by
 obtain ⟨s,a1,n,c,s',a1',n',c',t,d,m,e,rfl,h1,h2,h3⟩:=hu;simp only [Bool.or_eq_false_iff,beq_eq_false_iff_ne] at hj;obtain ⟨⟨n1,n2⟩,n4⟩:=hj;obtain ⟨s0,a2,n0,c0,b,_⟩:=S.at j g q Φ hB;obtain ⟨s2,a3,n2',c2,b2,_⟩:=S.at j2 g (q+1) Ψ hB2;obtain ⟨s3,a4,n3',c3,b3,_⟩:=S.at j3 g (q+2) Χ hB3;obtain ⟨W',hW,S',G⟩:=S.put j g q Φ Φ' hB s a1 n c g1 h1;obtain ⟨W2,hW2,S2,G2⟩:=S'.put j2 g (q+1) Ψ Ψ' (by rw [List.getElem?_set_ne n1];exact hB2) s' a1' n' c' g2 (g2 _ _ _ G h2);obtain ⟨W3,hW3,S3,G3⟩:=S2.put j3 g (q+2) Χ Χ' (by rw [List.getElem?_set_ne n4,List.getElem?_set_ne n2];exact hB3) t d m e g3 (g3 _ _ _ (G.trans G2) h3);refine st_wp ho hx hy (hT W g (2*q) _ _ _ _ _ _ _ _ _ _ _ _ _ _ _ _ _ _ _ _ _ _ _ _ b.c0 b.c1 b.f0 b.f1 b2.c0 b2.c1 b2.f0 b2.f1 b3.c0 b3.c1 b3.f0 b3.f1) ?_;rw [← hW,hd];have:=h W3 S3 ((G.trans G2).trans G3);rw [hW3,hW2] at this;exact this
end
set_option maxRecDepth 100000
theorem ld_Frm:LdF prog 62:=fun w b f s a n c s' a' n' c' s2 a2 n2 c2 h0 h1 h2 h3 h4 h5=>by go_simp
theorem st_Frm:StF prog 62:=fun w b f s0 a0 n0 c0 s1 a1 n1 c1 s2 a2 n2 c2 s a n c s' a' n' c' t d m e h0 h1 f0 f1 h2 h3 f2 f3 h4 h5 f4 f5=>by go_simp
theorem bd_Frm:BdF prog 62:=fun w s a n c s' a' n' c' s2 a2 n2 c2=>by go_simp
theorem al_Frm:AlO prog 62 3:=fun w0 w h=>⟨_,by go_simp,(Ext.refl _).alloc _,IsBo.new3 w0 w 62 h⟩
theorem fa_Frm0 (g f:Nat) (w:World):(Instr.fieldAt 62 (.pointer (some ⟨g,f,none⟩)) 0).run prog w= .ok (.pointer (some ⟨g,f,none⟩)) w:=by go_simp
theorem fa_Frm1 (g f:Nat) (w:World):(Instr.fieldAt 62 (.pointer (some ⟨g,f,none⟩)) 1).run prog w= .ok (.pointer (some ⟨g,f+2,none⟩)) w:=by go_simp
theorem fa_Frm2 (g f:Nat) (w:World):(Instr.fieldAt 62 (.pointer (some ⟨g,f,none⟩)) 2).run prog w= .ok (.pointer (some ⟨g,f+4,none⟩)) w:=by go_simp
end Go.Proofs.YtknffgdbdadpcaaGreatDoor
namespace Go.Proofs.YtknffgdbdadpcaaGreatDoor
open Go Go.RowKit
open Go.Proofs.Tryz
set_option maxRecDepth 100000
set_option maxHeartbeats 4000000
theorem wrapC_small {z:Int} (h: -9223372036854775808≤z) (h':z≤9223372036854775807):IntKind.i64.wrap z=z:=by simp only [IntKind.wrap_i64];omega
theorem cgcd_step (a b:Int):Int.gcd b (a.tmod b)=Int.gcd a b:=by
 rw [Int.gcd_comm a b];have h1:a.tmod b=a+b*(-(a.tdiv b)):=by have:=Int.tmod_add_mul_tdiv a b;rw [Int.mul_neg];omega
 rw [h1];rw [Int.mul_comm];exact Int.gcd_add_mul_right_right ..
end Go.Proofs.YtknffgdbdadpcaaGreatDoor
namespace Go.Proofs.YtknffgdbdadpcaaGreatDoor
open Go Go.RowKit
open Go.Proofs.Tryz
set_option maxRecDepth 100000
set_option maxHeartbeats 4000000
variable {F:Fence} {n:Nat} {P:Program}
def SeqBox0 {α:Type} (F:Fence) (n:Nat) (P:Program) (g:Nat) (lb:Array Value) (encs:α→Array Value) (c:Nat) (S Sp:List α→Prop) (w:World):Prop:=
 ∀ (l:Nat) (J Jx:List α→World→Prop) (W:World),Below w.heap.size w W→
  (∀ pre x W1,J pre W1→Sp (pre++ [x])→YieldAt F (n-1) P l (encs x) W1 fun e W'=>
   (e= .returned (.bool true)∧J (pre++ [x]) W'∧W'.heap[c]? =W1.heap[c]?)∨(e= .returned (.bool false)∧Jx (pre++ [x]) W'))→
  J [] W→
  CallsIn F n P g (#[.func (.yield l) #[] #[]]++lb) W fun e W'=>(∃ v,e= .returned v)∧((∃ xs,S xs∧J xs W')∨(∃ pre,Sp pre∧Jx pre W'))
theorem wpIn_rangeFunc_boxA {α:Type} {g:Operand} {ps:Array Tmp} {assign body:Code} {Q:Exit→Act→World→Prop} {a:Act} {w:World}
  (hro:F.round=none) (h1:1≤n) {gf:Nat} {lb:Array Value} (hg:a.eval g= .func (.func gf) #[] lb) (hFg:F.fn gf) (eg:∀ args w,(callFunc gf args).run P w= .ok (.enter gf args) w)
  {encs:α→Array Value} {c:Nat} {S Sp:List α→Prop} (hc:c<w.heap.size) (hseq:SeqBox0 F (n-1) P gf lb encs c S Sp w) (hps:∀ x,(encs x).size=ps.size)
  (I:List α→World→Prop) (Ix:Code→List α→World→Prop) (hI:OwnFrom w.heap.size I) (hIx:∀ q,OwnFrom w.heap.size (Ix q)) (h0:I [] w) (obj:α→Obj) (a₁:α→Nat→Act)
  (hassign:∀ (l:Nat) (x:α) (W:World) (K:Act→World→Prop),K (a₁ x W.heap.size) (W.alloc (obj x))→
   assign.wpIn (F.inRound l) (n-1-1) P (Exit.then K (fun _ _ _=>False)) { tmps:=(ps.zip (encs x)).foldl (fun t (p,v)=>t.setIfInBounds p v) a.tmps,defers:= []} W)
  (hbody:∀ (l:Nat) (pre:List α) (x:α) (W:World) (b:Nat),I pre W→Sp (pre++ [x])→w.heap.size<b→W.heap[b]? =some (obj x)→body.wpIn (F.inRound l) (n-1-1) P (boxPost w.heap.size c I Ix (pre++ [x]) W) (a₁ x b) W)
  (hdone:∀ (D:Nat) (xs:List α) (W:World),w.heap.size≤D→S xs→I xs W→W.heap[D]? =some (.deferred (some []))→Q .normal { a with defers:= { target:= .collected D,args:= #[]} ::a.defers} W)
  (hstop:∀ (D:Nat) (q:Code) (pre:List α) (W:World),w.heap.size≤D→Sp pre→Ix q pre W→W.heap[D]? =some (.deferred (some []))→q.wpIn F n P Q { a with defers:= { target:= .collected D,args:= #[]} ::a.defers} W):
  (Code.rangeFunc g ps assign body).wpIn F n P Q a w:=by
 refine wpIn_rangeFunc fun fn hfn=> ?_
 rw [hro];generalize hD:w.heap.size=D at hc hI hIx hbody hdone hstop;have hR:∃ R:LoopState→Option Code→Loop,R=fun st pe=> { state:=st,pending:=pe,fn,tmps:=a.tmps,params:=ps,assign,body,defers:=D} :=⟨_,rfl⟩
 obtain ⟨R,hR⟩:=hR;have hV:∃ V,V=(w.alloc (.deferred (some []))).alloc (.loop (R .ready none)):=⟨_,rfl⟩;obtain ⟨V,hV⟩:=hV
 have hVl:V.heap[D+1]? =some (.loop (R .ready none)):=by
  have:=World.alloc_heap_new (w.alloc (.deferred (some []))) (.loop (R .ready none));rw [World.size_alloc,hD] at this;rw [hV];exact this
 have hVd:V.heap[D]? =some (.deferred (some [])):=by
  rw [hV,← hD];exact (Below.heap_alloc _ _ _ (by simp)).trans (World.alloc_heap_new w _)
 have hVb:Below w.heap.size w V:=by
  rw [hV];exact ((Below.refl _ w).alloc (Nat.le_refl _) _).alloc (by simp) _
 have hVI:I [] V:=by rw [hV];exact hI.alloc _ (hI.alloc _ h0)
 have henter:(Instr.enterLoop fn a.tmps ps assign body none).run P w= .ok (D+1, [{ target:= .collected D,args:= #[]}]) V:=by
  rw [run_enterLoop_outer,hD,hV,hR]
 refine ⟨D+1, [{ target:= .collected D,args:= #[]}],V,{ target:= .fn (.func gf) lb,args:= #[.func (.yield (D+1)) #[] #[]]},V,gf,
  #[.func (.yield (D+1)) #[] #[]]++lb,V,henter,?_,?_,?_,fun _=>h1,?_⟩
 ·simp only [resolve,hg];simp [go_sem]
 ·intro f' hf';simp [Target.leads] at hf';subst hf';exact hFg
 ·simp [invoke,go_sem,eg]
 ·have hcl:D+1≠c:=by omega
  have hcd:D≠c:=by omega
  refine (hseq (D+1)
   (fun pre W=>I pre W∧W.heap[D+1]? =some (.loop (R .ready none))∧W.heap[D]? =some (.deferred (some [])))
   (fun pre W=> ∃ q,Ix q pre W∧W.heap[D+1]? =some (.loop (R .done (some q)))∧W.heap[D]? =some (.deferred (some [])))
   V hVb ?_ ⟨hVI,hVl,hVd⟩).mono ?_
  ·rintro pre x W ⟨hi,hl,hd⟩ hlen;have hy:=run_yield (P:=P) (args:=encs x) hl (by rw [hR];exact hps x);rw [hR] at hy;have hlt0:D+1<W.heap.size:=(Array.getElem?_eq_some_iff.1 hl).1;have hkeep:∀ k,k<W.heap.size→(W.alloc (obj x)).heap[k]? =W.heap[k]? :=fun k hk=>Below.heap_alloc _ _ _ hk
   have hlA:(W.alloc (obj x)).heap[D+1]? =_:=(hkeep _ hlt0).trans hl;refine ⟨fn,_,assign,body,hy,roundIn_of_wpIn hfn (hassign _ x W _ ⟨_,run_beginRound hlA (by rw [hR]),?_⟩)⟩;have hlt:D+1<(W.alloc (obj x)).heap.size:=by simp;omega
   generalize hB:(W.alloc (obj x)).putObj (D+1) (.loop { R .ready none with state:= .busy})=B;have hBl:B.heap[D+1]? =some (.loop { R .ready none with state:= .busy}):=by rw [← hB];exact World.putObj_heap_same hlt
   have hBd:B.heap[D]? =some (.deferred (some [])):=by rw [← hB];exact (World.putObj_heap_other (by omega)).trans ((hkeep _ (by omega)).trans hd)
   have hBc:B.heap[c]? =W.heap[c]? :=by rw [← hB];exact (World.putObj_heap_other (by omega)).trans (hkeep _ (by omega))
   have hBI:I pre B:=by rw [← hB];exact hI.putObj _ (hI.alloc _ hi) (by omega) hlA rfl
   have hBo:B.heap[W.heap.size]? =some (obj x):=by rw [← hB];exact (World.putObj_heap_other (by omega)).trans (World.alloc_heap_new _ _)
   refine wpIn_mono (hbody _ pre x B _ hBI hlen (by omega) hBo) ?_;rintro e a3 C ⟨j,hj,hk,hp⟩;have hCl:=hk.same _ _ (by omega) hBl rfl;have hCd:=hk.same _ _ (by omega) hBd rfl;have hlt':D+1<C.heap.size:=(Array.getElem?_eq_some_iff.1 hCl).1;refine roundPost_of hj ⟨_,_,run_endRound j hCl,?_⟩;have hEl:=World.putObj_heap_same (o:= .loop { { R .ready none with state:= .busy} with state:=if j.isNone then .ready else .done,pending:=j}) hlt';have hEd:=(World.putObj_heap_other (w:=C) (o:= .loop { { R .ready none with state:= .busy} with state:=if j.isNone then .ready else .done,pending:=j}) (show D≠D+1 by omega)).trans hCd;cases j with
   | none=>
    refine .inl ⟨rfl,⟨hI.putObj _ hp.2 (by omega) hCl rfl,?_,hEd⟩,?_⟩
    ·rw [hEl,hR];rfl
    ·exact (World.putObj_heap_other (by omega)).trans (hp.1.trans hBc)
   | some q=>
    refine .inr ⟨rfl,q,(hIx q).putObj _ hp (by omega) hCl rfl,?_,hEd⟩;rw [hEl,hR];rfl
  ·rintro e W2 ⟨⟨v,rfl⟩,(⟨xs,hS,hi,hl,hd⟩ | ⟨pre,hSp,q,hi,hl,hd⟩)⟩
   ·have:=run_endLoop (P:=P) hl (by rw [hR];simp);rw [hR] at this;exact ⟨none,_,this,hdone _ xs _ (Nat.le_refl _) hS (hI.putObj _ hi (by omega) hl rfl) ((World.putObj_heap_other (by omega)).trans hd)⟩
   ·have:=run_endLoop (P:=P) hl (by rw [hR];simp);rw [hR] at this;exact ⟨some q,_,this,hstop _ q pre _ (Nat.le_refl _) hSp ((hIx q).putObj _ hi (by omega) hl rfl) ((World.putObj_heap_other (by omega)).trans hd)⟩
end Go.Proofs.YtknffgdbdadpcaaGreatDoor
