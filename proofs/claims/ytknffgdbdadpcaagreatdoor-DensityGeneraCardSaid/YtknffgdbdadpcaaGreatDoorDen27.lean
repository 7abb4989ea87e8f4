/-
 Package quadratic: product, Disc, isSquare, Check, Reduced at a reduced form. (Printed by wip/gen/den27.py.)
-/
import Derived.Test.YtknffgdbdadpcaaGreatDoorDen23
import Derived.Test.YtknffgdbdadpcaaGreatDoorRoot
namespace Go.Proofs.YtknffgdbdadpcaaGreatDoor
open Go Go.RowKit
open Go.Proofs.Tryz
set_option maxRecDepth 100000
set_option maxHeartbeats 4000000
def IsLi (K:Nat) (zs:List Int):Value→World→Prop:=fun x w=> ∃ g,x= .slice (some ⟨g,0,none⟩) zs.length zs.length∧
 ∀ j z,zs[j]? =some z→ ∃ s a n c,Bo w g j s a n c∧IsI K z (.agg #[.bool s,.slice a n c]) w
theorem IsLi.stb (K:Nat) (zs:List Int):Stb (IsLi K zs):=fun _ _ _ e ⟨g,h1,h3⟩=>⟨g,h1,fun j z hj=>let ⟨s,a,n,c,b,k⟩:=h3 j z hj;⟨s,a,n,c,b.ext e,k.ext e⟩⟩
def prodL:List Int→Int
 | []=>1
 | z ::t=>z*prodL t
theorem prodL_snoc (z:Int):∀ l,prodL (l++ [z])=prodL l*z
 | []=>by simp [prodL]
 | x ::l=>by rw [List.cons_append];simp only [prodL];rw [prodL_snoc z l,Int.mul_assoc]
section
variable {ops:Array Oper} {Q:Exit→Act→World→Prop} {ds:List (Option Tmp)} {a0:Act} {w0:World} {L:List (Value→World→Prop)} {boxes:List Nat} {i:Nat} {o:Oper}
theorem Bo.newI (w:World) (cs:Array Value) (T:TypeId) (i:Nat) (s:Bool) (a:Option Addr) (n c:Nat) (h0:cs[2*i]? =some (.bool s)) (h1:cs[2*i+1]? =some (.slice a n c)):Bo (w.alloc (.cells cs T)) w.heap.size i s a n c:=⟨by simp [h0],by simp [h1],by simp,by simp⟩
set_option maxRecDepth 100000
theorem bI2 {x1 x2:Operand} {K k1 k2:Nat} {z1 z2:Int} (hx1:Od ops ds a0 w0 L i x1 (IsI k1 z1)) (hx2:Od ops ds a0 w0 L i x2 (IsI k2 z2)) (l1:k1≤K) (l2:k2≤K)
  (ho:o.op= .buildSlice 36 2 #[(0,x1),(1,x2)]:=by rfl) (hi:L.getD i (fun _ _=>True)=IsLi K [z1,z2]:=by kernel_rfl) (hb:boxes.contains i=false:=by kernel_rfl):Ok prog ops Q ds a0 w0 L boxes i o:=
 ⟨fun v a w hE hd hf K' hK=>by
  obtain ⟨s1,a1,n1,c1,q1,h1⟩:=hx1.out v a w hE hd hf;obtain ⟨s2,a2,n2,c2,q2,h2⟩:=hx2.out v a w hE hd hf;have hr:(Instr.buildSlice 36 2 #[(0,.agg #[.bool s1,.slice a1 n1 c1]),(1,.agg #[.bool s2,.slice a2 n2 c2])]).run prog w= .ok (.slice (some ⟨w.heap.size,0,none⟩) 2 2) (w.alloc (.cells #[.bool s1,.slice a1 n1 c1,.bool s2,.slice a2 n2 c2] 33)):=by go_simp
  have hrun:(execOp a.eval o).run prog w= .ok (.value (.slice (some ⟨w.heap.size,0,none⟩) 2 2)) (w.alloc (.cells #[.bool s1,.slice a1 n1 c1,.bool s2,.slice a2 n2 c2] 33)):=by
   unfold execOp;rw [ho];dsimp only;simp only [List.map_toArray,List.map_cons,List.map_nil];rw [q1,q2];simp [hr]
  unfold Oper.wp;rw [hrun];have e9:Ext w (w.alloc (.cells #[.bool s1,.slice a1 n1 c1,.bool s2,.slice a2 n2 c2] 33)):=(Ext.refl _).alloc _;refine hK.out _ _ e9 ?_ (FreshIf.no hb);rw [hi];refine ⟨_,rfl,fun j q hq=> ?_⟩;rcases j with _ | _ | j
  ·obtain rfl:z1=q:=by simpa using hq
   exact ⟨_,_,_,_,Bo.newI _ _ _ _ _ _ _ _ rfl rfl,(IsI.ext ⟨_,_,_,_,rfl,h1.mono l1⟩ e9)⟩
  ·obtain rfl:z2=q:=by simpa using hq
   exact ⟨_,_,_,_,Bo.newI _ _ _ _ _ _ _ _ rfl rfl,(IsI.ext ⟨_,_,_,_,rfl,h2.mono l2⟩ e9)⟩
  ·simp at hq⟩
theorem bI3 {x1 x2 x3:Operand} {K k1 k2 k3:Nat} {z1 z2 z3:Int} (hx1:Od ops ds a0 w0 L i x1 (IsI k1 z1)) (hx2:Od ops ds a0 w0 L i x2 (IsI k2 z2)) (hx3:Od ops ds a0 w0 L i x3 (IsI k3 z3)) (l1:k1≤K) (l2:k2≤K) (l3:k3≤K)
  (ho:o.op= .buildSlice 36 3 #[(0,x1),(1,x2),(2,x3)]:=by rfl) (hi:L.getD i (fun _ _=>True)=IsLi K [z1,z2,z3]:=by kernel_rfl) (hb:boxes.contains i=false:=by kernel_rfl):Ok prog ops Q ds a0 w0 L boxes i o:=
 ⟨fun v a w hE hd hf K' hK=>by
  obtain ⟨s1,a1,n1,c1,q1,h1⟩:=hx1.out v a w hE hd hf;obtain ⟨s2,a2,n2,c2,q2,h2⟩:=hx2.out v a w hE hd hf;obtain ⟨s3,a3,n3,c3,q3,h3⟩:=hx3.out v a w hE hd hf;have hr:(Instr.buildSlice 36 3 #[(0,.agg #[.bool s1,.slice a1 n1 c1]),(1,.agg #[.bool s2,.slice a2 n2 c2]),(2,.agg #[.bool s3,.slice a3 n3 c3])]).run prog w= .ok (.slice (some ⟨w.heap.size,0,none⟩) 3 3) (w.alloc (.cells #[.bool s1,.slice a1 n1 c1,.bool s2,.slice a2 n2 c2,.bool s3,.slice a3 n3 c3] 33)):=by go_simp
  have hrun:(execOp a.eval o).run prog w= .ok (.value (.slice (some ⟨w.heap.size,0,none⟩) 3 3)) (w.alloc (.cells #[.bool s1,.slice a1 n1 c1,.bool s2,.slice a2 n2 c2,.bool s3,.slice a3 n3 c3] 33)):=by
   unfold execOp;rw [ho];dsimp only;simp only [List.map_toArray,List.map_cons,List.map_nil];rw [q1,q2,q3];simp [hr]
  unfold Oper.wp;rw [hrun];have e9:Ext w (w.alloc (.cells #[.bool s1,.slice a1 n1 c1,.bool s2,.slice a2 n2 c2,.bool s3,.slice a3 n3 c3] 33)):=(Ext.refl _).alloc _;refine hK.out _ _ e9 ?_ (FreshIf.no hb);rw [hi];refine ⟨_,rfl,fun j q hq=> ?_⟩;rcases j with _ | _ | _ | j
  ·obtain rfl:z1=q:=by simpa using hq
   exact ⟨_,_,_,_,Bo.newI _ _ _ _ _ _ _ _ rfl rfl,(IsI.ext ⟨_,_,_,_,rfl,h1.mono l1⟩ e9)⟩
  ·obtain rfl:z2=q:=by simpa using hq
   exact ⟨_,_,_,_,Bo.newI _ _ _ _ _ _ _ _ rfl rfl,(IsI.ext ⟨_,_,_,_,rfl,h2.mono l2⟩ e9)⟩
  ·obtain rfl:z3=q:=by simpa using hq
   exact ⟨_,_,_,_,Bo.newI _ _ _ _ _ _ _ _ rfl rfl,(IsI.ext ⟨_,_,_,_,rfl,h3.mono l3⟩ e9)⟩
  ·simp at hq⟩
theorem ldIX {g q T:Nat} {x:Operand} {Φ:Value→World→Prop} (h:∀ w,Ext w0 w→ ∃ s a n c,Bo w g q s a n c∧Φ (.agg #[.bool s,.slice a n c]) w)
  (hx:Od ops ds a0 w0 L i x (IsV (.pointer (some ⟨g,2*q,none⟩)))) (hT:LdI prog T) (ho:o.op= .load T x:=by rfl) (hi:L.getD i (fun _ _=>True)=Φ:=by kernel_rfl) (hb:boxes.contains i=false:=by kernel_rfl):Ok prog ops Q ds a0 w0 L boxes i o:=
 Ok.of hb fun v a w hE hd hf=>by
  have h0:a.eval x=_:=hx.out v a w hE hd hf;obtain ⟨s,a1,n,c,b,k1⟩:=h w hE;exact ⟨_,ld_run ho h0 (hT w g (2*q) _ _ _ _ b.c0 b.c1),by rw [hi];exact k1⟩
theorem lenI {ao:Option Addr} {n c:Nat} {x:Operand} (hx:Od ops ds a0 w0 L i x (IsV (.slice ao n c))) (ho:o.op= .call { callee:= .builtin .len,args:= #[x],argTypes:= #[36]} :=by rfl) (hi:L.getD i (fun _ _=>True)=iV (n:Int):=by kernel_rfl) (hb:boxes.contains i=false:=by kernel_rfl):Ok prog ops Q ds a0 w0 L boxes i o:=
 Ok.of hb fun v a w hE hd hf=>by
  have h1:a.eval x=_:=hx.out v a w hE hd hf;refine ⟨_,?_,by rw [hi];exact rfl⟩;unfold execOp;rw [ho];dsimp only;unfold resolve;simp only [List.map_toArray,List.map_cons,List.map_nil,h1]
  go_simp
theorem ix_Int (g n c j:Nat) (h:j<n) (w:World):(Instr.indexAt 36 (.slice (some ⟨g,0,none⟩) n c) (.int .i64 (j:Int))).run prog w= .ok (.pointer (some ⟨g,2*j,none⟩)) w:=by
 have h1:(0:Int)≤(j:Int):=by omega
 have h2:(j:Int)<(n:Int):=by omega
 have h3:0+j*2=2*j:=by omega
 have h4:j*2=2*j:=by omega
 go_simp
end
theorem product_f {K:Nat} {zs:List Int} {x:Value} {w:World} (hx:IsLi K zs x w) (hK:K≤1000) (hl:zs.length≤4):Calls prog 164 #[x] w (Ret w (IsI (2+K*zs.length) (prodL zs))):=by
 obtain ⟨ga,rfl,hz⟩:=hx;have HZ:=hid hz;obtain ⟨nz,hnz⟩:∃ n,zs.length=n:=⟨_,rfl⟩;have HNZ:=hid hnz;rw [hnz] at hl ⊢;have HKB:=hid (And.intro hK hl);clear hz hnz hK hl;obtain ⟨W,hW,S⟩:∃ W,W=w.alloc (.cells #[.bool false,.slice none 0 0] 33)∧Sto w W [((w.heap.size,0),IsI 0 0)]:=⟨_,rfl,((Sto.start w).new1 (w.heap.size) (by simp) false none 0 0 33 (IsI 0 0) (IsI.gstb _ _) (IsI.nil _ _))⟩;go_enter func164,ntmps164;go_upto_region 1 with (fail);rw [← hW];clear hW;have hl:=hid S.lt;have hw:=S.ext.size;refine rgs 2 [some 6,some 3] [IsI 2 1,IsBo W 1] [1] ?_ ?_
 ·refine Rc (cl1 (en func122) Od.con (fun x0 w' hE d0=>by { obtain rfl:x0= .int .i64 1:=d0;exact qnumber_f _ 1 dcx dcx})) ?_;refine Rc (al al_Int) ?_;exact rn0
 intro v W1 e1 hΦ _;replace S:=S.mono e1;have h6:=hΦ 0 dcx;obtain ⟨g3,v1,q2,b1,_⟩:=(hΦ 1 dcx:IsBo W 1 (v 1) W1);replace S:=S.addN 1 (ApartO.old hl.out q2) (Nat.le_trans hw q2) b1;simp only [newF,List.cons_append,List.nil_append] at S;simp only [lxE,Nat.reduceAdd];rw [v1];clear b1 hl hw v1 hΦ e1
 try simp only [dxE]
 (with_reducible refine stL ?_ (by rfl));intro KK hKK;refine stI S 0 (g3) 0 h6 st_Int (fun W2 S2 G2=>hKK _ _ ?_) rfl
 replace S:=S2;clear S2 G2 hKK KK h6;simp only [u0x] at S;refine wpList_nil ?_;go_upto_region 2 with (fail);refine rgs 3 [some 7,some 8,some 9] [IsV (.slice (some ⟨ga,0,none⟩) nz nz),iV (nz:Int),iV 0] [] ?_ ?_
 ·refine Rc (mv (Od.lit 0)) ?_;refine Rc (lenI (Od.lc (Φ:=IsV (.slice (some ⟨ga,0,none⟩) nz nz)) 0 7)) ?_;refine Rc (mv Od.con) ?_;exact rn0
 intro v W3 e1 hΦ _;replace S:=S.mono e1;have v0:v 0= .slice (some ⟨ga,0,none⟩) nz nz:=hΦ 0 dcx;have v1:v 1= .int .i64 (nz:Int):=hΦ 1 dcx;have v2:v 2= .int .i64 0:=hΦ 2 dcx;simp only [lxE,Nat.reduceAdd];rw [v0,v1,v2];clear v0 v1 v2 hΦ e1;refine wpList_nil ?_;go_wp2_with fail;have S0:=hid S;clear S
 go_loopg [9] (nz+1) (fun gk v9 wr=> ∃ (i:Nat) (p:Int),v9= .int .i64 (i:Int)∧p=prodL (zs.take i)∧i+gk=nz+1∧i≤nz∧Hid (Sto w wr [((g3,0),IsI (2+K*i) p),((w.heap.size,0),IsI 0 0)]))
 case atStart=>exact ⟨0,1,rfl,rfl,by omega,by omega,by simpa using S0⟩
 case round=>
  clear S0;obtain ⟨i,p,rfl,hp,hg,hi,S⟩:=hrel;have S:=S.out;have HI:=hid (And.intro hp (And.intro hg hi));by_cases hlt:i<nz
  ·obtain ⟨z,hz⟩:∃ z,zs[i]? =some z:=⟨_,List.getElem?_eq_getElem (by rw [HNZ.out];exact hlt)⟩;have hzb:=HZ.out i z hz;have HZB:=hid hzb;have HZI:=hid hz;have HLT:=hid hlt;have HLI:=hid (show (i:Int)<(nz:Int) by omega);have hkb:K*i≤1000*4:=Nat.mul_le_mul HKB.out.1 (by have:=HKB.out.2;omega);have hK:=HKB.out.1;have HKK:=hid (And.intro hkb hK);have HI1:=hid (show IntKind.i64.wrap ((i:Int)+1)=(i:Int)+1 by simp only [IntKind.wrap_i64];have:=HKB.out.2;omega);clear hz hzb hp hg hi hlt hkb hK;go_upto_region 3 with (fail);refine rgs 1 [some 10] [IsV (.bool true)] [] ?_ ?_
   ·refine Rc (bn (r:= .bool true) (Od.lit (x:= .int .i64 (i:Int)) 9) (Od.lit (x:= .int .i64 (nz:Int)) 8) (hr:=fun w=>by have hx9:=HLT.out;have hx8:=HLI.out;go_simp)) ?_;exact rn0
   intro v W4 e1 hΦ _;replace S:=S.mono e1;have v0:v 0= .bool true:=hΦ 0 dcx;simp only [lxE];rw [v0];clear v0 hΦ e1;refine wpList_nil ?_;go_upto_region 4 with (fail);have hl:=hid S.lt;have hw:=S.ext.size;refine rgs 3 [some 11,some 12,some 5] [IsV (.pointer (some ⟨ga,2*i,none⟩)),IsI K z,IsBo W4 1] [2] ?_ ?_
   ·refine Rc (ix (ix_Int ga nz nz i HLT.out) (Od.lit 7) (Od.lit 9)) ?_;refine Rc (ldIX (fun w' e=>let ⟨s,a,n,c,b,k⟩:=HZB.out;⟨s,a,n,c,b.ext (S.ext.trans e),k.ext (S.ext.trans e)⟩) (Od.loc 0 11) ld_Int) ?_;refine Rc (al al_Int) ?_;exact rn0
   intro v W5 e1 hΦ _;replace S:=S.mono e1;have h12:=hΦ 1 dcx;obtain ⟨g5,v2,q4,b3,_⟩:=(hΦ 2 dcx:IsBo W4 1 (v 2) W5);replace S:=S.addN 1 (ApartO.old hl.out q4) (Nat.le_trans hw q4) b3;simp only [newF,List.cons_append,List.nil_append] at S;simp only [lxE,Nat.reduceAdd];rw [v2];clear b3 hl hw v2 hΦ e1
   try simp only [dxE]
   (with_reducible refine stL ?_ (by rfl));intro KK hKK;refine stI S 0 (g5) 0 h12 st_Int (fun W6 S2 G2=>hKK _ _ ?_) rfl
   replace S:=S2;clear S2 G2 hKK KK h12;simp only [u0x] at S;refine wpList_nil ?_;go_upto_region 5 with (fail);refine rgs 3 [some 13,some 14,some 15] [IsI (2+K*i) p,IsI K z,IsI (2+K*i+K) (p*z)] [] ?_ ?_
   ·refine Rc (ldI S 1 (g3) 0 (Od.lit 3) ld_Int) ?_;refine Rc (ldI S 0 (g5) 0 (Od.lit 5) ld_Int) ?_;refine Rc (cl2 (en func51) (Od.lc (Φ:=IsI (2+K*i) p) 0 13) (Od.lc (Φ:=IsI K z) 1 14) (fun x0 x1 w' hE d0 d1=>(by have hh:=Mul_f d0 d1 (by have:=HKK.out;omega) (by have:=HKK.out;omega);exact hh))) ?_;exact rn0
   intro v W7 e1 hΦ _;replace S:=S.mono e1;have h15:=hΦ 2 dcx;simp only [lxE,Nat.reduceAdd];clear hΦ e1
   try simp only [dxE]
   (with_reducible refine stL ?_ (by rfl));intro KK hKK;refine stI S 1 (g3) 0 h15 st_Int (fun W8 S2 G2=>hKK _ _ ?_) rfl
   replace S:=S2;clear S2 G2 hKK KK h15;simp only [u0x,u1x] at S;refine wpList_nil ?_;go_upto_region 6 with (fail);refine rgs 1 [some 16] [iV ((i:Int)+1)] [] ?_ ?_
   ·refine Rc (bn (r:= .int .i64 ((i:Int)+1)) (Od.lit (x:= .int .i64 (i:Int)) 9) Od.con (hr:=fun w=>by have hx9:=HI1.out;go_simp)) ?_;exact rn0
   intro v W9 e1 hΦ _;replace S:=S.mono e1;have v0:v 0= .int .i64 ((i:Int)+1):=hΦ 0 dcx;simp only [lxE];rw [v0];clear v0 hΦ e1;refine wpList_step fun K hK=> ?_;go_simp;refine hK _ _ ?_;clear hK K
   refine wpList_nil ?_;have S':=S.drop 1;simp only [dxE] at S';have S':=hid S';clear S;go_wp2_with fail
   go_roundg (gk-1)
   case measure=>have:=HI.out;omega
   case rel=>
    refine ⟨i+1,p*z,by rw [Int.natCast_add];rfl,by rw [List.take_add_one,HZI.out];simp only [Option.toList_some];rw [prodL_snoc,HI.out.1],by have:=HI.out;have:=HLT.out;omega,by have:=HLT.out;omega,?_⟩;rw [show 2+K*(i+1)=2+K*i+K by rw [Nat.mul_add];omega];exact S'
  ·obtain rfl:i=nz:=by omega
   have hpp:p=prodL zs:=by rw [hp,← HNZ.out,List.take_length]
   clear hp hg hi hlt;go_upto_region 3 with (fail);refine rgs 1 [some 10] [IsV (.bool false)] [] ?_ ?_
   ·refine Rc (bn (r:= .bool false) (Od.lit (x:= .int .i64 (i:Int)) 9) (Od.lit (x:= .int .i64 (i:Int)) 8) (hr:=fun w=>by go_simp)) ?_;exact rn0
   intro v W10 e1 hΦ _;replace S:=S.mono e1;have v0:v 0= .bool false:=hΦ 0 dcx;simp only [lxE];rw [v0];clear v0 hΦ e1;refine wpList_nil ?_;go_upto_region 7 with (fail);refine rgs 1 [some 17] [IsI (2+K*i) p] [] ?_ ?_
   ·refine Rc (ldI S 0 (g3) 0 (Od.lit 3) ld_Int) ?_;exact rn0
   intro v W11 e1 hΦ _;replace S:=S.mono e1;have h17:=hΦ 0 dcx;simp only [lxE];clear hΦ e1
   try simp only [dxE]
   (with_reducible refine stL ?_ (by rfl));intro KK hKK;refine stI S 1 (w.heap.size) 0 h17 st_Int (fun W12 S2 G2=>hKK _ _ ?_) rfl
   replace S:=S2;clear S2 G2 hKK KK h17;simp only [u0x,u1x] at S;refine wpList_nil ?_;rw [hpp] at S;go_wp2_with fail;obtain ⟨s90x,a90x,n90x,c90x,b90x,h90x⟩:=S.at 1 (w.heap.size) 0 (IsI (2+K*i) (prodL zs)) rfl;have L90xa:World.cell? W12 ⟨w.heap.size,0,none⟩=some (.bool s90x):=b90x.c0;have L90xb:World.cell? W12 ⟨w.heap.size,1,none⟩=some (.slice a90x n90x c90x):=b90x.c1;exact bodyPost_ret (v:= .agg #[.bool s90x,.slice a90x n90x c90x]) (by simp [results,results164,go_sem,L90xa,L90xb]) rfl (⟨_,rfl,S.ext,h90x⟩)
theorem qDisc_f {a b c:Int} {x:Value} {w:World} (hx:IsF (IsI 2 a) (IsI 2 b) (IsI 2 c) x w) {d:Int} (hd:b*b+(-4)*a*c=d):Calls prog 128 #[x] w (Ret w (IsI 9 d)):=by
 obtain ⟨p1,hp1⟩:∃ t,prodL [b,b]=t:=⟨_,rfl⟩;obtain ⟨p2,hp2⟩:∃ t,prodL [4,a,c]=t:=⟨_,rfl⟩;have HD:=hid (show p1-p2=d by rw [← hp1,← hp2,← hd];simp only [prodL];grind);have HP1:=hid hp1;have HP2:=hid hp2;clear hd hp1 hp2;obtain ⟨s1x,a1x,n1x,c1x,s1y,a1y,n1y,c1y,s1z,a1z,n1z,c1z,rfl,h1x,h1y,h1z⟩:=hx;obtain ⟨W,hW,S⟩:∃ W,W=(w.alloc (.cells #[.bool s1x,.slice a1x n1x c1x,.bool s1y,.slice a1y n1y c1y,.bool s1z,.slice a1z n1z c1z] 62)).alloc (.cells #[.bool false,.slice none 0 0] 33)∧Sto w W [((w.heap.size+1,0),IsI 0 0),((w.heap.size,2),IsI 2 c),((w.heap.size,1),IsI 2 b),((w.heap.size,0),IsI 2 a)]:=⟨_,rfl,(((Sto.start w).new3 (w.heap.size) (by simp) s1x s1y s1z a1x a1y a1z n1x c1x n1y c1y n1z c1z 62 (IsI 2 a) (IsI 2 b) (IsI 2 c) (IsI.gstb _ _) (h1x) (IsI.gstb _ _) (h1y) (IsI.gstb _ _) (h1z)).new1 (w.heap.size+1) (by simp) false none 0 0 33 (IsI 0 0) (IsI.gstb _ _) (IsI.nil _ _))⟩;clear h1x h1y h1z;go_enter func128,ntmps128;go_upto_region 1 with (fail);rw [← hW];clear hW;refine rg 14 [some 3,some 4,some 5,some 6,some 7,some 8,some 9,some 10,some 11,some 12,some 13,some 14,some 15,some 16] [IsV (.pointer (some ⟨w.heap.size,2,none⟩)),IsI 2 b,IsV (.pointer (some ⟨w.heap.size,2,none⟩)),IsI 2 b,IsLi 2 [b,b],IsI 6 p1,IsI 2 4,IsV (.pointer (some ⟨w.heap.size,0,none⟩)),IsI 2 a,IsV (.pointer (some ⟨w.heap.size,4,none⟩)),IsI 2 c,IsLi 2 [4,a,c],IsI 8 p2,IsI 9 d] [] 1 ?_ ?_ (hst:=by repeat' (first | exact trivial | exact IsLi.stb _ _ | exact IsV.stb _ | exact IsI.stb _ _ | exact IsBo.stb _ _ | apply IsT2.stb | apply IsT3.stb | apply IsJ.stb | apply IsQ.stb | apply IsF.stb | apply And.intro))
 ·refine Rc (fa (fa_Frm1 (w.heap.size) 0) (Od.lit 1)) ?_;refine Rc (ldI S 2 (w.heap.size) 1 (Od.lc 0 3) ld_Int) ?_;refine Rc (fa (fa_Frm1 (w.heap.size) 0) (Od.lit 1)) ?_;refine Rc (ldI S 2 (w.heap.size) 1 (Od.lc 2 5) ld_Int) ?_;refine Rc (bI2 (K:=2) (Od.loc 1 4) (Od.loc 3 6) dcx dcx) ?_;refine Rc (cl1 (en func164) (Od.lc (Φ:=IsLi 2 [b,b]) 4 7) (fun x0 w' hE d0=>(by have hh:=product_f d0 dcx (by simp);exact hh.mono fun _ _ q=>q.eqz HP1.out))) ?_;refine Rc (cl1 (en func122) Od.con (fun x0 w' hE d0=>by { obtain rfl:x0= .int .i64 4:=d0;exact qnumber_f _ 4 dcx dcx})) ?_;refine Rc (fa (fa_Frm0 (w.heap.size) 0) (Od.lit 1)) ?_;refine Rc (ldI S 3 (w.heap.size) 0 (Od.lc 7 10) ld_Int) ?_;refine Rc (fa (fa_Frm2 (w.heap.size) 0) (Od.lit 1)) ?_;refine Rc (ldI S 1 (w.heap.size) 2 (Od.lc 9 12) ld_Int) ?_;refine Rc (bI3 (K:=2) (Od.loc 6 9) (Od.loc 8 11) (Od.loc 10 13) dcx dcx dcx) ?_;refine Rc (cl1 (en func164) (Od.lc (Φ:=IsLi 2 [4,a,c]) 11 14) (fun x0 w' hE d0=>(by have hh:=product_f d0 dcx (by simp);exact hh.mono fun _ _ q=>q.eqz HP2.out))) ?_;refine Rc (cl2 (en func151) (Od.lc (Φ:=IsI 6 p1) 5 8) (Od.lc (Φ:=IsI 8 p2) 12 15) (fun x0 x1 w' hE d0 d1=>Calls.mono (Sub_f d0 d1 dcx dcx) fun _ _ h=>h.eqz HD.out)) ?_;exact rn0
 intro v W1 e1 hΦ _;replace S:=S.mono e1;have h16:=hΦ 13 dcx;simp only [lxE,Nat.reduceAdd];clear hΦ e1;refine stA 14 (h:=fun KK hKK=>stI S 0 (w.heap.size+1) 0 h16 st_Int (fun W2 S2 G2=>hKK _ _ ?_) rfl);replace S:=S2;clear S2 G2 hKK KK h16;simp only [u0x] at S;refine wpAny_done (by kernel_rfl) ?_ _;go_wp2_with fail;obtain ⟨s90x,a90x,n90x,c90x,b90x,h90x⟩:=S.at 0 (w.heap.size+1) 0 (IsI 9 d) rfl;have L90xa:World.cell? W2 ⟨w.heap.size+1,0,none⟩=some (.bool s90x):=b90x.c0;have L90xb:World.cell? W2 ⟨w.heap.size+1,1,none⟩=some (.slice a90x n90x c90x):=b90x.c1;exact bodyPost_ret (v:= .agg #[.bool s90x,.slice a90x n90x c90x]) (by simp [results,results128,go_sem,L90xa,L90xb]) rfl (⟨_,rfl,S.ext,h90x⟩)
theorem isSquare_n {k1:Nat} {z:Int} {x:Value} {w:World} (hx:IsI k1 z x w) (hk:k1≤1048576) (hz:z<0):Calls prog 163 #[x] w (Ret w (IsV (.bool false))):=by
 have HZ:=hid hz;have HK:=hid hk;clear hz hk;obtain ⟨s1,a1,n1,c1,rfl,h1⟩:=hx;have h1:IsI _ _ _ w:=⟨_,_,_,_,rfl,h1⟩;obtain ⟨W,hW,S⟩:∃ W,W=w.alloc (.cells #[.bool s1,.slice a1 n1 c1] 33)∧Sto w W [((w.heap.size,0),IsI k1 z)]:=⟨_,rfl,((Sto.start w).new1 (w.heap.size) (by simp) s1 a1 n1 c1 33 (IsI k1 z) (IsI.gstb _ _) (h1))⟩;clear h1;go_enter func163,ntmps163;go_upto_region 1 with (fail);rw [← hW];clear hW;have hl:=hid S.lt;have hw:=S.ext.size;refine rgs 8 [some 7,some 8,some 6,some 9,some 10,some 11,some 3,some 4] [IsI k1 z,IsT3 (IsI 0 0) (IsI 0 0) (iV 1),IsT3 (IsI 0 0) (IsI 0 0) (iV 1),IsI 0 0,IsI 0 0,iV 1,IsBo W 1,IsBo W 1] [6,7] ?_ ?_
 ·refine Rc (ldI S 0 (w.heap.size) 0 (Od.lit 1) ld_Int) ?_;refine Rc (cl1 (en func192) (Od.lc (Φ:=IsI k1 z) 0 7) (fun x0 w' hE d0=>Sqrtneg_f d0 HK.out HZ.out)) ?_;refine Rc (mv (Od.lc 1 8)) ?_;refine Rc (ex (Od.loc 2 6) t30) ?_;refine Rc (ex (Od.loc 2 6) t31) ?_;refine Rc (ex (Od.loc 2 6) t32) ?_;refine Rc (al al_Int) ?_;refine Rc (al al_Int) ?_;exact rn0
 intro v W1 e1 hΦ hne;replace S:=S.mono e1;have h9:=hΦ 3 dcx;have h10:=hΦ 4 dcx;have v5:v 5= .int .i64 1:=hΦ 5 dcx;obtain ⟨g3,v6,q2,b1,_⟩:=(hΦ 6 dcx:IsBo W 1 (v 6) W1);replace S:=S.addN 1 (ApartO.old hl.out q2) (Nat.le_trans hw q2) b1;obtain ⟨g4,v7,q4,b3,_⟩:=(hΦ 7 dcx:IsBo W 1 (v 7) W1);replace S:=S.addN 1 (ApartO.cons (fun h=>hne 6 7 dcx dcx dcx dcx dcx (by rw [v6,v7,h])) (ApartO.old hl.out q4)) (Nat.le_trans hw q4) b3;simp only [newF,List.cons_append,List.nil_append] at S;simp only [lxE,Nat.reduceAdd];rw [v5,v6,v7];clear b1 b3 hl hw hne v5 v6 v7 hΦ e1
 try simp only [dxE]
 (with_reducible refine stL ?_ (by rfl));intro KK hKK;refine stI S 1 (g3) 0 h9 st_Int (fun W2 S2 G2=>hKK _ _ ?_) rfl
 replace h10:=(IsI.gstb _ _) _ _ _ G2 h10;replace S:=S2;clear S2 G2 hKK KK h9;simp only [u0x,u1x] at S
 try simp only [dxE]
 (with_reducible refine stL ?_ (by rfl));intro KK hKK;refine stI S 0 (g4) 0 h10 st_Int (fun W3 S2 G2=>hKK _ _ ?_) rfl
 replace S:=S2;clear S2 G2 hKK KK h10;simp only [u0x] at S;refine wpList_step fun K hK=> ?_;go_simp;refine hK _ _ ?_;clear hK K
 refine wpList_nil ?_;go_upto_region 2 with (fail);refine rgs 8 [some 12,some 13,some 14,some 15,some 16,some 17,some 18,some 2] [iV 1,IsV (.bool false),IsV (.bool false),IsV (undef),IsV (undef),IsV (undef),IsV (.bool false),IsV (.bool false)] [] ?_ ?_
 ·refine Rc (mv (Od.lit 5)) ?_;refine Rc (bn (r:= .bool false) (Od.loc 0 12) Od.con (hr:=fun w=>by go_simp)) ?_;refine Rc (mv (Od.lc 1 13)) ?_;refine RcN 2 14 false ?_;refine RcN 2 14 false ?_;refine RcN 2 14 false ?_;refine Rc (pk (Od.loc 2 14) Od.con) ?_;refine Rc (mv (Od.lc 6 18)) ?_;exact rn0
 intro v W4 e1 hΦ _;replace S:=S.mono e1;have v7:v 7= .bool false:=hΦ 7 dcx;simp only [lxE,Nat.reduceAdd];rw [v7];clear v7 hΦ e1;refine wpList_nil ?_;go_wp2_with fail;exact bodyPost_ret (v:= .bool false) (by simp [results,results163,go_sem]) rfl (⟨_,rfl,S.ext,rfl⟩)
section
variable (w:World) (s0 s1 s2:Bool) (a0 a1 a2:Option Addr) (n0 c0 n1 c1 n2 c2:Nat)
theorem ia30:(Instr.index 196 (.agg #[.bool s0,.slice a0 n0 c0,.bool s1,.slice a1 n1 c1,.bool s2,.slice a2 n2 c2]) (.int .i64 0)).run prog w= .ok (.agg #[.bool s0,.slice a0 n0 c0]) w:=by unfold Instr.index;go_simp
theorem ia31:(Instr.index 196 (.agg #[.bool s0,.slice a0 n0 c0,.bool s1,.slice a1 n1 c1,.bool s2,.slice a2 n2 c2]) (.int .i64 1)).run prog w= .ok (.agg #[.bool s1,.slice a1 n1 c1]) w:=by unfold Instr.index;go_simp
theorem ia32:(Instr.index 196 (.agg #[.bool s0,.slice a0 n0 c0,.bool s1,.slice a1 n1 c1,.bool s2,.slice a2 n2 c2]) (.int .i64 2)).run prog w= .ok (.agg #[.bool s2,.slice a2 n2 c2]) w:=by unfold Instr.index;go_simp
end
theorem qCheck_f {a b c:Int} {x:Value} {w:World} (hx:IsF (IsI 2 a) (IsI 2 b) (IsI 2 c) x w) {d:Int} (hd:b*b+(-4)*a*c=d) (hn:d<0) (ha:1≤a):Calls prog 127 #[x] w (Ret w (iV 0)):=by
 have HD:=hid hd;have HDN:=hid hn;have HSG:=hid (Int.sign_eq_neg_one_of_neg hn);have HSA:=hid (Int.sign_eq_one_of_pos (show 0<a by omega));clear hd hn ha;obtain ⟨s1x,a1x,n1x,c1x,s1y,a1y,n1y,c1y,s1z,a1z,n1z,c1z,rfl,h1x,h1y,h1z⟩:=hx;obtain ⟨W,hW,S⟩:∃ W,W=w.alloc (.cells #[.bool s1x,.slice a1x n1x c1x,.bool s1y,.slice a1y n1y c1y,.bool s1z,.slice a1z n1z c1z] 62)∧Sto w W [((w.heap.size,2),IsI 2 c),((w.heap.size,1),IsI 2 b),((w.heap.size,0),IsI 2 a)]:=⟨_,rfl,((Sto.start w).new3 (w.heap.size) (by simp) s1x s1y s1z a1x a1y a1z n1x c1x n1y c1y n1z c1z 62 (IsI 2 a) (IsI 2 b) (IsI 2 c) (IsI.gstb _ _) (h1x) (IsI.gstb _ _) (h1y) (IsI.gstb _ _) (h1z))⟩;clear h1x h1y h1z;go_enter func127,ntmps127;go_upto_region 1 with (fail);rw [← hW];clear hW;obtain ⟨sx,ax,nx,cx,bx,kx⟩:=S.at 2 (w.heap.size) 0 (IsI 2 a) rfl;obtain ⟨sy,ay,ny,cy,by',ky⟩:=S.at 1 (w.heap.size) 1 (IsI 2 b) rfl;obtain ⟨sz,az,nz,cz,bz,kz⟩:=S.at 0 (w.heap.size) 2 (IsI 2 c) rfl;have L0:=bx.c0;have L1:=bx.c1;have L2:=by'.c0;have L3:=by'.c1;have L4:=bz.c0;have L5:=bz.c1
 simp only [Nat.reduceMul,Nat.reduceAdd,Nat.mul_zero,Nat.zero_add] at L0 L1 L2 L3 L4 L5;clear bx by' bz
 go_wp2_with fail;have S0:=hid (And.intro S (Ext.refl W));clear S L0 L1 L2 L3 L4 L5
 go_loopg [13] 3 (fun gk v13 wr=> ∃ i:Nat,v13= .int .i64 (i:Int)∧i+gk=3∧Hid (Sto w wr [((w.heap.size,2),IsI 2 c),((w.heap.size,1),IsI 2 b),((w.heap.size,0),IsI 2 a)]∧Ext W wr))
 case atStart=>exact ⟨0,rfl,by omega,S0⟩
 case round=>
  clear S0;obtain ⟨i,rfl,hg,SE⟩:=hrel;by_cases hi0:i=0
  ·subst hi0;have SW:=hid (SE.out.1.mono ((Ext.refl _).alloc (.cells #[.bool sx,.slice ax nx cx] 33)));have EW:=hid (SE.out.2.alloc (.cells #[.bool sx,.slice ax nx cx] 33));have kk:=kx.ext EW.out;have HG:=hid hg;clear hg SE;have hix:=ia30 wr sx sy sz ax ay az nx cx ny cy nz cz;go_wp2_with (go_at_call 162;go_must (refine Calls.mono (Valid_f kk) ?_;rintro e w2 ⟨_,rfl,E2,rfl⟩))
   go_roundg (gk-1)
   case measure=>have:=HG.out;omega
   case rel=>exact ⟨1,rfl,by have:=HG.out;omega,hid ⟨SW.out.mono E2,EW.out.trans E2⟩⟩
  ·skip;by_cases hi1:i=1
   ·subst hi1;have SW:=hid (SE.out.1.mono ((Ext.refl _).alloc (.cells #[.bool sy,.slice ay ny cy] 33)));have EW:=hid (SE.out.2.alloc (.cells #[.bool sy,.slice ay ny cy] 33));have kk:=ky.ext EW.out;have HG:=hid hg;clear hg SE;have hix:=ia31 wr sx sy sz ax ay az nx cx ny cy nz cz;go_wp2_with (go_at_call 162;go_must (refine Calls.mono (Valid_f kk) ?_;rintro e w2 ⟨_,rfl,E2,rfl⟩))
    go_roundg (gk-1)
    case measure=>have:=HG.out;omega
    case rel=>exact ⟨2,rfl,by have:=HG.out;omega,hid ⟨SW.out.mono E2,EW.out.trans E2⟩⟩
   ·skip;by_cases hi2:i=2
    ·subst hi2;have SW:=hid (SE.out.1.mono ((Ext.refl _).alloc (.cells #[.bool sz,.slice az nz cz] 33)));have EW:=hid (SE.out.2.alloc (.cells #[.bool sz,.slice az nz cz] 33));have kk:=kz.ext EW.out;have HG:=hid hg;clear hg SE;have hix:=ia32 wr sx sy sz ax ay az nx cx ny cy nz cz;go_wp2_with (go_at_call 162;go_must (refine Calls.mono (Valid_f kk) ?_;rintro e w2 ⟨_,rfl,E2,rfl⟩))
     go_roundg (gk-1)
     case measure=>have:=HG.out;omega
     case rel=>exact ⟨3,rfl,by have:=HG.out;omega,hid ⟨SW.out.mono E2,EW.out.trans E2⟩⟩
    ·skip;obtain rfl:i=3:=by omega
     have S:=SE.out.1;clear SE hg hi0 hi1 hi2 kx ky kz;go_upto_region 7 with (fail);have hl:=hid S.lt;have hw:=S.ext.size;refine rgs 3 [some 20,some 21,some 5] [IsF (IsI 2 a) (IsI 2 b) (IsI 2 c),IsI 9 d,IsBo wr 1] [2] ?_ ?_ (hst:=by repeat' (first | exact trivial | apply IsIf.stb | exact IsV.stb _ | exact IsI.stb _ _ | apply IsJ.stb | apply IsQ.stb | apply IsF.stb | apply IsT2.stb | apply IsT3.stb | exact IsBo.stb _ _ | apply And.intro))
     ·refine Rc (ldF S 2 1 0 (w.heap.size) 0 (Od.lit 1) ld_Frm rfl rfl rfl) ?_;refine Rc (cl1 (en func128) (Od.lc (Φ:=IsF (IsI 2 a) (IsI 2 b) (IsI 2 c)) 0 20) (fun x0 w' hE d0=>qDisc_f d0 HD.out)) ?_;refine Rc (al al_Int) ?_;exact rn0
     intro v W1 e1 hΦ _;replace S:=S.mono e1;have h21:=hΦ 1 dcx;obtain ⟨g5,v2,q2,b1,_⟩:=(hΦ 2 dcx:IsBo wr 1 (v 2) W1);replace S:=S.addN 1 (ApartO.old hl.out q2) (Nat.le_trans hw q2) b1;simp only [newF,List.cons_append,List.nil_append] at S;simp only [lxE,Nat.reduceAdd];rw [v2];clear b1 hl hw v2 hΦ e1
     try simp only [dxE]
     (with_reducible refine stL ?_ (by rfl));intro KK hKK;refine stI S 0 (g5) 0 h21 st_Int (fun W2 S2 G2=>hKK _ _ ?_) rfl
     replace S:=S2;clear S2 G2 hKK KK h21;simp only [u0x] at S;refine wpList_nil ?_;go_upto_region 8 with (fail);refine rgs 3 [some 23,some 24,some 22] [IsI 9 d,IsV (.bool false),IsV (.bool false)] [] ?_ ?_
     ·refine Rc (ldI S 0 (g5) 0 (Od.lit 5) ld_Int) ?_;refine Rc (cl1 (en func163) (Od.lc (Φ:=IsI 9 d) 0 23) (fun x0 w' hE d0=>isSquare_n d0 dcx HDN.out)) ?_;refine Rc (mv (Od.lc 1 24)) ?_;exact rn0
     intro v W3 e1 hΦ _;replace S:=S.mono e1;have v2:v 2= .bool false:=hΦ 2 dcx;simp only [lxE,Nat.reduceAdd];rw [v2];clear v2 hΦ e1;refine wpList_nil ?_;go_upto_region 10 with (fail);refine rgs 10 [some 26,some 27,some 28,some 29,some 30,some 31,some 32,some 33,some 34,some 25] [IsI 9 d,iV (-1),IsV (.bool true),IsV (.bool true),IsV (.pointer (some ⟨w.heap.size,0,none⟩)),IsI 2 a,iV 1,IsV (.bool false),IsV (.bool false),IsV (.bool false)] [] ?_ ?_
     ·refine Rc (ldI S 0 (g5) 0 (Od.lit 5) ld_Int) ?_;refine Rc (cl1 (en func84) (Od.lc (Φ:=IsI 9 d) 0 26) (fun x0 w' hE d0=>Calls.mono (Sign_f d0) fun _ _ h=>h.int HSG.out)) ?_;refine Rc (bn (r:= .bool true) (Od.loc 1 27) Od.con (hr:=fun w=>by go_simp)) ?_;refine Rc (mv (Od.lc 2 28)) ?_;refine RcG 3 29 true (fa (fa_Frm0 (w.heap.size) 0) (Od.lit 1)) ?_;refine RcG 3 29 true (ldI S 3 (w.heap.size) 0 (Od.lc 4 30) ld_Int) ?_;refine RcG 3 29 true (cl1 (en func84) (Od.lc (Φ:=IsI 2 a) 5 31) (fun x0 w' hE d0=>Calls.mono (Sign_f d0) fun _ _ h=>h.int HSA.out)) ?_;refine RcG 3 29 true (bn (r:= .bool false) (Od.loc 6 32) Od.con (hr:=fun w=>by go_simp)) ?_;refine Rc (pk (Od.loc 3 29) (Od.lc 7 33)) ?_;refine Rc (mv (Od.lc 8 34)) ?_;exact rn0
     intro v W4 e1 hΦ _;replace S:=S.mono e1;have v9:v 9= .bool false:=hΦ 9 dcx;simp only [lxE,Nat.reduceAdd];rw [v9];clear v9 hΦ e1;refine wpList_nil ?_;go_upto_region 12 with (fail);refine rgs 1 [some 2] [iV 0] [] ?_ ?_
     ·refine Rc (mv Od.con) ?_;exact rn0
     intro v W5 e1 hΦ _;replace S:=S.mono e1;have v0:v 0= .int .i64 0:=hΦ 0 dcx;simp only [lxE];rw [v0];clear v0 hΦ e1;refine wpList_nil ?_;go_wp2_with fail;exact bodyPost_ret (v:= .int .i64 0) (by simp [results,results127,go_sem]) rfl (⟨_,rfl,S.ext,rfl⟩)
end Go.Proofs.YtknffgdbdadpcaaGreatDoor
