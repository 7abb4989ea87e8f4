/- Lemmas. -/
import Derived.Test.YtkeikfekkdplgaaGreatDoorWrd
import Derived.Test.YtkeikfekkdplgaaGreatDoorTre
import Derived.Test.YtkeikfekkdplgaaGreatDoorBst4
import Derived.Test.YtkeikfekkdplgaaGreatDoorEv8
namespace Go.Proofs.YtkeikfekkdplgaaGreatDoor
section
open Go Go.RowKit Go.Maps Go.Shelf
open Go.Proofs.Tryz
attribute [local go_sem] Oper.semAt_some
set_option maxRecDepth 100000
def HdS2(L:List (List Value))(v:Value)(w:World):Prop:=(L= []/\v=.slice none 0 0)\/∃g c,v=.slice (some ⟨g,0,none⟩) L.length c/\L.length<=c/\HdR L g w
theorem HdS2.ext{L:List (List Value)}{v:Value}{w w':World}(h:HdS2 L v w)(e:Ext w w'):HdS2 L v w':=h.imp id λ⟨g,c,h1,h2,h3⟩=>⟨g,c,h1,h2,h3.ext e⟩
theorem HdS2.hds{L:List (List Value)}{v:Value}{w:World}(h:HdS2 L v w):HdS L v w:=h.imp id λ⟨g,c,h1,_,h3⟩=>⟨g,c,h1,h3⟩
def IsHw(base:Nat)(M:List (List Value))(v:Value)(w:World):Prop:=Rwg 98 32 base w v M.length M.flatten/\NwB w v
theorem IsHw.ext{base:Nat}{M:List (List Value)}{v:Value}{w w':World}(h:IsHw base M v w)(e:Ext w w'):IsHw base M v w':=⟨h.1.ext e,h.2.kept λg hg=>e.block g (h.1.own_lt hg).1⟩
theorem IsHw.stb(base:Nat)(M:List (List Value)):Stb (IsHw base M):=λ_ _ _ e h=>h.ext e
instance (base:Nat) (M:List (List Value)):StbC (IsHw base M):=⟨IsHw.stb base M⟩
theorem IsHw.hds{base:Nat}{M:List (List Value)}{v:Value}{w:World}(h:IsHw base M v w)(hM:∀vs∈M,vs.length=32):HdS2 M v w:=(HdO.of h.1 rfl h.2 hM).imp id λ⟨g,c,h1,h2,_,h4⟩=>⟨g,c,h1,h2,h4.1⟩
theorem flat32{M:List (List Value)}(hM:∀vs∈M,HdOk vs):M.flatten.length=M.length*32/\(∀u∈M.flatten,u.oneCell'=true)/\∀u∈M.flatten,NoWord u:=by
 refine⟨by rw[flat_len (λvs h=>(hM vs h).1),Nat.mul_comm],λu hu=>?_,λu hu=>?_⟩
 ·obtain⟨vs,h1,h2⟩:=List.mem_flatten.1 hu;exact List.all_eq_true.1 (hM vs h1).2.1 u h2
 ·obtain⟨vs,h1,h2⟩:=List.mem_flatten.1 hu;exact(hM vs h1).2.2 u h2
theorem wp_hw{w:World}{o:Oper}{a:Act}{Q:Exit->Act->World->Prop}{K:Act->World->Prop}(t:Tmp)(s x:Operand)
  (ho:o.op=.call {callee:=.builtin .append,args:= #[s,x],argTypes:= #[37,37]}) (base:Nat) (M N:List (List Value)) (v xv:Value) (hs:a.eval s=v) (hx:a.eval x=xv) (hI:IsHw base M v w) (hN:∀vs∈N,HdOk vs) (hsrc:SrcR N.length N.flatten xv w) (hl:M.length+N.length<=1000000) (hbase:base<=w.heap.size)
  (h:∀v' w',IsHw base (M++N) v' w'->Pg v w v' w'->K (a.put (some t) v') w') (hdt:o.dst=some t:=by rfl):Oper.wp prog o a w K Q:=by
 obtain⟨bytes,hi,hb⟩:=infoH;obtain⟨f1,f2,f3⟩:=flat32 hN;refine wp_rwnS s x 37 ho base 98 (.agg z32'.toArray) 32 bytes za hi rfl dcx (λu hu=>nwZ32 u jw) v M.length M.flatten hs hI.1 hI.2 N.length N.flatten xv hx f1 hsrc f2 f3 (by omega) (by have:=Nat.mul_le_mul (show M.length+N.length<=1000000 by omega) hb;omega) hbase ?_;intro v' w' r1 r2 r3 r4 r5 r6;rw[hdt];exact h v' w' ⟨by rw[jT,List.flatten_append];exact r1,r2⟩ ⟨r3,r4,r6.imp id λe=>⟨_,e,jP _⟩⟩
theorem IsHw.below{base:Nat}{M:List (List Value)}{v v':Value}{w w':World}(h:IsHw base M v w)(p:Pg v w v' w')(hb:base<=w.heap.size):Below base w w':=(jS base w).grown p.gb hb λ_b hb=>(h.1.own_lt hb).2
theorem Pg.cell{v v':Value}{w w':World}{g o:Nat}{u:Value}(p:Pg v w v' w')(h:World.cell? w ⟨g,o,none⟩=some u)(hne:v.ownBlock≠some g):World.cell? w' ⟨g,o,none⟩=some u:=p.gb.cell (a:=⟨g,o,none⟩) h (λe=>hne e.symm)
def IsSrc(m:Nat)(news:List Value):Value->World->Prop:=λx w=>SrcR m news x w
theorem IsSrc.stb(m:Nat)(news:List Value):Stb (IsSrc m news):=λ_ _ _ e h=>h.ext e
instance (m:Nat) (news:List Value):StbC (IsSrc m news):=⟨IsSrc.stb m news⟩
theorem run_slH(g n c j:Nat)(h:j<=c)(w:World):(Instr.slice 37 (.slice (some ⟨g,0,none⟩) n c) none (some (.int .i64 (j:Int))) none).run prog w=.ok (.slice (some ⟨g,0,none⟩) j c) w:=by
 have h0:(0:Int)<=(j:Int):=by omega
 have h2:(j:Int)<=(c:Int):=by omega
 have:=run_slice_h (P:=prog) w 37 (some ⟨g,0,none⟩) n c za .i64 (j:Int) h0 h2;rw[this]
 go_simp
theorem run_slL(g n c j:Nat)(h:j<=n)(w:World):(Instr.slice 37 (.slice (some ⟨g,0,none⟩) n c) (some (.int .i64 (j:Int))) none none).run prog w=.ok (.slice (if c=j then some ⟨g,0,none⟩else some ⟨g,32*j,none⟩) (n-j) (c-j)) w:=by
 have h0:(0:Int)<=(j:Int):=by omega
 have h2:(j:Int)<=(n:Int):=by omega
 have:=run_slice_l (P:=prog) w 37 (some ⟨g,0,none⟩) n c za .i64 (j:Int) h0 h2;rw[this];have h4:j*32=32*j:=by omega
 go_simp
section
variable {ops:Array Oper} {Q:Exit->Act->World->Prop} {ds:List (Option Tmp)} {a0:Act} {w0:World} {L:List (Value->World->Prop)} {boxes:List Nat} {i k:Nat} {o:Oper} {os:List Oper}
theorem slTo{M:List (List Value)}{sv:Value}{j:Nat}{x y:Operand}(h:HdS2 M sv w0)(hM:∀vs∈M,vs.length=32)(hj:j<=M.length)(hx:Od ops ds a0 w0 L i x (IsV sv))(hy:Od ops ds a0 w0 L i y (iV (j:Int)))(ho:o.op=.slice 37 x none (some y) none:=by rfl)(hi:L.getD i (λ_ _=>True)=IsSrc j (M.take j).flatten:=by kernel_rfl)(hb:boxes.contains i=false:=by kernel_rfl):Ok prog ops Q ds a0 w0 L boxes i o:=
 xZ hb λv a w hE hd hf=>by
  have e1:a.eval x=_:=hx.out v a w hE hd hf;have e2:a.eval y=_:=hy.out v a w hE hd hf;rcases h with⟨rfl,rfl⟩| ⟨g,c,rfl,hc,hR⟩
  ·obtain rfl:j=0:=by simpa using hj
   refine⟨.slice none 0 0,w,?_,Ext.refl w,by rw[hi];exact .inl ⟨rfl,rfl,rfl⟩⟩;unfold execOp;rw[ho];dsimp only[Option.map];rw[e1,e2]
   go_simp
  ·refine⟨.slice (some ⟨g,0,none⟩) j c,w,?_,Ext.refl w,?_⟩
   ·have:=run_slH g M.length c j (by omega) w;unfold execOp;rw[ho];dsimp only[Option.map];rw[e1,e2];simp[run_sliceAt_slice (P:=prog) w 37 _ _ _ _ (by kernel_rfl),this]
   ·rw[hi];refine .inr ⟨g,0,c,rfl,λq u hq=>?_⟩;obtain⟨vs,h1,h2⟩:=flat_inv (λvs hvs=>hM vs (List.mem_of_mem_take hvs)) hq;rw[List.getElem?_take]at h1
    split at h1
    ·have:=hE.cell (hR _ vs h1 _ u h2)
     rwa [show 32*(q/32)+q%32=0+q by omega]at this
    ·cases h1
theorem slFrom{M:List (List Value)}{sv:Value}{j:Nat}{x y:Operand}(h:HdS2 M sv w0)(hM:∀vs∈M,vs.length=32)(hj:j<=M.length)(hx:Od ops ds a0 w0 L i x (IsV sv))(hy:Od ops ds a0 w0 L i y (iV (j:Int)))(ho:o.op=.slice 37 x (some y) none none:=by rfl)(hi:L.getD i (λ_ _=>True)=IsSrc (M.drop j).length (M.drop j).flatten:=by kernel_rfl)(hb:boxes.contains i=false:=by kernel_rfl):Ok prog ops Q ds a0 w0 L boxes i o:=
 xZ hb λv a w hE hd hf=>by
  have e1:a.eval x=_:=hx.out v a w hE hd hf;have e2:a.eval y=_:=hy.out v a w hE hd hf;rcases h with⟨rfl,rfl⟩| ⟨g,c,rfl,hc,hR⟩
  ·obtain rfl:j=0:=by simpa using hj
   refine⟨.slice none 0 0,w,?_,Ext.refl w,by rw[hi];exact .inl ⟨rfl,rfl,rfl⟩⟩;unfold execOp;rw[ho];dsimp only[Option.map];rw[e1,e2]
   go_simp
  ·refine⟨.slice (if c=j then some ⟨g,0,none⟩else some ⟨g,32*j,none⟩) (M.length-j) (c-j),w,?_,Ext.refl w,?_⟩
   ·have:=run_slL g M.length c j hj w;unfold execOp;rw[ho];dsimp only[Option.map];rw[e1,e2];simp[run_sliceAt_slice (P:=prog) w 37 _ _ _ _ (by kernel_rfl),this]
   ·rw[hi];show SrcR _ _ _ _;rw[List.length_drop];by_cases hcj:c=j
    ·rw[if_pos hcj];have hd0:M.drop j= []:=List.drop_eq_nil_of_le (by omega);exact .inr ⟨g,0,c-j,rfl,λq u hq=>by rw[hd0]at hq;simp at hq⟩
    ·rw[if_neg hcj];refine .inr ⟨g,32*j,c-j,rfl,λq u hq=>?_⟩;obtain⟨vs,h1,h2⟩:=flat_inv (λvs hvs=>hM vs (List.mem_of_mem_drop hvs)) hq;rw[List.getElem?_drop]at h1;have:=hE.cell (hR _ vs h1 _ u h2)
     rwa [show 32*(j+q/32)+q%32=32*j+q by omega]at this
theorem bsHw{base:Nat}(hb0:base<=w0.heap.size)(ho:o.op=.buildSlice 37 0 #[]:=by rfl)(hi:L.getD i (λ_ _=>True)=IsHw base []:=by kernel_rfl)(hb:boxes.contains i=false:=by kernel_rfl):Ok prog ops Q ds a0 w0 L boxes i o:=
 xZ hb λv a w hE hd hf=>by
  have hr:(Instr.buildSlice 37 0 #[]).run prog w=.ok (.slice (some ⟨w.heap.size,0,none⟩) 0 0) (w.alloc (.cells #[] 98)):=ja
  exact⟨_,_,jH ho (by simpa using hr),(Ext.refl w).alloc _,by rw[hi];exact⟨RwgH.zero w (jQ hb0 hE.size),NwB.zero w _⟩⟩
end
end
section
open Go Go.RowKit Go.Maps Go.Shelf
open Go.Proofs.Tryz
theorem xn{P:Prop}(h:P:=by simp only[List.map_toArray,List.map_cons,List.map_nil];rw[h1,h2];exact bd_HeE _ _ _ _ _ _ _ _ _ _ _):P:=h
attribute [local go_sem] Oper.semAt_some
set_option maxRecDepth 100000
def IsBp(p:Prop):Value->World->Prop:=λx _=>∃b:Bool,x=.bool b/\(b=true->p)
theorem IsBp.stb(p:Prop):Stb (IsBp p):=λ_ _ _ _ h=>h
instance (p:Prop):StbC (IsBp p):=⟨IsBp.stb p⟩
def IsSo1(kk:Nat->Prop)(p:Int×Int×Int):Value->World->Prop:=λx w=>∃g,kk g/\x=.slice (some ⟨g,0,none⟩) 1 1/\World.cell? w ⟨g,0,none⟩=some (.int .i64 p.1)/\World.cell? w ⟨g,0+1,none⟩=some (.int .i64 p.2.1)/\World.cell? w ⟨g,0+2,none⟩=some (.int .i64 p.2.2)
theorem IsSo1.stb(kk:Nat->Prop)(p:Int×Int×Int):Stb (IsSo1 kk p):=λ_ _ _ e ⟨g,h0,h1,h2,h3,h4⟩=>⟨g,h0,h1,e.cell h2,e.cell h3,e.cell h4⟩
instance (kk:Nat->Prop) (p:Int×Int×Int):StbC (IsSo1 kk p):=⟨IsSo1.stb kk p⟩
def IsHe(kk:Nat->Prop)(p:Int×Int×Int)(es:List Value):Value->World->Prop:=λx w=>∃g o c,kk g/\x=.agg (es++ [Value.slice (some ⟨g,o,none⟩) 1 c]).toArray/\World.cell? w ⟨g,o,none⟩=some (.int .i64 p.1)/\World.cell? w ⟨g,o+1,none⟩=some (.int .i64 p.2.1)/\World.cell? w ⟨g,o+2,none⟩=some (.int .i64 p.2.2)
theorem IsHe.stb(kk:Nat->Prop)(p:Int×Int×Int)(es:List Value):Stb (IsHe kk p es):=λ_ _ _ e ⟨g,o,c,h0,h1,h2,h3,h4⟩=>⟨g,o,c,h0,h1,e.cell h2,e.cell h3,e.cell h4⟩
instance (kk:Nat->Prop) (p:Int×Int×Int) (es:List Value):StbC (IsHe kk p es):=⟨IsHe.stb kk p es⟩
def IsHn(kk:Nat->Prop)(p:Int×Int×Int)(es:List Value):Value->World->Prop:=λx w=>∃g o c,kk g/\SrcR 1 (es++ [Value.slice (some ⟨g,o,none⟩) 1 c]) x w/\World.cell? w ⟨g,o,none⟩=some (.int .i64 p.1)/\World.cell? w ⟨g,o+1,none⟩=some (.int .i64 p.2.1)/\World.cell? w ⟨g,o+2,none⟩=some (.int .i64 p.2.2)
theorem IsHn.stb(kk:Nat->Prop)(p:Int×Int×Int)(es:List Value):Stb (IsHn kk p es):=λ_ _ _ e ⟨g,o,c,h0,h1,h2,h3,h4⟩=>⟨g,o,c,h0,h1.ext e,e.cell h2,e.cell h3,e.cell h4⟩
instance (kk:Nat->Prop) (p:Int×Int×Int) (es:List Value):StbC (IsHn kk p es):=⟨IsHn.stb kk p es⟩
theorem jG(g:Nat)(w:World):(Instr.fieldAt 39 (.pointer (some ⟨g,0,none⟩)) 0).run prog w=.ok (.pointer (some ⟨g,0,none⟩)) w:=by go_simp
theorem fa_He0(g f:Nat)(w:World):(Instr.fieldAt 98 (.pointer (some ⟨g,f,none⟩)) 0).run prog w=.ok (.pointer (some ⟨g,f,none⟩)) w:=by go_simp
theorem fa_He1(g f:Nat)(w:World):(Instr.fieldAt 98 (.pointer (some ⟨g,f,none⟩)) 1).run prog w=.ok (.pointer (some ⟨g,f+31,none⟩)) w:=by go_simp
theorem ld_aH:LdC1 prog 37:=λw a v h=>by go_simp
theorem ld_aSo:LdC1 prog 96:=λw a v h=>by go_simp
theorem st_Sh:StV prog 39 1:=stM za
theorem lv_Sh{w:World}{g:Nat}{vs:List Value}(hl:vs.length=1)(B:Bk w g vs):(loadVar 39 ⟨g,0,none⟩).run prog w=.ok (.agg vs.toArray) w:=lvM za za hl B
theorem nwNilS:∀v∈ [Value.slice none 0 0],NoWord v:=λv hv=>by obtain rfl:v=.slice none 0 0:=(by simpa using hv);exact NoWord.slice _ _ _
theorem bd_HeE(nm:ByteArray)(va:Option Addr)(vn vc:Nat)(ha:Option Addr)(hn hc:Nat)(a:Option Addr)(n c:Nat)(w:World):(Instr.build 98 #[(0,.agg (jI nm va vn vc ha hn hc).toArray),(1,.slice a n c)]).run prog w=.ok (.agg (jI nm va vn vc ha hn hc++ [Value.slice a n c]).toArray) w:=by unfold jI;go_simp
theorem bs_HeE(nm:ByteArray)(va:Option Addr)(vn vc:Nat)(ha:Option Addr)(hn hc:Nat)(a:Option Addr)(n c:Nat)(w:World):(Instr.buildSlice 37 1 #[(0,.agg (jI nm va vn vc ha hn hc++ [Value.slice a n c]).toArray)]).run prog w=.ok (.slice (some ⟨w.heap.size,0,none⟩) 1 1) (w.alloc (.cells (jI nm va vn vc ha hn hc++ [Value.slice a n c]).toArray 98)):=by unfold jI;go_simp
section
variable {ops:Array Oper} {Q:Exit->Act->World->Prop} {ds:List (Option Tmp)} {a0:Act} {w0:World} {L:List (Value->World->Prop)} {boxes:List Nat} {i k:Nat} {o:Oper} {os:List Oper}
theorem bnL{nm nm':ByteArray}{x:Operand}(hx:Od ops ds a0 w0 L i x (IsCm nm nm'))(ho:o.op=.binOp .lss 3 x (.const (.int .i64 0)) 3:=by rfl)(hi:L.getD i (λ_ _=>True)=IsBp True:=by kernel_rfl)(hb:boxes.contains i=false:=by kernel_rfl):Ok prog ops Q ds a0 w0 L boxes i o:=
 xZ hb λv a w hE hd hf=>by
  obtain⟨c,h1,-⟩:=hx.out v a w hE hd hf;refine⟨.bool (decide (c<0)),w,?_,Ext.refl w,by rw[hi];exact⟨_,rfl,λ_=>trivial⟩⟩;unfold execOp;rw[ho];dsimp only;rw[h1,show a.eval (.const (.int .i64 0))=.int .i64 0 from rfl]
  go_simp
theorem bnZ{nm nm':ByteArray}{x:Operand}(hx:Od ops ds a0 w0 L i x (IsCm nm nm'))(ho:o.op=.binOp .eql 3 x (.const (.int .i64 0)) 3:=by rfl)(hi:L.getD i (λ_ _=>True)=IsBp (nm=nm'):=by kernel_rfl)(hb:boxes.contains i=false:=by kernel_rfl):Ok prog ops Q ds a0 w0 L boxes i o:=
 xZ hb λv a w hE hd hf=>by
  obtain⟨c,h1,-,-,h2⟩:=hx.out v a w hE hd hf;refine⟨.bool (decide (c=0)),w,?_,Ext.refl w,by rw[hi];exact⟨_,rfl,λh=>h2 (of_decide_eq_true h)⟩⟩;unfold execOp;rw[ho];dsimp only;rw[h1,show a.eval (.const (.int .i64 0))=.int .i64 0 from rfl]
  go_simp
  by_cases hc0:c=0 <;> simp[hc0]
theorem bsSo1{kk:Nat->Prop}{p:Int×Int×Int}{x:Operand}(hk:∀m,w0.heap.size<=m->kk m)(hx:Od ops ds a0 w0 L i x (IsV (.agg #[.int .i64 p.1,.int .i64 p.2.1,.int .i64 p.2.2])))(ho:o.op=.buildSlice 96 1 #[(0,x)]:=by rfl)(hi:L.getD i (λ_ _=>True)=IsSo1 kk p:=by kernel_rfl)(hb:boxes.contains i=false:=by kernel_rfl):Ok prog ops Q ds a0 w0 L boxes i o:=
 xZ hb λv a w hE hd hf=>by
  have h1:a.eval x=_:=hx.out v a w hE hd hf;have hr:(Instr.buildSlice 96 1 #[(0,.agg #[.int .i64 p.1,.int .i64 p.2.1,.int .i64 p.2.2])]).run prog w=.ok (.slice (some ⟨w.heap.size,0,none⟩) 1 1) (w.alloc (.cells #[.int .i64 p.1,.int .i64 p.2.1,.int .i64 p.2.2] 102)):=ja
  have B:=Bk.new w #[.int .i64 p.1,.int .i64 p.2.1,.int .i64 p.2.2] 102;exact⟨_,_,jH ho yh,(Ext.refl w).alloc _,by rw[hi];exact⟨_,hk _ hE.size,rfl,B.c 0 _ rfl,B.c 1 _ rfl,B.c 2 _ rfl⟩⟩
theorem bdHe{kk:Nat->Prop}{p:Int×Int×Int}{nm:ByteArray}{va:Option Addr}{vn vc:Nat}{ha:Option Addr}{hn hc:Nat}{es:List Value}{x y:Operand}(hes:jI nm va vn vc ha hn hc=es)(hx:Od ops ds a0 w0 L i x (IsV (.agg es.toArray)))(hy:Od ops ds a0 w0 L i y (IsSo1 kk p))(ho:o.op=.build 98 #[(0,x),(1,y)]:=by rfl)(hi:L.getD i (λ_ _=>True)=IsHe kk p es:=by kernel_rfl)(hb:boxes.contains i=false:=by kernel_rfl):Ok prog ops Q ds a0 w0 L boxes i o:=
 xZ hb λv a w hE hd hf=>by
  subst hes;have h1:a.eval x=_:=hx.out v a w hE hd hf;obtain⟨g,h0,h2,q1,q2,q3⟩:=hy.out v a w hE hd hf;exact⟨_,w,bdG ho xn,Ext.refl w,by rw[hi];exact⟨g,0,1,h0,rfl,q1,q2,q3⟩⟩
theorem bdHeV{kk:Nat->Prop}{p:Int×Int×Int}{nm:ByteArray}{va:Option Addr}{vn vc:Nat}{ha:Option Addr}{hn hc:Nat}{g o' c':Nat}{es:List Value}{x y:Operand}(hes:jI nm va vn vc ha hn hc=es)(hk:kk g)(q1:World.cell? w0 ⟨g,o',none⟩=some (.int .i64 p.1))(q2:World.cell? w0 ⟨g,o'+1,none⟩=some (.int .i64 p.2.1))(q3:World.cell? w0 ⟨g,o'+2,none⟩=some (.int .i64 p.2.2))(hx:Od ops ds a0 w0 L i x (IsV (.agg es.toArray)))(hy:Od ops ds a0 w0 L i y (IsV (.slice (some ⟨g,o',none⟩) 1 c')))(ho:o.op=.build 98 #[(0,x),(1,y)]:=by rfl)(hi:L.getD i (λ_ _=>True)=IsHe kk p es:=by kernel_rfl)(hb:boxes.contains i=false:=by kernel_rfl):Ok prog ops Q ds a0 w0 L boxes i o:=
 xZ hb λv a w hE hd hf=>by
  subst hes;have h1:a.eval x=_:=hx.out v a w hE hd hf;have h2:a.eval y=_:=hy.out v a w hE hd hf;exact⟨_,w,bdG ho xn,Ext.refl w,by rw[hi];exact⟨g,o',c',hk,rfl,hE.cell q1,hE.cell q2,hE.cell q3⟩⟩
theorem bsHn{kk:Nat->Prop}{p:Int×Int×Int}{nm:ByteArray}{va:Option Addr}{vn vc:Nat}{ha:Option Addr}{hn hc:Nat}{es:List Value}{x:Operand}(hes:jI nm va vn vc ha hn hc=es)(hx:Od ops ds a0 w0 L i x (IsHe kk p es))(ho:o.op=.buildSlice 37 1 #[(0,x)]:=by rfl)(hi:L.getD i (λ_ _=>True)=IsHn kk p es:=by kernel_rfl)(hb:boxes.contains i=false:=by kernel_rfl):Ok prog ops Q ds a0 w0 L boxes i o:=
 xZ hb λv a w hE hd hf=>by
  subst hes;obtain⟨g,o',c,h0,h1,q1,q2,q3⟩:=hx.out v a w hE hd hf;have e:=(Ext.refl w).alloc (.cells (jI nm va vn vc ha hn hc++ [Value.slice (some ⟨g,o',none⟩) 1 c]).toArray 98);exact⟨_,_,jH ho (by simp only[List.map_toArray,List.map_cons,List.map_nil];rw[h1];exact bs_HeE _ _ _ _ _ _ _ _ _ _ _),e,by rw[hi];exact⟨g,o',c,h0,SrcR.new w (jI nm va vn vc ha hn hc++ [Value.slice (some ⟨g,o',none⟩) 1 c]).toArray _ 1 1,e.cell q1,e.cell q2,e.cell q3⟩⟩
end
def IsSh(L:List (List Value))(nm:ByteArray)(p:Int×Int×Int):Value->World->Prop:=λx w=>∃(sv:Value) (j m:Nat) (new:List Value),x=.agg #[sv]/\HdS2 (L.take j++ [new]++L.drop m) sv w/\j<=L.length/\HeldW p new w/\xH new=nm/\(m=j\/(m=j+1/\p=(0,1,0)/\∃vs,L[j]? =some vs/\xH vs=nm))
theorem IsSh.stb(L:List (List Value))(nm:ByteArray)(p:Int×Int×Int):Stb (IsSh L nm p):=λ_ _ _ e ⟨sv,j,m,new,h1,h2,h3,h4,h5,h6⟩=>⟨sv,j,m,new,h1,h2.ext e,h3,h4.ext e,h5,h6⟩
instance (L:List (List Value)) (nm:ByteArray) (p:Int×Int×Int):StbC (IsSh L nm p):=⟨IsSh.stb L nm p⟩
theorem HeldW.ent{p:Int×Int×Int}{vs:List Value}{w:World}(h:HeldW p vs w):∃d es,vs.take 31=es/\EntW (xH vs) d es w/\∃g o c,vs[31]? =some (.slice (some ⟨g,o,none⟩) 1 c)/\World.cell? w ⟨g,o,none⟩=some (.int .i64 p.1)/\World.cell? w ⟨g,o+1,none⟩=some (.int .i64 p.2.1)/\World.cell? w ⟨g,o+2,none⟩=some (.int .i64 p.2.2):=by
 obtain⟨nm,d,es,g,o,c,rfl,h1,h2,h3,h4⟩:=h;have hl:=h1.len
 have hn:xH (es++ [Value.slice (some ⟨g,o,none⟩) 1 c])=nm:=by
  obtain⟨-,-,-,va,vc,ha,hc,rfl,-⟩:=h1;rfl
 refine⟨d,es,by rw[<-hl];simp,by rw[hn];exact h1,g,o,c,?_,h2,h3,h4⟩;rw[List.getElem?_append_right (by omega),hl];rfl
theorem ix_HdS(sa:Option Addr)(g c n j:Nat)(ha:sa=some ⟨g,0,none⟩)(h:j<n)(w:World):(Instr.indexAt 37 (.slice sa n c) (.int .i64 (j:Int))).run prog w=.ok (.pointer (some ⟨g,32*j,none⟩)) w:=by subst ha;exact ix_Hd g c n j h w
theorem hdAt{L:List (List Value)}{sa:Option Addr}{n sc j:Nat}{vs:List Value}{p:Int×Int×Int}{w W:World}(hs:HdS2 L (.slice sa n sc) W)(hvs:L[j]? =some vs)(hW:HeldW p vs w):∃(g g31 o31 c31:Nat) (d':EnD) (es':List Value),sa=some ⟨g,0,none⟩/\(∀w',Ext W w'->(Instr.loadAt 95 (.pointer (some ⟨g,32*j,none⟩))).run prog w'=.ok (.agg es'.toArray) w')/\
  (∀w',Ext W w'->World.cell? w' ⟨g,32*j+31,none⟩=some (.slice (some ⟨g31,o31,none⟩) 1 c31))/\EntW (xH vs) d' es' w/\World.cell? w ⟨g31,o31,none⟩=some (.int .i64 p.1)/\World.cell? w ⟨g31,o31+1,none⟩=some (.int .i64 p.2.1)/\World.cell? w ⟨g31,o31+2,none⟩=some (.int .i64 p.2.2):=by
 obtain⟨d',es',ht,hent,g31,o31,c31,q31,r1,r2,r3⟩:=hW.ent;rcases hs with⟨h1,-⟩| ⟨g,c,h1,-,hR⟩
 ·rw[h1]at hvs;simp at hvs
 ·simp only[Value.slice.injEq]at h1;refine⟨g,g31,o31,c31,d',es',h1.1,λw' e=>ldM (vs:=es') za za hent.len (λq u hq=>e.cell (hR j vs hvs q u ?_)),λw' e=>e.cell (hR j vs hvs 31 _ q31),hent,r1,r2,r3⟩;rw[<-ht,List.getElem?_take]at hq
  split at hq
  ·exact hq
  ·cases hq
theorem HdS2.only{L:List (List Value)}{v:Value}{w w':World}{k:Nat}(h:HdS2 L v w)(O:OnlyB k w w')(hk:∀g,v.ownBlock=some g->g≠k):HdS2 L v w':=h.imp id λ⟨g,c,h1,h2,h3⟩=>⟨g,c,h1,h2,h3.only (Ob.only O) (hk g (by rw[h1];rfl))⟩
theorem xC{w w':World}{k g o:Nat}{u:Value}(h:World.cell? w ⟨g,o,none⟩=some u)(O:OnlyB k w w')(hk:g≠k):World.cell? w' ⟨g,o,none⟩=some u:=(World.cell?_of_block (w:=w) (a:=⟨g,o,none⟩) (O.block g hk)).trans h
end
section
open Go Go.RowKit Go.Maps Go.Shelf
open Go.Proofs.Tryz
theorem jd{P:Prop}(h:P:=by exact mv (qB (x:=.int .i64 (j:Int)) 7)):P:=h
theorem jl{P:Prop}(h:P:=by rw[<-hu];exact hZ 1 dcx):P:=h
theorem xc{P:Prop}(h:P:=by exact fa (jG b) (qB 3)):P:=h
theorem xe{P:Prop}(h:P:=by have:=HL.out;have:=hjn.out;simp;omega):P:=h
theorem xj{P:Prop}(h:P:=by exact lv (fP:=IsV (.agg es.toArray)) _ (λw2 e=>ld_En31 HLN.out (HB4.out.ext (S3.out.2.trans e))) (qB 4) (λ_ _=>rfl)):P:=h
attribute [local go_sem] Oper.semAt_some
set_option maxRecDepth 100000
def IsShE(L:List (List Value))(nm:ByteArray)(p:Int×Int×Int)(es:List Value):Value->World->Prop:=λx w=>∃(sv:Value) (j m:Nat) (new:List Value),x=.agg #[sv]/\HdS2 (L.take j++ [new]++L.drop m) sv w/\j<=L.length/\HeldW p new w/\xH new=nm/\(m=j\/(m=j+1/\p=(0,1,0)/\∃vs,L[j]? =some vs/\xH vs=nm))/\new.take 31=es
theorem IsShE.stb(L:List (List Value))(nm:ByteArray)(p:Int×Int×Int)(es:List Value):Stb (IsShE L nm p es):=λ_ _ _ e ⟨sv,j,m,new,h1,h2,h3,h4,h5,h6⟩=>⟨sv,j,m,new,h1,h2.ext e,h3,h4.ext e,h5,h6⟩
instance (L:List (List Value)) (nm:ByteArray) (p:Int×Int×Int) (es:List Value):StbC (IsShE L nm p es):=⟨IsShE.stb L nm p es⟩
set_option maxHeartbeats 16000000 in
theorem add_ge{w:World}{L:List (List Value)}{sv:Value}{nm:ByteArray}{d:EnD}{es:List Value}{p:Int×Int×Int}(hs:HdS2 L sv w)(hl:L.length<=1000)(hL:∀vs∈L,HeldW (0,1,0) vs w)(he:EntW nm d es w)(hp:p=(0,1,0)\/∀vs∈L,xH vs≠nm):
  Calls prog 25 #[.agg #[sv],.agg es.toArray,.agg #[.int .i64 p.1,.int .i64 p.2.1,.int .i64 p.2.2]] w (Ret w (IsShE L nm p es)):=by
 have hes:∃va vn vc ha hn hc,es=jI nm va vn vc ha hn hc:=by obtain⟨-,-,-,va,vc,ha,hc,rfl,-⟩:=he;exact⟨_,_,_,_,_,_,rfl⟩
 obtain⟨va,vn,vc,ha,hn',hc,rfl⟩:=hes;have HOK:=hid (show ∀vs∈L,HdOk vs from λvs h=>(hL vs h).ok.1);have H32:=hid (show ∀vs∈L,vs.length=32 from λvs h=>(hL vs h).ok.1.1)
 have hsl:∃a n c,sv=.slice a n c/\n=L.length:=by
  rcases hs with⟨rfl,rfl⟩| ⟨g,c,rfl,-,-⟩
  ·exact⟨_,_,_,rfl,rfl⟩
  ·exact⟨_,_,_,rfl,rfl⟩
 obtain⟨sa,n,sc,rfl,hn⟩:=hsl;obtain⟨es,hes⟩:∃es,jI nm va vn vc ha hn' hc=es:=⟨_,rfl⟩;have HES:=hid hes;rw[hes]at he ⊢;have hlen:=he.len
 obtain⟨W,hW,E,B3,B4,B5,B6⟩:∃W,W=(((w.alloc (.cells #[.slice sa n sc] 39)).alloc (.cells es.toArray 95)).alloc (.cells #[.int .i64 p.1,.int .i64 p.2.1,.int .i64 p.2.2] 102)).alloc (.cells #[.slice none 0 0] 39)/\Ext w W/\Bk W w.heap.size [.slice sa n sc]/\Bk W (w.heap.size+1) es/\Bk W (w.heap.size+2) [.int .i64 p.1,.int .i64 p.2.1,.int .i64 p.2.2]/\Bk W (w.heap.size+3) [.slice none 0 0]:=
  ⟨_,rfl,((((Ext.refl w).alloc _).alloc _).alloc _).alloc _,(Bk.new w _ _).ext ((((Ext.refl _).alloc _).alloc _).alloc _),(Bk.newE _ _ (by simp) _ _).ext (((Ext.refl _).alloc _).alloc _),(Bk.newE _ _ (by simp) _ _).ext ((Ext.refl _).alloc _),Bk.newE _ _ (by simp) _ _⟩
 obtain⟨b,hbb⟩:∃b,w.heap.size=b:=⟨_,rfl⟩;rw[hbb]at B3 B4 B5 B6;have HE:=hid E;have HB3:=hid B3;have HB4:=hid B4;have HB5:=hid B5;have HB6:=hid B6;have HS:=hid (hs.ext E);have HL:=hid (jO hl hn);have HLW:=hid hL;have HEN:=hid he;have HP:=hid hp;have HLN:=hid hlen;have HBB:=hid (jO hbb B6.lt);clear hs hl hL he hp E B3 B4 B5 B6 hlen hn hes;go_enter func25,ntmps25;go_upto_region 1 with fail;rw[<-hW];clear hW hbb;go_wp2_with fail
 go_loopg [7] n (λgk v7 wr=>∃j:Nat,v7=.int .i64 (j:Int)/\j+gk=n/\Hid (Ext W wr))
 case atStart=>exact⟨0,rfl,by omega,hid (Ext.refl W)⟩
 case round=>
  obtain⟨j,rfl,hg,S⟩:=hrel;by_cases hj:j<n
  case' pos=>
   obtain⟨vs,hvs⟩:∃vs,L[j]? =some vs:=⟨_,List.getElem?_eq_getElem (by have:=HL.out.2;omega)⟩;obtain⟨g,g31,o31,c31,d',es',hsa,hld,-,hent,-,-,-⟩:=hdAt HS.out hvs (HLW.out vs (List.mem_of_getElem? hvs));have HLD:=hid hld;have HSA:=hid hsa;have HVN:=hid hent;have HJ:=hid (jO hj hg);have HIW:=hid (show IntKind.i64.wrap ((j:Int)+1)=((j+1:Nat):Int)by have:=HL.out;simp only[IntKind.wrap_i64];omega);have hjn:=hid (show j<=n by omega);clear hvs hent hld hg hj hsa;go_upto_region 2 with fail;refine rg 16 (dR 9 16) [iV (j:Int),IsP b 0,IsV (.slice sa n sc),iV (n:Int),IsV (.bool true),IsV (.bool true),IsP b 0,IsV (.slice sa n sc),iV (j:Int),IsP g (32*j),IsP g (32*j),IsV (.agg es'.toArray),IsV (.agg es.toArray),IsCm (xH vs) nm,IsBp True,IsBp True] [] 0 ?_ ?_
   ·refine Rc jd ?_;refine Rc xc ?_;refine Rc (lvC 0 (HB3.out.ext S.out) ld_aH (qA 1 10)) ?_;refine Rc (lnZ (p:=sa) (n:=n) (c:=sc) (qA 2 11)) ?_;refine Rc (bn (r:=.bool true) (qC 0 9) (qC 3 12) (hr:=λw=>by have hil:(j:Int)<(n:Int):=(by have:=HJ.out;omega);go_simp)) ?_;refine Rc (mv (qA (fP:=IsV (.bool true)) 4 13)) ?_;refine RcG 5 14 true xc ?_;refine RcG 5 14 true (lvC 0 (HB3.out.ext S.out) ld_aH (qA 6 15)) ?_;refine RcG 5 14 true jd ?_;refine RcG 5 14 true (ixq (ix_HdS sa g sc n j HSA.out HJ.out.1) (qA 7 16) (qA 8 17)) ?_;refine RcG 5 14 true (fa (fa_He0 g (32*j)) (qA 9 18)) ?_;refine RcG 5 14 true (lv (fP:=IsV (.agg es'.toArray)) _ (λw2 e=>HLD.out w2 (S.out.trans e)) (qA 10 19) (λ_ _=>rfl)) ?_;refine RcG 5 14 true (lv (fP:=IsV (.agg es.toArray)) _ (λw2 e=>ld_En31 HLN.out (HB4.out.ext (S.out.trans e))) (qB 4) (λ_ _=>rfl)) ?_;refine RcG 5 14 true (cl2 (en func57) (qA (fP:=IsV (.agg es'.toArray)) 11 20) (qA (fP:=IsV (.agg es.toArray)) 12 21) (λx0 x1 w' hE d0 d1=>by{obtain rfl:x0=_:=d0;obtain rfl:x1=_:=d1;exact compare_f (HVN.out.ext (HE.out.trans (S.out.trans hE))) (HEN.out.ext (HE.out.trans (S.out.trans hE)))})) ?_;refine RcG 5 14 true (bnL (nm:=xH vs) (nm':=nm) (qA 13 22)) ?_;refine Rc (pk (b:=true) (qA 5 14) (qA 14 23)) ?_;exact rn0
   intro x X1 e1 hZ _;obtain⟨bb,hbv,-⟩:=hZ 15 dcx;simp only[lxE,Nat.reduceAdd];rw[hbv];have S1:=hid (S.out.trans e1);clear hZ hbv e1 S;refine jR za ?_ _;have hiw:=HIW.out;cases bb
   case' true=>
    go_wp2_with fail
    go_roundg (gk-1)
    case measure=>have:=HJ.out;omega
    case rel=>exact⟨j+1,rfl,by have:=HJ.out;omega,S1⟩
   case' false=>
    clear hiw HIW HJ HVN HLD HSA
  case' neg=>
   have hjn:=hid (show j<=n by omega);have HJN:=hid (jO hj hg);clear hj hg;go_upto_region 2 with fail;refine rg 16 (dR 9 16) [iV (j:Int),IsP b 0,IsV (.slice sa n sc),iV (n:Int),IsV (.bool false),IsV (.bool false),IsV undef,IsV undef,IsV undef,IsV undef,IsV undef,IsV undef,IsV undef,IsV undef,IsV undef,IsV (.bool false)] [] 0 ?_ ?_
   ·refine Rc jd ?_;refine Rc xc ?_;refine Rc (lvC 0 (HB3.out.ext S.out) ld_aH (qA 1 10)) ?_;refine Rc (lnZ (p:=sa) (n:=n) (c:=sc) (qA 2 11)) ?_;refine Rc (bn (r:=.bool false) (qC 0 9) (qC 3 12) (hr:=λw=>by have hil:¬((j:Int)<(n:Int)):=(by have:=HJN.out;omega);go_simp)) ?_;refine Rc (mv (qA (fP:=IsV (.bool false)) 4 13)) ?_
    iterate 9 refine RcN 5 14 false ?_
    refine Rc (pk (b:=false) (qA 5 14) qE) ?_;exact rn0
   intro x X1 e1 hZ _;simp only[lxE,Nat.reduceAdd];rw[show x 15=.bool false from hZ 15 dcx];have S1:=hid (S.out.trans e1);clear hZ e1 S;refine jR za ?_ _
  all_goals
   have htl:(L.take j).length=j:=by have:=hjn.out;have:=HL.out.2;simp;omega
   go_upto_region 4 with fail;refine rgs 5 (dR 27 5) [IsHw W.heap.size [],IsP b 0,IsV (.slice sa n sc),iV (j:Int),IsSrc j (L.take j).flatten] [] ?_ ?_
   ·refine Rc (bsHw S1.out.size) ?_;refine Rc xc ?_;refine Rc (lvC 0 (HB3.out.ext S1.out) ld_aH (qA 1 28)) ?_;refine Rc jd ?_;refine Rc (slTo (M:=L) (j:=j) (HS.out.ext S1.out) H32.out (by have:=hjn.out;have:=HL.out.2;omega) (qA 2 29) (qA 3 30)) ?_;exact rn0
   intro x X2 e2 hZ _;have h0:IsHw W.heap.size [] (x 0) X2:=hZ 0 dcx;have h4:SrcR (L.take j).length (L.take j).flatten (x 4) X2:=by rw[htl];exact hZ 4 dcx
   simp only[lxE,Nat.reduceAdd];clear hZ;have E2:=S1.out.trans e2;refine stL (λK hK=>wp_hw 32 (.tmp 27) (.tmp 31) rfl W.heap.size [] (L.take j) (x 0) (x 4) rfl rfl h0 (λvs h=>HOK.out vs (List.mem_of_mem_take h)) h4 (by have:=HL.out;simp;omega) E2.size (λv8 w8 hI8 p8=>hK _ _ ?_));have hb8:=h0.below p8 E2.size;have H8:=hid (jO hI8 (show Ext W w8 from Below.trans E2 hb8));clear h0 h4 hI8 hb8 p8 hK K e2 E2 S1 htl;simp only[List.nil_append]at H8;by_cases hj:j<n
   case' pos=>
    obtain⟨vs,hvs⟩:∃vs,L[j]? =some vs:=⟨_,List.getElem?_eq_getElem (by have:=HL.out.2;omega)⟩;obtain⟨g,g31,o31,c31,d',es',hsa,hld,hl31,hent,r1,r2,r3⟩:=hdAt HS.out hvs (HLW.out vs (List.mem_of_getElem? hvs));have HLD:=hid (jO hld hl31);have HVN:=hid hent;have HSA:=hid hsa;have HJ:=hid hj;have HVS:=hid hvs;have HR:=hid (jO r1 (jO r2 r3));have HG:=hid (show g31<b by rw[<-HBB.out.1];exact World.block_lt_of_cell? _ _ r1);clear hld hl31 hent hsa hj hvs r1 r2 r3;go_upto_region 5 with fail;refine rg 16 (dR 33 16) [iV (j:Int),IsP b 0,IsV (.slice sa n sc),iV (n:Int),IsV (.bool true),IsV (.bool true),IsP b 0,IsV (.slice sa n sc),iV (j:Int),IsP g (32*j),IsP g (32*j),IsV (.agg es'.toArray),IsV (.agg es.toArray),IsCm (xH vs) nm,IsBp (xH vs=nm),IsBp (xH vs=nm)] [] 0 ?_ ?_
    ·refine Rc jd ?_;refine Rc xc ?_;refine Rc (lvC 0 (HB3.out.ext H8.out.2) ld_aH (qA 1 34)) ?_;refine Rc (lnZ (p:=sa) (n:=n) (c:=sc) (qA 2 35)) ?_;refine Rc (bn (r:=.bool true) (qC 0 33) (qC 3 36) (hr:=λw=>by have hil:(j:Int)<(n:Int):=(by have:=HJ.out;omega);go_simp)) ?_;refine Rc (mv (qA (fP:=IsV (.bool true)) 4 37)) ?_;refine RcG 5 38 true xc ?_;refine RcG 5 38 true (lvC 0 (HB3.out.ext H8.out.2) ld_aH (qA 6 39)) ?_;refine RcG 5 38 true jd ?_;refine RcG 5 38 true (ixq (ix_HdS sa g sc n j HSA.out HJ.out) (qA 7 40) (qA 8 41)) ?_;refine RcG 5 38 true (fa (fa_He0 g (32*j)) (qA 9 42)) ?_;refine RcG 5 38 true (lv (fP:=IsV (.agg es'.toArray)) _ (λw2 e=>HLD.out.1 w2 (H8.out.2.trans e)) (qA 10 43) (λ_ _=>rfl)) ?_;refine RcG 5 38 true (lv (fP:=IsV (.agg es.toArray)) _ (λw2 e=>ld_En31 HLN.out (HB4.out.ext (H8.out.2.trans e))) (qB 4) (λ_ _=>rfl)) ?_;refine RcG 5 38 true (cl2 (en func57) (qA (fP:=IsV (.agg es'.toArray)) 11 44) (qA (fP:=IsV (.agg es.toArray)) 12 45) (λx0 x1 w' hE d0 d1=>by{obtain rfl:x0=_:=d0;obtain rfl:x1=_:=d1;exact compare_f (HVN.out.ext (HE.out.trans (H8.out.2.trans hE))) (HEN.out.ext (HE.out.trans (H8.out.2.trans hE)))})) ?_;refine RcG 5 38 true (bnZ (nm:=xH vs) (nm':=nm) (qA 13 46)) ?_;refine Rc (pk (b:=true) (qA 5 38) (qA 14 47)) ?_;exact rn0
    intro x X3 e3 hZ _;obtain⟨bb,hbv,hbn⟩:=hZ 15 dcx;simp only[lxE,Nat.reduceAdd];rw[hbv];have S3:=hid (jO (H8.out.1.ext e3) (H8.out.2.trans e3));clear hZ hbv e3 H8;refine jR za ?_ _;cases bb
    case' true=>
     have hnm:=hid (hbn rfl);have hp0:p=(0,1,0):=HP.out.resolve_right (λh=>h vs (List.mem_of_getElem? HVS.out) hnm.out);subst hp0;go_upto_region 6 with fail;refine rg 12 (dR 49 12) [IsV v8,IsV (.agg es.toArray),IsP b 0,IsV (.slice sa n sc),iV (j:Int),IsP g (32*j),IsP g (32*j+31),IsV (.slice (some ⟨g31,o31,none⟩) 1 c31),IsV (.agg #[.int .i64 0,.int .i64 1,.int .i64 0]),IsV (.slice (some ⟨g31,o31,none⟩) 1 c31),IsHe (λg=>g<b) (0,1,0) es,IsHn (λg=>g<b) (0,1,0) es] [] 2 ?_ ?_
     ·refine Rc (mv (qB 8)) ?_;refine Rc xj ?_;refine Rc xc ?_;refine Rc (lvC 0 (HB3.out.ext S3.out.2) ld_aH (qA 2 51)) ?_;refine Rc jd ?_;refine Rc (ixq (ix_HdS sa g sc n j HSA.out HJ.out) (qA 3 52) (qA 4 53)) ?_;refine Rc (fa (fa_He1 g (32*j)) (qA 5 54)) ?_;refine Rc (lv (fP:=IsV (.slice (some ⟨g31,o31,none⟩) 1 c31)) _ (λw2 e=>ld_aSo w2 _ _ (HLD.out.2 w2 (S3.out.2.trans e))) (qA 6 55) (λ_ _=>rfl)) ?_;refine Rc (lv (fP:=IsV (.agg #[.int .i64 0,.int .i64 1,.int .i64 0])) _ (λw2 e=>ld_So3 (vs:= [.int .i64 0,.int .i64 1,.int .i64 0]) (f:=0) rfl (λq u hq=>by rw[Nat.zero_add];exact(HB5.out.ext (S3.out.2.trans e)).c q u hq)) (qB 5) (λ_ _=>rfl)) ?_
      refine Rc (cl2 (en func58) (qA (fP:=IsV (.slice (some ⟨g31,o31,none⟩) 1 c31)) 7 56) (qA (fP:=IsV (.agg #[.int .i64 0,.int .i64 1,.int .i64 0])) 8 57) (λx0 x1 w' hE d0 d1=>by
       obtain rfl:x0=_:=d0;obtain rfl:x1=_:=d1;refine sourced_f (λq u hq=>?_);have e9:=HE.out.trans (S3.out.2.trans hE);rcases q with _|_|_|q
       ·cases hq;exact e9.cell HR.out.1
       ·cases hq;exact e9.cell HR.out.2.1
       ·cases hq;exact e9.cell HR.out.2.2
       ·simp[s010]at hq)) ?_
      refine Rc (bdHeV (kk:=λg=>g<b) (p:=(0,1,0)) (c':=c31) HES.out HG.out ((HE.out.trans S3.out.2).cell HR.out.1) ((HE.out.trans S3.out.2).cell HR.out.2.1) ((HE.out.trans S3.out.2).cell HR.out.2.2) (qA 1 50) (qA 9 58)) ?_;refine Rc (bsHn (kk:=λg=>g<b) (p:=(0,1,0)) HES.out (qA 10 59)) ?_;exact rn0
     intro x X4 e4 hZ _;obtain⟨gn,on,cn,hgn,hsr,t1,t2,t3⟩:=hZ 11 dcx;simp only[lxE,Nat.reduceAdd];rw[show x 0=v8 from hZ 0 dcx];clear hZ;have E4:=S3.out.2.trans e4;have hok:HdOk (es++ [Value.slice (some ⟨gn,on,none⟩) 1 cn]):=(show HeldW (0,1,0) (es++ [Value.slice (some ⟨gn,on,none⟩) 1 cn]) X4 from⟨nm,d,es,gn,on,cn,rfl,HEN.out.ext (HE.out.trans E4),t1,t2,t3⟩).ok.1;have hhn:xH (es++ [Value.slice (some ⟨gn,on,none⟩) 1 cn])=nm:=by rw[<-HES.out];rfl
     obtain⟨new,hnw⟩:∃new,es++ [Value.slice (some ⟨gn,on,none⟩) 1 cn]=new:=⟨_,rfl⟩;rw[hnw]at hsr hok hhn;have HNN:=hid (jO hnw.symm (jO hok.1 hhn));refine stA 12 rfl (λK hK=>wp_hw 61 (.tmp 49) (.tmp 60) rfl W.heap.size (L.take j) [new] v8 (x 11) rfl rfl (S3.out.1.ext e4) (λvs h=>by rw[List.mem_singleton]at h;rw[h];exact hok) (by simpa using hsr) xe E4.size (λv9 w9 hI9 p9=>hK _ _ ?_));have hb9:=(S3.out.1.ext e4).below p9 E4.size;have H9:=hid (jO hI9 (show Ext W w9 from Below.trans E4 hb9));have h8o:v8.ownBlock≠some gn:=λe=>by have:=(S3.out.1.1.own_lt e).2;have:=HBB.out.2;omega
     have h9o:v9.ownBlock≠some gn:=λe=>by have:=(hI9.1.own_lt e).2;have:=HBB.out.2;omega
     have HSC:=hid (jO h9o (jO (show gn≠b+3 by omega) (jO (p9.cell t1 h8o) (jO (p9.cell t2 h8o) (p9.cell t3 h8o)))));clear hI9 p9 hb9 h8o h9o t1 t2 t3 hnw hok hhn hsr hK K e4 E4 S3;refine asA 13 8 (.tmp 61) v9 rfl ?_;refine jR za ?_ _;simp only[Act.put,uAx,u0x,u1x];go_upto_region 7 with fail;refine rgs 6 (dR 62 6) [IsV v9,IsP b 0,IsV (.slice sa n sc),iV (j:Int),iV ((j+1:Nat):Int),IsSrc (L.drop (j+1)).length (L.drop (j+1)).flatten] [] ?_ ?_
     ·refine Rc (mv (qB 8)) ?_;refine Rc xc ?_;refine Rc (lvC 0 (HB3.out.ext H9.out.2) ld_aH (qA 1 63)) ?_;refine Rc jd ?_;refine Rc (bn (r:=.int .i64 ((j+1:Nat):Int)) (qC 3 65) qE (hr:=λw=>by have hiw:IntKind.i64.wrap ((j:Int)+1)=((j+1:Nat):Int):=(by have:=HL.out;have:=hjn.out;simp only[IntKind.wrap_i64];omega);go_simp)) ?_;refine Rc (slFrom (M:=L) (j:=j+1) (HS.out.ext H9.out.2) H32.out (by have:=HJ.out;have:=HL.out.2;omega) (qA 2 64) (qA 4 66)) ?_;exact rn0
     intro x X5 e5 hZ _;have h4:SrcR (L.drop (j+1)).length (L.drop (j+1)).flatten (x 5) X5:=hZ 5 dcx;simp only[lxE,Nat.reduceAdd];rw[show x 0=v9 from hZ 0 dcx];clear hZ;have E5:=H9.out.2.trans e5;refine stL (λK hK=>wp_hw 68 (.tmp 62) (.tmp 67) rfl W.heap.size (L.take j++ [new]) (L.drop (j+1)) v9 (x 5) rfl rfl (H9.out.1.ext e5) (λvs h=>HOK.out vs (List.mem_of_mem_drop h)) h4 xe E5.size (λv10 w10 hI10 p10=>hK _ _ ?_));have E10:Ext W w10:=Below.trans E5 ((H9.out.1.ext e5).below p10 E5.size);have hsc:=HSC.out.2.2;have t1:=p10.cell (e5.cell hsc.1) HSC.out.1;have t2:=p10.cell (e5.cell hsc.2.1) HSC.out.1;have t3:=p10.cell (e5.cell hsc.2.2) HSC.out.1;obtain⟨a10,n10,c10,h10⟩:∃a n c,v10=.slice a n c:=(by obtain⟨ao,cap,h,-⟩:=hI10.1.shape;exact⟨_,_,_,h⟩);subst h10;clear hK K p10 h4 hsc e5;refine jX λK hK=>?_;go_simp;refine hK _ _ ?_;clear hK K;refine stL (λK hK=>?_);refine qZ (us:= [.slice a10 n10 c10]) (HB6.out.ext E10) st_Sh rfl rfl nwNilS (λX6 B6' O=>hK _ _ ?_);clear hK K;refine jL ?_;go_wp2_with fail;have hE6:Ext w X6:=O.ext (HE.out.trans E10) (by have:=HBB.out.1;omega);have hnn:=HNN.out;exact jK (resC results25 rfl (lv_Sh rfl B6')) rfl ⟨_,rfl,hE6,_,j,j+1,new,rfl,(hI10.hds (λvs h=>by{rcases List.mem_append.1 h with h|h;{rcases List.mem_append.1 h with h|h;{exact(HOK.out vs (List.mem_of_mem_take h)).1};{rw[List.mem_singleton]at h;rw[h];exact hnn.2.1}};{exact(HOK.out vs (List.mem_of_mem_drop h)).1}})).only O (λg hg=>by have:=(hI10.1.own_lt hg).2;have:=HBB.out.2;omega),by have:=HL.out;have:=hjn.out;omega,⟨nm,d,es,gn,on,cn,hnn.1,HEN.out.ext hE6,xC t1 O HSC.out.2.1,xC t2 O HSC.out.2.1,xC t3 O HSC.out.2.1⟩,hnn.2.2,(.inr ⟨rfl,rfl,vs,HVS.out,hnm.out⟩),by rw[hnn.1,<-HLN.out];simp⟩
    case' false=>
     clear hbn HLD HVN HSA HJ HVS HR HG
   case' neg=>
    have HJN:=hid hj;clear hj;go_upto_region 5 with fail;refine rg 16 (dR 33 16) [iV (j:Int),IsP b 0,IsV (.slice sa n sc),iV (n:Int),IsV (.bool false),IsV (.bool false),IsV undef,IsV undef,IsV undef,IsV undef,IsV undef,IsV undef,IsV undef,IsV undef,IsV undef,IsV (.bool false)] [] 0 ?_ ?_
    ·refine Rc jd ?_;refine Rc xc ?_;refine Rc (lvC 0 (HB3.out.ext H8.out.2) ld_aH (qA 1 34)) ?_;refine Rc (lnZ (p:=sa) (n:=n) (c:=sc) (qA 2 35)) ?_;refine Rc (bn (r:=.bool false) (qC 0 33) (qC 3 36) (hr:=λw=>by have hil:¬((j:Int)<(n:Int)):=(by have:=HJN.out;omega);go_simp)) ?_;refine Rc (mv (qA (fP:=IsV (.bool false)) 4 37)) ?_
     iterate 9 refine RcN 5 38 false ?_
     refine Rc (pk (b:=false) (qA 5 38) qE) ?_;exact rn0
    intro x X3 e3 hZ _;simp only[lxE,Nat.reduceAdd];rw[show x 15=.bool false from hZ 15 dcx];have S3:=hid (jO (H8.out.1.ext e3) (H8.out.2.trans e3));clear hZ e3 H8 HJN;refine jR za ?_ _
   all_goals
    go_upto_region 8 with fail;refine rgs 6 (dR 70 6) [IsV v8,IsV (.agg es.toArray),IsV (.agg #[.int .i64 p.1,.int .i64 p.2.1,.int .i64 p.2.2]),IsSo1 (λg=>X3.heap.size<=g) p,IsHe (λg=>X3.heap.size<=g) p es,IsHn (λg=>X3.heap.size<=g) p es] [] ?_ ?_
    ·refine Rc (mv (qB 8)) ?_;refine Rc xj ?_;refine Rc (lv (fP:=IsV (.agg #[.int .i64 p.1,.int .i64 p.2.1,.int .i64 p.2.2])) _ (λw2 e=>ld_So3 (vs:= [.int .i64 p.1,.int .i64 p.2.1,.int .i64 p.2.2]) (f:=0) rfl (λq u hq=>by rw[Nat.zero_add];exact(HB5.out.ext (S3.out.2.trans e)).c q u hq)) (qB 5) (λ_ _=>rfl)) ?_;refine Rc (bsSo1 (kk:=λg=>X3.heap.size<=g) (p:=p) (λm hm=>hm) (qA 2 72)) ?_;refine Rc (bdHe (kk:=λg=>X3.heap.size<=g) (p:=p) HES.out (qA 1 71) (qA 3 73)) ?_;refine Rc (bsHn (kk:=λg=>X3.heap.size<=g) (p:=p) HES.out (qA 4 74)) ?_;exact rn0
    intro x X4 e4 hZ _;obtain⟨gn,on,cn,hgn,hsr,t1,t2,t3⟩:=hZ 5 dcx;simp only[lxE,Nat.reduceAdd];rw[show x 0=v8 from hZ 0 dcx];clear hZ;have E4:=S3.out.2.trans e4;have hok:HdOk (es++ [Value.slice (some ⟨gn,on,none⟩) 1 cn]):=(show HeldW p (es++ [Value.slice (some ⟨gn,on,none⟩) 1 cn]) X4 from⟨nm,d,es,gn,on,cn,rfl,HEN.out.ext (HE.out.trans E4),t1,t2,t3⟩).ok.1;have hhn:xH (es++ [Value.slice (some ⟨gn,on,none⟩) 1 cn])=nm:=by rw[<-HES.out];rfl
    obtain⟨new,hnw⟩:∃new,es++ [Value.slice (some ⟨gn,on,none⟩) 1 cn]=new:=⟨_,rfl⟩;rw[hnw]at hsr hok hhn;have HNN:=hid (jO hnw.symm (jO hok.1 hhn));refine stL (λK hK=>wp_hw 76 (.tmp 70) (.tmp 75) rfl W.heap.size (L.take j) [new] v8 (x 5) rfl rfl (S3.out.1.ext e4) (λvs h=>by rw[List.mem_singleton]at h;rw[h];exact hok) (by simpa using hsr) xe E4.size (λv9 w9 hI9 p9=>hK _ _ ?_));have hb9:=(S3.out.1.ext e4).below p9 E4.size;have H9:=hid (jO hI9 (show Ext W w9 from Below.trans E4 hb9));have hgl:=World.block_lt_of_cell? _ _ t1;have h8o:v8.ownBlock≠some gn:=λe=>by have:=(S3.out.1.1.own_lt e).1;omega
    have h9o:v9.ownBlock≠some gn:=λe=>by
     rcases p9.own with o| ⟨g9,o,hg9⟩
     ·exact h8o (o.symm.trans e)
     ·rw[o]at e;cases e;simp only at hgl;omega
    have HSC:=hid (jO h9o (jO (show gn≠b+3 by have:=HBB.out.2;have:=S3.out.2.size;omega) (jO (p9.cell t1 h8o) (jO (p9.cell t2 h8o) (p9.cell t3 h8o)))));clear hI9 p9 hb9 h8o h9o t1 t2 t3 hnw hok hhn hsr hK K e4 E4 S3 hgl hgn;go_upto_region 9 with fail;refine rgs 5 (dR 77 5) [IsV v9,IsP b 0,IsV (.slice sa n sc),iV (j:Int),IsSrc (L.drop j).length (L.drop j).flatten] [] ?_ ?_
    ·refine Rc (mv (qB 8)) ?_;refine Rc xc ?_;refine Rc (lvC 0 (HB3.out.ext H9.out.2) ld_aH (qA 1 78)) ?_;refine Rc jd ?_;refine Rc (slFrom (M:=L) (j:=j) (HS.out.ext H9.out.2) H32.out (by have:=hjn.out;have:=HL.out.2;omega) (qA 2 79) (qA 3 80)) ?_;exact rn0
    intro x X5 e5 hZ _;have h4:SrcR (L.drop j).length (L.drop j).flatten (x 4) X5:=hZ 4 dcx;simp only[lxE,Nat.reduceAdd];rw[show x 0=v9 from hZ 0 dcx];clear hZ;have E5:=H9.out.2.trans e5;refine stL (λK hK=>wp_hw 82 (.tmp 77) (.tmp 81) rfl W.heap.size (L.take j++ [new]) (L.drop (j)) v9 (x 4) rfl rfl (H9.out.1.ext e5) (λvs h=>HOK.out vs (List.mem_of_mem_drop h)) h4 xe E5.size (λv10 w10 hI10 p10=>hK _ _ ?_));have E10:Ext W w10:=Below.trans E5 ((H9.out.1.ext e5).below p10 E5.size);have hsc:=HSC.out.2.2;have t1:=p10.cell (e5.cell hsc.1) HSC.out.1;have t2:=p10.cell (e5.cell hsc.2.1) HSC.out.1;have t3:=p10.cell (e5.cell hsc.2.2) HSC.out.1;obtain⟨a10,n10,c10,h10⟩:∃a n c,v10=.slice a n c:=(by obtain⟨ao,cap,h,-⟩:=hI10.1.shape;exact⟨_,_,_,h⟩);subst h10;clear hK K p10 h4 hsc e5;refine jX λK hK=>?_;go_simp;refine hK _ _ ?_;clear hK K;refine stL (λK hK=>?_);refine qZ (us:= [.slice a10 n10 c10]) (HB6.out.ext E10) st_Sh rfl rfl nwNilS (λX6 B6' O=>hK _ _ ?_);clear hK K;refine jL ?_;go_wp2_with fail;have hE6:Ext w X6:=O.ext (HE.out.trans E10) (by have:=HBB.out.1;omega);have hnn:=HNN.out;exact jK (resC results25 rfl (lv_Sh rfl B6')) rfl ⟨_,rfl,hE6,_,j,j,new,rfl,(hI10.hds (λvs h=>by{rcases List.mem_append.1 h with h|h;{rcases List.mem_append.1 h with h|h;{exact(HOK.out vs (List.mem_of_mem_take h)).1};{rw[List.mem_singleton]at h;rw[h];exact hnn.2.1}};{exact(HOK.out vs (List.mem_of_mem_drop h)).1}})).only O (λg hg=>by have:=(hI10.1.own_lt hg).2;have:=HBB.out.2;omega),by have:=HL.out;have:=hjn.out;omega,⟨nm,d,es,gn,on,cn,hnn.1,HEN.out.ext hE6,xC t1 O HSC.out.2.1,xC t2 O HSC.out.2.1,xC t3 O HSC.out.2.1⟩,hnn.2.2,(.inl rfl),by rw[hnn.1,<-HLN.out];simp⟩
theorem add_g{w:World}{L:List (List Value)}{sv:Value}{nm:ByteArray}{d:EnD}{es:List Value}{p:Int×Int×Int}(hs:HdS2 L sv w)(hl:L.length<=1000)(hL:∀vs∈L,HeldW (0,1,0) vs w)(he:EntW nm d es w)(hp:p=(0,1,0)\/∀vs∈L,xH vs≠nm):
  Calls prog 25 #[.agg #[sv],.agg es.toArray,.agg #[.int .i64 p.1,.int .i64 p.2.1,.int .i64 p.2.2]] w (Ret w (IsSh L nm p)):=
 jJ (add_ge hs hl hL he hp) (by rintro e w1 ⟨_,rfl,e1,sv,j,m,new,h1,h2,h3,h4,h5,h6,-⟩;exact⟨_,rfl,e1,sv,j,m,new,h1,h2,h3,h4,h5,h6⟩)
end
section
open Go Go.RowKit Go.Maps Go.Shelf
attribute [local go_sem] Oper.semAt_some
set_option maxRecDepth 100000
def IsIE(base n:Nat)(v:Value)(w:World):Prop:=∃xs,Rwg 28 2 base w v n xs/\NwB w v/\IntsAt xs n w
theorem IsIE.ext{base n:Nat}{v:Value}{w w':World}(h:IsIE base n v w)(e:Ext w w'):IsIE base n v w':=let ⟨xs,h1,h2,h3⟩:=h;⟨xs,h1.ext e,h2.kept λg hg=>e.block g (h1.own_lt hg).1,h3.gr e.gr⟩
theorem IsIE.stb(base n:Nat):Stb (IsIE base n):=λ_ _ _ e h=>h.ext e
instance (base n:Nat):StbC (IsIE base n):=⟨IsIE.stb base n⟩
theorem IsIE.own_lt{base n:Nat}{v:Value}{w:World}(h:IsIE base n v w){g:Nat}(hg:v.ownBlock=some g):g<w.heap.size/\base<=g:=let ⟨_,h1,_⟩:=h;h1.own_lt hg
theorem wp_ie{w:World}{o:Oper}{a:Act}{Q:Exit->Act->World->Prop}{K:Act->World->Prop}(t:Tmp)(s x:Operand)
  (ho:o.op=.call {callee:=.builtin .append,args:= #[s,x],argTypes:= #[69,69]}) (base n m:Nat) (v xv:Value) (news:List Value) (hs:a.eval s=v) (hx:a.eval x=xv) (hI:IsIE base n v w) (hnews:SrcR m news xv w) (hk:IntsAt news m w) (hN:n+m<=1000000000) (hbase:base<=w.heap.size)
  (h:∀v' w',IsIE base (n+m) v' w'->Pg v w v' w'->K (a.put (some t) v') w') (hdt:o.dst=some t:=by rfl):Oper.wp Tryz.prog o a w K Q:=by
 obtain⟨xs,h2,h3,h4⟩:=hI;obtain⟨bytes,hi,hb⟩:=infoN;refine wp_rwnS s x 69 ho base 28 (.agg zInt.toArray) 2 bytes za hi rfl dcx (λu hu=>nwZInt u jw) v n xs hs h2 h3 m news xv hx hk.1 hnews hk.nw.1 hk.nw.2 (by omega) (by have:=Nat.mul_le_mul (show n+m<=1000000000 by omega) hb;omega) hbase ?_;intro v' w' r1 r2 r3 r4 r5 r6;rw[hdt];exact h v' w' ⟨xs++news,r1,r2,(h4.gr r4).app (hk.gr r4)⟩ ⟨r3,r4,r6.imp id λe=>⟨_,e,jP _⟩⟩
def EnS(base:Nat)(nm:ByteArray)(n:Nat)(es:List Value)(X:World):Prop:=∃(va:Option Addr) (vc:Nat) (ha:Option Addr) (hc:Nat) (hy:List Int),es=jI nm va n vc ha hy.length hc/\1<=n/\n<=3/\IsIE base n (.slice va n vc) X/\hy.length<=1/\(∀z∈hy,1<=z/\z<=3)/\(hy≠ []->∃g,ha=some ⟨g,0,none⟩/\(Value.slice va n vc).ownBlock≠some g/\∀j x,hy[j]? =some x->World.cell? X ⟨g,0+j,none⟩=some (.int .i64 x))
theorem EnS.ext{base n:Nat}{nm:ByteArray}{es:List Value}{X X':World}(h:EnS base nm n es X)(e:Ext X X'):EnS base nm n es X':=by
 obtain⟨va,vc,ha,hc,hy,h1,h2,h3,h4,h5,h6,h7⟩:=h;exact⟨va,vc,ha,hc,hy,h1,h2,h3,h4.ext e,h5,h6,λhn=>let ⟨g,k1,k2,k3⟩:=h7 hn;⟨g,k1,k2,λj x hj=>e.cell (k3 j x hj)⟩⟩
theorem OnlyB.gb{k:Nat}{w w':World}(O:OnlyB k w w'):w.grownBy w' (some k):=⟨O.os,O.tape,O.output,by rw[O.size];exact jP _,λq _ hne=>O.block q (λe=>hne (by rw[e]))⟩
theorem IsIE.only{base n k:Nat}{v:Value}{w w':World}(h:IsIE base n v w)(O:OnlyB k w w')(hk:v.ownBlock≠some k):IsIE base n v w':=by
 obtain⟨xs,h1,h2,h3⟩:=h;exact⟨xs,h1.grown O.gb (λg hg e=>hk (hg.trans e.symm)),h2.kept (λg hg=>O.block g (λe=>hk (e▸hg))),h3.gr O.gr⟩
theorem IsIE.c0{base n:Nat}{va:Option Addr}{vc:Nat}{w:World}(h:IsIE base n (.slice va n vc) w)(hn:1<=n):∃g s,va=some ⟨g,0,none⟩/\World.cell? w ⟨g,0,none⟩=some (.bool s):=by
 obtain⟨xs,h1,-,h3⟩:=h;obtain⟨ao,cap,hv,-,-,-,h5⟩:=h1.shape;cases hv;obtain⟨g,k1,-,-,k2⟩:=h5 (by omega);obtain⟨s,a,m,c,z,q1,-,-⟩:=h3.2 0 (by omega);exact⟨g,s,k1,k2 _ _ q1⟩
theorem EnS.only{base n k:Nat}{nm:ByteArray}{es:List Value}{X X':World}{x:ByteArray}(h:EnS base nm n es X)(O:OnlyB k X X')(hk:World.cell? X ⟨k,0,none⟩=some (.string x)):EnS base nm n es X':=by
 obtain⟨va,vc,ha,hc,hy,h1,h2,h3,h4,h5,h6,h7⟩:=h;refine⟨va,vc,ha,hc,hy,h1,h2,h3,h4.only O ?_,h5,h6,λhn=>?_⟩
 ·obtain⟨g,s,rfl,hg⟩:=h4.c0 h2;intro e;cases e;rw[hg]at hk;cases hk
 ·obtain⟨g,k1,k2,k3⟩:=h7 hn;obtain⟨x0,hx0⟩:=nel hn
  have hne:g≠k:=λe=>by
   have:=k3 0 x0 hx0;rw[e,hk]at this;cases this
  exact⟨g,k1,k2,λj x hj=>xC (k3 j x hj) O hne⟩
theorem EnS.ent{base n:Nat}{nm:ByteArray}{es:List Value}{X:World}(h:EnS base nm n es X):∃d,EntW nm d es X:=by
 obtain⟨va,vc,ha,hc,hy,h1,h2,h3,⟨xs,r1,r2,r3⟩,h5,h6,h7⟩:=h;obtain⟨ao,cap,hv,-,-,-,h8⟩:=r1.shape;cases hv;obtain⟨g,k1,-,-,k2⟩:=h8 (by omega)
 have hz:∀j:Nat,∃z:Int,j<n->∃s a m c,xs[2*j]? =some (Value.bool s)/\xs[2*j+1]? =some (Value.slice a m c)/\IsI 128 z (.agg #[.bool s,.slice a m c]) X:=λj=>by
  by_cases hj:j<n
  ·obtain⟨s,a,m,c,z,q⟩:=r3.2 j hj;exact⟨z,λ_=>⟨s,a,m,c,q⟩⟩
  ·exact⟨0,λh=>absurd h hj⟩
 obtain⟨f,hf⟩:=Classical.axiomOfChoice hz;have hl:((List.range n).map f).length=n:=by simp
 refine⟨⟨(List.range n).map f,hy⟩,⟨by rw[hl];omega,λe=>by have:=congrArg List.length e;simp at this;omega⟩,h5,h6,va,vc,ha,hc,by rw[hl];exact h1,λ_=>⟨g,k1,λj z hj=>?_⟩,λhn=>?_⟩
 ·have hjn:j<n:=by have:=(List.getElem?_eq_some_iff.1 hj).1;simpa using this
  rw[List.getElem?_map,List.getElem?_range hjn]at hj;cases hj;obtain⟨s,a,m,c,q1,q2,q3⟩:=hf j hjn;exact⟨s,a,m,c,k2 _ _ q1,k2 _ _ q2,q3⟩
 ·obtain⟨g',q1,-,q3⟩:=h7 hn;exact⟨g',0,q1,q3⟩
def OneS(b:Nat)(w:World):Prop:=(∀o,World.cell? w ⟨b,o+1,none⟩=none)/\b<w.heap.size/\∃a n c,World.cell? w ⟨b,0,none⟩=some (.slice a n c)
theorem OneS.ext{b:Nat}{w w':World}(h:OneS b w)(e:Ext w w'):OneS b w':=⟨λo=>(World.cell?_of_block (w:=w) (a:=⟨b,o+1,none⟩) (e.block b h.2.1)).trans (h.1 o),Nat.lt_of_lt_of_le h.2.1 e.size,let ⟨a,n,c,k⟩:=h.2.2;⟨a,n,c,e.cell k⟩⟩
theorem OneS.ne{b g o:Nat}{w:World}{u:Value}(h:OneS b w)(hc:World.cell? w ⟨g,o,none⟩=some u)(hu:∀a n c,u≠ .slice a n c):g≠b:=λe=>by
 subst e;cases o with
 |zero=>obtain⟨a,n,c,k⟩:=h.2.2;rw[k]at hc;exact hu _ _ _ (Option.some.inj hc).symm
 |succ o=>rw[h.1 o]at hc;cases hc
theorem EntW.one{nm:ByteArray}{d:EnD}{es:List Value}{w w':World}{b:Nat}(h:EntW nm d es w)(O:OnlyB b w w')(h1:OneS b w):EntW nm d es w':=by
 obtain⟨q1,q2,q3,va,vc,ha,hc,k1,k2,k3⟩:=h;refine⟨q1,q2,q3,va,vc,ha,hc,k1,λhn=>?_,λhn=>?_⟩
 ·obtain⟨g,r1,r2⟩:=k2 hn;refine⟨g,r1,λj z hj=>?_⟩;obtain⟨s,a,n,c',t1,t2,t3⟩:=r2 j z hj;have hne:=h1.ne t1 (λ_ _ _ e=>by cases e);exact⟨s,a,n,c',xC t1 O hne,xC t2 O hne,IsI.gstb _ _ _ _ _ O.gr t3⟩
 ·obtain⟨g,o,r1,r2⟩:=k3 hn;exact⟨g,o,r1,λj x hj=>xC (r2 j x hj) O (h1.ne (r2 j x hj) (λ_ _ _ e=>by cases e))⟩
theorem HeldW.one{p:Int×Int×Int}{vs:List Value}{w w':World}{b:Nat}(h:HeldW p vs w)(O:OnlyB b w w')(h1:OneS b w):HeldW p vs w':=by
 obtain⟨nm,d,es,g,o,c,k1,k2,k3,k4,k5⟩:=h;have hne:=h1.ne k3 (λ_ _ _ e=>by cases e);exact⟨nm,d,es,g,o,c,k1,k2.one O h1,xC k3 O hne,xC k4 O hne,xC k5 O hne⟩
theorem HdS2.one{L:List (List Value)}{v:Value}{w w':World}{b:Nat}(h:HdS2 L v w)(hL:∀vs∈L,∃x,vs[0]? =some (.string x))(O:OnlyB b w w')(h1:OneS b w):HdS2 L v w':=h.imp id λ⟨g,c,k1,k2,k3⟩=>⟨g,c,k1,k2,λj vs hj q u hq=>by
 have hne:g≠b:=by
  obtain⟨x,hx⟩:=hL vs (List.mem_of_getElem? hj);exact h1.ne (k3 j vs hj 0 _ hx) (λ_ _ _ e=>by cases e)
 exact xC (k3 j vs hj q u hq) O hne⟩
end
section
open Go Go.RowKit Go.Maps Go.Shelf
open Go.Proofs.Tryz
theorem zam{P:Prop}(h:P:=by exact mv (qB (x:=.int .i64 (y:Int)) 6)):P:=h
attribute [local go_sem] Oper.semAt_some
set_option maxRecDepth 100000
def nam12:List Value:= [.string ⟨#[99,58,45,50,51]⟩,.string ⟨#[99,58,45,52]⟩,.string ⟨#[104,58,55]⟩,.string ⟨#[104,58,56]⟩,.string ⟨#[101,58,55,58,49,58,50]⟩,.string ⟨#[120]⟩,.string ⟨#[104,58,48]⟩,.string ⟨#[104,58,49]⟩,.string ⟨#[104,58,45,57,48]⟩,.string ⟨#[104,58,45,56,57]⟩,.string ⟨#[104,58,57]⟩,.string ⟨#[104,58,45,49]⟩]
def zz1:ByteArray:=⟨#[122,122,58,49]⟩
theorem nam12_at(k:Nat)(h:k<12):∃x:ByteArray,nam12[k]? =some (.string x)/\x≠zz1:=by
 match k,h with
 |0,_|1,_|2,_|3,_|4,_|5,_|6,_|7,_|8,_|9,_|10,_|11,_=>exact⟨_,rfl,by decide⟩
theorem bd_EnV(nm:ByteArray)(a:Option Addr)(n c:Nat)(w:World):(Instr.build 95 #[(0,.string nm),(1,.slice a n c)]).run prog w=.ok (.agg (jI nm a n c none 0 0).toArray) w:=by unfold jI;go_simp
def IsE2(base:Nat)(nm:ByteArray):Value->World->Prop:=λx w=>∃es,x=.agg es.toArray/\EnS base nm 2 es w
theorem IsE2.stb(base:Nat)(nm:ByteArray):Stb (IsE2 base nm):=λ_ _ _ e ⟨es,h1,h2⟩=>⟨es,h1,h2.ext e⟩
instance (base:Nat) (nm:ByteArray):StbC (IsE2 base nm):=⟨IsE2.stb base nm⟩
section
variable {ops:Array Oper} {Q:Exit->Act->World->Prop} {ds:List (Option Tmp)} {a0:Act} {w0:World} {L:List (Value->World->Prop)} {boxes:List Nat} {i k:Nat} {o:Oper} {os:List Oper}
theorem bsE2{base:Nat}(hb0:base<=w0.heap.size){x y:Operand}(hx:Od ops ds a0 w0 L i x IsZ)(hy:Od ops ds a0 w0 L i y IsZ)(ho:o.op=.buildSlice 69 2 #[(0,x),(1,y)]:=by rfl)(hi:L.getD i (λ_ _=>True)=IsIE base 2:=by kernel_rfl)(hb:boxes.contains i=false:=by kernel_rfl):Ok prog ops Q ds a0 w0 L boxes i o:=
 xZ hb λv a w hE hd hf=>by
  obtain⟨z,s,b,n,c,h1,h2⟩:=hx.out v a w hE hd hf;obtain⟨z',s',b',n',c',h1',h2'⟩:=hy.out v a w hE hd hf;rw[h1]at h2;rw[h1']at h2';have hr:(Instr.buildSlice 69 2 #[(0,.agg #[.bool s,.slice b n c]),(1,.agg #[.bool s',.slice b' n' c'])]).run prog w=.ok (.slice (some ⟨w.heap.size,0,none⟩) 2 2) (w.alloc (.cells #[.bool s,.slice b n c,.bool s',.slice b' n' c'] 28)):=ja
  have hk:IntsAt [.bool s,.slice b n c,.bool s',.slice b' n' c'] 2 (w.alloc (.cells #[.bool s,.slice b n c,.bool s',.slice b' n' c'] 28)):=IntsAt.cons (h2.ext ((Ext.refl w).alloc _)) (IntsAt.cons (h2'.ext ((Ext.refl w).alloc _)) (IntsAt.nil _))
  have hnw:NwB (w.alloc (.cells #[.bool s,.slice b n c,.bool s',.slice b' n' c'] 28)) (.slice (some ⟨w.heap.size,0,none⟩) 2 2):=by
   intro g cs e fz hg ho' u hu;cases hg;rw[jW]at ho';cases ho';exact hk.nw.2 u (by simpa using hu)
  exact⟨_,_,jH ho zau,(Ext.refl w).alloc _,by rw[hi];exact⟨_,World.ownsRow_lit (base:=base) w #[.bool s,.slice b n c,.bool s',.slice b' n' c'] 2 (jQ hb0 hE.size) dcx rfl,hnw,hk⟩⟩
theorem bdE2{base:Nat}{nm:ByteArray}{x y:Operand}(hx:Od ops ds a0 w0 L i x (IsV (.string nm)))(hy:Od ops ds a0 w0 L i y (IsIE base 2))(ho:o.op=.build 95 #[(0,x),(1,y)]:=by rfl)(hi:L.getD i (λ_ _=>True)=IsE2 base nm:=by kernel_rfl)(hb:boxes.contains i=false:=by kernel_rfl):Ok prog ops Q ds a0 w0 L boxes i o:=
 xZ hb λv a w hE hd hf=>by
  have h1:a.eval x=_:=hx.out v a w hE hd hf;have h2:=hy.out v a w hE hd hf;obtain⟨b,c,hv⟩:∃b c,a.eval y=.slice b 2 c:=by obtain⟨xs,k1,-⟩:=h2;obtain⟨ao,cap,k,-⟩:=k1.shape;exact⟨_,_,k⟩
  rw[hv]at h2;exact⟨_,w,bdG ho (by simp only[List.map_toArray,List.map_cons,List.map_nil];rw[h1,hv];exact bd_EnV _ _ _ _ _),Ext.refl w,by rw[hi];exact⟨_,rfl,b,c,none,0, [],rfl,by decide,by decide,h2,by decide,λ_ h=>absurd h List.not_mem_nil,λh=>absurd rfl h⟩⟩
theorem ofZ{x:Operand}{z:Int}(hz: -9223372036854775808<=z/\z<=9223372036854775807)(hx:Od ops ds a0 w0 L i x (iV z)){c:Call}(ho:o.op=.call c:=by rfl)(hc:c.callee=.value (.func 26):=by rfl)(ha:c.args= #[x]:=by rfl)(hi:L.getD i (λ_ _=>True)=IsZ:=by kernel_rfl)(hb:boxes.contains i=false:=by kernel_rfl):Ok prog ops Q ds a0 w0 L boxes i o:=
 cl1 (en func26) hx (λu w' _ d0=>by
  obtain rfl:u=.int .i64 z:=d0
  exact(ROf_f w' z hz.1 hz.2).mono λe w2 ⟨x,h1,h2,h3⟩=>⟨x,h1,h2,IsZ.of h3 dcx⟩) ho hc ha hi hb
end
theorem EnS.at{base n:Nat}{nm:ByteArray}{es:List Value}{X:World}(h:EnS base nm n es X):es.length=31/\es.all (λu=>u.oneCell')=true/\(∀u∈es,NoWord u)/\es[0]? =some (.string nm)/\(∃va vc,es[1]? =some (.slice va n vc)/\IsIE base n (.slice va n vc) X)/\∃a m c,es[30]? =some (.slice a m c):=by
 obtain⟨va,vc,ha,hc,hy,rfl,h2,h3,h4,-⟩:=h;exact⟨rfl,(entV_nw _ _ _ _ _ _ _).1,(entV_nw _ _ _ _ _ _ _).2,rfl,⟨va,vc,rfl,h4⟩,ha,hy.length,hc,rfl⟩
theorem EnS.hyp{base n g:Nat}{nm:ByteArray}{es:List Value}{X X1:World}{h0:Int}(h:EnS base nm n es X)(B:Bk X g es)(hh:1<=h0/\h0<=3)(hX:(X.alloc (.cells #[.int .i64 h0] 3)).setCell ⟨g,30,none⟩ (.slice (some ⟨X.heap.size,0,none⟩) 1 1)=X1):
  ∃es',EnS base nm n es' X1/\Bk X1 g es'/\OnlyB g (X.alloc (.cells #[.int .i64 h0] 3)) X1:=by
 have e0:Ext X (X.alloc (.cells #[.int .i64 h0] 3)):=(Ext.refl X).alloc _;obtain⟨va,vc,ha,hc,hy,rfl,h2,h3,h4,-⟩:=h;obtain⟨O,B1⟩:=(B.ext e0).setO 30 (by simp[jI]) (.slice (some ⟨X.heap.size,0,none⟩) 1 1) ((entV_nw _ _ _ _ _ _ _).2 _ (List.getElem_mem _));rw[hX]at O B1;have hg:=B.lt;refine⟨_,⟨va,vc,some ⟨X.heap.size,0,none⟩,1, [h0],rfl,h2,h3,?_,jP _,λz hz=>by rw[List.mem_singleton]at hz;rw[hz];exact hh,λ_=>⟨X.heap.size,rfl,λe=>?_,λj x hj=>?_⟩⟩,B1,O⟩
 ·refine(h4.ext e0).only O ?_;obtain⟨g',s,rfl,hg'⟩:=h4.c0 h2;intro e;cases e;rw[B.c 0 _ rfl]at hg';cases hg'
 ·have:=(h4.own_lt e).1;omega
 ·match j,hj with
  | 0,hj=>
   have hx:x=h0:=by simpa using hj.symm
   subst hx;exact xC ((Bk.new X #[.int .i64 x] 3).c 0 _ rfl) O (by omega)
  |j+1,hj=>simp at hj
theorem EnS.val{base n m g:Nat}{nm:ByteArray}{es:List Value}{X0 X X1:World}{va:Option Addr}{vc:Nat}{a:Option Addr}{c:Nat}(h:EnS base nm n es X0)(hv:es[1]? =some (.slice va n vc))(B0:Bk X0 g es)(B:Bk X g es)(p:Pg (.slice va n vc) X0 (.slice a m c) X)(hI:IsIE base m (.slice a m c) X)(hm:1<=m/\m<=3)(hX:X.setCell ⟨g,1,none⟩ (.slice a m c)=X1):
  ∃es',EnS base nm m es' X1/\Bk X1 g es'/\OnlyB g X X1:=by
 obtain⟨va',vc',ha,hc,hy,rfl,h2,h3,h4,h5,h6,h7⟩:=h;cases hv;obtain⟨O,B1⟩:=B.setO 1 (by simp[jI]) (.slice a m c) ((entV_nw _ _ _ _ _ _ _).2 _ (List.getElem_mem _));rw[hX]at O B1
 have hne:(Value.slice a m c).ownBlock≠some g:=λe=>by
  obtain⟨g',s,rfl,hg'⟩:=hI.c0 hm.1;cases e;rw[B.c 0 _ rfl]at hg';cases hg'
 refine⟨_,⟨a,c,ha,hc,hy,rfl,hm.1,hm.2,hI.only O hne,h5,h6,λhn=>?_⟩,B1,O⟩;obtain⟨g',k1,k2,k3⟩:=h7 hn;obtain⟨x0,hx0⟩:=nel hn;have hlt:=World.block_lt_of_cell? _ _ (k3 0 x0 hx0);refine⟨g',k1,λe=>?_,λj x hj=>xC (p.cell (k3 j x hj) k2) O (λe=>?_)⟩
 ·rcases p.own with q| ⟨g2,q,hq⟩
  ·exact k2 (q.symm.trans e)
  ·rw[q]at e;cases e;simp only at hlt;omega
 ·have:=k3 0 x0 hx0;rw[e,B0.c 0 _ rfl]at this
  ·cases this
section
variable {ops:Array Oper} {Q:Exit->Act->World->Prop} {ds:List (Option Tmp)} {a0:Act} {w0:World} {L:List (Value->World->Prop)} {ch:List Nat} {boxes:List Nat} {i k:Nat} {o:Oper} {os:List Oper}
theorem ngZ{x:Operand}{z:Int}(hz:IntKind.i64.wrap (-z)= -z)(hx:Od ops ds a0 w0 L i x (iV z))(ho:o.op=.unOp .neg 2 x:=by rfl)(hi:L.getD i (λ_ _=>True)=iV (-z):=by kernel_rfl)(hb:boxes.contains i=false:=by kernel_rfl):Ok prog ops Q ds a0 w0 L boxes i o:=
 xZ hb λv a w hE hd hf=>by
  have h1:a.eval x=_:=hx.out v a w hE hd hf;refine⟨.int .i64 (-z),w,?_,Ext.refl w,by rw[hi];exact rfl⟩;unfold execOp;rw[ho];dsimp only;rw[h1]
  go_simp
theorem faA{P:Program}{fuel:Nat}{listed:Array Bool}{a:Act}{w:World}{T f:Nat}{p r:Value}(j t:Nat)(x:Operand)(hx:a.eval x=p)(hr:∀w,(Instr.fieldAt T p f).run P w=.ok r w)(h:wpAny P .any ops Q fuel (listed.setIfInBounds j true) (a.put (some t) r) w)(ho:ops[j]? =some o:=by rfl)(hd:o.dst=some t:=by rfl)(hop:o.op=.fieldAddr T x f:=by rfl)(hrd:Region.ready .any ops listed= [j]:=by kernel_rfl)(hg:o.guard=none:=by rfl):wpAny P .any ops Q (fuel+1) listed a w:=
 stA j ho (λK hK=>by
  have:=hr w;unfold Oper.wp execOp;rw[hop];dsimp only;rw[hx];simp only[Sem.run_bind,this,Result.andThen_ok,Sem.run_pure];show K (a.put o.dst r) w;rw[hd]
  exact hK _ _ h) hrd hg
end
theorem bd_So01(w:World):(Instr.build 102 #[(1,.int .i64 1)]).run prog w=.ok (.agg #[.int .i64 0,.int .i64 1,.int .i64 0]) w:=by go_simp
theorem ld_Sh1:LdV prog 39 1:=λw g vs hl B=>ldM za za hl (λj v hj=>by rw[Nat.zero_add];exact B.c j v hj)
theorem OneS.below{b base:Nat}{w w':World}(h:OneS b w)(e:Below base w w')(hb:b<base):OneS b w':=⟨λo=>(e.cell (p:=⟨b,o+1,none⟩) hb).trans (h.1 o),Nat.lt_of_lt_of_le h.2.1 e.size,let ⟨a,n,c,k⟩:=h.2.2;⟨a,n,c,(e.cell (p:=⟨b,0,none⟩) hb).trans k⟩⟩
theorem OneS.set{b:Nat}{w:World}{a:Option Addr}{n c:Nat}(h:OneS b w):OneS b (w.setCell ⟨b,0,none⟩ (.slice a n c)):=by
 obtain⟨h1,h2,a',n',c',h3⟩:=h;refine⟨λo=>(World.cell?_setCell_other _ _ _ _ (λe=>by cases e)).trans (h1 o),by simpa [World.setCell]using h2,a,n,c,World.cell?_setCell_same _ _ _ h3⟩
theorem OneS.nw{b:Nat}{w:World}{u:Value}(h:OneS b w)(B:Bk w b [u]):NoWord ([u][0]'(by simp)):=by
 obtain⟨-,-,a,n,c,k⟩:=h;rw[B.c 0 _ rfl]at k;cases k;exact NoWord.slice _ _ _
theorem OnlyB.below{k base:Nat}{w w':World}(O:OnlyB k w w')(h:base<=k):Below base w w':=⟨O.os,O.tape,O.output,by rw[O.size];exact jP _,λq hq=>O.block q (by omega)⟩
theorem stS1{P:Program}{Q:Exit->Act->World->Prop}{o:Oper}{W:World}{g:Nat}{u0:Value}{b1:Option Addr}{n c:Nat}{a:Act}{K:Act->World->Prop}{T:Nat}{x y:Operand}(B:Bk W g [u0])(O1:OneS g W)(hT:StV P T 1)
  (h:∀W',Bk W' g [.slice b1 n c]->OnlyB g W W'->OneS g W'->K a W')
  (ho:o.op=.store T x y:=by rfl) (hd:o.dst=none:=by rfl) (hx:a.eval x=.pointer (some ⟨g,0,none⟩):=by kernel_rfl) (hy:a.eval y=.agg #[.slice b1 n c]:=by kernel_rfl):Oper.wp P o a W K Q:=by
 have hn:∀v∈ [u0],NoWord v:=λv hv=>by rw[List.mem_singleton]at hv;rw[hv];exact O1.nw B
 obtain⟨h1,h2⟩:=B.putO (us:= [.slice b1 n c]) (by simp) hn;refine st_wp ho hx hy (hT W g [u0] [.slice b1 n c] rfl rfl rfl B) ?_;rw[hd];exact h _ h2 h1 O1.set
def HeldN(vs:List Value)(w:World):Prop:=HeldW (0,1,0) vs w/\xH vs≠zz1
theorem HeldN.ext{vs:List Value}{w w':World}(h:HeldN vs w)(e:Ext w w'):HeldN vs w':=⟨h.1.ext e,h.2⟩
theorem HeldN.one{vs:List Value}{w w':World}{b:Nat}(h:HeldN vs w)(O:OnlyB b w w')(h1:OneS b w):HeldN vs w':=⟨h.1.one O h1,h.2⟩
def IsShN:Value->World->Prop:=λx w=>∃sv L,x=.agg #[sv]/\HdS2 L sv w/\L.length<=12/\∀vs∈L,HeldN vs w
theorem IsShN.stb:Stb IsShN:=λ_ _ _ e ⟨sv,L,h1,h2,h3,h4⟩=>⟨sv,L,h1,h2.ext e,h3,λvs h=>(h4 vs h).ext e⟩
instance:StbC IsShN:=⟨IsShN.stb⟩
def IsShl:Value->World->Prop:=λx w=>∃sv L,x=.agg #[sv]/\HdS2 L sv w/\L.length<=12/\∀vs∈L,HeldW (0,1,0) vs w
theorem IsShl.stb:Stb IsShl:=λ_ _ _ e ⟨sv,L,h1,h2,h3,h4⟩=>⟨sv,L,h1,h2.ext e,h3,λvs h=>(h4 vs h).ext e⟩
instance:StbC IsShl:=⟨IsShl.stb⟩
set_option maxHeartbeats 16000000 in
theorem shelf_n{w:World}{ca ea:Option Addr}{cn cc en' ec:Nat}{gr:Int}(hb:IsBy (.slice ea en' ec) w):Calls prog 13 #[.agg #[.slice ca cn cc,.slice ea en' ec,.int .u8 gr]] w (Ret w IsShN):=by
 obtain⟨ea',en2,ec',hq,hn,hc⟩:=hb;cases hq
 obtain⟨W,hW,E,B1,B2,B3,B4,O4,O2⟩:∃W,W=(((w.alloc (.cells #[.slice ca cn cc,.slice ea en' ec,.int .u8 gr] 24)).alloc (.cells #[.slice none 0 0] 39)).alloc (.cells nam12.toArray 9)).alloc (.cells #[.slice none 0 0] 39)/\Ext w W/\Bk W w.heap.size [.slice ca cn cc,.slice ea en' ec,.int .u8 gr]/\Bk W (w.heap.size+1) [.slice none 0 0]/\Bk W (w.heap.size+2) nam12/\Bk W (w.heap.size+3) [.slice none 0 0]/\OneS (w.heap.size+3) W/\OneS (w.heap.size+1) W:=by
  have one:∀(X:World),OneS X.heap.size (X.alloc (.cells #[.slice none 0 0] 39)):=λX=>by
   refine⟨λo=>?_,by simp,none,0,0,(Bk.new X #[.slice none 0 0] 39).c 0 _ rfl⟩;simp only[World.cell?];rw[jW];simp
  have o3:=one (((w.alloc (.cells #[.slice ca cn cc,.slice ea en' ec,.int .u8 gr] 24)).alloc (.cells #[.slice none 0 0] 39)).alloc (.cells nam12.toArray 9));have o1:=one (w.alloc (.cells #[.slice ca cn cc,.slice ea en' ec,.int .u8 gr] 24));simp only[World.size_alloc]at o3 o1;exact⟨_,rfl,((((Ext.refl w).alloc _).alloc _).alloc _).alloc _,(Bk.new w _ _).ext ((((Ext.refl _).alloc _).alloc _).alloc _),(Bk.newE _ _ (by simp) _ _).ext (((Ext.refl _).alloc _).alloc _),(Bk.newE _ _ (by simp) _ _).ext ((Ext.refl _).alloc _),Bk.newE _ _ (by simp) _ _,o3,o1.ext (((Ext.refl _).alloc _).alloc _)⟩
 obtain⟨b,hbb⟩:∃b,w.heap.size=b:=⟨_,rfl⟩;have HBB:=hid hbb;rw[hbb]at B1 B2 B3 B4 O4 O2;have HO2:=hid O2;have HE:=hid E;have HB1:=hid B1;have HB2:=hid B2;have HB3:=hid B3;have HBY:=hid (jO hn hc);have HSZ:=hid (show b+3<W.heap.size from B4.lt);go_enter func13,ntmps13;go_wp2_with fail;unfold nam12 at hW;rw[<-hW];clear hW hbb E B1 B2 B3 hn hc O2
 go_loopg [5] 12 (λgk v5 wr=>∃(i:Nat) (sv:Value) (L:List (List Value)),v5=.int .i64 (i:Int)/\i+gk=12/\L.length<=i/\Hid (Bk wr (b+3) [sv]/\OneS (b+3) wr/\HdS2 L sv wr/\(∀vs∈L,HeldN vs wr)/\Ext w wr/\Below (b+3) W wr))
 case atStart=>exact⟨0,_, [],rfl,rfl,by simp,hid ⟨B4,O4,.inl ⟨rfl,rfl⟩,λ_ h=>absurd h List.not_mem_nil,HE.out,jS _ _⟩⟩
 case round=>
  obtain⟨i,sv,L,rfl,hg,hlL,S⟩:=hrel;have HG:=hid (jO hg hlL);have hBl:=S.out.2.2.2.2.2;have HWR:=hid (show W.heap.size<=wr.heap.size from hBl.size);have c1:=(HB1.out.below hBl (by omega)).c 1 _ rfl;clear hBl;by_cases hi:i<en'/\i<12
  ·obtain⟨hi1,hi2⟩:=hi;obtain⟨g,o,rfl,hcs⟩:=HBY.out.2 (by omega);obtain⟨y,hy,hcy0⟩:=hcs i hi1;have hcy:=S.out.2.2.2.2.1.cell hcy0;have hil:(i:Int)<(en':Int):=by omega
   have hil12:(i:Int)<12:=by omega
   have HI:=hid (jO hi1 hi2);have HY:=hid hy;have hwy:wrap64 (y:Int)=(y:Int):=by unfold wrap64;omega
   clear hcs hcy0 hg hlL hi1 hi2 hy;go_upto_region 7 with fail;rw[hwy];clear c1 hcy hil hil12;obtain⟨z7,hz7⟩:∃z:Int,(y:Int).tmod 7=z:=⟨_,rfl⟩;have HZ7:=hid (show 0<=z7/\z7<=6 by rw[<-hz7,Int.tmod_eq_emod_of_nonneg (by omega)];omega);obtain⟨nm,hnm,hnz⟩:=nam12_at ((i+y)%12) (jV _ dcx);have HNZ:=hid hnz;clear hnz;have HNM:=hid ((HB3.out.below S.out.2.2.2.2.2 (by omega)).c _ _ hnm);have HB3':=hid (show(i+y)%12<12 from jV _ dcx);refine rg 18 [some 27,some 28,some 29,some 30,some 31,some 32,some 33,some 34,some 35,some 36,some 37,some 38,some 39,some 40,some 41,some 42,some 43,some 7] [IsV (.slice (some ⟨b+2,0,none⟩) 12 12),iV (i:Int),iV (y:Int),iV ((i+y:Nat):Int),IsV (.slice (some ⟨b+2,0,none⟩) 12 12),iV ((12:Nat):Int),iV (((i+y)%12:Nat):Int),IsP (b+2) ((i+y)%12),IsV (.string nm),iV (y:Int),iV z7,iV (z7-2),IsZ,iV (y:Int),IsZ,IsIE wr.heap.size 2,IsE2 wr.heap.size nm,IsNb wr.heap.size z31] [] 1 ?_ ?_
   ·refine Rc (mv (qB 3)) ?_;refine Rc zt ?_;refine Rc zam ?_;refine Rc (bn (r:=.int .i64 ((i+y:Nat):Int)) (qC 1 28) (qC 2 29) (hr:=λw=>by have hw:IntKind.i64.wrap ((i:Int)+(y:Int))=((i+y:Nat):Int):=(by have:=HI.out;have:=HY.out;simp only[IntKind.wrap_i64];omega);go_simp)) ?_;refine Rc (mv (qB 3)) ?_;refine Rc (lnZ (p:=some ⟨b+2,0,none⟩) (n:=12) (c:=12) (qA 4 31)) ?_;refine Rc (bn (r:=.int .i64 (((i+y)%12:Nat):Int)) (qC 3 30) (qC 5 32) (hr:=λw=>by go_simp;exact Int.tmod_eq_emod_of_nonneg (by omega))) ?_;refine Rc (ixq (ix_rS (some ⟨b+2,0,none⟩) (b+2) 12 12 ((i+y)%12) rfl HB3'.out) (qA 0 27) (qA 6 33)) ?_;refine Rc (lv (fP:=IsV (.string nm)) _ (λw' e=>ld_str' w' _ _ (e.cell HNM.out)) (qA 7 34) (λ_ _=>rfl)) ?_;refine Rc zam ?_;refine Rc (bn (r:=.int .i64 z7) (qC 9 36) qE (hr:=λw=>by go_simp)) ?_;refine Rc (bn (r:=.int .i64 (z7-2)) (qC 10 37) qE (hr:=λw=>by have hw:IntKind.i64.wrap (z7-2)=z7-2:=(by have:=HZ7.out;simp only[IntKind.wrap_i64];omega);go_simp)) ?_;refine Rc (ofZ (z:=z7-2) (by have:=HZ7.out;omega) (qA 11 38)) ?_;refine Rc zam ?_;refine Rc (ofZ (z:=(y:Int)) (by have:=HY.out;omega) (qA 13 40)) ?_;refine Rc (bsE2 (jP _) (qA 12 39) (qA 14 41)) ?_;refine Rc (bdE2 (base:=wr.heap.size) (nm:=nm) (qA 8 35) (qA 15 42)) ?_;refine Rc (alB al_En (jP _)) ?_;exact rn0
   intro x X1 e1 hZ _;obtain⟨es,hes,hEn⟩:=hZ 16 dcx;obtain⟨g7,hv7,hg7,B7⟩:=hZ 17 dcx;simp only[lxE,Nat.reduceAdd];rw[hes,hv7];clear hZ hes hv7;obtain⟨hl31,h1c,hnw,-⟩:=hEn.at;refine stA 18 rfl (λK hK=>qZ (us:=es) B7 st_En rfl hl31 nwE (λX2 B72 O=>hK _ _ ?_) (ho1:=h1c));have e2:=O.ext e1 hg7;have hEn2:=hEn.only O (B7.c 0 _ rfl);clear hEn B7 O hK K hl31 h1c hnw e1;refine jR za ?_ _;have hT:∃es X,X=X2/\EnS wr.heap.size nm 2 es X/\Bk X g7 es/\Ext wr X:=⟨es,X2,rfl,hEn2,B72,e2⟩;have ht2:(y:Int).tmod 2=(y:Int)%2:=Int.tmod_eq_emod_of_nonneg (by omega);have ht3:(y:Int).tmod 3=(y:Int)%3:=Int.tmod_eq_emod_of_nonneg (by omega);have ht5:(y:Int).tmod 5=(y:Int)%5:=Int.tmod_eq_emod_of_nonneg (by omega);clear hz7;by_cases h3:(y:Int)%3=1
   case' pos=>
    obtain⟨hl31,h1c,hnw,h0,⟨va,vc,h1v,hIE⟩,ha,hm,hcc,h30⟩:=hEn2.at;have L9:=λo=>(B72.ext ((Ext.refl X2).alloc o)).c 30 _ h30
    have F9:=λo=>(B72.ext ((Ext.refl X2).alloc o)).f 30
    have hiw2:wrap64 (1+(y:Int)%2)=1+(y:Int)%2:=by unfold wrap64;omega
    go_upto_region 10 with fail;obtain⟨X3,hX3⟩:∃X3,(X2.alloc (.cells #[.int .i64 (1+(y:Int)%2)] 3)).setCell ⟨g7,30,none⟩ (.slice (some ⟨X2.heap.size,0,none⟩) 1 1)=X3:=⟨_,rfl⟩;rw[hX3];obtain⟨es2,k1,k2,k3⟩:=hEn2.hyp B72 (by omega) hX3;have e3:Ext wr X3:=k3.ext (e2.trans ((Ext.refl X2).alloc _)) hg7;clear hT;have hT:∃es,EnS wr.heap.size nm 2 es X3/\Bk X3 g7 es/\Ext wr X3:=⟨es2,k1,k2,e3⟩;clear L9 F9 hX3 k1 k2 k3 e3 hl31 h1c hnw h0 h1v hIE h30 hEn2 B72 e2 hiw2
   case' neg=>
    clear hT;have hT:∃es,EnS wr.heap.size nm 2 es X2/\Bk X2 g7 es/\Ext wr X2:=⟨es,hEn2,B72,e2⟩;clear hEn2 B72 e2;go_upto_region 10 with fail;generalize X2=X3 at*
   all_goals
    clear h3;obtain⟨es3,hEn3,B73,e3⟩:=hT;by_cases h5:(y:Int)%5=0
    case' pos=>
     obtain⟨hl31,-,hnw,h0,⟨va,vc,h1v,hIE⟩,-⟩:=hEn3.at
     have hne:(Value.slice va 2 vc).ownBlock≠some g7:=λe=>by
      obtain⟨g',s,rfl,hg'⟩:=hIE.c0 dcx;cases e;rw[B73.c 0 _ h0]at hg';cases hg'
     go_upto_region 11 with fail;refine rg 6 (dR 55 6) [IsP g7 1,IsV (.slice va 2 vc),iV (y:Int),iV (-(y:Int)),IsZ,IsNews 1] [] 3 ?_ ?_
     ·refine Rc (fa (fa_Eq1 g7) (qB 7)) ?_;refine Rc (lvC 1 B73 ld_aN (qA 0 55) h1v) ?_;refine Rc zam ?_;refine Rc (ngZ (z:=(y:Int)) (by have:=HY.out;simp only[IntKind.wrap_i64];omega) (qA 2 57)) ?_;refine Rc (ofZ (z:= -(y:Int)) (by have:=HY.out;omega) (qA 3 58)) ?_;refine Rc (bsZ1 (qA 4 59)) ?_;exact rn0
     intro x XA eA hZ _;obtain⟨news,hsr,hkk⟩:=hZ 5 dcx;simp only[lxE,Nat.reduceAdd];rw[show x 1=.slice va 2 vc from hZ 1 dcx];clear hZ;refine stA 6 rfl (λK hK=>wp_ie 61 (.tmp 56) (.tmp 60) rfl wr.heap.size 2 1 (.slice va 2 vc) (x 5) news rfl rfl (hIE.ext eA) hsr hkk dcx (jQ e3.size eA.size) (λv6 X4 hI3 p6=>hK _ _ ?_));have hP3:=(Pg.ext0 eA).trans p6;obtain⟨a6,c6,h6⟩:∃a c,v6=.slice a 3 c:=by obtain⟨xs,k1,-⟩:=hI3;obtain⟨ao,cap,k,-⟩:=k1.shape;exact⟨_,_,k⟩
     subst h6;clear p6 hK K hsr hkk eA;refine faA 7 62 (.tmp 7) rfl (fa_Eq1 g7) ?_;have B74:=hP3.bk B73 hne;have L1:=B74.c 1 _ h1v;have F1:=B74.f 1;have e4:Ext wr X4:=Below.trans e3 ((jS wr.heap.size X3).grown hP3.gb e3.size λk hk=>(hIE.own_lt hk).2);refine stA 8 rfl (λK hK=>st_wp (p:=.pointer (some ⟨g7,1,none⟩)) (u:=.slice a6 3 c6) (w':=X4.setCell ⟨g7,1,none⟩ (.slice a6 3 c6)) rfl rfl rfl ja (hK _ _ ?_));obtain⟨X5,hX5⟩:∃X5,X4.setCell ⟨g7,1,none⟩ (.slice a6 3 c6)=X5:=⟨_,rfl⟩;rw[hX5];obtain⟨es5,k1,k2,k3⟩:=hEn3.val h1v B73 B74 hP3 hI3 dcx hX5;have hU:∃nn es,EnS wr.heap.size nm nn es X5/\Bk X5 g7 es/\Ext wr X5:=⟨3,es5,k1,k2,k3.ext e4 hg7⟩;clear hX5 k1 k2 k3 e4 L1 F1 B74 hI3 hP3 hK K hne hIE h1v h0 hnw hl31 hEn3 B73 e3;refine jR za ?_ _;go_upto_region 12 with fail
    case' neg=>
     have hU:∃nn es,EnS wr.heap.size nm nn es X3/\Bk X3 g7 es/\Ext wr X3:=⟨2,es3,hEn3,B73,e3⟩;clear hEn3 B73 e3;go_upto_region 12 with fail;generalize X3=X5 at*
    all_goals
     clear h5;obtain⟨nn,es5,hEn5,B75,e5⟩:=hU;obtain⟨d5,hW5⟩:=hEn5.ent;obtain⟨hl31,-,-,-,-,-⟩:=hEn5.at;refine rgs 4 (dR 63 4) [IsV (.agg #[sv]),IsV (.agg es5.toArray),IsV (.agg #[.int .i64 0,.int .i64 1,.int .i64 0]),IsSh L nm (0,1,0)] [] ?_ ?_
     ·refine Rc (lvV (vs:= [sv]) (S.out.1.ext e5) ld_Sh1 (qB 4)) ?_;refine Rc (lvV B75 ld_En (qB 7) hl31) ?_;refine Rc (Ok.of za λv a w hE hd hf=>⟨_,bdG rfl (by simp only[List.map_toArray,List.map_cons,List.map_nil];exact bd_So01 w),rfl⟩) ?_
      refine Rc (cl3 (en func25) (qA (fP:=IsV (.agg #[sv])) 0 63) (qA (fP:=IsV (.agg es5.toArray)) 1 64) (qA (fP:=IsV (.agg #[.int .i64 0,.int .i64 1,.int .i64 0])) 2 65) (λx0 x1 x2 w' hE d0 d1 d2=>by
       obtain rfl:x0=_:=d0;obtain rfl:x1=_:=d1;obtain rfl:x2=_:=d2
       exact add_g (p:=(0,1,0)) (S.out.2.2.1.ext (e5.trans hE)) (by have:=HG.out;omega) (λvs h=>(S.out.2.2.2.1 vs h).1.ext (e5.trans hE)) (hW5.ext hE) (.inl rfl))) ?_
      exact rn0
     intro x X6 e6 hZ _;obtain⟨sv2,j,m,new,hx3,hs2,hj2,hnew,hnn,hm2⟩:=hZ 3 dcx;simp only[lxE,Nat.reduceAdd];rw[hx3];clear hZ hx3;have eW:=e5.trans e6;have O6:=S.out.2.1.ext eW;have B46:=S.out.1.ext eW
     obtain⟨a9,n9,c9,hv9⟩:∃a n c,sv2=.slice a n c:=by
      rcases hs2 with⟨-,h⟩| ⟨g9,c9,h,-,-⟩
      ·exact⟨_,_,_,h⟩
      ·exact⟨_,_,_,h⟩
     subst hv9;refine stL (λK hK=>stS1 (b1:=a9) (n:=n9) (c:=c9) B46 O6 st_Sh (λX7 B47 OB O7=>hK _ _ ?_))
     have hSl:∀vs∈L.take j++ [new]++L.drop m,HeldN vs X6:=λvs h=>by
      rcases List.mem_append.1 h with h|h
      ·rcases List.mem_append.1 h with h|h
       ·exact(S.out.2.2.2.1 vs (List.mem_of_mem_take h)).ext eW
       ·rw[List.mem_singleton]at h;rw[h];exact⟨hnew,by rw[hnn];exact HNZ.out⟩
      ·exact(S.out.2.2.2.1 vs (List.mem_of_mem_drop h)).ext eW
     have hS7:=hs2.one (λvs h=>⟨_,(hSl vs h).1.ok.2⟩) OB O6;have S2:=hid (show Bk X7 (b+3) [.slice a9 n9 c9]/\OneS (b+3) X7/\HdS2 (L.take j++ [new]++L.drop m) (.slice a9 n9 c9) X7/\(∀vs∈L.take j++ [new]++L.drop m,HeldN vs X7)/\Ext w X7/\Below (b+3) W X7 from⟨B47,O7,hS7,λvs h=>(hSl vs h).one OB O6,OB.ext (S.out.2.2.2.2.1.trans eW) (by have:=HBB.out;omega),Below.trans S.out.2.2.2.2.2 (Below.trans (eW.mono (by have:=HSZ.out;have:=HWR.out;omega)) (OB.below (jP _)))⟩)
     have HLL:=hid (show(L.take j++ [new]++L.drop m).length<=i+1 by
      have:=HG.out;simp only[jT,List.length_take,List.length_drop,List.length_singleton]
      rcases hm2 with h| ⟨h,-,-⟩ <;> omega)
     have hiw:IntKind.i64.wrap ((i:Int)+1)=((i+1:Nat):Int):=by have:=HI.out;simp only[IntKind.wrap_i64];omega
     clear hK K hSl hS7 O7 B47 OB B46 O6 eW e6 hs2 hnew hnn hm2 hj2 hl31 hW5 B75 hEn5 e5 S;refine jL ?_;go_wp2_with fail
     go_roundg (gk-1)
     case measure=>have:=HG.out;have:=HI.out;omega
     case rel=>exact⟨i+1,_,_,rfl,by have:=HG.out;have:=HI.out;omega,HLL.out,S2⟩
  ·have e9:Ext w wr:=S.out.2.2.2.2.1;have hil:¬((i:Int)<(en':Int))\/((i:Int)<(en':Int)/\¬((i:Int)<12)):=by omega
   have hO2:=HO2.out.below S.out.2.2.2.2.2 (by omega);have hB2:=HB2.out.below S.out.2.2.2.2.2 (by omega);have hi12:=hid (show L.length<=12 by omega)
   obtain⟨a9,n9,c9,hv9⟩:∃a n c,sv=.slice a n c:=by
    rcases S.out.2.2.1 with⟨-,h⟩| ⟨g9,c9,h,-,-⟩
    ·exact⟨_,_,_,h⟩
    ·exact⟨_,_,_,h⟩
   subst hv9;clear hi hg hlL;have hfin:∃X,X=wr:=⟨_,rfl⟩;clear hfin;rcases hil with hil| ⟨hil,hil2⟩
   all_goals
    go_upto_region 13 with fail;refine rgs 1 [some 67] [IsV (.agg #[.slice a9 n9 c9])] [] ?_ ?_
    ·refine Rc (lvV (vs:= [.slice a9 n9 c9]) S.out.1 ld_Sh1 (qB 4)) ?_;exact rn0
    intro x X6 e6 hZ _;simp only[lxE];rw[show x 0=.agg #[.slice a9 n9 c9]from hZ 0 dcx];clear hZ;refine stL (λK hK=>qZ (us:= [.slice a9 n9 c9]) (hB2.ext e6) st_Sh rfl rfl nwNilS (λX7 B7' O7=>hK _ _ ?_));clear hK K;refine jL ?_;have hO26:=hO2.ext e6;have hE7:Ext w X7:=O7.ext (e9.trans e6) (by have:=HBB.out;omega);have hres:IsShN (.agg #[.slice a9 n9 c9]) X7:=⟨_,L,rfl,(S.out.2.2.1.ext e6).one (λvs h=>⟨_,(S.out.2.2.2.1 vs h).1.ok.2⟩) O7 hO26,hi12.out,λvs h=>((S.out.2.2.2.1 vs h).ext e6).one O7 hO26⟩;go_wp2_with fail;exact jK (resC results13 rfl (lv_Sh rfl B7')) rfl ⟨_,rfl,hE7,hres⟩
theorem shelf_f{w:World}{ca ea:Option Addr}{cn cc en' ec:Nat}{gr:Int}(hb:IsBy (.slice ea en' ec) w):Calls prog 13 #[.agg #[.slice ca cn cc,.slice ea en' ec,.int .u8 gr]] w (Ret w IsShl):=
 (shelf_n hb).mono λ_ _ ⟨x,h1,e,sv,L,h2,h3,h4,h5⟩=>⟨x,h1,e,sv,L,h2,h3,h4,λvs h=>(h5 vs h).1⟩
end
section
open Go Go.RowKit Go.Maps Go.Shelf
theorem zbw{P:Prop}(h:P:=by have:=HGR.out.1;omega):P:=h
theorem jb{P:Prop}(h:P:=by exact mv (qB (x:=.int .i64 (i:Int)) 15)):P:=h
theorem jk{P:Prop}(h:P:=by exact mv (qB (x:=.slice ga gs.length gc) 12)):P:=h
theorem zaq{P:Prop}(h:P:=by exact lvV B4 ld_Rw3 (qB 4)):P:=h
theorem zar{P:Prop}(h:P:=by exact lvV B8 xN (qB 8) hlu):P:=h
attribute [local go_sem] Oper.semAt_some
section
variable {ops:Array Oper} {Q:Exit->Act->World->Prop} {ds:List (Option Tmp)} {a0:Act} {w0:World} {L:List (Value->World->Prop)} {boxes:List Nat} {i k:Nat} {o:Oper} {os:List Oper}
theorem IrR.stb(l:List Int):Stb (IrR l):=λ_ _ _ e h=>h.ext e
instance (l:List Int):StbC (IrR l):=⟨IrR.stb l⟩
theorem cvy{P:Program}{x:Operand}{S T:Nat}{p r:Value}(hx:Od ops ds a0 w0 L i x (IsV p))(hr:∀w,Sem.run P (convert S T p) w=.ok r w)(ho:o.op=.convert S T x:=by rfl)(hi:L.getD i (λ_ _=>True)=IsV r:=by kernel_rfl)(hb:boxes.contains i=false:=by kernel_rfl):Ok P ops Q ds a0 w0 L boxes i o:=
 Ok.of hb λv a w hE hd hf=>by
  have h1:a.eval x=p:=hx.out v a w hE hd hf;refine⟨r,?_,by rw[hi];exact rfl⟩;have:=hr w;unfold execOp;rw[ho];dsimp only;rw[h1];simp[this]
end
end
section
open Go Go.RowKit Go.Maps Go.Shelf Go.Sort
open Go.Proofs.Tryz
attribute [local go_sem] Oper.semAt_some
set_option maxRecDepth 100000
theorem flG_nil(x:ByteArray):flG x []=x:=rfl
theorem encB(x:ByteArray):encStr x.data.toList=.string x:=by simp[encStr]
theorem ksV_one(x:List UInt8):ksV [x]= [encStr x]:=by simp[ksV,ksL,dS,strKeys,DataW.put,DataW.insert,strOf]
theorem zsV_one(z:Int):zsV [z]= [.int .i64 z]:=by simp[zsV,zsL,dI,intKeys,DataW.put,DataW.insert,Go.intOf]
theorem ksV_nil:ksV []= []:=by simp[ksV,ksL,dS,strKeys]
theorem zsV_nil:zsV []= []:=by simp[zsV,zsL,dI,intKeys]
section
variable {C:ByteArray->Prop} {V:ByteArray->Int->Env->Prop}
theorem wf_num{z:Int}{env:Env}(h: -4294967295<=z/\z<=4294967295):wfE C V (.num z) env:=by
 show z.natAbs<4294967296^128;exact Nat.lt_of_lt_of_le (show z.natAbs<4294967296 by omega) (by decide +kernel)
theorem wf_var{x:ByteArray}{i:Int}(h: -9223372036854775808<=i/\i<=9223372036854775807):wfE C V (.var x) ([]++ [(x,i)]):=⟨by simp[ba_beq],by rw[look_one];exact h⟩
theorem wf_bin{op:Int}{p q:Ex}{env:Env}(h:op=4\/op=5\/op=6\/op=7\/op=8\/op=12\/op=13)(hp:wfE C V p env)(hq:wfE C V q env):wfE C V (.bin op p q) env:=⟨h,hp,hq⟩
theorem wf_loop{fst:Bool}{x:ByteArray}{lo hi:Int}{b:Ex}{env:Env}(h: -1099511627776<=lo/\lo<=hi+1/\hi<=1099511627776)(hb:∀n,lo<=n->n<=hi->wfE C V b (env++ [(x,n)]))(hl:env.length<1000000:=by simp):wfE C V (.loop fst x lo hi b) env:=⟨hl,h.1,h.2.1,h.2.2,hb⟩
end
theorem shpM0{w:World}(hT:TabM w)(dat:List Value->EnD):ShpM [] [] dat [] (.slice none 0 0) (.slice none 0 0) (.slice none 0 0) (.slice none 0 0) w:=
 ⟨hT,⟨none,0,rfl,λh=>absurd rfl h⟩,⟨none,0,rfl,λh=>absurd rfl h⟩,.inl ⟨rfl,rfl⟩,⟨none,0,rfl,λh=>absurd rfl h⟩,λ_ h=>absurd h List.not_mem_nil,λ_ h=>absurd h List.not_mem_nil⟩
theorem shpOk0(dat:List Value->EnD):ShpMOk [] [] [] dat []:=
 ⟨by simp,λ_ h=>absurd h List.not_mem_nil,by simp,λ_ h=>absurd h List.not_mem_nil,λ_ h=>absurd h List.not_mem_nil,by simp,λ_ h=>absurd h List.not_mem_nil⟩
theorem alone_x{w:World}{x:Value}{e:Ex}{s0:Nat}{res:Res Kn}{left:Nat}{rd:List (List UInt8)}{hy:List Int}{SS:List (List UInt8)}(hT:TabM w)(hx:IsNe e x w)(hs:s0<=100000)(hSS:SS.length<=1000)(hw:wfE (λ_=>True) (VG SS flG) e [])(hev:ev (qX [] (λ_=>none) flG) e [] (s0,([], []))=(res,(left,(rd,hy)))):
  Calls prog 41 #[x,.int .i64 (s0:Int)] w (Ret w (IsOutX res left (ksV rd) (zsV hy))):=by
 have HT:=hid hT;have HNx:=hid hx;obtain⟨us,rfl,hl,_,_,hn⟩:=hx
 have HR:Hid (∀w',Ext w w'->Calls prog 16 #[.agg us.toArray,.slice none 0 0,.slice none 0 0,.agg #[.slice none 0 0],.slice none 0 0,.int .i64 (s0:Int)] w' (Ret w' (IsOutX res left (ksV rd) (zsV hy)))):=hid λw' hE=>by
  obtain⟨us',hu',_,_,_,hn'⟩:=IsNe.stb _ _ _ _ hE HNx.out;cases hu';have h:=run_g (SI:= []) hn'.len hs (jQ hSS dcx) (by simp) (evG_f (SS:=SS) (shpM0 (HT.out.ext hE) (λ_=>⟨[], []⟩)) (shpOk0 _) yl (by unfold maxLen;simp) hw hn');rw[show bsG [] (λ_=>⟨[], []⟩) []=(λ_=>none)from rfl,hev]at h;exact h
 have hl0:=hl;obtain⟨u0,u1,u2,u3,u4,u5,u6,u7,rfl⟩:=len8 hl;clear hl hT hn HNx hev hw
 obtain⟨W,hW,E,B2,B4⟩:∃W,W=(w.alloc (.cells #[u0,u1,u2,u3,u4,u5,u6,u7] 31)).alloc (.cells #[.bool false,.slice none 0 0,.bool false,.slice none 0 0,.bool false,.slice none 0 0,.bool false,.slice none 0 0,.bool false,.slice none 0 0,.int .i64 0,.slice none 0 0,.int .i64 0] 53)/\Ext w W/\Bk W w.heap.size [u0,u1,u2,u3,u4,u5,u6,u7]/\Bk W (w.heap.size+1) zOut:=
  ⟨_,rfl,((Ext.refl w).alloc _).alloc _,(Bk.new w _ _).ext ((Ext.refl _).alloc _),Bk.newE _ _ (by simp) _ _⟩
 go_enter func41,ntmps41;go_upto_region 1 with fail;rw[<-hW];clear hW;refine rgs 4 (dR 5 4) [IsV (.agg #[u0,u1,u2,u3,u4,u5,u6,u7]),IsV (.agg #[.slice none 0 0]),iV (s0:Int),IsOutX res left (ksV rd) (zsV hy)] [] ?_ ?_
 ·refine Rc (lvV B2 xN (qB 2)) ?_;refine Rc (Ok.of za λv a w2 hE hd hf=>⟨_,bdG rfl (by{rw[show(Array.map (λp:Nat×Operand=>(p.fst,a.eval p.snd)) #[])= #[]from by simp];go_simp}),rfl⟩) ?_;refine Rc xb ?_
  refine Rc (cl (en func16) rfl rfl za za λv a w2 hE hd hf=>by
   have e1:a.eval (.tmp 5)=_:=(qA (fP:=IsV (.agg #[u0,u1,u2,u3,u4,u5,u6,u7])) 0 5:Od _ _ _ _ _ _ _ _).out v a w2 hE hd hf;have e2:a.eval (.tmp 6)=_:=(qA (fP:=IsV (.agg #[.slice none 0 0])) 1 6:Od _ _ _ _ _ _ _ _).out v a w2 hE hd hf;have e3:a.eval (.tmp 7)=_:=(qA (fP:=iV (s0:Int)) 2 7:Od _ _ _ _ _ _ _ _).out v a w2 hE hd hf;simp only[List.map_toArray,List.map_cons,List.map_nil];rw[e1,e2,e3]
   exact HR.out w2 (E.trans hE)) ?_
  exact rn0
 intro v X1 e1 hZ _;replace E:=E.trans e1;replace B4:=B4.ext e1;obtain⟨vl,ha,hn,hc,ra,rn,rc,hv,h1,h2,h3,h4,h5,h6⟩:=hZ 3 dcx;have hw1:w.heap.size+1<X1.heap.size:=B4.lt;obtain⟨l0,l1,l2,l3,l4,l5,l6,l7,l8,l9,l10,rfl⟩:=len11 h1;simp only[lxE,Nat.reduceAdd];rw[hv];clear hv hZ e1 B2 HR;refine stL (λK hK=>?_)
 have hone2: [l0,l1,l2,l3,l4,l5,l6,l7,l8,l9,l10,Value.slice ra rn rc,.int .i64 (left:Int)].all (λu=>u.oneCell')=true:=by
  rw[show [l0,l1,l2,l3,l4,l5,l6,l7,l8,l9,l10,Value.slice ra rn rc,.int .i64 (left:Int)]= [l0,l1,l2,l3,l4,l5,l6,l7,l8,l9,l10]++ [Value.slice ra rn rc,.int .i64 (left:Int)]from rfl,List.all_append,h2];rfl
 refine qZ (us:= [l0,l1,l2,l3,l4,l5,l6,l7,l8,l9,l10,.slice ra rn rc,.int .i64 (left:Int)]) B4 st_Out rfl rfl nwOut (λX6 B9 O=>hK _ _ ?_) (ho1:=hone2);replace E:=O.ext E (by omega);have hvl6:=IsVl.gstb _ _ _ _ _ O.gr h4;have h57:=h5.out B4 O (noB_z _);have h67:=h6.out B4 O (noB_k _);refine jL ?_;have d0:=B9.c 0 _ rfl;have d1:=B9.c 1 _ rfl;have d2:=B9.c 2 _ rfl;have d3:=B9.c 3 _ rfl;have d4:=B9.c 4 _ rfl;have d5:=B9.c 5 _ rfl;have d6:=B9.c 6 _ rfl;have d7:=B9.c 7 _ rfl;have d8:=B9.c 8 _ rfl;have d9:=B9.c 9 _ rfl;have d10:=B9.c 10 _ rfl;have d11:=B9.c 11 _ rfl;have d12:=B9.c 12 _ rfl;clear hK K O B9;go_wp2_with fail;exact jK (v:=.agg #[l0,l1,l2,l3,l4,l5,l6,l7,l8,l9,l10,.slice ra rn rc,.int .i64 (left:Int)]) (by simp[results,results41,go_sem,d0,d1,d2,d3,d4,d5,d6,d7,d8,d9,d10,d11,d12]) rfl ⟨_,rfl,E, [l0,l1,l2,l3,l4,l5,l6,l7,l8,l9,l10],ha,hn,hc,ra,rn,rc,rfl,rfl,h2,h3,hvl6,h57,h67⟩
theorem is_x{lo hi:Int}{f:Bool}{hs:List Value}{x:Value}{w:World}(hx:IsVh (.ok ⟨lo,hi,f⟩) hs x w)(hl: -9223372036854775808<=lo/\lo<=9223372036854775807)(hh: -9223372036854775808<=hi/\hi<=9223372036854775807):
  Calls prog 38 #[x,.int .i64 lo,.int .i64 hi,.bool f] w (Ret w (IsV (.bool true))):=let ⟨_,_,_,h,_⟩:=hx;is_f (q:=⟨lo,hi,f⟩) h hl hh
def IsEnW(nm:ByteArray)(d:EnD):Value->World->Prop:=λx w=>∃es:List Value,x=.agg es.toArray/\EntW nm d es w
theorem IsEnW.stb(nm:ByteArray)(d:EnD):Stb (IsEnW nm d):=λ_ _ _ e ⟨es,h1,h2⟩=>⟨es,h1,h2.ext e⟩
instance (nm:ByteArray) (d:EnD):StbC (IsEnW nm d):=⟨IsEnW.stb nm d⟩
def IsSh1(nm:ByteArray)(d:EnD):Value->World->Prop:=λx w=>∃(sv:Value) (new:List Value),x=.agg #[sv]/\HdS [new] sv w/\HdOk new/\new[0]? =some (.string (xH new))/\xH new=nm/\EntW nm d (new.take 31) w
theorem IsSh1.stb(nm:ByteArray)(d:EnD):Stb (IsSh1 nm d):=λ_ _ _ e ⟨sv,new,h1,h2,h3,h4,h5,h6⟩=>⟨sv,new,h1,h2.ext e,h3,h4,h5,h6.ext e⟩
instance (nm:ByteArray) (d:EnD):StbC (IsSh1 nm d):=⟨IsSh1.stb nm d⟩
theorem add_1{w:World}{x y z:Value}{nm:ByteArray}{d:EnD}(hx:IsV (.agg #[.slice none 0 0]) x w)(hy:IsEnW nm d y w)(hz:IsV (.agg #[.int .i64 0,.int .i64 0,.int .i64 0]) z w):Calls prog 25 #[x,y,z] w (Ret w (IsSh1 nm d)):=by
 obtain rfl:x=_:=hx;obtain rfl:z=_:=hz;obtain⟨es,rfl,he⟩:=hy;refine jJ (add_ge (L:= []) (p:=(0,0,0)) (.inl ⟨rfl,rfl⟩) (by simp) (λ_ h=>absurd h List.not_mem_nil) he (.inr λ_ h=>absurd h List.not_mem_nil)) ?_;rintro e w1 ⟨_,rfl,e1,sv,j,m,new,rfl,h2,h3,h4,h5,h6,h7⟩;refine⟨_,rfl,e1,sv,new,rfl,?_,h4.ok.1,h4.ok.2,h5,by rw[h7];exact he.ext e1⟩;have:=h2.hds
 simpa using this
theorem shpM1{w:World}{sv gv:Value}{new:List Value}{nm:ByteArray}{d:EnD}{gs:List Int}(hT:TabM w)(h1:HdS [new] sv w)(h6:EntW nm d (new.take 31) w)(hg:IrR gs gv w):ShpM [] [new] (λ_=>d) gs (.slice none 0 0) (.slice none 0 0) sv gv w:=by
 refine⟨hT,⟨none,0,rfl,λh=>absurd rfl h⟩,⟨none,0,rfl,λh=>absurd rfl h⟩,h1,hg,λvs hv=>?_,λvs hv=>?_⟩
 ·obtain rfl:=List.mem_singleton.1 hv;exact h6.at
 ·obtain rfl:=List.mem_singleton.1 hv;obtain⟨u,k1,k2,-⟩:=h6.hyr;refine⟨u,?_,k2⟩;rw[List.getElem?_take]at k1
  simpa using k1
theorem runV{w:World}{x y gv:Value}{nm:ByteArray}(hT:TabM w)(hx:IsNe (.val nm 0) x w)(hm:nm.size<=16)(hs:IsSh1 nm ⟨[12], [2]⟩ y w)(hg:IrR [1,2] gv w):
  Calls prog 16 #[x,.slice none 0 0,.slice none 0 0,y,gv,.int .i64 0] w (Ret w (IsOutX (.ok ⟨12,12,true⟩) 0 [.string nm] [.int .i64 2])):=by
 obtain⟨sv,new,rfl,h2,h3,h4,h5,h6⟩:=hs;obtain⟨us,rfl,_,_,_,hn⟩:=hx
 obtain⟨sa,sc,hsv⟩:∃a c,sv=.slice a 1 c:=by
  rcases h2 with⟨h,-⟩| ⟨g,c,rfl,-⟩
  ·cases h
  ·exact⟨_,_,rfl⟩
 subst hsv;obtain⟨ga,gc,rfl,-⟩:=id hg;have K:ShpMOk [2] [] [new] (λ_=>(⟨[12], [2]⟩:EnD)) [1,2]:=⟨by simp,λ_ h=>absurd h List.not_mem_nil,by simp,λvs h=>by obtain rfl:=List.mem_singleton.1 h;exact h3,λvs h=>by obtain rfl:=List.mem_singleton.1 h;exact h4,by simp,λvs h=>⟨by simp,by simp,λz hz=>by{obtain rfl:z=2:=(by simpa using hz);exact⟨by simp,by decide⟩}⟩⟩
 have hb:bsG [new] (λ_=>(⟨[12], [2]⟩:EnD)) [1,2] nm.data.toList=some ⟨[12], [2]⟩:=by
  rw[bsG_at];simp[xY,bestL,jA,h5]
 have h:=run_g (SS:= [nm.data.toList]) (SI:= [2]) (s0:=0) hn.len dcx (by simp) (by simp) (evG_f (SS:= [nm.data.toList]) (shpM1 hT h2 h6 hg) K (by unfold maxLen;simp) (by unfold maxLen;simp) (show wfE (λ_=>True) (VG [nm.data.toList] flG) (.val nm 0) []from⟨by decide,by decide,by rw[flG_nil];simp,hm,by simp,λp hp=>absurd hp List.not_mem_nil⟩) hn);rw[show ev (qX [] (bsG [new] (λ_=>(⟨[12], [2]⟩:EnD)) [1,2]) flG) (.val nm 0) [] (0,([], []))=(.ok ⟨12,12,true⟩,(0,([nm.data.toList], [2])))from by simp[ev,qX,vlG,flG_nil,hb]]at h;have h2:Calls prog 16 #[.agg us.toArray,.slice none 0 0,.slice none 0 0,.agg #[.slice sa 1 sc],.slice ga [1,2].length gc,.int .i64 0] w (Ret w (IsOutX (.ok ⟨12,12,true⟩) 0 (ksV [nm.data.toList]) (zsV [2]))):=h;rw[ksV_one,zsV_one,encB]at h2;exact h2
end
section
open Go Go.RowKit Go.Maps Go.Shelf
open Go.Proofs.Tryz
theorem zab{P:Prop}(h:P:=by rw[show(Array.map (λp:Nat×Operand=>(p.fst,a.eval p.snd)) #[])= #[]from by simp];exact hr):P:=h
attribute [local go_sem] Oper.semAt_some
set_option maxRecDepth 100000
def IsS1(x:ByteArray)(v:Value)(w:World):Prop:=∃g,v=.slice (some ⟨g,0,none⟩) 1 1/\World.cell? w ⟨g,0,none⟩=some (.string x)
def IsI1(z:Int)(v:Value)(w:World):Prop:=∃g,v=.slice (some ⟨g,0,none⟩) 1 1/\World.cell? w ⟨g,0,none⟩=some (.int .i64 z)
def IsI2(y z:Int)(v:Value)(w:World):Prop:=∃g,v=.slice (some ⟨g,0,none⟩) 2 2/\World.cell? w ⟨g,0,none⟩=some (.int .i64 y)/\World.cell? w ⟨g,1,none⟩=some (.int .i64 z)
def IsN1(z:Int)(v:Value)(w:World):Prop:=∃g s a n c,v=.slice (some ⟨g,0,none⟩) 1 1/\World.cell? w ⟨g,0,none⟩=some (.bool s)/\World.cell? w ⟨g,1,none⟩=some (.slice a n c)/\IsI 2 z (.agg #[.bool s,.slice a n c]) w
theorem IsS1.stb(x:ByteArray):Stb (IsS1 x):=λ_ _ _ e ⟨g,h1,h2⟩=>⟨g,h1,e.cell h2⟩
instance (x:ByteArray):StbC (IsS1 x):=⟨IsS1.stb x⟩
theorem IsI1.stb(z:Int):Stb (IsI1 z):=λ_ _ _ e ⟨g,h1,h2⟩=>⟨g,h1,e.cell h2⟩
instance (z:Int):StbC (IsI1 z):=⟨IsI1.stb z⟩
theorem IsI2.stb(y z:Int):Stb (IsI2 y z):=λ_ _ _ e ⟨g,h1,h2,h3⟩=>⟨g,h1,e.cell h2,e.cell h3⟩
instance (y z:Int):StbC (IsI2 y z):=⟨IsI2.stb y z⟩
theorem IsN1.stb(z:Int):Stb (IsN1 z):=λ_ _ _ e ⟨g,s,a,n,c,h1,h2,h3,h4⟩=>⟨g,s,a,n,c,h1,e.cell h2,e.cell h3,h4.ext e⟩
instance (z:Int):StbC (IsN1 z):=⟨IsN1.stb z⟩
theorem s1_rw{x:ByteArray}{v:Value}{w:World}(h:IsS1 x v w):IsRw 0 ([x.data.toList].map encStr) v w:=by
 obtain⟨g,rfl,h1⟩:=h;refine⟨_,1,rfl,λ_=>⟨g,rfl,Nat.zero_le _,λj u hj=>?_⟩⟩
 match j,hj with
 |0,hj=>cases hj;rw[encB];exact h1
theorem i1_rw{z:Int}{v:Value}{w:World}(h:IsI1 z v w):IsRw 0 ([z].map (Value.int .i64)) v w:=by
 obtain⟨g,rfl,h1⟩:=h;refine⟨_,1,rfl,λ_=>⟨g,rfl,Nat.zero_le _,λj u hj=>?_⟩⟩
 match j,hj with
 |0,hj=>cases hj;exact h1
theorem irI2{y z:Int}{v:Value}{w:World}(h:IsI2 y z v w):IrR [y,z] v w:=by
 obtain⟨g,rfl,h1,h2⟩:=h;refine⟨_,2,rfl,λ_=>⟨g,0,rfl,λj u hj=>?_⟩⟩
 match j,hj with
 |0,hj=>cases hj;exact h1
 |1,hj=>cases hj;exact h2
theorem bd_EnX(nm:ByteArray)(gv gh:Nat)(w:World):(Instr.build 95 #[(0,.string nm),(1,.slice (some ⟨gv,0,none⟩) 1 1),(3,.slice (some ⟨gh,0,none⟩) 1 1)]).run prog w=.ok (.agg (jI nm (some ⟨gv,0,none⟩) 1 1 (some ⟨gh,0,none⟩) 1 1).toArray) w:=by unfold jI;go_simp
section
variable {ops:Array Oper} {Q:Exit->Act->World->Prop} {ds:List (Option Tmp)} {a0:Act} {w0:World} {L:List (Value->World->Prop)} {boxes:List Nat} {i k:Nat} {o:Oper} {os:List Oper}
theorem okV'{P:Program}{u:Value}(hb:boxes.contains i=false)(hi:L.getD i (λ_ _=>True)=IsV u)(h:∀(v:Nat->Value) (a:Act) (w:World),Ext w0 w->(∀j,(ups .any ops i).contains j=true->L.getD j (λ_ _=>True) (v j) w)->Fr ds a0 v a->(execOp a.eval o).run P w=.ok (.value u) w):Ok P ops Q ds a0 w0 L boxes i o:=
 Ok.of hb λv a w hE hd hf=>⟨u,h v a w hE hd hf,by rw[hi];rfl⟩
theorem bdCell{x:ByteArray}(ho:o.op=.build 31 #[(0,.const (.int .i64 2)),(1,.const (.string x))]:=by rfl)(hi:L.getD i (λ_ _=>True)=IsNe (.cell x):=by kernel_rfl)(hb:boxes.contains i=false:=by kernel_rfl):Ok prog ops Q ds a0 w0 L boxes i o:=
 Ok.of hb λv a w hE hd hf=>by
  have hr:(Instr.build 31 #[(0,.int .i64 2),(1,.string x)]).run prog w=.ok (.agg #[.int .i64 2,.string x,.int .i64 0,.bool false,.slice none 0 0,.int .i64 0,.int .i64 0,.slice none 0 0]) w:=ja
  exact⟨_,bdG ho zw,by rw[hi];exact⟨_,rfl,rfl,rfl,nwNd,_,_,_,_,_,_,_,_,rfl⟩⟩
theorem bdVal{x:ByteArray}(ho:o.op=.build 31 #[(0,.const (.int .i64 3)),(1,.const (.string x))]:=by rfl)(hi:L.getD i (λ_ _=>True)=IsNe (.val x 0):=by kernel_rfl)(hb:boxes.contains i=false:=by kernel_rfl):Ok prog ops Q ds a0 w0 L boxes i o:=
 Ok.of hb λv a w hE hd hf=>by
  have hr:(Instr.build 31 #[(0,.int .i64 3),(1,.string x)]).run prog w=.ok (.agg #[.int .i64 3,.string x,.int .i64 0,.bool false,.slice none 0 0,.int .i64 0,.int .i64 0,.slice none 0 0]) w:=ja
  exact⟨_,bdG ho zw,by rw[hi];exact⟨_,rfl,rfl,rfl,nwNd,_,_,_,_,_,_,_,rfl⟩⟩
theorem bsRun{T n:Nat}{ps:Array (Nat×Operand)}{a:Act}{v:Value}{w w':World}{P:Program}(ho:o.op=.buildSlice T n ps)(hr:(Instr.buildSlice T n (ps.map λp=>(p.1,a.eval p.2))).run P w=.ok v w'):(execOp a.eval o).run P w=.ok (.value v) w':=by
 unfold execOp;rw[ho];dsimp only;rw[Sem.run_bind,hr];rfl
theorem tExA2_1{P:Prop}(h:P:=by
  exact⟨_,_,bsRun ho zw,(Ext.refl w).alloc _,by rw[hi];exact⟨_,rfl,(Bk.new w _ _).c 0 _ rfl⟩⟩
  ):P:=h
theorem bsS1{x:ByteArray}(ho:o.op=.buildSlice 51 1 #[(0,.const (.string x))]:=by rfl)(hi:L.getD i (λ_ _=>True)=IsS1 x:=by kernel_rfl)(hb:boxes.contains i=false:=by kernel_rfl):Ok prog ops Q ds a0 w0 L boxes i o:=
 xZ hb λv a w hE hd hf=>by
  have hr:(Instr.buildSlice 51 1 #[(0,.string x)]).run prog w=.ok (.slice (some ⟨w.heap.size,0,none⟩) 1 1) (w.alloc (.cells #[.string x] 9)):=ja
  exact tExA2_1
theorem bsI1{z:Int}(ho:o.op=.buildSlice 41 1 #[(0,.const (.int .i64 z))]:=by rfl)(hi:L.getD i (λ_ _=>True)=IsI1 z:=by kernel_rfl)(hb:boxes.contains i=false:=by kernel_rfl):Ok prog ops Q ds a0 w0 L boxes i o:=
 xZ hb λv a w hE hd hf=>by
  have hr:(Instr.buildSlice 41 1 #[(0,.int .i64 z)]).run prog w=.ok (.slice (some ⟨w.heap.size,0,none⟩) 1 1) (w.alloc (.cells #[.int .i64 z] 3)):=ja
  exact tExA2_1
theorem bsI2{y z:Int}(ho:o.op=.buildSlice 41 2 #[(0,.const (.int .i64 y)),(1,.const (.int .i64 z))]:=by rfl)(hi:L.getD i (λ_ _=>True)=IsI2 y z:=by kernel_rfl)(hb:boxes.contains i=false:=by kernel_rfl):Ok prog ops Q ds a0 w0 L boxes i o:=
 xZ hb λv a w hE hd hf=>by
  have hr:(Instr.buildSlice 41 2 #[(0,.int .i64 y),(1,.int .i64 z)]).run prog w=.ok (.slice (some ⟨w.heap.size,0,none⟩) 2 2) (w.alloc (.cells #[.int .i64 y,.int .i64 z] 3)):=ja
  exact⟨_,_,bsRun ho zw,(Ext.refl w).alloc _,by rw[hi];exact⟨_,rfl,(Bk.new w _ _).c 0 _ rfl,(Bk.new w _ _).c 1 _ rfl⟩⟩
theorem bsN1{z:Int}{x:Operand}(hx:Od ops ds a0 w0 L i x (IsI 2 z))(ho:o.op=.buildSlice 69 1 #[(0,x)]:=by rfl)(hi:L.getD i (λ_ _=>True)=IsN1 z:=by kernel_rfl)(hb:boxes.contains i=false:=by kernel_rfl):Ok prog ops Q ds a0 w0 L boxes i o:=
 xZ hb λv a w hE hd hf=>by
  obtain⟨s,p,n,c,e1,h1⟩:=hx.out v a w hE hd hf;have hr:(Instr.buildSlice 69 1 #[(0,.agg #[.bool s,.slice p n c])]).run prog w=.ok (.slice (some ⟨w.heap.size,0,none⟩) 1 1) (w.alloc (.cells #[.bool s,.slice p n c] 28)):=ja
  exact⟨_,_,bsRun ho za0,(Ext.refl w).alloc _,by rw[hi];exact⟨_,s,p,n,c,rfl,(Bk.new w _ _).c 0 _ rfl,(Bk.new w _ _).c 1 _ rfl,IsI.ext (show IsI 2 z _ w from⟨s,p,n,c,rfl,h1⟩) ((Ext.refl w).alloc _)⟩⟩
theorem bdShN(ho:o.op=.build 39 #[]:=by rfl)(hi:L.getD i (λ_ _=>True)=IsV (.agg #[.slice none 0 0]):=by kernel_rfl)(hb:boxes.contains i=false:=by kernel_rfl):Ok prog ops Q ds a0 w0 L boxes i o:=
 okV' hb hi λv a w hE hd hf=>by
  have hr:(Instr.build 39 #[]).run prog w=.ok (.agg #[.slice none 0 0]) w:=ja
  exact bdG ho zab
theorem bdSo(ho:o.op=.build 102 #[]:=by rfl)(hi:L.getD i (λ_ _=>True)=IsV (.agg #[.int .i64 0,.int .i64 0,.int .i64 0]):=by kernel_rfl)(hb:boxes.contains i=false:=by kernel_rfl):Ok prog ops Q ds a0 w0 L boxes i o:=
 okV' hb hi λv a w hE hd hf=>by
  have hr:(Instr.build 102 #[]).run prog w=.ok (.agg #[.int .i64 0,.int .i64 0,.int .i64 0]) w:=ja
  exact bdG ho zab
theorem bdEnX{nm:ByteArray}{z:Int}{x y:Operand}(hx:Od ops ds a0 w0 L i x (IsN1 z))(hy:Od ops ds a0 w0 L i y (IsI1 2))(ho:o.op=.build 95 #[(0,.const (.string nm)),(1,x),(3,y)]:=by rfl)(hi:L.getD i (λ_ _=>True)=IsEnW nm ⟨[z], [2]⟩:=by kernel_rfl)(hb:boxes.contains i=false:=by kernel_rfl):Ok prog ops Q ds a0 w0 L boxes i o:=
 Ok.of hb λv a w hE hd hf=>by
  obtain⟨gv,s,p,n,c,e1,h1,h2,h3⟩:=hx.out v a w hE hd hf;obtain⟨gh,e2,h4⟩:=hy.out v a w hE hd hf;refine⟨_,bdG ho (by simp only[List.map_toArray,List.map_cons,List.map_nil];rw[e1,e2];exact bd_EnX nm gv gh w),?_⟩;rw[hi];refine⟨_,rfl,⟨by simp,by simp⟩,by simp,λq hq=>by obtain rfl:q=2:=(by simpa using hq);decide,_,_,_,_,rfl,λ_=>⟨gv,rfl,λj u hj=>?_⟩,λ_=>⟨gh,0,rfl,λj u hj=>?_⟩⟩
  ·match j,hj with
   |0,hj=>cases hj;exact⟨s,p,n,c,h1,h2,h3.mono dcx⟩
  ·match j,hj with
   |0,hj=>cases hj;exact h4
end
end
section
open Go Go.RowKit Go.Maps Go.Shelf
open Go.Proofs.Tryz
theorem zb5{P:Prop}(h:P:=by rw[MakeChecks.laidMetH_plain _ _ _ (by kernel_rfl)];exact laidMet_laidAll _ za za):P:=h
theorem yr{P:Prop}(h:P:=by unfold Func.isWrapper;first| (rw[if_pos (by decide +kernel)];kernel_rfl)| (rw[if_neg (by decide +kernel)];exact⟨rfl,rfl⟩)):P:=h
theorem xt{P:Prop}(h:P:=by simpa using ht.symm):P:=h
theorem zas{P:Prop}(h:P:=by exact alB al_Out (jP _)):P:=h
theorem za5{P:Prop}(h:P:=by exact lv _ (λw' e=>xN w' _ _ hl1 (B1.ext e)) (qB 1) (λw' e=>IsNe.stb _ _ _ _ e hx1)):P:=h
theorem za6{P:Prop}(h:P:=by exact lv _ (λw' e=>xN w' _ _ hl2 (B2.ext e)) (qB 2) (λw' e=>IsNe.stb _ _ _ _ e hx2)):P:=h
theorem za7{P:Prop}(h:P:=by exact lv _ (λw' e=>xN w' _ _ hl8 (B8.ext e)) (qB 8) (λw' e=>IsNe.stb _ _ _ _ e hx8)):P:=h
set_option maxRecDepth 100000
set_option maxHeartbeats 16000000
attribute [local go_sem] Oper.semAt_some
theorem examples_g{w:World}(hT:TabM w):Calls prog 10 #[] w (Ret w (IsV (.bool true))):=by
 have HT:=hid hT;clear hT;have E:Ext w w:=Ext.refl w;go_enter func10,ntmps10;go_upto_region 1 with fail;refine rgs 4 (dR 12 4) [IsNe (.var (⟨#[120]⟩)),IsNe (.num (4)),IsNe (.bin (12) (.var (⟨#[120]⟩)) (.num (4))),IsNe (.loop false (⟨#[120]⟩) (1) (10) (.bin (12) (.var (⟨#[120]⟩)) (.num (4))))] [] ?_ ?_
 ·refine Rc (cl (en func40) rfl rfl za za λv a w2 hE hd hf=>by
    simp only[List.map_toArray,List.map_cons,List.map_nil]
    exact variable_f w2 _) ?_
  refine Rc (cl (en func43) rfl rfl za za λv a w2 hE hd hf=>by
    simp only[List.map_toArray,List.map_cons,List.map_nil]
    exact num_f w2 _ dcx) ?_
  refine Rc (cl (en func28) rfl rfl za za λv a w2 hE hd hf=>by
    have e1:(IsNe (.var (⟨#[120]⟩))) (a.eval (.tmp 12)) w2:=((qA (fP:=IsNe (.var (⟨#[120]⟩))) 0 12):Od _ _ _ _ _ _ _ _).out v a w2 hE hd hf;have e2:(IsNe (.num (4))) (a.eval (.tmp 13)) w2:=((qA (fP:=IsNe (.num (4))) 1 13):Od _ _ _ _ _ _ _ _).out v a w2 hE hd hf;simp only[List.map_toArray,List.map_cons,List.map_nil]
    exact two_f _ e1 e2) ?_
  refine Rc (cl (en func42) rfl rfl za za λv a w2 hE hd hf=>by
    have e4:(IsNe (.bin (12) (.var (⟨#[120]⟩)) (.num (4)))) (a.eval (.tmp 14)) w2:=((qA (fP:=IsNe (.bin (12) (.var (⟨#[120]⟩)) (.num (4)))) 2 14):Od _ _ _ _ _ _ _ _).out v a w2 hE hd hf;simp only[List.map_toArray,List.map_cons,List.map_nil]
    exact loop_f _ false rfl _ _ _ e4) ?_
  exact rn0
 intro v X1 e1 hZ _;obtain⟨u,hu⟩:∃u,v 3=u:=⟨_,rfl⟩;have hO:(IsNe (.loop false (⟨#[120]⟩) (1) (10) (.bin (12) (.var (⟨#[120]⟩)) (.num (4))))) u X1:=by rw[<-hu];exact hZ 3 dcx
 simp only[lxE,Nat.reduceAdd];rw[hu];clear hZ hu;obtain⟨us1,hus,hl1,hone,hnw,_⟩:=id hO;subst hus;refine stL (λK hK=>?_);refine xF (vs:=zNd) al_Nd (λBn e3=>hK _ _ ?_);obtain⟨g1,hg1⟩:∃g,X1.heap.size=g:=⟨_,rfl⟩;rw[hg1]at Bn ⊢;generalize X1.alloc (.cells zNd.toArray 31)=Y2 at Bn e3 ⊢;clear hK K
 go_simp
 refine stL (λK hK=>?_);refine qZ (us:=us1) Bn st_Nd rfl hl1 nwZN (λX2 B1 O=>hK _ _ ?_) (ho1:=hone);have e4:=O.ext e3 (Nat.le_of_eq hg1);have e2:=e1.trans e4;have hx1:=IsNe.stb _ _ _ _ e4 hO;replace E:=E.trans e2;clear hK K O e1 e2 e3 e4 Bn hone hnw hO hg1;refine jL ?_;go_upto_region 2 with fail;refine rgs 6 (dR 16 6) [IsNe (.var (⟨#[120]⟩)),IsNe (.var (⟨#[120]⟩)),IsNe (.bin (6) (.var (⟨#[120]⟩)) (.var (⟨#[120]⟩))),IsNe (.num (49)),IsNe (.bin (13) (.bin (6) (.var (⟨#[120]⟩)) (.var (⟨#[120]⟩))) (.num (49))),IsNe (.loop true (⟨#[120]⟩) (1) (10) (.bin (13) (.bin (6) (.var (⟨#[120]⟩)) (.var (⟨#[120]⟩))) (.num (49))))] [] ?_ ?_
 ·refine Rc (cl (en func40) rfl rfl za za λv a w2 hE hd hf=>by
    simp only[List.map_toArray,List.map_cons,List.map_nil]
    exact variable_f w2 _) ?_
  refine Rc (cl (en func40) rfl rfl za za λv a w2 hE hd hf=>by
    simp only[List.map_toArray,List.map_cons,List.map_nil]
    exact variable_f w2 _) ?_
  refine Rc (cl (en func28) rfl rfl za za λv a w2 hE hd hf=>by
    have e1:(IsNe (.var (⟨#[120]⟩))) (a.eval (.tmp 16)) w2:=((qA (fP:=IsNe (.var (⟨#[120]⟩))) 0 16):Od _ _ _ _ _ _ _ _).out v a w2 hE hd hf;have e2:(IsNe (.var (⟨#[120]⟩))) (a.eval (.tmp 17)) w2:=((qA (fP:=IsNe (.var (⟨#[120]⟩))) 1 17):Od _ _ _ _ _ _ _ _).out v a w2 hE hd hf;simp only[List.map_toArray,List.map_cons,List.map_nil]
    exact two_f _ e1 e2) ?_
  refine Rc (cl (en func43) rfl rfl za za λv a w2 hE hd hf=>by
    simp only[List.map_toArray,List.map_cons,List.map_nil]
    exact num_f w2 _ dcx) ?_
  refine Rc (cl (en func28) rfl rfl za za λv a w2 hE hd hf=>by
    have e1:(IsNe (.bin (6) (.var (⟨#[120]⟩)) (.var (⟨#[120]⟩)))) (a.eval (.tmp 18)) w2:=((qA (fP:=IsNe (.bin (6) (.var (⟨#[120]⟩)) (.var (⟨#[120]⟩)))) 2 18):Od _ _ _ _ _ _ _ _).out v a w2 hE hd hf;have e2:(IsNe (.num (49))) (a.eval (.tmp 19)) w2:=((qA (fP:=IsNe (.num (49))) 3 19):Od _ _ _ _ _ _ _ _).out v a w2 hE hd hf;simp only[List.map_toArray,List.map_cons,List.map_nil]
    exact two_f _ e1 e2) ?_
  refine Rc (cl (en func42) rfl rfl za za λv a w2 hE hd hf=>by
    have e4:(IsNe (.bin (13) (.bin (6) (.var (⟨#[120]⟩)) (.var (⟨#[120]⟩))) (.num (49)))) (a.eval (.tmp 20)) w2:=((qA (fP:=IsNe (.bin (13) (.bin (6) (.var (⟨#[120]⟩)) (.var (⟨#[120]⟩))) (.num (49)))) 4 20):Od _ _ _ _ _ _ _ _).out v a w2 hE hd hf;simp only[List.map_toArray,List.map_cons,List.map_nil]
    exact loop_f _ true rfl _ _ _ e4) ?_
  exact rn0
 intro v X3 e1 hZ _;obtain⟨u,hu⟩:∃u,v 5=u:=⟨_,rfl⟩;have hO:(IsNe (.loop true (⟨#[120]⟩) (1) (10) (.bin (13) (.bin (6) (.var (⟨#[120]⟩)) (.var (⟨#[120]⟩))) (.num (49))))) u X3:=by rw[<-hu];exact hZ 5 dcx
 simp only[lxE,Nat.reduceAdd];rw[hu];clear hZ hu;obtain⟨us2,hus,hl2,hone,hnw,_⟩:=id hO;subst hus;refine stL (λK hK=>?_);refine xF (vs:=zNd) al_Nd (λBn e3=>hK _ _ ?_);obtain⟨g2,hg2⟩:∃g,X3.heap.size=g:=⟨_,rfl⟩;rw[hg2]at Bn ⊢;generalize X3.alloc (.cells zNd.toArray 31)=Y4 at Bn e3 ⊢;clear hK K
 go_simp
 refine stL (λK hK=>?_);refine qZ (us:=us2) Bn st_Nd rfl hl2 nwZN (λX4 B2 O=>hK _ _ ?_) (ho1:=hone);have e4:=O.ext e3 (Nat.le_of_eq hg2);have e2:=e1.trans e4;have hx2:=IsNe.stb _ _ _ _ e4 hO;replace E:=E.trans e2;replace B1:=B1.ext e2;replace hx1:=IsNe.stb _ _ _ _ e2 hx1;clear hK K O e1 e2 e3 e4 Bn hone hnw hO hg2;refine jL ?_;go_upto_region 3 with fail;refine rgs 3 [some 22,some 23,some 3] [IsNe (.loop false (⟨#[120]⟩) (1) (10) (.bin (12) (.var (⟨#[120]⟩)) (.num (4)))),IsOutX (.ok ⟨3,3,true⟩) (0) [] [],IsNb X4.heap.size zOut] [] ?_ ?_
 ·refine Rc za5 ?_
  refine Rc (cl (en func41) rfl rfl za za λv a w2 hE hd hf=>by
    have e0:(IsNe (.loop false (⟨#[120]⟩) (1) (10) (.bin (12) (.var (⟨#[120]⟩)) (.num (4))))) (a.eval (.tmp 22)) w2:=((qA (fP:=IsNe (.loop false (⟨#[120]⟩) (1) (10) (.bin (12) (.var (⟨#[120]⟩)) (.num (4))))) 0 22):Od _ _ _ _ _ _ _ _).out v a w2 hE hd hf;simp only[List.map_toArray,List.map_cons,List.map_nil]
    exact(by have h9:=alone_x (s0:=10) (res:=.ok ⟨3,3,true⟩) (left:=0) (rd:= []) (hy:= []) (SS:= []) (HT.out.ext (E.trans hE)) e0 dcx (by simp) (wf_loop dcx (λi i1 i2=>wf_bin dcx (wf_var (by omega)) (wf_num dcx))) za;rw[ksV_nil,zsV_nil]at h9;exact h9)) ?_
  refine Rc zas ?_;exact rn0
 intro v X5 e1 hZ _;obtain⟨g3,hv2,hg3,Bn⟩:=hZ 2 dcx;obtain⟨u,hu⟩:∃u,v 1=u:=⟨_,rfl⟩;have hO:(IsOutX (.ok ⟨3,3,true⟩) (0) [] []) u X5:=jl
 simp only[lxE,Nat.reduceAdd];rw[hv2,hu];clear hZ hv2 hu;refine stL (λK hK=>?_);refine stOut Bn hO (λu hu=>absurd hu List.not_mem_nil) (λu hu=>absurd hu List.not_mem_nil) (λX6 O3 O=>hK _ _ ?_);have e2:=O.ext e1 hg3;replace E:=E.trans e2;replace B1:=B1.ext e2;replace hx1:=IsNe.stb _ _ _ _ e2 hx1;replace B2:=B2.ext e2;replace hx2:=IsNe.stb _ _ _ _ e2 hx2;clear hK K O e1 e2 Bn hO;refine jL ?_;go_upto_region 4 with fail;refine rgs 3 [some 24,some 25,some 4] [IsNe (.loop false (⟨#[120]⟩) (1) (10) (.bin (12) (.var (⟨#[120]⟩)) (.num (4)))),IsOutX (.ok ⟨2,10,false⟩) (0) [] [],IsNb X6.heap.size zOut] [] ?_ ?_
 ·refine Rc za5 ?_
  refine Rc (cl (en func41) rfl rfl za za λv a w2 hE hd hf=>by
    have e0:(IsNe (.loop false (⟨#[120]⟩) (1) (10) (.bin (12) (.var (⟨#[120]⟩)) (.num (4))))) (a.eval (.tmp 24)) w2:=((qA (fP:=IsNe (.loop false (⟨#[120]⟩) (1) (10) (.bin (12) (.var (⟨#[120]⟩)) (.num (4))))) 0 24):Od _ _ _ _ _ _ _ _).out v a w2 hE hd hf;simp only[List.map_toArray,List.map_cons,List.map_nil]
    exact(by have h9:=alone_x (s0:=2) (res:=.ok ⟨2,10,false⟩) (left:=0) (rd:= []) (hy:= []) (SS:= []) (HT.out.ext (E.trans hE)) e0 dcx (by simp) (wf_loop dcx (λi i1 i2=>wf_bin dcx (wf_var (by omega)) (wf_num dcx))) za;rw[ksV_nil,zsV_nil]at h9;exact h9)) ?_
  refine Rc zas ?_;exact rn0
 intro v X7 e1 hZ _;obtain⟨g4,hv2,hg4,Bn⟩:=hZ 2 dcx;obtain⟨u,hu⟩:∃u,v 1=u:=⟨_,rfl⟩;have hO:(IsOutX (.ok ⟨2,10,false⟩) (0) [] []) u X7:=jl
 simp only[lxE,Nat.reduceAdd];rw[hv2,hu];clear hZ hv2 hu;refine stL (λK hK=>?_);refine stOut Bn hO (λu hu=>absurd hu List.not_mem_nil) (λu hu=>absurd hu List.not_mem_nil) (λX8 O4 O=>hK _ _ ?_);have e2:=O.ext e1 hg4;replace E:=E.trans e2;replace B1:=B1.ext e2;replace hx1:=IsNe.stb _ _ _ _ e2 hx1;replace B2:=B2.ext e2;replace hx2:=IsNe.stb _ _ _ _ e2 hx2;replace O3:=O3.ext e2;clear hK K O e1 e2 Bn hO;refine jL ?_;go_upto_region 5 with fail;refine rgs 3 [some 26,some 27,some 5] [IsNe (.loop true (⟨#[120]⟩) (1) (10) (.bin (13) (.bin (6) (.var (⟨#[120]⟩)) (.var (⟨#[120]⟩))) (.num (49)))),IsOutX (.ok ⟨7,7,true⟩) (3) [] [],IsNb X8.heap.size zOut] [] ?_ ?_
 ·refine Rc za6 ?_
  refine Rc (cl (en func41) rfl rfl za za λv a w2 hE hd hf=>by
    have e0:(IsNe (.loop true (⟨#[120]⟩) (1) (10) (.bin (13) (.bin (6) (.var (⟨#[120]⟩)) (.var (⟨#[120]⟩))) (.num (49))))) (a.eval (.tmp 26)) w2:=((qA (fP:=IsNe (.loop true (⟨#[120]⟩) (1) (10) (.bin (13) (.bin (6) (.var (⟨#[120]⟩)) (.var (⟨#[120]⟩))) (.num (49))))) 0 26):Od _ _ _ _ _ _ _ _).out v a w2 hE hd hf;simp only[List.map_toArray,List.map_cons,List.map_nil]
    exact(by have h9:=alone_x (s0:=10) (res:=.ok ⟨7,7,true⟩) (left:=3) (rd:= []) (hy:= []) (SS:= []) (HT.out.ext (E.trans hE)) e0 dcx (by simp) (wf_loop dcx (λi i1 i2=>wf_bin dcx (wf_bin dcx (wf_var (by omega)) (wf_var (by omega))) (wf_num dcx))) za;rw[ksV_nil,zsV_nil]at h9;exact h9)) ?_
  refine Rc zas ?_;exact rn0
 intro v X9 e1 hZ _;obtain⟨g5,hv2,hg5,Bn⟩:=hZ 2 dcx;obtain⟨u,hu⟩:∃u,v 1=u:=⟨_,rfl⟩;have hO:(IsOutX (.ok ⟨7,7,true⟩) (3) [] []) u X9:=jl
 simp only[lxE,Nat.reduceAdd];rw[hv2,hu];clear hZ hv2 hu;refine stL (λK hK=>?_);refine stOut Bn hO (λu hu=>absurd hu List.not_mem_nil) (λu hu=>absurd hu List.not_mem_nil) (λX10 O5 O=>hK _ _ ?_);have e2:=O.ext e1 hg5;replace E:=E.trans e2;replace B1:=B1.ext e2;replace hx1:=IsNe.stb _ _ _ _ e2 hx1;replace B2:=B2.ext e2;replace hx2:=IsNe.stb _ _ _ _ e2 hx2;replace O3:=O3.ext e2;replace O4:=O4.ext e2;clear hK K O e1 e2 Bn hO;refine jL ?_;go_upto_region 6 with fail;refine rgs 3 [some 28,some 29,some 6] [IsNe (.loop true (⟨#[120]⟩) (1) (10) (.bin (13) (.bin (6) (.var (⟨#[120]⟩)) (.var (⟨#[120]⟩))) (.num (49)))),IsOutX (.ok ⟨4,11,false⟩) (0) [] [],IsNb X10.heap.size zOut] [] ?_ ?_
 ·refine Rc za6 ?_
  refine Rc (cl (en func41) rfl rfl za za λv a w2 hE hd hf=>by
    have e0:(IsNe (.loop true (⟨#[120]⟩) (1) (10) (.bin (13) (.bin (6) (.var (⟨#[120]⟩)) (.var (⟨#[120]⟩))) (.num (49))))) (a.eval (.tmp 28)) w2:=((qA (fP:=IsNe (.loop true (⟨#[120]⟩) (1) (10) (.bin (13) (.bin (6) (.var (⟨#[120]⟩)) (.var (⟨#[120]⟩))) (.num (49))))) 0 28):Od _ _ _ _ _ _ _ _).out v a w2 hE hd hf;simp only[List.map_toArray,List.map_cons,List.map_nil]
    exact(by have h9:=alone_x (s0:=3) (res:=.ok ⟨4,11,false⟩) (left:=0) (rd:= []) (hy:= []) (SS:= []) (HT.out.ext (E.trans hE)) e0 dcx (by simp) (wf_loop dcx (λi i1 i2=>wf_bin dcx (wf_bin dcx (wf_var (by omega)) (wf_var (by omega))) (wf_num dcx))) za;rw[ksV_nil,zsV_nil]at h9;exact h9)) ?_
  refine Rc zas ?_;exact rn0
 intro v X11 e1 hZ _;obtain⟨g6,hv2,hg6,Bn⟩:=hZ 2 dcx;obtain⟨u,hu⟩:∃u,v 1=u:=⟨_,rfl⟩;have hO:(IsOutX (.ok ⟨4,11,false⟩) (0) [] []) u X11:=jl
 simp only[lxE,Nat.reduceAdd];rw[hv2,hu];clear hZ hv2 hu;refine stL (λK hK=>?_);refine stOut Bn hO (λu hu=>absurd hu List.not_mem_nil) (λu hu=>absurd hu List.not_mem_nil) (λX12 O6 O=>hK _ _ ?_);have e2:=O.ext e1 hg6;replace E:=E.trans e2;replace B1:=B1.ext e2;replace hx1:=IsNe.stb _ _ _ _ e2 hx1;replace B2:=B2.ext e2;replace hx2:=IsNe.stb _ _ _ _ e2 hx2;replace O3:=O3.ext e2;replace O4:=O4.ext e2;replace O5:=O5.ext e2;clear hK K O e1 e2 Bn hO;refine jL ?_;go_upto_region 7 with fail;refine rgs 5 [some 30,some 31,some 32,some 33,some 7] [IsNe (.num (2)),IsNe (.cell (⟨#[97]⟩)),IsNe (.bin (4) (.num (2)) (.cell (⟨#[97]⟩))),IsOutX (.error 440) (0) [] [],IsNb X12.heap.size zOut] [] ?_ ?_
 ·refine Rc (cl (en func43) rfl rfl za za λv a w2 hE hd hf=>by
    simp only[List.map_toArray,List.map_cons,List.map_nil]
    exact num_f w2 _ dcx) ?_
  refine Rc bdCell ?_
  refine Rc (cl (en func28) rfl rfl za za λv a w2 hE hd hf=>by
    have e1:(IsNe (.num (2))) (a.eval (.tmp 30)) w2:=((qA (fP:=IsNe (.num (2))) 0 30):Od _ _ _ _ _ _ _ _).out v a w2 hE hd hf;have e2:(IsNe (.cell (⟨#[97]⟩))) (a.eval (.tmp 31)) w2:=((qA (fP:=IsNe (.cell (⟨#[97]⟩))) 1 31):Od _ _ _ _ _ _ _ _).out v a w2 hE hd hf;simp only[List.map_toArray,List.map_cons,List.map_nil]
    exact two_f _ e1 e2) ?_
  refine Rc (cl (en func41) rfl rfl za za λv a w2 hE hd hf=>by
    have e0:(IsNe (.bin (4) (.num (2)) (.cell (⟨#[97]⟩)))) (a.eval (.tmp 32)) w2:=((qA (fP:=IsNe (.bin (4) (.num (2)) (.cell (⟨#[97]⟩)))) 2 32):Od _ _ _ _ _ _ _ _).out v a w2 hE hd hf;simp only[List.map_toArray,List.map_cons,List.map_nil]
    exact(by have h9:=alone_x (s0:=0) (res:=.error 440) (left:=0) (rd:= []) (hy:= []) (SS:= []) (HT.out.ext (E.trans hE)) e0 dcx (by simp) (wf_bin dcx (wf_num dcx) trivial) za;rw[ksV_nil,zsV_nil]at h9;exact h9)) ?_
  refine Rc zas ?_;exact rn0
 intro v X13 e1 hZ _;obtain⟨g7,hv4,hg7,Bn⟩:=hZ 4 dcx;obtain⟨u,hu⟩:∃u,v 3=u:=⟨_,rfl⟩;have hO:(IsOutX (.error 440) (0) [] []) u X13:=by rw[<-hu];exact hZ 3 dcx
 simp only[lxE,Nat.reduceAdd];rw[hv4,hu];clear hZ hv4 hu;refine stL (λK hK=>?_);refine stOut Bn hO (λu hu=>absurd hu List.not_mem_nil) (λu hu=>absurd hu List.not_mem_nil) (λX14 O7 O=>hK _ _ ?_);have e2:=O.ext e1 hg7;replace E:=E.trans e2;replace B1:=B1.ext e2;replace hx1:=IsNe.stb _ _ _ _ e2 hx1;replace B2:=B2.ext e2;replace hx2:=IsNe.stb _ _ _ _ e2 hx2;replace O3:=O3.ext e2;replace O4:=O4.ext e2;replace O5:=O5.ext e2;replace O6:=O6.ext e2;clear hK K O e1 e2 Bn hO;refine jL ?_;go_upto_region 8 with fail;refine rgs 1 [some 34] [IsNe (.val (⟨#[104,58,55]⟩) 0)] [] ?_ ?_
 ·refine Rc bdVal ?_;exact rn0
 intro v X15 e1 hZ _;obtain⟨u,hu⟩:∃u,v 0=u:=⟨_,rfl⟩;have hO:(IsNe (.val (⟨#[104,58,55]⟩) 0)) u X15:=by rw[<-hu];exact hZ 0 dcx
 simp only[lxE];rw[hu];clear hZ hu;obtain⟨us8,hus,hl8,hone,hnw,_⟩:=id hO;subst hus;refine stL (λK hK=>?_);refine xF (vs:=zNd) al_Nd (λBn e3=>hK _ _ ?_);obtain⟨g8,hg8⟩:∃g,X15.heap.size=g:=⟨_,rfl⟩;rw[hg8]at Bn ⊢;generalize X15.alloc (.cells zNd.toArray 31)=Y16 at Bn e3 ⊢;clear hK K
 go_simp
 refine stL (λK hK=>?_);refine qZ (us:=us8) Bn st_Nd rfl hl8 nwZN (λX16 B8 O=>hK _ _ ?_) (ho1:=hone);have e4:=O.ext e3 (Nat.le_of_eq hg8);have e2:=e1.trans e4;have hx8:=IsNe.stb _ _ _ _ e4 hO;replace E:=E.trans e2;replace B1:=B1.ext e2;replace hx1:=IsNe.stb _ _ _ _ e2 hx1;replace B2:=B2.ext e2;replace hx2:=IsNe.stb _ _ _ _ e2 hx2;replace O3:=O3.ext e2;replace O4:=O4.ext e2;replace O5:=O5.ext e2;replace O6:=O6.ext e2;replace O7:=O7.ext e2;clear hK K O e1 e2 e3 e4 Bn hone hnw hO hg8;refine jL ?_;go_upto_region 9 with fail;refine rgs 3 [some 35,some 36,some 9] [IsNe (.val (⟨#[104,58,55]⟩) 0),IsOutX (.error 6) (0) [.string (⟨#[104,58,55]⟩)] [],IsNb X16.heap.size zOut] [] ?_ ?_
 ·refine Rc za7 ?_
  refine Rc (cl (en func41) rfl rfl za za λv a w2 hE hd hf=>by
    have e0:(IsNe (.val (⟨#[104,58,55]⟩) 0)) (a.eval (.tmp 35)) w2:=((qA (fP:=IsNe (.val (⟨#[104,58,55]⟩) 0)) 0 35):Od _ _ _ _ _ _ _ _).out v a w2 hE hd hf;simp only[List.map_toArray,List.map_cons,List.map_nil]
    exact(by have h9:=alone_x (s0:=0) (res:=.error 6) (left:=0) (rd:= [(⟨#[104,58,55]⟩:ByteArray).data.toList]) (hy:= []) (SS:= [(⟨#[104,58,55]⟩:ByteArray).data.toList]) (HT.out.ext (E.trans hE)) e0 dcx (by simp) ⟨by decide,by decide,List.mem_singleton.2 rfl,by decide,by decide,λp hp=>absurd hp List.not_mem_nil⟩ rfl;rw[ksV_one,encB,zsV_nil]at h9;exact h9)) ?_
  refine Rc zas ?_;exact rn0
 intro v X17 e1 hZ _;obtain⟨g9,hv2,hg9,Bn⟩:=hZ 2 dcx;obtain⟨u,hu⟩:∃u,v 1=u:=⟨_,rfl⟩;have hO:(IsOutX (.error 6) (0) [.string (⟨#[104,58,55]⟩)] []) u X17:=jl
 simp only[lxE,Nat.reduceAdd];rw[hv2,hu];clear hZ hv2 hu;refine stL (λK hK=>?_);refine stOut Bn hO ((λu hu b e=>by rw[List.mem_singleton.1 hu]at e;cases e)) (λu hu=>absurd hu List.not_mem_nil) (λX18 O9 O=>hK _ _ ?_);have e2:=O.ext e1 hg9;replace E:=E.trans e2;replace B1:=B1.ext e2;replace hx1:=IsNe.stb _ _ _ _ e2 hx1;replace B2:=B2.ext e2;replace hx2:=IsNe.stb _ _ _ _ e2 hx2;replace B8:=B8.ext e2;replace hx8:=IsNe.stb _ _ _ _ e2 hx8;replace O3:=O3.ext e2;replace O4:=O4.ext e2;replace O5:=O5.ext e2;replace O6:=O6.ext e2;replace O7:=O7.ext e2;clear hK K O e1 e2 Bn hO;refine jL ?_;go_upto_region 10 with fail;refine rgs 7 (dR 37 7) [IsV (.agg #[.slice none 0 0]),IsI 2 12,IsN1 12,IsI1 2,IsEnW (⟨#[104,58,55]⟩) ⟨[12], [2]⟩,IsV (.agg #[.int .i64 0,.int .i64 0,.int .i64 0]),IsSh1 (⟨#[104,58,55]⟩) ⟨[12], [2]⟩] [] ?_ ?_
 ·refine Rc bdShN ?_;refine Rc (cl1 (en func26) qE (λx0 w' hE d0=>by{obtain rfl:x0=.int .i64 12:=d0;exact ROf_f w' 12 dcx dcx})) ?_;refine Rc (bsN1 (qA (fP:=IsI 2 12) 1 38)) ?_;refine Rc bsI1 ?_;refine Rc (bdEnX (z:=12) (qA 2 39) (qA 3 40)) ?_;refine Rc bdSo ?_;refine Rc (cl3 (en func25) (qA (fP:=IsV (.agg #[.slice none 0 0])) 0 37) (qA (fP:=IsEnW (⟨#[104,58,55]⟩) ⟨[12], [2]⟩) 4 41) (qA (fP:=IsV (.agg #[.int .i64 0,.int .i64 0,.int .i64 0])) 5 42) (λx0 x1 x2 w' hE d0 d1 d2=>add_1 d0 d1 d2)) ?_;exact rn0
 intro v X19 e1 hZ _;obtain⟨sv,new,hsv,s2,s3,s4,s5,s6⟩:IsSh1 (⟨#[104,58,55]⟩) ⟨[12], [2]⟩ (v 6) X19:=hZ 6 dcx
 obtain⟨sa,sn,sc,hsl⟩:∃a n c,sv=.slice a n c:=by
  rcases s2 with⟨h,-⟩| ⟨g,c,rfl,-⟩
  ·cases h
  ·exact⟨_,_,_,rfl⟩
 subst hsl;simp only[lxE,Nat.reduceAdd];rw[hsv];clear hZ hsv;refine stL (λK hK=>?_);refine xF (vs:= [.slice none 0 0]) al_ShN (λBn e3=>hK _ _ ?_);obtain⟨g10,hg10⟩:∃g,X19.heap.size=g:=⟨_,rfl⟩;rw[hg10]at Bn ⊢;generalize X19.alloc (.cells [Value.slice none 0 0].toArray 39)=X20 at Bn e3 ⊢;clear hK K
 go_simp
 refine stL (λK hK=>?_);refine qZ (us:= [.slice sa sn sc]) Bn st_Sh rfl rfl nwNilS (λX21 B10 O=>hK _ _ ?_);have e4:=O.ext e3 (Nat.le_of_eq hg10);have e2:=e1.trans e4;have HSH:=hid (IsSh1.stb (⟨#[104,58,55]⟩) ⟨[12], [2]⟩ _ _ _ e4 ⟨_,new,rfl,s2,s3,s4,s5,s6⟩);replace E:=E.trans e2;replace B1:=B1.ext e2;replace hx1:=IsNe.stb _ _ _ _ e2 hx1;replace B2:=B2.ext e2;replace hx2:=IsNe.stb _ _ _ _ e2 hx2;replace B8:=B8.ext e2;replace hx8:=IsNe.stb _ _ _ _ e2 hx8;replace O3:=O3.ext e2;replace O4:=O4.ext e2;replace O5:=O5.ext e2;replace O6:=O6.ext e2;replace O7:=O7.ext e2;replace O9:=O9.ext e2;clear hK K O e1 e2 e3 e4 Bn s2 s3 s4 s5 s6 hg10;refine jL ?_;go_upto_region 11 with fail;refine rgs 5 [some 44,some 45,some 46,some 47,some 11] [IsNe (.val (⟨#[104,58,55]⟩) 0),IsV (.agg #[.slice sa sn sc]),IsI2 1 2,IsOutX (.ok ⟨12,12,true⟩) (0) [.string (⟨#[104,58,55]⟩)] [.int .i64 2],IsNb X21.heap.size zOut] [] ?_ ?_
 ·refine Rc za7 ?_;refine Rc (lvV B10 ld_Sh (qB 10)) ?_;refine Rc bsI2 ?_
  refine Rc (cl (en func16) rfl rfl za za λv a w2 hE hd hf=>by
    have e0:(IsNe (.val (⟨#[104,58,55]⟩) 0)) (a.eval (.tmp 44)) w2:=((qA (fP:=IsNe (.val (⟨#[104,58,55]⟩) 0)) 0 44):Od _ _ _ _ _ _ _ _).out v a w2 hE hd hf;have e1:(IsV (.agg #[.slice sa sn sc])) (a.eval (.tmp 45)) w2:=((qA (fP:=IsV (.agg #[.slice sa sn sc])) 1 45):Od _ _ _ _ _ _ _ _).out v a w2 hE hd hf;have e2:(IsI2 1 2) (a.eval (.tmp 46)) w2:=((qA (fP:=IsI2 1 2) 2 46):Od _ _ _ _ _ _ _ _).out v a w2 hE hd hf;simp only[List.map_toArray,List.map_cons,List.map_nil];rw[(e1:a.eval (.tmp 45)=_)]
    exact runV (HT.out.ext (E.trans hE)) e0 dcx (IsSh1.stb _ _ _ _ _ hE HSH.out) (irI2 e2)) ?_
  refine Rc zas ?_;exact rn0
 intro v X22 e1 hZ _;obtain⟨g11,hv4,hg11,Bn⟩:=hZ 4 dcx;obtain⟨u,hu⟩:∃u,v 3=u:=⟨_,rfl⟩;have hO:(IsOutX (.ok ⟨12,12,true⟩) (0) [.string (⟨#[104,58,55]⟩)] [.int .i64 2]) u X22:=by rw[<-hu];exact hZ 3 dcx
 simp only[lxE,Nat.reduceAdd];rw[hv4,hu];clear hZ hv4 hu;refine stL (λK hK=>?_);refine stOut Bn hO ((λu hu b e=>by rw[List.mem_singleton.1 hu]at e;cases e)) ((λu hu b e=>by rw[List.mem_singleton.1 hu]at e;cases e)) (λX23 O11 O=>hK _ _ ?_);have e2:=O.ext e1 hg11;replace E:=E.trans e2;replace B1:=B1.ext e2;replace hx1:=IsNe.stb _ _ _ _ e2 hx1;replace B2:=B2.ext e2;replace hx2:=IsNe.stb _ _ _ _ e2 hx2;replace B8:=B8.ext e2;replace hx8:=IsNe.stb _ _ _ _ e2 hx8;replace O3:=O3.ext e2;replace O4:=O4.ext e2;replace O5:=O5.ext e2;replace O6:=O6.ext e2;replace O7:=O7.ext e2;replace O9:=O9.ext e2;clear hK K O e1 e2 Bn hO;refine jL ?_;go_upto_region 12 with fail;clear HSH B10;refine rgs 32 (dR 48 32) [IsP g3 0,IsVh (.ok ⟨3,3,true⟩) [],IsV (.bool true),IsV (.bool false),IsV (.bool false),IsP g3 12,iV ((0:Nat):Int),IsV (.bool false),IsV (.bool false),IsV (.bool false),IsP g4 0,IsVh (.ok ⟨2,10,false⟩) [],IsV (.bool true),IsV (.bool false),IsV (.bool false),IsV (.bool false),IsP g5 0,IsVh (.ok ⟨7,7,true⟩) [],IsV (.bool true),IsV (.bool false),IsV (.bool false),IsV (.bool false),IsP g5 12,iV ((3:Nat):Int),IsV (.bool false),IsV (.bool false),IsV (.bool false),IsP g6 0,IsVh (.ok ⟨4,11,false⟩) [],IsV (.bool true),IsV (.bool false),IsV (.bool false)] [] ?_ ?_
 ·refine Rc (fa (xO g3) (qB 3)) ?_;refine Rc (ldVh O3 (qA (fP:=IsP g3 0) 0 48)) ?_
  refine Rc (cl (en func38) rfl rfl za za λv a w2 hE hd hf=>by
    have e0:(IsVh (.ok ⟨3,3,true⟩) []) (a.eval (.tmp 49)) w2:=((qA (fP:=IsVh (.ok ⟨3,3,true⟩) []) 1 49):Od _ _ _ _ _ _ _ _).out v a w2 hE hd hf;simp only[List.map_toArray,List.map_cons,List.map_nil]
    exact is_x e0 dcx dcx) ?_
  refine Rc (un (r:=.bool false) (qA (fP:=IsV (.bool true)) 2 50) zb6 (hr:=λw=>by go_simp)) ?_;refine Rc (mv (qA (fP:=IsV (.bool false)) 3 51)) ?_;refine RcG 4 52 false (fa (fa_Out2 g3) (qB 3)) ?_;refine RcG 4 52 false (ldLeft O3 (qA (fP:=IsP g3 12) 5 53)) ?_;refine RcG 4 52 false (bn (r:=.bool false) (qA (fP:=iV ((0:Nat):Int)) 6 54) qE (hr:=λw=>by go_simp)) ?_;refine Rc (pk (qA (fP:=IsV (.bool false)) 4 52) (qA (fP:=IsV (.bool false)) 7 55)) ?_;refine Rc (mv (qA (fP:=IsV (.bool false)) 8 56)) ?_;refine RcG 9 57 false (fa (xO g4) (qB 4)) ?_;refine RcG 9 57 false (ldVh O4 (qA (fP:=IsP g4 0) 10 58)) ?_
  refine RcG 9 57 false (cl (en func38) rfl rfl za za λv a w2 hE hd hf=>by
    have e0:(IsVh (.ok ⟨2,10,false⟩) []) (a.eval (.tmp 59)) w2:=((qA (fP:=IsVh (.ok ⟨2,10,false⟩) []) 11 59):Od _ _ _ _ _ _ _ _).out v a w2 hE hd hf;simp only[List.map_toArray,List.map_cons,List.map_nil]
    exact is_x e0 dcx dcx) ?_
  refine RcG 9 57 false (un (r:=.bool false) (qA (fP:=IsV (.bool true)) 12 60) zb6 (hr:=λw=>by go_simp)) ?_;refine Rc (pk (qA (fP:=IsV (.bool false)) 9 57) (qA (fP:=IsV (.bool false)) 13 61)) ?_;refine Rc (mv (qA (fP:=IsV (.bool false)) 14 62)) ?_;refine RcG 15 63 false (fa (xO g5) (qB 5)) ?_;refine RcG 15 63 false (ldVh O5 (qA (fP:=IsP g5 0) 16 64)) ?_
  refine RcG 15 63 false (cl (en func38) rfl rfl za za λv a w2 hE hd hf=>by
    have e0:(IsVh (.ok ⟨7,7,true⟩) []) (a.eval (.tmp 65)) w2:=((qA (fP:=IsVh (.ok ⟨7,7,true⟩) []) 17 65):Od _ _ _ _ _ _ _ _).out v a w2 hE hd hf;simp only[List.map_toArray,List.map_cons,List.map_nil]
    exact is_x e0 dcx dcx) ?_
  refine RcG 15 63 false (un (r:=.bool false) (qA (fP:=IsV (.bool true)) 18 66) zb6 (hr:=λw=>by go_simp)) ?_;refine Rc (pk (qA (fP:=IsV (.bool false)) 15 63) (qA (fP:=IsV (.bool false)) 19 67)) ?_;refine Rc (mv (qA (fP:=IsV (.bool false)) 20 68)) ?_;refine RcG 21 69 false (fa (fa_Out2 g5) (qB 5)) ?_;refine RcG 21 69 false (ldLeft O5 (qA (fP:=IsP g5 12) 22 70)) ?_;refine RcG 21 69 false (bn (r:=.bool false) (qA (fP:=iV ((3:Nat):Int)) 23 71) qE (hr:=λw=>by go_simp)) ?_;refine Rc (pk (qA (fP:=IsV (.bool false)) 21 69) (qA (fP:=IsV (.bool false)) 24 72)) ?_;refine Rc (mv (qA (fP:=IsV (.bool false)) 25 73)) ?_;refine RcG 26 74 false (fa (xO g6) (qB 6)) ?_;refine RcG 26 74 false (ldVh O6 (qA (fP:=IsP g6 0) 27 75)) ?_
  refine RcG 26 74 false (cl (en func38) rfl rfl za za λv a w2 hE hd hf=>by
    have e0:(IsVh (.ok ⟨4,11,false⟩) []) (a.eval (.tmp 76)) w2:=((qA (fP:=IsVh (.ok ⟨4,11,false⟩) []) 28 76):Od _ _ _ _ _ _ _ _).out v a w2 hE hd hf;simp only[List.map_toArray,List.map_cons,List.map_nil]
    exact is_x e0 dcx dcx) ?_
  refine RcG 26 74 false (un (r:=.bool false) (qA (fP:=IsV (.bool true)) 29 77) zb6 (hr:=λw=>by go_simp)) ?_;refine Rc (pk (qA (fP:=IsV (.bool false)) 26 74) (qA (fP:=IsV (.bool false)) 30 78)) ?_;exact rn0
 intro v X24 e1 hZ _;simp only[lxE,Nat.reduceAdd];rw[show v 31=.bool false from hZ 31 dcx];clear hZ;replace E:=E.trans e1;replace B1:=B1.ext e1;replace hx1:=IsNe.stb _ _ _ _ e1 hx1;replace B2:=B2.ext e1;replace hx2:=IsNe.stb _ _ _ _ e1 hx2;replace B8:=B8.ext e1;replace hx8:=IsNe.stb _ _ _ _ e1 hx8;replace O3:=O3.ext e1;replace O4:=O4.ext e1;replace O5:=O5.ext e1;replace O6:=O6.ext e1;replace O7:=O7.ext e1;replace O9:=O9.ext e1;replace O11:=O11.ext e1;clear e1;refine jL ?_;go_upto_region 14 with fail;obtain⟨gn,nn,cn,cN1,cN2⟩:=O9.rd;obtain⟨gi,ni,ci,cI1,cI2⟩:=O11.hy;have eR7:World.cell? X24 ⟨g7,10,none⟩=some (.int .i64 440):=O7.err;have eR9:World.cell? X24 ⟨g9,10,none⟩=some (.int .i64 6):=O9.err;refine rgs 29 [some 80,some 81,some 82,some 83,some 84,some 85,some 86,some 87,some 88,some 89,some 90,some 91,some 92,some 93,some 94,some 95,some 96,some 97,some 98,some 99,some 100,some 101,some 102,some 103,some 104,some 105,some 106,some 107,some 0] [IsP g7 0,IsP g7 10,iV 440,IsV (.bool true),IsV (.bool true),IsP g9 0,IsP g9 10,iV 6,IsV (.bool true),IsV (.bool true),IsV (.bool true),IsP g9 11,IsV (.slice gn nn cn),IsS1 (⟨#[104,58,55]⟩),IsV (.bool true),IsV (.bool true),IsV (.bool true),IsP g11 0,IsVh (.ok ⟨12,12,true⟩) [.int .i64 2],IsV (.bool true),IsV (.bool true),IsV (.bool true),IsP g11 0,IsP g11 9,IsV (.slice gi ni ci),IsI1 2,IsV (.bool true),IsV (.bool true),IsV (.bool true)] [] ?_ ?_
 ·refine Rc (fa (xO g7) (qB 7)) ?_;refine Rc (fa (fa_Vl3 g7) (qA (fP:=IsP g7 0) 0 80)) ?_;refine Rc (lv (fP:=iV 440) _ (λw' e=>ld_e w' _ _ (e.cell eR7)) (qA 1 81) (λ_ _=>rfl)) ?_;refine Rc (bn (r:=.bool true) (qA (fP:=iV 440) 2 82) qE (hr:=λw=>by go_simp)) ?_;refine Rc (mv (qA (fP:=IsV (.bool true)) 3 83)) ?_;refine RcG 4 84 true (fa (xO g9) (qB 9)) ?_;refine RcG 4 84 true (fa (fa_Vl3 g9) (qA (fP:=IsP g9 0) 5 85)) ?_;refine RcG 4 84 true (lv (fP:=iV 6) _ (λw' e=>ld_e w' _ _ (e.cell eR9)) (qA 6 86) (λ_ _=>rfl)) ?_;refine RcG 4 84 true (bn (r:=.bool true) (qA (fP:=iV 6) 7 87) qE (hr:=λw=>by go_simp)) ?_;refine Rc (pk (qA (fP:=IsV (.bool true)) 4 84) (qA (fP:=IsV (.bool true)) 8 88)) ?_;refine Rc (mv (qA (fP:=IsV (.bool true)) 9 89)) ?_;refine RcG 10 90 true (fa (fa_Out1 g9) (qB 9)) ?_;refine RcG 10 90 true (lv (fP:=IsV (.slice gn nn cn)) _ (λw' e=>ld_aStr w' _ _ (e.cell cN1)) (qA 11 91) (λ_ _=>rfl)) ?_;refine RcG 10 90 true bsS1 ?_
  refine RcG 10 90 true (cl (en func24) rfl rfl za za λv a w2 hE hd hf=>by
    have e0:(IsV (.slice gn nn cn)) (a.eval (.tmp 92)) w2:=((qA (fP:=IsV (.slice gn nn cn)) 12 92):Od _ _ _ _ _ _ _ _).out v a w2 hE hd hf;have e1:(IsS1 (⟨#[104,58,55]⟩)) (a.eval (.tmp 93)) w2:=((qA (fP:=IsS1 (⟨#[104,58,55]⟩)) 13 93):Od _ _ _ _ _ _ _ _).out v a w2 hE hd hf;simp only[List.map_toArray,List.map_cons,List.map_nil];rw[(e0:a.eval (.tmp 92)=_)]
    exact(sameS_t (l:= [(⟨#[104,58,55]⟩:ByteArray).data.toList]) (by have h9:=cN2.ext hE;rw[<-encB]at h9;exact h9) (s1_rw e1) (by simp))) ?_
  refine Rc (pk (qA (fP:=IsV (.bool true)) 10 90) (qA (fP:=IsV (.bool true)) 14 94)) ?_;refine Rc (mv (qA (fP:=IsV (.bool true)) 15 95)) ?_;refine RcG 16 96 true (fa (xO g11) (qB 11)) ?_;refine RcG 16 96 true (ldVh O11 (qA (fP:=IsP g11 0) 17 97)) ?_
  refine RcG 16 96 true (cl (en func38) rfl rfl za za λv a w2 hE hd hf=>by
    have e0:(IsVh (.ok ⟨12,12,true⟩) [.int .i64 2]) (a.eval (.tmp 98)) w2:=((qA (fP:=IsVh (.ok ⟨12,12,true⟩) [.int .i64 2]) 18 98):Od _ _ _ _ _ _ _ _).out v a w2 hE hd hf;simp only[List.map_toArray,List.map_cons,List.map_nil]
    exact is_x e0 dcx dcx) ?_
  refine Rc (pk (qA (fP:=IsV (.bool true)) 16 96) (qA (fP:=IsV (.bool true)) 19 99)) ?_;refine Rc (mv (qA (fP:=IsV (.bool true)) 20 100)) ?_;refine RcG 21 101 true (fa (xO g11) (qB 11)) ?_;refine RcG 21 101 true (fa (fa_Vl2 g11) (qA (fP:=IsP g11 0) 22 102)) ?_;refine RcG 21 101 true (lv (fP:=IsV (.slice gi ni ci)) _ (λw' e=>ld_ai w' _ _ (e.cell cI1)) (qA 23 103) (λ_ _=>rfl)) ?_;refine RcG 21 101 true bsI1 ?_
  refine RcG 21 101 true (cl (en func44) rfl rfl za za λv a w2 hE hd hf=>by
    have e0:(IsV (.slice gi ni ci)) (a.eval (.tmp 104)) w2:=((qA (fP:=IsV (.slice gi ni ci)) 24 104):Od _ _ _ _ _ _ _ _).out v a w2 hE hd hf;have e1:(IsI1 2) (a.eval (.tmp 105)) w2:=((qA (fP:=IsI1 2) 25 105):Od _ _ _ _ _ _ _ _).out v a w2 hE hd hf;simp only[List.map_toArray,List.map_cons,List.map_nil];rw[(e0:a.eval (.tmp 104)=_)]
    exact(sameI_t (l:= [2]) (cI2.ext hE) (i1_rw e1) (by simp))) ?_
  refine Rc (pk (qA (fP:=IsV (.bool true)) 21 101) (qA (fP:=IsV (.bool true)) 26 106)) ?_;refine Rc (mv (qA (fP:=IsV (.bool true)) 27 107)) ?_;exact rn0
 intro v X25 e1 hZ _;simp only[lxE,Nat.reduceAdd];rw[show v 28=.bool true from hZ 28 dcx];clear hZ;replace E:=E.trans e1;replace B1:=B1.ext e1;replace hx1:=IsNe.stb _ _ _ _ e1 hx1;replace B2:=B2.ext e1;replace hx2:=IsNe.stb _ _ _ _ e1 hx2;replace B8:=B8.ext e1;replace hx8:=IsNe.stb _ _ _ _ e1 hx8;replace O3:=O3.ext e1;replace O4:=O4.ext e1;replace O5:=O5.ext e1;replace O6:=O6.ext e1;replace O7:=O7.ext e1;replace O9:=O9.ext e1;replace O11:=O11.ext e1;clear e1;refine jL ?_;go_wp2_with fail
 go_ret
 exact⟨_,rfl,E,rfl⟩
end
end Go.Proofs.YtkeikfekkdplgaaGreatDoor
