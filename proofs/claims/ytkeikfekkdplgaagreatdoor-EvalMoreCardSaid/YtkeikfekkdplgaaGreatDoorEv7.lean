/- Lemmas. -/
import Derived.Test.YtkeikfekkdplgaaGreatDoorEv6
namespace Go.Proofs.YtkeikfekkdplgaaGreatDoor
open Go Go.RowKit
open Go.Proofs.Tryz
theorem jp{P:Prop}(h:P:=by exact fa (jA g7) (qB 7)):P:=h
theorem jq{P:Prop}(h:P:=by exact lv (.agg vs.toArray) (λX e=>ld_Nd HV.out.1 (λj v hj=>(S.rm.trans (Rm.ext e)).cell (HV.out.2.1 j v hj) (.inl HM.out.2.2))) (fP:=IsV (.agg vs.toArray)) (qA 3 46) (λ_ _=>rfl)):P:=h
theorem jy{P:Prop}(h:P:=by exact bn (r:=.int .i64 (next+1)) (qC 1 33) qF (hr:=λw=>by have hx9:=HNW.out;go_simp)):P:=h
theorem yi{P:Prop}(h:P:=by exact ixq (p:=.slice (some ⟨g,o,none⟩) mm cp) (u:=.int .i64 0) (r:=.pointer (some ⟨g,o,none⟩)) (λw=>ia_Nd0 HM.out.1 w) (qA 2 45) qF):P:=h
theorem yw{P:Prop}(h:P:=by exact mv (qB 2)):P:=h
theorem xa{P:Prop}(h:P:=by exact fa (fa_Nd5 w.heap.size) (qB 4)):P:=h
theorem xb{P:Prop}(h:P:=by exact fa (fa_Nd1 w.heap.size) (qB 4)):P:=h
theorem zah{P:Prop}(h:P:=by exact fa (fa_Nd6 w.heap.size) (qB 4)):P:=h
theorem zau{P:Prop}(h:P:=by exact bn (r:=.bool b1) (qC 1 21) (qC 3 23) (hr:=λw=>by have hx9:=HB1.out;go_simp)):P:=h
set_option maxRecDepth 100000
set_option maxHeartbeats 16000000
def IsIf(b:Bool)(fP:Value->World->Prop):Value->World->Prop:=λx w=>bif b then fP x w else x=undef
theorem IsIf.stb{b:Bool}{fP:Value->World->Prop}(h:Stb fP):Stb (IsIf b fP):=λx w w' e k=>by
 cases b
 ·exact k
 ·exact h x w w' e k
instance {b:Bool} {fP:Value->World->Prop} [StbC fP]:StbC (IsIf b fP):=⟨IsIf.stb StbC.out⟩
section
variable {P:Program} {ops:Array Oper} {Q:Exit->Act->World->Prop} {ds:List (Option Tmp)} {a0:Act} {w0:World} {L:List (Value->World->Prop)} {boxes:List Nat} {i k:Nat} {o:Oper} {os:List Oper}
theorem RcB(g t:Nat)(b pol:Bool)(h:b=pol->Ok P ops Q ds a0 w0 L boxes i o)(hs:RgAll P .any ops Q ds a0 w0 L boxes (i+1) k os)(hg:o.guard=some (g,pol):=by rfl)(hdst:qR ops g=some t:=by kernel_rfl)(h1:ds[g]? =some (some t):=by kernel_rfl)(h2:(ds.drop (g+1)).contains (some t)=false:=by kernel_rfl)(h3:decide (t<a0.tmps.size)=true:=by kernel_rfl)(hu:(ups .any ops i).contains g=true:=by kernel_rfl)
  (hL:L.getD g (λ_ _=>True)=IsV (.bool b):=by kernel_rfl) (hb:boxes.contains i=false:=by kernel_rfl) (hi:b=(!pol)->L.getD i (λ_ _=>True)=IsV undef:=by intro h;subst h;kernel_rfl):RgAll P .any ops Q ds a0 w0 L boxes i (k+1) (o ::os):=by
 refine⟨?_,hs⟩;by_cases hbp:b=pol
 ·have hL':L.getD g (λ_ _=>True)=IsV (.bool pol):=by rw[hL,hbp]
  exact RgL.mkG g t pol hg hdst h1 h2 h3 hu (λ_ _ h=>by rw[hL']at h;exact h) (h hbp).out
 ·have hbn:b= !pol:=by cases b <;> cases pol <;> simp_all
  have hL':L.getD g (λ_ _=>True)=IsV (.bool (!pol)):=by rw[hL,hbn]
  exact RgL.mkN g t (!pol) (by rw[hg,Bool.not_not]) hdst h1 h2 h3 hu (λ_ _ h=>by rw[hL']at h;exact h) hb (λ_=>by rw[hi hbn];exact rfl)
theorem un{x:Operand}{u:UnOp}{T:Nat}{p r:Value}(hx:Od ops ds a0 w0 L i x (IsV p))(ho:o.op=.unOp u T x:=by rfl)(hr:∀w,Sem.run P (Op.unary u p) w=.ok r w)(hi:L.getD i (λ_ _=>True)=IsV r:=by kernel_rfl)(hb:boxes.contains i=false:=by kernel_rfl):Ok P ops Q ds a0 w0 L boxes i o:=
 Ok.of hb λv a w hE hd hf=>by
  have h1:a.eval x=p:=hx.out v a w hE hd hf;refine⟨r,?_,by rw[hi];exact rfl⟩;have:=hr w;unfold execOp;rw[ho];dsimp only;rw[h1];simp[this]
theorem pkA{c y:Operand}{b b2 r:Bool}(hc:Od ops ds a0 w0 L i c (IsV (.bool b)))(hy:b=true->Od ops ds a0 w0 L i y (IsV (.bool b2)))(hr:(b&&b2)=r)(ho:o.op=.pick c y (.const (.bool false)):=by rfl)(hi:L.getD i (λ_ _=>True)=IsV (.bool r):=by kernel_rfl)(hb:boxes.contains i=false:=by kernel_rfl):Ok P ops Q ds a0 w0 L boxes i o:=
 Ok.of hb λv a w hE hd hf=>by
  have h1:a.eval c=.bool b:=hc.out v a w hE hd hf;refine⟨.bool r,?_,by rw[hi];exact rfl⟩;unfold execOp;rw[ho];dsimp only;rw[h1];cases b
  ·subst hr;simp[asBool];rfl
  ·have h2:a.eval y=.bool b2:=(hy rfl).out v a w hE hd hf;rw[h2];subst hr;simp[asBool]
end
set_option maxRecDepth 100000
theorem st_Tr:StV prog 205 6:=by
 intro w g vs us h1 h2 hs B
 match vs,h1 with
 | [v0,v1,v2,v3,v4,v5],_=>
  match us,h2 with
  | [u0,u1,u2,u3,u4,u5],_=>
   simp only[List.all_cons,List.all_nil,Bool.and_true,Bool.and_eq_true]at hs;obtain⟨s0,s1,s2,s3,s4,s5⟩:=hs;have r0:=λw a m=>run_store prog w a u0 m s0;have r1:=λw a m=>run_store prog w a u1 m s1;have r2:=λw a m=>run_store prog w a u2 m s2;have r3:=λw a m=>run_store prog w a u3 m s3;have r4:=λw a m=>run_store prog w a u4 m s4;have r5:=λw a m=>run_store prog w a u5 m s5
   have c0:=B.c 0 _ rfl;have c1:=B.c 1 _ rfl;have c2:=B.c 2 _ rfl;have c3:=B.c 3 _ rfl;have c4:=B.c 4 _ rfl;have c5:=B.c 5 _ rfl;have f0:=B.f 0;have f1:=B.f 1;have f2:=B.f 2;have f3:=B.f 3;have f4:=B.f 4;have f5:=B.f 5;clear B s0 s1 s2 s3 s4 s5;simp only[xD]
   go_simp
theorem ld_Tr:LdV prog 205 6:=by
 intro w g vs h1 B
 match vs,h1 with
 | [v0,v1,v2,v3,v4,v5],_=>
  have c0:=B.c 0 _ rfl;have c1:=B.c 1 _ rfl;have c2:=B.c 2 _ rfl;have c3:=B.c 3 _ rfl;have c4:=B.c 4 _ rfl;have c5:=B.c 5 _ rfl;clear B
  go_simp
theorem ld_Nd{w:World}{g o:Nat}{vs:List Value}(hl:vs.length=8)(hc:∀j v,vs[j]? =some v->World.cell? w ⟨g,o+j,none⟩=some v):(Instr.loadAt 31 (.pointer (some ⟨g,o,none⟩))).run prog w=.ok (.agg vs.toArray) w:=by
 match vs,hl with
 | [v0,v1,v2,v3,v4,v5,v6,v7],_=>
  have c0:=hc 0 _ rfl;have c1:=hc 1 _ rfl;have c2:=hc 2 _ rfl;have c3:=hc 3 _ rfl;have c4:=hc 4 _ rfl;have c5:=hc 5 _ rfl;have c6:=hc 6 _ rfl;have c7:=hc 7 _ rfl;clear hc;rw[Nat.add_zero]at c0
  go_simp
theorem nwT{a b c d e:Int}{f:Bool}:∀v∈ [Value.int .i64 a,.int .i64 b,.int .i64 c,.int .i64 d,.int .i64 e,.bool f],NoWord v:=by
 intro v hv;simp only[List.mem_cons,List.not_mem_nil,or_false]at hv;rcases hv with rfl|rfl|rfl|rfl|rfl|rfl
 ·exact NoWord.int64 _
 ·exact NoWord.int64 _
 ·exact NoWord.int64 _
 ·exact NoWord.int64 _
 ·exact NoWord.int64 _
 ·exact NoWord.bool _
theorem fa_Nd0(g:Nat)(w:World):(Instr.fieldAt 31 (.pointer (some ⟨g,0,none⟩)) 0).run prog w=.ok (.pointer (some ⟨g,0,none⟩)) w:=by go_simp
theorem fa_Nd1(g:Nat)(w:World):(Instr.fieldAt 31 (.pointer (some ⟨g,0,none⟩)) 1).run prog w=.ok (.pointer (some ⟨g,1,none⟩)) w:=by go_simp
theorem fa_Nd2(g:Nat)(w:World):(Instr.fieldAt 31 (.pointer (some ⟨g,0,none⟩)) 2).run prog w=.ok (.pointer (some ⟨g,2,none⟩)) w:=by go_simp
theorem fa_Nd3(g:Nat)(w:World):(Instr.fieldAt 31 (.pointer (some ⟨g,0,none⟩)) 3).run prog w=.ok (.pointer (some ⟨g,3,none⟩)) w:=by go_simp
theorem fa_Nd4(g:Nat)(w:World):(Instr.fieldAt 31 (.pointer (some ⟨g,0,none⟩)) 4).run prog w=.ok (.pointer (some ⟨g,5,none⟩)) w:=by go_simp
theorem fa_Nd5(g:Nat)(w:World):(Instr.fieldAt 31 (.pointer (some ⟨g,0,none⟩)) 5).run prog w=.ok (.pointer (some ⟨g,6,none⟩)) w:=by go_simp
theorem fa_Nd6(g:Nat)(w:World):(Instr.fieldAt 31 (.pointer (some ⟨g,0,none⟩)) 6).run prog w=.ok (.pointer (some ⟨g,7,none⟩)) w:=by go_simp
theorem fa_Tr0(g:Nat)(w:World):(Instr.fieldAt 205 (.pointer (some ⟨g,0,none⟩)) 0).run prog w=.ok (.pointer (some ⟨g,0,none⟩)) w:=by go_simp
theorem fa_Tr1(g:Nat)(w:World):(Instr.fieldAt 205 (.pointer (some ⟨g,0,none⟩)) 1).run prog w=.ok (.pointer (some ⟨g,1,none⟩)) w:=by go_simp
theorem fa_Tr2(g:Nat)(w:World):(Instr.fieldAt 205 (.pointer (some ⟨g,0,none⟩)) 2).run prog w=.ok (.pointer (some ⟨g,2,none⟩)) w:=by go_simp
theorem fa_Tr3(g:Nat)(w:World):(Instr.fieldAt 205 (.pointer (some ⟨g,0,none⟩)) 3).run prog w=.ok (.pointer (some ⟨g,3,none⟩)) w:=by go_simp
theorem jA(g:Nat)(w:World):(Instr.fieldAt 205 (.pointer (some ⟨g,0,none⟩)) 4).run prog w=.ok (.pointer (some ⟨g,4,none⟩)) w:=by go_simp
theorem fa_Tr5(g:Nat)(w:World):(Instr.fieldAt 205 (.pointer (some ⟨g,0,none⟩)) 5).run prog w=.ok (.pointer (some ⟨g,5,none⟩)) w:=by go_simp
theorem fa_Mc4(g:Nat)(w:World):(Instr.fieldAt 154 (.pointer (some ⟨g,0,none⟩)) 4).run prog w=.ok (.pointer (some ⟨g,4,none⟩)) w:=by go_simp
theorem al_Tr(w:World):(Instr.alloc 205 true (.tuple #[])).run prog w=.ok (.pointer (some ⟨w.heap.size,0,none⟩)) (w.alloc (.cells [.int .i64 0,.int .i64 0,.int .i64 0,.int .i64 0,.int .i64 0,.bool false].toArray 205)):=by go_simp
section
variable {ops:Array Oper} {Q:Exit->Act->World->Prop} {ds:List (Option Tmp)} {a0:Act} {w0:World} {L:List (Value->World->Prop)} {boxes:List Nat} {i k:Nat} {o:Oper} {os:List Oper}
theorem bdT{x y z:Operand}{p q r:Int}(hx:Od ops ds a0 w0 L i x (iV p))(hy:Od ops ds a0 w0 L i y (iV q))(hz:Od ops ds a0 w0 L i z (iV r))(ho:o.op=.build 205 #[(2,x),(3,y),(4,z),(5,.const (.bool true))]:=by rfl)
  (hi:L.getD i (λ_ _=>True)=IsV (.agg #[.int .i64 0,.int .i64 0,.int .i64 p,.int .i64 q,.int .i64 r,.bool true]):=by kernel_rfl) (hb:boxes.contains i=false:=by kernel_rfl):Ok prog ops Q ds a0 w0 L boxes i o:=
 Ok.of hb λv a w hE hd hf=>by
  have h1:a.eval x=_:=hx.out v a w hE hd hf;have h2:a.eval y=_:=hy.out v a w hE hd hf;have h3:a.eval z=_:=hz.out v a w hE hd hf;have hr:(Instr.build 205 #[(2,.int .i64 p),(3,.int .i64 q),(4,.int .i64 r),(5,.bool true)]).run prog w=.ok (.agg #[.int .i64 0,.int .i64 0,.int .i64 p,.int .i64 q,.int .i64 r,.bool true]) w:=zy
  refine⟨_,?_,by rw[hi];exact rfl⟩;unfold execOp;rw[ho];dsimp only;simp only[List.map_toArray,List.map_cons,List.map_nil];rw[h1,h2,h3,show a.eval (.const (.bool true))=.bool true from rfl];simp[hr]
end
structure SIv {σ:Type} (m:Mc) (J:σ->World->Prop) (w:World) (us cs:List Value) (g7:Nat) (st:Mst σ) (W:World):Prop where
 rm:Rm m.h w W
 mat:MAt m st.1 W
 j:J st.2 W
 b4:Bk W w.heap.size us
 b6:Bk W (w.heap.size+1) [.int .i64 0,.int .i64 0,.int .i64 0,.int .i64 0,.int .i64 0,.bool false]
 b7:cs= []\/Bk W g7 cs
 h7:cs= []\/w.heap.size+2<=g7
 hh:m.h+3<=w.heap.size
theorem MapInv.ext{σ:Type}{h:Nat}{J:σ->World->Prop}(hJ:MapInv h J){s:σ}{w w':World}(hj:J s w)(e:Ext w w')(hh:h+3<=w.heap.size):J s w':=hJ s w w' hj (Below.mono e zb) (e.block h zb) (e.block (h+1) zb)
theorem MapInv.only{σ:Type}{h g:Nat}{J:σ->World->Prop}(hJ:MapInv h J){s:σ}{w w':World}(hj:J s w)(e:OnlyB g w w')(hg:h+2<=g):J s w':=hJ s w w' hj ⟨e.os,e.tape,e.output,by rw[e.size];exact jJ _,λk hk=>e.block k zb⟩ (e.block h zb) (e.block (h+1) zb)
section
variable {σ:Type} {m:Mc} {J:σ->World->Prop} {w:World} {us cs:List Value} {g7:Nat} {st:Mst σ} {W W':World}
theorem SIv.ext(S:SIv m J w us cs g7 st W)(hJ:MapInv m.h J)(e:Ext W W'):SIv m J w us cs g7 st W':=
 ⟨S.rm.trans (Rm.ext e),S.mat.ext e,hJ.ext S.j e (jK S.hh S.rm.size),S.b4.ext e,S.b6.ext e,S.b7.imp id (λb=>b.ext e),S.h7,S.hh⟩
theorem SIv.only(S:SIv m J w us [] 0 st W)(hJ:MapInv m.h J)(hh:m.h+3<=w.heap.size){g:Nat}(O:OnlyB g W W')(hg:w.heap.size+2<=g):SIv m J w us [] 0 st W':=
 ⟨O.rm S.rm zb,⟨O.bk S.mat.bk zb,S.mat.fit⟩,hJ.only S.j O zb,O.bk S.b4 zb,O.bk S.b6 zb,.inl rfl,.inl rfl,hh⟩
theorem SIv.with7(S:SIv m J w us [] 0 st W)(hg:w.heap.size+2<=g7)(B:Bk W g7 cs):SIv m J w us cs g7 st W:=⟨S.rm,S.mat,S.j,S.b4,S.b6,.inr B,.inr hg,S.hh⟩
theorem SIv.start(hJ:MapInv m.h J)(hh:m.h+3<=w.heap.size)(hM:MAt m st.1 w)(hj:J st.2 w)(us:Array Value)(T T':TypeId):
  SIv m J w us.toList [] 0 st ((w.alloc (.cells us T)).alloc (.cells #[.int .i64 0,.int .i64 0,.int .i64 0,.int .i64 0,.int .i64 0,.bool false] T')):=by
 have e:Ext w ((w.alloc (.cells us T)).alloc (.cells #[.int .i64 0,.int .i64 0,.int .i64 0,.int .i64 0,.int .i64 0,.bool false] T')):=((Ext.refl w).alloc _).alloc _;exact⟨Rm.ext e,hM.ext e,hJ.ext hj e hh,(Bk.new w us T).ext ((Ext.refl _).alloc _),Bk.newE _ _ zd _ _,.inl rfl,.inl rfl,hh⟩
end
section
variable {σ:Type} {m:Mc} {J:σ->World->Prop} {w:World} {us cs cs':List Value} {u:Value} {g7 g8 l:Nat} {s:σ} {st st':Mst σ} {W W':World}
theorem SIv.k7(S:SIv m J w us (u ::cs) g7 st W):Bk W g7 (u ::cs):=S.b7.resolve_left zd
theorem SIv.p7(S:SIv m J w us (u ::cs) g7 st W):w.heap.size+2<=g7:=S.h7.resolve_left zd
theorem SIv.upd7(S:SIv m J w us (u ::cs) g7 st W)(hJ:MapInv m.h J)(B:Bk W' g7 cs')(O:OnlyB g7 W W'):SIv m J w us cs' g7 st W':=by
 have h7:=S.p7;have hh:=S.hh;exact⟨O.rm S.rm zb,⟨O.bk S.mat.bk zb,S.mat.fit⟩,hJ.only S.j O zb,O.bk S.b4 zb,O.bk S.b6 zb,.inr B,.inr h7,hh⟩
theorem SIv.updM(S:SIv m J w us (u ::cs) g7 (l+1,s) W)(hJ:MapInv m.h J)(B:Bk W' (m.h+2) (m.cells l))(O:OnlyB (m.h+2) W W'):SIv m J w us (u ::cs) g7 (l,s) W':=by
 have h7:=S.p7;have hh:=S.hh;have hf:=S.mat.fit;exact⟨S.rm.trans O.own,⟨B,by simp only at hf ⊢;omega⟩,hJ.only S.j O zb,O.bk S.b4 zb,O.bk S.b6 zb,.inr (O.bk S.k7 zb),.inr h7,hh⟩
theorem SIv.other(S:SIv m J w us (u ::cs) g7 st W)(hJ:MapInv m.h J)(O:OnlyB g8 W W')(h1:w.heap.size+2<=g8)(h2:g7≠g8):SIv m J w us (u ::cs) g7 st W':=by
 have h7:=S.p7;have hh:=S.hh;exact⟨O.rm S.rm zb,⟨O.bk S.mat.bk zb,S.mat.fit⟩,hJ.only S.j O zb,O.bk S.b4 zb,O.bk S.b6 zb,.inr (O.bk S.k7 h2),.inr h7,hh⟩
theorem SIv.call(S:SIv m J w us (u ::cs) g7 st W)(R:Rm m.h W W')(M:MAt m st'.1 W')(j:J st'.2 W'):SIv m J w us (u ::cs) g7 st' W':=by
 have h7:=S.p7;have hh:=S.hh;exact⟨S.rm.trans R,M,j,R.bk S.b4 zb,R.bk S.b6 zb,.inr (R.bk S.k7 zb),.inr h7,hh⟩
theorem SIv.last(S:SIv m J w us (u ::cs) g7 st W)(hJ:MapInv m.h J)(O:OnlyB (w.heap.size+1) W W'):Rm m.h w W'/\MAt m st.1 W'/\J st.2 W':=by
 have hh:=S.hh;exact⟨O.rm S.rm zb,⟨O.bk S.mat.bk zb,S.mat.fit⟩,hJ.only S.j O zb⟩
end
theorem srch_stop{σ:Type}{f:Int->Mst σ->Res Kn×Mst σ}{fst:Bool}{hi:Int}{t:Tr}{st:Mst σ}:∀ {k:Nat},¬(t.next<=hi/\0<st.1)->xO f fst hi k t st=(.ok (t.stop hi),st)
 |0,_=>rfl
 |k+1,h=>by simp only[xO];rw[if_neg h]
theorem ia_Nd0{g o n c:Nat}(h:1<=n)(w:World):(Instr.indexAt 29 (.slice (some ⟨g,o,none⟩) n c) (.int .i64 0)).run prog w=.ok (.pointer (some ⟨g,o,none⟩)) w:=by
 have h2:(0:Int)<(n:Int):=zb
 have h3:¬n=0:=zb
 go_simp
theorem ia_Nd1{g o n c:Nat}(h:2<=n)(w:World):(Instr.indexAt 29 (.slice (some ⟨g,o,none⟩) n c) (.int .i64 1)).run prog w=.ok (.pointer (some ⟨g,o+8,none⟩)) w:=by
 have h2:(1:Int)<(n:Int):=zb
 go_simp
theorem IsEnv.clip{h:Nat}{env:Env}{ao:Option Addr}{c:Nat}{w:World}(H:IsEnv h env (.slice ao env.length c) w):IsEnv h env (.slice ao env.length env.length) w:=by
 obtain⟨h0,ao',cp,e1,h2,h3,h4,h5⟩:=H;injection e1 with e1 e2 e3;subst e1;exact⟨h0,ao,_,rfl,by omega,jJ _,λhe=>by subst he;exact⟨(h4 rfl).1,rfl⟩,h5⟩
theorem ev_at{v:Nat->Value}{ds:List (Option Tmp)}{a0:Act}(j t:Nat){x:Value}(hv:v j=x)(h1:ds[j]? =some (some t):=by kernel_rfl)(h2:(ds.drop (j+1)).contains (some t)=false:=by kernel_rfl)(h3:decide (t<a0.tmps.size)=true:=by kernel_rfl):(qZ v a0 0 ds).eval (.tmp t)=x:=by
 rw[eval_tmp];exact(Fr.of ds a0 v).val j t x hv h1 h2 h3
theorem wp_call3{P:Program}{Q:Exit->Act->World->Prop}{o:Oper}{f:FuncId}{c:Call}{x y z:Operand}{u1 u2 u3:Value}{a:Act}{w:World}{K:Act->World->Prop}{R:Ending->World->Prop}(he:∀args w,(callFunc f args).run P w=.ok (.enter f args) w)(hx:a.eval x=u1)(hy:a.eval y=u2)(hz:a.eval z=u3)
  (h:Calls P f #[u1,u2,u3] w R) (h1:∀v w',R (.returned v) w'->K (a.put o.dst v) w') (h2:∀ch w',R (.panicked ch) w'->Q (.panic ch) a w') (h3:∀w',¬R .outgrown w')
  (ho:o.op=.call c:=by rfl) (hc:c.callee=.value (.func f):=by rfl) (ha:c.args= #[x,y,z]:=by rfl):Oper.wp P o a w K Q:=by
 have hr:(execOp a.eval o).run P w=.ok (.enter f (c.args.map a.eval)) w:=by
  unfold execOp;rw[ho];dsimp only;unfold resolve;rw[hc];simp[invoke,he,Deferred.ofValue,show a.eval (.func f)=.func (.func f) #[] #[]from rfl]
 unfold Oper.wp;rw[hr,Oper.upon_enter,ha,show(#[x,y,z]:Array Operand).map a.eval= #[a.eval x,a.eval y,a.eval z]by simp,hx,hy,hz];refine jC h ?_;intro e w2 hR;cases e with
 |returned v=>exact h1 v w2 hR
 |panicked ch=>exact h2 ch w2 hR
 |outgrown=>exact absurd hR (h3 w2)
def SrP{σ:Type}(m:Mc)(J:σ->World->Prop)(w:World)(r:Res Tr×Mst σ):Ending->World->Prop:=λe w'=>
 Rm m.h w w'/\MAt m r.2.1 w'/\J r.2.2 w'/\match r.1 with
  | .ok t=>e=.returned (.agg #[.int .i64 t.sure,.int .i64 t.opn,.int .i64 t.first,.int .i64 t.last,.int .i64 t.next,.bool t.fin])
  | .error n=>e=.panicked (pan n)
theorem search_f{σ:Type}(M:Mem σ)(m:Mc)(J:σ->World->Prop)(hJ:MapInv m.h J)(fst:Bool)(x:ByteArray)(lo hi:Int)(b:Ex)(env:Env)(opc kk:Int)(s0:Bool)(a0:Option Addr)(n0 c0 g o mm cp:Nat)(vs:List Value)(st0:Mst σ)(ve:Value)(w:World)(R:Res Tr×Mst σ)
  (HF:Hid ((opc==10)=fst)) (HBD:Hid (-1099511627776<=lo/\lo<=hi+1/\hi<=1099511627776)) (HL:Hid (env.length<1000000)) (HM:Hid (1<=mm/\mm<=9223372036854775807/\g<m.h)) (HV:Hid (vs.length=8/\(∀j v,vs[j]? =some v->World.cell? w ⟨g,o+j,none⟩=some v)/\IsNd m.h b vs w)) (HE:Hid (IsEnv m.h env ve w))
  (HC:Hid (∀(nx:Int) (st:Mst σ) (ve:Value) (w:World),lo<=nx->nx<=hi->IsEnv m.h (env++ [(x,nx)]) ve w->IsNd m.h b vs w->MAt m st.1 w->J st.2 w->m.h+3<=w.heap.size->Calls prog 84 #[.pointer (some ⟨m.h+2,0,none⟩),.agg vs.toArray,ve] w (EvP m J w (ev M b (env++ [(x,nx)]) st))))
  (hM:MAt m st0.1 w) (hj:J st0.2 w) (hh:m.h+3<=w.heap.size) (HR:Hid (xO (λn st=>ev M b (env++ [(x,n)]) st) fst hi (hi+1-lo).toNat ⟨0,0,hi+1,hi+1,lo,true⟩ st0=R)):
  Calls prog 113 #[.pointer (some ⟨m.h+2,0,none⟩),.agg #[.int .i64 opc,.string x,.int .i64 kk,.bool s0,.slice a0 n0 c0,.int .i64 lo,.int .i64 hi,.slice (some ⟨g,o,none⟩) mm cp],ve] w (SrP m J w R):=by
 have HW1:=hid (show IntKind.i64.wrap (hi+1)=hi+1 by have:=HBD.out;simp only[IntKind.wrap_i64];omega);obtain⟨W,hW,S⟩:∃W,W=(w.alloc (.cells #[.int .i64 opc,.string x,.int .i64 kk,.bool s0,.slice a0 n0 c0,.int .i64 lo,.int .i64 hi,.slice (some ⟨g,o,none⟩) mm cp] 31)).alloc (.cells #[.int .i64 0,.int .i64 0,.int .i64 0,.int .i64 0,.int .i64 0,.bool false] 205)/\SIv m J w [.int .i64 opc,.string x,.int .i64 kk,.bool s0,.slice a0 n0 c0,.int .i64 lo,.int .i64 hi,.slice (some ⟨g,o,none⟩) mm cp] [] 0 st0 W:=⟨_,rfl,SIv.start hJ hh hM hj _ _ _⟩;have hWs:=S.b6.lt;go_enter func113,ntmps113;go_upto_region 1 with fail;rw[<-hW];clear hW;refine rgs 10 [some 11,some 12,some 13,some 14,some 15,some 16,some 17,some 18,some 19,some 7] [IsP (w.heap.size) 6,iV hi,iV (hi+1),IsP (w.heap.size) 6,iV hi,iV (hi+1),IsP (w.heap.size) 5,iV lo,IsV (.agg #[.int .i64 0,.int .i64 0,.int .i64 (hi+1),.int .i64 (hi+1),.int .i64 lo,.bool true]),IsNb W.heap.size [.int .i64 0,.int .i64 0,.int .i64 0,.int .i64 0,.int .i64 0,.bool false]] [] ?_ ?_
 ·refine Rc xa ?_;refine Rc (lvC 6 S.b4 xF (qA 0 11)) ?_;refine Rc (bn (r:=.int .i64 (hi+1)) (qC 1 12) qF (hr:=λw=>by have hx9:=HW1.out;go_simp)) ?_;refine Rc xa ?_;refine Rc (lvC 6 S.b4 xF (qA 3 14)) ?_;refine Rc (bn (r:=.int .i64 (hi+1)) (qC 4 15) qF (hr:=λw=>by have hx9:=HW1.out;go_simp)) ?_;refine Rc (fa (fa_Nd4 w.heap.size) (qB 4)) ?_;refine Rc (lvC 5 S.b4 xF (qA 6 17)) ?_;refine Rc (bdT (qC 2 13) (qC 5 16) (qC 7 18)) ?_;refine Rc (alB al_Tr (jJ _)) ?_;exact rn0
 intro v X1 e1 hZ _;replace S:=S.ext hJ e1;obtain⟨g7,hv9,hg7,B7⟩:=hZ 9 dcx;simp only[lxE,Nat.reduceAdd];rw[hv9,show v 8=.agg #[.int .i64 0,.int .i64 0,.int .i64 (hi+1),.int .i64 (hi+1),.int .i64 lo,.bool true]from hZ 8 dcx];clear hZ e1;clear hv9;refine stL (λK hK=>?_);refine qX (us:= [.int .i64 0,.int .i64 0,.int .i64 (hi+1),.int .i64 (hi+1),.int .i64 lo,.bool true]) B7 st_Tr rfl rfl nwT (λX2 B7' O=>hK _ _ ?_);refine jE ?_;have hw7:w.heap.size+2<=g7:=zb
 replace S:=S.only hJ hh O hw7;replace S:=S.with7 hw7 B7';clear B7 B7' O;go_wp2_with fail;have S0:=hid S;clear S;obtain⟨f0,hf0⟩:∃f,(hi+1-lo).toNat=f:=⟨_,rfl⟩
 go_loopg [] f0 (λgk wr=>∃(t:Tr) (st:Mst σ),t.next+gk=hi+1/\lo<=t.next/\(0<=t.sure/\0<=t.opn/\t.sure+t.opn<=t.next-lo/\lo<=t.first/\t.first<=hi+1/\t.last=hi+1)/\Hid (xO (λn st=>ev M b (env++ [(x,n)]) st) fst hi gk t st=R)/\Hid (SIv m J w [.int .i64 opc,.string x,.int .i64 kk,.bool s0,.slice a0 n0 c0,.int .i64 lo,.int .i64 hi,.slice (some ⟨g,o,none⟩) mm cp] [.int .i64 t.sure,.int .i64 t.opn,.int .i64 t.first,.int .i64 t.last,.int .i64 t.next,.bool t.fin] g7 st wr))
 case atStart=>exact⟨⟨0,0,hi+1,hi+1,lo,true⟩,st0,by show lo+_=_;have:=HBD.out;omega,Int.le_refl _,by have:=HBD.out;refine⟨?_,?_,?_,?_,?_,rfl⟩ <;>(show _<=_) <;> simp <;> omega,by rw[<-hf0];exact HR,S0⟩
 case round=>
  clear S0;obtain⟨t,st,hgk,hlo,hbd,HS,S⟩:=hrel;have S:=S.out;obtain⟨sure,opn,first,last,next,fin⟩:=t;obtain⟨left,s⟩:=st;simp only at hgk hlo hbd S;have HBB:=hid (jI hgk (jI hlo hbd));clear hgk hlo hbd;obtain⟨b1,hb1⟩:∃b,decide (next<=hi)=b:=⟨_,rfl⟩;have HB1:=hid hb1;obtain⟨b2,hb2⟩:∃b,decide (0<left)=b:=⟨_,rfl⟩;have HB2:=hid hb2;by_cases hgo:next<=hi/\0<left
  ·have HBR:=hid (show(b1&&b2)=true by rw[<-hb1,<-hb2,Bool.and_eq_true];simp only[jQ];exact hgo);obtain⟨l,rfl⟩:∃l,left=l+1:=⟨left-1,by omega⟩;obtain⟨k,rfl⟩:∃k,gk=k+1:=⟨gk-1,by have:=HBB.out;omega⟩;have hS:=HS.out;simp only[xO]at hS;rw[if_pos hgo,Nat.add_sub_cancel]at hS;have HGO:=hid hgo.1;have HWL:=hid (show IntKind.i64.wrap (l:Int)=(l:Int)by have:=S.mat.fit;simp only[IntKind.wrap_i64]at this ⊢;omega);have HNW:=hid (show IntKind.i64.wrap (next+1)=next+1 by have:=HBD.out;have:=HBB.out;simp only[IntKind.wrap_i64];omega);have HOW:=hid (show IntKind.i64.wrap (opn+1)=opn+1 by have:=HBD.out;have:=HBB.out;simp only[IntKind.wrap_i64];omega);have HUW:=hid (show IntKind.i64.wrap (sure+1)=sure+1 by have:=HBD.out;have:=HBB.out;simp only[IntKind.wrap_i64];omega);have HMN:=hid (show(if next<first then next else first)=min first next by rw[Int.min_def];split <;> split <;> omega);obtain⟨⟨res,l2,s2⟩,hres⟩:∃r,ev M b (env++ [(x,next)]) (l,s)=r:=⟨_,rfl⟩;rw[hres]at hS;have HRES:=hid hres;obtain rfl:b2=true:=by rw[<-hb2];exact decide_eq_true zb
   clear hb1 hb2 hgo hres HS;go_upto_region 2 with fail;refine rgs 12 (dR 20 12) [IsP g7 4,iV next,IsP (w.heap.size) 6,iV hi,IsV (.bool b1),IsV (.bool b1),IsIf b1 (IsP (m.h+2) 0),IsIf b1 (IsP (m.h+2) 0),IsIf b1 (IsP (m.h+2) 4),IsIf b1 (iV (((l+1:Nat)):Int)),IsIf b1 (IsV (.bool true)),IsV (.bool true)] [] ?_ ?_
   ·refine Rc jp ?_;refine Rc (lvC 4 S.k7 xF (qA 0 20)) ?_;refine Rc xa ?_;refine Rc (lvC 6 S.b4 xF (qA 2 22)) ?_;refine Rc zau ?_;refine Rc (mv (qA 4 24)) ?_;refine RcB 5 25 b1 true (λhb=>by subst hb;exact mv (qB 0)) ?_;refine RcB 5 25 b1 true (λhb=>by subst hb;exact nc (p:=⟨m.h+2,0,none⟩) (qA 6 26)) ?_;refine RcB 5 25 b1 true (λhb=>by subst hb;exact fa (fa_Mc4 (m.h+2)) (qA 7 27)) ?_;refine RcB 5 25 b1 true (λhb=>by subst hb;exact lvC 4 S.mat.bk xF (qA 8 28)) ?_;refine RcB 5 25 b1 true (λhb=>by subst hb;exact bn (r:=.bool true) (qA (fP:=iV (((l+1:Nat)):Int)) 9 29) qF (hr:=λw=>by have hx9:=HB2.out;go_simp)) ?_;refine Rc (pkA (b2:=true) (qC 5 25) (λhb=>by subst hb;exact qA 10 30) HBR.out) ?_;exact rn0
   intro v X2 e1 hZ _;replace S:=S.ext hJ e1;simp only[lxE,Nat.reduceAdd];rw[show v 11=.bool true from hZ 11 dcx];clear hZ e1;refine jE ?_;go_upto_region 4 with fail;refine rgs 7 (dR 36 7) [IsP (m.h+2) 0,IsP (m.h+2) 0,IsP (m.h+2) 4,iV ((l+1:Nat):Int),iV (l:Int),IsP (m.h+2) 0,IsP (m.h+2) 4] [] ?_ ?_
   ·refine Rc zt ?_;refine Rc (nc (p:=⟨m.h+2,0,none⟩) (qA 0 36)) ?_;refine Rc (fa (fa_Mc4 (m.h+2)) (qA 1 37)) ?_;refine Rc (lvC 4 S.mat.bk xF (qA 2 38)) ?_;refine Rc (bn (r:=.int .i64 (l:Int)) (qC 3 39) qF (hr:=λw=>by have hx9:=HWL.out;go_simp)) ?_;refine Rc (nc (p:=⟨m.h+2,0,none⟩) (qA 0 36)) ?_;refine Rc (fa (fa_Mc4 (m.h+2)) (qA 5 41)) ?_;exact rn0
   intro v X3 e1 hZ _;replace S:=S.ext hJ e1;simp only[lxE,Nat.reduceAdd];rw[show v 4=.int .i64 (l:Int)from hZ 4 dcx,show v 6=.pointer (some ⟨m.h+2,4,none⟩)from hZ 6 dcx];clear hZ e1;refine stL (λK hK=>?_);refine stCO 4 S.mat.bk (st_i (l:Int)) rfl (NoWord.int64 _) (λX_ BM O=>hK _ _ ?_);replace S:=S.updM hJ BM O;clear BM O hK K;refine jE ?_;go_upto_region 5 with fail;have hve:=HE.out;obtain⟨_,ao,cpe,rfl,he1,he2,he3,_⟩:=id hve;have HEC:=hid ((IsEnv.clip hve).rm S.rm)
   have HN0:=hid (λh:ao=none=>show env.length=0/\cpe=0 by
    by_cases hne:env= []
    ·exact⟨by rw[hne];rfl,(he3 hne).2⟩
    ·rename_i h5
     obtain⟨g',hg',_⟩:=h5 hne
     rw[h]at hg';cases hg')
   have hl7:=S.k7.lt;have h7:=S.p7;have hXm:=S.rm.size;obtain⟨B5,hB5⟩:∃n,X_.heap.size=n:=⟨_,rfl⟩;cases res with
   | error n=>
    refine rgC 18 [some 43,some 44,some 45,some 46,some 47,some 48,some 49,some 50,some 51,some 52,some 53,some 54,some 55,some 56,some 57,some 58,some 59,some 60,some 61,some 8] [IsP (m.h+2) 0,IsP (w.heap.size) 7,IsV (.slice (some ⟨g,o,none⟩) mm cp),IsP g o,IsV (.agg vs.toArray),IsV (.slice ao env.length cpe),IsV (.slice ao env.length cpe),iV ((env.length:Nat):Int),IsV (.slice ao env.length cpe),iV ((env.length:Nat):Int),IsV (.slice ao env.length env.length),IsP (w.heap.size) 1,IsV (.string x),IsP g7 4,iV next,IsV (.agg #[.string x,.int .i64 next]),IsOne x next,IsEnv m.h (env++ [(x,next)]),(λ_ _=>True),IsNb B5 [.bool false,.slice none 0 0,.bool false,.slice none 0 0,.bool false]] (Rm m.h) (λ_ _=>False) ?_ ?_ ?_ ?_ ?_ ?_ ?_ ?_
    ·refine Rc zt ?_;refine Rc zah ?_;refine Rc (lvC 7 S.b4 ld_Nds (qA 1 44)) ?_;refine Rc yi ?_;refine Rc jq ?_;refine Rc yw ?_;refine Rc yw ?_;refine Rc (lenV (qA (fP:=IsV (.slice ao env.length cpe)) 6 49)) ?_;refine Rc yw ?_;refine Rc (lenV (qA (fP:=IsV (.slice ao env.length cpe)) 8 51)) ?_;refine Rc (slV HN0.out he2 he1 (qA 5 48) (qA 7 50) (qA 9 52)) ?_;refine Rc xb ?_;refine Rc (lvC 1 S.b4 ld_str (qA 11 54)) ?_;refine Rc jp ?_;refine Rc (lvC 4 S.k7 xF (qA 13 56)) ?_;refine Rc (bdV (qC 12 55) (qC 14 57)) ?_;refine Rc (bsV (qC 15 58)) ?_;refine Rc (apV (by have:=S.hh;omega) HEC.out HL.out (qC 10 53) (qC 16 59)) ?_;exact rn0
    ·intro v X hE hd K hK;have h17:IsEnv m.h (env++ [(x,next)]) (v 17) X:=hd 17 dcx;have SX:=S.ext hJ hE
     refine wp_call3 (en func84) (u1:=.pointer (some ⟨m.h+2,0,none⟩)) (u2:=.agg vs.toArray) (u3:=v 17) (ev_at 0 43 (hd 0 dcx)) (ev_at 4 47 (hd 4 dcx)) (ev_at 17 60 rfl)
      (HC.out next (l,s) (v 17) X HBB.out.2.1 HGO.out h17 (HV.out.2.2.rm SX.rm) SX.mat SX.j (jK S.hh SX.rm.size)) ?_ ?_ ?_
     ·intro y X2 hR;rw[HRES.out]at hR;have he:=hR.2.2.2;cases he
     ·intro ch X2 hR;rw[HRES.out]at hR;obtain⟨r1,r2,r3,he⟩:=hR;have hS':(Except.error n,l2,s2)=R:=hS;subst hS';obtain rfl:ch=pan n:=by injection he
      exact⟨layL_defers _ _ _ _,SX.rm.trans r1,r2,r3,rfl⟩
     ·intro X2 hR;obtain⟨_,_,_,he⟩:=hR;rw[HRES.out]at he;cases he
    ·exact λX hX=>alB (B:=B5) al_Kn (by rw[<-hB5];exact hX)
    ·exact λv X h _=>h.elim
    ·exact λ_ _ _ _ h=>h
    ·exact λy X X' hR ⟨g8,q1,q2,q3⟩=>⟨g8,q1,q2,hR.bk q3 (by have:=S.hh;omega)⟩
    ·exact λX X' h=>h.size
    ·repeat' (first|exact trivial|exact IsV.stb _|exact IsNb.stb _ _|exact IsOne.stb _ _|exact(λ_ _ _ e H=>IsEnv.rm H (Rm.ext e))|exact(λ_ _ _ _ h=>h)|apply jI)
   | ok q=>
    refine rgC 18 [some 43,some 44,some 45,some 46,some 47,some 48,some 49,some 50,some 51,some 52,some 53,some 54,some 55,some 56,some 57,some 58,some 59,some 60,some 61,some 8] [IsP (m.h+2) 0,IsP (w.heap.size) 7,IsV (.slice (some ⟨g,o,none⟩) mm cp),IsP g o,IsV (.agg vs.toArray),IsV (.slice ao env.length cpe),IsV (.slice ao env.length cpe),iV ((env.length:Nat):Int),IsV (.slice ao env.length cpe),iV ((env.length:Nat):Int),IsV (.slice ao env.length env.length),IsP (w.heap.size) 1,IsV (.string x),IsP g7 4,iV next,IsV (.agg #[.string x,.int .i64 next]),IsOne x next,IsEnv m.h (env++ [(x,next)]),(λ_ _=>True),IsNb B5 [.bool false,.slice none 0 0,.bool false,.slice none 0 0,.bool false]] (Rm m.h) (λy X=>IsK 128 q y X/\SIv m J w [.int .i64 opc,.string x,.int .i64 kk,.bool s0,.slice a0 n0 c0,.int .i64 lo,.int .i64 hi,.slice (some ⟨g,o,none⟩) mm cp] [.int .i64 sure,.int .i64 opn,.int .i64 first,.int .i64 last,.int .i64 next,.bool fin] g7 (l2,s2) X) ?_ ?_ ?_ ?_ ?_ ?_ ?_ ?_
    ·refine Rc zt ?_;refine Rc zah ?_;refine Rc (lvC 7 S.b4 ld_Nds (qA 1 44)) ?_;refine Rc yi ?_;refine Rc jq ?_;refine Rc yw ?_;refine Rc yw ?_;refine Rc (lenV (qA (fP:=IsV (.slice ao env.length cpe)) 6 49)) ?_;refine Rc yw ?_;refine Rc (lenV (qA (fP:=IsV (.slice ao env.length cpe)) 8 51)) ?_;refine Rc (slV HN0.out he2 he1 (qA 5 48) (qA 7 50) (qA 9 52)) ?_;refine Rc xb ?_;refine Rc (lvC 1 S.b4 ld_str (qA 11 54)) ?_;refine Rc jp ?_;refine Rc (lvC 4 S.k7 xF (qA 13 56)) ?_;refine Rc (bdV (qC 12 55) (qC 14 57)) ?_;refine Rc (bsV (qC 15 58)) ?_;refine Rc (apV (by have:=S.hh;omega) HEC.out HL.out (qC 10 53) (qC 16 59)) ?_;exact rn0
    ·intro v X hE hd K hK;have h17:IsEnv m.h (env++ [(x,next)]) (v 17) X:=hd 17 dcx;have SX:=S.ext hJ hE
     refine wp_call3 (en func84) (u1:=.pointer (some ⟨m.h+2,0,none⟩)) (u2:=.agg vs.toArray) (u3:=v 17) (ev_at 0 43 (hd 0 dcx)) (ev_at 4 47 (hd 4 dcx)) (ev_at 17 60 rfl)
      (HC.out next (l,s) (v 17) X HBB.out.2.1 HGO.out h17 (HV.out.2.2.rm SX.rm) SX.mat SX.j (jK S.hh SX.rm.size)) ?_ ?_ ?_
     ·intro y X2 hR;rw[HRES.out]at hR;obtain⟨r1,r2,r3,y',he,hk⟩:=hR;obtain rfl:y=y':=by injection he
      exact hK _ _ r1 ⟨hk,SX.call r1 r2 r3⟩
     ·intro ch X2 hR;rw[HRES.out]at hR;obtain⟨_,_,_,y',he,_⟩:=hR;cases he
     ·intro X2 hR;rw[HRES.out]at hR;obtain⟨_,_,_,y',he,_⟩:=hR;cases he
    ·exact λX hX=>alB (B:=B5) al_Kn (by rw[<-hB5];exact hX)
    ·intro v X hP hA;clear S;obtain⟨⟨s5,a5,n5,c5,s6,a6,n6,c6,hv18,g1,g2⟩,S⟩:=hP;obtain⟨g8,hv19,hg8,B8⟩:=(hA:IsNb B5 _ (v 19) X);simp only[lxE,Nat.reduceAdd];rw[hv18,hv19];clear hv18 hv19;refine stA 20 (h:=λK hK=>?_);refine qX (us:= [.bool s5,.slice a5 n5 c5,.bool s6,.slice a6 n6 c6,.bool q.fin]) B8 xL rfl rfl nw5 (λY B8' O=>hK _ _ ?_);replace S:=S.other hJ O zb zb;replace g1:=IsI.gstb _ _ _ _ _ O.gr g1;replace g2:=IsI.gstb _ _ _ _ _ O.gr g2;have hg87:g7≠g8:=by omega
     replace B8:=B8';clear B8' O hK K;refine jL za ?_ _;simp only at hS;obtain⟨r3,hr3⟩:∃b,(fin&&q.fin)=b:=⟨_,rfl⟩;have HR3:=hid hr3;obtain⟨sl,hsl⟩:∃z,q.lo.sign=z:=⟨_,rfl⟩;obtain⟨sh,hsh⟩:∃z,q.hi.sign=z:=⟨_,rfl⟩;obtain⟨c1,hc1⟩:∃b,(sl==0)=b:=⟨_,rfl⟩;obtain⟨c2,hc2⟩:∃b,(sh==0)=b:=⟨_,rfl⟩;obtain⟨d1,hd1⟩:∃b,decide (sl<=0)=b:=⟨_,rfl⟩;obtain⟨d2,hd2⟩:∃b,decide (0<=sh)=b:=⟨_,rfl⟩;have HSL:=hid hsl;have HSH:=hid hsh;have HC1:=hid hc1;have HC2:=hid hc2;have HD1:=hid hd1;have HD2:=hid hd2;have HA:=hid (show(c1&&c2)=decide (q.lo=0/\q.hi=0)by rw[<-hc1,<-hc2,<-hsl,<-hsh,Bool.eq_iff_iff];simp only[Bool.and_eq_true,beq_iff_eq,Int.sign_eq_zero_iff_zero,jQ]);have HBq:=hid (show(d1&&d2)=decide (q.lo<=0/\0<=q.hi)by rw[<-hd1,<-hd2,<-hsl,<-hsh,Bool.eq_iff_iff];simp only[Bool.and_eq_true,jQ,Int.sign_nonpos_iff,Int.sign_nonneg_iff]);clear hr3 hsl hsh hc1 hc2 hd1 hd2;go_upto_region 6 with fail;refine rgs 7 (dR 62 7) [IsP g7 5,IsV (.bool fin),IsV (.bool fin),IsIf fin (IsP g8 4),IsIf fin (IsV (.bool q.fin)),IsV (.bool r3),IsP g7 5] [] ?_ ?_
     ·refine Rc (fa (fa_Tr5 g7) (qB 7)) ?_;refine Rc (lvC 5 S.k7 ld_b (qA 0 62)) ?_;refine Rc (mv (qA 1 63)) ?_;refine RcB 2 64 fin true (λhb=>by subst hb;exact fa (fa_Kn2 g8 0) (qB 8)) ?_;refine RcB 2 64 fin true (λhb=>by subst hb;exact lvC 4 B8 ld_b (qA 3 65)) ?_;refine Rc (pkA (b2:=q.fin) (qC 2 64) (λhb=>by subst hb;exact qA 4 66) HR3.out) ?_;refine Rc (fa (fa_Tr5 g7) (qB 7)) ?_;exact rn0
     intro v X4 e1 hZ _;replace S:=S.ext hJ e1;replace B8:=B8.ext e1;replace g1:=g1.ext e1;replace g2:=g2.ext e1;simp only[lxE,Nat.reduceAdd];rw[show v 5=.bool r3 from hZ 5 dcx,show v 6=.pointer (some ⟨g7,5,none⟩)from hZ 6 dcx];clear hZ e1;refine stL (λK hK=>?_);refine stCO 5 S.k7 (st_b r3) rfl (NoWord.bool _) (λX_ B7 O=>hK _ _ ?_);replace S:=S.upd7 hJ B7 O;simp only[u0x,u1x]at S;replace B8:=O.bk B8 (Ne.symm hg87);replace g1:=IsI.gstb _ _ _ _ _ O.gr g1;replace g2:=IsI.gstb _ _ _ _ _ O.gr g2;clear B7 O hK K;refine jE ?_;go_upto_region 7 with fail;refine rg 8 [some 69,some 70,some 71,some 72,some 73,some 74,some 9,some 10] [IsP g8 0,IsI 128 q.lo,iV sl,IsP g8 2,IsI 128 q.hi,iV sh,iV sl,iV sh] [] 0 ?_ ?_
     ·refine Rc (fa (qQ g8 0) (qB 8)) ?_;refine Rc (lvI 0 B8 g1 qE (qA 0 69)) ?_;refine Rc (cl1 (en func127) (qA (fP:=IsI 128 q.lo) 1 70) (λx0 w' hE d0=>jC (Sign_f d0) λ_ _ h=>h.int HSL.out)) ?_;refine Rc (fa (qP g8 0) (qB 8)) ?_;refine Rc (lvI 2 B8 g2 qE (qA 3 72)) ?_;refine Rc (cl1 (en func127) (qA (fP:=IsI 128 q.hi) 4 73) (λx0 w' hE d0=>jC (Sign_f d0) λ_ _ h=>h.int HSH.out)) ?_;refine Rc (mv (qA 2 71)) ?_;refine Rc (mv (qA 5 74)) ?_;exact rn0
     intro v X5 e1 hZ _;replace S:=S.ext hJ e1;replace B8:=B8.ext e1;replace g1:=g1.ext e1;replace g2:=g2.ext e1;simp only[lxE,Nat.reduceAdd];rw[show v 6=.int .i64 sl from hZ 6 dcx,show v 7=.int .i64 sh from hZ 7 dcx];clear hZ e1;refine jL za ?_ _;clear B8 g1 g2;have B8:=trivial;have g1:=trivial;have g2:=trivial;by_cases hA:q.lo=0/\q.hi=0
     ·have HA2:=hid (show(c1&&c2)=true by rw[HA.out];exact decide_eq_true hA);simp only[Tr.step]at hS;rw[if_pos hA]at hS;simp only at hS;rw[HR3.out]at hS;go_upto_region 8 with fail;refine rgs 6 (dR 75 6) [iV sl,IsV (.bool c1),IsV (.bool c1),IsIf c1 (iV sh),IsIf c1 (IsV (.bool c2)),IsV (.bool true)] [] ?_ ?_
      ·refine Rc (mv (qB 9)) ?_;refine Rc (bn (r:=.bool c1) (qC 0 75) qF (hr:=λw=>by have hx9:=HC1.out;go_simp)) ?_;refine Rc (mv (qA 1 76)) ?_;refine RcB 2 77 c1 true (λhb=>by subst hb;exact mv (qB 10)) ?_;refine RcB 2 77 c1 true (λhb=>by subst hb;exact bn (r:=.bool c2) (qA (fP:=iV sh) 3 78) qF (hr:=λw=>by have hx9:=HC2.out;go_simp)) ?_;refine Rc (pkA (b2:=c2) (qC 2 77) (λhb=>by subst hb;exact qA 4 79) HA2.out) ?_;exact rn0
      intro v X6 e1 hZ _;replace S:=S.ext hJ e1;simp only[lxE,Nat.reduceAdd];rw[show v 5=.bool true from hZ 5 dcx];clear hZ e1;refine jE ?_;go_upto_region 3 with fail;refine rgs 4 (dR 32 4) [IsP g7 4,iV next,iV (next+1),IsP g7 4] [] ?_ ?_
      ·refine Rc jp ?_;refine Rc (lvC 4 S.k7 xF (qA 0 32)) ?_;refine Rc jy ?_;refine Rc jp ?_;exact rn0
      intro v X7 e1 hZ _;replace S:=S.ext hJ e1;simp only[lxE,Nat.reduceAdd];rw[show v 2=.int .i64 (next+1)from hZ 2 dcx,show v 3=.pointer (some ⟨g7,4,none⟩)from hZ 3 dcx];clear hZ e1;refine stL (λK hK=>?_);refine stCO 4 S.k7 (st_i (next+1)) rfl (NoWord.int64 _) (λX7_ B7 O=>hK _ _ ?_);replace S:=S.upd7 hJ B7 O;simp only[u0x,u1x]at S;clear B7 O hK K;refine jE ?_;have S':=hid S;clear S;have HS':=hid hS;clear hS g1 g2 B8;go_wp2_with fail
      go_roundg k
      case measure=>omega
      case rel=>exact⟨⟨sure,opn,first,last,next+1,r3⟩,(l2,s2),by have:=HBB.out;simp only;omega,by have:=HBB.out;simp only;omega,by have:=HBB.out;have:=HGO.out;simp only;omega,HS',S'⟩
     ·have HA2:=hid (show(c1&&c2)=false by rw[HA.out];exact decide_eq_false hA);simp only[Tr.step]at hS;rw[if_neg hA]at hS;go_upto_region 8 with fail;refine rgs 6 (dR 75 6) [iV sl,IsV (.bool c1),IsV (.bool c1),IsIf c1 (iV sh),IsIf c1 (IsV (.bool c2)),IsV (.bool false)] [] ?_ ?_
      ·refine Rc (mv (qB 9)) ?_;refine Rc (bn (r:=.bool c1) (qC 0 75) qF (hr:=λw=>by have hx9:=HC1.out;go_simp)) ?_;refine Rc (mv (qA 1 76)) ?_;refine RcB 2 77 c1 true (λhb=>by subst hb;exact mv (qB 10)) ?_;refine RcB 2 77 c1 true (λhb=>by subst hb;exact bn (r:=.bool c2) (qA (fP:=iV sh) 3 78) qF (hr:=λw=>by have hx9:=HC2.out;go_simp)) ?_;refine Rc (pkA (b2:=c2) (qC 2 77) (λhb=>by subst hb;exact qA 4 79) HA2.out) ?_;exact rn0
      intro v X8 e1 hZ _;replace S:=S.ext hJ e1;simp only[lxE,Nat.reduceAdd];rw[show v 5=.bool false from hZ 5 dcx];clear hZ e1;refine jE ?_;go_upto_region 9 with fail;refine rgs 6 (dR 81 6) [IsP g7 2,iV first,IsP g7 4,iV next,iV (min first next),IsP g7 2] [] ?_ ?_
      ·refine Rc (fa (fa_Tr2 g7) (qB 7)) ?_;refine Rc (lvC 2 S.k7 xF (qA 0 81)) ?_;refine Rc jp ?_;refine Rc (lvC 4 S.k7 xF (qA 2 83)) ?_;refine Rc (ok2 (qC 1 82) (qC 3 84) (λa w h1 h2=>by rw[min_run h1 h2 rfl,HMN.out])) ?_;refine Rc (fa (fa_Tr2 g7) (qB 7)) ?_;exact rn0
      intro v X9 e1 hZ _;replace S:=S.ext hJ e1;simp only[lxE,Nat.reduceAdd];rw[show v 4=.int .i64 (min first next)from hZ 4 dcx,show v 5=.pointer (some ⟨g7,2,none⟩)from hZ 5 dcx];clear hZ e1;refine stL (λK hK=>?_);refine stCO 2 S.k7 (st_i (min first next)) rfl (NoWord.int64 _) (λX9_ B7 O=>hK _ _ ?_);replace S:=S.upd7 hJ B7 O;simp only[u0x,u1x]at S;clear B7 O hK K;refine jE ?_;by_cases hB:q.lo<=0/\0<=q.hi
      ·have HB3:=hid (show(d1&&d2)=true by rw[HBq.out];exact decide_eq_true hB);rw[if_pos hB]at hS;simp only at hS;rw[HR3.out]at hS;go_upto_region 10 with fail;refine rgs 6 (dR 87 6) [iV sl,IsV (.bool d1),IsV (.bool d1),IsIf d1 (iV sh),IsIf d1 (IsV (.bool d2)),IsV (.bool true)] [] ?_ ?_
       ·refine Rc (mv (qB 9)) ?_;refine Rc (bn (r:=.bool d1) (qC 0 87) qF (hr:=λw=>by have hx9:=HD1.out;go_simp)) ?_;refine Rc (mv (qA 1 88)) ?_;refine RcB 2 89 d1 true (λhb=>by subst hb;exact mv (qB 10)) ?_;refine RcB 2 89 d1 true (λhb=>by subst hb;exact bn (r:=.bool d2) (qA (fP:=iV sh) 3 90) qF (hr:=λw=>by have hx9:=HD2.out;go_simp)) ?_;refine Rc (pkA (b2:=d2) (qC 2 89) (λhb=>by subst hb;exact qA 4 91) HB3.out) ?_;exact rn0
       intro v X10 e1 hZ _;replace S:=S.ext hJ e1;simp only[lxE,Nat.reduceAdd];rw[show v 5=.bool true from hZ 5 dcx];clear hZ e1;refine jE ?_;go_upto_region 11 with fail;refine rgs 4 (dR 93 4) [IsP g7 1,iV opn,iV (opn+1),IsP g7 1] [] ?_ ?_
       ·refine Rc (fa (fa_Tr1 g7) (qB 7)) ?_;refine Rc (lvC 1 S.k7 xF (qA 0 93)) ?_;refine Rc (bn (r:=.int .i64 (opn+1)) (qC 1 94) qF (hr:=λw=>by have hx9:=HOW.out;go_simp)) ?_;refine Rc (fa (fa_Tr1 g7) (qB 7)) ?_;exact rn0
       intro v X11 e1 hZ _;replace S:=S.ext hJ e1;simp only[lxE,Nat.reduceAdd];rw[show v 2=.int .i64 (opn+1)from hZ 2 dcx,show v 3=.pointer (some ⟨g7,1,none⟩)from hZ 3 dcx];clear hZ e1;refine stL (λK hK=>?_);refine stCO 1 S.k7 (st_i (opn+1)) rfl (NoWord.int64 _) (λX11_ B7 O=>hK _ _ ?_);replace S:=S.upd7 hJ B7 O;simp only[u0x,u1x]at S;clear B7 O hK K;refine jE ?_;go_upto_region 3 with fail;refine rgs 4 (dR 32 4) [IsP g7 4,iV next,iV (next+1),IsP g7 4] [] ?_ ?_
       ·refine Rc jp ?_;refine Rc (lvC 4 S.k7 xF (qA 0 32)) ?_;refine Rc jy ?_;refine Rc jp ?_;exact rn0
       intro v X12 e1 hZ _;replace S:=S.ext hJ e1;simp only[lxE,Nat.reduceAdd];rw[show v 2=.int .i64 (next+1)from hZ 2 dcx,show v 3=.pointer (some ⟨g7,4,none⟩)from hZ 3 dcx];clear hZ e1;refine stL (λK hK=>?_);refine stCO 4 S.k7 (st_i (next+1)) rfl (NoWord.int64 _) (λX12_ B7 O=>hK _ _ ?_);replace S:=S.upd7 hJ B7 O;simp only[u0x,u1x]at S;clear B7 O hK K;refine jE ?_;have S':=hid S;clear S;have HS':=hid hS;clear hS g1 g2 B8;go_wp2_with fail
       go_roundg k
       case measure=>omega
       case rel=>exact⟨⟨sure,opn+1,min first next,last,next+1,r3⟩,(l2,s2),by have:=HBB.out;simp only;omega,by have:=HBB.out;simp only;omega,by have:=HBB.out;have:=HGO.out;simp only;omega,HS',S'⟩
      ·have HB3:=hid (show(d1&&d2)=false by rw[HBq.out];exact decide_eq_false hB);rw[if_neg hB]at hS;go_upto_region 10 with fail;refine rgs 6 (dR 87 6) [iV sl,IsV (.bool d1),IsV (.bool d1),IsIf d1 (iV sh),IsIf d1 (IsV (.bool d2)),IsV (.bool false)] [] ?_ ?_
       ·refine Rc (mv (qB 9)) ?_;refine Rc (bn (r:=.bool d1) (qC 0 87) qF (hr:=λw=>by have hx9:=HD1.out;go_simp)) ?_;refine Rc (mv (qA 1 88)) ?_;refine RcB 2 89 d1 true (λhb=>by subst hb;exact mv (qB 10)) ?_;refine RcB 2 89 d1 true (λhb=>by subst hb;exact bn (r:=.bool d2) (qA (fP:=iV sh) 3 90) qF (hr:=λw=>by have hx9:=HD2.out;go_simp)) ?_;refine Rc (pkA (b2:=d2) (qC 2 89) (λhb=>by subst hb;exact qA 4 91) HB3.out) ?_;exact rn0
       intro v X13 e1 hZ _;replace S:=S.ext hJ e1;simp only[lxE,Nat.reduceAdd];rw[show v 5=.bool false from hZ 5 dcx];clear hZ e1;refine jE ?_;go_upto_region 12 with fail;refine rgs 4 (dR 97 4) [IsP g7 0,iV sure,iV (sure+1),IsP g7 0] [] ?_ ?_
       ·refine Rc (fa (fa_Tr0 g7) (qB 7)) ?_;refine Rc (lvC 0 S.k7 xF (qA 0 97)) ?_;refine Rc (bn (r:=.int .i64 (sure+1)) (qC 1 98) qF (hr:=λw=>by have hx9:=HUW.out;go_simp)) ?_;refine Rc (fa (fa_Tr0 g7) (qB 7)) ?_;exact rn0
       intro v X14 e1 hZ _;replace S:=S.ext hJ e1;simp only[lxE,Nat.reduceAdd];rw[show v 2=.int .i64 (sure+1)from hZ 2 dcx,show v 3=.pointer (some ⟨g7,0,none⟩)from hZ 3 dcx];clear hZ e1;refine stL (λK hK=>?_);refine stCO 0 S.k7 (st_i (sure+1)) rfl (NoWord.int64 _) (λX14_ B7 O=>hK _ _ ?_);replace S:=S.upd7 hJ B7 O;simp only[u0x]at S;clear B7 O hK K;refine jE ?_;go_upto_region 13 with fail;refine rgs 3 (dR 101 3) [IsP (w.heap.size) 0,iV opc,IsV (.bool fst)] [] ?_ ?_
       ·refine Rc (fa (fa_Nd0 w.heap.size) (qB 4)) ?_;refine Rc (lvC 0 S.b4 xF (qA 0 101)) ?_;refine Rc (bn (r:=.bool fst) (qC 1 102) qF (hr:=λw=>by have hx9:=HF.out;go_simp)) ?_;exact rn0
       intro v X15 e1 hZ _;replace S:=S.ext hJ e1;simp only[lxE,Nat.reduceAdd];rw[show v 2=.bool fst from hZ 2 dcx];clear hZ e1;refine jE ?_;cases fst with
       | true=>
        simp only[if_true]at hS;rw[HR3.out]at hS;go_upto_region 14 with fail;refine rgs 3 (dR 104 3) [IsP g7 4,iV next,IsP g7 3] [] ?_ ?_
        ·refine Rc jp ?_;refine Rc (lvC 4 S.k7 xF (qA 0 104)) ?_;refine Rc (fa (fa_Tr3 g7) (qB 7)) ?_;exact rn0
        intro v X16 e1 hZ _;replace S:=S.ext hJ e1;simp only[lxE,Nat.reduceAdd];rw[show v 1=.int .i64 next from hZ 1 dcx,show v 2=.pointer (some ⟨g7,3,none⟩)from hZ 2 dcx];clear hZ e1;refine stL (λK hK=>?_);refine stCO 3 S.k7 (st_i next) rfl (NoWord.int64 _) (λX16_ B7 O=>hK _ _ ?_);replace S:=S.upd7 hJ B7 O;simp only[u0x,u1x]at S;clear B7 O hK K;refine jE ?_;have HS:=hid hS;clear hS;go_upto_region 15 with fail;refine rgs 1 [some 107] [IsV (.agg #[.int .i64 (sure+1),.int .i64 opn,.int .i64 (min first next),.int .i64 next,.int .i64 next,.bool r3])] [] ?_ ?_
        ·refine Rc (lvV S.k7 ld_Tr (qB 7)) ?_;exact rn0
        intro v X17 e1 hZ _;replace S:=S.ext hJ e1;simp only[lxE];rw[show v 0=.agg #[.int .i64 (sure+1),.int .i64 opn,.int .i64 (min first next),.int .i64 next,.int .i64 next,.bool r3]from hZ 0 dcx];clear hZ e1;refine stL (λK hK=>?_);refine qX (us:= [.int .i64 (sure+1),.int .i64 opn,.int .i64 (min first next),.int .i64 next,.int .i64 next,.bool r3]) S.b6 st_Tr rfl rfl nwT (λX9 B9 O=>hK _ _ ?_);obtain⟨f1,f2,f3⟩:=S.last hJ O;refine jE ?_;have d0:=B9.c 0 _ rfl;have d1:=B9.c 1 _ rfl;have d2:=B9.c 2 _ rfl;have d3:=B9.c 3 _ rfl;have d4:=B9.c 4 _ rfl;have d5:=B9.c 5 _ rfl;clear hK K O B9 S;go_wp2_with fail;exact jD (v:=.agg #[.int .i64 (sure+1),.int .i64 opn,.int .i64 (min first next),.int .i64 next,.int .i64 next,.bool r3]) (by simp[results,results113,go_sem,d0,d1,d2,d3,d4,d5]) rfl (by rw[<-HS.out];exact⟨f1,f2,f3,rfl⟩)
       | false=>
        simp only[Bool.false_eq_true,if_false]at hS;rw[HR3.out]at hS;go_upto_region 3 with fail;refine rgs 4 (dR 32 4) [IsP g7 4,iV next,iV (next+1),IsP g7 4] [] ?_ ?_
        ·refine Rc jp ?_;refine Rc (lvC 4 S.k7 xF (qA 0 32)) ?_;refine Rc jy ?_;refine Rc jp ?_;exact rn0
        intro v X18 e1 hZ _;replace S:=S.ext hJ e1;simp only[lxE,Nat.reduceAdd];rw[show v 2=.int .i64 (next+1)from hZ 2 dcx,show v 3=.pointer (some ⟨g7,4,none⟩)from hZ 3 dcx];clear hZ e1;refine stL (λK hK=>?_);refine stCO 4 S.k7 (st_i (next+1)) rfl (NoWord.int64 _) (λX18_ B7 O=>hK _ _ ?_);replace S:=S.upd7 hJ B7 O;simp only[u0x,u1x]at S;clear B7 O hK K;refine jE ?_;have S':=hid S;clear S;have HS':=hid hS;clear hS g1 g2 B8;go_wp2_with fail
        go_roundg k
        case measure=>omega
        case rel=>exact⟨⟨sure+1,opn,min first next,last,next+1,r3⟩,(l2,s2),by have:=HBB.out;simp only;omega,by have:=HBB.out;simp only;omega,by have:=HBB.out;have:=HGO.out;simp only;omega,HS',S'⟩
    ·exact λy X X' e h=>⟨IsKn.stb _ _ _ _ _ _ _ e h.1,h.2.ext hJ e⟩
    ·exact λy X X' hR ⟨g8,q1,q2,q3⟩=>⟨g8,q1,q2,hR.bk q3 (by have:=S.hh;omega)⟩
    ·exact λX X' h=>h.size
    ·repeat' (first|exact trivial|exact IsV.stb _|exact IsNb.stb _ _|exact IsOne.stb _ _|exact(λ_ _ _ e H=>IsEnv.rm H (Rm.ext e))|exact(λ_ _ _ _ h=>h)|apply jI)
  ·have HBR:=hid (show(b1&&b2)=false by rw[<-hb1,<-hb2,Bool.and_eq_false_iff];simp only[decide_eq_false_iff_not];omega);have HST:=hid hgo;clear hb1 hb2 hgo;go_upto_region 2 with fail;refine rgs 12 (dR 20 12) [IsP g7 4,iV next,IsP (w.heap.size) 6,iV hi,IsV (.bool b1),IsV (.bool b1),IsIf b1 (IsP (m.h+2) 0),IsIf b1 (IsP (m.h+2) 0),IsIf b1 (IsP (m.h+2) 4),IsIf b1 (iV (left:Int)),IsIf b1 (IsV (.bool b2)),IsV (.bool false)] [] ?_ ?_
   ·refine Rc jp ?_;refine Rc (lvC 4 S.k7 xF (qA 0 20)) ?_;refine Rc xa ?_;refine Rc (lvC 6 S.b4 xF (qA 2 22)) ?_;refine Rc zau ?_;refine Rc (mv (qA 4 24)) ?_;refine RcB 5 25 b1 true (λhb=>by subst hb;exact mv (qB 0)) ?_;refine RcB 5 25 b1 true (λhb=>by subst hb;exact nc (p:=⟨m.h+2,0,none⟩) (qA 6 26)) ?_;refine RcB 5 25 b1 true (λhb=>by subst hb;exact fa (fa_Mc4 (m.h+2)) (qA 7 27)) ?_;refine RcB 5 25 b1 true (λhb=>by subst hb;exact lvC 4 S.mat.bk xF (qA 8 28)) ?_;refine RcB 5 25 b1 true (λhb=>by subst hb;exact bn (r:=.bool b2) (qA (fP:=iV (left:Int)) 9 29) qF (hr:=λw=>by have hx9:=HB2.out;go_simp)) ?_;refine Rc (pkA (b2:=b2) (qC 5 25) (λhb=>by subst hb;exact qA 10 30) HBR.out) ?_;exact rn0
   intro v X19 e1 hZ _;replace S:=S.ext hJ e1;simp only[lxE,Nat.reduceAdd];rw[show v 11=.bool false from hZ 11 dcx];clear hZ e1;refine jE ?_;go_upto_region 16 with fail;have HMN:=hid (show(if next<first then next else first)=min first next by rw[Int.min_def];split <;> split <;> omega);refine rgs 6 (dR 108 6) [IsP g7 2,iV first,IsP g7 4,iV next,iV (min first next),IsP g7 2] [] ?_ ?_
   ·refine Rc (fa (fa_Tr2 g7) (qB 7)) ?_;refine Rc (lvC 2 S.k7 xF (qA 0 108)) ?_;refine Rc jp ?_;refine Rc (lvC 4 S.k7 xF (qA 2 110)) ?_;refine Rc (ok2 (qC 1 109) (qC 3 111) (λa w h1 h2=>by rw[min_run h1 h2 rfl,HMN.out])) ?_;refine Rc (fa (fa_Tr2 g7) (qB 7)) ?_;exact rn0
   intro v X20 e1 hZ _;replace S:=S.ext hJ e1;simp only[lxE,Nat.reduceAdd];rw[show v 4=.int .i64 (min first next)from hZ 4 dcx,show v 5=.pointer (some ⟨g7,2,none⟩)from hZ 5 dcx];clear hZ e1;refine stL (λK hK=>?_);refine stCO 2 S.k7 (st_i (min first next)) rfl (NoWord.int64 _) (λX20_ B7 O=>hK _ _ ?_);replace S:=S.upd7 hJ B7 O;simp only[u0x,u1x]at S;clear B7 O hK K;refine jE ?_;go_upto_region 17 with fail;obtain⟨bg,hbg⟩:∃b,decide (hi<next)=b:=⟨_,rfl⟩;have HBG:=hid hbg;obtain⟨r2,hr2⟩:∃b,(fin&&bg)=b:=⟨_,rfl⟩;have HR2:=hid hr2;clear hbg hr2;refine rgs 10 (dR 114 10) [IsP g7 5,IsV (.bool fin),IsV (.bool fin),IsIf fin (IsP g7 4),IsIf fin (iV next),IsIf fin (IsP (w.heap.size) 6),IsIf fin (iV hi),IsIf fin (IsV (.bool bg)),IsV (.bool r2),IsP g7 5] [] ?_ ?_
   ·refine Rc (fa (fa_Tr5 g7) (qB 7)) ?_;refine Rc (lvC 5 S.k7 ld_b (qA 0 114)) ?_;refine Rc (mv (qA 1 115)) ?_;refine RcB 2 116 fin true (λhb=>by subst hb;exact fa (jA g7) (qB 7)) ?_;refine RcB 2 116 fin true (λhb=>by subst hb;exact lvC 4 S.k7 xF (qA 3 117)) ?_;refine RcB 2 116 fin true (λhb=>by subst hb;exact fa (fa_Nd5 w.heap.size) (qB 4)) ?_;refine RcB 2 116 fin true (λhb=>by subst hb;exact lvC 6 S.b4 xF (qA 5 119)) ?_;refine RcB 2 116 fin true (λhb=>by subst hb;exact bn (r:=.bool bg) (qA (fP:=iV next) 4 118) (qA (fP:=iV hi) 6 120) (hr:=λw=>by have hx9:=HBG.out;go_simp)) ?_;refine Rc (pkA (b2:=bg) (qC 2 116) (λhb=>by subst hb;exact qA 7 121) HR2.out) ?_;refine Rc (fa (fa_Tr5 g7) (qB 7)) ?_;exact rn0
   intro v X21 e1 hZ _;replace S:=S.ext hJ e1;simp only[lxE,Nat.reduceAdd];rw[show v 8=.bool r2 from hZ 8 dcx,show v 9=.pointer (some ⟨g7,5,none⟩)from hZ 9 dcx];clear hZ e1;refine stL (λK hK=>?_);refine stCO 5 S.k7 (st_b r2) rfl (NoWord.bool _) (λX21_ B7 O=>hK _ _ ?_);replace S:=S.upd7 hJ B7 O;simp only[u0x,u1x]at S;clear B7 O hK K;refine jE ?_;go_upto_region 18 with fail;refine rgs 1 [some 124] [IsV (.agg #[.int .i64 sure,.int .i64 opn,.int .i64 (min first next),.int .i64 last,.int .i64 next,.bool r2])] [] ?_ ?_
   ·refine Rc (lvV S.k7 ld_Tr (qB 7)) ?_;exact rn0
   intro v X22 e1 hZ _;replace S:=S.ext hJ e1;simp only[lxE];rw[show v 0=.agg #[.int .i64 sure,.int .i64 opn,.int .i64 (min first next),.int .i64 last,.int .i64 next,.bool r2]from hZ 0 dcx];clear hZ e1;refine stL (λK hK=>?_);refine qX (us:= [.int .i64 sure,.int .i64 opn,.int .i64 (min first next),.int .i64 last,.int .i64 next,.bool r2]) S.b6 st_Tr rfl rfl nwT (λX9 B9 O=>hK _ _ ?_);obtain⟨f1,f2,f3⟩:=S.last hJ O;refine jE ?_;have d0:=B9.c 0 _ rfl;have d1:=B9.c 1 _ rfl;have d2:=B9.c 2 _ rfl;have d3:=B9.c 3 _ rfl;have d4:=B9.c 4 _ rfl;have d5:=B9.c 5 _ rfl;clear hK K O B9 S;go_wp2_with fail;have hR:=HS.out;rw[srch_stop HST.out]at hR;subst hR;exact jD (v:=.agg #[.int .i64 sure,.int .i64 opn,.int .i64 (min first next),.int .i64 last,.int .i64 next,.bool r2]) (by simp[results,results113,go_sem,d0,d1,d2,d3,d4,d5]) rfl ⟨f1,f2,f3,by simp only[Tr.stop];rw[HBG.out,HR2.out]⟩
end Go.Proofs.YtkeikfekkdplgaaGreatDoor
