/-
 The reference: Coprime, Characters of package ref10, Genus of package ref40. (Printed by wip/gen/den40.py.)
-/
import Derived.Test.YtknffgdbdadpcaaGreatDoorRwz
import Derived.Test.YtknffgdbdadpcaaGreatDoorDen39
import Derived.Test.YtknffgdbdadpcaaGreatDoorMod3
import Derived.StillTail
namespace Go.Proofs.YtknffgdbdadpcaaGreatDoor
open Go Go.RowKit
open Go.Proofs.Tryz
set_option maxRecDepth 100000
set_option maxHeartbeats 8000000
theorem wpAny_seqL{P:Program}{md:Region.Mode}{ops:Array Oper}{Q:Exit->Act->World->Prop}{listed:Array Bool}{a:Act}{w:World}{n:Nat}(k:Nat){l:List Oper}(hl:ops.toList.drop k=l)(hn:l.length=n)(hB:Region.seqB md ops n k listed=true)(h:wpList P ops Q l a w):wpAny P md ops Q n listed a w:=by
 subst hn;refine wpAny_of_seq l k listed a w (λj=>?_) hB h;rw[<-hl,List.getElem?_drop,Array.getElem?_toList]
def NewI(u:Int):Value->World->Prop:=λx w=>∃g,x=.slice (some ⟨g,0,none⟩) 1 1/\World.cell? w ⟨g,0,none⟩=some (.int .i64 u)
theorem NewI.at{w:World}{g:Nat}{u:Int}(h:World.cell? w ⟨g,0,none⟩=some (.int .i64 u))(j:Nat)(q:Value)(hj: [Value.int .i64 u][j]? =some q):World.cell? w ⟨g,j,none⟩=some q:=by
 rcases j with _|j
 ·obtain rfl:Value.int .i64 u=q:=by simpa using hj
  exact h
 ·simp at hj
theorem NewI.stb(u:Int):Stb (NewI u):=λ_ _ _ e ⟨g,h1,h2⟩=>⟨g,h1,e.cell h2⟩
section
variable {ops:Array Oper} {Q:Exit->Act->World->Prop} {ds:List (Option Tmp)} {a0:Act} {w0:World} {L:List (Value->World->Prop)} {boxes:List Nat} {i:Nat} {o:Oper}
theorem bI1{x1:Operand}{u:Int}(hx1:Od ops ds a0 w0 L i x1 (iV u))(ho:o.op=.buildSlice 41 1 #[(0,x1)]:=by rfl)(hi:L.getD i (λ_ _=>True)=NewI u:=by kernel_rfl)(hb:boxes.contains i=false:=by kernel_rfl):Ok prog ops Q ds a0 w0 L boxes i o:=
 ⟨fun v a w hE hd hf K' hK=>by
  have q1:a.eval x1=.int .i64 u:=hx1.out v a w hE hd hf;have hr:(Instr.buildSlice 41 1 #[(0,.int .i64 u)]).run prog w=.ok (.slice (some ⟨w.heap.size,0,none⟩) 1 1) (w.alloc (.cells #[.int .i64 u] 3)):=by go_simp
  have hrun:(execOp a.eval o).run prog w=.ok (.value (.slice (some ⟨w.heap.size,0,none⟩) 1 1)) (w.alloc (.cells #[.int .i64 u] 3)):=by
   unfold execOp;rw[ho];dsimp only;simp only[List.map_toArray,List.map_cons,List.map_nil];rw[q1];simp[hr]
  unfold Oper.wp;rw[hrun];refine hK.out _ _ ((Ext.refl _).alloc _) ?_ (FreshIf.no hb);rw[hi]
  exact⟨_,rfl,by simp⟩⟩
end
theorem ia_li(g i n c:Nat)(h:i<n)(w:World):(Instr.indexAt 41 (.slice (some ⟨g,0,none⟩) n c) (.int .i64 (i:Int))).run prog w=.ok (.pointer (some ⟨g,i,none⟩)) w:=by
 have h1:(0:Int)<=(i:Int):=zb
 have h2:(i:Int)<(n:Int):=zb
 have h3:i<n:=h
 go_simp
theorem Coprime_f{k1 k2:Nat}{z1 z2:Int}{x y:Value}{w:World}(hx:IsI k1 z1 x w)(hy:IsI k2 z2 y w)(HK:Hid (k1<=524288/\k2<=524288)){bb:Bool}(HG:Hid (decide (((Int.gcd z1 (2*z2):Nat):Int)=1)=bb)):Calls prog 35 #[x,y] w (Ret w (IsV (.bool bb))):=by
 obtain⟨s1,a1,n1,c1,s2,a2,n2,c2,W,rfl,rfl,hW,S⟩:=en2 hx hy;go_enter func35,ntmps35;go_upto_region 1 with fail;rw[<-hW];clear hW;refine rg 8 [some 5,some 6,some 7,some 8,some 9,some 10,some 11,some 4] [IsI k1 z1,IsI 2 2,IsI k2 z2,IsI ((2+k2)) ((2*z2)),IsI ((max k1 (2+k2))) (((Int.gcd z1 (2*z2):Nat):Int)),IsI 2 1,IsV (.bool bb),IsV (.bool bb)] [] 0 ?_ ?_
 ·refine Rc zf ?_;refine Rc zag ?_;refine Rc zg ?_;refine Rc (cl2 (en func73) (qA (fP:=IsI 2 2) 1 6) (qA (fP:=IsI k2 z2) 2 7) (λx0 x1 w' hE d0 d1=>RMul_f d0 d1 dcx zl)) ?_;refine Rc (cl2 (en func66) (qA (fP:=IsI k1 z1) 0 5) (qA (fP:=IsI ((2+k2)) ((2*z2))) 3 8) (λx0 x1 w' hE d0 d1=>RGcd_f d0 d1 zl zl)) ?_;refine Rc zn ?_;refine Rc (cl2 (en func26) (qA (fP:=IsI ((max k1 (2+k2))) (((Int.gcd z1 (2*z2):Nat):Int))) 4 9) (qA (fP:=IsI 2 1) 5 10) (λx0 x1 w' hE d0 d1=>(by have hh:=Same_f d0 d1 zl;rw[HG.out]at hh;exact hh))) ?_;refine Rc (mv (qA 6 11)) ?_;exact rn0
 intro v W1 e1 hH _;replace S:=S.mono e1;simp only[lxE,Nat.reduceAdd];rw[show v 7=.bool bb from hH 7 dcx];clear hH e1;refine zO za ?_ _;go_wp2_with fail;exact zD (v:=.bool bb) (by simp[results,results35,go_sem]) rfl (⟨_,rfl,S.ext,rfl⟩)
theorem rchars_x(w:World)(n:Nat)(hn:1<=n/\n<=4194304){names:List Int}(h:chN n=names):Calls prog 103 #[.int .i64 (-(n:Int))] w (Ret w (IRx names)):=
 (rchars_f w n hn).mono λe W' hh=>by
  obtain⟨v,h1,h2,h3⟩:=hh;rw[h]at h3;exact⟨v,h1,h2,_,h3⟩
theorem rCharacters_x{k1 T:Nat}{x:Value}{w:World}(hx:IsI k1 (-(T:Int)) x w)(HK:Hid (k1<=67108864))(HN:Hid (1<=T/\T<=4194304/\(T%4=0\/T%4=3))){names:List Int}(HNM:Hid (chN T=names)):Calls prog 55 #[x] w (Ret w (IsT2 (IRx names) (iV 0))):=by
 obtain⟨s1,a1,n1,c1,W,rfl,hW,S⟩:=en1 hx;go_enter func55,ntmps55;go_upto_region 1 with fail;rw[<-hW];clear hW;refine rgt S 7 [some 7,some 8,some 6,some 9,some 10,some 4,some 5] [IsI k1 ((-(T:Int))),IsT2 (iV (-(T:Int))) (iV 0),IsT2 (iV (-(T:Int))) (iV 0),iV (-(T:Int)),iV 0,iV (-(T:Int)),iV 0] ?_ ?_
 ·refine Rc zj ?_;refine Rc (cl1 (en func102) (qA (fP:=IsI k1 ((-(T:Int)))) 0 7) (λx0 w' hE d0=>r10ref_f d0 HK.out HN.out)) ?_;refine Rc (mv (qA 1 8)) ?_;refine Rc (ex (qC 2 6) t20) ?_;refine Rc (ex (qC 2 6) t21) ?_;refine Rc (mv (qA 3 9)) ?_;refine Rc (mv (qA 4 10)) ?_;exact rn0
 intro v W1 S hH;simp only[lxE,Nat.reduceAdd];rw[show v 5=.int .i64 (-(T:Int))from hH 5 dcx,show v 6=.int .i64 0 from hH 6 dcx];clear hH;go_upto_region 2 with fail;refine rgt S 2 [some 11,some 12] [iV 0,IsV (.bool false)] ?_ ?_
 ·refine Rc ja ?_;refine Rc jc ?_;exact rn0
 intro v W2 S hH;simp only[lxE,Nat.reduceAdd];rw[show v 1=.bool false from hH 1 dcx];clear hH;go_upto_region 4 with fail;refine rgt S 4 [some 14,some 15,some 2,some 3] [iV (-(T:Int)),IRx names,IRx names,iV 0] ?_ ?_ (hst:=by repeat' (first|exact trivial|exact IRx.stb _|exact IsV.stb _|exact IsI.stb _ _|exact IsBo.stb _ _|apply IsT2.stb|apply IsT3.stb|apply IsJ.stb|apply IsQ.stb|apply IsF.stb|apply zJ))
 ·refine Rc zdf ?_;refine Rc (cl1 (en func103) (qA (fP:=iV (-(T:Int))) 0 14) (λx0 w' hE d0=>by{obtain rfl:x0=.int .i64 (-(T:Int)):=d0;exact rchars_x w' T ⟨HN.out.1,HN.out.2.1⟩ HNM.out})) ?_;refine Rc (mv (qA 1 15)) ?_;refine Rc zaf ?_;exact rn0
 intro v W4 S hH;obtain⟨u2,hu2,k2⟩:∃vv_,v 2=vv_/\(IRx names) vv_ W4:=⟨_,rfl,hH 2 dcx⟩;have v3:v 3=.int .i64 0:=hH 3 dcx;simp only[lxE,Nat.reduceAdd];rw[hu2,v3];clear hu2 v3 hH;go_wp2_with fail;exact zD (v:=.tuple #[u2,.int .i64 0]) (by simp[results,results55,go_sem]) rfl (⟨_,rfl,S.ext,_,_,rfl,k2,rfl⟩)
theorem rGenus_c{k1 k2 T:Nat}{z2:Int}{x y:Value}{w:World}(hx:IsI k1 (-(T:Int)) x w)(hy:IsI k2 z2 y w)(HK:Hid (k1<=131072/\k2<=131072))(HN:Hid (1<=T/\T<=4194304/\(T%4=0\/T%4=3)))(HRF:Hid (∀(x y:Value) (w:World),IsI k1 (-(T:Int)) x w->IsI k2 z2 y w->Calls prog 23 #[x,y] w (Ret w (iV 0))))(HCP:Hid (decide (((Int.gcd z2 (2*(-(T:Int))):Nat):Int)=1)=false)):Calls prog 15 #[x,y] w (Ret w (IsT2 (IRx []) (iV 1))):=by
 obtain⟨s1,a1,n1,c1,s2,a2,n2,c2,W,rfl,rfl,hW,S⟩:=en2 hx hy;go_enter func15,ntmps15;go_upto_region 1 with fail;rw[<-hW];clear hW;refine rgt S 4 [some 11,some 12,some 13,some 6] [IsI k1 ((-(T:Int))),IsI k2 z2,iV 0,iV 0] ?_ ?_
 ·refine Rc zf ?_;refine Rc zg ?_;refine Rc (cl2 (en func23) (qA (fP:=IsI k1 ((-(T:Int)))) 0 11) (qA (fP:=IsI k2 z2) 1 12) (λx0 x1 w' hE d0 d1=>HRF.out _ _ _ d0 d1)) ?_;refine Rc zc0 ?_;exact rn0
 intro v W1 S hH;simp only[lxE,Nat.reduceAdd];rw[show v 3=.int .i64 0 from hH 3 dcx];clear hH;go_upto_region 2 with fail;refine rgt S 2 [some 14,some 15] [iV 0,IsV (.bool false)] ?_ ?_
 ·refine Rc zaa ?_;refine Rc zar ?_;exact rn0
 intro v W2 S hH;simp only[lxE,Nat.reduceAdd];rw[show v 1=.bool false from hH 1 dcx];clear hH;go_upto_region 4 with fail;refine rgt S 4 [some 17,some 18,some 19,some 20] [IsI k2 z2,IsI k1 ((-(T:Int))),IsV (.bool false),IsV (.bool true)] ?_ ?_
 ·refine Rc zg ?_;refine Rc zf ?_;refine Rc (cl2 (en func35) (qA (fP:=IsI k2 z2) 0 17) (qA (fP:=IsI k1 ((-(T:Int)))) 1 18) (λx0 x1 w' hE d0 d1=>Coprime_f d0 d1 (hid zl) HCP)) ?_;refine Rc (nt (qC 2 19)) ?_;exact rn0
 intro v W4 S hH;simp only[lxE,Nat.reduceAdd];rw[show v 3=.bool true from hH 3 dcx];clear hH;go_upto_region 5 with fail;refine rgt S 2 [some 4,some 5] [IsV (.slice none 0 0),iV 1] ?_ ?_
 ·refine Rc zaf ?_;refine Rc zaf ?_;exact rn0
 intro v W5 S hH;simp only[lxE,Nat.reduceAdd];rw[show v 0=.slice none 0 0 from hH 0 dcx,show v 1=.int .i64 1 from hH 1 dcx];clear hH;go_wp2_with fail;exact zD (v:=.tuple #[.slice none 0 0,.int .i64 1]) (by simp[results,results15,go_sem]) rfl (⟨_,rfl,S.ext,⟨_,_,rfl,⟨0,Rwg.nil _ _ _ _⟩,rfl⟩⟩)
theorem rGenus_k{k1 k2 T:Nat}{m:Nat}{x y:Value}{w:World}(hx:IsI k1 (-(T:Int)) x w)(hy:IsI k2 (m:Int) y w)(HK:Hid (k1<=131072/\k2<=131072))(HN:Hid (1<=T/\T<=4194304/\(T%4=0\/T%4=3)))(HRF:Hid (∀(x y:Value) (w:World),IsI k1 (-(T:Int)) x w->IsI k2 (m:Int) y w->Calls prog 23 #[x,y] w (Ret w (iV 0))))(HCP:Hid (decide (((Int.gcd (m:Int) (2*(-(T:Int))):Nat):Int)=1)=true)){names:List Int}(HNM:Hid (chN T=names))(HM:Hid (0<m/\m<=1048576)):Calls prog 15 #[x,y] w (Ret w (IsT2 (IRx (names.map λc=>chV c m)) (iV 0))):=by
 obtain⟨s1,a1,n1,c1,s2,a2,n2,c2,W,rfl,rfl,hW,S⟩:=en2 hx hy;go_enter func15,ntmps15;go_upto_region 1 with fail;rw[<-hW];clear hW;refine rgt S 4 [some 11,some 12,some 13,some 6] [IsI k1 ((-(T:Int))),IsI k2 ((m:Int)),iV 0,iV 0] ?_ ?_
 ·refine Rc zf ?_;refine Rc zg ?_;refine Rc (cl2 (en func23) (qA (fP:=IsI k1 ((-(T:Int)))) 0 11) (qA (fP:=IsI k2 ((m:Int))) 1 12) (λx0 x1 w' hE d0 d1=>HRF.out _ _ _ d0 d1)) ?_;refine Rc zc0 ?_;exact rn0
 intro v W1 S hH;simp only[lxE,Nat.reduceAdd];rw[show v 3=.int .i64 0 from hH 3 dcx];clear hH;go_upto_region 2 with fail;refine rgt S 2 [some 14,some 15] [iV 0,IsV (.bool false)] ?_ ?_
 ·refine Rc zaa ?_;refine Rc zar ?_;exact rn0
 intro v W2 S hH;simp only[lxE,Nat.reduceAdd];rw[show v 1=.bool false from hH 1 dcx];clear hH;go_upto_region 4 with fail;refine rgt S 4 [some 17,some 18,some 19,some 20] [IsI k2 ((m:Int)),IsI k1 ((-(T:Int))),IsV (.bool true),IsV (.bool false)] ?_ ?_
 ·refine Rc zg ?_;refine Rc zf ?_;refine Rc (cl2 (en func35) (qA (fP:=IsI k2 ((m:Int))) 0 17) (qA (fP:=IsI k1 ((-(T:Int)))) 1 18) (λx0 x1 w' hE d0 d1=>Coprime_f d0 d1 (hid zl) HCP)) ?_;refine Rc (nt (qC 2 19)) ?_;exact rn0
 intro v W4 S hH;simp only[lxE,Nat.reduceAdd];rw[show v 3=.bool false from hH 3 dcx];clear hH;go_upto_region 6 with fail;refine rgt S 7 [some 22,some 23,some 21,some 24,some 25,some 7,some 8] [IsI k1 ((-(T:Int))),IsT2 (IRx names) (iV 0),IsT2 (IRx names) (iV 0),IRx names,iV 0,IRx names,iV 0] ?_ ?_ (hst:=by repeat' (first|exact trivial|exact IRx.stb _|exact IsV.stb _|exact IsI.stb _ _|exact IsBo.stb _ _|apply IsT2.stb|apply IsT3.stb|apply IsJ.stb|apply IsQ.stb|apply IsF.stb|apply zJ))
 ·refine Rc zf ?_;refine Rc (cl1 (en func55) (qA (fP:=IsI k1 ((-(T:Int)))) 0 22) (λx0 w' hE d0=>rCharacters_x d0 (hid zl) HN HNM)) ?_;refine Rc (mv (qA 1 23)) ?_;refine Rc (ex (qC 2 21) t20) ?_;refine Rc (ex (qC 2 21) t21) ?_;refine Rc (mv (qA 3 24)) ?_;refine Rc (mv (qA 4 25)) ?_;exact rn0
 intro v W6 S hH;obtain⟨u7,hu7,k7⟩:∃vv_,v 5=vv_/\(IRx names) vv_ W6:=⟨_,rfl,hH 5 dcx⟩;simp only[lxE,Nat.reduceAdd];rw[hu7];clear hu7 hH;go_upto_region 7 with fail;obtain⟨ao,cap,rfl,hq1,hq2,hq4⟩:=k7.shape;have HE:=hid S.ext;have HQ:=hid hq4;have hlen:=(chN_le (n:=T) HN.out.1).1;rw[HNM.out]at hlen;have HB:=hid hlen;have hnn:=HN.out.2.1;have hlc:names.length<=cap/\cap<=9223372036854775807:=⟨hq1,hq2⟩;have S5:=hid S;clear hq4 k7 hq1 hq2;go_upto_region 9 with fail;obtain⟨w0,hw0⟩:∃w0,W6.alloc (.cells #[] 3)=w0:=⟨_,rfl⟩;have HC0:=hid (show IR W6.heap.size w0 (.slice (some ⟨W6.heap.size,0,none⟩) 0 0) []/\Ext W6 w0 from⟨hw0▸IR.zero W6 (zL _),hw0▸(Ext.refl _).alloc _⟩);rw[hw0];clear hw0;generalize hv0:Value.slice (some ⟨W6.heap.size,0,none⟩) 0 0=v0 at*;clear hv0
 go_loopg [9,10] names.length (λgk v9 v10 wr=>∃i:Nat,v10=.int .i64 (i:Int)/\i+gk=names.length/\Hid (IR W6.heap.size wr v9 ((names.take i).map (λc=>chV c m))/\Ext W6 wr))
 case atStart=>exact⟨0,rfl,by omega,HC0⟩
 case round=>
  clear HC0 S;obtain⟨i,rfl,hg,HR⟩:=hrel;rcases zI gk with h0|h0
  ·obtain rfl:i=names.length:=by omega
   have hdec:decide (((names.length:Nat):Int)<((names.length:Nat):Int))=false:=zh
   clear hg;go_wp2_with fail;have hO:=HR.out.1;rw[List.take_length]at hO;exact zD (v:=.tuple #[u9,.int .i64 0]) (by simp[results,results15,go_sem]) rfl ⟨_,rfl,HE.out.trans HR.out.2,_,_,rfl,⟨_,hO⟩,rfl⟩
  ·have hi:i<names.length:=by omega
   obtain⟨c,hc⟩:∃c,names[i]? =some c:=⟨names[i],List.getElem?_eq_getElem hi⟩;obtain⟨g,rfl,hgw,hgc⟩:=HQ.out (by rintro rfl;simp at hi);have M1:=HR.out.2.cell (hgc _ _ hc);have S6:=S5.out.mono HR.out.2;obtain⟨s2,a2,n2,c2,B2,h2⟩:=S6.at 0 _ _ _ rfl;have L2a:World.cell? wr ⟨w.heap.size+1,0,none⟩=some (.bool s2):=B2.c0;have L2b:World.cell? wr ⟨w.heap.size+1,1,none⟩=some (.slice a2 n2 c2):=B2.c1;have hdec:decide ((i:Int)<((names.length:Nat):Int))=true:=jl
   have HG:=hid (zJ hg (zJ h0 (zJ hc hi)));have hcb:=(chN_le (n:=T) HN.out.1).2 c (by rw[HNM.out];exact List.mem_of_getElem? hc);have hcon:=λ(w':World) (x:Value) (hx:IsI k2 (m:Int) x w')=>rvalue_f hx zl zbm c (by rcases hcb with h|h;exact .inl h;exact .inr zda)
   have hcap2:i<cap:=zb
   have HLE:=hid (show((names.take i).map (λc=>chV c m)).length<=4194306 by have:=HB.out;simp;omega);clear hcb B2 hg h0 hc h2 hgc;have HI:=hid (show i<names.length/\IntKind.i64.wrap ((i:Int)+1)=(i:Int)+1 by have:=HB.out;simp only[IntKind.wrap_i64];omega);go_upto_region 11 with fail;refine rg 8 [some 33,some 34,some 35,some 36,some 37,some 38,some 39,some 40] [IsV u9,IsV (.slice (some ⟨g,0,none⟩) names.length cap),iV (i:Int),IsV (.pointer (some ⟨g,i,none⟩)),iV c,IsI k2 (m:Int),iV (chV c m),NewI (chV c m)] [] 2 ?_ ?_ (hst:=by repeat' (first|exact trivial|exact NewI.stb _|exact IsV.stb _|exact IsI.stb _ _|apply zJ))
   ·refine Rc zdg ?_;refine Rc xa ?_;refine Rc zae ?_;refine Rc (ix (ia_li g i names.length cap HI.out.1) (qA 1 34) (qA 2 35)) ?_;refine Rc (ldG (λw' e=>e.cell M1) (qA 3 36)) ?_;refine Rc (ldI S6 0 (w.heap.size+1) 0 (qD 3) qG) ?_;refine Rc (cl2 (en func56) (qA (fP:=iV c) 4 37) (qA (fP:=IsI k2 (m:Int)) 5 38) (λx0 x1 w' hE d0 d1=>by{obtain rfl:x0=.int .i64 c:=d0;exact hcon w' x1 d1})) ?_;refine Rc (bI1 (u:=chV c m) (qA 6 39)) ?_;exact rn0
   intro v W1 e1 hH _;have v0:v 0=u9:=hH 0 dcx;obtain⟨g1,v7,hc7⟩:=(hH 7 dcx:NewI (chV c m) (v 7) W1);simp only[lxE,Nat.reduceAdd];rw[v0,v7];clear v0 v7 hH;refine wpAny_seqL 8 (by simp only[dxE];rfl) rfl za ?_;refine qX rfl _ _ 41 rfl W6.heap.size 3 (.int .i64 0) 1 8 za xV rfl dcx _ _ _ rfl (HR.out.1.ext e1) _ 1 _ [.int .i64 (chV c m)] rfl rfl (λj q hj=>NewI.at hc7 j q hj) zx yf yf (by have h1:=HR.out.2.size;have h2:=e1.size;omega) ?_;intro v9 w9 hr9 hg9 hb9;have HC:=hid (zJ (IR.add hr9) (Below.ext (HR.out.2.trans e1) hb9 (zL _)));clear hr9 hg9 hb9;simp only[Act.put,uAx,u0x,u1x,Nat.reduceAdd];refine zT λK hK=>?_;go_simp;refine hK _ _ ?_;clear hK K
   refine zF ?_;have hi1:=HI.out.2;go_wp2_with fail
   go_roundg (gk-1)
   case measure=>have:=HG.out;omega
   case rel=>
    obtain⟨g1,g2,g3,g4⟩:=HG.out;refine⟨i+1,by rw[zV];rfl,by omega,hid ⟨?_,HC.out.2⟩⟩;have h7:=HC.out.1;rw[List.take_add_one,g3,List.map_append];exact h7
end Go.Proofs.YtknffgdbdadpcaaGreatDoor
