/-
 Package genus: Characters, at a discriminant.
 Rows of ints that a call makes whole and fills.
 Package density: Genus, at a discriminant. (Printed by wip/gen/den12.py.)
-/
import Derived.Test.YtknffgdbdadpcaaGreatDoorDen36
namespace Go.Proofs.YtknffgdbdadpcaaGreatDoor
open Go Go.RowKit
open Go.Proofs.Tryz
theorem zes{P:Prop}(h:P:=by exact cl2 (en func52) (qA (fP:=IsI ((max k2 (2+k1))) ((gg:Int))) 0 24) (qA (fP:=IsI 2 1) 1 25) (λx0 x1 w' hE d0 d1=>zC (jB d0 d1 zl dcx) λ_ _ h=>h.int HCV.out)):P:=h
theorem zc6{P:Prop}(h:P:=by have hh:=jC d0 d1 HK.out.1 HK.out.2 HNN.out HL.out;rw[HU.out]at hh;exact hh):P:=h
set_option maxRecDepth 100000
set_option maxHeartbeats 8000000
def IR(base:Nat)(W:World)(v:Value)(xs:List Int):Prop:=Rwg 3 1 base W v xs.length (xs.map λx=> .int .i64 x)
theorem xV:(prog.info? 3).map (λi=>(i.zero,i.size,i.bytes))=some (some (.int .i64 0),1,8):=by kernel_rfl
theorem chO_le:∀(f p n:Nat),2<=p->0<n->(chO f p n).length<=f/\∀c∈chO f p n,0<c/\c<=((n:Nat):Int)
 |0,_,_,_,_=>by simp[chO]
 | f+1,p,n,hp,hn=>by
  unfold chO;by_cases h1:n<=1
  ·rw[if_pos h1];simp
  rw[if_neg h1];dsimp only;obtain⟨q,hq⟩:∃q,q=if n<p*p then n else p:=⟨_,rfl⟩
  rw[<-hq];have hq2:2<=q:=by rw[hq];split <;> omega
  obtain⟨m,e,hm,m0⟩:=xS hq2 hn
  have hR:n/q^vl q n=m:=by
   conv=>lhs;lhs;rw[e]
   exact Nat.mul_div_cancel_left m (Nat.pow_pos zb)
  rw[hR];have hle:m<=n:=zdt
  obtain⟨h2,h3⟩:=chO_le f (q+2) m zb m0;constructor
  ·rw[zP];split <;> simp <;> omega
  ·intro c hc;rcases List.mem_append.1 hc with h|h
   ·by_cases hd:n%q=0
    ·rw[if_pos hd,List.mem_singleton]at h;subst h;have:=Nat.le_of_dvd hn (Nat.dvd_of_mod_eq_zero hd);omega
    ·rw[if_neg hd]at h;cases h
   ·have:=h3 c h;omega
theorem chN_le{n:Nat}(hn:0<n):(chN n).length<=n+2/\∀c∈chN n,(c= -4\/c=8\/c= -8)\/(0<c/\c<=((n:Nat):Int)):=by
 obtain⟨m,e,hm,m0⟩:=xS (p:=2) dcx hn
 have hR:n/2^vl 2 n=m:=by
  conv=>lhs;lhs;rw[e]
  exact Nat.mul_div_cancel_left m (Nat.pow_pos dcx)
 have hle:m<=n:=zdt
 have h2:(ch2 n).length<=2/\∀c∈ch2 n,c= -4\/c=8\/c= -8:=by
  unfold ch2
  repeat' split
  all_goals simp
 obtain⟨h3,h4⟩:=chO_le n 3 m dcx m0;unfold chN;rw[hR];constructor
 ·rw[zP];omega
 ·intro c hc;rcases List.mem_append.1 hc with h|h
  ·have:=h4 c h;right;omega
  ·exact .inl (h2.2 c h)
theorem Characters_f{k1 n:Nat}{x:Value}{w:World}(hx:IsI k1 (-(n:Int)) x w)(l1:k1<=16777216)(hn:1<=n/\n<=4194304/\(n%4=0\/n%4=3)):
  Calls prog 53 #[x] w (Ret w (λr W'=>∃v,r=.tuple #[v,.int .i64 0]/\IR w.heap.size W' v (chN n))):=by
 have hstf:∀(a:Addr) (fn:Fn) (first cap:Array Value) (w:World),(store a (.func fn first cap)).run prog w=stored prog w a (.func fn first cap) .plain:=λa fn first cap w=>run_store prog w a _ .plain rfl
 have HN:=hid hn;have hb:=(chN_le (n:=n) zb).1;obtain⟨names,hnames⟩:∃l,chN n=l:=⟨_,rfl⟩;rw[hnames]at hb ⊢;have HNM:=hid hnames;have HB:=hid hb;obtain⟨s1,a1,n1,c1,rfl,h1⟩:=hx;have h1:IsI k1 (-(n:Int)) (.agg #[.bool s1,.slice a1 n1 c1]) w:=⟨_,_,_,_,rfl,h1⟩;obtain⟨W,hW,S⟩:∃W,W=w.alloc (.cells #[.bool s1,.slice a1 n1 c1] 33)/\Sto w W [((w.heap.size,0),IsI k1 (-(n:Int)))]:=⟨_,rfl,((Sto.start w).new1 (w.heap.size) zh s1 a1 n1 c1 33 _ (IsI.gstb _ _) h1)⟩;clear h1 hn hnames hb;go_enter func53,ntmps53;go_upto_region 1 with fail;rw[<-hW];clear hW;obtain⟨s1,a1,n1,c1,B1,h1⟩:=S.at 0 _ _ _ rfl;have L1a:World.cell? W ⟨w.heap.size,0,none⟩=some (.bool s1):=B1.c0;have L1b:World.cell? W ⟨w.heap.size,1,none⟩=some (.slice a1 n1 c1):=B1.c1;have hcon:=right_f h1 l1 HN.out;have hasg:=λw1=>assigned_f w1 n ⟨HN.out.1,HN.out.2.1⟩
 clear B1;go_upto_region 6 with(first| (go_at_call 101;go_must (refine zC hcon ?_;rintro e w1 ⟨_,rfl,E1,_,_,rfl,rfl,rfl⟩))| (go_at_call 83;go_must (refine zC (hasg _) ?_;rintro e w2 ⟨v2,rfl,E2,hr2⟩;rw[HNM.out]at hr2;obtain⟨cells,hrow,hcl,_⟩:=hr2;obtain⟨ao,cap,rfl,hq1,hq2,hq3,hq4⟩:=hrow.shape)));have HQ:=hid (zJ hq1 (zJ hq2 (zJ hq3 hq4)));have HCL:=hid hcl;have HE:=hid ((S.ext.trans E1).trans E2);have HROW:=hid hrow;have HSW:=hid (show w.heap.size<=w2.heap.size from((S.ext.trans E1).trans E2).size);clear hq1 hq2 hq3 hq4 hcl hrow hcon hasg E1 E2 S h1 L1a L1b l1
 go_loopg [6,20] names.length (λgk v6 v20 wr=>∃i:Nat,v20=.int .i64 (i:Int)/\i+gk=names.length/\Hid (Rwg 3 1 w2.heap.size wr v6 i ((names.take i).map λx=> .int .i64 x)/\Ext w2 wr))
 case atStart=>exact⟨0,rfl,by omega,hid ⟨Rwg.nil _ _ _ _,Ext.refl _⟩⟩
 case round=>
  obtain⟨i,rfl,hg,HR⟩:=hrel;rcases zI gk with h0|h0
  ·obtain rfl:i=names.length:=by omega
   have hdec:decide (((names.length:Nat):Int)<((names.length:Nat):Int))=false:=zh
   clear hg h0;go_wp2_with fail;have hrow:=HR.out.1.base HSW.out;rw[List.take_length]at hrow;exact zD (v:=.tuple #[u6,.int .i64 0]) (by simp[results,results53,go_sem]) rfl ⟨_,rfl,HE.out.trans HR.out.2,_,rfl,hrow⟩
  ·have hi:i<names.length:=by omega
   obtain⟨c,hc⟩:∃c,names[i]? =some c:=⟨names[i],List.getElem?_eq_getElem hi⟩;obtain⟨g,rfl,hgb,hgw,hgc⟩:=HQ.out.2.2.2 zb;obtain⟨hc1,fn,fa,fb,hc2⟩:=HCL.out i c hc;rw[Nat.mul_comm 2 i]at hc1 hc2;have M1:=HR.out.2.cell (hgc _ _ hc1);have M2:=HR.out.2.cell (hgc _ _ hc2);have hdec:decide ((i:Int)<((names.length:Nat):Int))=true:=jl
   have hq:names.length<=cap/\cap<=9223372036854775807:=⟨HQ.out.1,HQ.out.2.1⟩;have hcapi:i<cap:=zb
   have HG:=hid (zJ hg h0);clear hgc hgb hc1 hc2 hg h0;have hlen:((names.take i).map λx=>Value.int .i64 x).length=i:=jl
   have hbb:=HB.out;have hn2:=HN.out.2.1;go_wp2_with (at_builtin;go_must (refine qX rfl _ _ 41 rfl w2.heap.size 3 (.int .i64 0) 1 8 za xV rfl dcx _ _ _ rfl ((HR.out.1.ext ((Ext.refl _).alloc _)).ext ((Ext.refl _).alloc _)) _ 1 _ _ rfl rfl (qP _ _ _ _ zh) zx zb zb (by have h1:=HR.out.2.size;simp;omega) ?_;intro v9 w9 hr9 hg9 hb9))
   have hx:=hid (zJ hr9 (Below.ext ((HR.out.2.alloc _).alloc _) hb9 (zL _)));clear hr9 hg9 hb9 M1 M2 hlen hbb hn2
   go_roundg (gk-1)
   case measure=>have:=HG.out;omega
   case rel=>exact⟨i+1,by rw[zV];rfl,by have:=HG.out;omega,hid ⟨by rw[List.take_add_one,hc];simpa using hx.out.1,hx.out.2⟩⟩
def icells(ys:List Int):Array Value:=(ys.map λx=>Value.int .i64 x).toArray
def OwnI(w:World)(g:Nat)(ys:List Int):Prop:=w.heap[g]? =some (.cells (icells ys) 3)
theorem OwnI.lt{w:World}{g:Nat}{ys:List Int}(h:OwnI w g ys):g<w.heap.size:=(Array.getElem?_eq_some_iff.1 h).1
theorem OwnI.cell{w:World}{g:Nat}{ys:List Int}(h:OwnI w g ys){j:Nat}{y:Int}(hj:ys[j]? =some y):w.cell? ⟨g,j,none⟩=some (.int .i64 y):=by
 simp only[World.cell?];unfold OwnI at h;rw[h];show(icells ys)[j]? =_;simp[icells,hj]
theorem OwnI.free{w:World}{g:Nat}{ys:List Int}(h:OwnI w g ys)(j:Nat):w.frozen? ⟨g,j,none⟩=false:=by
 simp only[World.frozen?];unfold OwnI at h;rw[h];simp
theorem OwnI.set{w:World}{g:Nat}{ys:List Int}(h:OwnI w g ys)(i:Nat)(y:Int):OwnI (w.setCell ⟨g,i,none⟩ (.int .i64 y)) g (ys.set i y):=by
 unfold OwnI at*;simp only[World.setCell,Array.getElem?_modify,if_true];rw[h];simp[icells,List.map_set]
theorem OwnI.ext{w w':World}{g:Nat}{ys:List Int}(h:OwnI w g ys)(e:Ext w w'):OwnI w' g ys:=by
 have:=Below.block e g h.lt;unfold OwnI at*;rw[this];exact h
theorem OwnI.row{w:World}{g:Nat}{ys:List Int}(h:OwnI w g ys){base:Nat}(hb:base<=g)(hm:ys.length<=9223372036854775807):IR base w (.slice (some ⟨g,0,none⟩) ys.length ys.length) ys:=by
 refine⟨by simp,.inr ⟨g,ys.length,icells ys,rfl,hb,h,zL _,hm,by simp[icells],?_⟩⟩;simp[icells,<-List.map_take]
theorem wpl_makeI{w:World}{ops:Array Oper}{rest:List Oper}{o:Oper}{a:Act}{Q:Exit->Act->World->Prop}
  (hg:o.guard=none) (l c:Operand) (t:TypeId) (hop:o.op=Op.makeSlice t l c) (ht:prog.underlying t=some (.slice 3))
  (L C:Int) (n:Nat) (hl:a.eval l=.int .i64 L) (hc:a.eval c=.int .i64 C) (hL:L=(n:Int)) (hC:C=(n:Int)) (hn:n<=1099511627776)
  (hK:∀w',Ext w w'->OwnI w' w.heap.size (List.replicate n 0)->wpList prog ops Q rest (a.put o.dst (.slice (some ⟨w.heap.size,0,none⟩) n n)) w'):
  wpList prog ops Q (o ::rest) a w:=by
 obtain⟨i,hi,hz0,hz1,hz2⟩:=info_parts xV;refine wpList_make_full w hg l c t hop w.heap.size 3 i (.int .i64 0) 1 ht hi hz0 hz1 .i64 .i64 L C n hl hc hL hC (by rw[hz2];omega) (by unfold maxLen;omega) (zL _) ?_;intro w' hown hgr;obtain⟨hlen,h1| ⟨g,cap,cur,h2,h3,h4,h5,h6,h7,h8⟩⟩:=hown
 ·simp at h1
 ·simp only[Value.slice.injEq,Option.some.injEq,Addr.mk.injEq,and_true,true_and]at h2;obtain⟨h2,rfl⟩:=h2;subst h2;refine hK w' ⟨hgr.os,hgr.tape,hgr.output,hgr.size,λk hk=>hgr.block k hk zh⟩ ?_;unfold OwnI;rw[h4]
  have e1:cur.toList=List.replicate n (.int .i64 0):=by
   rw[List.take_of_length_le (by simp;omega)]at h8;rw[h8,show(Value.int IntKind.i64 0).cells= #[.int .i64 0]from rfl,toList_madeCells_one];simp
  simp only[icells,List.map_replicate,<-e1,Array.toArray_toList]
theorem IR.ext{base:Nat}{W W':World}{v:Value}{xs:List Int}(h:IR base W v xs)(E:Ext W W'):IR base W' v xs:=Rwg.ext h E
def IRx(xs:List Int):Value->World->Prop:=λv W=>∃base,IR base W v xs
theorem IRx.stb(xs:List Int):Stb (IRx xs):=λ_ _ _ e ⟨b,h⟩=>⟨b,h.ext e⟩
theorem IRx.shape{xs:List Int}{v:Value}{W:World}(h:IRx xs v W):∃ao cap,v=.slice ao xs.length cap/\xs.length<=cap/\cap<=9223372036854775807/\(xs≠ []->∃g,ao=some ⟨g,0,none⟩/\g<W.heap.size/\∀j x,xs[j]? =some x->W.cell? ⟨g,j,none⟩=some (.int .i64 x)):=by
 obtain⟨b,h⟩:=h;obtain⟨ao,cap,h1,h2,h3,h4,h5⟩:=h.shape;refine⟨ao,cap,h1,h2,h3,λhne=>?_⟩;obtain⟨g,h6,h7,h8,h9⟩:=h5 (λh=>hne (List.length_eq_zero_iff.1 h));exact⟨g,h6,h8,λj x hj=>h9 j _ (by simp[hj])⟩
theorem Characters_x{k1 n:Nat}{x:Value}{w:World}(hx:IsI k1 (-(n:Int)) x w)(l1:k1<=16777216)(hn:1<=n/\n<=4194304/\(n%4=0\/n%4=3)):
  Calls prog 53 #[x] w (Ret w (IsT2 (IRx (chN n)) (iV 0))):=
 (Characters_f hx l1 hn).mono λ_ _ ⟨r,h1,h2,v,h3,h4⟩=>⟨r,h1,h2,v,_,h3,⟨_,h4⟩,rfl⟩
theorem fill_step(f:Int->Int)(names:List Int)(i gk:Nat)(c:Int)(hc:names[i]? =some c)(hi:i<names.length)(h0:0<gk):
  ((names.take i).map f++List.replicate gk 0).set i (f c)=(names.take (i+1)).map f++List.replicate (gk-1) 0:=by
 obtain⟨k,rfl⟩:∃k,gk=k+1:=⟨gk-1,by omega⟩;rw[List.take_add_one,hc,List.map_append,List.replicate_succ,List.set_append_right _ _ (by simp;omega)];simp[Nat.min_eq_left (Nat.le_of_lt hi)]
theorem Genus_c{k1 k2 n L:Nat}{z ue:Int}{x y:Value}{w:World}(hx:IsI k1 (-(n:Int)) x w)(hy:IsI k2 z y w)(HK:Hid (k1<=16777216/\k2<=16777216))(HNN:Hid (1<=n/\n<=4194304/\(n%4=0\/n%4=3)))(HL:Hid (L*L<=n/\n<(L+1)*(L+1)))(HU:Hid (unsE (cdB n L) z=ue))(HUB:Hid ((ue !=0)=false)){gg:Nat}{cv:Int}(HGG:Hid (((Int.gcd z (2* -(n:Int)):Nat):Int)=(gg:Int)))(HCV:Hid (qK (gg:Int) 1=cv))(HCB:Hid ((cv !=0)=true)):Calls prog 14 #[x,y] w (Ret w (IsT2 (IRx []) (iV 1))):=by
 obtain⟨s1,a1,n1,c1,s2,a2,n2,c2,W,rfl,rfl,hW,S⟩:=en2 hx hy;go_enter func14,ntmps14;go_upto_region 1 with fail;rw[<-hW];clear hW;refine rgt S 4 [some 13,some 14,some 15,some 6] [IsI k1 (-(n:Int)),IsI k2 z,iV ue,iV ue] ?_ ?_
 ·refine Rc zf ?_;refine Rc zg ?_;refine Rc (cl2 (en func39) (qA (fP:=IsI k1 (-(n:Int))) 0 13) (qA (fP:=IsI k2 z) 1 14) (λx0 x1 w' hE d0 d1=>zc6)) ?_;refine Rc zdm ?_;exact rn0
 intro v W1 S hH;simp only[lxE,Nat.reduceAdd];rw[show v 3=.int .i64 ue from hH 3 dcx];clear hH;go_upto_region 2 with fail;refine rgt S 2 [some 16,some 17] [iV ue,IsV (.bool false)] ?_ ?_
 ·refine Rc zaa ?_;refine Rc (bn (r:=.bool false) (qC 0 16) qE (hr:=λw=>by have hx9:=HUB.out;go_simp)) ?_;exact rn0
 intro v W2 S hH;simp only[lxE,Nat.reduceAdd];rw[show v 1=.bool false from hH 1 dcx];clear hH;go_upto_region 4 with fail;have hl:=hid S.lt;have hw:=S.ext.size;refine rgn 7 [some 19,some 20,some 21,some 22,some 23,some 7,none] [IsI k2 z,IsI 2 2,IsI k1 (-(n:Int)),IsI ((2+k1)) ((2* -(n:Int))),IsI ((max k2 (2+k1))) ((gg:Int)),IsNw W2 1,TT] [5] [none,none,none,none,none,none,some (5, [IsI ((max k2 (2+k1))) ((gg:Int))])] [none,none,none,none,none,none,some 5] 0 ?_ ?_
 ·refine RcK (ldI S 0 (w.heap.size+1) 0 (qD 3) qG) ?_;refine RcK (cl1 (en func41) qE (λx0 w' hE d0=>by{obtain rfl:x0=.int .i64 2:=d0;exact xT _ 2 dcx dcx})) ?_;refine RcK (ldI S 1 (w.heap.size) 0 (qD 2) qG) ?_;refine RcK (cl2 (en func51) (qA (fP:=IsI 2 2) 1 20) (qA (fP:=IsI k1 (-(n:Int))) 2 21) (λx0 x1 w' hE d0 d1=>Mul_f d0 d1 dcx zl)) ?_;refine RcK (cl2 (en func50) (qA (fP:=IsI k2 z) 0 19) (qA (fP:=IsI ((2+k1)) ((2* -(n:Int)))) 3 22) (λx0 x1 w' hE d0 d1=>(by have hh:=Gcd_f d0 d1 zl zl;rw[HGG.out]at hh;exact hh))) ?_;refine RcK (alN qR) ?_;refine RcS 5 (sI qJ (qA (fP:=IsI ((max k2 (2+k1))) ((gg:Int))) 4 23)) ?_;exact RgAllN.nil
 intro v W4 e1 hH hS _;replace S:=S.mono e1;obtain⟨g7,v5,q1,S2⟩:=S.addI (hH 5 dcx rfl) (hS 6 dcx _ _ rfl) hw (IsI.gstb _ _);replace S:=S2 (ApartO.old hl.out q1);clear S2;simp only[lxE,Nat.reduceAdd];rw[v5];clear hl hw v5 hH hS e1;refine zO za ?_ _;go_upto_region 5 with fail;refine rg 4 [some 24,some 25,some 26,some 27] [IsI ((max k2 (2+k1))) ((gg:Int)),IsI 2 1,iV cv,IsV (.bool true)] [] 0 ?_ ?_
 ·refine Rc zbx ?_;refine Rc zm ?_;refine Rc zes ?_;refine Rc (bn (r:=.bool true) (qC 2 26) qE (hr:=λw=>by have hx9:=HCB.out;go_simp)) ?_;exact rn0
 intro v W5 e1 hH _;replace S:=S.mono e1;simp only[lxE,Nat.reduceAdd];rw[show v 3=.bool true from hH 3 dcx];clear hH e1;refine zO za ?_ _;go_upto_region 6 with fail;refine rgt S 2 [some 4,some 5] [IsV (.slice none 0 0),iV 1] ?_ ?_
 ·refine Rc zaf ?_;refine Rc zaf ?_;exact rn0
 intro v W6 S hH;simp only[lxE,Nat.reduceAdd];rw[show v 0=.slice none 0 0 from hH 0 dcx,show v 1=.int .i64 1 from hH 1 dcx];clear hH;go_wp2_with fail;exact zD (v:=.tuple #[.slice none 0 0,.int .i64 1]) (by simp[results,results14,go_sem]) rfl (⟨_,rfl,S.ext,⟨_,_,rfl,⟨0,Rwg.nil _ _ _ _⟩,rfl⟩⟩)
theorem Genus_k{k1 k2 n L:Nat}{m:Nat}{ue:Int}{x y:Value}{w:World}(hx:IsI k1 (-(n:Int)) x w)(hy:IsI k2 (m:Int) y w)(HK:Hid (k1<=16777216/\k2<=16777216))(HNN:Hid (1<=n/\n<=4194304/\(n%4=0\/n%4=3)))(HL:Hid (L*L<=n/\n<(L+1)*(L+1)))(HU:Hid (unsE (cdB n L) (m:Int)=ue))(HUB:Hid ((ue !=0)=false)){gg:Nat}{cv:Int}(HGG:Hid (((Int.gcd (m:Int) (2* -(n:Int)):Nat):Int)=(gg:Int)))(HCV:Hid (qK (gg:Int) 1=cv))(HCB:Hid ((cv !=0)=false)){names:List Int}(HNM:Hid (chN n=names))(HM:Hid (0<m/\m<=1048576))(HSG:Hid (Sg w)):Calls prog 14 #[x,y] w (Ret w (IsT2 (IRx (names.map λc=>chV c m)) (iV 0))):=by
 obtain⟨s1,a1,n1,c1,s2,a2,n2,c2,W,rfl,rfl,hW,S⟩:=en2 hx hy;go_enter func14,ntmps14;go_upto_region 1 with fail;rw[<-hW];clear hW;refine rgt S 4 [some 13,some 14,some 15,some 6] [IsI k1 (-(n:Int)),IsI k2 (m:Int),iV ue,iV ue] ?_ ?_
 ·refine Rc zf ?_;refine Rc zg ?_;refine Rc (cl2 (en func39) (qA (fP:=IsI k1 (-(n:Int))) 0 13) (qA (fP:=IsI k2 (m:Int)) 1 14) (λx0 x1 w' hE d0 d1=>zc6)) ?_;refine Rc zdm ?_;exact rn0
 intro v W1 S hH;simp only[lxE,Nat.reduceAdd];rw[show v 3=.int .i64 ue from hH 3 dcx];clear hH;go_upto_region 2 with fail;refine rgt S 2 [some 16,some 17] [iV ue,IsV (.bool false)] ?_ ?_
 ·refine Rc zaa ?_;refine Rc (bn (r:=.bool false) (qC 0 16) qE (hr:=λw=>by have hx9:=HUB.out;go_simp)) ?_;exact rn0
 intro v W2 S hH;simp only[lxE,Nat.reduceAdd];rw[show v 1=.bool false from hH 1 dcx];clear hH;go_upto_region 4 with fail;have hl:=hid S.lt;have hw:=S.ext.size;refine rgn 7 [some 19,some 20,some 21,some 22,some 23,some 7,none] [IsI k2 (m:Int),IsI 2 2,IsI k1 (-(n:Int)),IsI ((2+k1)) ((2* -(n:Int))),IsI ((max k2 (2+k1))) ((gg:Int)),IsNw W2 1,TT] [5] [none,none,none,none,none,none,some (5, [IsI ((max k2 (2+k1))) ((gg:Int))])] [none,none,none,none,none,none,some 5] 0 ?_ ?_
 ·refine RcK (ldI S 0 (w.heap.size+1) 0 (qD 3) qG) ?_;refine RcK (cl1 (en func41) qE (λx0 w' hE d0=>by{obtain rfl:x0=.int .i64 2:=d0;exact xT _ 2 dcx dcx})) ?_;refine RcK (ldI S 1 (w.heap.size) 0 (qD 2) qG) ?_;refine RcK (cl2 (en func51) (qA (fP:=IsI 2 2) 1 20) (qA (fP:=IsI k1 (-(n:Int))) 2 21) (λx0 x1 w' hE d0 d1=>Mul_f d0 d1 dcx zl)) ?_;refine RcK (cl2 (en func50) (qA (fP:=IsI k2 (m:Int)) 0 19) (qA (fP:=IsI ((2+k1)) ((2* -(n:Int)))) 3 22) (λx0 x1 w' hE d0 d1=>(by have hh:=Gcd_f d0 d1 zl zl;rw[HGG.out]at hh;exact hh))) ?_;refine RcK (alN qR) ?_;refine RcS 5 (sI qJ (qA (fP:=IsI ((max k2 (2+k1))) ((gg:Int))) 4 23)) ?_;exact RgAllN.nil
 intro v W4 e1 hH hS _;replace S:=S.mono e1;obtain⟨g7,v5,q1,S2⟩:=S.addI (hH 5 dcx rfl) (hS 6 dcx _ _ rfl) hw (IsI.gstb _ _);replace S:=S2 (ApartO.old hl.out q1);clear S2;simp only[lxE,Nat.reduceAdd];rw[v5];clear hl hw v5 hH hS e1;refine zO za ?_ _;go_upto_region 5 with fail;refine rg 4 [some 24,some 25,some 26,some 27] [IsI ((max k2 (2+k1))) ((gg:Int)),IsI 2 1,iV cv,IsV (.bool false)] [] 0 ?_ ?_
 ·refine Rc zbx ?_;refine Rc zm ?_;refine Rc zes ?_;refine Rc (bn (r:=.bool false) (qC 2 26) qE (hr:=λw=>by have hx9:=HCB.out;go_simp)) ?_;exact rn0
 intro v W5 e1 hH _;replace S:=S.mono e1;simp only[lxE,Nat.reduceAdd];rw[show v 3=.bool false from hH 3 dcx];clear hH e1;refine zO za ?_ _;go_upto_region 7 with fail;refine rgt S 7 [some 29,some 30,some 28,some 31,some 32,some 8,some 9] [IsI k1 (-(n:Int)),IsT2 (IRx names) (iV 0),IsT2 (IRx names) (iV 0),IRx names,iV 0,IRx names,iV 0] ?_ ?_ (hst:=by repeat' (first|exact trivial|exact IRx.stb _|exact IsV.stb _|exact IsI.stb _ _|exact IsBo.stb _ _|apply IsT2.stb|apply IsT3.stb|apply IsJ.stb|apply IsQ.stb|apply zJ))
 ·refine Rc zay ?_;refine Rc (cl1 (en func53) (qA (fP:=IsI k1 (-(n:Int))) 0 29) (λx0 w' hE d0=>(by have hh:=Characters_x d0 HK.out.1 HNN.out;rw[HNM.out]at hh;exact hh))) ?_;refine Rc (mv (qA 1 30)) ?_;refine Rc (ex (qC 2 28) t20) ?_;refine Rc (ex (qC 2 28) t21) ?_;refine Rc (mv (qA 3 31)) ?_;refine Rc (mv (qA 4 32)) ?_;exact rn0
 intro v W7 S hH;obtain⟨u8,hu8,k8⟩:∃vv_,v 5=vv_/\(IRx names) vv_ W7:=⟨_,rfl,hH 5 dcx⟩;have v6:v 6=.int .i64 0:=hH 6 dcx;simp only[lxE,Nat.reduceAdd];rw[hu8,v6];clear hu8 v6 hH;go_upto_region 8 with fail;obtain⟨ao,cap,rfl,hq1,hq2,hq4⟩:=k8.shape;have HE:=hid S.ext;have HQ:=hid hq4;have hlen:=(chN_le (n:=n) HNN.out.1).1;rw[HNM.out]at hlen;have HB:=hid hlen;have hnn:=HNN.out.2.1;have hlc:names.length<=cap/\cap<=9223372036854775807:=⟨hq1,hq2⟩;have S5:=hid S;clear hq4 k8 hq1 hq2;go_wp2_with (at_make;refine wpl_makeI rfl _ _ _ rfl za _ _ names.length rfl rfl (by first|rfl|omega) (by first|rfl|omega) zb ?_;intro w6 E6 o6)
 clear hlen hnn;have HO:=hid o6;have HE6:=hid E6
 go_loopg [38] names.length (λgk v38 wr=>∃i:Nat,v38=.int .i64 (i:Int)/\i+gk=names.length/\Hid (OwnI wr W7.heap.size ((names.take i).map (λc=>chV c m)++List.replicate gk 0)/\Ext W7 wr))
 case atStart=>exact⟨0,rfl,by omega,hid ⟨by simpa using o6,E6⟩⟩
 case round=>
  clear o6 E6 S;obtain⟨i,rfl,hg,HR⟩:=hrel;rcases zI gk with h0|h0
  ·obtain rfl:i=names.length:=by omega
   have hdec:decide (((names.length:Nat):Int)<((names.length:Nat):Int))=false:=zh
   clear hg;go_wp2_with fail;have hO:=HR.out.1;rw[List.take_length,h0]at hO;simp only[List.replicate_zero,List.append_nil]at hO;have hrow:=hO.row (base:=0) (Nat.zero_le _) (by have:=HB.out;have:=HNN.out.2.1;simp;omega);rw[List.length_map]at hrow;exact zD (v:=.tuple #[.slice (some ⟨W7.heap.size,0,none⟩) names.length names.length,.int .i64 0]) (by simp[results,results14,go_sem]) rfl ⟨_,rfl,HE.out.trans HR.out.2,_,_,rfl,⟨0,hrow⟩,rfl⟩
  ·have hi:i<names.length:=by omega
   obtain⟨c,hc⟩:∃c,names[i]? =some c:=⟨names[i],List.getElem?_eq_getElem hi⟩;obtain⟨g,rfl,hgw,hgc⟩:=HQ.out (by rintro rfl;simp at hi);have M1:=HR.out.2.cell (hgc _ _ hc);have S6:=S5.out.mono HR.out.2;obtain⟨s2,a2,n2,c2,B2,h2⟩:=S6.at 1 _ _ _ rfl;have L2a:World.cell? wr ⟨w.heap.size+1,0,none⟩=some (.bool s2):=B2.c0;have L2b:World.cell? wr ⟨w.heap.size+1,1,none⟩=some (.slice a2 n2 c2):=B2.c1;have hdec:decide ((i:Int)<((names.length:Nat):Int))=true:=jl
   have HG:=hid (zJ hg h0);have hcb:=(chN_le (n:=n) HNN.out.1).2 c (by rw[HNM.out];exact List.mem_of_getElem? hc);have hcon:=value_f h2 zl (HSG.out.ext (HE.out.trans HR.out.2)) zbm c (by rcases hcb with h|h;exact .inl h;exact .inr (by have:=HNN.out;omega));have hcap2:i<cap:=zb
   clear hcb B2 hg h0;go_wp2_with (go_at_call 54;go_must (refine zC hcon ?_;rintro e w8 ⟨_,rfl,E8,rfl⟩;have hO8:=HR.out.1.ext E8;have C8:=hO8.cell (j:=i) (y:=0) (by rw[List.getElem?_append,if_neg (by simp;omega),List.length_map,List.length_take,Nat.min_eq_left (Nat.le_of_lt hi),Nat.sub_self];exact List.getElem?_replicate_of_lt HG.out.2);have F8:=hO8.free i))
   have HX:=hid (zJ (hO8.set i (chV c m)) ((HR.out.2.trans E8).set (p:=⟨W7.heap.size,i,none⟩) (zL _) (.int .i64 (chV c m))));have HC:=hid (zJ hc hi);clear hO8 C8 F8 E8 M1 hgc hc
   go_roundg (gk-1)
   case measure=>have:=HG.out;omega
   case rel=>exact⟨i+1,by rw[zV];rfl,by have:=HG.out;omega,hid ⟨by rw[<-fill_step (λc=>chV c m) names i gk c HC.out.1 HC.out.2 HG.out.2];exact HX.out.1,HX.out.2⟩⟩
end Go.Proofs.YtknffgdbdadpcaaGreatDoor
