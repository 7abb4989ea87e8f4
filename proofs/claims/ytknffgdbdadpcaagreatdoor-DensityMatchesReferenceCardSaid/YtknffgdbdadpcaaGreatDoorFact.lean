/-
 The arithmetic of Bezout's loop. No condition. Boxes of integers that are written one after another. No condition.
 Integers of package integer: Bezout. Every two integers of at most 2^26 words. Integers of package integer: power. Every integer and every exponent whose power has at most 2^27 words. cmp.Or of two ints, the second of which is 1. No condition.
 Integers of package integer: Cmp. Every two integers of at most 2^28 words. Integers of package integer: Pow. Every integer of at most 2^28 words, every int as an exponent.
 Contracts with facts on values: what a call hands back, as a value that represents an integer. No condition beyond those of the contracts. Plain laws for roots: Newton's step from above. No condition. The rule of XRg for a region whose operations run in the order of the text. No condition on the program.
-/
import Derived.Test.YtknffgdbdadpcaaGreatDoorDivMod
namespace Go.Proofs.YtknffgdbdadpcaaGreatDoor
open Go Go.RowKit
open Go.Proofs.Tryz
theorem xi{P:Prop}(h:P:=by{intro v w' hE hd;simp only[lxE,Nat.reduceAdd];have L0:=Bx.c0 (b2.out.ext hE);have L1:=Bx.c1 (b2.out.ext hE);skip;intro K hK;go_simp;exact hK.out _ _ (Ext.refl _) rfl (FreshIf.no rfl)}):P:=h
theorem za7{P:Prop}(h:P:=by{intro v w' hE hd;simp only[lxE,Nat.reduceAdd];skip;skip;intro K hK;go_simp;exact hK.out _ _ (Ext.refl _) rfl (FreshIf.no rfl)}):P:=h
abbrev zT:=@wpList_step
def Pt(g:Nat)(w w':World):Prop:=
 (∀g2 s a n c,g2≠g ->Bx w g2 s a n c ->Bx w' g2 s a n c)/\Gr w w'/\ (∀w0:World,Ext w0 w ->w0.heap.size <=g ->Ext w0 w')
theorem Bx.pt{g g2 n c:Nat}{s:Bool}{a:Option Addr}{w w':World}(h:Bx w g2 s a n c)(p:Pt g w w')(hg:g2≠g):Bx w' g2 s a n c:=p.1 _ _ _ _ _ hg h
theorem IntAt.pt{g k n c:Nat}{s:Bool}{a:Option Addr}{z:Int}{w w':World}(h:IntAt w k s a n c z)(p:Pt g w w'):IntAt w' k s a n c z:=h.gr p.2.1
theorem Ext.pt{w0 w w':World}{g:Nat}(e:Ext w0 w)(p:Pt g w w')(hg:w0.heap.size <=g):Ext w0 w':=p.2.2 _ e hg
theorem Bx.put'{w:World}{g n c:Nat}{s:Bool}{a:Option Addr}(b:Bx w g s a n c)(s':Bool)(a':Option Addr)(n' c':Nat):
  ∃W,W =(w.setCell ⟨g,0,none⟩ (.bool s')).setCell ⟨g,1,none⟩ (.slice a' n' c')/\Bx W g s' a' n' c'/\Pt g w W:=by
 obtain⟨W,h1,h2,h3,h4,h5⟩ :=b.put s' a' n' c'
 exact⟨W,h1,h2,λ_ _ _ _ _ hg h =>h3 hg h,h4,λ_ e hg =>h5 e hg⟩
theorem IntAt.nil(w:World)(k:Nat):IntAt w k false none 0 0 0:=IntAt.zero.mono zb


theorem Or_c(w:World)(g:Nat)(v:Int)(h0:w.cell? ⟨g,0,none⟩=some (.int .i64 v))(h1:w.cell? ⟨g,1,none⟩=some (.int .i64 1)):
  Calls prog 100 #[.slice (some ⟨g,0,none⟩) 2 2] w (RSame w (.int .i64 (if v =0 then 1 else v))) :=by
 obtain⟨r,hr⟩:∃r,r =(if v =0 then 1 else v) :=⟨_,rfl⟩
 rw[<-hr]
 have Hr:=hid hr
 clear hr
 go_enter func100,ntmps100
 go_wp2_with fail
 go_loop [8] (λi =>∃k:Nat,i =.int .i64 k/\k <=1/\ (k =1 ->v =0)) (λi =>2 - (intOf i).toNat)
 case atStart =>exact⟨0,rfl,by omega,by omega⟩
 case round =>
  obtain⟨k,rfl,hk,hv⟩ :=hrel
  rcases zI k with hk0|hk0
  ·subst hk0
   by_cases hv0:v =0
   ·subst hv0
    go_wp2_with fail
    case roundEnd =>exact⟨⟨1,rfl,by omega,λ_ =>trivial⟩,by simp[intOf]⟩
   ·have hb:(v ==0)=false:=by simpa using hv0
    go_wp2_with fail
    exact zD (v:=.int .i64 v) (by simp[results,results100,go_sem]) rfl ⟨by rw[Hr.out,if_neg hv0],rfl⟩
  ·obtain rfl:k =1:=by omega
   have hv0:=hv rfl
   subst hv0
   go_wp2_with fail
   exact zD (v:=.int .i64 1) (by simp[results,results100,go_sem]) rfl ⟨by rw[Hr.out];simp,rfl⟩
theorem kq20(w:World)(s1 s2:Bool)(a1 a2:Option Addr)(n1 n2 c1 c2:Nat):
  ∃ W,W =(w.alloc (.cells #[.bool s1,.slice a1 n1 c1] 33)).alloc (.cells #[.bool s2,.slice a2 n2 c2] 33)/\
   Kq w W [(w.heap.size + 1, [.bool s2,.slice a2 n2 c2]),(w.heap.size, [.bool s1,.slice a1 n1 c1])] :=by
 refine⟨_,rfl,?_⟩
 have:=((Kq.start w).alloc [.bool s1,.slice a1 n1 c1] 33).alloc [.bool s2,.slice a2 n2 c2] 33
 simpa using this
def IsR2(w0:World)(x y:Int):Value ->World ->Prop:=λu w =>∃g,u =.slice (some ⟨g,0,none⟩) 2 2/\w0.heap.size <=g/\g < w.heap.size/\w.cell? ⟨g,0,none⟩=some (.int .i64 x)/\w.cell? ⟨g,1,none⟩=some (.int .i64 y)
theorem IsR2.stb(w0:World)(x y:Int):Stb (IsR2 w0 x y) :=λ_ _ _ e ⟨g,h1,h2,h3,h4,h5⟩ =>⟨g,h1,h2,Nat.lt_of_lt_of_le h3 e.size,e.cell h4,e.cell h5⟩
theorem cmp_signs(s1 s2:Bool)(m1 m2:Nat)(z1 z2:Int)(h1:z1 =if s1 then -(m1:Int)else m1)(h2:z2 =if s2 then -(m2:Int)else m2)
  (t1:m1 =0 ->s1 =false) (t2:m2 =0 ->s2 =false):(s1≠s2 ->qK z1.sign z2.sign =qK z1 z2)/\ (s1 =s2 ->qK m1 m2 * (if z1.sign =0 then 1 else z1.sign)=qK z1 z2) :=by
 have key:∀z:Int,(z < 0/\z.sign = -1)\/ (z =0/\z.sign =0)\/ (0 < z/\z.sign =1) :=λz =>by
  rcases Int.lt_trichotomy z 0 with h|h|h
  ·exact .inl ⟨h,Int.sign_eq_neg_one_of_neg h⟩
  ·exact .inr (.inl ⟨h,by rw[h];rfl⟩)
  ·exact .inr (.inr ⟨h,Int.sign_eq_one_of_pos h⟩)
 have k1:=key z1
 have k2:=key z2
 generalize z1.sign =p at *
 generalize z2.sign =q at *
 constructor
 ·intro hs
  simp only[qK]
  cases s1 <;> cases s2 <;> simp at hs h1 h2 t1 t2 <;>(repeat' split) <;> omega
 ·intro hs
  subst hs
  simp only[qK]
  cases s1 <;> simp at h1 h2 t1 t2 <;>(repeat' split) <;> omega
theorem Cmp_c(w:World)(s1 s2:Bool)(a1 a2:Option Addr)(n1 n2 c1 c2 k1 k2:Nat)(z1 z2:Int)(h1:IntAt w k1 s1 a1 n1 c1 z1)(h2:IntAt w k2 s2 a2 n2 c2 z2)(l1:k1 <=268435456)(_l2:k2 <=268435456):Calls prog 52 #[.agg #[.bool s1,.slice a1 n1 c1],.agg #[.bool s2,.slice a2 n2 c2]] w (RVal w (.int .i64 (qK z1 z2))) :=by
 obtain⟨W,hW,K0⟩ :=kq20 w s1 s2 a1 a2 n1 n2 c1 c2
 have b2:=hid (K0.bx w.heap.size s1 a1 n1 c1 zh)
 have b3:=hid (K0.bx (w.heap.size + 1) s2 a2 n2 c2 zh)
 have E:=hid K0.ext
 obtain⟨m1,g1,t1,e1⟩ :=id h1
 obtain⟨m2,g2,t2,e2⟩ :=id h2
 have HS:=hid (cmp_signs s1 s2 m1 m2 z1 z2 e1 e2 (λh =>t1 (g1.zero.1 h)) (λh =>t2 (g2.zero.1 h)))
 have h1:=h1.ext K0.ext
 have h2:=h2.ext K0.ext
 have g1:=g1.ext K0.ext
 have g2:=g2.ext K0.ext
 obtain⟨r,hr⟩:∃r,r =qK z1 z2:=⟨_,rfl⟩
 rw[<-hr]
 have Hr:=hid hr
 clear K0 e1 e2 t1 t2 hr
 by_cases hs:s1 =s2
 ·subst hs
  go_enter func52,ntmps52
  go_wp2_with fail
  rw[<-hW]
  clear hW
  have F1:=b2.out.c0;have F2:=b2.out.c1;have F3:=b2.out.f0;have F4:=b2.out.f1
  have G1:=b3.out.c0;have G2:=b3.out.c1;have G3:=b3.out.f0;have G4:=b3.out.f1
  go_wp2_with fail
  clear F1 F2 F3 F4 G1 G2 G3 G4
  obtain⟨c,hc⟩:∃c,c =qK m1 m2:=⟨_,rfl⟩
  obtain⟨o,ho⟩:∃o,o =(if z1.sign =0 then 1 else z1.sign) :=⟨_,rfl⟩
  have Hc:=hid hc
  have Ho:=hid ho
  have Hw:=hid (show IntKind.i64.wrap (c * o)=r by
   have h:=HS.out.2 zh
   rw[<-hc,<-ho,<-Hr.out]at h
   rw[h,Hr.out,qK]
   repeat' split
   all_goals decide)
  clear hc ho
  refine qU 11 [some 15,some 16,some 17,some 18,some 19,some 20,some 21,some 22,some 23,some 24,some 4] [IsV (.pointer (some ⟨w.heap.size,1,none⟩)),IsV (.slice a1 n1 c1),IsV (.pointer (some ⟨w.heap.size + 1,1,none⟩)),IsV (.slice a2 n2 c2),iV c,IsV (.agg #[.bool s1,.slice a1 n1 c1]),iV z1.sign,IsR2 W z1.sign 1,iV o,iV r,iV r] [] 0 za dcx za za za za za ?_ (λ_ h =>by cases h) ?_ ?_
  ·repeat' (first|exact trivial|exact IsV.stb _|exact IsR2.stb _ _ _|apply zJ)
  ·refine RgAll.cons za7 ?_
   refine RgAll.cons (by{intro v w' hE hd;simp only[lxE,Nat.reduceAdd];have d0:v 0 =.pointer (some ⟨w.heap.size,1,none⟩) :=hd 0 za;have L0:=Bx.c0 (b2.out.ext hE);have L1:=Bx.c1 (b2.out.ext hE);rw[d0];intro K hK;go_simp;exact hK.out _ _ (Ext.refl _) rfl (FreshIf.no rfl)}) ?_
   refine RgAll.cons za7 ?_
   refine RgAll.cons (by{intro v w' hE hd;simp only[lxE,Nat.reduceAdd];have d0:v 2 =.pointer (some ⟨w.heap.size + 1,1,none⟩) :=hd 2 za;have L0:=Bx.c0 (b3.out.ext hE);have L1:=Bx.c1 (b3.out.ext hE);rw[d0];intro K hK;go_simp;exact hK.out _ _ (Ext.refl _) rfl (FreshIf.no rfl)}) ?_
   refine RgAll.cons (by{intro v w' hE hd;simp only[lxE,Nat.reduceAdd];have d0:v 1 =.slice a1 n1 c1:=hd 1 za;have d1:v 3 =.slice a2 n2 c2:=hd 3 za;rw[d0,d1];intro K hK;go_simp;go_at_call 99;go_split_ands;(with_reducible refine zC ((by have hh:=cmp_c w' a1 a2 n1 n2 c1 c2 k1 k2 m1 m2 (g1.ext hE) (g2.ext hE) zb;rw[<-Hc.out]at hh;exact hh)) ?_);rintro e w2 ⟨rfl,e2⟩;exact hK.out _ _ e2 rfl (FreshIf.no rfl)}) ?_
   refine RgAll.cons xi ?_
   refine RgAll.cons (by{intro v w' hE hd;simp only[lxE,Nat.reduceAdd];have d0:v 5 =.agg #[.bool s1,.slice a1 n1 c1] :=hd 5 za;rw[d0];intro K hK;go_simp;go_at_call 84;go_split_ands;(with_reducible refine zC (Sign_c _ s1 a1 n1 c1 k1 z1 (h1.ext hE)) ?_);rintro e w2 ⟨rfl,e2⟩;exact hK.out _ _ e2 rfl (FreshIf.no rfl)}) ?_
   refine RgAll.cons (by{intro v w' hE hd;simp only[lxE,Nat.reduceAdd];have d0:v 6 =.int .i64 z1.sign:=hd 6 za;rw[d0];intro K hK;go_simp;exact hK.out _ _ ((Ext.refl _).alloc _) ⟨_,rfl,hE.size,by simp,by simp,by simp⟩ (FreshIf.no rfl)}) ?_
   refine RgAll.cons (by{intro v w' hE hd;simp only[lxE,Nat.reduceAdd];have d0:IsR2 W z1.sign 1 (v 7) w':=hd 7 za;obtain⟨g,d0,_,_,x0,x1⟩ :=d0;rw[d0];intro K hK;go_simp;go_at_call 100;go_split_ands;(with_reducible refine zC ((by have hh:=Or_c w' g z1.sign x0 x1;rw[<-Ho.out]at hh;exact hh)) ?_);rintro e w2 ⟨rfl,rfl⟩;exact hK.out _ _ (Ext.refl _) rfl (FreshIf.no rfl)}) ?_
   refine RgAll.cons (by{intro v w' hE hd;simp only[lxE,Nat.reduceAdd];have d0:v 4 =.int .i64 c:=hd 4 za;have d1:v 8 =.int .i64 o:=hd 8 za;have hw:=Hw.out;rw[d0,d1];intro K hK;go_simp;exact hK.out _ _ (Ext.refl _) rfl (FreshIf.no rfl)}) ?_
   refine RgAll.cons (by{intro v w' hE hd;simp only[lxE,Nat.reduceAdd];have d0:v 9 =.int .i64 r:=hd 9 za;rw[d0];intro K hK;go_simp;exact hK.out _ _ (Ext.refl _) rfl (FreshIf.no rfl)}) ?_
   exact rn0
  intro v w1 e1 hH _
  have v5:v 10 =.int .i64 r:=hH 10 dcx
  simp only[lxE,Nat.reduceAdd]
  rw[v5]
  refine zO za ?_ 0
  go_wp2_with fail
  exact zD (v:=.int .i64 r) (by simp[results,results52,go_sem]) rfl ⟨rfl,E.out.trans e1⟩
 ·have hb:(s1 ==s2)=false:=by simpa using hs
  go_enter func52,ntmps52
  go_wp2_with fail
  rw[<-hW]
  clear hW
  have F1:=b2.out.c0;have F2:=b2.out.c1;have F3:=b2.out.f0;have F4:=b2.out.f1
  have G1:=b3.out.c0;have G2:=b3.out.c1;have G3:=b3.out.f0;have G4:=b3.out.f1
  go_wp2_with fail
  clear F1 F2 F3 F4 G1 G2 G3 G4 hb
  refine qU 6 [some 10,some 11,some 12,some 13,some 14,some 4] [IsV (.agg #[.bool s1,.slice a1 n1 c1]),iV z1.sign,IsV (.agg #[.bool s2,.slice a2 n2 c2]),iV z2.sign,iV (qK z1.sign z2.sign),iV (qK z1.sign z2.sign)] [] 0 za dcx za za za za za ?_ (λ_ h =>by cases h) ?_ ?_
  ·repeat' (first|exact trivial|exact IsV.stb _|exact IsI.stb _ _|exact IsB.stb _|apply zJ)
  ·refine RgAll.cons xi ?_
   refine RgAll.cons (by{intro v w' hE hd;simp only[lxE,Nat.reduceAdd];have d0:v 0 =.agg #[.bool s1,.slice a1 n1 c1] :=hd 0 za;rw[d0];intro K hK;go_simp;go_at_call 84;go_split_ands;(with_reducible refine zC (Sign_c _ s1 a1 n1 c1 k1 z1 (h1.ext hE)) ?_);rintro e w2 ⟨rfl,e2⟩;exact hK.out _ _ e2 rfl (FreshIf.no rfl)}) ?_
   refine RgAll.cons (by{intro v w' hE hd;simp only[lxE,Nat.reduceAdd];have L0:=Bx.c0 (b3.out.ext hE);have L1:=Bx.c1 (b3.out.ext hE);skip;intro K hK;go_simp;exact hK.out _ _ (Ext.refl _) rfl (FreshIf.no rfl)}) ?_
   refine RgAll.cons (by{intro v w' hE hd;simp only[lxE,Nat.reduceAdd];have d0:v 2 =.agg #[.bool s2,.slice a2 n2 c2] :=hd 2 za;rw[d0];intro K hK;go_simp;go_at_call 84;go_split_ands;(with_reducible refine zC (Sign_c _ s2 a2 n2 c2 k2 z2 (h2.ext hE)) ?_);rintro e w2 ⟨rfl,e2⟩;exact hK.out _ _ e2 rfl (FreshIf.no rfl)}) ?_
   refine RgAll.cons (by{intro v w' hE hd;simp only[lxE,Nat.reduceAdd];have d0:v 1 =.int .i64 z1.sign:=hd 1 za;have d1:v 3 =.int .i64 z2.sign:=hd 3 za;rw[d0,d1];intro K hK;go_simp;go_at_call 98;go_split_ands;(with_reducible refine zC (compare_int_c _ _ _) ?_);rintro e w2 ⟨rfl,rfl⟩;exact hK.out _ _ (Ext.refl _) rfl (FreshIf.no rfl)}) ?_
   refine RgAll.cons (by{intro v w' hE hd;simp only[lxE,Nat.reduceAdd];have d0:v 4 =.int .i64 (qK z1.sign z2.sign) :=hd 4 za;rw[d0];intro K hK;go_simp;exact hK.out _ _ (Ext.refl _) rfl (FreshIf.no rfl)}) ?_
   exact rn0
  intro v w1 e1 hH _
  have v5:v 5 =.int .i64 (qK z1.sign z2.sign) :=hH 5 dcx
  simp only[lxE,Nat.reduceAdd]
  rw[v5]
  refine zO za ?_ 0
  go_wp2_with fail
  exact zD (v:=.int .i64 (qK z1.sign z2.sign)) (by simp[results,results52,go_sem]) rfl ⟨by rw[Hr.out,HS.out.1 hs],E.out.trans e1⟩

def Ret(w:World)(fP:Value ->World ->Prop)(e:Ending)(w':World):Prop:=∃x,e =.returned x/\Ext w w'/\fP x w'
def IsT2(fP fR:Value ->World ->Prop):Value ->World ->Prop:=λx w =>∃a b,x =.tuple #[a,b]/\fP a w/\fR b w
def IsT3(fP fR fQ:Value ->World ->Prop):Value ->World ->Prop:=λx w =>∃a b c,x =.tuple #[a,b,c]/\fP a w/\fR b w/\fQ c w
theorem IsT2.stb{fP fR:Value ->World ->Prop}(h:Stb fP)(k:Stb fR):Stb (IsT2 fP fR) :=λ_ _ _ e ⟨a,b,h1,h2,h3⟩ =>⟨a,b,h1,h _ _ _ e h2,k _ _ _ e h3⟩
theorem IsT3.stb{fP fR fQ:Value ->World ->Prop}(h:Stb fP)(k:Stb fR)(l:Stb fQ):Stb (IsT3 fP fR fQ) :=λ_ _ _ e ⟨a,b,c,h1,h2,h3,h4⟩ =>⟨a,b,c,h1,h _ _ _ e h2,k _ _ _ e h3,l _ _ _ e h4⟩
def GStb(fP:Value ->World ->Prop):Prop:=∀x w w',Gr w w' ->fP x w ->fP x w'
theorem GStb.stb{fP:Value ->World ->Prop}(h:GStb fP):Stb fP:=λx _ _ e hx =>h x _ _ e.gr hx
theorem IsI.gstb(k:Nat)(z:Int):GStb (IsI k z) :=λ_ _ _ e ⟨s,a,n,c,h1,h2⟩ =>⟨s,a,n,c,h1,h2.gr e⟩
theorem IsI.ext{k:Nat}{z:Int}{x:Value}{w w':World}(h:IsI k z x w)(e:Ext w w'):IsI k z x w':=(IsI.stb k z) _ _ _ e h
theorem IsI.nil(w:World)(k:Nat):IsI k 0 (.agg #[.bool false,.slice none 0 0]) w:=⟨_,_,_,_,rfl,IntAt.nil w k⟩
theorem IsI.tight{k k':Nat}{z:Int}{x:Value}{w:World}(h:IsI k z x w)(hz:z.natAbs < 4294967296 ^ k'):IsI k' z x w:=
 let ⟨s,a,n,c,h1,h2⟩ :=h;⟨s,a,n,c,h1,h2.tight hz⟩
theorem IsI.mono{k k':Nat}{z:Int}{x:Value}{w:World}(h:IsI k z x w)(hk:k <=k'):IsI k' z x w:=
 let ⟨s,a,n,c,h1,h2⟩ :=h;⟨s,a,n,c,h1,h2.mono hk⟩
def IsR(s:Bool)(xs:List Nat):Value ->World ->Prop:=λx w =>∃a n c,x =.agg #[.bool s,.slice a n c]/\Wd w a n c xs
theorem IsR.gstb(s:Bool)(xs:List Nat):GStb (IsR s xs) :=λ_ _ _ e ⟨a,n,c,h1,h2⟩ =>⟨a,n,c,h1,h2.gr e⟩
theorem IsR.stb(s:Bool)(xs:List Nat):Stb (IsR s xs) :=(IsR.gstb s xs).stb
structure St (w0 w:World) (B:List (Nat× (Value ->World ->Prop))):Prop where
 ext:Ext w0 w
 box:∀p∈B,w0.heap.size <=p.1/\∃s a n c,Bx w p.1 s a n c/\p.2 (.agg #[.bool s,.slice a n c]) w
 stb:∀p∈B,GStb p.2
 apart:B.Pairwise (λp q =>p.1≠q.1)
theorem St.start(w:World):St w w [] :=⟨Ext.refl w,(λ_ h =>by cases h),(λ_ h =>by cases h),List.Pairwise.nil⟩
theorem St.mono{w0 w w':World}{B:List (Nat× (Value ->World ->Prop))}(h:St w0 w B)(e:Ext w w'):St w0 w' B:=
 ⟨h.ext.trans e,λp hp =>let ⟨h1,s,a,n,c,h2,h3⟩ :=h.box p hp;⟨h1,s,a,n,c,h2.ext e,h.stb p hp _ _ _ e.gr h3⟩,h.stb,h.apart⟩
theorem St.get{w0 w:World}{B:List (Nat× (Value ->World ->Prop))}(h:St w0 w B)(i:Nat)(p:Nat× (Value ->World ->Prop))(hp:B[i]? =some p):
  ∃s a n c,Bx w p.1 s a n c/\p.2 (.agg #[.bool s,.slice a n c]) w:=(h.box p (List.mem_of_getElem? hp)).2
theorem St.lt{w0 w:World}{B:List (Nat× (Value ->World ->Prop))}(h:St w0 w B):∀p∈B,p.1 < w.heap.size:=λp hp =>
 let ⟨_,_,_,_,_,h2,_⟩ :=h.box p hp;h2.lt
theorem St.add{w0 w:World}{B:List (Nat× (Value ->World ->Prop))}(h:St w0 w B){g:Nat}{s:Bool}{a:Option Addr}{n c:Nat}{fP:Value ->World ->Prop}(hb:Bx w g s a n c)(hg:w0.heap.size <=g)(hn:∀p∈B,p.1≠g)
  (hs:GStb fP) (hH:fP (.agg #[.bool s,.slice a n c]) w):St w0 w ((g,fP) ::B) :=by
 refine⟨h.ext,λp hp =>?_,λp hp =>?_,List.Pairwise.cons (λq hq he =>hn q hq he.symm) h.apart⟩
 ·rcases List.mem_cons.1 hp with rfl|hp
  ·exact⟨hg,s,a,n,c,hb,hH⟩
  ·exact h.box p hp
 ·rcases List.mem_cons.1 hp with rfl|hp
  ·exact hs
  ·exact h.stb p hp
theorem St.new{w0 w:World}{B:List (Nat× (Value ->World ->Prop))}(h:St w0 w B)(s:Bool)(a:Option Addr)(n c:Nat)(t:TypeId)(fP:Value ->World ->Prop)(hs:GStb fP)(hH:fP (.agg #[.bool s,.slice a n c]) w):
  St w0 (w.alloc (.cells #[.bool s,.slice a n c] t)) ((w.heap.size,fP) ::B) :=by
 have e:Ext w (w.alloc (.cells #[.bool s,.slice a n c] t)) :=(Ext.refl w).alloc _
 exact(h.mono e).add (s:=s) (a:=a) (n:=n) (c:=c) ⟨by simp,by simp,by simp,by simp⟩ h.ext.size (λp hp he =>by have:=h.lt p hp;omega) hs (hs _ _ _ e.gr hH)
theorem St.put{w0 w:World}{B:List (Nat× (Value ->World ->Prop))}(h:St w0 w B)(i:Nat)(g:Nat)(fP fR:Value ->World ->Prop)(hp:B[i]? =some (g,fP))(s:Bool)(a:Option Addr)(n c:Nat)(hs:GStb fR)(hΨ:fR (.agg #[.bool s,.slice a n c]) w):
  ∃W,W =(w.setCell ⟨g,0,none⟩ (.bool s)).setCell ⟨g,1,none⟩ (.slice a n c)/\St w0 W (B.set i (g,fR))/\Gr w W/\ (∀g2 s2 a2 n2 c2,g2≠g ->Bx w g2 s2 a2 n2 c2 ->Bx W g2 s2 a2 n2 c2) :=by
 obtain⟨s',a',n',c',hb,_⟩ :=(h.box _ (List.mem_of_getElem? hp)).2
 have hg:=(h.box _ (List.mem_of_getElem? hp)).1
 obtain⟨W,h1,h2,h3⟩ :=hb.put' s a n c
 have hi:i < B.length:=(List.getElem?_eq_some_iff.1 hp).1
 have hBi:B[i]=(g,fP) :=(List.getElem?_eq_some_iff.1 hp).2
 refine⟨W,h1,⟨h.ext.pt h3 hg,λp hpm =>?_,λp hpm =>?_,?_⟩,h3.2.1,λ_ _ _ _ _ hg2 hb2 =>hb2.pt h3 hg2⟩
 ·rcases List.mem_or_eq_of_mem_set hpm with hpm'|rfl
  ·by_cases hgp:p.1 =g
   ·obtain⟨j,hj,hpj⟩ :=List.mem_iff_getElem.1 hpm
    by_cases hij:i =j
    ·subst hij
     rw[List.getElem_set_self]at hpj
     subst hpj
     exact⟨hg,s,a,n,c,h2,hs _ _ _ h3.2.1 hΨ⟩
    ·rw[List.getElem_set_ne hij]at hpj
     exfalso
     have hj':j < B.length:=zbd
     rcases Nat.lt_or_gt_of_ne hij with hlt|hlt
     ·have:=List.pairwise_iff_getElem.1 h.apart i j hi hj' hlt
      rw[hBi,hpj]at this;exact this hgp.symm
     ·have:=List.pairwise_iff_getElem.1 h.apart j i hj' hi hlt
      rw[hBi,hpj]at this;exact this hgp
   ·obtain⟨h4,s4,a4,n4,c4,h5,h6⟩ :=h.box p hpm'
    exact⟨h4,s4,a4,n4,c4,h5.pt h3 hgp,h.stb p hpm' _ _ _ h3.2.1 h6⟩
  ·exact⟨hg,s,a,n,c,h2,hs _ _ _ h3.2.1 hΨ⟩
 ·rcases List.mem_or_eq_of_mem_set hpm with hpm'|rfl
  ·exact h.stb p hpm'
  ·exact hs
 ·rw[List.pairwise_iff_getElem]
  intro j k hj hk hjk
  have hj':j < B.length:=zbd
  have hk':k < B.length:=by simpa using hk
  have key:=List.pairwise_iff_getElem.1 h.apart j k hj' hk' hjk
  rw[List.getElem_set,List.getElem_set]
  split
  ·rename_i h5;subst h5
   rw[hBi]at key
   split
   ·omega
   ·exact key
  ·split
   ·rename_i h5;subst h5;rw[hBi]at key;exact key
   ·exact key
/-! ### The contracts in this form -/
theorem RInt.ret{w:World}{k:Nat}{z:Int}{e:Ending}{w':World}(h:RInt w k z e w'):Ret w (IsI k z) e w':=
 let ⟨s,a,n,c,h1,h2,h3⟩ :=h;⟨_,h1,h2,s,a,n,c,rfl,h3⟩
theorem RVal.ret{w:World}{v:Value}{e:Ending}{w':World}(h:RVal w v e w'):Ret w (IsV v) e w':=⟨_,h.1,h.2,rfl⟩
theorem Ret.mono{w:World}{fP fR:Value ->World ->Prop}{e:Ending}{w':World}(h:Ret w fP e w')(hi:∀x w,fP x w ->fR x w):Ret w fR e w':=
 let ⟨x,h1,h2,h3⟩ :=h;⟨x,h1,h2,hi _ _ h3⟩
theorem Mul_f{k1 k2:Nat}{z1 z2:Int}{x y:Value}{w:World}(hx:IsI k1 z1 x w)(hy:IsI k2 z2 y w)(l1:k1 <=268435456)(l2:k2 <=268435456):Calls prog 51 #[x,y] w (Ret w (IsI (k1 + k2) (z1 * z2))) :=by
 obtain⟨s,a,n,c,rfl,h1⟩ :=hx;obtain⟨s',a',n',c',rfl,h2⟩ :=hy
 exact zC (Mul_c w s s' a a' n n' c c' k1 k2 z1 z2 h1 h2 l1 l2) λ_ _ h =>h.ret
theorem jB{k1 k2:Nat}{z1 z2:Int}{x y:Value}{w:World}(hx:IsI k1 z1 x w)(hy:IsI k2 z2 y w)(l1:k1 <=268435456)(l2:k2 <=268435456):Calls prog 52 #[x,y] w (Ret w (iV (qK z1 z2))) :=by
 obtain⟨s,a,n,c,rfl,h1⟩ :=hx;obtain⟨s',a',n',c',rfl,h2⟩ :=hy
 exact zC (Cmp_c w s s' a a' n n' c c' k1 k2 z1 z2 h1 h2 l1 l2) λ_ _ h =>h.ret
theorem Gcd_f{k1 k2:Nat}{z1 z2:Int}{x y:Value}{w:World}(hx:IsI k1 z1 x w)(hy:IsI k2 z2 y w)(l1:k1 <=134217728)(l2:k2 <=134217728):Calls prog 50 #[x,y] w (Ret w (IsI (max k1 k2) (Int.gcd z1 z2:Nat))) :=by
 obtain⟨s,a,n,c,rfl,h1⟩ :=hx;obtain⟨s',a',n',c',rfl,h2⟩ :=hy
 exact zC (Gcd_c w s s' a a' n n' c c' k1 k2 z1 z2 h1 h2 l1 l2) λ_ _ h =>h.ret
theorem DivMod_f{k1 k2:Nat}{z1 z2:Int}{x y:Value}{w:World}(hx:IsI k1 z1 x w)(hy:IsI k2 z2 y w)(l1:k1 <=134217728)(l2:k2 <=134217728)(hz:z2≠0):Calls prog 111 #[x,y] w (Ret w (IsT3 (IsI k1 (z1 / z2)) (IsI k2 (z1 % z2)) (iV 0))) :=by
 obtain⟨s,a,n,c,rfl,h1⟩ :=hx;obtain⟨s',a',n',c',rfl,h2⟩ :=hy
 refine zC (DivMod_c w s s' a a' n n' c c' k1 k2 z1 z2 h1 h2 l1 l2 hz) λe w' ⟨s1,a1,n1,c1,s2,a2,n2,c2,h3,h4,h5,h6⟩ =>?_
 exact⟨_,h3,h4,_,_,_,rfl,⟨_,_,_,_,rfl,h5⟩,⟨_,_,_,_,rfl,h6⟩,rfl⟩
theorem Neg_f{k1:Nat}{z1:Int}{x:Value}{w:World}(hx:IsI k1 z1 x w):Calls prog 114 #[x] w (Ret w (IsI k1 (-z1))) :=by
 obtain⟨s,a,n,c,rfl,h1⟩ :=hx
 exact zC (Neg_c w s a n c k1 z1 h1) λ_ _ h =>h.ret
theorem Abs_f{k1:Nat}{z1:Int}{x:Value}{w:World}(hx:IsI k1 z1 x w):Calls prog 96 #[x] w (Ret w (IsI k1 z1.natAbs)) :=by
 obtain⟨s,a,n,c,rfl,h1⟩ :=hx
 exact zC (Abs_c w s a n c k1 z1 h1) λ_ _ h =>h.ret
theorem jA{k1:Nat}{z1:Int}{x:Value}{w:World}(hx:IsI k1 z1 x w):Calls prog 84 #[x] w (Ret w (iV z1.sign)) :=by
 obtain⟨s,a,n,c,rfl,h1⟩ :=hx
 exact zC (Sign_c w s a n c k1 z1 h1) λ_ _ h =>h.ret
theorem xT(w:World)(n:Int)(h0: -9223372036854775808 <=n)(h1:n <=9223372036854775807):Calls prog 41 #[.int .i64 n] w (Ret w (IsI 2 n)) :=
 zC (Of_c w n h0 h1) λ_ _ h =>h.ret

section
variable {P:Program} {ops:Array Oper} {Q:Exit ->Act ->World ->Prop}
theorem wp_list_rg(n:Nat)(L:List (Value ->World ->Prop))(boxes:List Nat){a0:Act}{w0:World}(ds:List (Option Tmp))
  (hn:n <=ops.size) (hds:(List.range n).map (xC ops)=ds) (hap:xG ops n =true) (htp2:∀i,i < n ->∀e∈xZ .any ops i,e < i)
  (hst:AllStb L) (hbx:∀i∈boxes,IsBox (L.getD i (λ_ _ =>True)))
  (hop:RgAll P .any ops Q ds a0 w0 L boxes 0 n ops.toList)
  (hend:∀v w,Ext w0 w ->(∀i,i < n ->L.getD i (λ_ _ =>True) (v i) w) ->(∀i j,i∈boxes ->j∈boxes ->i < n ->j < n ->i≠j ->v i≠v j) ->
   wpList P ops Q (ops.toList.drop n) (jM v a0 0 ds) w) :
  ∀ (m k:Nat) (v:Nat ->Value) (w:World),k + m =n ->Ext w0 w ->(∀i,i < k ->L.getD i (λ_ _ =>True) (v i) w) ->
   (∀i j,i < k ->j < k ->i≠j ->i∈boxes ->j∈boxes ->v i≠v j) ->wpList P ops Q (ops.toList.drop k) (zB ops v a0 n) w:=by
 intro m
 induction m with
 | zero =>
  intro k v w hk hR hH hd
  obtain rfl:k =n:=zb
  rw[jO v a0 k ds hds]
  exact hend v w hR hH (λi j hi hj hin hjn hij =>hd i j hin hjn hij hi hj)
 | succ m ih =>
  intro k v w hk hR hH hd
  have hks:k < ops.size:=zb
  have ho:ops[k]? =some ops[k] :=by simp[hks]
  have hdrop:ops.toList.drop k =ops[k] ::ops.toList.drop (k + 1) :=by
   rw[List.drop_eq_getElem_cons (show k < ops.toList.length by rw[Array.length_toList];exact hks)];simp
  rw[hdrop]
  refine zT λK hK =>?_
  have h1:=RgAll.get n 0 ops.toList hop k zb ops[k] zh
  rw[Nat.zero_add]at h1
  have h2:=h1 v w hR (λj hj =>?_) K
  ·rw [<-jO v a0 n ds hds]at h2
   refine h2 ?_
   intro x w' hE hx hf
   refine hK _ _ ?_
   have hdst:(ops[k]).dst =xC ops k:=by simp[xC,ho]
   rw[hdst,layN_put a0 v k x n (by omega) (λi j hi hj hij =>dstsApart_spec hap hi hj hij)]
   refine ih (k + 1) _ w' zb (hR.trans hE) (λi hi =>?_) (λi j hi hj hij hbi hbj =>?_)
   ·by_cases hik:i =k
    ·subst hik;simpa only[updV,if_true]using hx
    ·simp only[updV];rw[if_neg hik];exact hst.get i _ _ _ hE (hH i zb)
   ·simp only[updV]
    by_cases hik:i =k
    ·subst hik
     rw[if_pos rfl,if_neg (Ne.symm hij)]
     obtain⟨g,hg,hlt⟩ :=hbx j hbj _ _ (hH j zb)
     obtain⟨g',hg',hge⟩ :=hf (List.contains_iff_mem.2 hbi)
     rw[hg,hg']
     intro h;injection h with h;injection h with h;injection h with h;omega
    ·rw[if_neg hik]
     by_cases hjk:j =k
     ·subst hjk
      rw[if_pos rfl]
      obtain⟨g,hg,hlt⟩ :=hbx i hbi _ _ (hH i zb)
      obtain⟨g',hg',hge⟩ :=hf (List.contains_iff_mem.2 hbj)
      rw[hg,hg']
      intro h;injection h with h;injection h with h;injection h with h;omega
     ·rw[if_neg hjk];exact hd i j zb zb hij hbi hbj
  ·have key:(xE ops.size k).getD j false =true:=
    xH (md:=.any) (ops:=ops) (listed:=xE ops.size k)
     (fun i hi e he =>by
      have hik:i < k/\i < ops.size:=by
       rcases zQ i ops.size with h|h
       ·simp[xE,h]at hi;exact⟨hi,h⟩
       ·simp[xE,h]at hi
      have:=htp2 i zb e he
      have hes:e < ops.size:=zb
      simp[xE,hes];omega)
     k (xZ .any ops k)
     (fun e he =>by
      have:=htp2 k zb e he
      have hes:e < ops.size:=zb
      simp[xE,hes];omega) j (List.contains_iff_mem.1 hj)
   rcases zQ j ops.size with h|h
   ·simp[xE,h]at key;exact hH j key
   ·simp[xE,h]at key
def backOk(ops:Array Oper)(n:Nat):Bool:=(List.range n).all λi =>(xZ .any ops i).all λe =>decide (e < i)
theorem qM(n:Nat)(ds:List (Option Tmp))(L:List (Value ->World ->Prop))(boxes:List Nat){a0:Act}{w0:World}{id:Nat}
  (hn:n <=ops.size) (hds:(List.range n).map (xC ops)=ds) (hap:xG ops n =true) (htp:backOk ops n =true)
  (hst:AllStb L) (hbx:∀i∈boxes,IsBox (L.getD i (λ_ _ =>True)))
  (hop:RgAll P .any ops Q ds a0 w0 L boxes 0 n ops.toList)
  (hend:∀v w,Ext w0 w ->(∀i,i < n ->L.getD i (λ_ _ =>True) (v i) w) ->(∀i j,i∈boxes ->j∈boxes ->i < n ->j < n ->i≠j ->v i≠v j) ->
   wpList P ops Q (ops.toList.drop n) (jM v a0 0 ds) w) :
  (Code.region id ops false).wp P Q a0 w0:=by
 refine wp_region_list ?_
 simp only[backOk,List.all_eq_true,List.mem_range,zU]at htp
 have:=wp_list_rg n L boxes ds hn hds hap htp hst hbx hop hend n 0 (slotVal ops a0) w0 zb (Ext.refl _) (λi hi =>by omega) (λi j hi =>by omega)
 have hlay:zB ops (slotVal ops a0) a0 n =a0:=layN_self a0 n
 rwa [hlay,List.drop_zero]at this
end
/-! ### Words for walks that a program has printed -/
theorem St.at{w0 w:World}{B:List (Nat× (Value ->World ->Prop))}(h:St w0 w B)(i:Nat)(g:Nat)(fP:Value ->World ->Prop)(hp:B[i]? =some (g,fP)):
  ∃s a n c,Bx w g s a n c/\fP (.agg #[.bool s,.slice a n c]) w:=h.get i _ hp
theorem St.new'{w0 w:World}{B:List (Nat× (Value ->World ->Prop))}(h:St w0 w B)(g:Nat)(hg:w.heap.size =g)(s:Bool)(a:Option Addr)(n c:Nat)(t:TypeId)(fP:Value ->World ->Prop)(hs:GStb fP)(hH:fP (.agg #[.bool s,.slice a n c]) w):
  St w0 (w.alloc (.cells #[.bool s,.slice a n c] t)) ((g,fP) ::B) :=hg ▸ h.new s a n c t fP hs hH
theorem St.tail{w0 w:World}{p:Nat× (Value ->World ->Prop)}{B:List (Nat× (Value ->World ->Prop))}(h:St w0 w (p ::B)):St w0 w B:=
 ⟨h.ext,λq hq =>h.box q (List.mem_cons_of_mem _ hq),λq hq =>h.stb q (List.mem_cons_of_mem _ hq),(List.pairwise_cons.1 h.apart).2⟩
def Apart(g:Nat)(B:List (Nat× (Value ->World ->Prop))):Prop:=∀p∈B,p.1≠g
theorem Apart.old{W:World}{B:List (Nat× (Value ->World ->Prop))}{g:Nat}(h:∀p∈B,p.1 < W.heap.size)(hg:W.heap.size <=g):Apart g B:=λp hp he =>by have:=h p hp;omega
theorem Apart.cons{g g':Nat}{fP:Value ->World ->Prop}{B:List (Nat× (Value ->World ->Prop))}(h:g'≠g)(k:Apart g B):Apart g ((g',fP) ::B) :=λp hp =>by
 rcases List.mem_cons.1 hp with rfl|hp
 ·exact h
 ·exact k p hp
theorem St.addN{w0 w:World}{B:List (Nat× (Value ->World ->Prop))}(h:St w0 w B){g:Nat}(hn:Apart g B)(hg:w0.heap.size <=g)(hb:Bx w g false none 0 0):St w0 w ((g,IsI 0 0) ::B) :=
 h.add hb hg hn (IsI.gstb 0 0) (IsI.nil w 0)
theorem St.weaken{w0 w:World}{B:List (Nat× (Value ->World ->Prop))}(h:St w0 w B)(i:Nat)(g:Nat)(fP fR:Value ->World ->Prop)(hp:B[i]? =some (g,fP))(hs:GStb fR)(hi:∀x,fP x w ->fR x w):St w0 w (B.set i (g,fR)) :=by
 obtain⟨s,a,n,c,hb,hH⟩ :=h.at i g fP hp
 have hil:i < B.length:=(List.getElem?_eq_some_iff.1 hp).1
 have hBi:B[i]=(g,fP) :=(List.getElem?_eq_some_iff.1 hp).2
 refine⟨h.ext,λp hpm =>?_,λp hpm =>?_,?_⟩
 ·rcases List.mem_or_eq_of_mem_set hpm with hpm'|rfl
  ·exact h.box p hpm'
  ·exact⟨(h.box _ (List.mem_of_getElem? hp)).1,s,a,n,c,hb,hi _ hH⟩
 ·rcases List.mem_or_eq_of_mem_set hpm with hpm'|rfl
  ·exact h.stb p hpm'
  ·exact hs
 ·rw[List.pairwise_iff_getElem]
  intro j k hj hk hjk
  have hj':j < B.length:=zbd
  have hk':k < B.length:=by simpa using hk
  have key:=List.pairwise_iff_getElem.1 h.apart j k hj' hk' hjk
  rw[List.getElem_set,List.getElem_set]
  split
  ·rename_i h5;subst h5
   rw[hBi]at key
   split
   ·omega
   ·exact key
  ·split
   ·rename_i h5;subst h5;rw[hBi]at key;exact key
   ·exact key
theorem Ret.val{w:World}{u v:Value}{e:Ending}{w':World}(h:Ret w (IsV v) e w')(hv:v =u):Ret w (IsV u) e w':=hv ▸ h
theorem Ret.int{w:World}{i j:Int}{k:IntKind}{e:Ending}{w':World}(h:Ret w (IsV (.int k i)) e w')(hv:i =j):Ret w (IsV (.int k j)) e w':=hv ▸ h
theorem Ret.eqz{w:World}{k:Nat}{z z':Int}{e:Ending}{w':World}(h:Ret w (IsI k z) e w')(hz:z =z'):Ret w (IsI k z') e w':=hz ▸ h
def IsMag(k:Nat)(z:Int):Value ->World ->Prop:=λx w =>∃s a n c,x =.slice a n c/\IntAt w k s a n c z
theorem IsMag.stb(k:Nat)(z:Int):Stb (IsMag k z) :=λ_ _ _ e ⟨s,a,n,c,h1,h2⟩ =>⟨s,a,n,c,h1,h2.ext e⟩
def IsPos:Value ->World ->Prop:=λx _ =>∃n:Nat,x =.int .i64 (n:Int)/\0 < n/\n <=9223372036854775807
theorem IsPos.stb:Stb IsPos:=λ_ _ _ _ h =>h
theorem IntAt.len{w:World}{k n cap:Nat}{s:Bool}{ao:Option Addr}{z:Int}(h:IntAt w k s ao n cap z):n <=9223372036854775807:=by
 obtain⟨m,⟨xs,h1,_⟩,_⟩ :=h
 have:=h1.capo;have:=h1.big;omega
end Go.Proofs.YtknffgdbdadpcaaGreatDoor
