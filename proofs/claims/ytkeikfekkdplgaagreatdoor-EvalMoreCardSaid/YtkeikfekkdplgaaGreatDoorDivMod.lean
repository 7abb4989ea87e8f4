/- Lemmas. -/
import Derived.Test.YtkeikfekkdplgaaGreatDoorRg
namespace Go.Proofs.YtkeikfekkdplgaaGreatDoor
section
open Go Go.RowKit
open Go.Proofs.Tryz
theorem za{P:Prop}(h:P:=by kernel_rfl):P:=h
theorem zc{P:Prop}(h:P:=by{intro v w' hE hd;simp only[lxE,Nat.reduceAdd];skip;skip;intro K hK;go_simp;exact hK.out _ _ (Ext.refl _) rfl (FreshIf.no rfl)}):P:=h
theorem jj{P:Prop}(h:P:=by{intro v w' hE hd;simp only[lxE,Nat.reduceAdd];have L0:=Bx.c0 (B3.out.ext hE);have L1:=Bx.c1 (B3.out.ext hE);skip;intro K hK;go_simp;exact hK.out _ _ (Ext.refl _) rfl (FreshIf.no rfl)}):P:=h
theorem jk{P:Prop}(h:P:=by{intro v w' hE hd;simp only[lxE,Nat.reduceAdd];have L0:=Bx.c0 (b3.out.ext hE);have L1:=Bx.c1 (b3.out.ext hE);skip;intro K hK;go_simp;exact hK.out _ _ (Ext.refl _) rfl (FreshIf.no rfl)}):P:=h
theorem ju{P:Prop}(h:P:=by{intro v w' hE hd;simp only[lxE,Nat.reduceAdd];intro K hK;go_simp;refine hK.out _ _ ((Ext.refl _).alloc _) ⟨_,rfl,hE.size,Bx.new _ _ _ _ _⟩ FreshIf.yes}):P:=h
abbrev jL:=@wpAny_done
set_option maxRecDepth 100000
set_option maxHeartbeats 2000000
theorem IntAt.tight{w:World}{k k' n cap:Nat}{s:Bool}{ao:Option Addr}{z:Int}(h:IntAt w k s ao n cap z)(hz:z.natAbs<4294967296^k'):IntAt w k' s ao n cap z:=by
  obtain⟨m,h1,h2,h3⟩:=h;exact⟨m,h1.tight (by rw[h3]at hz;cases s <;> simpa using hz),h2,h3⟩
theorem IntAt.size{w:World}{k n cap:Nat}{s:Bool}{ao:Option Addr}{z:Int}(h:IntAt w k s ao n cap z):z.natAbs<4294967296^k:=by
  obtain⟨m,h1,h2,h3⟩:=h;have:=Nat.lt_of_lt_of_le h1.lt (Nat.pow_le_pow_right (by omega:0<4294967296) h1.le);rw[h3];cases s <;> simpa using this
theorem IntAt.zero_iff{w:World}{k n cap:Nat}{s:Bool}{ao:Option Addr}{z:Int}(h:IntAt w k s ao n cap z):z=0↔n=0:=by
  obtain⟨m,h1,h2,h3⟩:=h;rw[<-h1.zero,h3];cases s <;> simp
theorem IntAt.neg_iff{w:World}{k n cap:Nat}{s:Bool}{ao:Option Addr}{z:Int}(h:IntAt w k s ao n cap z):z<0↔s=true:=by
  have hz:=h.zero_iff;obtain⟨m,h1,h2,h3⟩:=h;cases s
  ·simp[h3]
  · have:n≠0:=λh0=>by have:=h2 h0;cases this
    simp only[iff_true];have h4:z≠0:=λh5=>this (hz.1 h5)
    simp at h3;omega
theorem ediv_unique(a b q r:Int)(h:a=q*b+r)(h0:0<=r)(h1:r<b.natAbs):a/b=q/\a%b=r:=by
  rcases Int.lt_or_lt_of_ne (show b≠0 by omega)with hb|hb
  · have:=(Int.ediv_emod_unique (a:=a) (b:= -b) (r:=r) (q:= -q) zb).2 ⟨by rw[h];grind,h0,by omega⟩
    rw[Int.ediv_neg,Int.emod_neg]at this;omega
  ·exact(Int.ediv_emod_unique hb).2 ⟨by rw[h];grind,h0,by omega⟩
theorem tDivMod_1{P:Prop}(h:P:=by
  rcases Int.lt_trichotomy z 0 with h|h|h
  ·rw[Int.sign_eq_neg_one_of_neg h];decide
  ·subst h;decide
  ·rw[Int.sign_eq_one_of_pos h];decide
  ):P:=h
theorem sign_lo(z:Int): -9223372036854775808<=z.sign:=by
  exact tDivMod_1
theorem sign_hi(z:Int):z.sign<=9223372036854775807:=by
  exact tDivMod_1
theorem dm_math(s1 s2:Bool)(m1 m2:Nat)(z1 z2 q r:Int)(h0:0<m2)(h1:z1=if s1 then -(m1:Int)else m1)(h2:z2=if s2 then -(m2:Int)else m2)
    (hq:q=if (!(s1==s2))then -((m1/m2:Nat):Int)else(m1/m2:Nat)) (hr:r=if s1 then -((m1%m2:Nat):Int)else(m1%m2:Nat)):z1=q*z2+r/\r.natAbs<z2.natAbs:=by
  have hd:(m1:Int)=(m2:Int)*(m1/m2:Nat)+(m1%m2:Nat):=by exact_mod_cast (Nat.div_add_mod m1 m2).symm
  have hlt:=jO m1 h0;generalize m1/m2=a at*;generalize m1%m2=b at*;subst h1;subst h2;subst hq;subst hr;refine⟨?_,by cases s1 <;> cases s2 <;> simp <;> omega⟩;rw[hd];cases s1 <;> cases s2 <;> simp <;> grind
theorem dm_pos(z1 z2 q r:Int)(k1 k2:Nat)(h:z1=q*z2+r/\r.natAbs<z2.natAbs)(h1:z1.natAbs<4294967296^k1)(h2:z2.natAbs<4294967296^k2)(hr:0<=r):
    z1/z2=q/\z1%z2=r/\q.natAbs<4294967296^k1/\r.natAbs<4294967296^k2:=by
  obtain⟨h3,h4⟩:=ediv_unique z1 z2 q r h.1 hr zb;have:=Int.natAbs_ediv_le_natAbs z1 z2;exact⟨h3,h4,by omega,by omega⟩
theorem dm_neg(z1 z2 q r:Int)(k1 k2:Nat)(h:z1=q*z2+r/\r.natAbs<z2.natAbs)(h1:z1.natAbs<4294967296^k1)(h2:z2.natAbs<4294967296^k2)(hr:r<0):
    z1/z2=q-z2.sign/\z1%z2=r+z2.natAbs/\(q-z2.sign).natAbs<4294967296^k1/\(r+z2.natAbs).natAbs<4294967296^k2:=by
  have hs:z2.sign*z2=z2.natAbs:=by rw[Int.mul_comm];exact Int.mul_sign_self z2
  refine dm_pos z1 z2 (q-z2.sign) (r+z2.natAbs) k1 k2 ⟨?_,by omega⟩ h1 h2 zb;rw[h.1,Int.sub_mul,hs];omega
def RDM(w0:World)(k1 k2:Nat)(q r:Int)(e:Ending)(w':World):Prop:=
  ∃s1 a1 n1 c1 s2 a2 n2 c2,e=.returned (.tuple #[.agg #[.bool s1,.slice a1 n1 c1],.agg #[.bool s2,.slice a2 n2 c2],.int .i64 0])/\Ext w0 w'/\IntAt w' k1 s1 a1 n1 c1 q/\IntAt w' k2 s2 a2 n2 c2 r
theorem DivMod_c(w:World)(s1 s2:Bool)(a1 a2:Option Addr)(n1 n2 c1 c2 k1 k2:Nat)(z1 z2:Int)(h1:IntAt w k1 s1 a1 n1 c1 z1)(h2:IntAt w k2 s2 a2 n2 c2 z2)(l1:k1<=134217728)(l2:k2<=134217728)(hz2:z2=1):
    Calls prog 213 #[.agg #[.bool s1,.slice a1 n1 c1],.agg #[.bool s2,.slice a2 n2 c2]] w (RDM w k1 k2 (z1/z2) (z1%z2)):=by
  have hn2:n2≠0:=λh=>by have:=h2.zero_iff.2 h;omega
  have hn2':((n2:Int)==0)=false:=by rw[jG];omega
  have I1:=hid h1;have I2:=hid h2;obtain⟨m1,g1,_,hz1⟩:=h1;obtain⟨m2,g2,_,hzz2⟩:=h2
  have hm2:0<m2:=by
    rcases jH m2 with h|h
    ·exact absurd (g2.zero.1 h) hn2
    ·exact h
  obtain⟨W,hW,K0⟩:=kq22 w s1 s2 a1 a2 n1 n2 c1 c2;have hdiv:=hid (div_c W a1 a2 n1 n2 c1 c2 k1 k2 m1 m2 (g1.ext K0.ext) (g2.ext K0.ext) zb hm2 (by cases s2 <;> simp at hzz2 <;> omega));have Hz1:=hid hz1;have Hz2:=hid hzz2;clear hz1 hzz2 hn2 hz2;go_enter func213,ntmps213;go_wp2_with fail;rw[<-hW];clear hW;refine jC hdiv.out ?_;rintro e w1 ⟨aq,nq,cq,ar,nr,cr,rfl,e1,hq,hr⟩;have K1:=K0.after e1;have b2:=K1.bx w.heap.size s1 a1 n1 c1 zd;have b3:=K1.bx (w.heap.size+1) s2 a2 n2 c2 zd;have b4:Bx w1 (w.heap.size+1+1) false none 0 0:=K1.bx (w.heap.size+2) false none 0 0 zd;have b5:Bx w1 (w.heap.size+1+1+1) false none 0 0:=K1.bx (w.heap.size+3) false none 0 0 zd;obtain⟨xq,wq,lq,_,vq⟩:=hq;obtain⟨xr,wr,lr,_,vr⟩:=hr;have hq0:∃q0:Int,q0=if (!(s1==s2))then -(qD xq:Int)else qD xq:=⟨_,rfl⟩
  have hr0:∃r0:Int,r0=if s1 then -(qD xr:Int)else qD xr:=⟨_,rfl⟩
  obtain⟨q0,hq0⟩:=hq0;obtain⟨r0,hr0⟩:=hr0;have Hq0:=hid hq0;have Hr0:=hid hr0;have Vq:=hid vq;have Vr:=hid vr;clear hdiv vq vr hq0 hr0;go_wp2_with fail;have B2:=hid b2;have B3:=hid b3;have B4:=hid b4;have B5:=hid b5;clear b2 b3 b4 b5
  refine qS 13 [some 25,some 26,some 27,some 28,some 29,some 30,some 31,some 32,some 33,some 34,some 35,some 9,some 10]
    [IsP (w.heap.size) 0,IsV (.bool s1),IsP (w.heap.size+1) 0,IsV (.bool s2),IsV (.bool (!(s1==s2))),IsV (.slice aq nq cq),IsI nq q0,
     IsP (w.heap.size) 0,IsV (.bool s1),IsV (.slice ar nr cr),IsI nr r0,IsB w1,IsB w1] [11,12] 2 za dcx za za za za za ?_ ?_ ?_ ?_
  ·repeat' (first|exact trivial|exact IsV.stb _|exact IsI.stb _ _|exact IsB.stb _|apply jI)
  ·intro i hi;simp only[List.mem_cons,List.not_mem_nil,or_false]at hi;rcases hi with rfl|rfl <;> exact IsB.box _
  · refine RgAll.cons zc ?_
    refine RgAll.cons (by{intro v w' hE hd;simp only[lxE,Nat.reduceAdd];have d0:v 0=.pointer (some ⟨w.heap.size,0,none⟩):=hd 0 za;have L0:=Bx.c0 (B2.out.ext hE);have L1:=Bx.c1 (B2.out.ext hE);rw[d0];intro K hK;go_simp;exact hK.out _ _ (Ext.refl _) rfl (FreshIf.no rfl)}) ?_;refine RgAll.cons zc ?_;refine RgAll.cons (by{intro v w' hE hd;simp only[lxE,Nat.reduceAdd];have d0:v 2=.pointer (some ⟨w.heap.size+1,0,none⟩):=hd 2 za;have L0:=Bx.c0 (B3.out.ext hE);have L1:=Bx.c1 (B3.out.ext hE);rw[d0];intro K hK;go_simp;exact hK.out _ _ (Ext.refl _) rfl (FreshIf.no rfl)}) ?_;refine RgAll.cons (by{intro v w' hE hd;simp only[lxE,Nat.reduceAdd];have d0:v 1=.bool s1:=hd 1 za;have d1:v 3=.bool s2:=hd 3 za;rw[d0,d1];intro K hK;go_simp;exact hK.out _ _ (Ext.refl _) rfl (FreshIf.no rfl)}) ?_;refine RgAll.cons zc ?_;refine RgAll.cons (by{intro v w' hE hd;simp only[lxE,Nat.reduceAdd];have d0:v 4=.bool (!(s1==s2)):=hd 4 za;have d1:v 5=.slice aq nq cq:=hd 5 za;rw[d0,d1];intro K hK;go_simp;go_at_call 131;go_split_ands;(with_reducible refine jC (of_c _ _ aq nq cq xq q0 (wq.ext hE) Hq0.out) ?_);rintro e w2 ⟨s9,a9,n9,c9,rfl,e2,h9⟩;exact hK.out _ _ e2 ⟨_,_,_,_,rfl,h9⟩ (FreshIf.no rfl)}) ?_;refine RgAll.cons zc ?_;refine RgAll.cons (by{intro v w' hE hd;simp only[lxE,Nat.reduceAdd];have d0:v 7=.pointer (some ⟨w.heap.size,0,none⟩):=hd 7 za;have L0:=Bx.c0 (B2.out.ext hE);have L1:=Bx.c1 (B2.out.ext hE);rw[d0];intro K hK;go_simp;exact hK.out _ _ (Ext.refl _) rfl (FreshIf.no rfl)}) ?_;refine RgAll.cons zc ?_;refine RgAll.cons (by{intro v w' hE hd;simp only[lxE,Nat.reduceAdd];have d0:v 8=.bool s1:=hd 8 za;have d1:v 9=.slice ar nr cr:=hd 9 za;rw[d0,d1];intro K hK;go_simp;go_at_call 131;go_split_ands;(with_reducible refine jC (of_c _ _ ar nr cr xr r0 (wr.ext hE) Hr0.out) ?_);rintro e w2 ⟨s9,a9,n9,c9,rfl,e2,h9⟩;exact hK.out _ _ e2 ⟨_,_,_,_,rfl,h9⟩ (FreshIf.no rfl)}) ?_;refine RgAll.cons ju ?_
    refine RgAll.cons ju ?_;exact rn0
  intro v w2 e2 hZ hne;have d6:IsI nq q0 (v 6) w2:=hZ 6 dcx;have d10:IsI nr r0 (v 10) w2:=hZ 10 dcx;have d11:IsB w1 (v 11) w2:=hZ 11 dcx;have d12:IsB w1 (v 12) w2:=hZ 12 dcx;have hne:=hne 11 12 dcx dcx dcx dcx dcx;obtain⟨s3,a3,n3,c3,v6,h3⟩:=d6;obtain⟨s4,a4,n4,c4,v10,h4⟩:=d10;obtain⟨g1,v11,hg1,b1⟩:=d11;obtain⟨g2,v12,hg2,b2⟩:=d12;rw[v11,v12]at hne;have hne:g2≠g1:=λh=>hne (by rw[h])
  have l0:w.heap.size+3<w1.heap.size:=B5.out.lt;have B2:=hid (B2.out.ext e2);have B3:=hid (B3.out.ext e2);have B4:=hid (B4.out.ext e2);have B5:=hid (B5.out.ext e2);have E:=K1.ext.trans e2;simp only[lxE,Nat.reduceAdd];rw[v6,v10,v11,v12];clear v6 v10 v11 v12 hZ;have F1:=b1.c0;have F2:=b1.c1;have F3:=b1.f0;have F4:=b1.f1;refine wpAny_ready (rs:= [13]) za zd (AllReady.cons rfl (λK hK=>?_) AllReady.nil);go_simp;refine hK _ _ ?_;clear hK K;clear F1 F2 F3 F4;obtain⟨w3,hW,P1,P2,P3,P4⟩:=b1.put s3 a3 n3 c3;rw[<-hW];clear hW;have b1:=P1;have b2:=P2 hne b2;have B2:=hid (P2 (show w.heap.size≠g1 by omega) B2.out);have B3:=hid (P2 (show w.heap.size+1≠g1 by omega) B3.out);have B4:=hid (P2 (show w.heap.size+1+1≠g1 by omega) B4.out);have B5:=hid (P2 (show w.heap.size+1+1+1≠g1 by omega) B5.out);have E:=P4 E zb;have h3:=h3.gr P3;have h4:=h4.gr P3;clear P1 P2 P3 P4;have F1:=b2.c0;have F2:=b2.c1;have F3:=b2.f0;have F4:=b2.f1;refine wpAny_ready (rs:= [14]) za zd (AllReady.cons rfl (λK hK=>?_) AllReady.nil);go_simp;refine hK _ _ ?_;clear hK K;clear F1 F2 F3 F4;obtain⟨w4,hW,P1,P2,P3,P4⟩:=b2.put s4 a4 n4 c4;rw[<-hW];clear hW;have b1:=P2 (Ne.symm hne) b1;have b2:=P1;have B2:=hid (P2 (show w.heap.size≠g2 by omega) B2.out);have B3:=hid (P2 (show w.heap.size+1≠g2 by omega) B3.out);have B4:=hid (P2 (show w.heap.size+1+1≠g2 by omega) B4.out);have B5:=hid (P2 (show w.heap.size+1+1+1≠g2 by omega) B5.out);have E:=P4 E zb;have h3:=h3.gr P3;have h4:=h4.gr P3;clear P1 P2 P3 P4;refine jL za ?_ _;have N4:=hid h4.neg_iff;have hM:=hid (dm_math s1 s2 m1 m2 z1 z2 q0 r0 hm2 Hz1.out Hz2.out (by rw[<-Vq.out];exact Hq0.out) (by rw[<-Vr.out];exact Hr0.out));have F1:=b2.c0;have F2:=b2.c1;have F3:=b2.f0;have F4:=b2.f1;go_wp2_with fail
  · rename_i hs4 _ _
    subst hs4;have hM:=hid (dm_neg z1 z2 q0 r0 k1 k2 hM.out I1.out.size I2.out.size (N4.out.2 rfl));clear F1 F2 F3 F4;have I2':=I2.out.ext E;refine qS 4 (dR 38 4) [IsV (.agg #[.bool true,.slice a4 n4 c4]),IsV (.agg #[.bool s2,.slice a2 n2 c2]),IsI k2 (z2.natAbs:Int),IsI (max nr k2+1) (r0+z2.natAbs)] [] 1 za dcx za za za za za ?_ (λ_ h=>by cases h) ?_ ?_
    ·repeat' (first|exact trivial|exact IsV.stb _|exact IsI.stb _ _|exact IsB.stb _|apply jI)
    · refine RgAll.cons (by{intro v w' hE hd;simp only[lxE,Nat.reduceAdd];have L0:=Bx.c0 (b2.ext hE);have L1:=Bx.c1 (b2.ext hE);skip;intro K hK;go_simp;exact hK.out _ _ (Ext.refl _) rfl (FreshIf.no rfl)}) ?_
      refine RgAll.cons jj ?_;refine RgAll.cons (by{intro v w' hE hd;simp only[lxE,Nat.reduceAdd];have d0:v 1=.agg #[.bool s2,.slice a2 n2 c2]:=hd 1 za;rw[d0];intro K hK;go_simp;go_at_call 130;go_split_ands;(with_reducible refine jC (Abs_c _ s2 a2 n2 c2 k2 z2 (I2'.ext hE)) ?_);rintro e w2 ⟨s9,a9,n9,c9,rfl,e2,h9⟩;exact hK.out _ _ e2 ⟨_,_,_,_,rfl,h9⟩ (FreshIf.no rfl)}) ?_;refine RgAll.cons (by{intro v w' hE hd;simp only[lxE,Nat.reduceAdd];have d0:v 0=.agg #[.bool true,.slice a4 n4 c4]:=hd 0 za;have d1:IsI k2 (z2.natAbs:Int) (v 2) w':=hd 2 za;obtain⟨s5,a5,n5,c5,d1,h5⟩:=d1;rw[d0,d1];intro K hK;go_simp;go_at_call 140;go_split_ands;(with_reducible refine jC (Add_c _ true s5 a4 a5 n4 n5 c4 c5 nr k2 r0 z2.natAbs (h4.ext hE) h5 zb zb) ?_);rintro e w2 ⟨s9,a9,n9,c9,rfl,e2,h9⟩;exact hK.out _ _ e2 ⟨_,_,_,_,rfl,h9⟩ (FreshIf.no rfl)}) ?_;exact rn0
    intro v w5 e5 hZ _;have d3:IsI (max nr k2+1) (r0+z2.natAbs) (v 3) w5:=hZ 3 dcx;obtain⟨s5,a5,n5,c5,v3,h5⟩:=d3;have b1:=b1.ext e5;have b2:=b2.ext e5;have B2:=hid (B2.out.ext e5);have B3:=hid (B3.out.ext e5);have B4:=hid (B4.out.ext e5);have B5:=hid (B5.out.ext e5);have E:=E.trans e5;have h3:=h3.ext e5;simp only[lxE,Nat.reduceAdd];rw[v3];clear v3 hZ h4;have F1:=b2.c0;have F2:=b2.c1;have F3:=b2.f0;have F4:=b2.f1;refine wpAny_ready (rs:= [4]) za zd (AllReady.cons rfl (λK hK=>?_) AllReady.nil);go_simp;refine hK _ _ ?_;clear hK K;clear F1 F2 F3 F4;obtain⟨w6,hW,P1,P2,P3,P4⟩:=b2.put s5 a5 n5 c5;rw[<-hW];clear hW;have b1:=P2 (Ne.symm hne) b1;have b2:=P1;have B2:=hid (P2 (show w.heap.size≠g2 by omega) B2.out);have B3:=hid (P2 (show w.heap.size+1≠g2 by omega) B3.out);have B4:=hid (P2 (show w.heap.size+1+1≠g2 by omega) B4.out);have B5:=hid (P2 (show w.heap.size+1+1+1≠g2 by omega) B5.out);have E:=P4 E zb;have h3:=h3.gr P3;have h5:=h5.gr P3;clear P1 P2 P3 P4;refine jL za ?_ _;go_wp2_with fail;have I2':=I2.out.ext E;refine qS 5 (dR 42 5) [IsV (.agg #[.bool s3,.slice a3 n3 c3]),IsV (.agg #[.bool s2,.slice a2 n2 c2]),iV z2.sign,IsI 2 z2.sign,IsI (max nq 2+1) (q0-z2.sign)] [] 1 za dcx za za za za za ?_ (λ_ h=>by cases h) ?_ ?_
    ·repeat' (first|exact trivial|exact IsV.stb _|exact IsI.stb _ _|exact IsB.stb _|apply jI)
    · refine RgAll.cons (by{intro v w' hE hd;simp only[lxE,Nat.reduceAdd];have L0:=Bx.c0 (b1.ext hE);have L1:=Bx.c1 (b1.ext hE);skip;intro K hK;go_simp;exact hK.out _ _ (Ext.refl _) rfl (FreshIf.no rfl)}) ?_
      refine RgAll.cons jj ?_;refine RgAll.cons (by{intro v w' hE hd;simp only[lxE,Nat.reduceAdd];have d0:v 1=.agg #[.bool s2,.slice a2 n2 c2]:=hd 1 za;rw[d0];intro K hK;go_simp;go_at_call 127;go_split_ands;(with_reducible refine jC (Sign_c _ s2 a2 n2 c2 k2 z2 (I2'.ext hE)) ?_);rintro e w2 ⟨rfl,e2⟩;exact hK.out _ _ e2 rfl (FreshIf.no rfl)}) ?_;refine RgAll.cons (by{intro v w' hE hd;simp only[lxE,Nat.reduceAdd];have d0:v 2=.int .i64 z2.sign:=hd 2 za;rw[d0];intro K hK;go_simp;go_at_call 108;go_split_ands;(with_reducible refine jC (Of_c _ z2.sign (sign_lo z2) (sign_hi z2)) ?_);rintro e w2 ⟨s9,a9,n9,c9,rfl,e2,h9⟩;exact hK.out _ _ e2 ⟨_,_,_,_,rfl,h9⟩ (FreshIf.no rfl)}) ?_;refine RgAll.cons (by{intro v w' hE hd;simp only[lxE,Nat.reduceAdd];have d0:v 0=.agg #[.bool s3,.slice a3 n3 c3]:=hd 0 za;have d1:IsI 2 z2.sign (v 3) w':=hd 3 za;obtain⟨s6,a6,n6,c6,d1,h6⟩:=d1;rw[d0,d1];intro K hK;go_simp;go_at_call 142;go_split_ands;(with_reducible refine jC (Sub_c _ s3 s6 a3 a6 n3 n6 c3 c6 nq 2 q0 z2.sign (h3.ext hE) h6 zb zb) ?_);rintro e w2 ⟨s9,a9,n9,c9,rfl,e2,h9⟩;exact hK.out _ _ e2 ⟨_,_,_,_,rfl,h9⟩ (FreshIf.no rfl)}) ?_;exact rn0
    intro v w7 e7 hZ _;have d4:IsI (max nq 2+1) (q0-z2.sign) (v 4) w7:=hZ 4 dcx;obtain⟨s6,a6,n6,c6,v4,h6⟩:=d4;have b1:=b1.ext e7;have b2:=b2.ext e7;have B2:=hid (B2.out.ext e7);have B3:=hid (B3.out.ext e7);have B4:=hid (B4.out.ext e7);have B5:=hid (B5.out.ext e7);have E:=E.trans e7;have h5:=h5.ext e7;simp only[lxE,Nat.reduceAdd];rw[v4];clear v4 hZ h3;have F1:=b1.c0;have F2:=b1.c1;have F3:=b1.f0;have F4:=b1.f1;refine wpAny_ready (rs:= [5]) za zd (AllReady.cons rfl (λK hK=>?_) AllReady.nil);go_simp;refine hK _ _ ?_;clear hK K;clear F1 F2 F3 F4;obtain⟨w8,hW,P1,P2,P3,P4⟩:=b1.put s6 a6 n6 c6;rw[<-hW];clear hW;have b1:=P1;have b2:=P2 hne b2;have B2:=hid (P2 (show w.heap.size≠g1 by omega) B2.out);have B3:=hid (P2 (show w.heap.size+1≠g1 by omega) B3.out);have B4:=hid (P2 (show w.heap.size+1+1≠g1 by omega) B4.out);have B5:=hid (P2 (show w.heap.size+1+1+1≠g1 by omega) B5.out);have E:=P4 E zb;have h5:=h5.gr P3;have h6:=h6.gr P3;clear P1 P2 P3 P4;refine jL za ?_ _;go_wp2_with fail;have F1:=b1.c0;have F2:=b1.c1;have F3:=b1.f0;have F4:=b1.f1;have G1:=b2.c0;have G2:=b2.c1;have G3:=b2.f0;have G4:=b2.f1;have H1:=B4.out.c0;have H2:=B4.out.c1;have H3:=B4.out.f0;have H4:=B4.out.f1;have M1:=B5.out.c0;have M2:=B5.out.c1;have M3:=B5.out.f0;have M4:=B5.out.f1;have N1:g1≠w.heap.size+1+1:=(by omega);have N2:g1≠w.heap.size+1+1+1:=(by omega);have N3:g2≠w.heap.size+1+1:=(by omega);have N5:g2≠w.heap.size+1+1+1:=(by omega);go_region;all_goals (go_wp2_with fail);all_goals (obtain⟨X1,hX,P1,P2,P3,P4⟩:=B4.out.put s6 a6 n6 c6;rw[<-hX];clear hX;obtain⟨X2,hX,Q1,Q2,Q3,Q4⟩:=(P2 (show w.heap.size+1+1+1≠w.heap.size+1+1 by omega) B5.out).put s5 a5 n5 c5;rw[<-hX];clear hX;have T4:=Q2 zb P1;have E:=Q4 (P4 E zb) zb);all_goals (have T0:=T4.c0;have T1:=T4.c1;have T2:=Q1.c0;have T3:=Q1.c1)
    all_goals refine jD (v:=.tuple #[.agg #[.bool s6,.slice a6 n6 c6],.agg #[.bool s5,.slice a5 n5 c5],.int .i64 0]) (by simp[results,results213,go_sem,T0,T1,T2,T3]) rfl ⟨_,_,_,_,_,_,_,_,rfl,E.drew,?_,?_⟩
    ·rw[hM.out.1];exact(((h6.tight hM.out.2.2.1).gr P3).gr Q3).ext (Ext.refl _).drew
    ·rw[hM.out.2.1];exact(((h5.tight hM.out.2.2.2).gr P3).gr Q3).ext (Ext.refl _).drew
  · rename_i hs4 _ _
    subst hs4;have hM:=hid (dm_pos z1 z2 q0 r0 k1 k2 hM.out I1.out.size I2.out.size (by have:=N4.out;simp at this;exact this));clear F1 F2 F3 F4;have F1:=b1.c0;have F2:=b1.c1;have F3:=b1.f0;have F4:=b1.f1;have G1:=b2.c0;have G2:=b2.c1;have G3:=b2.f0;have G4:=b2.f1;have H1:=B4.out.c0;have H2:=B4.out.c1;have H3:=B4.out.f0;have H4:=B4.out.f1;have M1:=B5.out.c0;have M2:=B5.out.c1;have M3:=B5.out.f0;have M4:=B5.out.f1;have N1:g1≠w.heap.size+1+1:=(by omega);have N2:g1≠w.heap.size+1+1+1:=(by omega);have N3:g2≠w.heap.size+1+1:=(by omega);have N5:g2≠w.heap.size+1+1+1:=(by omega);go_region;all_goals (go_wp2_with fail);all_goals (obtain⟨X1,hX,P1,P2,P3,P4⟩:=B4.out.put s3 a3 n3 c3;rw[<-hX];clear hX;obtain⟨X2,hX,Q1,Q2,Q3,Q4⟩:=(P2 (show w.heap.size+1+1+1≠w.heap.size+1+1 by omega) B5.out).put false a4 n4 c4;rw[<-hX];clear hX;have T4:=Q2 zb P1;have E:=Q4 (P4 E zb) zb);all_goals (have T0:=T4.c0;have T1:=T4.c1;have T2:=Q1.c0;have T3:=Q1.c1)
    all_goals refine jD (v:=.tuple #[.agg #[.bool s3,.slice a3 n3 c3],.agg #[.bool false,.slice a4 n4 c4],.int .i64 0]) (by simp[results,results213,go_sem,T0,T1,T2,T3]) rfl ⟨_,_,_,_,_,_,_,_,rfl,E.drew,?_,?_⟩
    ·rw[hM.out.1];exact(((h3.tight hM.out.2.2.1).gr P3).gr Q3).ext (Ext.refl _).drew
    ·rw[hM.out.2.1];exact(((h4.tight hM.out.2.2.2).gr P3).gr Q3).ext (Ext.refl _).drew

theorem mod_c(w:World)(s1 s2:Bool)(a1 a2:Option Addr)(n1 n2 c1 c2 k1 k2:Nat)(z1 z2:Int)(h1:IntAt w k1 s1 a1 n1 c1 z1)(h2:IntAt w k2 s2 a2 n2 c2 z2)(l1:k1<=134217728)(l2:k2<=134217728)(hz2:z2=1):
    Calls prog 212 #[.agg #[.bool s1,.slice a1 n1 c1],.agg #[.bool s2,.slice a2 n2 c2]] w (RInt w k2 (z1%z2)):=by
  obtain⟨W,hW,K0⟩:=kq21 w s1 s2 a1 a2 n1 n2 c1 c2;have b2:=K0.bx w.heap.size s1 a1 n1 c1 zd;have b3:=K0.bx (w.heap.size+1) s2 a2 n2 c2 zd;have B4:=hid (show Bx W (w.heap.size+1+1) false none 0 0 from K0.bx (w.heap.size+2) false none 0 0 zd);have E:=hid K0.ext;have H:=hid (DivMod_c W s1 s2 a1 a2 n1 n2 c1 c2 k1 k2 z1 z2 (h1.ext K0.ext) (h2.ext K0.ext) l1 l2 hz2);clear K0 h1 h2 hz2;go_enter func212,ntmps212;go_wp2_with fail;rw[<-hW];clear hW;have F1:=b2.c0;have F2:=b2.c1;have F3:=b2.f0;have F4:=b2.f1;have G1:=b3.c0;have G2:=b3.c1;have G3:=b3.f0;have G4:=b3.f1;go_wp2_with fail;refine jC H.out ?_;rintro e w1 ⟨s3,a3,n3,c3,s4,a4,n4,c4,rfl,e1,h3,h4⟩;have B4:=hid (B4.out.ext e1);have E:=hid (E.out.trans e1);clear F1 F2 F3 F4 G1 G2 G3 G4 H b2 b3;go_upto_region 2 with fail;obtain⟨X,hX,b5,b6,e2⟩:=bx2 w1 s3 s4 a3 a4 n3 n4 c3 c4;rw[<-hX];clear hX;have b4:=B4.out.ext e2;have E:=E.out.trans e2;have F1:=b6.c0;have F2:=b6.c1;have F3:=b6.f0;have F4:=b6.f1;have G1:=b4.c0;have G2:=b4.c1;have G3:=b4.f0;have G4:=b4.f1;go_wp2_with fail;obtain⟨X1,hX,P1,P2,P3,P4⟩:=b4.put s4 a4 n4 c4;rw[<-hX];clear hX;have T0:=P1.c0;have T1:=P1.c1;exact jD (v:=.agg #[.bool s4,.slice a4 n4 c4]) (by simp[results,results212,go_sem,T0,T1]) rfl ⟨_,_,_,_,rfl,P4 E zb,(h4.ext e2).gr P3⟩
theorem gcd_step(a b:Int):Int.gcd b (a%b)=Int.gcd a b:=by
  have h:=Int.gcd_add_mul_left_right b (a%b) (a/b);rw[Int.emod_add_mul_ediv]at h;rw[<-h,Int.gcd_comm]
theorem emod_natAbs_lt(a b:Int)(h:b≠0):(a%b).natAbs<b.natAbs:=by
  have h1:=Int.emod_nonneg a h;have h2:=Int.emod_lt a h;omega
structure GcdInv (w:World) (k:Nat) (g:Nat) (A B:Int) (sA sB:Bool) (aA aB:Option Addr) (nA nB cA cB:Nat) (wr:World):Prop where
  b2:Bx wr w.heap.size sA aA nA cA
  b3:Bx wr (w.heap.size+1) sB aB nB cB
  b4:Bx wr (w.heap.size+1+1) false none 0 0
  hA:IntAt wr k sA aA nA cA A
  hB:IntAt wr k sB aB nB cB B
  hg:Int.gcd A B=g
  hu:B=1\/B=0
  e:Ext w wr
theorem Gcd_c(w:World)(s1 s2:Bool)(a1 a2:Option Addr)(n1 n2 c1 c2 k1 k2:Nat)(z1 z2:Int)(h1:IntAt w k1 s1 a1 n1 c1 z1)(h2:IntAt w k2 s2 a2 n2 c2 z2)(l1:k1<=134217728)(l2:k2<=134217728)(hu:z2=1):
    Calls prog 175 #[.agg #[.bool s1,.slice a1 n1 c1],.agg #[.bool s2,.slice a2 n2 c2]] w (RInt w (max k1 k2) (Int.gcd z1 z2:Nat)):=by
  obtain⟨W,hW,K0⟩:=kq21 w s1 s2 a1 a2 n1 n2 c1 c2;obtain⟨k,hk⟩:∃k,k=max k1 k2:=⟨_,rfl⟩;obtain⟨g,hg⟩:∃g,g=Int.gcd z1 z2:=⟨_,rfl⟩;have kl:k<=134217728:=zb
  have I0:=hid (show GcdInv w k g z1 z2 s1 s2 a1 a2 n1 n2 c1 c2 W from
    ⟨K0.bx w.heap.size s1 a1 n1 c1 zd,K0.bx (w.heap.size+1) s2 a2 n2 c2 zd,K0.bx (w.heap.size+2) false none 0 0 zd,
     (h1.ext K0.ext).mono zb,(h2.ext K0.ext).mono zb,hg.symm,.inl hu,K0.ext⟩)
  rw[<-hk,<-hg];clear K0 h1 h2 hk hg l1 l2 hu;go_enter func175,ntmps175;go_wp2_with fail;rw[<-hW];clear hW
  go_loopg [] z2.natAbs (λgk wr=>∃A B sA sB aA aB nA nB cA cB,B.natAbs=gk/\Hid (GcdInv w k g A B sA sB aA aB nA nB cA cB wr))
  case atStart=>exact⟨_,_,_,_,_,_,_,_,_,_,rfl,I0⟩
  case round=>
    clear I0;obtain⟨A,B,sA,sB,aA,aB,nA,nB,cA,cB,hgk,I⟩:=hrel;have hz:=I.out.hB.zero_iff;by_cases hB:nB=0
    · subst hB
      have hB0:B=0:=hz.2 rfl;subst hB0;have hgg:g=A.natAbs:=by rw[<-I.out.hg,Int.gcd_zero_right]
      have hb4:=hid I.out.b4;have F1:=I.out.b3.c0;have F2:=I.out.b3.c1;have F3:=I.out.b3.f0;have F4:=I.out.b3.f1;have G1:=I.out.b2.c0;have G2:=I.out.b2.c1;have G3:=I.out.b2.f0;have G4:=I.out.b2.f1;go_wp2_with fail;refine jC (Abs_c _ _ _ _ _ _ _ I.out.hA) ?_;rintro e w1 ⟨s3,a3,n3,c3,rfl,e1,h3⟩;have b4:=hb4.out.ext e1;have E:=I.out.e.trans e1;clear F1 F2 F3 F4 G1 G2 G3 G4;have F1:=b4.c0;have F2:=b4.c1;have F3:=b4.f0;have F4:=b4.f1;go_wp2_with fail;obtain⟨X1,hX,P1,P2,P3,P4⟩:=b4.put s3 a3 n3 c3;rw[<-hX];clear hX;have T0:=P1.c0;have T1:=P1.c1;exact jD (v:=.agg #[.bool s3,.slice a3 n3 c3]) (by simp[results,results175,go_sem,T0,T1]) rfl ⟨_,_,_,_,rfl,P4 E zb,by rw[hgg];exact h3.gr P3⟩
    · have hBi:decide ((0:Int)<(nB:Int))=true:=by simp;omega
      have hBn:B≠0:=λh=>hB (hz.1 h)
      have M1:=gcd_step A B;have M2:=emod_natAbs_lt A B hBn;have M3:A%B=1\/A%B=0:=.inr (by rw[I.out.hu.resolve_right hBn];omega);have b2:=hid I.out.b2;have b3:=hid I.out.b3;have b4:=hid I.out.b4;have F1:=I.out.b3.c0;have F2:=I.out.b3.c1;have F3:=I.out.b3.f0;have F4:=I.out.b3.f1;go_wp2_with fail;clear F1 F2 F3 F4 hBi;generalize decide (0<nB)=b8;refine qS 4 (dR 9 4) [IsV (.agg #[.bool sB,.slice aB nB cB]),IsV (.agg #[.bool sA,.slice aA nA cA]),IsV (.agg #[.bool sB,.slice aB nB cB]),IsI k (A%B)] [] 2 za dcx za za za za za ?_ (λ_ h=>by cases h) ?_ ?_
      ·repeat' (first|exact trivial|exact IsV.stb _|exact IsI.stb _ _|exact IsB.stb _|apply jI)
      · refine RgAll.cons jk ?_
        refine RgAll.cons (by{intro v w' hE hd;simp only[lxE,Nat.reduceAdd];have L0:=Bx.c0 (b2.out.ext hE);have L1:=Bx.c1 (b2.out.ext hE);skip;intro K hK;go_simp;exact hK.out _ _ (Ext.refl _) rfl (FreshIf.no rfl)}) ?_;refine RgAll.cons jk ?_;refine RgAll.cons (by{intro v w' hE hd;simp only[lxE,Nat.reduceAdd];have d0:v 1=.agg #[.bool sA,.slice aA nA cA]:=hd 1 za;have d1:v 2=.agg #[.bool sB,.slice aB nB cB]:=hd 2 za;rw[d0,d1];intro K hK;go_simp;go_at_call 212;go_split_ands;(with_reducible refine jC (mod_c _ sA sB aA aB nA nB cA cB k k A B (I.out.hA.ext hE) (I.out.hB.ext hE) kl kl (I.out.hu.resolve_right hBn)) ?_);rintro e w2 ⟨s9,a9,n9,c9,rfl,e2,h9⟩;exact hK.out _ _ e2 ⟨_,_,_,_,rfl,h9⟩ (FreshIf.no rfl)}) ?_;exact rn0
      intro v w1 e1 hZ _;have v0:v 0=.agg #[.bool sB,.slice aB nB cB]:=hZ 0 dcx;have d3:IsI k (A%B) (v 3) w1:=hZ 3 dcx;obtain⟨s5,a5,n5,c5,v3,h5⟩:=d3;have b2:=b2.out.ext e1;have b3:=b3.out.ext e1;have b4:=b4.out.ext e1;have E:=I.out.e.trans e1;have hB:=I.out.hB.ext e1;have hg:=I.out.hg;simp only[lxE,Nat.reduceAdd];rw[v0,v3];clear v0 v3 hZ I hz;have F1:=b2.c0;have F2:=b2.c1;have F3:=b2.f0;have F4:=b2.f1;refine wpAny_ready (rs:= [4]) za zd (AllReady.cons rfl (λK hK=>?_) AllReady.nil);go_simp;refine hK _ _ ?_;clear hK K;clear F1 F2 F3 F4;obtain⟨w2,hW,P1,P2,P3,P4⟩:=b2.put sB aB nB cB;rw[<-hW];clear hW;have b2:=P1;have b3:=P2 (show w.heap.size+1≠w.heap.size by omega) b3;have b4:=P2 (show w.heap.size+1+1≠w.heap.size by omega) b4;have E:=P4 E zb;have hB:=hB.gr P3;have h5:=h5.gr P3;clear P1 P2 P3 P4;have F1:=b3.c0;have F2:=b3.c1;have F3:=b3.f0;have F4:=b3.f1;refine wpAny_ready (rs:= [5]) za zd (AllReady.cons rfl (λK hK=>?_) AllReady.nil);go_simp;refine hK _ _ ?_;clear hK K;clear F1 F2 F3 F4;obtain⟨w3,hW,P1,P2,P3,P4⟩:=b3.put s5 a5 n5 c5;rw[<-hW];clear hW;have b3:=P1;have b2:=P2 (show w.heap.size≠w.heap.size+1 by omega) b2;have b4:=P2 (show w.heap.size+1+1≠w.heap.size+1 by omega) b4;have E:=P4 E zb;have hB:=hB.gr P3;have h5:=h5.gr P3;clear P1 P2 P3 P4;have I1:=hid (show GcdInv w k g B (A%B) sB s5 aB a5 nB n5 cB c5 w3 from⟨b2,b3,b4,hB,h5,M1.trans hg,M3,E⟩);clear b2 b3 b4 E hB h5;refine jL za ?_ _;go_wp2_with fail
      go_roundg (A%B).natAbs
      case measure=>omega
      case rel=>exact⟨_,_,_,_,_,_,_,_,_,_,rfl,I1⟩
end
section
open Go Go.RowKit
open Go.Proofs.Tryz
theorem je{P:Prop}(h:P:=by{intro v w' hE hd;simp only[lxE,Nat.reduceAdd];have L0:=Bx.c0 (b2.out.ext hE);have L1:=Bx.c1 (b2.out.ext hE);skip;intro K hK;go_simp;exact hK.out _ _ (Ext.refl _) rfl (FreshIf.no rfl)}):P:=h
theorem yb{P:Prop}(h:P:=by{intro v w' hE hd;simp only[lxE,Nat.reduceAdd];skip;skip;intro K hK;go_simp;exact hK.out _ _ (Ext.refl _) rfl (FreshIf.no rfl)}):P:=h
abbrev jP:=@wpList_step
def Pt(g:Nat)(w w':World):Prop:=
 (∀g2 s a n c,g2≠g ->Bx w g2 s a n c ->Bx w' g2 s a n c)/\Gr w w'/\ (∀w0:World,Ext w0 w ->w0.heap.size <=g ->Ext w0 w')
theorem Bx.pt{g g2 n c:Nat}{s:Bool}{a:Option Addr}{w w':World}(h:Bx w g2 s a n c)(p:Pt g w w')(hg:g2≠g):Bx w' g2 s a n c:=p.1 _ _ _ _ _ hg h
theorem IntAt.pt{g k n c:Nat}{s:Bool}{a:Option Addr}{z:Int}{w w':World}(h:IntAt w k s a n c z)(p:Pt g w w'):IntAt w' k s a n c z:=h.gr p.2.1
theorem Ext.pt{w0 w w':World}{g:Nat}(e:Ext w0 w)(p:Pt g w w')(hg:w0.heap.size <=g):Ext w0 w':=p.2.2 _ e hg
theorem Bx.put'{w:World}{g n c:Nat}{s:Bool}{a:Option Addr}(b:Bx w g s a n c)(s':Bool)(a':Option Addr)(n' c':Nat):
  ∃W,W =(w.setCell ⟨g,0,none⟩ (.bool s')).setCell ⟨g,1,none⟩ (.slice a' n' c')/\Bx W g s' a' n' c'/\Pt g w W:=by
 obtain⟨W,h1,h2,h3,h4,h5⟩ :=b.put s' a' n' c'
 exact⟨W,h1,h2,λ_ _ _ _ _ hg h =>h3 hg h,h4,λ_ e hg =>h5 e hg⟩
theorem IntAt.nil(w:World)(k:Nat):IntAt w k false none 0 0 0:=IntAt.zero.mono zb


theorem Or_c(w:World)(g:Nat)(v:Int)(h0:w.cell? ⟨g,0,none⟩=some (.int .i64 v))(h1:w.cell? ⟨g,1,none⟩=some (.int .i64 1)):
  Calls prog 196 #[.slice (some ⟨g,0,none⟩) 2 2] w (RSame w (.int .i64 (if v =0 then 1 else v))) :=by
 obtain⟨r,hr⟩:∃r,r =(if v =0 then 1 else v) :=⟨_,rfl⟩
 rw[<-hr]
 have Hr:=hid hr
 clear hr
 go_enter func196,ntmps196
 go_wp2_with fail
 go_loop [8] (λi =>∃k:Nat,i =.int .i64 k/\k <=1/\ (k =1 ->v =0)) (λi =>2 - (intOf i).toNat)
 case atStart =>exact⟨0,rfl,by omega,by omega⟩
 case round =>
  obtain⟨k,rfl,hk,hv⟩ :=hrel
  rcases jH k with hk0|hk0
  ·subst hk0
   by_cases hv0:v =0
   ·subst hv0
    go_wp2_with fail
    case roundEnd =>exact⟨⟨1,rfl,by omega,λ_ =>trivial⟩,by simp[intOf]⟩
   ·have hb:(v ==0)=false:=by simpa using hv0
    go_wp2_with fail
    exact jD (v:=.int .i64 v) (by simp[results,results196,go_sem]) rfl ⟨by rw[Hr.out,if_neg hv0],rfl⟩
  ·obtain rfl:k =1:=by omega
   have hv0:=hv rfl
   subst hv0
   go_wp2_with fail
   exact jD (v:=.int .i64 1) (by simp[results,results196,go_sem]) rfl ⟨by rw[Hr.out];simp,rfl⟩
theorem kq20(w:World)(s1 s2:Bool)(a1 a2:Option Addr)(n1 n2 c1 c2:Nat):
  ∃ W,W =(w.alloc (.cells #[.bool s1,.slice a1 n1 c1] 28)).alloc (.cells #[.bool s2,.slice a2 n2 c2] 28)/\
   Kq w W [(w.heap.size + 1, [.bool s2,.slice a2 n2 c2]),(w.heap.size, [.bool s1,.slice a1 n1 c1])] :=by
 refine⟨_,rfl,?_⟩
 have:=((Kq.start w).alloc [.bool s1,.slice a1 n1 c1] 28).alloc [.bool s2,.slice a2 n2 c2] 28
 simpa using this
def IsR2(w0:World)(x y:Int):Value ->World ->Prop:=λu w =>∃g,u =.slice (some ⟨g,0,none⟩) 2 2/\w0.heap.size <=g/\g < w.heap.size/\w.cell? ⟨g,0,none⟩=some (.int .i64 x)/\w.cell? ⟨g,1,none⟩=some (.int .i64 y)
theorem IsR2.stb(w0:World)(x y:Int):Stb (IsR2 w0 x y) :=λ_ _ _ e ⟨g,h1,h2,h3,h4,h5⟩ =>⟨g,h1,h2,Nat.lt_of_lt_of_le h3 e.size,e.cell h4,e.cell h5⟩
instance (w0:World) (x y:Int):StbC (IsR2 w0 x y) :=⟨IsR2.stb w0 x y⟩
theorem cmp_signs(s1 s2:Bool)(m1 m2:Nat)(z1 z2:Int)(h1:z1 =if s1 then -(m1:Int)else m1)(h2:z2 =if s2 then -(m2:Int)else m2)
  (t1:m1 =0 ->s1 =false) (t2:m2 =0 ->s2 =false):(s1≠s2 ->qJ z1.sign z2.sign =qJ z1 z2)/\ (s1 =s2 ->qJ m1 m2 * (if z1.sign =0 then 1 else z1.sign)=qJ z1 z2) :=by
 have key:∀z:Int,(z < 0/\z.sign = -1)\/ (z =0/\z.sign =0)\/ (0 < z/\z.sign =1) :=λz =>by
  rcases Int.lt_trichotomy z 0 with h|h|h
  ·exact .inl ⟨h,Int.sign_eq_neg_one_of_neg h⟩
  ·exact .inr (.inl ⟨h,by rw[h];rfl⟩)
  ·exact .inr (.inr ⟨h,Int.sign_eq_one_of_pos h⟩)
 have k1:=key z1
 have k2:=key z2
 generalize z1.sign =p at *
 generalize z2.sign =q at *
 constructor
 ·intro hs
  simp only[qJ]
  cases s1 <;> cases s2 <;> simp at hs h1 h2 t1 t2 <;>(repeat' split) <;> omega
 ·intro hs
  subst hs
  simp only[qJ]
  cases s1 <;> simp at h1 h2 t1 t2 <;>(repeat' split) <;> omega
theorem Cmp_c(w:World)(s1 s2:Bool)(a1 a2:Option Addr)(n1 n2 c1 c2 k1 k2:Nat)(z1 z2:Int)(h1:IntAt w k1 s1 a1 n1 c1 z1)(h2:IntAt w k2 s2 a2 n2 c2 z2)(l1:k1 <=268435456)(_l2:k2 <=268435456):Calls prog 150 #[.agg #[.bool s1,.slice a1 n1 c1],.agg #[.bool s2,.slice a2 n2 c2]] w (RVal w (.int .i64 (qJ z1 z2))) :=by
 obtain⟨W,hW,K0⟩ :=kq20 w s1 s2 a1 a2 n1 n2 c1 c2
 have b2:=hid (K0.bx w.heap.size s1 a1 n1 c1 zd)
 have b3:=hid (K0.bx (w.heap.size + 1) s2 a2 n2 c2 zd)
 have E:=hid K0.ext
 obtain⟨m1,g1,t1,e1⟩ :=id h1
 obtain⟨m2,g2,t2,e2⟩ :=id h2
 have HS:=hid (cmp_signs s1 s2 m1 m2 z1 z2 e1 e2 (λh =>t1 (g1.zero.1 h)) (λh =>t2 (g2.zero.1 h)))
 have h1:=h1.ext K0.ext
 have h2:=h2.ext K0.ext
 have g1:=g1.ext K0.ext
 have g2:=g2.ext K0.ext
 obtain⟨r,hr⟩:∃r,r =qJ z1 z2:=⟨_,rfl⟩
 rw[<-hr]
 have Hr:=hid hr
 clear K0 e1 e2 t1 t2 hr
 by_cases hs:s1 =s2
 ·subst hs
  go_enter func150,ntmps150
  go_wp2_with fail
  rw[<-hW]
  clear hW
  have F1:=b2.out.c0;have F2:=b2.out.c1;have F3:=b2.out.f0;have F4:=b2.out.f1
  have G1:=b3.out.c0;have G2:=b3.out.c1;have G3:=b3.out.f0;have G4:=b3.out.f1
  go_wp2_with fail
  clear F1 F2 F3 F4 G1 G2 G3 G4
  obtain⟨c,hc⟩:∃c,c =qJ m1 m2:=⟨_,rfl⟩
  obtain⟨o,ho⟩:∃o,o =(if z1.sign =0 then 1 else z1.sign) :=⟨_,rfl⟩
  have Hc:=hid hc
  have Ho:=hid ho
  have Hw:=hid (show IntKind.i64.wrap (c * o)=r by
   have h:=HS.out.2 zd
   rw[<-hc,<-ho,<-Hr.out]at h
   rw[h,Hr.out,qJ]
   repeat' split
   all_goals decide)
  clear hc ho
  refine qS 11 [some 15,some 16,some 17,some 18,some 19,some 20,some 21,some 22,some 23,some 24,some 4] [IsV (.pointer (some ⟨w.heap.size,1,none⟩)),IsV (.slice a1 n1 c1),IsV (.pointer (some ⟨w.heap.size + 1,1,none⟩)),IsV (.slice a2 n2 c2),iV c,IsV (.agg #[.bool s1,.slice a1 n1 c1]),iV z1.sign,IsR2 W z1.sign 1,iV o,iV r,iV r] [] 0 za dcx za za za za za ?_ (λ_ h =>by cases h) ?_ ?_
  ·repeat' (first|exact trivial|exact IsV.stb _|exact IsR2.stb _ _ _|apply jI)
  ·refine RgAll.cons yb ?_
   refine RgAll.cons (by{intro v w' hE hd;simp only[lxE,Nat.reduceAdd];have d0:v 0 =.pointer (some ⟨w.heap.size,1,none⟩) :=hd 0 za;have L0:=Bx.c0 (b2.out.ext hE);have L1:=Bx.c1 (b2.out.ext hE);rw[d0];intro K hK;go_simp;exact hK.out _ _ (Ext.refl _) rfl (FreshIf.no rfl)}) ?_
   refine RgAll.cons yb ?_
   refine RgAll.cons (by{intro v w' hE hd;simp only[lxE,Nat.reduceAdd];have d0:v 2 =.pointer (some ⟨w.heap.size + 1,1,none⟩) :=hd 2 za;have L0:=Bx.c0 (b3.out.ext hE);have L1:=Bx.c1 (b3.out.ext hE);rw[d0];intro K hK;go_simp;exact hK.out _ _ (Ext.refl _) rfl (FreshIf.no rfl)}) ?_
   refine RgAll.cons (by{intro v w' hE hd;simp only[lxE,Nat.reduceAdd];have d0:v 1 =.slice a1 n1 c1:=hd 1 za;have d1:v 3 =.slice a2 n2 c2:=hd 3 za;rw[d0,d1];intro K hK;go_simp;go_at_call 192;go_split_ands;(with_reducible refine jC ((by have hh:=cmp_c w' a1 a2 n1 n2 c1 c2 k1 k2 m1 m2 (g1.ext hE) (g2.ext hE) zb;rw[<-Hc.out]at hh;exact hh)) ?_);rintro e w2 ⟨rfl,e2⟩;exact hK.out _ _ e2 rfl (FreshIf.no rfl)}) ?_
   refine RgAll.cons je ?_
   refine RgAll.cons (by{intro v w' hE hd;simp only[lxE,Nat.reduceAdd];have d0:v 5 =.agg #[.bool s1,.slice a1 n1 c1] :=hd 5 za;rw[d0];intro K hK;go_simp;go_at_call 127;go_split_ands;(with_reducible refine jC (Sign_c _ s1 a1 n1 c1 k1 z1 (h1.ext hE)) ?_);rintro e w2 ⟨rfl,e2⟩;exact hK.out _ _ e2 rfl (FreshIf.no rfl)}) ?_
   refine RgAll.cons (by{intro v w' hE hd;simp only[lxE,Nat.reduceAdd];have d0:v 6 =.int .i64 z1.sign:=hd 6 za;rw[d0];intro K hK;go_simp;exact hK.out _ _ ((Ext.refl _).alloc _) ⟨_,rfl,hE.size,by simp,by simp,by simp⟩ (FreshIf.no rfl)}) ?_
   refine RgAll.cons (by{intro v w' hE hd;simp only[lxE,Nat.reduceAdd];have d0:IsR2 W z1.sign 1 (v 7) w':=hd 7 za;obtain⟨g,d0,_,_,x0,x1⟩ :=d0;rw[d0];intro K hK;go_simp;go_at_call 196;go_split_ands;(with_reducible refine jC ((by have hh:=Or_c w' g z1.sign x0 x1;rw[<-Ho.out]at hh;exact hh)) ?_);rintro e w2 ⟨rfl,rfl⟩;exact hK.out _ _ (Ext.refl _) rfl (FreshIf.no rfl)}) ?_
   refine RgAll.cons (by{intro v w' hE hd;simp only[lxE,Nat.reduceAdd];have d0:v 4 =.int .i64 c:=hd 4 za;have d1:v 8 =.int .i64 o:=hd 8 za;have hw:=Hw.out;rw[d0,d1];intro K hK;go_simp;exact hK.out _ _ (Ext.refl _) rfl (FreshIf.no rfl)}) ?_
   refine RgAll.cons (by{intro v w' hE hd;simp only[lxE,Nat.reduceAdd];have d0:v 9 =.int .i64 r:=hd 9 za;rw[d0];intro K hK;go_simp;exact hK.out _ _ (Ext.refl _) rfl (FreshIf.no rfl)}) ?_
   exact rn0
  intro v w1 e1 hZ _
  have v5:v 10 =.int .i64 r:=hZ 10 dcx
  simp only[lxE,Nat.reduceAdd]
  rw[v5]
  refine jL za ?_ 0
  go_wp2_with fail
  exact jD (v:=.int .i64 r) (by simp[results,results150,go_sem]) rfl ⟨rfl,E.out.trans e1⟩
 ·have hb:(s1 ==s2)=false:=by simpa using hs
  go_enter func150,ntmps150
  go_wp2_with fail
  rw[<-hW]
  clear hW
  have F1:=b2.out.c0;have F2:=b2.out.c1;have F3:=b2.out.f0;have F4:=b2.out.f1
  have G1:=b3.out.c0;have G2:=b3.out.c1;have G3:=b3.out.f0;have G4:=b3.out.f1
  go_wp2_with fail
  clear F1 F2 F3 F4 G1 G2 G3 G4 hb
  refine qS 6 [some 10,some 11,some 12,some 13,some 14,some 4] [IsV (.agg #[.bool s1,.slice a1 n1 c1]),iV z1.sign,IsV (.agg #[.bool s2,.slice a2 n2 c2]),iV z2.sign,iV (qJ z1.sign z2.sign),iV (qJ z1.sign z2.sign)] [] 0 za dcx za za za za za ?_ (λ_ h =>by cases h) ?_ ?_
  ·repeat' (first|exact trivial|exact IsV.stb _|exact IsI.stb _ _|exact IsB.stb _|apply jI)
  ·refine RgAll.cons je ?_
   refine RgAll.cons (by{intro v w' hE hd;simp only[lxE,Nat.reduceAdd];have d0:v 0 =.agg #[.bool s1,.slice a1 n1 c1] :=hd 0 za;rw[d0];intro K hK;go_simp;go_at_call 127;go_split_ands;(with_reducible refine jC (Sign_c _ s1 a1 n1 c1 k1 z1 (h1.ext hE)) ?_);rintro e w2 ⟨rfl,e2⟩;exact hK.out _ _ e2 rfl (FreshIf.no rfl)}) ?_
   refine RgAll.cons (by{intro v w' hE hd;simp only[lxE,Nat.reduceAdd];have L0:=Bx.c0 (b3.out.ext hE);have L1:=Bx.c1 (b3.out.ext hE);skip;intro K hK;go_simp;exact hK.out _ _ (Ext.refl _) rfl (FreshIf.no rfl)}) ?_
   refine RgAll.cons (by{intro v w' hE hd;simp only[lxE,Nat.reduceAdd];have d0:v 2 =.agg #[.bool s2,.slice a2 n2 c2] :=hd 2 za;rw[d0];intro K hK;go_simp;go_at_call 127;go_split_ands;(with_reducible refine jC (Sign_c _ s2 a2 n2 c2 k2 z2 (h2.ext hE)) ?_);rintro e w2 ⟨rfl,e2⟩;exact hK.out _ _ e2 rfl (FreshIf.no rfl)}) ?_
   refine RgAll.cons (by{intro v w' hE hd;simp only[lxE,Nat.reduceAdd];have d0:v 1 =.int .i64 z1.sign:=hd 1 za;have d1:v 3 =.int .i64 z2.sign:=hd 3 za;rw[d0,d1];intro K hK;go_simp;go_at_call 195;go_split_ands;(with_reducible refine jC (compare_int_c _ _ _) ?_);rintro e w2 ⟨rfl,rfl⟩;exact hK.out _ _ (Ext.refl _) rfl (FreshIf.no rfl)}) ?_
   refine RgAll.cons (by{intro v w' hE hd;simp only[lxE,Nat.reduceAdd];have d0:v 4 =.int .i64 (qJ z1.sign z2.sign) :=hd 4 za;rw[d0];intro K hK;go_simp;exact hK.out _ _ (Ext.refl _) rfl (FreshIf.no rfl)}) ?_
   exact rn0
  intro v w1 e1 hZ _
  have v5:v 5 =.int .i64 (qJ z1.sign z2.sign) :=hZ 5 dcx
  simp only[lxE,Nat.reduceAdd]
  rw[v5]
  refine jL za ?_ 0
  go_wp2_with fail
  exact jD (v:=.int .i64 (qJ z1.sign z2.sign)) (by simp[results,results150,go_sem]) rfl ⟨by rw[Hr.out,HS.out.1 hs],E.out.trans e1⟩

def Ret(w:World)(fP:Value ->World ->Prop)(e:Ending)(w':World):Prop:=∃x,e =.returned x/\Ext w w'/\fP x w'
def IsT2(fP fS:Value ->World ->Prop):Value ->World ->Prop:=λx w =>∃a b,x =.tuple #[a,b]/\fP a w/\fS b w
def IsT3(fP fS fQ:Value ->World ->Prop):Value ->World ->Prop:=λx w =>∃a b c,x =.tuple #[a,b,c]/\fP a w/\fS b w/\fQ c w
theorem IsT2.stb{fP fS:Value ->World ->Prop}(h:Stb fP)(k:Stb fS):Stb (IsT2 fP fS) :=λ_ _ _ e ⟨a,b,h1,h2,h3⟩ =>⟨a,b,h1,h _ _ _ e h2,k _ _ _ e h3⟩
instance {fP fS:Value ->World ->Prop} [StbC fP] [StbC fS]:StbC (IsT2 fP fS) :=⟨IsT2.stb StbC.out StbC.out⟩
theorem IsT3.stb{fP fS fQ:Value ->World ->Prop}(h:Stb fP)(k:Stb fS)(l:Stb fQ):Stb (IsT3 fP fS fQ) :=λ_ _ _ e ⟨a,b,c,h1,h2,h3,h4⟩ =>⟨a,b,c,h1,h _ _ _ e h2,k _ _ _ e h3,l _ _ _ e h4⟩
instance {fP fS fQ:Value ->World ->Prop} [StbC fP] [StbC fS] [StbC fQ]:StbC (IsT3 fP fS fQ) :=⟨IsT3.stb StbC.out StbC.out StbC.out⟩
def GStb(fP:Value ->World ->Prop):Prop:=∀x w w',Gr w w' ->fP x w ->fP x w'
theorem GStb.stb{fP:Value ->World ->Prop}(h:GStb fP):Stb fP:=λx _ _ e hx =>h x _ _ e.gr hx
theorem IsI.gstb(k:Nat)(z:Int):GStb (IsI k z) :=λ_ _ _ e ⟨s,a,n,c,h1,h2⟩ =>⟨s,a,n,c,h1,h2.gr e⟩
theorem IsI.ext{k:Nat}{z:Int}{x:Value}{w w':World}(h:IsI k z x w)(e:Ext w w'):IsI k z x w':=(IsI.stb k z) _ _ _ e h
theorem IsI.nil(w:World)(k:Nat):IsI k 0 (.agg #[.bool false,.slice none 0 0]) w:=⟨_,_,_,_,rfl,IntAt.nil w k⟩
theorem IsI.tight{k k':Nat}{z:Int}{x:Value}{w:World}(h:IsI k z x w)(hz:z.natAbs < 4294967296 ^ k'):IsI k' z x w:=
 let ⟨s,a,n,c,h1,h2⟩ :=h;⟨s,a,n,c,h1,h2.tight hz⟩
theorem IsI.mono{k k':Nat}{z:Int}{x:Value}{w:World}(h:IsI k z x w)(hk:k <=k'):IsI k' z x w:=
 let ⟨s,a,n,c,h1,h2⟩ :=h;⟨s,a,n,c,h1,h2.mono hk⟩
def IsR(s:Bool)(xs:List Nat):Value ->World ->Prop:=λx w =>∃a n c,x =.agg #[.bool s,.slice a n c]/\Wd w a n c xs
theorem IsR.gstb(s:Bool)(xs:List Nat):GStb (IsR s xs) :=λ_ _ _ e ⟨a,n,c,h1,h2⟩ =>⟨a,n,c,h1,h2.gr e⟩
theorem IsR.stb(s:Bool)(xs:List Nat):Stb (IsR s xs) :=(IsR.gstb s xs).stb
instance (s:Bool) (xs:List Nat):StbC (IsR s xs) :=⟨IsR.stb s xs⟩
structure St (w0 w:World) (B:List (Nat× (Value ->World ->Prop))):Prop where
 ext:Ext w0 w
 box:∀p∈B,w0.heap.size <=p.1/\∃s a n c,Bx w p.1 s a n c/\p.2 (.agg #[.bool s,.slice a n c]) w
 stb:∀p∈B,GStb p.2
 apart:B.Pairwise (λp q =>p.1≠q.1)
theorem St.start(w:World):St w w [] :=⟨Ext.refl w,(λ_ h =>by cases h),(λ_ h =>by cases h),List.Pairwise.nil⟩
theorem St.mono{w0 w w':World}{B:List (Nat× (Value ->World ->Prop))}(h:St w0 w B)(e:Ext w w'):St w0 w' B:=
 ⟨h.ext.trans e,λp hp =>let ⟨h1,s,a,n,c,h2,h3⟩ :=h.box p hp;⟨h1,s,a,n,c,h2.ext e,h.stb p hp _ _ _ e.gr h3⟩,h.stb,h.apart⟩
theorem St.get{w0 w:World}{B:List (Nat× (Value ->World ->Prop))}(h:St w0 w B)(i:Nat)(p:Nat× (Value ->World ->Prop))(hp:B[i]? =some p):
  ∃s a n c,Bx w p.1 s a n c/\p.2 (.agg #[.bool s,.slice a n c]) w:=(h.box p (List.mem_of_getElem? hp)).2
theorem St.lt{w0 w:World}{B:List (Nat× (Value ->World ->Prop))}(h:St w0 w B):∀p∈B,p.1 < w.heap.size:=λp hp =>
 let ⟨_,_,_,_,_,h2,_⟩ :=h.box p hp;h2.lt
theorem St.add{w0 w:World}{B:List (Nat× (Value ->World ->Prop))}(h:St w0 w B){g:Nat}{s:Bool}{a:Option Addr}{n c:Nat}{fP:Value ->World ->Prop}(hb:Bx w g s a n c)(hg:w0.heap.size <=g)(hn:∀p∈B,p.1≠g)
  (hs:GStb fP) (hZ:fP (.agg #[.bool s,.slice a n c]) w):St w0 w ((g,fP) ::B) :=by
 refine⟨h.ext,λp hp =>?_,λp hp =>?_,List.Pairwise.cons (λq hq he =>hn q hq he.symm) h.apart⟩
 ·rcases List.mem_cons.1 hp with rfl|hp
  ·exact⟨hg,s,a,n,c,hb,hZ⟩
  ·exact h.box p hp
 ·rcases List.mem_cons.1 hp with rfl|hp
  ·exact hs
  ·exact h.stb p hp
theorem St.new{w0 w:World}{B:List (Nat× (Value ->World ->Prop))}(h:St w0 w B)(s:Bool)(a:Option Addr)(n c:Nat)(t:TypeId)(fP:Value ->World ->Prop)(hs:GStb fP)(hZ:fP (.agg #[.bool s,.slice a n c]) w):
  St w0 (w.alloc (.cells #[.bool s,.slice a n c] t)) ((w.heap.size,fP) ::B) :=by
 have e:Ext w (w.alloc (.cells #[.bool s,.slice a n c] t)) :=(Ext.refl w).alloc _
 exact(h.mono e).add (s:=s) (a:=a) (n:=n) (c:=c) ⟨by simp,by simp,by simp,by simp⟩ h.ext.size (λp hp he =>by have:=h.lt p hp;omega) hs (hs _ _ _ e.gr hZ)
theorem St.put{w0 w:World}{B:List (Nat× (Value ->World ->Prop))}(h:St w0 w B)(i:Nat)(g:Nat)(fP fS:Value ->World ->Prop)(hp:B[i]? =some (g,fP))(s:Bool)(a:Option Addr)(n c:Nat)(hs:GStb fS)(hG:fS (.agg #[.bool s,.slice a n c]) w):
  ∃W,W =(w.setCell ⟨g,0,none⟩ (.bool s)).setCell ⟨g,1,none⟩ (.slice a n c)/\St w0 W (B.set i (g,fS))/\Gr w W/\ (∀g2 s2 a2 n2 c2,g2≠g ->Bx w g2 s2 a2 n2 c2 ->Bx W g2 s2 a2 n2 c2) :=by
 obtain⟨s',a',n',c',hb,_⟩ :=(h.box _ (List.mem_of_getElem? hp)).2
 have hg:=(h.box _ (List.mem_of_getElem? hp)).1
 obtain⟨W,h1,h2,h3⟩ :=hb.put' s a n c
 have hi:i < B.length:=(List.getElem?_eq_some_iff.1 hp).1
 have hBi:B[i]=(g,fP) :=(List.getElem?_eq_some_iff.1 hp).2
 refine⟨W,h1,⟨h.ext.pt h3 hg,λp hpm =>?_,λp hpm =>?_,?_⟩,h3.2.1,λ_ _ _ _ _ hg2 hb2 =>hb2.pt h3 hg2⟩
 ·rcases List.mem_or_eq_of_mem_set hpm with hpm'|rfl
  ·by_cases hgp:p.1 =g
   ·obtain⟨j,hj,hpj⟩ :=List.mem_iff_getElem.1 hpm
    by_cases hij:i =j
    ·subst hij
     rw[List.getElem_set_self]at hpj
     subst hpj
     exact⟨hg,s,a,n,c,h2,hs _ _ _ h3.2.1 hG⟩
    ·rw[List.getElem_set_ne hij]at hpj
     exfalso
     have hj':j < B.length:=yk
     rcases Nat.lt_or_gt_of_ne hij with hlt|hlt
     ·have:=List.pairwise_iff_getElem.1 h.apart i j hi hj' hlt
      rw[hBi,hpj]at this;exact this hgp.symm
     ·have:=List.pairwise_iff_getElem.1 h.apart j i hj' hi hlt
      rw[hBi,hpj]at this;exact this hgp
   ·obtain⟨h4,s4,a4,n4,c4,h5,h6⟩ :=h.box p hpm'
    exact⟨h4,s4,a4,n4,c4,h5.pt h3 hgp,h.stb p hpm' _ _ _ h3.2.1 h6⟩
  ·exact⟨hg,s,a,n,c,h2,hs _ _ _ h3.2.1 hG⟩
 ·rcases List.mem_or_eq_of_mem_set hpm with hpm'|rfl
  ·exact h.stb p hpm'
  ·exact hs
 ·rw[List.pairwise_iff_getElem]
  intro j k hj hk hjk
  have hj':j < B.length:=yk
  have hk':k < B.length:=by simpa using hk
  have key:=List.pairwise_iff_getElem.1 h.apart j k hj' hk' hjk
  rw[List.getElem_set,List.getElem_set]
  split
  ·rename_i h5;subst h5
   rw[hBi]at key
   split
   ·omega
   ·exact key
  ·split
   ·rename_i h5;subst h5;rw[hBi]at key;exact key
   ·exact key
/-! ### The contracts in this form -/
theorem RInt.ret{w:World}{k:Nat}{z:Int}{e:Ending}{w':World}(h:RInt w k z e w'):Ret w (IsI k z) e w':=
 let ⟨s,a,n,c,h1,h2,h3⟩ :=h;⟨_,h1,h2,s,a,n,c,rfl,h3⟩
theorem RVal.ret{w:World}{v:Value}{e:Ending}{w':World}(h:RVal w v e w'):Ret w (IsV v) e w':=⟨_,h.1,h.2,rfl⟩
theorem Ret.mono{w:World}{fP fS:Value ->World ->Prop}{e:Ending}{w':World}(h:Ret w fP e w')(hi:∀x w,fP x w ->fS x w):Ret w fS e w':=
 let ⟨x,h1,h2,h3⟩ :=h;⟨x,h1,h2,hi _ _ h3⟩
theorem Add_f{k1 k2:Nat}{z1 z2:Int}{x y:Value}{w:World}(hx:IsI k1 z1 x w)(hy:IsI k2 z2 y w)(l1:k1 <=268435456)(l2:k2 <=268435456):Calls prog 140 #[x,y] w (Ret w (IsI (max k1 k2 + 1) (z1 + z2))) :=by
 obtain⟨s,a,n,c,rfl,h1⟩ :=hx;obtain⟨s',a',n',c',rfl,h2⟩ :=hy
 exact jC (Add_c w s s' a a' n n' c c' k1 k2 z1 z2 h1 h2 l1 l2) λ_ _ h =>h.ret
theorem Sub_f{k1 k2:Nat}{z1 z2:Int}{x y:Value}{w:World}(hx:IsI k1 z1 x w)(hy:IsI k2 z2 y w)(l1:k1 <=268435456)(l2:k2 <=268435456):Calls prog 142 #[x,y] w (Ret w (IsI (max k1 k2 + 1) (z1 - z2))) :=by
 obtain⟨s,a,n,c,rfl,h1⟩ :=hx;obtain⟨s',a',n',c',rfl,h2⟩ :=hy
 exact jC (Sub_c w s s' a a' n n' c c' k1 k2 z1 z2 h1 h2 l1 l2) λ_ _ h =>h.ret
theorem Mul_f{k1 k2:Nat}{z1 z2:Int}{x y:Value}{w:World}(hx:IsI k1 z1 x w)(hy:IsI k2 z2 y w)(l1:k1 <=268435456)(l2:k2 <=268435456):Calls prog 129 #[x,y] w (Ret w (IsI (k1 + k2) (z1 * z2))) :=by
 obtain⟨s,a,n,c,rfl,h1⟩ :=hx;obtain⟨s',a',n',c',rfl,h2⟩ :=hy
 exact jC (Mul_c w s s' a a' n n' c c' k1 k2 z1 z2 h1 h2 l1 l2) λ_ _ h =>h.ret
theorem Cmp_f{k1 k2:Nat}{z1 z2:Int}{x y:Value}{w:World}(hx:IsI k1 z1 x w)(hy:IsI k2 z2 y w)(l1:k1 <=268435456)(l2:k2 <=268435456):Calls prog 150 #[x,y] w (Ret w (iV (qJ z1 z2))) :=by
 obtain⟨s,a,n,c,rfl,h1⟩ :=hx;obtain⟨s',a',n',c',rfl,h2⟩ :=hy
 exact jC (Cmp_c w s s' a a' n n' c c' k1 k2 z1 z2 h1 h2 l1 l2) λ_ _ h =>h.ret
theorem Gcd_f{k1 k2:Nat}{z1 z2:Int}{x y:Value}{w:World}(hx:IsI k1 z1 x w)(hy:IsI k2 z2 y w)(l1:k1 <=134217728)(l2:k2 <=134217728)(hu:z2 =1):Calls prog 175 #[x,y] w (Ret w (IsI (max k1 k2) (Int.gcd z1 z2:Nat))) :=by
 obtain⟨s,a,n,c,rfl,h1⟩ :=hx;obtain⟨s',a',n',c',rfl,h2⟩ :=hy
 exact jC (Gcd_c w s s' a a' n n' c c' k1 k2 z1 z2 h1 h2 l1 l2 hu) λ_ _ h =>h.ret
theorem DivMod_f{k1 k2:Nat}{z1 z2:Int}{x y:Value}{w:World}(hx:IsI k1 z1 x w)(hy:IsI k2 z2 y w)(l1:k1 <=134217728)(l2:k2 <=134217728)(hz:z2 =1):Calls prog 213 #[x,y] w (Ret w (IsT3 (IsI k1 (z1 / z2)) (IsI k2 (z1 % z2)) (iV 0))) :=by
 obtain⟨s,a,n,c,rfl,h1⟩ :=hx;obtain⟨s',a',n',c',rfl,h2⟩ :=hy
 refine jC (DivMod_c w s s' a a' n n' c c' k1 k2 z1 z2 h1 h2 l1 l2 hz) λe w' ⟨s1,a1,n1,c1,s2,a2,n2,c2,h3,h4,h5,h6⟩ =>?_
 exact⟨_,h3,h4,_,_,_,rfl,⟨_,_,_,_,rfl,h5⟩,⟨_,_,_,_,rfl,h6⟩,rfl⟩
theorem Abs_f{k1:Nat}{z1:Int}{x:Value}{w:World}(hx:IsI k1 z1 x w):Calls prog 130 #[x] w (Ret w (IsI k1 z1.natAbs)) :=by
 obtain⟨s,a,n,c,rfl,h1⟩ :=hx
 exact jC (Abs_c w s a n c k1 z1 h1) λ_ _ h =>h.ret
theorem Sign_f{k1:Nat}{z1:Int}{x:Value}{w:World}(hx:IsI k1 z1 x w):Calls prog 127 #[x] w (Ret w (iV z1.sign)) :=by
 obtain⟨s,a,n,c,rfl,h1⟩ :=hx
 exact jC (Sign_c w s a n c k1 z1 h1) λ_ _ h =>h.ret
theorem Bits_f{k1:Nat}{z1:Int}{x:Value}{w:World}(hx:IsI k1 z1 x w)(l1:k1 <=268435456):Calls prog 190 #[x] w (Ret w (iV (bitLen z1.natAbs:Nat))) :=by
 obtain⟨s,a,n,c,rfl,h1⟩ :=hx
 exact jC (Bits_c w s a n c k1 z1 h1 l1) λ_ _ h =>h.ret
theorem Of_f(w:World)(n:Int)(h0: -9223372036854775808 <=n)(h1:n <=9223372036854775807):Calls prog 108 #[.int .i64 n] w (Ret w (IsI 2 n)) :=
 jC (Of_c w n h0 h1) λ_ _ h =>h.ret

section
variable {P:Program} {ops:Array Oper} {Q:Exit ->Act ->World ->Prop}
theorem wp_list_rg(n:Nat)(L:List (Value ->World ->Prop))(boxes:List Nat){a0:Act}{w0:World}(ds:List (Option Tmp))
  (hn:n <=ops.size) (hds:(List.range n).map (qR ops)=ds) (hap:qO ops n =true) (htp2:∀i,i < n ->∀e∈qT .any ops i,e < i)
  (hst:AllStb L) (hbx:∀i∈boxes,IsBox (L.getD i (λ_ _ =>True)))
  (hop:RgAll P .any ops Q ds a0 w0 L boxes 0 n ops.toList)
  (hend:∀v w,Ext w0 w ->(∀i,i < n ->L.getD i (λ_ _ =>True) (v i) w) ->(∀i j,i∈boxes ->j∈boxes ->i < n ->j < n ->i≠j ->v i≠v j) ->
   wpList P ops Q (ops.toList.drop n) (qZ v a0 0 ds) w) :
  ∀ (m k:Nat) (v:Nat ->Value) (w:World),k + m =n ->Ext w0 w ->(∀i,i < k ->L.getD i (λ_ _ =>True) (v i) w) ->
   (∀i j,i < k ->j < k ->i≠j ->i∈boxes ->j∈boxes ->v i≠v j) ->wpList P ops Q (ops.toList.drop k) (qY ops v a0 n) w:=by
 intro m
 induction m with
 | zero =>
  intro k v w hk hR hZ hd
  obtain rfl:k =n:=zb
  rw[xB v a0 k ds hds]
  exact hend v w hR hZ (λi j hi hj hin hjn hij =>hd i j hin hjn hij hi hj)
 | succ m ih =>
  intro k v w hk hR hZ hd
  have hks:k < ops.size:=zb
  have ho:ops[k]? =some ops[k] :=by simp[hks]
  have hdrop:ops.toList.drop k =ops[k] ::ops.toList.drop (k + 1) :=by
   rw[List.drop_eq_getElem_cons (show k < ops.toList.length by rw[Array.length_toList];exact hks)];simp
  rw[hdrop]
  refine jP λK hK =>?_
  have h1:=RgAll.get n 0 ops.toList hop k zb ops[k] zd
  rw[Nat.zero_add]at h1
  have h2:=h1 v w hR (λj hj =>?_) K
  ·rw [<-xB v a0 n ds hds]at h2
   refine h2 ?_
   intro x w' hE hx hf
   refine hK _ _ ?_
   have hdst:(ops[k]).dst =qR ops k:=by simp[qR,ho]
   rw[hdst,layN_put a0 v k x n (by omega) (λi j hi hj hij =>xN hap hi hj hij)]
   refine ih (k + 1) _ w' zb (hR.trans hE) (λi hi =>?_) (λi j hi hj hij hbi hbj =>?_)
   ·by_cases hik:i =k
    ·subst hik;simpa only[jB,if_true]using hx
    ·simp only[jB];rw[if_neg hik];exact hst.get i _ _ _ hE (hZ i zb)
   ·simp only[jB]
    by_cases hik:i =k
    ·subst hik
     rw[if_pos rfl,if_neg (Ne.symm hij)]
     obtain⟨g,hg,hlt⟩ :=hbx j hbj _ _ (hZ j zb)
     obtain⟨g',hg',hge⟩ :=hf (List.contains_iff_mem.2 hbi)
     rw[hg,hg']
     intro h;injection h with h;injection h with h;injection h with h;omega
    ·rw[if_neg hik]
     by_cases hjk:j =k
     ·subst hjk
      rw[if_pos rfl]
      obtain⟨g,hg,hlt⟩ :=hbx i hbi _ _ (hZ i zb)
      obtain⟨g',hg',hge⟩ :=hf (List.contains_iff_mem.2 hbj)
      rw[hg,hg']
      intro h;injection h with h;injection h with h;injection h with h;omega
     ·rw[if_neg hjk];exact hd i j zb zb hij hbi hbj
  ·have key:(qG ops.size k).getD j false =true:=
    qN (md:=.any) (ops:=ops) (listed:=qG ops.size k)
     (fun i hi e he =>by
      have hik:i < k/\i < ops.size:=by
       rcases jN i ops.size with h|h
       ·simp[qG,h]at hi;exact⟨hi,h⟩
       ·simp[qG,h]at hi
      have:=htp2 i zb e he
      have hes:e < ops.size:=zb
      simp[qG,hes];omega)
     k (qT .any ops k)
     (fun e he =>by
      have:=htp2 k zb e he
      have hes:e < ops.size:=zb
      simp[qG,hes];omega) j (List.contains_iff_mem.1 hj)
   rcases jN j ops.size with h|h
   ·simp[qG,h]at key;exact hZ j key
   ·simp[qG,h]at key
def backOk(ops:Array Oper)(n:Nat):Bool:=(List.range n).all λi =>(qT .any ops i).all λe =>decide (e < i)
theorem qI(n:Nat)(ds:List (Option Tmp))(L:List (Value ->World ->Prop))(boxes:List Nat){a0:Act}{w0:World}{id:Nat}
  (hn:n <=ops.size) (hds:(List.range n).map (qR ops)=ds) (hap:qO ops n =true) (htp:backOk ops n =true)
  (hst:AllStb L) (hbx:∀i∈boxes,IsBox (L.getD i (λ_ _ =>True)))
  (hop:RgAll P .any ops Q ds a0 w0 L boxes 0 n ops.toList)
  (hend:∀v w,Ext w0 w ->(∀i,i < n ->L.getD i (λ_ _ =>True) (v i) w) ->(∀i j,i∈boxes ->j∈boxes ->i < n ->j < n ->i≠j ->v i≠v j) ->
   wpList P ops Q (ops.toList.drop n) (qZ v a0 0 ds) w) :
  (Code.region id ops false).wp P Q a0 w0:=by
 refine wp_region_list ?_
 simp only[backOk,List.all_eq_true,List.mem_range,jQ]at htp
 have:=wp_list_rg n L boxes ds hn hds hap htp hst hbx hop hend n 0 (xS ops a0) w0 zb (Ext.refl _) (λi hi =>by omega) (λi j hi =>by omega)
 have hlay:qY ops (xS ops a0) a0 n =a0:=layN_self a0 n
 rwa [hlay,List.drop_zero]at this
theorem wp_region_rgO(n:Nat)(opt:List Nat)(ds:List (Option Tmp))(L:List (Value ->World ->Prop))(boxes:List Nat)(fuel:Nat){a0:Act}{w0:World}{id:Nat}
  (hm:P.follows .mixedOrders =true) (hn:n <=ops.size) (hf:ops.size - n =fuel) (hds:(List.range n).map (qR ops)=ds) (hap:qO ops n =true) (htp:xH .any ops n opt =true) (hoo:optOk .any ops n opt =true) (hob:opt.all (λi => !boxes.contains i)=true)
  (hst:AllStb L) (hbx:∀i∈boxes,IsBox (L.getD i (λ_ _ =>True)))
  (hY:∀i∈opt,∀(v:Nat ->Value) (w:World),Ext w0 w ->(∀j,(ups .any ops i).contains j =true ->L.getD j (λ_ _ =>True) (v j) w) ->∃x o,ops[i]? =some o/\Yields P ops o x (qZ v a0 0 ds)/\L.getD i (λ_ _ =>True) x w)
  (hop:RgAll P .any ops (NoPanic Q) ds a0 w0 L boxes 0 n ops.toList)
  (hend:∀v w,Ext w0 w ->(∀i,i < n ->L.getD i (λ_ _ =>True) (v i) w) ->(∀i j,i∈boxes ->j∈boxes ->i < n ->j < n ->i≠j ->v i≠v j) ->
   wpAny P .any ops (NoPanic Q) fuel (qG ops.size n) (qZ v a0 0 ds) w) :
  (Code.region id ops true).wp P Q a0 w0:=by
 refine wp_region_noPanic ?_
 refine wp_region_any hm ?_
 have hE:Ext w0 w0.drew:=(Ext.refl w0).drew
 have hD:∀m,xA (Array.replicate ops.size false) m =0:=λm =>by
  unfold xA
  rw[List.countP_eq_zero.2]
  intro i _
  simp[qH]
 refine wpAny_rgO n [] opt ds L boxes fuel ?_ hn hf hds hap htp hoo hst hbx zd zd (λi hi =>⟨?_,(λ_ _ _ _ _ h =>h),λv w hR =>hY i hi v w (hE.trans hR)⟩) ?_ (λv w hR =>hend v w (hE.trans hR))
 ·simp[startOk,hD,qH]
 ·simp only[List.all_eq_true,Bool.not_eq_true']at hob;exact hob i hi
 ·have key:∀(k i:Nat) (os:List Oper),RgAll P .any ops (NoPanic Q) ds a0 w0 L boxes i k os ->RgAll P .any ops (NoPanic Q) ds a0 w0.drew L boxes i k os:=by
   intro k
   induction k with
   |zero =>intro i os _;cases os <;> trivial
   | succ k ih =>
    intro i os h
    cases os with
    |nil =>trivial
    |cons o os =>exact⟨λv w hR =>h.1 v w (hE.trans hR),ih _ _ h.2⟩
  exact key n 0 ops.toList hop
end
/-! ### Words for walks that a program has printed -/
theorem St.at{w0 w:World}{B:List (Nat× (Value ->World ->Prop))}(h:St w0 w B)(i:Nat)(g:Nat)(fP:Value ->World ->Prop)(hp:B[i]? =some (g,fP)):
  ∃s a n c,Bx w g s a n c/\fP (.agg #[.bool s,.slice a n c]) w:=h.get i _ hp
theorem St.new'{w0 w:World}{B:List (Nat× (Value ->World ->Prop))}(h:St w0 w B)(g:Nat)(hg:w.heap.size =g)(s:Bool)(a:Option Addr)(n c:Nat)(t:TypeId)(fP:Value ->World ->Prop)(hs:GStb fP)(hZ:fP (.agg #[.bool s,.slice a n c]) w):
  St w0 (w.alloc (.cells #[.bool s,.slice a n c] t)) ((g,fP) ::B) :=hg ▸ h.new s a n c t fP hs hZ
theorem St.tail{w0 w:World}{p:Nat× (Value ->World ->Prop)}{B:List (Nat× (Value ->World ->Prop))}(h:St w0 w (p ::B)):St w0 w B:=
 ⟨h.ext,λq hq =>h.box q (List.mem_cons_of_mem _ hq),λq hq =>h.stb q (List.mem_cons_of_mem _ hq),(List.pairwise_cons.1 h.apart).2⟩
def Apart(g:Nat)(B:List (Nat× (Value ->World ->Prop))):Prop:=∀p∈B,p.1≠g
theorem Apart.old{W:World}{B:List (Nat× (Value ->World ->Prop))}{g:Nat}(h:∀p∈B,p.1 < W.heap.size)(hg:W.heap.size <=g):Apart g B:=λp hp he =>by have:=h p hp;omega
theorem Apart.cons{g g':Nat}{fP:Value ->World ->Prop}{B:List (Nat× (Value ->World ->Prop))}(h:g'≠g)(k:Apart g B):Apart g ((g',fP) ::B) :=λp hp =>by
 rcases List.mem_cons.1 hp with rfl|hp
 ·exact h
 ·exact k p hp
theorem St.addN{w0 w:World}{B:List (Nat× (Value ->World ->Prop))}(h:St w0 w B){g:Nat}(hn:Apart g B)(hg:w0.heap.size <=g)(hb:Bx w g false none 0 0):St w0 w ((g,IsI 0 0) ::B) :=
 h.add hb hg hn (IsI.gstb 0 0) (IsI.nil w 0)
theorem St.weaken{w0 w:World}{B:List (Nat× (Value ->World ->Prop))}(h:St w0 w B)(i:Nat)(g:Nat)(fP fS:Value ->World ->Prop)(hp:B[i]? =some (g,fP))(hs:GStb fS)(hi:∀x,fP x w ->fS x w):St w0 w (B.set i (g,fS)) :=by
 obtain⟨s,a,n,c,hb,hZ⟩ :=h.at i g fP hp
 have hil:i < B.length:=(List.getElem?_eq_some_iff.1 hp).1
 have hBi:B[i]=(g,fP) :=(List.getElem?_eq_some_iff.1 hp).2
 refine⟨h.ext,λp hpm =>?_,λp hpm =>?_,?_⟩
 ·rcases List.mem_or_eq_of_mem_set hpm with hpm'|rfl
  ·exact h.box p hpm'
  ·exact⟨(h.box _ (List.mem_of_getElem? hp)).1,s,a,n,c,hb,hi _ hZ⟩
 ·rcases List.mem_or_eq_of_mem_set hpm with hpm'|rfl
  ·exact h.stb p hpm'
  ·exact hs
 ·rw[List.pairwise_iff_getElem]
  intro j k hj hk hjk
  have hj':j < B.length:=yk
  have hk':k < B.length:=by simpa using hk
  have key:=List.pairwise_iff_getElem.1 h.apart j k hj' hk' hjk
  rw[List.getElem_set,List.getElem_set]
  split
  ·rename_i h5;subst h5
   rw[hBi]at key
   split
   ·omega
   ·exact key
  ·split
   ·rename_i h5;subst h5;rw[hBi]at key;exact key
   ·exact key
theorem Ret.val{w:World}{u v:Value}{e:Ending}{w':World}(h:Ret w (IsV v) e w')(hv:v =u):Ret w (IsV u) e w':=hv ▸ h
theorem Ret.int{w:World}{i j:Int}{k:IntKind}{e:Ending}{w':World}(h:Ret w (IsV (.int k i)) e w')(hv:i =j):Ret w (IsV (.int k j)) e w':=hv ▸ h
theorem Ret.eqz{w:World}{k:Nat}{z z':Int}{e:Ending}{w':World}(h:Ret w (IsI k z) e w')(hz:z =z'):Ret w (IsI k z') e w':=hz ▸ h
def IsMag(k:Nat)(z:Int):Value ->World ->Prop:=λx w =>∃s a n c,x =.slice a n c/\IntAt w k s a n c z
theorem IsMag.stb(k:Nat)(z:Int):Stb (IsMag k z) :=λ_ _ _ e ⟨s,a,n,c,h1,h2⟩ =>⟨s,a,n,c,h1,h2.ext e⟩
instance (k:Nat) (z:Int):StbC (IsMag k z) :=⟨IsMag.stb k z⟩
def IsPos:Value ->World ->Prop:=λx _ =>∃n:Nat,x =.int .i64 (n:Int)/\0 < n/\n <=9223372036854775807
theorem IsPos.stb:Stb IsPos:=λ_ _ _ _ h =>h
instance:StbC IsPos:=⟨IsPos.stb⟩
theorem IntAt.len{w:World}{k n cap:Nat}{s:Bool}{ao:Option Addr}{z:Int}(h:IntAt w k s ao n cap z):n <=9223372036854775807:=by
 obtain⟨m,⟨xs,h1,_⟩,_⟩ :=h
 have:=h1.capo;have:=h1.big;omega
end
end Go.Proofs.YtkeikfekkdplgaaGreatDoor
