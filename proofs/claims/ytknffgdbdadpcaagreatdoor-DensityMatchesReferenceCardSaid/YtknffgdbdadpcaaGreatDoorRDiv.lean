/-
  The reference package: Mul. Every two integers of at most 2^28 words.
  The reference package: take, half (in place), divide. Every two slices of words of at most 2^28 words, the second not 0.
-/
import Derived.Test.YtknffgdbdadpcaaGreatDoorRInt
namespace Go.Proofs.YtknffgdbdadpcaaGreatDoor
open Go Go.RowKit
open Go.Proofs.Tryz
theorem xj{P:Prop}(h:P:=by simp only[IntKind.wrap_u64];omega):P:=h
theorem zda{P:Prop}(h:P:=by have:=HN.out;omega):P:=h
set_option maxRecDepth 100000
set_option maxHeartbeats 2000000
theorem rmul_sign(s1 s2:Bool)(m1 m2:Nat)(z1 z2:Int)(h1:z1=if s1 then -(m1:Int)else m1)(h2:z2=if s2 then -(m2:Int)else m2):z1*z2=if (s1 !=s2)then -((m1*m2:Nat):Int)else((m1*m2:Nat):Int):=by
  rw[h1,h2];cases s1 <;> cases s2 <;> simp[Int.neg_mul,Int.mul_neg]
theorem MulInv.drewN{w0 wr:World}{g N z e r:Nat}(h:MulInv w0 g N z e r wr)(n:Nat):MulInv w0 g N z e r (wr.drewN n):=by
  obtain⟨ys,h1,h2,h3,h4,h5,h6⟩:=h;exact⟨ys,h1.ext ((Ext.refl _).drewN n),h2,h3,h4,h5,h6.drewN n⟩
theorem drewN_set(w:World)(p:Addr)(v:Value):∀n,(w.drewN n).setCell p v=(w.setCell p v).drewN n
  |0=>rfl
  | n+1=>by
    show((w.drewN n).drew).setCell p v=((w.setCell p v).drewN n).drew;rw[<-drewN_set w p v n];rfl
theorem RMul_c (w:World) (s1 s2:Bool)(a1 a2:Option Addr)(n1 n2 c1 c2 k1 k2:Nat)(z1 z2:Int)(h1:IntAt w k1 s1 a1 n1 c1 z1)(h2:IntAt w k2 s2 a2 n2 c2 z2)(l1:k1<=268435456)(l2:k2<=268435456):Calls prog 73 #[.agg #[.bool s1,.slice a1 n1 c1],.agg #[.bool s2,.slice a2 n2 c2]] w (RInt w (k1+k2) (z1*z2)):=by
  obtain⟨W,hW,K0⟩:=kq21 w s1 s2 a1 a2 n1 n2 c1 c2;have b2:=hid (K0.bx w.heap.size s1 a1 n1 c1 zh);have b3:=hid (K0.bx (w.heap.size+1) s2 a2 n2 c2 zh);have b4:=hid (show Bx W (w.heap.size+1+1) false none 0 0 from K0.bx (w.heap.size+2) false none 0 0 zh);have E:=hid K0.ext;obtain⟨m1,⟨A,hA,lA,_,vA⟩,_,e1⟩:=h1;obtain⟨m2,⟨B,hB,lB,_,vB⟩,_,e2⟩:=h2;have HZ:=hid (rmul_sign s1 s2 m1 m2 z1 z2 e1 e2);rw[<-vA,<-vB]at HZ;have HW1:=hid (hA.ext K0.ext);have HW2:=hid (hB.ext K0.ext);have HA:=hid hA.lt;have HB:=hid hB.lt;have HlB:=hid hB.len;have HlA:=hid hA.len;have sh1:=hA.shape;have sh2:=hB.shape;have HK:=hid (show n1+n2<=k1+k2 by omega);have hn1:n1<=268435456:=zb
  have hn2:n2<=268435456:=zb
  clear K0 hA hB e1 e2 vA vB lA lB l1 l2;rcases sh1 with sh1| ⟨b1,off1,rfl,hb1⟩ <;> rcases sh2 with sh2| ⟨b2',off2,rfl,hb2⟩
  all_goals
    go_enter func73,ntmps73;go_upto_region 1 with fail;rw[<-hW];clear hW;have F1:=b2.out.c0;have F2:=b2.out.c1;have F3:=b2.out.f0;have F4:=b2.out.f1;have G1:=b3.out.c0;have G2:=b3.out.c1;have G3:=b3.out.f0;have G4:=b3.out.f1;go_wp2_with (at_make;refine jJ rfl _ _ _ rfl za _ _ (n1+n2) rfl rfl zb zb zb ?_;intro w1 e1 z1 o1)
    have I0:=hid (MulInv.start o1 e1 n2);clear o1 e1 z1 F1 F2 F3 F4 G1 G2 G3 G4
    go_loopw [6] (λi wr=>∃k:Nat,k<=n1/\i=.int .i64 k/\Hid (MulInv W W.heap.size (n1+n2) (k+n2) 0 (pv A k*qF B) wr)) (λi _=>n1-(intOf i).toNat)
    case atStart=>exact⟨0,by omega,rfl,by simpa [pv]using I0⟩
    case round=>
      clear I0;obtain⟨i,hi,rfl,hinv⟩:=hrel;by_cases hi1:i<n1
      · first
          | (exfalso;omega)
          | (obtain ⟨o0,hc0,ho0,hz0,hf0,hext,hst0⟩:=hinv.out.cell i zb
             have hxl:=HA.out i;clear hc0 ho0 hz0 hf0 hst0;generalize hxe:A.getD i 0=x at hxl;have Hxe:=hid hxe;clear hxe;have J0:=hid (MulInv.inner (x:=x) hinv.out);have F1:=(b2.out.ext hext).c0;have F2:=(b2.out.ext hext).c1;have F3:=(b2.out.ext hext).f0;have F4:=(b2.out.ext hext).f1;clear hinv hext;go_upto_region 7 with fail;clear F1 F2 F3 F4
             go_loopw [7,8] (λc j wi=>∃k cc:Nat,k<=n2/\cc<4294967296/\j=.int .i64 k/\c=.int .u64 cc/\Hid (MulInv W W.heap.size (n1+n2) (i+n2) (4294967296^(i+k)*cc) (pv A i*qF B+4294967296^i*x*pv B k) wi)) (λ_ j _=>n2-(intOf j).toNat)
             case atStart=>exact⟨0,0,by omega,by omega,rfl,rfl,J0⟩
             case round=>
               clear J0;obtain⟨k,cc,hk,hcc,rfl,rfl,hin⟩:=hrel;by_cases hk1:k<n2
               · first
                   | (exfalso;omega)
                   | (obtain⟨o,hco,hol,hz0,hfo,hexi,hsto⟩:=hin.out.cell (i+k) zb
                      have hcA:=(HW1.out.ext hexi).cell i hi1;have hcB:=(HW2.out.ext hexi).cell k hk1;rw[Hxe.out]at hcA;have hyl:=HB.out k;clear hz0 hin;generalize hye:B.getD k 0=y at hcB hyl;have Hye:=hid hye;clear hye;obtain⟨hp1,hp2⟩:=prod_lt x y o cc hxl hyl hol hcc;have Hst:=hid hsto;clear hsto;generalize hpe:x*y=p at hp1 hp2;have hpi:(x:Int)*(y:Int)=(p:Int):=by rw[<-hpe];simp
                      have Hpe:=hid hpe;clear hpe;have hq:(cc+(p+o))/4294967296<4294967296:=zb
                      have Hnew:=hid (Hst.out ((cc+(p+o))%4294967296) (i+n2) (4294967296^(i+(k+1))*((cc+(p+o))/4294967296)) (pv A i*qF B+4294967296^i*x*pv B (k+1)) zb (zL _) (zL _) zb
                        (mul_next _ i k x y o cc (cc+(p+o)) _ _ B (by rw[Hpe.out];omega) Hye.out))
                      clear Hst;have F1:=(b2.out.ext hexi).c0;have F2:=(b2.out.ext hexi).c1;have F3:=(b2.out.ext hexi).f0;have F4:=(b2.out.ext hexi).f1;have G1:=(b3.out.ext hexi).c0;have G2:=(b3.out.ext hexi).c1;have G3:=(b3.out.ext hexi).f0;have G4:=(b3.out.ext hexi).f1;go_wp2_with fail
                      go_quiet (fail)
                      go_wp2_with fail
                      go_roundw
                      case rel=>exact⟨k+1,_,by omega,hq,by go_num,by go_num,by rw[drewN_set];exact MulInv.drewN Hnew _⟩
                      case measure=>simp[intOf];omega)
               · obtain rfl:k=n2:=by omega
                 obtain⟨o,hco,hol,hz0,hfo,hexi,hsto⟩:=hin.out.cell (i+k) zb;have Hnew:=hid (hsto cc (i+1+k) 0 (pv A (i+1)*qF B) hcc (zL _) zb zb (mul_end _ i k x o cc A B (hz0 (zL _)) HlB.out Hxe.out));clear hsto hz0 hin;have G1:=(b3.out.ext hexi).c0;have G2:=(b3.out.ext hexi).c1;have G3:=(b3.out.ext hexi).f0;have G4:=(b3.out.ext hexi).f1;go_wp2_with fail
                 go_roundw
                 case rel=>exact⟨i+1,by omega,by go_num,Hnew⟩
                 case measure=>simp[intOf];omega)
      · obtain rfl:i=n1:=by omega
        have hinv2:=hinv.out;rw[qS A i (Nat.le_of_eq HlA.out)]at hinv2;obtain⟨o0,_,_,_,_,hext0,_⟩:∃o,o=0/\o=0/\o=0/\o=0/\Ext W wr/\True:=⟨0,rfl,rfl,rfl,rfl,by obtain⟨_,_,_,_,_,_,h⟩:=hinv2;exact h,trivial⟩;obtain⟨ys,hw,hv,hext⟩:=hinv2.fin zb;have HM:=hid (rmade_c wr (s1 !=s2) _ _ _ ys (z1*z2) hw (by rw[hv];exact HZ.out));clear hinv hinv2 hw hv;have F1:=(b2.out.ext hext).c0;have F2:=(b2.out.ext hext).c1;have F3:=(b2.out.ext hext).f0;have F4:=(b2.out.ext hext).f1;have G1:=(b3.out.ext hext).c0;have G2:=(b3.out.ext hext).c1;have G3:=(b3.out.ext hext).f0;have G4:=(b3.out.ext hext).f1;go_wp2_with fail;refine zC HM.out ?_;rintro e w3 ⟨s3,a3,n3,c3,rfl,e3,h3⟩;have B4:=b4.out.ext (hext.trans e3);have E3:=E.out.trans (hext.trans e3);clear F1 F2 F3 F4 G1 G2 G3 G4;have H1:=B4.c0;have H2:=B4.c1;have H3:=B4.f0;have H4:=B4.f1;go_wp2_with fail;obtain⟨w4,hW,b5,p⟩:=B4.put' s3 a3 n3 c3;rw[<-hW];clear hW;have T0:=b5.c0;have T1:=b5.c1;exact zD (v:=.agg #[.bool s3,.slice a3 n3 c3]) (by simp[results,results73,go_sem,T0,T1]) rfl ⟨_,_,_,_,rfl,E3.pt p zb,(h3.pt p).mono HK.out⟩
def HfI(w:World)(base g cap:Nat)(A:List Nat)(gk:Nat)(v2:Value)(wr:World):Prop:=
  ∃(ys:List Nat) (j:Nat),v2=.int .i64 (j:Int)/\j+gk=A.length/\Rw wr base (.slice (some ⟨g,0,none⟩) A.length cap) ys/\HalfS A ys j/\Upd g w wr
theorem half_c(w:World)(base g cap:Nat)(A:List Nat)(h:Rw w base (.slice (some ⟨g,0,none⟩) A.length cap) A)(hl:A.length<=2147483648):
    Calls prog 201 #[.slice (some ⟨g,0,none⟩) A.length cap] w (λe w'=>e=.returned (.tuple #[])/\Upd g w w'/\∃ys,Rw w' base (.slice (some ⟨g,0,none⟩) A.length cap) ys/\ys.length=A.length/\qF ys=qF A/2):=by
  have HA:=hid h.2;have I0:=hid (show HfI w base g cap A A.length (.int .i64 0) w from⟨A,0,rfl,by omega,h,HalfS.start h.2,Upd.refl _ _⟩);obtain⟨n,hn⟩:∃n,n=A.length:=⟨_,rfl⟩;have Hn:=hid hn;rw[<-hn]at I0 hl;unfold HfI at I0;rw[<-hn]at I0 ⊢;clear h hn;go_enter func201,ntmps201;go_wp2_with fail
  go_loopg [2] n (λgk v2 wr=>Hid (∃(ys:List Nat) (j:Nat),v2=.int .i64 (j:Int)/\j+gk=n/\Rw wr base (.slice (some ⟨g,0,none⟩) n cap) ys/\HalfS A ys j/\Upd g w wr))
  case atStart=>exact I0
  case round=>
    clear I0;obtain⟨ys,j,rfl,hj,hr,hs,hu⟩:=hrel.out;clear hrel;have hyl:=hs.1;by_cases hjn:j<n
    · obtain⟨e1,e2,hst⟩:=hs.step (by have:=Hn.out;omega) HA.out
      obtain⟨ao,c9,hv,hw⟩:=hr.wd;simp only[Value.slice.injEq]at hv;obtain⟨rfl,hln,rfl⟩:=hv;rw[<-hln]at hw;have W0:=hid (jQ wr _ _ _ ys hw j zb);have W0a:=hid (jQ wr _ _ _ ys hw (j+1) zb);rw[e1]at W0;rw[e2]at W0a;have hcell:=hr.cell j zb;have hfree:=hr.free j;have hxl:=HA.out j;have hyl2:=HA.out (j+1);generalize A.getD j 0=x at*;generalize A.getD (j+1) 0=y at*;obtain⟨u,hu9⟩:∃u,u=x/2+y%2*2147483648:=⟨_,rfl⟩;rw[<-hu9]at hst;have hul:u<4294967296:=zb
      have hor:bits .or .u64 ((x:Int)/2) ((y:Int)*2147483648)=((x/2+y*2147483648:Nat):Int):=by
        have h:=u64_or_nat (x/2) (y*2147483648) zb zb;have h31:(2:Nat)^31=2147483648:=zdp
        have h2:=nat_join 31 (y*2147483648) (x/2) (by rw[h31];omega) (by rw[h31];omega);rw[Nat.or_comm,h2,Nat.add_comm]at h;rw[<-h];simp
      have hum:=hid (show((x:Int)/2+(y:Int)*2147483648)%4294967296=(u:Int)by omega)
      have J':Hid (∃(ys:List Nat) (j':Nat),(Value.int .i64 ((j:Int)+1))=.int .i64 (j':Int)/\j'+(gk-1)=n/\Rw (wr.setCell ⟨g,j,none⟩ (.int .u32 (u:Int))) base (.slice (some ⟨g,0,none⟩) n cap) ys/\HalfS A ys j'/\Upd g w (wr.setCell ⟨g,j,none⟩ (.int .u32 (u:Int)))):=
        hid ⟨ys.set j u,j+1,rfl,by omega,hr.put j u zb hul,hst,hu.trans (Upd.set g j wr _)⟩
      have hgj:gk-1<gk:=zb
      clear hst hs hr hw e1 e2 hu hu9 hln hyl;go_wp2_with fail;refine zC W0.out ?_;rintro e w1 ⟨rfl,rfl⟩;go_wp2_with fail;refine zC W0a.out ?_;rintro e w1 ⟨rfl,rfl⟩;go_wp2_with fail
      go_roundg (gk-1)
      case measure=>exact hgj
      case rel=>rw[hum.out];exact J'
    · obtain rfl:j=n:=by omega
      have hs2:=hs;rw[Hn.out]at hs2;have hfin:=hid hs2.fin;have Hr:=hid hr;have Hu:=hid hu;have Hy:=hid hyl;clear hs hs2 hr hu hyl;go_wp2_with fail
      go_end0
      exact⟨rfl,Hu.out,_,Hr.out,Hy.out.trans Hn.out.symm,hfin.out⟩
def TkI(w:World)(base g n cap:Nat)(A B:List Nat)(gk:Nat)(v4 v5:Value)(wr:World):Prop:=
  ∃(ys:List Nat) (j c:Nat),v4=.int .u64 (c:Int)/\v5=.int .i64 (j:Int)/\j+gk=n/\Rw wr base (.slice (some ⟨g,0,none⟩) n cap) ys/\TakeS A B ys j c/\Upd g w wr
theorem take_c(w:World)(base g n cap n2 c2:Nat)(a2:Option Addr)(A B:List Nat)(h:Rw w base (.slice (some ⟨g,0,none⟩) n cap) A)(hn:A.length=n)(h2:Wd w a2 n2 c2 B)(hne:∀b off,a2=some ⟨b,off,none⟩->b≠g)(hl:n<=2147483648)(hle:qF B<=qF A):
    Calls prog 200 #[.slice (some ⟨g,0,none⟩) n cap,.slice a2 n2 c2] w (λe w'=>e=.returned (.tuple #[])/\Upd g w w'/\∃ys,Rw w' base (.slice (some ⟨g,0,none⟩) n cap) ys/\ys.length=n/\qF ys=qF A-qF B):=by
  have HA:=hid h.2;have HB:=hid h2.lt;have HW2:=hid h2;have HN:=hid hn;have HNE:=hid hne;have HLE:=hid hle;have I0:=hid (show TkI w base g n cap A B n (.int .u64 0) (.int .i64 0) w from⟨A,0,0,rfl,rfl,by omega,h,TakeS.start B h.2,Upd.refl _ _⟩);clear h hn h2 hne hle;go_enter func200,ntmps200;go_wp2_with fail
  go_loopg [4,5] n (λgk v4 v5 wr=>Hid (TkI w base g n cap A B gk v4 v5 wr))
  case atStart=>exact I0
  case round=>
    clear I0;obtain⟨ys,j,c,rfl,rfl,hj,hr,hs,hu⟩:=hrel.out;clear hrel;have hc1:=hs.2.2.2.2;by_cases hjn:j<n
    · obtain⟨e1,hst⟩:=hs.step zda HA.out HB.out
      have hyl:j<ys.length:=by have h1:=hs.1;have h2:=HN.out;omega
      have hcell:=hr.cell j hyl;rw[e1]at hcell;have hfree:=hr.free j;have W0:=hid (HW2.out.upd hu HNE.out);have hxl:=HA.out j;have hyl2:=HB.out j;have HC:=hid (λ(w9:World) (e9:Ext wr w9)=>jQ w9 a2 n2 c2 B (W0.out.ext e9) j zb);generalize A.getD j 0=x at*;generalize B.getD j 0=y at*;obtain⟨t,ht⟩:∃t,t=4294967296+x-y-c:=⟨_,rfl⟩;rw[<-ht]at hst;have ht1:(4294967296:Int)+(x:Int)-(y:Int)-(c:Int)=(t:Int):=zb
      have ht2:t<8589934592:=zb
      have ht3:((t:Int)/4294967296)<=1:=zb
      have HR:=hid hr;have HST:=hid hst;have HU:=hid hu;have HYL:=hid hyl;have hgj:gk-1<gk:=zb
      have hw1:IntKind.u64.wrap (x:Int)=x:=xj
      have hw2:IntKind.u64.wrap (4294967296+(x:Int))=4294967296+x:=xj
      have hw3:IntKind.u64.wrap (4294967296+(x:Int)-y)=4294967296+x-y:=xj
      have hw4:IntKind.u64.wrap (t:Int)=t:=xj
      clear hr hs hst hu e1 ht hyl;go_wp2_with fail
      refine qU 13 [some 13,some 14,some 15,some 16,some 17,some 18,some 19,some 20,some 21,some 22,some 23,some 24,some 6]
        [IsV (.slice (some ⟨g,0,none⟩) n cap),iV j,IsV (.pointer (some ⟨g,j,none⟩)),IsV (.int .u32 x),IsV (.int .u64 x),IsV (.int .u64 (4294967296+x)),IsV (.slice a2 n2 c2),iV j,IsV (.int .u64 y),
         IsV (.int .u64 (4294967296+x-y)),IsV (.int .u64 c),IsV (.int .u64 t),IsV (.int .u64 t)] [] 0 za dcx za za za za za ?_ (λ_ h=>by cases h) ?_ ?_
      ·repeat' (first|exact trivial|exact IsV.stb _|exact IsI.stb _ _|exact IsB.stb _|apply zJ)
      · refine RgAll.cons zc ?_
        refine RgAll.cons zc ?_;refine RgAll.cons (by{intro v w' hE hd;simp only[lxE,Nat.reduceAdd];have d0:v 0=.slice (some ⟨g,0,none⟩) n cap:=hd 0 za;have d1:v 1=.int .i64 j:=hd 1 za;rw[d0,d1];intro K hK;go_simp;exact hK.out _ _ (Ext.refl _) rfl (FreshIf.no rfl)}) ?_;refine RgAll.cons (by{intro v w' hE hd;simp only[lxE,Nat.reduceAdd];have d0:v 2=.pointer (some ⟨g,j,none⟩):=hd 2 za;have L0:=hE.cell hcell;rw[d0];intro K hK;go_simp;exact hK.out _ _ (Ext.refl _) rfl (FreshIf.no rfl)}) ?_;refine RgAll.cons (by{intro v w' hE hd;simp only[lxE,Nat.reduceAdd];have d0:v 3=.int .u32 x:=hd 3 za;rw[d0];intro K hK;go_simp;exact hK.out _ _ (Ext.refl _) rfl (FreshIf.no rfl)}) ?_;refine RgAll.cons (by{intro v w' hE hd;simp only[lxE,Nat.reduceAdd];have d0:v 4=.int .u64 x:=hd 4 za;rw[d0];intro K hK;go_simp;exact hK.out _ _ (Ext.refl _) rfl (FreshIf.no rfl)}) ?_;refine RgAll.cons zc ?_;refine RgAll.cons zc ?_;refine RgAll.cons (by{intro v w' hE hd;simp only[lxE,Nat.reduceAdd];have d0:v 6=.slice a2 n2 c2:=hd 6 za;have d1:v 7=.int .i64 j:=hd 7 za;rw[d0,d1];intro K hK;go_simp;go_at_call 90;go_split_ands;(with_reducible refine zC (HC.out w' hE) ?_);rintro e w2 ⟨rfl,rfl⟩;exact hK.out _ _ (Ext.refl _) rfl (FreshIf.no rfl)}) ?_;refine RgAll.cons (by{intro v w' hE hd;simp only[lxE,Nat.reduceAdd];have d0:v 5=.int .u64 (4294967296+x):=hd 5 za;have d1:v 8=.int .u64 y:=hd 8 za;rw[d0,d1];intro K hK;go_simp;exact hK.out _ _ (Ext.refl _) rfl (FreshIf.no rfl)}) ?_;refine RgAll.cons zc ?_;refine RgAll.cons (by{intro v w' hE hd;simp only[lxE,Nat.reduceAdd];have d0:v 9=.int .u64 (4294967296+x-y):=hd 9 za;have d1:v 10=.int .u64 c:=hd 10 za;rw[d0,d1];intro K hK;go_simp;exact hK.out _ _ (Ext.refl _) rfl (FreshIf.no rfl)}) ?_;refine RgAll.cons (by{intro v w' hE hd;simp only[lxE,Nat.reduceAdd];have d0:v 11=.int .u64 t:=hd 11 za;rw[d0];intro K hK;go_simp;exact hK.out _ _ (Ext.refl _) rfl (FreshIf.no rfl)}) ?_;exact rn0
      intro v w1 e1 hH _;simp only[lxE,Nat.reduceAdd];rw[show v 12=.int .u64 t from hH 12 dcx];clear hH;refine zO za ?_ 0;have hcell:=e1.cell hcell;have HU1:=hid (HU.out.trans (Upd.of e1 (Nat.le_of_lt (World.block_lt_of_cell? wr ⟨g,j,none⟩ zp))));have HR1:=hid (HR.out.ext e1);have hfree:=HR1.out.free j;obtain⟨u,hu9⟩:∃u,u=t%4294967296:=⟨_,rfl⟩;rw[<-hu9]at HST;have hul:u<4294967296:=zb
      have hut:=hid (show(t:Int)%4294967296=(u:Int)by omega);have hcc:=hid (show(1-(t:Int)/4294967296)=((1-t/4294967296:Nat):Int)by omega)
      have J':Hid (TkI w base g n cap A B (gk-1) (.int .u64 ((1-t/4294967296:Nat):Int)) (.int .i64 ((j:Int)+1)) (w1.setCell ⟨g,j,none⟩ (.int .u32 (u:Int)))):=
        hid ⟨ys.set j u,j+1,_,rfl,rfl,by omega,HR1.out.put j u HYL.out hul,HST.out,HU1.out.trans (Upd.set g j w1 _)⟩
      clear hu9;go_wp2_with fail
      go_roundg (gk-1)
      case measure=>exact hgj
      case rel=>rw[hut.out,hcc.out];exact J'
    · obtain rfl:j=n:=by omega
      have hs2:=hs;rw[<-HN.out]at hs2;have hfin:=hid (hs2.fin HA.out HLE.out);have Hr:=hid hr;have Hu:=hid hu;have Hy:=hid (hs.1.trans HN.out);clear hs hs2 hr hu;go_wp2_with fail
      go_end0
      exact⟨rfl,Hu.out,_,Hr.out,Hy.out,hfin.out⟩
end Go.Proofs.YtknffgdbdadpcaaGreatDoor
