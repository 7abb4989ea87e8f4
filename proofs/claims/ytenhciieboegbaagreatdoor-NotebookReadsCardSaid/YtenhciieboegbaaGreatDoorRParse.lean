/-
  The reference's Parse: rows of words that are written in place and grow. The plain part: times ten, plus a digit.
-/
import Derived.Test.YtenhciieboegbaaGreatDoorNix
import Derived.Test.YtenhciieboegbaaGreatDoorVld
namespace Go.Proofs.YtenhciieboegbaaGreatDoor
open Go Go.RowKit
open Go.Proofs.Tryz
theorem xg{P:Prop}(h:P:=by rw[hpt];exact List.take_of_length_le (by show t.data.toList.length<=t.data.size;simp)):P:=h
set_option maxRecDepth 100000
set_option maxHeartbeats 1000000
def Ten(xs ys:List Nat)(d j c:Nat):Prop:=
  ys.length=xs.length/\(∀i,j<=i->ys.getD i 0=xs.getD i 0)/\qF (ys.take j)+4294967296^j*c=qF (xs.take j)*10+d/\c<=9/\(∀i,ys.getD i 0<4294967296)
theorem Ten.start{xs:List Nat}{d:Nat}(hd:d<=9)(hx:∀i,xs.getD i 0<4294967296):Ten xs xs d 0 d:=
  ⟨rfl,λ_ _=>rfl,by simp[qF],hd,hx⟩
theorem Ten.step{xs ys:List Nat}{d j c:Nat}(h:Ten xs ys d j c)(hj:j<xs.length)(hx:∀i,xs.getD i 0<4294967296):
    Ten xs (ys.set j ((c+ys.getD j 0*10)%4294967296)) d (j+1) ((c+ys.getD j 0*10)/4294967296):=by
  obtain⟨h1,h2,h3,h4,h5⟩:=h;have hxj:=hx j;rw[h2 j (zN _)]
  have hg:∀v i,(ys.set j v).getD i 0=if i=j then v else ys.getD i 0:=by
    intro v i;by_cases hi:i=j
    · subst hi
      simp[List.getD,h1▸hj]
    · rw[if_neg hi]
      simp[List.getD,List.getElem?_set_ne (Ne.symm hi)]
  refine⟨by simpa using h1,?_,?_,by omega,?_⟩
  · intro i hi
    rw[hg,if_neg (by omega)];exact h2 i ze
  · rw [jQ _ j (by simpa [h1]using hj),jQ xs j hj,hg,if_pos rfl,List.take_set_of_le (zN j),Nat.pow_succ]
    have h6:=Nat.mod_add_div (c+xs.getD j 0*10) 4294967296;generalize(c+xs.getD j 0*10)%4294967296=a at*;generalize(c+xs.getD j 0*10)/4294967296=b at*;generalize xs.getD j 0=x at*;generalize qF (ys.take j)=p at*;generalize qF (xs.take j)=q at*;generalize 4294967296^j=B at*
    have h7:B*a+B*4294967296*b=B*c+B*x*10:=by
      rw[Nat.mul_assoc B,<-Nat.mul_add,h6,Nat.mul_add,Nat.mul_assoc]
    grind
  · intro i
    rw[hg]
    split
    ·omega
    ·exact h5 i
theorem Ten.fin{xs ys:List Nat}{d c:Nat}(h:Ten xs ys d xs.length c):qF (if 0<c then ys++ [c]else ys)=qF xs*10+d:=by
  obtain⟨h1,_,h3,_,_⟩:=h;rw[List.take_of_length_le (Nat.le_of_eq h1),List.take_of_length_le (zN _)]at h3
  split
  · rw[natVal_append,h1]
    simpa [qF]using h3
  · have:c=0:=by omega
    rw[this]at h3
    simpa using h3
theorem head_at(t:ByteArray)(h:0<t.size):t.data.toList.headD 0=t[0]:=by
  cases hl:t.data.toList with
  |nil=>have h2:t.data.toList.length=t.size:=rfl;rw[hl]at h2;simp at h2;omega
  | cons c l=>
    have h5:t.data.toList[0]'(by rw[hl];simp)=t[0]:=rfl;rw[<-h5];simp[hl]
theorem start_ok{s t:ByteArray}{neg:Bool}(ht:t=⟨(qX s.data.toList).toArray⟩)(hneg:neg=negOf s.data.toList)(hb:xH s.data.toList=false):
    ∃h:0<t.size,(t[0].toNat:Int)=48->t.size=1/\neg=false:=by
  have hbody:qX s.data.toList=t.data.toList:=by rw[ht]
  have hb0:=hb;rw[xH,hbody,Bool.or_eq_false_iff]at hb;have ht1:¬t.data.toList= []:=by intro h;rw[h]at hb;exact absurd hb.1 dcx
  have h0:0<t.size:=by
    have:t.data.toList.length≠0:=λh=>ht1 (List.length_eq_zero_iff.1 h)
    have:t.size=t.data.toList.length:=rfl;omega
  refine⟨h0,λh48=>?_⟩;have h7:t[0]=48:=UInt8.toNat_inj.1 (by show t[0].toNat=48;omega);have h3:=hb.2;rw[head_at t h0,h7]at h3;have h8:s.data.toList= [48]:=by simpa using h3
  refine⟨?_,by rw[hneg,h8];rfl⟩;have h9:t.data.toList= [48]:=by rw[<-hbody,h8];rfl
  have:t.size=t.data.toList.length:=rfl;rw[this,h9];rfl
theorem neg_yes{s t:ByteArray}(ht:t=⟨(qX s.data.toList).toArray⟩)(hneg:true=negOf s.data.toList):
    ∃h:0<s.size,(s[0].toNat:Int)=45/\s.extract 1 s.size=t:=by
  obtain⟨k,hk⟩:=neg_head hneg.symm;have h2:s.data.toList.length=s.size:=rfl;have h0:0<s.size:=by rw[hk]at h2;simp at h2;omega
  refine⟨h0,?_,?_⟩
  ·rw[<-head_at s h0,hk];rfl
  · rw[ht,hk,(neg_cons k).2]
    apply ByteArray.ext;rw[ByteArray.data_extract];apply Array.toList_inj.1;rw[Array.toList_extract,hk];simp[List.extract];rw[<-h2,hk];simp
theorem neg_no{s t:ByteArray}(ht:t=⟨(qX s.data.toList).toArray⟩)(hneg:false=negOf s.data.toList)(h0:0<t.size):
    t=s/\∃h:0<s.size,¬(s[0].toNat:Int)=45:=by
  have h1:t=s:=by
    rw[ht,qX,Lib.trimPrefix,if_neg (by rw[show Lib.hasPrefix s.data.toList [45]=false from hneg.symm];decide)]
  rw[h1]at h0;refine⟨h1,h0,λh=>?_⟩;have h2:s[0]=45:=UInt8.toNat_inj.1 (by show s[0].toNat=45;omega);have h3:=head_at s h0;cases hl:s.data.toList with
  |nil=>rw[hl]at h3;rw[h2]at h3;exact absurd h3 dcx
  | cons c l=>
    rw[hl,h2]at h3;have h4:c=45:=h3;rw[hl,h4,(neg_cons l).1]at hneg;exact absurd hneg dcx
def RpO(w:World)(t:ByteArray)(gk:Nat)(v6 v7:Value)(wr:World):Prop:=
  ∃ (xs:List Nat) (p:Nat),v7=.int .i64 (p:Int)/\p+gk=t.size/\RowOf 97 isU32 wr (w.heap.size+1) v6 (qL xs)/\qF xs=dval (t.data.toList.take p)/\xs.length<=p/\(∀i,xs.getD i 0<4294967296)/\
    Bx wr w.heap.size false none 0 0/\Ext w wr/\(∀c∈t.data.toList.take p,xX c=true)
def RpJ(w:World)(xs:List Nat)(d:Nat)(v6:Value)(gk:Nat)(v8 v9:Value)(wr:World):Prop:=
  ∃(ys:List Nat) (j cc:Nat),v8=.int .u64 (cc:Int)/\v9=.int .i64 (j:Int)/\j+gk=xs.length/\RowOf 97 isU32 wr (w.heap.size+1) v6 (qL ys)/\Ten xs ys d j cc/\Bx wr w.heap.size false none 0 0/\Ext w wr
theorem tRParse_1{P:Prop}(h:P:=by
  have hl0:decide ((p:Int)<(t.size:Int))=true:=jh
  obtain⟨x,hxx⟩:∃x:UInt8,x=(t[p]'hlt):=⟨_,rfl⟩;obtain⟨c,hc⟩:∃c:Nat,c=x.toNat:=⟨_,rfl⟩
  have htk:t.data.toList.take (p+1)=t.data.toList.take p++ [x]:=by
    rw[hxx];exact(List.take_append_getElem (l:=t.data.toList) (i:=p) hlt).symm
  have hct:((t[p]'hlt).toNat:Int)=(c:Int):=by rw[hc,hxx]
  by_cases hdg:48<=c/\c<=57
  · have hl1:decide ((c:Int)<48)=false:=by simp;omega
    have hl2:decide (57<(c:Int))=false:=jh
    obtain⟨d,hd0⟩:∃d,c=48+d:=⟨c-48,by omega⟩;have hd9:d<=9:=ze
    have J0:=hid (show RpJ w xs d (.slice ao (qL xs).length cap) xs.length (.int .u64 (d:Int)) (.int .i64 0) wr from⟨xs,0,d,rfl,rfl,by omega,hr,Ten.start hd9 hx,b1,E⟩);go_upto_region 17 with fail;rw[show((c:Int)-48)=(d:Int)by omega];have HX:=hid hx;have HV:=hid hv;obtain⟨q,hq⟩:∃q,q=gk-1/\q<gk/\p+1+q=t.size:=⟨gk-1,rfl,by omega,by omega⟩;have HQ:=hid hq.2;clear hq;have HP:=hid hp;have HXL:=hid hxl;have HD:=hid hd;have HTK:=hid htk;have HDG:=hid (zL hdg (zL hc hd0));have HG:=hid hg;clear hr hg hcap hcb hp hv hxl hx b1 E hd htk hdg
    go_loopg [8,9] xs.length (λgj v8 v9 w5=>Hid (RpJ w xs d (.slice ao (qL xs).length cap) gj v8 v9 w5))
    case atStart=>exact J0
    case round=>
      clear J0;obtain⟨ys,j,cc,rfl,rfl,hj,hr,hten,b1,E⟩:=hrel.out;clear hrel;have hys:=hten.1;by_cases hjl:j<xs.length
      · obtain⟨g,rfl,hg1,hg2⟩:=HG.out (by intro h;have h2:=qK xs;rw[h]at h2;simp at h2;omega)
        have hcell:=hr.cell j _ (jA? ys j ze);have hfree:=hr.free j;have hxb:=hten.2.2.2.2 j;have hcb:=hten.2.2.2.1;obtain⟨xj,hxj⟩:∃xj,xj=ys.getD j 0:=⟨_,rfl⟩;rw[<-hxj]at hcell hxb;have hl3:decide ((j:Int)<((qL xs).length:Int))=true:=by rw[qK];simp;omega
        have hl4:j<(qL xs).length:=by rw[qK];exact hjl
        have HTEN:=hid hten;have HR:=hid hr;have HJ:=hid hj;have HXJ:=hid hxj;clear hten hr hj hxj hys;go_upto_region 18 with fail;have hn8:((cc:Int)+(xj:Int)*10)/4294967296=(((cc+xj*10)/4294967296:Nat):Int):=ze
        have hn9:((cc:Int)+(xj:Int)*10)%4294967296=(((cc+xj*10)%4294967296:Nat):Int):=ze
        have hset:=HR.out.set j (.int .u32 (((cc+xj*10)%4294967296:Nat):Int)) ⟨_,rfl⟩;rw[hn8,hn9];rw[show(qL ys).set j (Value.int .u32 (((cc+xj*10)%4294967296:Nat):Int))=qL (ys.set j ((cc+xj*10)%4294967296))by simp[qL,List.map_set]]at hset;have hst:=HTEN.out.step hjl HX.out;rw[<-HXJ.out]at hst;have b1:=Below.bx hset.2 ze b1;have E:=Below.ext E hset.2 ze;have J':=hid (show RpJ w xs d (.slice (some ⟨g,0,none⟩) (qL xs).length cap) (gk-1) (.int .u64 (((cc+xj*10)/4294967296:Nat):Int)) (.int .i64 ((j:Int)+1)) _ from⟨_,j+1,_,rfl,rfl,by have:=HJ.out;omega,hset.1,hst,b1,E⟩);have hgj:=hid (show gk-1<gk by have:=HJ.out;omega);have HN9:=hid hn9
        have HW:=hid (show wrap64 ((j:Int)+1)=(j:Int)+1 by
          have:=HXL.out;have:=HP.out
          first| (simp only[wrap64];omega)| (unfold wrap64;simp only[IntKind.wrap_i64];omega))
        clear hset hst b1 E hcell hfree hn8 hn9;go_wp2_with fail
        go_roundg (gk-1)
        case measure=>exact hgj.out
        case rel=>rw[HW.out,HN9.out];exact J'
      · have hje:j=xs.length:=by omega
        subst hje;have hfin:=hten.fin;have hl3:decide ((xs.length:Int)<((qL xs).length:Int))=false:=by rw[qK];simp
        have hl4:¬((xs.length:Int)<((qL xs).length:Int)):=by rw[qK];omega
        have hl5:¬(xs.length<(qL xs).length):=by rw[qK];omega
        have HTEN:=hid hten;clear hten hj;by_cases hc0:0<cc
        · rw [if_pos hc0]at hfin
          have HLen:=hid (show(qL ys).length<=1300 by rw[qK];have:=HTEN.out.1;have:=HXL.out;have:=HP.out;have:=HTS.out;omega);have HS2:=hid (show w.heap.size+1<=wr.heap.size from b1.lt);have HR2:=hid hr;have HC4:=hid HTEN.out.2.2.2.1;have hd1:decide ((0:Int)<(cc:Int))=true:=jh
          clear hr;go_wp2_with (at_builtin;go_must (refine wpl_row rfl _ _ 27 97 rfl isU32 (.int .u32 0) 4 zc Tryz.infoU32 rfl ⟨0,rfl⟩ (w.heap.size+1) _ _ rfl (HR2.out.ext ((Ext.refl _).alloc _)) _ _ (.int .u32 (cc:Int)) rfl (by have:=HC4.out;simp;omega) rfl ⟨_,rfl⟩ ju ju (by have:=HS2.out;simp;omega) ?_;intro v9 w9 hr9 hb9 hg9))
          have e9:=(Ext.refl wr).alloc (.cells #[.int .u32 ((cc:Int)%4294967296)] 97);have b1:=Below.bx hb9 ze (b1.ext e9);have E:=Below.ext (E.trans e9) hb9 ze;have hr:RowOf 97 isU32 w9 (w.heap.size+1) v9 (qL (ys++ [cc])):=by rw[qL,List.map_append];exact hr9
          have I':Hid (RpO w t q v9 (.int .i64 ((p:Int)+1)) w9):=hid ⟨ys++ [cc],p+1,rfl,HQ.out.2,hr,by
            rw[HTK.out,dval_snoc,hfin,HV.out];have:=HDG.out.2;omega,by have:=HXL.out;have:=HTEN.out.1;simp;omega,by
            intro i;by_cases hi:i<ys.length
            · have:=HTEN.out.2.2.2.2 i
              simpa [List.getD,List.getElem?_append_left hi]using this
            · have:=HC4.out
              simp only[List.getD,List.getElem?_append_right (Nat.le_of_not_lt hi)];cases i-ys.length <;> simp <;> omega,b1,E,by
            rw[HTK.out];intro c' hc';rcases List.mem_append.1 hc' with h|h
            ·exact HD.out c' h
            · rw[List.mem_singleton.1 h,xX,<-HDG.out.2.1]
              have:=HDG.out.1;simp
              omega⟩
          go_roundg q
          case measure=>exact HQ.out.1
          case rel=>exact I'
        · obtain rfl:cc=0:=by omega
          rw[if_neg (by omega)]at hfin
          have I':Hid (RpO w t q (.slice ao (qL xs).length cap) (.int .i64 ((p:Int)+1)) wr):=hid ⟨ys,p+1,rfl,HQ.out.2,hr,by
            rw[HTK.out,dval_snoc,hfin,HV.out];have:=HDG.out.2;omega,by have:=HXL.out;omega,HTEN.out.2.2.2.2,b1,E,by
            rw[HTK.out];intro c' hc';rcases List.mem_append.1 hc' with h|h
            ·exact HD.out c' h
            · rw[List.mem_singleton.1 h,xX,<-HDG.out.2.1]
              have:=HDG.out.1;simp
              omega⟩
          have HW:=hid (show wrap64 ((p:Int)+1)=(p:Int)+1 by
            have:=HP.out;have:=HTS.out
            simp only[wrap64];omega)
          clear hfin hr b1 E;go_wp2_with fail
          go_roundg q
          case measure=>exact HQ.out.1
          case rel=>exact I'
  · have HB2:=hid (show ∃c∈t.data.toList,xX c=false from⟨x,List.mem_of_mem_take (i:=p+1) (by rw[htk];simp),by
      rw[xX,<-hc];simp;omega⟩)
    have hrr:c<48\/(¬c<48/\57<c):=ze
    have HG:=hid hg;clear hr hg hcap hcb hp hv hxl hx hd htk hdg;have F1:=b1.c0;have F2:=b1.c1;have F3:=b1.f0;have F4:=b1.f1;rcases hrr with hlow| ⟨hlow,hhigh⟩
    all_goals (
      go_wp2_with fail;obtain⟨w4,hW,b4,p4⟩:=b1.put' false none 0 0;rw[<-hW];clear hW F1 F2 F3 F4;have hok:=HBAD.out HB2.out;have F1:=b4.c0;have F2:=b4.c1;have F3:=b4.f0;have F4:=b4.f1;refine zH (v:=.tuple #[.agg #[.bool false,.slice none 0 0],.int .i64 3]) (by simp[results,results116,go_sem,F1,F2]) rfl ⟨_,rfl,E.pt p4 ze,_,_,rfl,⟨false,none,0,0,rfl,?_⟩,?_⟩
      · rw[hok.2]
        exact IntAt.zero.mono ze
      · show _=Value.int .i64 pe
        rw[hok.1])
  ):P:=h
theorem tRParse_3{P:Prop}(h:P:=by
  rintro e w3 ⟨s3,a3,n3,c3,rfl,e3,h3⟩;have b1:=b1.ext e3;have E:=E.trans e3;have F1:=b1.c0;have F2:=b1.c1;have F3:=b1.f0;have F4:=b1.f1;go_wp2_with fail;obtain⟨w4,hW,b1,p4⟩:=b1.put' s3 a3 n3 c3;rw[<-hW];clear hW F1 F2 F3 F4;have hok:=HOK.out HD.out;have F1:=b1.c0;have F2:=b1.c1;have F3:=b1.f0;have F4:=b1.f1;refine zH (v:=.tuple #[.agg #[.bool s3,.slice a3 n3 c3],.int .i64 0]) (by simp[results,results116,go_sem,F1,F2]) rfl ⟨_,rfl,E.pt p4 ze,_,_,rfl,⟨s3,a3,n3,c3,rfl,?_⟩,?_⟩
  · have h3:=h3.pt p4
    rw[hok.2,<-HV.out];refine h3.tight ?_;have:=dval_words t.data.toList HD.out HTS.out;rw[<-HV.out]at this
    simpa using this
  · show _=Value.int .i64 pe
    rw[hok.1]
  ):P:=h
theorem tRParse_2{P:Prop}(h:P:=by
  go_loopg [6,7] t.size (λgk v6 v7 wr=>Hid (RpO w t gk v6 v7 wr))
  case atStart=>exact I0
  case round=>
    clear I0;obtain⟨xs,p,rfl,hp,hr,hv,hxl,hx,b1,E,hd⟩:=hrel.out;clear hrel;obtain⟨ao,cap,rfl,hg,hcap,hcb⟩:=hr.shape;by_cases hlt:p<t.size
    ·exact tRParse_1
    · have hl0:decide ((p:Int)<(t.size:Int))=false:=by simp;omega
      have hpt:p=t.size:=ze
      have hall:t.data.toList.take p=t.data.toList:=xg
      rw[hall]at hv hd;have HV:=hid hv;have HD:=hid hd;have HXL:=hid (show(qL xs).length<=1300 by rw[qK];omega);have hwd:=hr.wd hx;clear hv hd hr hall hpt hp hx hxl hg;go_wp2_with fail;refine zG (rmade_c wr false ao _ cap xs _ hwd rfl) ?_;exact tRParse_3
  ):P:=h
theorem RParse_main(w:World)(s t:ByteArray)(neg:Bool)(hs:s.size<=1300)(ht:t=⟨(qX s.data.toList).toArray⟩)(hneg:neg=negOf s.data.toList)(hts:t.size<=1300)(hb:xH s.data.toList=false):
    Calls prog 116 #[.string s] w (Ret w (IsT2 (IsI 136 (xI s.data.toList)) (iV (qW s.data.toList)))):=by
  obtain⟨W,hW,K0⟩:∃W,W=w.alloc (.cells #[.bool false,.slice none 0 0] 29)/\Kq w W [(w.heap.size, [.bool false,.slice none 0 0])]:=⟨_,rfl,by simpa using(Kq.start w).alloc [.bool false,.slice none 0 0] 29⟩;have b2:=hid (K0.bx w.heap.size false none 0 0 zo);have E:=hid K0.ext;have hWs:=hid (show W.heap.size=w.heap.size+1 by rw[hW];simp);have hd0:decide (1300<s.size)=false:=jh
  obtain⟨ht5,hst⟩:=start_ok ht hneg hb;have hz1:¬t.size=0:=ze
  have hz2:¬t=ByteArray.empty:=λh=>hz1 (by rw[h];rfl)
  have hz3:((t.size:Int)==0)=false:=yi
  have HTS:=hid hts;have hbody:qX s.data.toList=t.data.toList:=by rw[ht]
  have HOK:Hid ((∀c∈t.data.toList,xX c=true)->qW s.data.toList=0/\xI s.data.toList=if neg then -(dval t.data.toList:Int)else dval t.data.toList):=hid (λh=>by
    have:=parse_ok (l:=s.data.toList) (by show s.data.size<=1300;exact hs) hb (by rw[hbody];exact h);rw[hbody,<-hneg]at this
    exact this)
  have HBAD:Hid ((∃c∈t.data.toList,xX c=false)->qW s.data.toList=3/\xI s.data.toList=0):=hid (λh=>parse_bad (l:=s.data.toList) (by show s.data.size<=1300;exact hs) (by rw[hbody];exact h));generalize qW s.data.toList=pe at*;generalize xI s.data.toList=pz at*;clear K0 hb hbody;cases neg
  · obtain⟨hts2,h0,h45⟩:=neg_no ht hneg ht5
    subst hts2;clear ht hneg;have hgd:Hid ((t[0].toNat:Int)=48->t.size=1):=hid (λh=>(hst h).1);clear hst;by_cases h48:((t[0].toNat:Int)=48)
    · have h1:=hgd.out h48
      have hd1:decide ((1:Int)<(t.size:Int))=false:=by rw[h1];rfl
      have hd2:¬((1:Int)<(t.size:Int)):=by rw[h1];omega
      have hd3:¬(1<t.size):=ze
      clear h1 hgd;go_enter func116,ntmps116;go_upto_region 1 with fail;rw[<-hW];clear hW;go_upto_region 11 with fail;obtain⟨W11,hW2⟩:∃W11,W11=W.alloc (.cells #[] 97):=⟨_,rfl⟩;have e12:Ext W W11:=by rw[hW2];exact(Ext.refl W).alloc _
      have hr0:RowOf 97 isU32 W11 (w.heap.size+1) (.slice (some ⟨W.heap.size,0,none⟩) 0 0) (qL []):=
        .inr ⟨W.heap.size,0,#[],rfl,by rw[hWs.out];omega,by rw[hW2];exact heap_alloc_new _ _,by simp[qL],by omega,rfl,by simp[qL],by simp⟩
      have I0:=hid (show RpO w t t.size (.slice (some ⟨W.heap.size,0,none⟩) 0 0) (.int .i64 0) W11 from⟨[],0,rfl,by omega,hr0,by simp[qF,dval],by simp,by simp,b2.out.ext e12,E.out.trans e12,by simp⟩);rw[<-hW2];clear hW2 e12 hr0 hz1 hz2 hz3 h48 h45 hd1 hd2 hd3;exact tRParse_2
    · clear hgd
      go_enter func116,ntmps116;go_upto_region 1 with fail;rw[<-hW];clear hW;go_upto_region 11 with fail;obtain⟨W11,hW2⟩:∃W11,W11=W.alloc (.cells #[] 97):=⟨_,rfl⟩;have e12:Ext W W11:=by rw[hW2];exact(Ext.refl W).alloc _
      have hr0:RowOf 97 isU32 W11 (w.heap.size+1) (.slice (some ⟨W.heap.size,0,none⟩) 0 0) (qL []):=
        .inr ⟨W.heap.size,0,#[],rfl,by rw[hWs.out];omega,by rw[hW2];exact heap_alloc_new _ _,by simp[qL],by omega,rfl,by simp[qL],by simp⟩
      have I0:=hid (show RpO w t t.size (.slice (some ⟨W.heap.size,0,none⟩) 0 0) (.int .i64 0) W11 from⟨[],0,rfl,by omega,hr0,by simp[qF,dval],by simp,by simp,b2.out.ext e12,E.out.trans e12,by simp⟩);rw[<-hW2];clear hW2 e12 hr0 hz1 hz2 hz3 h48 h45;try clear hext
      exact tRParse_2
  · obtain ⟨h0,h45,hext⟩:=neg_yes ht hneg
    clear ht hneg;have h48:¬((t[0].toNat:Int)=48):=λh=>absurd (hst h).2 dcx
    clear hst
    · go_enter func116,ntmps116
      go_upto_region 1 with fail;rw[<-hW];clear hW;go_upto_region 11 with fail;obtain⟨W11,hW2⟩:∃W11,W11=W.alloc (.cells #[] 97):=⟨_,rfl⟩;have e12:Ext W W11:=by rw[hW2];exact(Ext.refl W).alloc _
      have hr0:RowOf 97 isU32 W11 (w.heap.size+1) (.slice (some ⟨W.heap.size,0,none⟩) 0 0) (qL []):=
        .inr ⟨W.heap.size,0,#[],rfl,by rw[hWs.out];omega,by rw[hW2];exact heap_alloc_new _ _,by simp[qL],by omega,rfl,by simp[qL],by simp⟩
      have I0:=hid (show RpO w t t.size (.slice (some ⟨W.heap.size,0,none⟩) 0 0) (.int .i64 0) W11 from⟨[],0,rfl,by omega,hr0,by simp[qF,dval],by simp,by simp,b2.out.ext e12,E.out.trans e12,by simp⟩);rw[<-hW2];clear hW2 e12 hr0 hz1 hz2 hz3 h48 h45;try clear hext
      go_loopg [6,7] t.size (λgk v6 v7 wr=>Hid (RpO w t gk v6 v7 wr))
      case atStart=>exact I0
      case round=>
        clear I0;obtain⟨xs,p,rfl,hp,hr,hv,hxl,hx,b1,E,hd⟩:=hrel.out;clear hrel;obtain⟨ao,cap,rfl,hg,hcap,hcb⟩:=hr.shape;by_cases hlt:p<t.size
        ·exact tRParse_1
        · have hl0:decide ((p:Int)<(t.size:Int))=false:=by simp;omega
          have hpt:p=t.size:=ze
          have hall:t.data.toList.take p=t.data.toList:=xg
          rw[hall]at hv hd;have HV:=hid hv;have HD:=hid hd;have HXL:=hid (show(qL xs).length<=1300 by rw[qK];omega);have hwd:=hr.wd hx;clear hv hd hr hall hpt hp hx hxl hg;go_wp2_with fail;refine zG (rmade_c wr true ao _ cap xs _ hwd rfl) ?_;exact tRParse_3
theorem RParse_long(w:World)(s:ByteArray)(hs:1300<s.size):
    Calls prog 116 #[.string s] w (Ret w (IsT2 (IsI 136 (xI s.data.toList)) (iV (qW s.data.toList)))):=by
  have hok:=hid (parse_long (l:=s.data.toList) (by show 1300<s.data.size;exact hs));have hd0:decide ((1300:Int)<(s.size:Int))=true:=jh
  clear hs;go_enter func116,ntmps116;go_wp2_with fail;refine zH (v:=.tuple #[.agg #[.bool false,.slice none 0 0],.int .i64 2]) (by simp[results,results116,go_sem]) rfl ⟨_,rfl,(Ext.refl w).alloc _,_,_,rfl,⟨false,none,0,0,rfl,?_⟩,?_⟩
  · rw[hok.out.2]
    exact IntAt.zero.mono ze
  · show _=Value.int .i64 (qW s.data.toList)
    rw[hok.out.1]
theorem tRParse_4{P:Prop}(h:P:=by
  go_enter func116,ntmps116;go_wp2_with fail;refine zH (v:=.tuple #[.agg #[.bool false,.slice none 0 0],.int .i64 3]) (by simp[results,results116,go_sem]) rfl ⟨_,rfl,(Ext.refl w).alloc _,_,_,rfl,⟨false,none,0,0,rfl,(by rw[hok.out.2];exact IntAt.zero.mono ze)⟩,(by show _=Value.int .i64 _;rw[hok.out.1])⟩
  ):P:=h
theorem RParse_start(w:World)(s t:ByteArray)(neg:Bool)(hs:s.size<=1300)(ht:t=⟨(qX s.data.toList).toArray⟩)(hneg:neg=negOf s.data.toList)(hb:xH s.data.toList=true):
    Calls prog 116 #[.string s] w (Ret w (IsT2 (IsI 136 (xI s.data.toList)) (iV (qW s.data.toList)))):=by
  have hok:=hid (parse_start (l:=s.data.toList) (by show s.data.size<=1300;exact hs) hb);have hbody:qX s.data.toList=t.data.toList:=by rw[ht]
  have hd0:decide (1300<s.size)=false:=jh
  have hb0:=hb;rw[xH,hbody]at hb;generalize qW s.data.toList=pe at*;generalize xI s.data.toList=pz at*
  have hor:t.size=0\/∃h:0<t.size,(t[0].toNat:Int)=48/\¬s.data.toList= [48]:=by
    rcases zK t.size with h|h
    ·exact .inl h
    · right
      have hne:t.data.toList.isEmpty=false:=by
        rw[Bool.eq_false_iff];intro h9;have h8:t.data.toList.length=0:=by rw[List.isEmpty_iff.1 h9];rfl
        have:t.size=t.data.toList.length:=rfl;omega
      rw[hne,Bool.false_or,Bool.and_eq_true,head_at t h]at hb;refine⟨h,by rw[beq_iff_eq.1 hb.1];rfl,?_⟩;have:=of_decide_eq_true hb.2
      simpa using this
  cases neg
  · rcases hor with h0| ⟨h0,h48,hns⟩
    · have hs0:s.size=0:=by
        have h1:t=s:=by
          rw[ht,qX,Lib.trimPrefix,if_neg (by rw[show Lib.hasPrefix s.data.toList [45]=false from hneg.symm];decide)]
        rw[<-h1];exact h0
      obtain rfl:s=⟨#[]⟩:=by
        cases s with|mk a=>cases a with|mk l=>
          have h2:l.length=0:=hs0;rw[List.eq_nil_of_length_eq_zero h2]
      clear ht hneg hb hb0 hbody hd0 h0 hs0;exact tRParse_4
    · obtain⟨hts,h5,h45⟩:=neg_no ht hneg h0
      subst hts
      have h1:¬t.size=1:=by
        intro h;apply hns;have h9:t.data.toList.length=1:=h;obtain⟨c,hc⟩:=List.length_eq_one_iff.1 h9;have h8:=head_at t h0;rw[hc]at h8 ⊢;have h7:t[0]=48:=UInt8.toNat_inj.1 (by show t[0].toNat=48;omega);rw[h7]at h8;exact congrArg (λx=> [x]) h8
      have hz1:¬t.size=0:=ze
      have hz2:¬t=ByteArray.empty:=λh=>hz1 (by rw[h];rfl)
      have hz3:((t.size:Int)==0)=false:=yi
      have hd1:decide ((1:Int)<(t.size:Int))=true:=jh
      have hd2:((1:Int)<(t.size:Int)):=ze
      have hd3:(1<t.size):=ze
      clear ht hneg hb hb0 hbody hns h1;exact tRParse_4
  · obtain ⟨h0,h45,hext⟩:=neg_yes ht hneg
    clear ht hneg hb hb0 hbody;rcases hor with ht0| ⟨ht0,h48,_⟩
    · obtain rfl:t=⟨#[]⟩:=by
        cases t with|mk a=>cases a with|mk l=>
          have h2:l.length=0:=ht0;rw[List.eq_nil_of_length_eq_zero h2]
      exact tRParse_4
    · have hz1:¬t.size=0:=by omega
      have hz2:¬t=ByteArray.empty:=λh=>hz1 (by rw[h];rfl)
      have hz3:((t.size:Int)==0)=false:=yi
      go_enter func116,ntmps116;go_wp2_with fail
      all_goals (refine zH (v:=.tuple #[.agg #[.bool false,.slice none 0 0],.int .i64 3]) (by simp[results,results116,go_sem]) rfl ⟨_,rfl,(Ext.refl w).alloc _,_,_,rfl,⟨false,none,0,0,rfl,(by rw[hok.out.2];exact IntAt.zero.mono ze)⟩,(by show _=Value.int .i64 _;rw[hok.out.1])⟩)
theorem RParse_f(w:World)(s:ByteArray):
    Calls prog 116 #[.string s] w (Ret w (IsT2 (IsI 136 (xI s.data.toList)) (iV (qW s.data.toList)))):=by
  by_cases hs:s.size<=1300
  · cases hb:xH s.data.toList
    · refine RParse_main w s _ _ hs rfl rfl ?_ hb
      show(qX s.data.toList).toArray.size<=1300
      have h1:(qX s.data.toList).length<=s.data.toList.length:=by
        rw[qX,Lib.trimPrefix]
        split <;> simp
      have h2:s.data.toList.length=s.size:=rfl;simp;omega
    ·exact RParse_start w s _ _ hs rfl rfl hb
  ·exact RParse_long w s ze
end Go.Proofs.YtenhciieboegbaaGreatDoor
