/-
  Package notebook: the checks of cells, variables, values of entries. (Printed by wip/gen/njc.py.)
  Package notebook: the check of numbers. (Printed by wip/gen/njc.py.)
  Package notebook: scopes grow; the check of counts and searches.
-/
import Derived.Test.YtenhciieboegbaaGreatDoorNjb
import Derived.ArgAppend
namespace Go.Proofs.YtenhciieboegbaaGreatDoor
open Go Go.RowKit
open Go.Proofs.Tryz
theorem ya{P:Prop}(h:P:=by rw[<-hzz];apply decide_eq_decide.2;rw[<-hz];simp[and_assoc]):P:=h
theorem xl{P:Prop}(h:P:=by rw[qB,hsb]):P:=h
set_option maxRecDepth 100000
set_option maxHeartbeats 4000000
theorem leaf_ok{b:Sc}{x:Nd}(h:x.op=2\/x.op=11\/x.op=3\/x.op=1):inS b x=b/\
    (x.op=2->okN b x=(qT x.nm&& !b.contains x.nm&&decide (x.n=0/\x.lo=0/\x.hi=0/\x.v=0/\x.ps.length=0)))/\
    (x.op=11->okN b x=(qT x.nm&&b.contains x.nm&&decide (x.n=0/\x.lo=0/\x.hi=0/\x.v=0/\x.ps.length=0)))/\
    (x.op=3->okN b x=(patB b x.nm&&decide (0<=x.n)&&decide (x.n<=63)&&decide (x.lo=0/\x.hi=0/\x.v=0/\x.ps.length=0)))/\
    (x.op=1->okN b x=(decide (x.v.natAbs<2^256)&&decide (x.nm= []/\x.n=0/\x.lo=0/\x.hi=0/\x.ps.length=0))):=by
  have hb:qZ x.op=false:=by rcases h with h|h|h|h <;> rw[h] <;> rfl
  refine⟨by rw[inS,hb];rfl,λe=>?_,λe=>?_,λe=>?_,λe=>?_⟩
  all_goals
    unfold okN okF;rw[e];simp only[Bool.decide_and,Bool.and_assoc];simp
theorem check2_f{b:Sc}{x:Nd}{us:List Value}{v:Value}{w:World}(hv:IsSc 0 b v w)(hb:b.length<=4611686018427387904)(hx:NdC 0 w x us)(hl:x.nm.length<=4611686018427387904)(hop:x.op=2):Calls prog 101 #[v,.agg us.toArray] w (CkP b x w):=by
  obtain⟨h2,h1⟩:=leaf_ok (b:=b) (x:=x) ze;obtain⟨r,hr⟩:∃r,okN b x=r:=⟨_,rfl⟩;unfold CkP;rw[hr,h2];obtain⟨s,a,m,c,ao,cp,rfl,hI,-,-,-⟩:=hx.out;have hz:=hI.zr;have hr2:=h1.1 hop;rw[hr]at hr2;obtain⟨z,hzz⟩:∃z,decide (x.n=0/\x.lo=0/\x.hi=0/\x.v=0/\x.ps.length=0)=z:=⟨_,rfl⟩;have hp:decide (x.nm=x.nm/\x.n=0/\x.lo=0/\x.hi=0/\m=0/\s=false/\x.ps.length=0)=z:=ya
  rw[hzz]at hr2;clear h1 h2 hr hI hx hop hz hzz;generalize x.op=op at*;generalize x.nm=nm at*;generalize x.n=n at*;generalize x.lo=lo at*;generalize x.hi=hi at*;generalize x.ps.length=l at*;have hN:=λw=>isName_f vlsC nm w hl
  have hC:=λw' (e:Ext w w')=>containsS_f ((hv.sr).ext e) nm hb
  obtain⟨p1,hp1⟩:∃q,qT nm=q:=⟨_,rfl⟩;obtain⟨p2,hp2⟩:∃q,b.contains nm=q:=⟨_,rfl⟩;rw[hp1,hp2]at hr2;obtain⟨sb,hsb⟩:∃y,(⟨nm.toArray⟩:ByteArray)=y:=⟨_,rfl⟩;have hx1:qB nm=.string sb:=xl
  have hP:∀w:World,Calls prog 100 #[.agg #[.int .i64 op,qB nm,.int .i64 n,.bool s,.slice a m c,.int .i64 lo,.int .i64 hi,.slice ao l cp],.agg #[.int .i64 0,qB nm,.int .i64 0,.bool false,.slice none 0 0,.int .i64 0,.int .i64 0,.slice none 0 0]] w (RVal w (.bool z)):=λw=>by rw[<-hp];exact plain_f
  simp only[hp1,hp2,hx1]at hN hC hP;have HN:=hid hN;have HC:=hid hC;have HP:=hid hP;have HV:=hid hv;have HR:=hid hr2;rw[hx1];clear hr2 hv hN hC hP hx1 hsb hp hp1 hp2 hl hb
  obtain⟨W,hW,E,B⟩:∃W,W=w.alloc (.cells #[.int .i64 op,.string sb,.int .i64 n,.bool s,.slice a m c,.int .i64 lo,.int .i64 hi,.slice ao l cp] 32)/\Ext w W/\Bk W w.heap.size [.int .i64 op,.string sb,.int .i64 n,.bool s,.slice a m c,.int .i64 lo,.int .i64 hi,.slice ao l cp]:=
    ⟨_,rfl,(Ext.refl w).alloc _,Bk.new w _ _⟩
  have B0:=hid B;have E0:=hid E;clear B E;cases p1
  all_goals cases p2
  all_goals
    go_enter func101,ntmps101;go_upto_region 1 with fail;rw[<-hW];clear hW;have B:=B0.out;have c1:=B.c 1 _ rfl
    go_wp2_with (first
      | (go_at_call 32;refine zG (HN.out _) ?_;rintro e w1 ⟨rfl,e1⟩;have B1:=B.ext e1;have c0:=B1.c 0 _ rfl;have c1:=B1.c 1 _ rfl;have c2:=B1.c 2 _ rfl;have c3:=B1.c 3 _ rfl;have c4:=B1.c 4 _ rfl;have c5:=B1.c 5 _ rfl;have c6:=B1.c 6 _ rfl;have c7:=B1.c 7 _ rfl)
      | (go_at_call 102;refine zG (HC.out _ (E0.out.trans e1)) ?_;rintro e w2 ⟨rfl,rfl⟩)
      | (go_at_call 100;go_must (refine zG (HP.out _) ?_);rintro e w3 ⟨rfl,e3⟩))
    all_goals first
      | (go_ret2;exact⟨(E0.out.trans e1).trans e3,v,by rw[HR.out];rfl,λ_=>HV.out.ext ((E0.out.trans e1).trans e3)⟩)
      | (go_ret2;exact⟨E0.out.trans e1,v,by rw[HR.out];rfl,λ_=>HV.out.ext (E0.out.trans e1)⟩)
theorem check3_f{b:Sc}{x:Nd}{us:List Value}{v:Value}{w:World}(hv:IsSc 0 b v w)(hb:b.length<=4611686018427387904)(hx:NdC 0 w x us)(hl:x.nm.length<=4611686018427387904)(hop:x.op=11):Calls prog 103 #[v,.agg us.toArray] w (CkP b x w):=by
  obtain⟨h2,h1⟩:=leaf_ok (b:=b) (x:=x) ze;obtain⟨r,hr⟩:∃r,okN b x=r:=⟨_,rfl⟩;unfold CkP;rw[hr,h2];obtain⟨s,a,m,c,ao,cp,rfl,hI,-,-,-⟩:=hx.out;have hz:=hI.zr;have hr2:=h1.2.1 hop;rw[hr]at hr2;obtain⟨z,hzz⟩:∃z,decide (x.n=0/\x.lo=0/\x.hi=0/\x.v=0/\x.ps.length=0)=z:=⟨_,rfl⟩;have hp:decide (x.nm=x.nm/\x.n=0/\x.lo=0/\x.hi=0/\m=0/\s=false/\x.ps.length=0)=z:=ya
  rw[hzz]at hr2;clear h1 h2 hr hI hx hop hz hzz;generalize x.op=op at*;generalize x.nm=nm at*;generalize x.n=n at*;generalize x.lo=lo at*;generalize x.hi=hi at*;generalize x.ps.length=l at*;have hN:=λw=>isName_f vlsC nm w hl
  have hC:=λw' (e:Ext w w')=>containsS_f ((hv.sr).ext e) nm hb
  obtain⟨p1,hp1⟩:∃q,qT nm=q:=⟨_,rfl⟩;obtain⟨p2,hp2⟩:∃q,b.contains nm=q:=⟨_,rfl⟩;rw[hp1,hp2]at hr2;obtain⟨sb,hsb⟩:∃y,(⟨nm.toArray⟩:ByteArray)=y:=⟨_,rfl⟩;have hx1:qB nm=.string sb:=xl
  have hP:∀w:World,Calls prog 100 #[.agg #[.int .i64 op,qB nm,.int .i64 n,.bool s,.slice a m c,.int .i64 lo,.int .i64 hi,.slice ao l cp],.agg #[.int .i64 0,qB nm,.int .i64 0,.bool false,.slice none 0 0,.int .i64 0,.int .i64 0,.slice none 0 0]] w (RVal w (.bool z)):=λw=>by rw[<-hp];exact plain_f
  simp only[hp1,hp2,hx1]at hN hC hP;have HN:=hid hN;have HC:=hid hC;have HP:=hid hP;have HV:=hid hv;have HR:=hid hr2;rw[hx1];clear hr2 hv hN hC hP hx1 hsb hp hp1 hp2 hl hb
  obtain⟨W,hW,E,B⟩:∃W,W=w.alloc (.cells #[.int .i64 op,.string sb,.int .i64 n,.bool s,.slice a m c,.int .i64 lo,.int .i64 hi,.slice ao l cp] 32)/\Ext w W/\Bk W w.heap.size [.int .i64 op,.string sb,.int .i64 n,.bool s,.slice a m c,.int .i64 lo,.int .i64 hi,.slice ao l cp]:=
    ⟨_,rfl,(Ext.refl w).alloc _,Bk.new w _ _⟩
  have B0:=hid B;have E0:=hid E;clear B E;cases p1
  all_goals cases p2
  all_goals
    go_enter func103,ntmps103;go_upto_region 1 with fail;rw[<-hW];clear hW;have B:=B0.out;have c1:=B.c 1 _ rfl
    go_wp2_with (first
      | (go_at_call 32;refine zG (HN.out _) ?_;rintro e w1 ⟨rfl,e1⟩;have B1:=B.ext e1;have c0:=B1.c 0 _ rfl;have c1:=B1.c 1 _ rfl;have c2:=B1.c 2 _ rfl;have c3:=B1.c 3 _ rfl;have c4:=B1.c 4 _ rfl;have c5:=B1.c 5 _ rfl;have c6:=B1.c 6 _ rfl;have c7:=B1.c 7 _ rfl)
      | (go_at_call 102;refine zG (HC.out _ (E0.out.trans e1)) ?_;rintro e w2 ⟨rfl,rfl⟩)
      | (go_at_call 100;go_must (refine zG (HP.out _) ?_);rintro e w3 ⟨rfl,e3⟩))
    all_goals first
      | (go_ret2;exact⟨(E0.out.trans e1).trans e3,v,by rw[HR.out];rfl,λ_=>HV.out.ext ((E0.out.trans e1).trans e3)⟩)
      | (go_ret2;exact⟨E0.out.trans e1,v,by rw[HR.out];rfl,λ_=>HV.out.ext (E0.out.trans e1)⟩)
theorem check4_f{b:Sc}{x:Nd}{us:List Value}{v:Value}{w:World}(hv:IsSc 0 b v w)(hb:b.length<=4611686018427387904)(hx:NdC 0 w x us)(hl:x.nm.length<=4611686018427387904)(hop:x.op=3):Calls prog 104 #[v,.agg us.toArray] w (CkP b x w):=by
  obtain⟨h2,h1⟩:=leaf_ok (b:=b) (x:=x) ze;obtain⟨r,hr⟩:∃r,okN b x=r:=⟨_,rfl⟩;unfold CkP;rw[hr,h2];obtain⟨s,a,m,c,ao,cp,rfl,hI,-,-,-⟩:=hx.out;have hz:=hI.zr;have hr2:=h1.2.2.1 hop;rw[hr]at hr2;obtain⟨z,hzz⟩:∃z,decide (x.lo=0/\x.hi=0/\x.v=0/\x.ps.length=0)=z:=⟨_,rfl⟩;have hp:decide (x.nm=x.nm/\x.n=x.n/\x.lo=0/\x.hi=0/\m=0/\s=false/\x.ps.length=0)=z:=ya
  rw[hzz]at hr2;clear h1 h2 hr hI hx hop hz hzz;generalize x.op=op at*;generalize x.nm=nm at*;generalize x.n=n at*;generalize x.lo=lo at*;generalize x.hi=hi at*;generalize x.ps.length=l at*;have hN:=λw' (e:Ext w w')=>pattern_f ((hv.sr).ext e) hb nm hl
  obtain⟨p1,hp1⟩:∃q,patB b nm=q:=⟨_,rfl⟩;rw[hp1]at hr2;obtain⟨sb,hsb⟩:∃y,(⟨nm.toArray⟩:ByteArray)=y:=⟨_,rfl⟩;have hx1:qB nm=.string sb:=xl
  have hP:∀w:World,Calls prog 100 #[.agg #[.int .i64 op,qB nm,.int .i64 n,.bool s,.slice a m c,.int .i64 lo,.int .i64 hi,.slice ao l cp],.agg #[.int .i64 0,qB nm,.int .i64 n,.bool false,.slice none 0 0,.int .i64 0,.int .i64 0,.slice none 0 0]] w (RVal w (.bool z)):=λw=>by rw[<-hp];exact plain_f
  simp only[hp1,hx1]at hN hP;have HN:=hid hN;have HP:=hid hP;have HV:=hid hv;have HR:=hid hr2;rw[hx1];clear hr2 hv hN hP hx1 hsb hp hp1 hl hb
  obtain⟨W,hW,E,B⟩:∃W,W=w.alloc (.cells #[.int .i64 op,.string sb,.int .i64 n,.bool s,.slice a m c,.int .i64 lo,.int .i64 hi,.slice ao l cp] 32)/\Ext w W/\Bk W w.heap.size [.int .i64 op,.string sb,.int .i64 n,.bool s,.slice a m c,.int .i64 lo,.int .i64 hi,.slice ao l cp]:=
    ⟨_,rfl,(Ext.refl w).alloc _,Bk.new w _ _⟩
  have B0:=hid B;have E0:=hid E;clear B E;cases p1
  all_goals
    go_enter func104,ntmps104;go_upto_region 1 with fail;rw[<-hW];clear hW;have B:=B0.out;have c1:=B.c 1 _ rfl
    go_wp2_with (first
      | (go_at_call 105;refine zG (HN.out _ E0.out) ?_;rintro e w1 ⟨rfl,e1⟩;have B1:=B.ext e1;have c0:=B1.c 0 _ rfl;have c1:=B1.c 1 _ rfl;have c2:=B1.c 2 _ rfl;have c3:=B1.c 3 _ rfl;have c4:=B1.c 4 _ rfl;have c5:=B1.c 5 _ rfl;have c6:=B1.c 6 _ rfl;have c7:=B1.c 7 _ rfl)
      | (go_at_call 100;go_must (refine zG (HP.out _) ?_);rintro e w3 ⟨rfl,e3⟩))
    all_goals first
      | (go_ret2;exact⟨(E0.out.trans e1).trans e3,v,by rw[HR.out];by_cases q1:0<=n <;> by_cases q2:n<=63 <;> first| (exfalso;omega)| (simp[q1,q2]),λ_=>HV.out.ext ((E0.out.trans e1).trans e3)⟩)
      | (go_ret2;exact⟨E0.out.trans e1,v,by rw[HR.out];by_cases q1:0<=n <;> by_cases q2:n<=63 <;> first| (exfalso;omega)| (simp[q1,q2]),λ_=>HV.out.ext (E0.out.trans e1)⟩)
theorem IsI.top{k:Nat}{z:Int}{s:Bool}{a:Option Addr}{m c:Nat}{w:World}(h:IsI k z (.agg #[.bool s,.slice a m c]) w):(m=0->s=false)/\m<=k/\(m≠0->∃g o x:Nat,a=some ⟨g,o,none⟩/\x≠0/\World.cell? w ⟨g,o+(m-1),none⟩=some (.int .u32 (x:Int))):=by
  obtain⟨s',a',m',c',e,hI⟩:=h;simp only[Value.agg.injEq,Array.mk.injEq,List.cons.injEq,Value.bool.injEq,Value.slice.injEq,and_true]at e;obtain⟨rfl,rfl,rfl,rfl⟩:=e;obtain⟨q,⟨xs,h1,h2,h3,h4⟩,h5,h6⟩:=hI;refine⟨h5,h2,λhm=>?_⟩;rcases h1.at_ with h7| ⟨b,off,h7,h8,h9⟩
  ·omega
  ·exact⟨b,off,xs.getD (m-1) 0,h7,h3 ze,h9 (m-1) ze⟩
theorem bits_256(n:Nat):(((bitLen n:Nat):Int)<=256)↔n<2^256:=by
  rcases zK n with h|h
  ·subst h;simp[bitLen]
  · obtain⟨k,h1,h2,h3⟩:=bitLen_bounds n ze
    rw[h1];constructor
    · intro h4
      exact Nat.lt_of_lt_of_le h3 (Nat.pow_le_pow_right dcx ze)
    · intro h4
      have:=(Nat.pow_lt_pow_iff_right (by decide:1<2)).1 (Nat.lt_of_le_of_lt h2 h4);omega
theorem tNjw_1{P:Prop}(h:P:=by
  have B1:=B.ext e1;have HE1:=hid (E0.out.trans e1);have c3:=B1.c 3 _ rfl;have c4:=B1.c 4 _ rfl;have f3:=B1.f 3;have f4:=B1.f 4;go_upto_region 4 with fail;obtain⟨W4,hW2⟩:∃W4,(w1.setCell ⟨w.heap.size,3,none⟩ (.bool false)).setCell ⟨w.heap.size,4,none⟩ (.slice none 0 0)=W4:=⟨_,rfl⟩;obtain⟨O1,B2⟩:=B1.setO 3 zo (.bool false) (nwNd _ (List.getElem_mem _));obtain⟨O2,B3⟩:=B2.setO 4 zo (.slice none 0 0) (nwNd _ (List.getElem_mem _));rw[hW2]at O2 B3 ⊢;have HE2:=hid (O2.ext (O1.ext HE1.out (zN _)) (zN _));simp only[List.set_cons_succ,List.set_cons_zero]at B3;clear hW2 O1 O2 B2 c3 c4 f3 f4 B1;have c0:=B3.c 0 _ rfl;have c1:=B3.c 1 _ rfl;have c2:=B3.c 2 _ rfl;have c3:=B3.c 3 _ rfl;have c4:=B3.c 4 _ rfl;have c5:=B3.c 5 _ rfl;have c6:=B3.c 6 _ rfl;have c7:=B3.c 7 _ rfl;clear B3;by_cases hbl:bl<=256
  · have hd:decide (bl<=256)=true:=decide_eq_true hbl
    rw[hd];have HR2:=hid (show r=z by rw[HR.out,hd];rfl);clear hd hbl;go_wp2_with (go_at_call 100;go_must (refine zG (HP.out _) ?_);rintro e w3 ⟨rfl,e3⟩)
    go_ret2
    exact⟨HE2.out.trans e3,v,by rw[HR2.out];rfl,λ_=>HV.out.ext (HE2.out.trans e3)⟩
  · have hd:decide (bl<=256)=false:=decide_eq_false hbl
    rw[hd];have HR2:=hid (show r=false by rw[HR.out,hd];rfl);clear hd hbl;go_wp2_with fail
    go_ret2
    exact⟨HE2.out,v,by rw[HR2.out];rfl,λ_=>HV.out.ext HE2.out⟩
  ):P:=h
theorem check1_f{b:Sc}{x:Nd}{us:List Value}{v:Value}{w:World}(hv:IsSc 0 b v w)(_hb:b.length<=4611686018427387904)(hx:NdC 0 w x us)(_hl:x.nm.length<=4611686018427387904)(hop:x.op=1):Calls prog 98 #[v,.agg us.toArray] w (CkP b x w):=by
  obtain⟨h2,h1⟩:=leaf_ok (b:=b) (x:=x) ze;obtain⟨r,hr⟩:∃r,okN b x=r:=⟨_,rfl⟩;unfold CkP;rw[hr,h2];obtain⟨s,a,m,c,ao,cp,rfl,hI,-,-,-⟩:=hx.out;have hz:=hI.zr;have hr2:=h1.2.2.2 hop;rw[hr]at hr2;obtain⟨z,hzz⟩:∃z,decide (x.nm= []/\x.n=0/\x.lo=0/\x.hi=0/\x.ps.length=0)=z:=⟨_,rfl⟩;have ht:=hI.top;obtain⟨bl,hbl⟩:∃q,((bitLen x.v.natAbs:Nat):Int)=q:=⟨_,rfl⟩;have hB:=λw' (e:Ext w w')=>Bits_f (hI.ext e) dcx
  have hq:decide (x.v.natAbs<2^256)=decide (bl<=256):=by rw[<-hbl];apply decide_eq_decide.2;exact(bits_256 _).symm
  simp only[hbl]at hB;rw[hzz,hq]at hr2;clear h1 h2 hr hI hx hop hz hq hbl;generalize x.op=op at*;generalize x.nm=nm at*;generalize x.n=n at*;generalize x.lo=lo at*;generalize x.hi=hi at*;generalize x.ps.length=l at*;obtain⟨sb,hsb⟩:∃y,(⟨nm.toArray⟩:ByteArray)=y:=⟨_,rfl⟩;have hx1:qB nm=.string sb:=xl
  have hP:∀w:World,Calls prog 100 #[.agg #[.int .i64 op,qB nm,.int .i64 n,.bool false,.slice none 0 0,.int .i64 lo,.int .i64 hi,.slice ao l cp],.agg #[.int .i64 0,qB [],.int .i64 0,.bool false,.slice none 0 0,.int .i64 0,.int .i64 0,.slice none 0 0]] w (RVal w (.bool z)):=λw=>by
    have:=plain_f (w:=w) (op:=op) (n:=n) (lo:=lo) (hi:=hi) (op':=0) (n':=0) (lo':=0) (hi':=0) (nm:=nm) (nm':= []) (s:=false) (a:=none) (m:=0) (c:=0) (ao:=ao) (ao':=none) (la:=l) (cp:=cp) (la':=0) (cp':=0);rw[<-hzz]
    simpa [and_assoc]using this
  rw[show qB []=.string ⟨#[]⟩from rfl]at hP;simp only[hx1]at hP;have HB:=hid hB;have HP:=hid hP;have HV:=hid hv;have HR:=hid hr2;rw[hx1];clear hr2 hv hP hx1 hsb hB hzz
  obtain⟨W,hW,E,B⟩:∃W,W=w.alloc (.cells #[.int .i64 op,.string sb,.int .i64 n,.bool s,.slice a m c,.int .i64 lo,.int .i64 hi,.slice ao l cp] 32)/\Ext w W/\Bk W w.heap.size [.int .i64 op,.string sb,.int .i64 n,.bool s,.slice a m c,.int .i64 lo,.int .i64 hi,.slice ao l cp]:=
    ⟨_,rfl,(Ext.refl w).alloc _,Bk.new w _ _⟩
  have B0:=hid B;have E0:=hid E;have HT:=hid ht;clear B E ht;by_cases hm:m=0
  · subst hm
    obtain rfl:=HT.out.1 rfl;go_enter func98,ntmps98;go_upto_region 1 with fail;rw[<-hW];clear hW HT;have B:=B0.out;have c3:=B.c 3 _ rfl;have c4:=B.c 4 _ rfl;go_upto_region 3 with(go_at_call 99;refine zG (HB.out _ E0.out) ?_;rintro e w1 ⟨y,rfl,e1,rfl⟩);clear c3 c4;exact tNjw_1
  · obtain⟨g2,o2,xt,rfl,hx0,hxc⟩:=HT.out.2.2 hm
    have hxc:=E0.out.cell hxc;have hmk:=HT.out.2.1;have hm1:IntKind.i64.wrap ((m:Int)-1)=((m-1:Nat):Int):=zh
    have hm2:(0:Int)<(m:Int):=ze
    have hm3:((m:Int)==0)=false:=by simp only[zJ];omega
    have hm4:((m-1:Nat):Int)<(m:Int):=ze
    have hx1:((xt:Int) !=0)=true:=by simp only[bne_iff_ne];omega
    have hx3:¬((xt:Int)=0):=ze
    go_enter func98,ntmps98;go_upto_region 1 with fail;rw[<-hW];clear hW HT hm hx0 hmk;have B:=B0.out;have c3:=B.c 3 _ rfl;have c4:=B.c 4 _ rfl;go_upto_region 3 with(go_at_call 99;refine zG (HB.out _ E0.out) ?_;rintro e w1 ⟨y,rfl,e1,rfl⟩);clear c3 c4 hxc hm1 hm2 hm3 hm4 hx1 hx3;exact tNjw_1
theorem apS_run{B:Nat}{b:Sc}{ao:Option Addr}{s:List UInt8}{g:Nat}{ty:TypeId}{w:World}(hS:IsSc B b (.slice ao b.length b.length) w)(hl:b.length<=1000000)(c0:World.cell? w ⟨g,0,none⟩=some (qB s)):
    ∃v' w',(Builtin.append_ #[104,104] ty #[.slice ao b.length b.length,.slice (some ⟨g,0,none⟩) 1 1]).run prog w=.ok v' w'/\Ext w w'/\IsSc w.heap.size (b++ [s]) v' w':=by
  obtain⟨i,hi,hz0,hz1,hz2⟩:=info_parts (P:=prog) (e:=9) (z:=.string ⟨#[]⟩) (size:=1) (bytes:=16) zc;have ht:prog.underlying 104=some (.slice 9):=zc
  have hnews:∀j u, [qB s][j]? =some u->World.cell? w ((⟨g,0,none⟩:Addr).add j)=some u:=by
    intro j u hj;rcases j with _|j
    · obtain rfl:qB s=u:=by simpa using hj
      simpa [Addr.add]using c0
    ·simp at hj
  have key:∃ v' w',(Builtin.append_ #[104,104] ty #[.slice ao b.length b.length,.slice (some ⟨g,0,none⟩) 1 1]).run prog w=.ok v' w'/\w'.ownsRow w.heap.size 9 1 v' (b.length+1) (b.map qB++ [qB s])/\w.grownBy w' none:=by
    obtain⟨ao',cp,e1,_,_,e4,e5⟩:=hS;injection e1 with e1 _ e3;subst e1;cases b with
    | nil=>
      obtain⟨rfl,_⟩:=e4 rfl;obtain⟨v',w',hrun,r1,r2,_⟩:=run_append_own (P:=prog) w w.heap.size 104 ty 9 i _ 1 16 ht hi hz0 hz1 hz2 zab dcx (.slice none 0 0) 0 [] (World.ownsRow_nil w _ _ _) ⟨g,0,none⟩ 1 1 [qB s] rfl hnews (by simp[Value.oneCell',qB]) dcx dcx (zN _);exact⟨v',w',hrun,r1,r2⟩
    | cons p t=>
      obtain⟨g',rfl,_,_,hc⟩:=e5 zo
      obtain ⟨v',w',hrun,r1,r2⟩:=run_append_arg_grows (P:=prog) w 104 ty 9 i _ 1 16 ht hi hz0 hz1 hz2 zab dcx ⟨g',0,none⟩ (p ::t).length (p ::t).length ((p ::t).map qB) zo (λj u hj=>by
          rw[List.getElem?_map]at hj;cases hp:(p ::t)[j]? with
          |none=>rw[hp]at hj;cases hj
          | some y=>
            rw[hp]at hj;obtain rfl:qB y=u:=ja
            rw[Addr.add_lit,Nat.zero_add];exact hc j y hp) ⟨g,0,none⟩ 1 1 [qB s] rfl hnews ze (by unfold maxLen;omega) ze
      exact⟨v',w',hrun,r1,r2⟩
  obtain⟨v',w',hrun,r1,r2⟩:=key;refine⟨v',w',hrun,ext_of_grown r2,?_⟩;obtain⟨ao2,cp,hv,hn,hc,hl2,hcells⟩:=Rwg.shape (e:=9) (k:=1) r1;refine⟨ao2,cp,by rw[hv,zQ];rfl,by rw[zQ];simpa using hn,hc,λhe=>by simp at he,λ_=>?_⟩;obtain⟨g2,q1,q2,q3,q4⟩:=hcells zo;refine⟨g2,q1,q2,q3,λj y hj=>q4 j _ ?_⟩;have:b.map qB++ [qB s]=(b++ [s]).map qB:=zo
  rw[this,List.getElem?_map,hj];rfl
theorem wpl_ap{P:Program}{w w':World}{ops:Array Oper}{rest:List Oper}{o:Oper}{a:Act}{Q:Exit->Act->World->Prop}{s x:Operand}{t:TypeId}{v u v':Value}(hgd:o.guard=none)
    (ho:o.op=.call {callee:=.builtin .append,args:= #[s,x],argTypes:= #[t,t]}) (hs:a.eval s=v) (hx:a.eval x=u) (hrun:(Builtin.append_ #[t,t] o.type #[v,u]).run P w=.ok v' w')
    (h:wpList P ops Q rest (a.put o.dst v') w'):wpList P ops Q (o ::rest) a w:=
  wpList_plain hgd λK hK=>by
    unfold Oper.wp;simp[execOp,ho,resolve,invoke,builtin,hs,hx,hrun,Result.andThen];exact hK _ _ h
theorem with_f{B:Nat}{b:Sc}{v:Value}{w:World}(h:IsSc B b v w)(hl:b.length<=1000000)(s:List UInt8):Calls prog 128 #[v,qB s] w (Ret w (IsSc w.heap.size (b++ [s]))):=by
  obtain⟨ao,c,rfl,h1,h2,h3,h4⟩:=h
  have hcl:=λw=>clip_f (ao:=ao) (w:=w) h1 (λe=>by
    by_cases hb:b= []
    ·rw[hb];exact⟨rfl,(h3 hb).2⟩
    ·obtain⟨g,e2,_⟩:=h4 hb;rw[e2]at e;cases e)
  have hS:IsSc B b (.slice ao b.length b.length) w:=⟨ao,b.length,rfl,zN _,by omega,λhb=>⟨(h3 hb).1,by rw[hb];rfl⟩,h4⟩;obtain⟨sb,hsb⟩:∃y,(⟨s.toArray⟩:ByteArray)=y:=⟨_,rfl⟩;have hx1:qB s=.string sb:=xl
  have E1:Ext w (w.alloc (.cells #[.string sb] 9)):=(Ext.refl w).alloc _;have hap:=λty=>apS_run (s:=s) (g:=w.heap.size) (ty:=ty) (hS.ext E1) hl (by rw[hx1];exact(Bk.new w #[.string sb] 9).c 0 _ rfl)
  obtain⟨n,hn⟩:∃n,b.length=n:=⟨_,rfl⟩;have HA:=hid hap;have HC:=hid hcl;have HE:=hid E1;rw[hx1];rw[hn]at HA HC ⊢;clear hap hcl hS h1 h2 h3 h4 hn hx1 hsb E1;go_enter func128,ntmps128
  go_wp2_with (first
    | (go_at_call 160;refine zG (HC.out _) ?_;rintro e w1 ⟨rfl,rfl⟩)
    | (at_builtin;go_must (obtain⟨v',w',hrun,E',S'⟩:=HA.out 104;refine wpl_ap rfl rfl rfl rfl hrun ?_)))
  go_ret
  exact⟨_,rfl,HE.out.trans E',S'.low HE.out.size⟩
end Go.Proofs.YtenhciieboegbaaGreatDoor
