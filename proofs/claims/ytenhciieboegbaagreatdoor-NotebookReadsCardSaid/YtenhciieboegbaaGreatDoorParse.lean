/-
  Integers of package integer: Parse. Every string.
-/
import Derived.Test.YtenhciieboegbaaGreatDoorRwn
import Derived.Laws.RangeAny
namespace Go.Proofs.YtenhciieboegbaaGreatDoor
open Go Go.RowKit
open Go.Proofs.Tryz
theorem zae{P:Prop}(h:P:=by show s.data.size <=1300;exact hs):P:=h
set_option maxRecDepth 100000
set_option maxHeartbeats 1000000
/-! ### The iterator of a range over a string,wherever it lies -/
def setIt(w:World)(g:Nat)(s:ByteArray)(pos:Nat):World:= {w with heap:=w.heap.setIfInBounds g (.stringIter s pos)}
theorem next_any{P:Program}(w:World)(g:Nat)(s:ByteArray)(pos:Nat)(ty:TypeId)(hg:w.heap[g]? =some (.stringIter s pos))(h:pos < s.size):
    (Instr.next (.pointer (some ⟨g,0,none⟩)) true ty).run P w =.ok (.tuple #[.bool true,.int .i64 pos,.int .i32 (Utf8.decode s pos).1]) (setIt w g s (pos + (Utf8.decode s pos).2)) :=by
  simp only[Instr.next,getObj,setObj,Sem.run_bind,Sem.run,hg,Result.andThen,h,if_true]
  simp[goInt,setIt]
theorem next_end{P:Program}(w:World)(g:Nat)(s:ByteArray)(pos:Nat)(ty:TypeId)(hg:w.heap[g]? =some (.stringIter s pos))(h:¬pos < s.size):
    (Instr.next (.pointer (some ⟨g,0,none⟩)) true ty).run P w =.ok (.tuple #[.bool false]) w:=by
  simp[Instr.next,getObj,Sem.run,hg,h]
theorem setIt_cell{w:World}{g:Nat}{s s':ByteArray}{pos pos':Nat}(hg:w.heap[g]? =some (.stringIter s pos))(p:Addr):(setIt w g s' pos').cell? p =w.cell? p:=by
  have hlt:=heap_lt hg
  simp only[World.cell?,setIt]
  by_cases h:g =p.block
  ·subst h;rw[Array.getElem?_setIfInBounds_self_of_lt hlt,hg]
  ·rw[Array.getElem?_setIfInBounds_ne h]
theorem setIt_frozen{w:World}{g:Nat}{s s':ByteArray}{pos pos':Nat}(hg:w.heap[g]? =some (.stringIter s pos))(p:Addr):(setIt w g s' pos').frozen? p =w.frozen? p:=by
  have hlt:=heap_lt hg
  simp only[World.frozen?,setIt]
  by_cases h:g =p.block
  ·subst h;rw[Array.getElem?_setIfInBounds_self_of_lt hlt,hg]
  ·rw[Array.getElem?_setIfInBounds_ne h]
theorem setIt_gr{w:World}{g:Nat}{s s':ByteArray}{pos pos':Nat}(hg:w.heap[g]? =some (.stringIter s pos)):Gr w (setIt w g s' pos') :=
  ⟨by simp[setIt],λp x h =>by rw[setIt_cell hg];exact h⟩
theorem setIt_bx{w:World}{g:Nat}{s s':ByteArray}{pos pos':Nat}(hg:w.heap[g]? =some (.stringIter s pos)){b n c:Nat}{sg:Bool}{a:Option Addr}(h:Bx w b sg a n c):Bx (setIt w g s' pos') b sg a n c:=
  ⟨by rw[setIt_cell hg];exact h.c0,by rw[setIt_cell hg];exact h.c1,by rw[setIt_frozen hg];exact h.f0,by rw[setIt_frozen hg];exact h.f1⟩
theorem setIt_ext{w0 w:World}{g:Nat}{s':ByteArray}{pos':Nat}(e:Ext w0 w)(hg:w0.heap.size <=g):Ext w0 (setIt w g s' pos') :=
  ⟨e.os,e.tape,e.output,by simpa [setIt]using e.size,λk hk =>by
    simp only[setIt]
    rw[Array.getElem?_setIfInBounds_ne (by omega)]
    exact Below.block e k hk⟩
theorem setIt_at{w:World}{g:Nat}{s s':ByteArray}{pos pos':Nat}(hg:w.heap[g]? =some (.stringIter s pos)):(setIt w g s' pos').heap[g]? =some (.stringIter s' pos') :=by
  simp only[setIt]
  rw[Array.getElem?_setIfInBounds_self_of_lt (heap_lt hg)]
/-! ### The number that digits stand for -/
def dval(l:List UInt8):Nat:=l.foldl (λm c =>m * 10 + (c.toNat - 48)) 0
def xX(c:UInt8):Bool:=decide (48 <=c.toNat) && decide (c.toNat <=57)
theorem dval_snoc(l:List UInt8)(c:UInt8):dval (l ++ [c])=dval l * 10 + (c.toNat - 48) :=by simp[dval]
theorem dval_from(l:List UInt8):∀m:Nat,(∀c∈l,xX c =true) ->l.foldl (λm c =>m * 10 + (c.toNat - 48)) m < (m + 1) * 10 ^ l.length:=by
  induction l with
  |nil =>intro m _;simp
  | cons c l ih =>
    intro m h
    have h1:=ih (m * 10 + (c.toNat - 48)) (λx hx =>h x (List.mem_cons_of_mem _ hx))
    have h2:=h c zo
    simp only[xX,Bool.and_eq_true,zS]at h2
    rw[List.foldl_cons,List.length_cons,Nat.pow_succ]
    have h3:(m * 10 + (c.toNat - 48) + 1) * 10 ^ l.length <=((m + 1) * 10) * 10 ^ l.length:=Nat.mul_le_mul_right _ ze
    have h4:(m + 1) * 10 * 10 ^ l.length =(m + 1) * (10 ^ l.length * 10) :=by grind
    omega
theorem dval_lt(l:List UInt8)(h:∀c∈l,xX c =true):dval l < 10 ^ l.length:=by
  have:=dval_from l 0 h
  simpa [dval]using this
theorem ten_pow(a b:Nat):10 ^ (3 * a + b) <=2 ^ (10 * a + 4 * b) :=by
  rw[Nat.pow_add,Nat.pow_mul,Nat.pow_add,Nat.pow_mul,Nat.pow_mul]
  exact Nat.mul_le_mul (Nat.pow_le_pow_left dcx a) (Nat.pow_le_pow_left dcx b)
theorem dval_words(l:List UInt8)(h:∀c∈l,xX c =true)(hl:l.length <=1300):dval l < 4294967296 ^ 136:=by
  have h1:=dval_lt l h
  have h2:=ten_pow (l.length / 3) (l.length % 3)
  rw[Nat.div_add_mod]at h2
  have h3:∀j k:Nat,j <=32 * k ->2 ^ j <=4294967296 ^ k:=λj k hjk =>by
    rw[show(4294967296:Nat)=2 ^ 32 from rfl,<-Nat.pow_mul]
    exact Nat.pow_le_pow_right dcx hjk
  have h4:=h3 (10 * (l.length / 3) + 4 * (l.length % 3)) 136 ze
  omega
def qX(l:List UInt8):List UInt8:=Lib.trimPrefix l [45]
def negOf(l:List UInt8):Bool:=Lib.hasPrefix l [45]
def xH(l:List UInt8):Bool:=(qX l).isEmpty || ((qX l).headD 0 ==48 && decide (l≠ [48]))
def qW(l:List UInt8):Int:=if 1300 < l.length then 2 else if xH l then 3 else if (qX l).all xX then 0 else 3
def xI(l:List UInt8):Int:=if qW l =0 then(if negOf l then -(dval (qX l):Int)else dval (qX l))else 0
theorem parse_ok{l:List UInt8}(h0:l.length <=1300)(h1:xH l =false)(h2:∀c∈qX l,xX c =true):qW l =0/\xI l =if negOf l then -(dval (qX l):Int)else dval (qX l) :=by
  have h:qW l =0:=by
    rw[qW,if_neg (by omega),h1,if_neg (by simp),if_pos (List.all_eq_true.2 h2)]
  exact⟨h,by rw[xI,if_pos h]⟩
theorem parse_bad{l:List UInt8}(h0:l.length <=1300)(h2:∃c∈qX l,xX c =false):qW l =3/\xI l =0:=by
  have h:qW l =3:=by
    obtain⟨c,hc,hd⟩ :=h2
    have:(qX l).all xX =false:=by
      rw[Bool.eq_false_iff]
      intro h
      have:=List.all_eq_true.1 h c hc
      rw[hd]at this
      exact absurd this dcx
    rw[qW,if_neg (by omega),this]
    split <;> rfl
  exact⟨h,by rw[xI,h];rfl⟩
def PaI(w:World)(t:ByteArray)(gi gk:Nat)(v6:Value)(wr:World):Prop:=
  ∃(ao:Option Addr) (n cap p:Nat),v6 =.slice ao n cap/\p + gk =t.size/\NatAt wr 136 ao n cap (dval (t.data.toList.take p))/\Bx wr w.heap.size false none 0 0/\Ext w wr/\wr.heap[gi]? =some (.stringIter t p)/\w.heap.size < gi/\ (∀c∈t.data.toList.take p,xX c =true)
theorem tParse_1{P:Prop}(h:P:=by
  go_wp2_with fail
  obtain⟨w4,hW,b4,p4⟩ :=bn.put' false none 0 0
  rw[<-hW]
  clear hW F1 F2 F3 F4
  have hbody:qX s.data.toList =t.data.toList:=by rw[HT.out]
  have hok:=parse_bad (l:=s.data.toList) zae (by rw[hbody];exact HB2.out)
  have F1:=b4.c0;have F2:=b4.c1;have F3:=b4.f0;have F4:=b4.f1
  refine zH (v:=.tuple #[.agg #[.bool false,.slice none 0 0],.int .i64 3]) (by simp[results,results136,go_sem,F1,F2]) rfl ⟨_,rfl,En.pt p4 ze,_,_,rfl,⟨false,none,0,0,rfl,?_⟩,?_⟩
  · rw[hok.2]
    exact IntAt.zero.mono ze
  · show _ =Value.int .i64 (qW s.data.toList)
    rw[hok.1]
  ):P:=h
theorem tParse_3{P:Prop}(h:P:=by
  cases hl:t.data.toList with
  |nil =>exact absurd hl ht1
  | cons c l =>
    have h5:t.data.toList[0]'(by rw[hl];simp)=t[0] :=rfl
    rw[<-h5]
    simp[hl]
  ):P:=h
theorem Parse_main(w:World)(s t:ByteArray)(neg:Bool)(hs:s.size <=1300)(ht:t =⟨(qX s.data.toList).toArray⟩)(hneg:neg =negOf s.data.toList)(hts:t.size <=1300)(hb:xH s.data.toList =false):
    Calls prog 136 #[.string s] w (Ret w (IsT2 (IsI 136 (xI s.data.toList)) (iV (qW s.data.toList)))) :=by
  have H:=Tryz.strings_CutPrefix s ⟨#[45]⟩ (w.alloc (.cells #[.bool false,.slice none 0 0] 29))
  have e1:(⟨(Lib.trimPrefix s.data.toList (⟨#[45]⟩:ByteArray).data.toList).toArray⟩:ByteArray)=t:=ht.symm
  have e2:Lib.hasPrefix s.data.toList (⟨#[45]⟩:ByteArray).data.toList =neg:=hneg.symm
  rw[e1,e2]at H
  obtain⟨W,hW,K0⟩:∃W,W =w.alloc (.cells #[.bool false,.slice none 0 0] 29)/\Kq w W [(w.heap.size, [.bool false,.slice none 0 0])] :=⟨_,rfl,by simpa using(Kq.start w).alloc [.bool false,.slice none 0 0] 29⟩
  rw[<-hW]at H
  have b2:=hid (K0.bx w.heap.size false none 0 0 zo)
  have E:=hid K0.ext
  have H:=hid H
  have hd0:decide (1300 < s.size)=false:=jv
  have Hb:=hid hb
  have HT:=hid ht
  have HN:=hid hneg
  clear e1 e2 K0 hb ht hneg
  go_enter func136,ntmps136
  go_upto_region 1 with fail
  rw[<-hW]
  clear hW
  go_wp2_with fail
  refine zG H.out ?_
  rintro e w1 ⟨rfl,rfl⟩
  clear H hd0
  go_upto_region 4 with fail
  have ht1:¬t.data.toList = [] :=by
    intro h
    have h2:=Hb.out
    rw[xH,Bool.or_eq_false_iff]at h2
    have h3:qX s.data.toList =t.data.toList:=by rw[HT.out]
    rw[h3,h]at h2
    exact absurd h2.1 dcx
  have ht2:¬t.toList = [] :=by rw[ByteArray.toList_eq];exact ht1
  have ht3:t.data.toList.isEmpty =false:=by rw[Bool.eq_false_iff];intro h;exact ht1 (List.isEmpty_iff.1 h)
  have ht4:t.toList.isEmpty =false:=by rw[ByteArray.toList_eq];exact ht3
  have ht5:0 < t.size:=by
    have:t.data.toList.length≠0:=λh =>ht1 (List.length_eq_zero_iff.1 h)
    have:t.size =t.data.toList.length:=rfl
    omega
  have HT5:=hid ht5
  obtain⟨W4,hW2⟩:∃W4,W4 =w1.iter t 0:=⟨_,rfl⟩
  have hi0:W4.heap[w1.heap.size]? =some (.stringIter t 0) :=by rw[hW2];exact World.iter_heap w1 t 0
  have e12:Ext w1 W4:=by rw[hW2];exact(Ext.refl w1).alloc _
  have b3:=b2.out.ext e12
  have E2:=E.out.trans e12
  have I0:=hid (show PaI w t w1.heap.size t.size (.slice none 0 0) W4 from⟨none,0,0,0,rfl,by omega,⟨[],wd_nil _ _ _ ze,by omega,by omega,rfl⟩,b3,E2,hi0,b2.out.lt,by simp⟩)
  clear hi0 e12 b3 E2
  have hdec:¬((t[0].toNat:Int)=48)\/ (!s.toList == [48])=false:=by
    have h2:=Hb.out
    have hbody:qX s.data.toList =t.data.toList:=by rw[HT.out]
    rw[xH,Bool.or_eq_false_iff,hbody]at h2
    have h3:=h2.2
    have h4:t.data.toList.headD 0 =t[0] :=by
      exact tParse_3
    rw[h4,Bool.and_eq_false_iff]at h3
    rcases h3 with h|h
    · left
      intro h6
      have h7:t[0]=48:=UInt8.toNat_inj.1 (by show t[0].toNat =48;omega)
      rw[h7]at h
      exact absurd h dcx
    · right
      have h8:s.data.toList = [48] :=zad
      rw[ByteArray.toList_eq,h8]
      rfl
  rcases hdec with h48|hsB
  rotate_left
  by_cases h48:((t[0].toNat:Int)=48)
  all_goals (
      go_upto_region 7 with fail
      go_wp2_with fail
      rw[<-hW2]
      clear hW2 ht1 ht2 ht3 ht4
      go_loopg [6] t.size (λgk v6 wr =>Hid (PaI w t w1.heap.size gk v6 wr))
      case atStart =>exact I0
      case round =>
        clear I0
        obtain⟨ao,n,cap,p,rfl,hp,hm,b1,E,hi,hg,hd⟩ :=hrel.out
        clear hrel
        by_cases hlt:p < t.size
        · obtain ⟨x,hx⟩:∃x:UInt8,x =(t[p]'hlt) :=⟨_,rfl⟩
          obtain⟨c,hc⟩:∃c:Nat,c =x.toNat:=⟨_,rfl⟩
          have htk:t.data.toList.take (p + 1)=t.data.toList.take p ++ [x] :=by
            rw[hx];exact(List.take_append_getElem (l:=t.data.toList) (i:=p) hlt).symm
          obtain⟨Wn,hWn⟩:∃Wn,Wn =setIt wr w1.heap.size t (p + (Utf8.decode t p).2) :=⟨_,rfl⟩
          have bn:Bx Wn w.heap.size false none 0 0:=by rw[hWn];exact setIt_bx hi b1
          have En:Ext w Wn:=by rw[hWn];exact setIt_ext E ze
          have hmn:=hm.gr (setIt_gr (s':=t) (pos':=p + (Utf8.decode t p).2) hi)
          have hin:=setIt_at (s':=t) (pos':=p + (Utf8.decode t p).2) hi
          rw[<-hWn]at hmn hin
          by_cases hdg:48 <=c/\c <=57
          · have hdec:Utf8.decode t p =(c,1) :=by rw[hc,hx];exact decode_ascii t p hlt (by rw[<-hx];omega)
            have hnx:=λty =>next_any (P:=prog) wr w1.heap.size t p ty hi hlt
            rw[<-hWn,hdec]at hnx
            rw[hdec]at hin
            obtain⟨d,hd0⟩:∃d,c =48 + d:=⟨c - 48,by omega⟩
            have hd9:d <=9:=ze
            have hw1:IntKind.i32.wrap ((c:Int) - 48)=(d:Int) :=by simp only[IntKind.wrap_i32];omega
            have hw2:IntKind.u32.wrap (d:Int)=(d:Int) :=by simp only[IntKind.wrap_u32];omega
            have hl0:decide ((c:Int) < 48)=false:=jv
            have hl1:decide (57 < (c:Int))=false:=jv
            have HC:=hid (zL hc hd0)
            have HP:=hid (show p + 1 + (gk - 1)=t.size/\gk - 1 < gk by omega)
            have HIN:=hid hin
            have HD:=hid hd
            have HDG:=hid hdg
            have HTK:=hid htk
            clear hi hm b1 E hWn hdec hc hp hx hlt hin hd hdg hd0 htk
            go_upto_region 12 with fail
            go_wp2_with fail
            refine zG (mul_c _ ao (some ⟨Wn.heap.size,0,none⟩) n 1 cap 1 136 1 _ 10 (hmn.ext ((Ext.refl Wn).alloc _)) ⟨[10],wd_new1 Wn 10 dcx,by omega,by simp,rfl⟩ ze ze) ?_
            rintro e w4 ⟨a4,n4,c4,rfl,e4,h4⟩
            have e4:=((Ext.refl Wn).alloc (.cells #[.int .u32 10] 97)).trans e4
            clear hmn
            go_wp2_with fail
            refine zG (trim_c _ (some ⟨w4.heap.size,0,none⟩) 1 1 [d] (wd_new1 w4 d ze)) ?_
            rintro e w5 ⟨a5,n5,c5,rfl,e5,h5⟩
            have e5:=((Ext.refl w4).alloc (.cells #[.int .u32 (d:Nat)] 97)).trans e5
            have h4:=h4.ext e5
            go_wp2_with fail
            refine zG (add_c _ a4 a5 n4 n5 c4 c5 137 1 _ _ (h4.mono ze) h5 ze ze) ?_
            rintro e w6 ⟨a6,n6,c6,rfl,e6,h6⟩
            have e6:=(e4.trans e5).trans e6
            have hval:dval (t.data.toList.take p) * 10 + qF [d]=dval (t.data.toList.take (p + 1)) :=by
              rw[HTK.out,dval_snoc,show qF [d]=d by simp[qF]]
              have:=HC.out
              omega
            have hdd:∀c'∈t.data.toList.take (p + 1),xX c' =true:=by
              rw[HTK.out]
              intro c' hc'
              rcases List.mem_append.1 hc' with h|h
              ·exact HD.out c' h
              · rw[List.mem_singleton.1 h,xX,<-HC.out.1]
                have:=HDG.out
                simp
                omega
            have hlen:(t.data.toList.take (p + 1)).length <=1300:=by
              have:t.data.toList.length =t.size:=rfl
              rw[List.length_take]
              omega
            rw[hval]at h6
            have I':=hid (show PaI w t w1.heap.size (gk - 1) (.slice a6 n6 c6) w6 from⟨a6,n6,c6,p + 1,rfl,HP.out.1,h6.tight (dval_words _ hdd hlen),bn.ext e6,En.trans e6,e6.heap HIN.out,hg,hdd⟩)
            clear h4 h5 h6 e4 e5 e6 hval hdd hlen bn En hw1 hw2
            go_wp2_with fail
            go_roundg (gk - 1)
            case measure =>exact HP.out.2
            case rel =>exact I'
          · have hnx:=λty =>next_any (P:=prog) wr w1.heap.size t p ty hi hlt
            rw[<-hWn]at hnx
            obtain⟨r,hr⟩:∃r,r =(Utf8.decode t p).1:=⟨_,rfl⟩
            have hrr:r < 48\/57 < r:=by
              by_cases h128:c < 128
              · rw[hr,decode_ascii t p hlt (by rw[<-hx,<-hc];exact h128)]
                show(t[p]'hlt).toNat < 48\/57 < (t[p]'hlt).toNat
                rw[<-hx,<-hc]
                omega
              · have:=(decode_high t p hlt (by rw[<-hx,<-hc];omega)).1
                omega
            have HB2:=hid (show ∃c∈t.data.toList,xX c =false from⟨x,List.mem_of_mem_take (i:=p + 1) (by rw[htk];simp),by
              rw[xX,<-hc];simp;omega⟩)
            rw[<-hr]at hnx
            clear hi hm b1 E hWn hr hc hp hx hlt hin hd hdg htk hmn
            have F1:=bn.c0;have F2:=bn.c1;have F3:=bn.f0;have F4:=bn.f1
            rcases hrr with hlow|hhigh
            · have hl0:decide ((r:Int) < 48)=true:=by simp;omega
              exact tParse_1
            · have hl0:decide ((r:Int) < 48)=false:=by simp;omega
              have hl1:decide (57 < (r:Int))=true:=jv
              exact tParse_1
        · have hnx:=λty =>next_end (P:=prog) wr w1.heap.size t p ty hi hlt
          have hpt:p =t.size:=ze
          have hall:t.data.toList.take p =t.data.toList:=by rw[hpt];exact List.take_of_length_le (by show t.data.toList.length <=t.data.size;simp)
          rw[hall]at hm hd
          have HD:=hid hd
          have HP:=hid hp
          have HL:=hid hlt
          clear hp hlt hi hd hall hpt
          obtain⟨xs,hw,hk,_,hv⟩ :=hm
          have HV:=hid hv
          have HK:=hid hk
          clear hv hk
          go_wp2_with fail
          refine zG (of_c wr neg ao n cap xs _ hw rfl) ?_
          rintro e w3 ⟨s3,a3,n3,c3,rfl,e3,h3⟩
          have b1:=b1.ext e3
          have E:=E.trans e3
          have F1:=b1.c0;have F2:=b1.c1;have F3:=b1.f0;have F4:=b1.f1
          go_wp2_with fail
          obtain⟨w4,hW,b1,p4⟩ :=b1.put' s3 a3 n3 c3
          rw[<-hW]
          clear hW F1 F2 F3 F4
          have hbody:qX s.data.toList =t.data.toList:=by rw[HT.out]
          have hok:=parse_ok (l:=s.data.toList) zae Hb.out (by rw[hbody];exact HD.out)
          have F1:=b1.c0;have F2:=b1.c1;have F3:=b1.f0;have F4:=b1.f1
          refine zH (v:=.tuple #[.agg #[.bool s3,.slice a3 n3 c3],.int .i64 0]) (by simp[results,results136,go_sem,F1,F2]) rfl ⟨_,rfl,E.pt p4 ze,_,_,rfl,⟨s3,a3,n3,c3,rfl,?_⟩,?_⟩
          · rw[hok.2,hbody,<-HN.out,<-HV.out]
            exact(h3.pt p4).mono HK.out
          · show _ =Value.int .i64 (qW s.data.toList)
            rw[hok.1])
theorem parse_long{l:List UInt8}(h0:1300 < l.length):qW l =2/\xI l =0:=by
  have h:qW l =2:=by rw[qW,if_pos h0]
  exact⟨h,by rw[xI,h];rfl⟩
theorem parse_start{l:List UInt8}(h0:l.length <=1300)(h1:xH l =true):qW l =3/\xI l =0:=by
  have h:qW l =3:=by rw[qW,if_neg (by omega),if_pos h1]
  exact⟨h,by rw[xI,h];rfl⟩
theorem Parse_long(w:World)(s:ByteArray)(hs:1300 < s.size):
    Calls prog 136 #[.string s] w (Ret w (IsT2 (IsI 136 (xI s.data.toList)) (iV (qW s.data.toList)))) :=by
  have hok:=hid (parse_long (l:=s.data.toList) (by show 1300 < s.data.size;exact hs))
  have hd0:decide ((1300:Int) < (s.size:Int))=true:=jv
  clear hs
  go_enter func136,ntmps136
  go_wp2_with fail
  refine zH (v:=.tuple #[.agg #[.bool false,.slice none 0 0],.int .i64 2]) (by simp[results,results136,go_sem]) rfl ⟨_,rfl,(Ext.refl w).alloc _,_,_,rfl,⟨false,none,0,0,rfl,?_⟩,?_⟩
  · rw[hok.out.2]
    exact IntAt.zero.mono ze
  · show _ =Value.int .i64 (qW s.data.toList)
    rw[hok.out.1]
theorem tParse_2{P:Prop}(h:P:=by
  go_enter func136,ntmps136
  go_upto_region 1 with fail
  go_wp2_with fail
  refine zG H.out ?_
  rintro e w1 ⟨rfl,rfl⟩
  clear H hd0
  go_wp2_with fail
  refine zH (v:=.tuple #[.agg #[.bool false,.slice none 0 0],.int .i64 3]) (by simp[results,results136,go_sem]) rfl ⟨_,rfl,(Ext.refl w).alloc _,_,_,rfl,⟨false,none,0,0,rfl,?_⟩,?_⟩
  · rw[hok.out.2]
    exact IntAt.zero.mono ze
  · show _ =Value.int .i64 (qW s.data.toList)
    rw[hok.out.1]
  ):P:=h
theorem Parse_start(w:World)(s t:ByteArray)(neg:Bool)(hs:s.size <=1300)(ht:t =⟨(qX s.data.toList).toArray⟩)(hneg:neg =negOf s.data.toList)(hb:xH s.data.toList =true):
    Calls prog 136 #[.string s] w (Ret w (IsT2 (IsI 136 (xI s.data.toList)) (iV (qW s.data.toList)))) :=by
  have H:=Tryz.strings_CutPrefix s ⟨#[45]⟩ (w.alloc (.cells #[.bool false,.slice none 0 0] 29))
  have e1:(⟨(Lib.trimPrefix s.data.toList (⟨#[45]⟩:ByteArray).data.toList).toArray⟩:ByteArray)=t:=ht.symm
  have e2:Lib.hasPrefix s.data.toList (⟨#[45]⟩:ByteArray).data.toList =neg:=hneg.symm
  rw[e1,e2]at H
  have H:=hid H
  have hok:=hid (parse_start (l:=s.data.toList) zae hb)
  have hbody:qX s.data.toList =t.data.toList:=by rw[ht]
  have hd0:decide (1300 < s.size)=false:=jv
  rw[xH,hbody]at hb
  clear e1 e2 ht hneg hbody
  by_cases hem:t.data.toList = []
  · obtain rfl:t =⟨#[]⟩ :=by cases t with|mk a =>cases a with|mk l =>simp at hem;rw[hem]
    clear hem hb
    exact tParse_2
  · have ht1:=hem
    have ht2:¬t.toList = [] :=by rw[ByteArray.toList_eq];exact ht1
    have ht3:t.data.toList.isEmpty =false:=by rw[Bool.eq_false_iff];intro h;exact ht1 (List.isEmpty_iff.1 h)
    have ht4:t.toList.isEmpty =false:=by rw[ByteArray.toList_eq];exact ht3
    have ht5:0 < t.size:=by
      have:t.data.toList.length≠0:=λh =>ht1 (List.length_eq_zero_iff.1 h)
      have:t.size =t.data.toList.length:=rfl
      omega
    rw[ht3,Bool.false_or,Bool.and_eq_true]at hb
    have h4:t.data.toList.headD 0 =t[0] :=by
      exact tParse_3
    have h48:((t[0].toNat:Int)=48) :=by
      have:=hb.1
      rw[h4]at this
      rw[beq_iff_eq.1 this]
      rfl
    have hsB:(!s.toList == [48])=true:=by
      have:=of_decide_eq_true hb.2
      rw[ByteArray.toList_eq]
      simpa using this
    clear hem hb h4
    exact tParse_2
theorem Parse_f(w:World)(s:ByteArray):
    Calls prog 136 #[.string s] w (Ret w (IsT2 (IsI 136 (xI s.data.toList)) (iV (qW s.data.toList)))) :=by
  by_cases hs:s.size <=1300
  · cases hb:xH s.data.toList
    · refine Parse_main w s _ _ hs rfl rfl ?_ hb
      show(qX s.data.toList).toArray.size <=1300
      have h1:(qX s.data.toList).length <=s.data.toList.length:=by
        rw[qX,Lib.trimPrefix]
        split <;> simp
      have h2:s.data.toList.length =s.size:=rfl
      simp
      omega
    ·exact Parse_start w s _ _ hs rfl rfl hb
  ·exact Parse_long w s ze
end Go.Proofs.YtenhciieboegbaaGreatDoor
