/-
  Plain laws: Parse and Text undo each other. No program in sight.
  Bytes: letters, digits, what a word holds.
  Strings as lists of bytes; scopes and rows of names in memory.
  slices.Index and Contains in rows of strings, IndexFunc and ContainsFunc in rows of bytes, Clip. (Printed by wip/gen/nix.py.)
-/
import Derived.Test.YtenhciieboegbaaGreatDoorParse
import Derived.Test.YtenhciieboegbaaGreatDoorBase
import Derived.Deep.LoopGhost
namespace Go.Proofs.YtenhciieboegbaaGreatDoor
open Go Go.RowKit
open Go.Proofs.Tryz
theorem xx{P:Prop}(h:P:=by have:=S.out;rwa [List.take_of_length_le (by have:=F.out;omega)]at this):P:=h
set_option maxRecDepth 100000
set_option maxHeartbeats 4000000
theorem dig_nat{d:Nat}(h:d < 10):(UInt8.ofNat (48 + d)).toNat =48 + d:=by
  rw[UInt8.toNat_ofNat'];omega
theorem dig_isDig{d:Nat}(h:d < 10):xX (UInt8.ofNat (48 + d))=true:=by
  rw[xX,dig_nat h];simp;omega
theorem dval_dec(m:Nat):dval (Lib.decDigits m)=m/\ (∀c∈Lib.decDigits m,xX c =true)/\Lib.decDigits m≠ []/\ (0 < m ->(Lib.decDigits m).headD 0≠48) :=by
  induction m using Nat.strongRecOn with
  | _ m ih =>
    by_cases h:m < 10
    · rw [zD h]
      refine⟨?_,?_,by simp,?_⟩
      · show 0 * 10 + ((UInt8.ofNat (48 + m)).toNat - 48)=m
        rw[dig_nat h];omega
      · intro c hc
        rw[List.mem_singleton.1 hc];exact dig_isDig h
      · intro h0 hc
        have:=congrArg UInt8.toNat hc
        rw[show([UInt8.ofNat (48 + m)]:List UInt8).headD 0 =UInt8.ofNat (48 + m)from rfl,dig_nat h]at this
        have h2:(48:UInt8).toNat =48:=rfl
        omega
    · obtain⟨h1,h2,h3,h4⟩ :=ih (m / 10) ze
      rw[dec_big h]
      refine⟨?_,?_,by simp,?_⟩
      ·rw[dval_snoc,h1,dig_nat (by omega)];omega
      · intro c hc
        rcases List.mem_append.1 hc with hc|hc
        ·exact h2 c hc
        ·rw[List.mem_singleton.1 hc];exact dig_isDig ze
      · intro _
        have h5:=h4 ze
        cases hl:Lib.decDigits (m / 10)with
        |nil =>exact absurd hl h3
        |cons c l =>rw[hl]at h5;exact h5
theorem neg_cons(l:List UInt8):negOf (45 ::l)=true/\qX (45 ::l)=l:=by
  have h:negOf (45 ::l)=true:=by simp[negOf,Lib.hasPrefix,List.isPrefixOf]
  refine⟨h,?_⟩
  have h2:Lib.hasPrefix (45 ::l) [45]=true:=h
  rw[qX,Lib.trimPrefix,if_pos h2]
  rfl
theorem neg_not{l:List UInt8}(h:l.headD 0≠45):negOf l =false/\qX l =l:=by
  have h1:negOf l =false:=by
    cases l with
    |nil =>rfl
    | cons c l =>
      have:c≠45:=h
      simp[negOf,Lib.hasPrefix,List.isPrefixOf,Ne.symm this]
  refine⟨h1,?_⟩
  have h2:Lib.hasPrefix l [45]=false:=h1
  rw[qX,Lib.trimPrefix,if_neg (by rw[h2];decide)]
theorem neg_head{l:List UInt8}(h:negOf l =true):∃k,l =45 ::k:=by
  cases l with
  |nil =>exact absurd h dcx
  | cons c l =>
    by_cases hc:c =45
    ·exact⟨l,by rw[hc]⟩
    · have:=(neg_not (l:=c ::l) hc).1
      rw[this]at h
      exact absurd h dcx
theorem dig_not45{l:List UInt8}(h:∀c∈l,xX c =true):l.headD 0≠45:=by
  cases l with
  |nil =>decide
  | cons c l =>
    intro hc
    have h1:=h c zo
    have h2:c =45:=hc
    rw[h2]at h1
    exact absurd h1 dcx
theorem parse_text(z:Int)(h0:(Lib.itoa z).length <=1300):qW (Lib.itoa z)=0/\xI (Lib.itoa z)=z:=by
  rcases Int.lt_or_le z 0 with hz|hz
  · obtain⟨m,hm,hm0⟩:∃m:Nat,z = -(m:Int)/\1 <=m:=⟨z.natAbs,by omega,by omega⟩
    obtain⟨h1,h2,h3,h4⟩ :=dval_dec m
    rw[hm,Lib.itoa_neg m hm0]at h0 ⊢
    obtain⟨n1,n2⟩ :=neg_cons (Lib.decDigits m)
    have hb:xH (45 ::Lib.decDigits m)=false:=by
      rw[xH,n2,Bool.or_eq_false_iff]
      refine⟨by rw[Bool.eq_false_iff];intro h;exact h3 (List.isEmpty_iff.1 h),?_⟩
      rw[Bool.and_eq_false_iff]
      exact Or.inl (beq_eq_false_iff_ne.2 (h4 hm0))
    have:=parse_ok h0 hb (by rw[n2];exact h2)
    rw[n1,n2,h1,if_pos rfl]at this
    exact this
  · obtain⟨m,hm⟩:∃m:Nat,z =(m:Int) :=⟨z.natAbs,by omega⟩
    obtain⟨h1,h2,h3,h4⟩ :=dval_dec m
    rw[hm,Lib.itoa_nonneg m]at h0 ⊢
    obtain⟨n1,n2⟩ :=neg_not (dig_not45 h2)
    have hb:xH (Lib.decDigits m)=false:=by
      rw[xH,n2,Bool.or_eq_false_iff]
      refine⟨by rw[Bool.eq_false_iff];intro h;exact h3 (List.isEmpty_iff.1 h),?_⟩
      rw[Bool.and_eq_false_iff]
      rcases zK m with hm0|hm0
      · right
        rw[hm0,zD dcx]
        rfl
      ·exact Or.inl (beq_eq_false_iff_ne.2 (h4 hm0))
    have:=parse_ok h0 hb (by rw[n2];exact h2)
    rw[n1,n2,h1,if_neg dcx]at this
    exact this
def xP(c:UInt8):Bool:=(decide (97 <=c.toNat) && decide (c.toNat <=122)) || (decide (65 <=c.toNat) && decide (c.toNat <=90))
def cDig(c:UInt8):Bool:=decide (48 <=c.toNat) && decide (c.toNat <=57)
def qH(c:UInt8):Bool:=xP c || cDig c || decide (c.toNat =95)
theorem rsB{w:World}{v:Value}{r b:Bool}(hv:v =.bool b)(h:b =r):RSame w (.bool r) (.returned v) w:=⟨by rw[hv,h],rfl⟩
def bV(c:UInt8):Value:=.int .u8 ((c.toNat:Nat):Int)
theorem tNix_2{P:Prop}(h:P:=by
  go_wp2
  all_goals (go_ret;refine rsB rfl ?_;rw[<-HR.out,Bool.eq_iff_iff];simp;omega)
  ):P:=h
theorem xY(c:UInt8)(w:World):Calls prog 57 #[bV c] w (RSame w (.bool (xP c))) :=by
  obtain⟨n,hn⟩:∃n,c.toNat =n:=⟨_,rfl⟩
  obtain⟨r,hr⟩:∃r,xP c =r:=⟨_,rfl⟩
  rw[bV,hn,hr]
  unfold xP at hr
  rw[hn]at hr
  have HR:=hid hr
  clear hr hn
  go_enter func57,ntmps57
  exact tNix_2
theorem isDigit_f(c:UInt8)(w:World):Calls prog 97 #[bV c] w (RSame w (.bool (cDig c))) :=by
  obtain⟨n,hn⟩:∃n,c.toNat =n:=⟨_,rfl⟩
  obtain⟨r,hr⟩:∃r,cDig c =r:=⟨_,rfl⟩
  rw[bV,hn,hr]
  unfold cDig at hr
  rw[hn]at hr
  have HR:=hid hr
  clear hr hn
  go_enter func97,ntmps97
  exact tNix_2
theorem letter_f(c:UInt8)(w:World):Calls prog 79 #[bV c] w (RSame w (.bool (xP c))) :=by
  obtain⟨n,hn⟩:∃n,c.toNat =n:=⟨_,rfl⟩
  obtain⟨r,hr⟩:∃r,xP c =r:=⟨_,rfl⟩
  rw[bV,hn,hr]
  unfold xP at hr
  rw[hn]at hr
  have HR:=hid hr
  clear hr hn
  go_enter func79,ntmps79
  exact tNix_2
theorem digit_f(c:UInt8)(w:World):Calls prog 80 #[bV c] w (RSame w (.bool (cDig c))) :=by
  obtain⟨n,hn⟩:∃n,c.toNat =n:=⟨_,rfl⟩
  obtain⟨r,hr⟩:∃r,cDig c =r:=⟨_,rfl⟩
  rw[bV,hn,hr]
  unfold cDig at hr
  rw[hn]at hr
  have HR:=hid hr
  clear hr hn
  go_enter func80,ntmps80
  exact tNix_2
theorem inWord_f(c:UInt8)(w:World):Calls prog 60 #[bV c] w (RSame w (.bool (qH c))) :=by
  obtain⟨n,hn⟩:∃n,c.toNat =n:=⟨_,rfl⟩
  obtain⟨a,ha⟩:∃r,xP c =r:=⟨_,rfl⟩
  obtain⟨b,hb⟩:∃r,cDig c =r:=⟨_,rfl⟩
  obtain⟨r,hr⟩:∃r,qH c =r:=⟨_,rfl⟩
  obtain⟨v,hv⟩:∃v,bV c =v:=⟨_,rfl⟩
  have fL:=xY c
  have fD:=isDigit_f c
  rw[ha,hv]at fL
  rw[hb,hv]at fD
  rw[hv,hr]
  unfold qH at hr
  rw[ha,hb,hn]at hr
  rw[bV,hn]at hv
  have HR:=hid hr
  have HV:=hid hv
  clear hr hn ha hb hv
  obtain rfl:=HV.out
  cases a <;> cases b
  all_goals
    go_enter func60,ntmps60
    go_wp2_with (first| (go_at_call 57;refine(fL _).mono ?_;rintro e w' ⟨rfl,rfl⟩)| (go_at_call 97;refine(fD _).mono ?_;rintro e w' ⟨rfl,rfl⟩))
    go_ret
    refine rsB rfl ?_
    rw[<-HR.out,Bool.eq_iff_iff]
    simp <;> omega
abbrev Sc:=List (List UInt8)
theorem encS_of(s:ByteArray):Value.string s =qB s.data.toList:=by
  cases s;simp[qB]
/-! ### Scopes -/
def IsSc(B:Nat)(b:Sc):Value ->World ->Prop:=λv w =>∃ao c,v =.slice ao b.length c/\b.length <=c/\c <=9223372036854775807/\ (b = [] ->ao =none/\c =0)/\
  (b≠ [] ->∃g,ao =some ⟨g,0,none⟩/\B <=g/\g < w.heap.size/\∀j s,b[j]? =some s ->World.cell? w ⟨g,j,none⟩=some (qB s))
theorem IsSc.ext{B:Nat}{b:Sc}{v:Value}{w w':World}(h:IsSc B b v w)(e:Ext w w'):IsSc B b v w':=let ⟨ao,c,h1,h2,h3,h4,h5⟩ :=h;⟨ao,c,h1,h2,h3,h4,λhne =>let ⟨g,q1,q2,q3,q4⟩ :=h5 hne;⟨g,q1,q2,Nat.lt_of_lt_of_le q3 e.size,λj s hj =>e.cell (q4 j s hj)⟩⟩
theorem IsSc.low{B B':Nat}{b:Sc}{v:Value}{w:World}(h:IsSc B b v w)(hb:B' <=B):IsSc B' b v w:=let ⟨ao,c,h1,h2,h3,h4,h5⟩ :=h;⟨ao,c,h1,h2,h3,h4,λhne =>let ⟨g,q1,q2,q3⟩ :=h5 hne;⟨g,q1,zO hb q2,q3⟩⟩
theorem IsSc.nil(B:Nat)(w:World):IsSc B [] (.slice none 0 0) w:=⟨none,0,rfl,zN _,by decide,λ_ =>⟨rfl,rfl⟩,λh =>absurd rfl h⟩
def IsSr(b:Sc):Value ->World ->Prop:=λv w =>∃ao c,v =.slice ao b.length c/\b.length <=9223372036854775807/\ (b≠ [] ->∃g o,ao =some ⟨g,o,none⟩/\∀j s,b[j]? =some s ->World.cell? w ⟨g,o + j,none⟩=some (qB s))
theorem IsSr.ext{b:Sc}{v:Value}{w w':World}(h:IsSr b v w)(e:Ext w w'):IsSr b v w':=let ⟨ao,c,h1,h2,h3⟩ :=h;⟨ao,c,h1,h2,λhne =>let ⟨g,o,q1,q2⟩ :=h3 hne;⟨g,o,q1,λj s hj =>e.cell (q2 j s hj)⟩⟩
theorem IsSc.sr{B:Nat}{b:Sc}{v:Value}{w:World}(h:IsSc B b v w):IsSr b v w:=by
  obtain⟨ao,c,h1,h2,h3,h4,h5⟩ :=h
  refine⟨ao,c,h1,zO h2 h3,λhne =>?_⟩
  obtain⟨g,q1,q2,q3,q4⟩ :=h5 hne
  exact⟨g,0,q1,λj s hj =>by rw[Nat.zero_add];exact q4 j s hj⟩
theorem tNix_1{P:Prop}(h:P:=by
  go_wp2
  go_loopg [5,8] n (λgk v5 v8 wr =>∃i:Nat,v8 =.int .i64 (i:Int)/\i + gk =n/\wr =w/\Hid (s ∉ b.take i))
  case atStart =>exact⟨0,rfl,by omega,rfl,hid zo⟩
  case round =>
    obtain⟨i,rfl,hg,rfl,S⟩ :=hrel
    by_cases hi:i < n
    · have hil:(i:Int) < (n:Int) :=by omega
      have hiw:IntKind.i64.wrap ((i:Int) + 1)=((i + 1:Nat):Int) :=by have:=F.out;simp only[IntKind.wrap_i64];omega
      have hi0:(0:Int) <=(i:Int) :=ze
      obtain⟨x,hx⟩:∃x,b[i]? =some x:=⟨_,List.getElem?_eq_getElem (by have:=F.out.1;omega)⟩
      obtain⟨g,o,rfl,k⟩ :=H.out (λe =>by rw[e]at hx;cases hx)
      have c1:=k i x hx
      rw[qB]at c1
      have HG:=hid (zL hg (zL hi hx))
      clear hg hi hx k
      by_cases hsx:s =x
      · subst hsx
        go_wp2
        go_ret
        exact⟨rfl,_,rfl,⟨λ_ =>List.mem_of_getElem? HG.out.2.2,λ_ =>by omega⟩⟩
      · have hb:(s ==x)=false:=by simpa using hsx
        have HS:=hid hsx
        clear hsx
        go_wp2
        go_roundg (gk - 1)
        case measure =>have:=HG.out;omega
        case rel =>
          refine⟨i + 1,rfl,by have:=HG.out;omega,rfl,hid ?_⟩
          rw[List.take_add_one,HG.out.2.2]
          simp only[Option.toList_some,List.mem_append,List.mem_singleton,not_or]
          exact⟨S.out,HS.out⟩
    · have hil:¬((i:Int) < (n:Int)) :=by omega
      have hs:s ∉ b:=xx
      have HS:=hid hs
      clear hs S
      go_wp2
      go_ret
      exact⟨rfl,_,rfl,⟨λh =>absurd h dcx,λh =>absurd h HS.out⟩⟩
  ):P:=h
theorem index_f{b:Sc}{v:Value}{w:World}(h:IsSr b v w)(s:List UInt8)(hl:b.length <=4611686018427387904):Calls prog 93 #[v,qB s] w (λe w' =>w' =w/\∃z:Int,e =.returned (.int .i64 z)/\ (0 <=z ↔ s∈b)) :=by
  obtain⟨ao,c,rfl,-,h2⟩ :=h
  obtain⟨n,hn⟩:∃n,b.length =n:=⟨_,rfl⟩
  have F:=hid (zL hn hl)
  have H:=hid h2
  rw[hn,qB]
  clear hn hl h2
  go_enter func93,ntmps93
  exact tNix_1
theorem contains_f{b:Sc}{v:Value}{w:World}(h:IsSr b v w)(s:List UInt8)(hl:b.length <=4611686018427387904):Calls prog 53 #[v,qB s] w (RSame w (.bool (b.contains s))) :=by
  have H:=hid (index_f h s hl)
  obtain⟨r,hr⟩:∃r,b.contains s =r:=⟨_,rfl⟩
  obtain⟨x,hx⟩:∃x,qB s =x:=⟨_,rfl⟩
  rw[hx]at H
  rw[hr,hx]
  have HR:=hid hr
  clear hr hx h
  go_enter func53,ntmps53
  go_wp2_with (go_at_call 93;refine zG H.out ?_;rintro e w1 ⟨rfl,z,rfl,hz⟩)
  go_ret
  refine rsB rfl ?_
  rw[<-HR.out,Bool.eq_iff_iff,List.contains_iff_mem]
  simp
theorem indexS_f{b:Sc}{v:Value}{w:World}(h:IsSr b v w)(s:List UInt8)(hl:b.length <=4611686018427387904):Calls prog 126 #[v,qB s] w (λe w' =>w' =w/\∃z:Int,e =.returned (.int .i64 z)/\ (0 <=z ↔ s∈b)) :=by
  obtain⟨ao,c,rfl,-,h2⟩ :=h
  obtain⟨n,hn⟩:∃n,b.length =n:=⟨_,rfl⟩
  have F:=hid (zL hn hl)
  have H:=hid h2
  rw[hn,qB]
  clear hn hl h2
  go_enter func126,ntmps126
  exact tNix_1
theorem containsS_f{b:Sc}{v:Value}{w:World}(h:IsSr b v w)(s:List UInt8)(hl:b.length <=4611686018427387904):Calls prog 102 #[v,qB s] w (RSame w (.bool (b.contains s))) :=by
  have H:=hid (indexS_f h s hl)
  obtain⟨r,hr⟩:∃r,b.contains s =r:=⟨_,rfl⟩
  obtain⟨x,hx⟩:∃x,qB s =x:=⟨_,rfl⟩
  rw[hx]at H
  rw[hr,hx]
  have HR:=hid hr
  clear hr hx h
  go_enter func102,ntmps102
  go_wp2_with (go_at_call 126;refine zG H.out ?_;rintro e w1 ⟨rfl,z,rfl,hz⟩)
  go_ret
  refine rsB rfl ?_
  rw[<-HR.out,Bool.eq_iff_iff,List.contains_iff_mem]
  simp
theorem isName1_f(c:UInt8)(w:World):Calls prog 59 #[bV c] w (RSame w (.bool (!qH c))) :=by
  have H:=inWord_f c
  obtain⟨r,hr⟩:∃r,qH c =r:=⟨_,rfl⟩
  rw[hr]at H ⊢
  clear hr
  obtain⟨x,hx⟩:∃x,bV c =x:=⟨_,rfl⟩
  rw[hx]at H ⊢
  clear hx
  go_enter func59,ntmps59
  go_wp2_with (go_at_call 60;refine(H _).mono ?_;rintro e w' ⟨rfl,rfl⟩)
  go_ret
  exact⟨rfl,rfl⟩
def IsBr(l:List UInt8):Value ->World ->Prop:=λv w =>∃ao c,v =.slice ao l.length c/\ (l≠ [] ->∃g o,ao =some ⟨g,o,none⟩/\∀j x,l[j]? =some x ->World.cell? w ⟨g,o + j,none⟩=some (bV x))
theorem indexB_f{l:List UInt8}{v:Value}{w:World}{q:Bool}(h:IsBr l v w)(HQ:Hid (l.all qH =q))(hl:l.length <=4611686018427387904):Calls prog 96 #[v,.func (.func 59) #[] #[]] w (λe w' =>w' =w/\∃z:Int,e =.returned (.int .i64 z)/\ (0 <=z ↔ q =false)) :=by
  obtain⟨ao,c,rfl,h2⟩ :=h
  obtain⟨n,hn⟩:∃n,l.length =n:=⟨_,rfl⟩
  have F:=hid (zL hn hl)
  have H:=hid h2
  rw[hn]
  clear hn hl h2
  go_enter func96,ntmps96
  go_wp2
  go_loopg [5,8] n (λgk v5 v8 wr =>∃i:Nat,v8 =.int .i64 (i:Int)/\i + gk =n/\wr =w/\Hid ((l.take i).all qH =true))
  case atStart =>exact⟨0,rfl,by omega,rfl,hid zo⟩
  case round =>
    obtain⟨i,rfl,hg,rfl,S⟩ :=hrel
    by_cases hi:i < n
    · have hil:(i:Int) < (n:Int) :=by omega
      have hiw:IntKind.i64.wrap ((i:Int) + 1)=((i + 1:Nat):Int) :=by have:=F.out;simp only[IntKind.wrap_i64];omega
      have hi0:(0:Int) <=(i:Int) :=ze
      obtain⟨x,hx⟩:∃x,l[i]? =some x:=⟨_,List.getElem?_eq_getElem (by have:=F.out.1;omega)⟩
      obtain⟨g,o,rfl,k⟩ :=H.out (λe =>by rw[e]at hx;cases hx)
      have c1:=k i x hx
      obtain⟨y,hy⟩:∃y,bV x =y:=⟨_,rfl⟩
      have hC:=isName1_f x wr
      rw[hy]at c1 hC
      obtain⟨r,hr⟩:∃r,qH x =r:=⟨_,rfl⟩
      rw[hr]at hC
      have HC:=hid hC
      have HG:=hid (zL hg (zL hi (zL hx hr)))
      clear hg hi hx k hr hC hy
      cases r with
      | false =>
        go_wp2_with (go_at_call 59;refine zG HC.out ?_;rintro e w1 ⟨rfl,rfl⟩)
        go_ret
        refine⟨rfl,_,rfl,⟨λ_ =>?_,λ_ =>by omega⟩⟩
        rw[<-HQ.out,List.all_eq_false]
        exact⟨x,List.mem_of_getElem? HG.out.2.2.1,by rw[HG.out.2.2.2];decide⟩
      | true =>
        go_wp2_with (go_at_call 59;refine zG HC.out ?_;rintro e w1 ⟨rfl,rfl⟩)
        go_roundg (gk - 1)
        case measure =>have:=HG.out;omega
        case rel =>
          refine⟨i + 1,rfl,by have:=HG.out;omega,rfl,hid ?_⟩
          rw[List.take_add_one,HG.out.2.2.1]
          simp only[Option.toList_some,List.all_append,List.all_cons,List.all_nil,Bool.and_true,Bool.and_eq_true]
          exact⟨S.out,HG.out.2.2.2⟩
    · have hil:¬((i:Int) < (n:Int)) :=by omega
      have hs:l.all qH =true:=xx
      have HS:=hid hs
      clear hs S
      go_wp2
      go_ret
      exact⟨rfl,_,rfl,⟨λh =>absurd h dcx,λh =>by rw[<-HQ.out,HS.out]at h;cases h⟩⟩
theorem containsB_f{l:List UInt8}{v:Value}{w:World}(h:IsBr l v w)(hl:l.length <=4611686018427387904):Calls prog 58 #[v,.func (.func 59) #[] #[]] w (RSame w (.bool (!l.all qH))) :=by
  obtain⟨q,hq⟩:∃q,l.all qH =q:=⟨_,rfl⟩
  have H:=hid (indexB_f h (hid hq) hl)
  rw[hq]
  clear hq h
  cases q
  all_goals
    go_enter func58,ntmps58
    go_wp2_with (go_at_call 96;refine zG H.out ?_;rintro e w1 ⟨rfl,z,rfl,hz⟩)
    go_ret
    exact rsB rfl zo
theorem clip_f{ao:Option Addr}{n c:Nat}{w:World}(h:n <=c)(h0:ao =none ->n =0/\c =0):Calls prog 160 #[.slice ao n c] w (RSame w (.slice ao n n)) :=by
  have c1:(0:Int) <=(n:Int) :=ze
  have c2:(n:Int) <=(c:Int) :=ze
  cases ao with
  | none =>
    obtain⟨rfl,rfl⟩ :=h0 rfl
    go_enter func160,ntmps160
    go_wp2
    go_ret
    exact⟨rfl,rfl⟩
  | some p =>
    clear h0
    obtain⟨g,o,x⟩ :=p
    go_enter func160,ntmps160
    go_wp2
    go_ret
    exact⟨rfl,rfl⟩
end Go.Proofs.YtenhciieboegbaaGreatDoor
