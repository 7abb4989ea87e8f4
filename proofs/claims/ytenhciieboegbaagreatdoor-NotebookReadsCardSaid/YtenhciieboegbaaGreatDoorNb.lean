/-
  Notebooks in plain words: which lists of cells are right, their texts, what a text is read as; Parse inverts Print; the reference's trees. No program in sight. (Joined by wip/gen/mknb.sh.)
-/
import Derived.Test.YtenhciieboegbaaGreatDoorNix
import Derived.Test.YtenhciieboegbaaGreatDoorNnm
namespace Go.Proofs.YtenhciieboegbaaGreatDoor
open Go Go.RowKit
theorem dval_ge:∀(l:List UInt8) (m:Nat),m * 10 ^ l.length <=l.foldl (λm c =>m * 10 + (c.toNat - 48)) m
  | [],m =>by simp
  | c ::t,m =>by
    refine zO ?_ (dval_ge t (m * 10 + (c.toNat - 48)))
    rw[List.length_cons,Nat.pow_succ,Nat.mul_comm (10 ^ t.length) 10,<-Nat.mul_assoc]
    exact Nat.mul_le_mul_right _ (Nat.le_add_right _ _)
theorem dec_len10(x k:Nat)(h:x < 10 ^ k)(hk:0 < k):(Lib.decDigits x).length <=k:=by
  obtain⟨h1,h2,h3,h4⟩ :=dval_dec x
  rcases zK x with h0|h0
  · rw[h0,zD dcx]
    exact hk
  · cases hd:Lib.decDigits x with
    |nil =>exact absurd hd h3
    | cons c t =>
      have hc:c≠48:=by have:=h4 h0;rw[hd]at this;exact this
      have hdg:xX c =true:=h2 c (by rw[hd];simp)
      simp only[xX,Bool.and_eq_true,zS]at hdg
      have hc1:1 <=c.toNat - 48:=by
        rcases Nat.eq_or_lt_of_le hdg.1 with e|e
        ·exact absurd (UInt8.toNat_inj.1 (show c.toNat =(48:UInt8).toNat from e.symm)) hc
        ·omega
      have hv:10 ^ t.length <=x:=by
        have hg:=dval_ge t (0 * 10 + (c.toNat - 48))
        have he:dval (c ::t)=x:=by rw[<-hd];exact h1
        rw[dval,List.foldl_cons]at he
        rw[he]at hg
        refine zO ?_ hg
        exact Nat.le_mul_of_pos_left _ ze
      rw[List.length_cons]
      have:10 ^ t.length < 10 ^ k:=Nat.lt_of_le_of_lt hv h
      exact(Nat.pow_lt_pow_iff_right dcx).1 this
/-! ### Bytes and names -/
/-! ### Expressions -/
inductive Nd where
  |mk (op:Int) (nm:List UInt8) (n v lo hi:Int) (ps:List Nd)
namespace Nd
def op:Nd ->Int|mk o _ _ _ _ _ _ =>o
def nm:Nd ->List UInt8|mk _ s _ _ _ _ _ =>s
def n:Nd ->Int|mk _ _ k _ _ _ _ =>k
def v:Nd ->Int|mk _ _ _ z _ _ _ =>z
def lo:Nd ->Int|mk _ _ _ _ a _ _ =>a
def hi:Nd ->Int|mk _ _ _ _ _ b _ =>b
def ps:Nd ->List Nd|mk _ _ _ _ _ _ l =>l
end Nd
def patL(b:Sc):Nat ->List UInt8 ->Bool
  |_, [] =>true
  |0,_ =>false
  | k + 1,c ::t =>if c =123 then decide (125∈t) && (qT (t.takeWhile (· !=125)) && (b.contains (t.takeWhile (· !=125)) && patL b k ((t.dropWhile (· !=125)).drop 1)))
    else(xP c || cDig c || decide (c =58) || decide (c =45)) && patL b k t
def patB(b:Sc)(s:List UInt8):Bool:=decide (s≠ []) && decide (s.length <=60) && patL b s.length s
def xM(op:Int):Bool:=decide (op =4) || decide (op =5) || decide (op =6) || decide (op =7) || decide (op =8) || decide (op =12) || decide (op =13)
def qZ(op:Int):Bool:=decide (op =9) || decide (op =10)
def okF(b:Sc)(op:Int)(nm:List UInt8)(n v lo hi:Int)(m:Nat):Bool:=
  if op =1 then decide (v.natAbs < 2 ^ 256) && (decide (nm = []) && decide (n =0) && decide (lo =0) && decide (hi =0) && decide (m =0))
  else if op =2 then qT nm && !b.contains nm && (decide (n =0) && decide (lo =0) && decide (hi =0) && decide (v =0) && decide (m =0))
  else if op =11 then qT nm && b.contains nm && (decide (n =0) && decide (lo =0) && decide (hi =0) && decide (v =0) && decide (m =0))
  else if op =3 then patB b nm && decide (0 <=n) && decide (n <=63) && (decide (lo =0) && decide (hi =0) && decide (v =0) && decide (m =0))
  else if qZ op then qT nm && decide (-1000000 <=lo) && decide (lo <=hi) && decide (hi <=1000000) && decide (hi - lo < 1000) && (decide (n =0) && decide (v =0) && decide (m =1))
  else if xM op then decide (nm = []) && decide (n =0) && decide (lo =0) && decide (hi =0) && decide (v =0) && decide (m =2)
  else false
def okN(b:Sc)(x:Nd):Bool:=okF b x.op x.nm x.n x.v x.lo x.hi x.ps.length
def inS(b:Sc)(x:Nd):Sc:=if qZ x.op then b ++ [x.nm]else b
def szL(f:Nd ->Nat):Nat ->List Nd ->Nat
  |m, [] =>m
  |m,a ::t =>if f a =0\/200 < m + f a then 0 else szL f (m + f a) t
def szN:Nat ->Sc ->Nd ->Nat
  |0,_,_ =>0
  |k + 1,b,x =>if okN b x then szL (szN k (inS b x)) 1 x.ps else 0
structure Cl where
  nm:List UInt8
  e:Nd
def rtL:Sc ->List Cl ->Bool
  |_, [] =>true
  |seen,c ::t =>qT c.nm && !seen.contains c.nm && decide (szN 20 [] c.e≠0) && rtL (seen ++ [c.nm]) t
def rtE(l:List Cl):Bool:=rtL [] l && decide (l.length <=40)
/-! ### Texts -/
noncomputable def shF (f:Nd ->List UInt8) (op:Int) (nm:List UInt8) (n v lo hi:Int) (ps:List Nd):List UInt8:=
  if op =1 then Lib.itoa v
  else if op =2\/op =11 then nm
  else if op =3 then wVal ++ [40,34] ++nm ++ [34,44,32] ++Lib.itoa n ++ [41]
  else match ps with
    | [a] =>opW op ++ [40] ++nm ++ [44,32] ++Lib.itoa lo ++ [44,32] ++Lib.itoa hi ++ [44,32] ++f a ++ [41]
    | [a,b] =>if op =4\/op =5\/op =6 then [40] ++f a ++ [32] ++opW op ++ [32] ++f b ++ [41]
      else opW op ++ [40] ++f a ++ [44,32] ++f b ++ [41]
    |_ => []
noncomputable def shN:Nat ->Nd ->List UInt8
  |0,_ => []
  |k + 1,x =>shF (shN k) x.op x.nm x.n x.v x.lo x.hi x.ps
noncomputable def shC (c:Cl):List UInt8:=c.nm ++ [32,61,32] ++shN 20 c.e ++ [10]
noncomputable def shL (l:List Cl):List UInt8:=(l.map shC).flatten
noncomputable def prE (l:List Cl):Int:=if rtE l then(if 20000 < (shL l).length then 2 else 0)else 1
/-! ### Reading -/
def qG(x s:List UInt8):Option (List UInt8) :=if x.isPrefixOf s then some (s.drop x.length)else none
def xE(s:List UInt8):List UInt8:=if [45].isPrefixOf s then [45]else []
noncomputable def numP (s:List UInt8):Option (Int×List UInt8) :=
  let w:=xE s ++ (s.drop (xE s).length).takeWhile qH
  if 100 < w.length\/qW w≠0 then none else some (xI w,(s.drop (xE s).length).dropWhile qH)
noncomputable def smlP (s:List UInt8):Option (Int×List UInt8) :=
  match numP s with
  |none =>none
  |some (z,t) =>if -1000000 <=z/\z <=1000000 then some (z,t)else none
def opP(s:List UInt8):Int:=if [43].isPrefixOf s then 4 else if [45].isPrefixOf s then 5 else if [42].isPrefixOf s then 6 else 0
def jE(w:List UInt8):Int:=if w =opW 7 then 7 else if w =opW 8 then 8 else if w =opW 9 then 9 else if w =opW 10 then 10 else if w =opW 12 then 12 else if w =opW 13 then 13 else 0
noncomputable def exP:Nat ->Sc ->List UInt8 ->Option (Nd×List UInt8)
  |0,_,_ =>none
  | k + 1, b, s =>
    match s with
    | [] =>none
    | c :: t =>
      if c =40 then
        (exP k b t).bind λ(x,s1) =>(qG [32] s1).bind λs2 =>(qG (opW (opP s2) ++ [32]) s2).bind λs3 =>
          (exP k b s3).bind λ(y,s4) =>(qG [41] s4).bind λs5 =>some (.mk (opP s2) [] 0 0 0 0 [x,y],s5)
      else if xP c then
        let w:=s.takeWhile qH
        let s1:=s.dropWhile qH
        match qG [40] s1 with
        |none =>some (.mk (if b.contains w then 11 else 2) w 0 0 0 0 [],s1)
        | some s2 =>
          (if w =wVal then
            (qG [34] s2).bind λs3 =>(qG [44,32] ((s3.dropWhile (· !=34)).drop 1)).bind λs4 =>(smlP s4).bind λ(z,s5) =>some (.mk 3 (s3.takeWhile (· !=34)) z 0 0 0 [],s5)
          else if jE w =0 then none
          else if qZ (jE w)then
            (qG [44,32] (s2.dropWhile qH)).bind λs3 =>(smlP s3).bind λ(lo,s4) =>(qG [44,32] s4).bind λs5 =>(smlP s5).bind λ(hi,s6) =>(qG [44,32] s6).bind λs7 =>
              (exP k (b ++ [s2.takeWhile qH]) s7).bind λ(x,s8) =>some (.mk (jE w) (s2.takeWhile qH) 0 0 lo hi [x],s8)
          else
            (exP k b s2).bind λ(x,s3) =>(qG [44,32] s3).bind λs4 =>(exP k b s4).bind λ(y,s5) =>some (.mk (jE w) [] 0 0 0 0 [x,y],s5)).bind λ(x,s6) =>(qG [41] s6).bind λs7 =>some (x,s7)
      else(numP s).bind λ(z,t) =>some (.mk 1 [] 0 z 0 0 [],t)
noncomputable def clP:Nat ->List UInt8 ->Option (List Cl)
  |_, [] =>some []
  |0,_ =>none
  |k + 1,s =>(qG [32,61,32] (s.dropWhile qH)).bind λs1 =>(exP 20 [] s1).bind λ(x,s2) =>(qG [10] s2).bind λs3 =>(clP k s3).bind λl =>some (⟨s.takeWhile qH,x⟩ ::l)
noncomputable def paE (s:List UInt8):List Cl×Int:=
  if 20000 < s.length then([],2)else match clP s.length s with
    |none =>([],420)
    |some l =>if prE l =0/\shL l =s then(l,0)else([],420)
/-! ### What is printed is read again -/
def Dl(r:List UInt8):Prop:=∃c t,r =c ::t/\qH c =false/\c≠40
theorem tw_app{p:UInt8 ->Bool}:∀(w r:List UInt8),w.all p =true ->(∀c t,r =c ::t ->p c =false) ->(w ++r).takeWhile p =w/\ (w ++r).dropWhile p =r
  | [], [],_,_ =>⟨rfl,rfl⟩
  | [],c ::t,_,h =>by simp[h c t rfl]
  | a ::w,r,hw,h =>by
    simp only[List.all_cons,Bool.and_eq_true]at hw
    obtain⟨h1,h2⟩ :=tw_app w r hw.2 h
    simp[hw.1,h1,h2]
theorem Dl.tw{w r:List UInt8}(hw:w.all qH =true)(h:Dl r):(w ++r).takeWhile qH =w/\ (w ++r).dropWhile qH =r:=
  tw_app w r hw λc t e =>by obtain⟨c',t',h1,h2,_⟩ :=h;rw[h1]at e;cases e;exact h2
theorem zC(x s:List UInt8):qG x (x ++s)=some s:=by
  have h:x.isPrefixOf (x ++s)=true:=by rw[List.isPrefixOf_iff_prefix];exact List.prefix_append _ _
  simp[qG,h]
theorem takeP1(c:UInt8)(s:List UInt8):qG [c] (c ::s)=some s:=zC [c] s
theorem takeP_no{c d:UInt8}(h:c≠d)(s:List UInt8):qG [c] (d ::s)=none:=by
  simp[qG,List.isPrefixOf,h]
theorem Dl.no40{r:List UInt8}(h:Dl r):qG [40] r =none:=by
  obtain⟨c,t,rfl,_,h2⟩ :=h
  exact takeP_no (Ne.symm h2) t
theorem dig_wrd{c:UInt8}(h:xX c =true):qH c =true/\c≠45/\c≠40/\xP c =false:=by
  simp only[xX,Bool.and_eq_true,zS]at h
  refine⟨by simp[qH,cDig,h],?_,?_,?_⟩
  ·rintro rfl;revert h;decide
  ·rintro rfl;revert h;decide
  ·simp only[xP,Bool.or_eq_false_iff,Bool.and_eq_false_iff,zM];omega
theorem let_wrd{c:UInt8}(h:xP c =true):qH c =true/\c≠40:=⟨by simp[qH,h],by rintro rfl;revert h;decide⟩
theorem num_sh{z:Int}{r:List UInt8}(hz:z.natAbs < 2 ^ 256)(h:Dl r):numP (Lib.itoa z ++r)=some (z,r)/\∃c t,Lib.itoa z =c ::t/\c≠40/\xP c =false:=by
  obtain⟨-,hd,hne⟩:z.natAbs =z.natAbs/\ (∀c∈Lib.decDigits z.natAbs,xX c =true)/\Lib.decDigits z.natAbs≠ [] :=let ⟨_,h2,h3⟩ :=dval_dec z.natAbs;⟨rfl,h2,by first|exact h3|exact h3.1⟩
  have hl:(Lib.decDigits z.natAbs).length <=78:=dec_len10 _ 78 (Nat.lt_of_lt_of_le hz dcx) dcx
  have hw:(Lib.decDigits z.natAbs).all qH =true:=List.all_eq_true.2 λc hc =>(dig_wrd (hd c hc)).1
  obtain⟨t1,t2⟩ :=Dl.tw hw h
  obtain⟨a,l,ha⟩:∃a l,Lib.decDigits z.natAbs =a ::l:=by
    cases hq:Lib.decDigits z.natAbs with
    |nil =>exact absurd hq hne
    |cons a l =>exact⟨a,l,rfl⟩
  by_cases hn:z < 0
  · have hi:Lib.itoa z =45 ::Lib.decDigits z.natAbs:=by rw[Lib.itoa,if_pos hn]
    have hp:=parse_text z (by rw[hi];simp;omega)
    have hm:xE (Lib.itoa z ++r)= [45] :=by rw[hi];simp[xE,List.isPrefixOf]
    refine⟨?_,45,_,hi,by decide,by decide⟩
    have hw2: [45] ++ ((Lib.itoa z ++r).drop [(45:UInt8)].length).takeWhile qH =Lib.itoa z:=by rw[hi];simpa using t1
    have hw3:((Lib.itoa z ++r).drop [(45:UInt8)].length).dropWhile qH =r:=by rw[hi];simpa using t2
    simp only[numP,hm,hw2,hw3,hp.1,hp.2]
    rw[if_neg]
    rw[hi];simp;omega
  · have hi:Lib.itoa z =Lib.decDigits z.natAbs:=by
      rw[Lib.itoa,if_neg hn];congr 1;omega
    have hp:=parse_text z (by rw[hi];omega)
    have h3:=dig_wrd (hd a (by rw[ha];simp))
    have hm:xE (Lib.itoa z ++r)= [] :=by
      rw[hi,ha];simp[xE,List.isPrefixOf,Ne.symm h3.2.1]
    refine⟨?_,a,l,hi.trans ha,h3.2.2.1,h3.2.2.2⟩
    have hw2: [] ++ ((Lib.itoa z ++r).drop ([]:List UInt8).length).takeWhile qH =Lib.itoa z:=by rw[hi];simpa using t1
    have hw3:((Lib.itoa z ++r).drop ([]:List UInt8).length).dropWhile qH =r:=by rw[hi];simpa using t2
    simp only[numP,hm,hw2,hw3,hp.1,hp.2]
    rw[if_neg]
    rw[hi];simp;omega
theorem sml_sh{z:Int}{r:List UInt8}(h1: -1000000 <=z)(h2:z <=1000000)(h:Dl r):smlP (Lib.itoa z ++r)=some (z,r) :=by
  rw[smlP,(num_sh (Nat.lt_of_le_of_lt (show z.natAbs <=1000000 by omega) dcx) h).1]
  simp[h1,h2]
theorem name_parts{s:List UInt8}(h:qT s =true):s.all qH =true/\resv.contains s =false/\∃c t,s =c ::t/\xP c =true:=by
  simp only[qT,wordB,Bool.and_eq_true,Bool.not_eq_true']at h
  refine⟨h.2.2,h.1,?_⟩
  cases s with
  |nil =>simp at h
  |cons c t =>exact⟨c,t,rfl,h.2.1.2⟩
theorem dl41(r:List UInt8):Dl (41 ::r) :=⟨41,r,rfl,by decide,by decide⟩
theorem dl44(r:List UInt8):Dl (44 ::r) :=⟨44,r,rfl,by decide,by decide⟩
theorem dl32(r:List UInt8):Dl (32 ::r) :=⟨32,r,rfl,by decide,by decide⟩
theorem dl10(r:List UInt8):Dl (10 ::r) :=⟨10,r,rfl,by decide,by decide⟩
theorem dl44b(r:List UInt8):Dl ([44,32] ++r) :=dl44 _
theorem pat_no34 (b:Sc):∀(k:Nat) (s:List UInt8),patL b k s =true ->s.length <=k ->(34:UInt8) ∉ s:=by
  intro k
  induction k with
  |zero =>intro s _ h;simp at h;subst h;simp
  | succ k ih =>
    intro s h hl
    cases s with
    |nil =>simp
    | cons c t =>
      rw[patL]at h
      simp only[List.length_cons]at hl
      by_cases hc:c =123
      · rw [if_pos hc]at h
        simp only[Bool.and_eq_true,zS]at h
        obtain⟨h1,h2,h3,h4⟩ :=h
        have hw:=(name_parts h2).1
        have h5:=ih _ h4 (by
          have:(t.dropWhile (· !=125)).length <=t.length:=(List.dropWhile_suffix _).length_le
          simp;omega)
        intro hm
        rcases List.mem_cons.1 hm with e|hm
        ·rw[hc]at e;exact absurd e dcx
        · rw [<- List.takeWhile_append_dropWhile (p:=(· !=125)) (l:=t)]at hm
          rcases List.mem_append.1 hm with hm|hm
          · have:=List.all_eq_true.1 hw _ hm
            exact absurd this dcx
          · cases hd:t.dropWhile (· !=125)with
            |nil =>rw[hd]at hm;cases hm
            | cons d u =>
              rw[hd]at hm h5
              rcases List.mem_cons.1 hm with e|hm
              · have:=List.head?_dropWhile_not (· !=(125:UInt8)) t
                rw[hd,<-e]at this
                simp at this
              ·exact h5 hm
      · rw[if_neg hc]at h
        simp only[Bool.and_eq_true]at h
        intro hm
        rcases List.mem_cons.1 hm with e|hm
        ·rw[<-e]at h;revert h;intro h;have:=h.1;revert this;decide
        ·exact ih t h.2 ze hm
theorem szL_all{f:Nd ->Nat}:∀ {l:List Nd} {m:Nat},szL f m l≠0 ->∀a∈l,f a≠0
  | [],_,_,a,ha =>by cases ha
  | x ::t,m,h,a,ha =>by
    rw[szL]at h
    by_cases hx:f x =0\/200 < m + f x
    ·rw[if_pos hx]at h;exact absurd rfl h
    · rw[if_neg hx]at h
      rcases List.mem_cons.1 ha with rfl|ha
      ·exact λe =>hx (.inl e)
      ·exact szL_all h a ha
theorem takeW34{s r:List UInt8}(h:(34:UInt8) ∉ s):(s ++34 ::r).takeWhile (· !=34)=s/\ (s ++34 ::r).dropWhile (· !=34)=34 ::r:=
  tw_app s (34 ::r) (List.all_eq_true.2 λc hc =>by simp;rintro rfl;exact h hc) (λc t e =>by cases e;decide)
theorem shN_mk(k:Nat)(o:Int)(nm:List UInt8)(n v lo hi:Int)(ps:List Nd):shN (k + 1) ⟨o,nm,n,v,lo,hi,ps⟩=shF (shN k) o nm n v lo hi ps:=rfl
theorem tNb_2{P:Prop}(h:P:=by
  exact⟨by decide,.inl ⟨by decide,λs =>by simp[opP,opW,List.isPrefixOf]⟩⟩
  ):P:=h
theorem ex_sh:∀(k:Nat) (b:Sc) (x:Nd) (r:List UInt8),szN k b x≠0 ->Dl r ->exP k b (shN k x ++r)=some (x,r)/\shN k x≠ [] :=by
  intro k
  induction k with
  |zero =>intro b x r h;exact absurd rfl h
  | succ k ih =>
    intro b x r h hr
    obtain⟨o,nm,n,v,lo,hi,ps⟩ :=x
    rw[szN]at h
    by_cases hok:okN b ⟨o,nm,n,v,lo,hi,ps⟩=true
    · rw [if_pos hok]at h
      have hall:=szL_all h
      clear h
      change okF b o nm n v lo hi ps.length =true at hok
      change ∀a∈ps,szN k (inS b ⟨o,nm,n,v,lo,hi,ps⟩) a≠0 at hall
      unfold okF at hok
      by_cases h1:o =1
      · rw[if_pos h1]at hok
        simp only[Bool.and_eq_true,zS,List.length_eq_zero_iff,and_assoc]at hok
        obtain⟨hv,rfl,rfl,rfl,rfl,rfl⟩ :=hok
        obtain⟨q1,c,t,q2,q3,q4⟩ :=num_sh hv hr
        have hs:shN (k + 1) ⟨o, [],0,v,0,0, []⟩=Lib.itoa v:=by simp[shN_mk,shF,h1]
        rw[hs]
        refine⟨?_,by rw[q2];simp⟩
        rw[q2]at q1 ⊢
        rw[List.cons_append]at q1 ⊢
        simp only[exP]
        rw[if_neg q3,if_neg (by rw[q4];decide),q1]
        simp[h1]
      rw[if_neg h1]at hok
      by_cases h2:o =2
      · rw[if_pos h2]at hok
        simp only[Bool.and_eq_true,zS,List.length_eq_zero_iff,Bool.not_eq_true',and_assoc]at hok
        obtain⟨hn,hb,rfl,rfl,rfl,rfl,rfl⟩ :=hok
        obtain⟨p1,p2,c,t,p3,p4⟩ :=name_parts hn
        have hs:shN (k + 1) ⟨o,nm,0,0,0,0, []⟩=nm:=by simp[shN_mk,shF,h2]
        rw[hs]
        obtain⟨t1,t2⟩ :=Dl.tw p1 hr
        refine⟨?_,by rw[p3];simp⟩
        rw[p3]at t1 t2 ⊢
        rw[List.cons_append]at t1 t2 ⊢
        simp only[exP]
        rw[if_neg (let_wrd p4).2,if_pos p4,t1,t2,hr.no40,<-p3]
        simp at hb
        simp[hb,h2]
      rw[if_neg h2]at hok
      by_cases h3:o =11
      · rw[if_pos h3]at hok
        simp only[Bool.and_eq_true,zS,List.length_eq_zero_iff,and_assoc]at hok
        obtain⟨hn,hb,rfl,rfl,rfl,rfl,rfl⟩ :=hok
        obtain⟨p1,p2,c,t,p3,p4⟩ :=name_parts hn
        have hs:shN (k + 1) ⟨o,nm,0,0,0,0, []⟩=nm:=by simp[shN_mk,shF,h3]
        rw[hs]
        obtain⟨t1,t2⟩ :=Dl.tw p1 hr
        refine⟨?_,by rw[p3];simp⟩
        rw[p3]at t1 t2 ⊢
        rw[List.cons_append]at t1 t2 ⊢
        simp only[exP]
        rw[if_neg (let_wrd p4).2,if_pos p4,t1,t2,hr.no40,<-p3]
        simp at hb
        simp[hb,h3]
      rw[if_neg h3]at hok
      by_cases h4:o =3
      · rw[if_pos h4]at hok
        simp only[Bool.and_eq_true,zS,List.length_eq_zero_iff,and_assoc]at hok
        obtain⟨hp,n0,n1,rfl,rfl,rfl,rfl⟩ :=hok
        simp only[patB,Bool.and_eq_true,zS]at hp
        have h34:=pat_no34 b _ nm hp.2 (zN _)
        have hs:shN (k + 1) ⟨o,nm,n,0,0,0, []⟩ ++r =118 ::([97,108,117,101] ++ (40 ::(34 ::(nm ++34 ::([44,32] ++ (Lib.itoa n ++41 ::r)))))) :=by simp[shN_mk,shF,h4,wVal]
        refine⟨?_,by intro e;rw[e]at hs;have:=congrArg List.length hs;simp at this;omega⟩
        rw[hs]
        obtain⟨t1,t2⟩ :=tw_app (p:=qH) wVal (40 ::(34 ::(nm ++34 ::([44,32] ++ (Lib.itoa n ++41 ::r))))) dcx (λc t e =>by cases e;decide)
        have t1':(118 ::([97,108,117,101] ++ (40 ::(34 ::(nm ++34 ::([44,32] ++ (Lib.itoa n ++41 ::r))))))).takeWhile qH =wVal:=t1
        have t2':(118 ::([97,108,117,101] ++ (40 ::(34 ::(nm ++34 ::([44,32] ++ (Lib.itoa n ++41 ::r))))))).dropWhile qH =(40 ::(34 ::(nm ++34 ::([44,32] ++ (Lib.itoa n ++41 ::r))))) :=t2
        simp only[exP]
        rw[if_neg dcx,if_pos dcx,t1',t2',takeP1]
        simp only[if_pos]
        rw[takeP1]
        simp only[Option.bind_some,(takeW34 h34).1,(takeW34 h34).2,List.drop_succ_cons,List.drop_zero,zC]
        rw[sml_sh (by omega) (by omega) (dl41 _)]
        simp[takeP1,h4]
      rw[if_neg h4]at hok
      by_cases h5:qZ o =true
      · rw [if_pos h5]at hok
        simp only[Bool.and_eq_true,zS,and_assoc]at hok
        obtain⟨hn,b1,b2,b3,b4,rfl,rfl,hl⟩ :=hok
        obtain⟨a,rfl⟩ :=List.length_eq_one_iff.1 hl
        have hin:inS b ⟨o,nm,0,0,lo,hi, [a]⟩=b ++ [nm] :=by simp[inS,Nd.op,Nd.nm,h5]
        have ha:=hall a zo
        rw[hin]at ha
        obtain⟨i1,i2⟩ :=ih (b ++ [nm]) a (41 ::r) ha (dl41 r)
        obtain⟨p1,p2,c,t,p3,p4⟩ :=name_parts hn
        have hw:(opW o).all qH =true/\jE (opW o)=o/\opW o≠wVal/\∃c t,opW o =c ::t/\xP c =true:=by
          simp only[qZ,Bool.or_eq_true,zS]at h5
          rcases h5 with rfl|rfl
          ·exact⟨by decide,by decide,by decide,_,_,rfl,by decide⟩
          ·exact⟨by decide,by decide,by decide,_,_,rfl,by decide⟩
        obtain⟨w1,w2,w3,c2,u,w4,w5⟩ :=hw
        obtain⟨R,hR⟩:∃R,R =40 ::(nm ++ ([44,32] ++ (Lib.itoa lo ++ ([44,32] ++ (Lib.itoa hi ++ ([44,32] ++ (shN k a ++41 ::r))))))) :=⟨_,rfl⟩
        have hs:shN (k + 1) ⟨o,nm,0,0,lo,hi, [a]⟩ ++r =opW o ++R:=by
          rw[hR];simp[shN_mk,shF,h1,h2,h3,h4]
        refine⟨?_,by intro e;rw[e,hR,w4]at hs;have:=congrArg List.length hs;simp at this;omega⟩
        obtain⟨t1,t2⟩ :=tw_app (p:=qH) (opW o) R w1 (λc t e =>by rw[hR]at e;cases e;decide)
        have ho:¬(o =0) :=by rintro rfl;exact absurd h5 dcx
        rw[hs]
        rw[w4]at t1 t2 ⊢
        rw[List.cons_append]at t1 t2 ⊢
        simp only[exP]
        rw[if_neg (let_wrd w5).2,if_pos w5,t1,t2,<-w4,hR,takeP1]
        simp only[w2]
        rw[if_neg w3,if_neg ho,if_pos h5]
        obtain⟨m1,m2⟩ :=tw_app (p:=qH) nm ([44,32] ++ (Lib.itoa lo ++ ([44,32] ++ (Lib.itoa hi ++ ([44,32] ++ (shN k a ++41 ::r)))))) p1 (λc t e =>by cases e;decide)
        rw[m1,m2,zC]
        simp only[Option.bind_some]
        rw[sml_sh (by omega) (by omega) (dl44b _)]
        simp only[Option.bind_some]
        rw[zC]
        simp only[Option.bind_some]
        rw[sml_sh (by omega) (by omega) (dl44b _)]
        simp only[Option.bind_some]
        rw[zC]
        simp only[Option.bind_some]
        rw[i1]
        simp[takeP1]
      rw[if_neg h5]at hok
      by_cases h6:xM o =true
      · rw [if_pos h6]at hok
        simp only[Bool.and_eq_true,zS,and_assoc]at hok
        obtain⟨rfl,rfl,rfl,rfl,rfl,hl⟩ :=hok
        obtain⟨a,a2,rfl⟩:∃a a2,ps = [a,a2] :=by
          match ps,hl with
          | [a,a2],_ =>exact⟨a,a2,rfl⟩
        have hin:inS b ⟨o, [],0,0,0,0, [a,a2]⟩=b:=by simp[inS,Nd.op,h5]
        rw[hin]at hall
        have hw:(opW o≠ [])/\ ((o =4\/o =5\/o =6)/\ (∀s,opP (opW o ++s)=o)\/¬(o =4\/o =5\/o =6)/\ (opW o).all qH =true/\jE (opW o)=o/\opW o≠wVal/\∃c t,opW o =c ::t/\xP c =true) :=by
          simp only[xM,Bool.or_eq_true,zS]at h6
          rcases h6 with(((((rfl|rfl)|rfl)|rfl)|rfl)|rfl)|rfl
          ·exact tNb_2
          ·exact tNb_2
          ·exact tNb_2
          all_goals exact⟨by decide,.inr ⟨by decide,by decide,by decide,by decide,_,_,rfl,by decide⟩⟩
        obtain⟨w0,hw⟩ :=hw
        have h7:¬(o =2\/o =11) :=by rintro(h|h);exact h2 h;exact h3 h
        rcases hw with⟨hi1,hi2⟩| ⟨hi1,w1,w2,w3,c2,u,w4,w5⟩
        · have hs:shN (k + 1) ⟨o, [],0,0,0,0, [a,a2]⟩ ++r =40 ::(shN k a ++32 ::(opW o ++ ([32] ++ (shN k a2 ++41 ::r)))) :=by
            simp only[shN_mk,shF,if_neg h1,if_neg h7,if_neg h4,if_pos hi1];simp
          refine⟨?_,by intro e;rw[e]at hs;have:=congrArg List.length hs;simp at this;omega⟩
          rw[hs]
          simp only[exP]
          rw[if_pos trivial,(ih b a _ (hall a (by simp)) (dl32 _)).1]
          simp only[Option.bind_some]
          rw[takeP1]
          simp only[Option.bind_some,hi2]
          rw[<-List.append_assoc (opW o),zC]
          simp only[Option.bind_some]
          rw[(ih b a2 _ (hall a2 (by simp)) (dl41 _)).1]
          simp[takeP1]
        · obtain⟨R,hR⟩:∃R,R =40 ::(shN k a ++ ([44,32] ++ (shN k a2 ++41 ::r))) :=⟨_,rfl⟩
          have hs:shN (k + 1) ⟨o, [],0,0,0,0, [a,a2]⟩ ++r =opW o ++R:=by
            rw[hR];simp only[shN_mk,shF,if_neg h1,if_neg h7,if_neg h4,if_neg hi1];simp
          refine⟨?_,by intro e;rw[e,hR,w4]at hs;have:=congrArg List.length hs;simp at this;omega⟩
          obtain⟨t1,t2⟩ :=tw_app (p:=qH) (opW o) R w1 (λc t e =>by rw[hR]at e;cases e;decide)
          have ho:¬(o =0) :=by rintro rfl;exact absurd h6 dcx
          rw[hs]
          rw[w4]at t1 t2 ⊢
          rw[List.cons_append]at t1 t2 ⊢
          simp only[exP]
          rw[if_neg (let_wrd w5).2,if_pos w5,t1,t2,<-w4,hR,takeP1]
          simp only[w2]
          rw[if_neg w3,if_neg ho,if_neg h5,(ih b a _ (hall a (by simp)) (dl44b _)).1]
          simp only[Option.bind_some]
          rw[zC]
          simp only[Option.bind_some]
          rw[(ih b a2 _ (hall a2 (by simp)) (dl41 _)).1]
          simp[takeP1]
      · rw[if_neg h6]at hok
        cases hok
    · rw[if_neg hok]at h
      exact absurd rfl h
theorem tNb_1{P:Prop}(h:P:=by
  rw[hs]
  rw[p3]at t1' t2' ⊢
  rw[List.cons_append]at t1' t2' ⊢
  simp only[clP]
  rw[t1',t2',zC]
  simp only[Option.bind_some]
  rw[(ex_sh 20 [] c.e _ h2 (dl10 _)).1]
  simp only[Option.bind_some]
  rw[takeP1]
  simp only[Option.bind_some]
  rw[ih]
  simp[<-p3]
  ):P:=h
theorem cl_sh:∀(l:List Cl) (seen:Sc) (m:Nat),rtL seen l =true ->(shL l).length <=m ->clP m (shL l)=some l
  | [],_,m,_,_ =>by cases m <;> rfl
  | c ::t,seen,m,h,hm =>by
    rw[rtL]at h
    simp only[Bool.and_eq_true,zS]at h
    obtain⟨⟨⟨h1,_⟩,h2⟩,h3⟩ :=h
    obtain⟨p1,p2,d,u,p3,p4⟩ :=name_parts h1
    have hs:shL (c ::t)=c.nm ++ ([32,61,32] ++ (shN 20 c.e ++ (10 ::shL t))) :=by simp[shL,shC]
    have hlen:=congrArg List.length hs
    simp only[zQ,List.length_cons,List.length_nil]at hlen
    cases m with
    |zero =>omega
    | succ m =>
      have ih:=cl_sh t (seen ++ [c.nm]) m h3 ze
      obtain⟨t1,t2⟩ :=Dl.tw p1 (dl32 ([61,32] ++ (shN 20 c.e ++ (10 ::shL t))))
      have t1':(c.nm ++ ([32,61,32] ++ (shN 20 c.e ++ (10 ::shL t)))).takeWhile qH =c.nm:=t1
      have t2':(c.nm ++ ([32,61,32] ++ (shN 20 c.e ++ (10 ::shL t)))).dropWhile qH = [32,61,32] ++ (shN 20 c.e ++ (10 ::shL t)) :=t2
      exact tNb_1
theorem pa_sh{l:List Cl}(h:prE l =0):paE (shL l)=(l,0) :=by
  have hr:rtE l =true/\ (shL l).length <=20000:=by
    unfold prE at h
    by_cases h1:rtE l =true
    · rw[if_pos h1]at h
      refine⟨h1,?_⟩
      by_cases h2:20000 < (shL l).length
      ·rw[if_pos h2]at h;exact absurd h dcx
      ·omega
    ·rw[if_neg h1]at h;exact absurd h dcx
  have h1:=hr.1
  simp only[rtE,Bool.and_eq_true]at h1
  rw[paE,if_neg (by omega),cl_sh l [] _ h1.1 (zN _)]
  simp[h]
theorem pa_ok{s:List UInt8}{l:List Cl}(h:paE s =(l,0)):prE l =0/\shL l =s:=by
  unfold paE at h
  by_cases h1:20000 < s.length
  ·rw[if_pos h1]at h;simp at h
  · rw [if_neg h1]at h
    cases hc:clP s.length s with
    |none =>rw[hc]at h;simp at h
    | some l' =>
      rw[hc]at h
      simp only at h
      by_cases h2:prE l' =0/\shL l' =s
      ·rw[if_pos h2]at h;simp at h;rw[<-h];exact h2
      ·rw[if_neg h2]at h;simp at h
/-! ### The reference's trees -/
def nmCs:Sc:= [[97], [98], [99,50], [108,111,110,103,95,110,97,109,101]]
def nmVs:Sc:= [[120], [121], [110,95,49]]
def nmEs:Sc:= [[99,58,45,50,51], [99,58,45,52], [104,58,55], [104,58,56], [101,58,55,58,49,58,50], [120]]
inductive Tr:Nat ->Sc ->Nd ->Prop
  |num {d:Nat} {b:Sc} {z:Int}: -900 <=z ->z <=64125 ->Tr d b ⟨1, [],0,z,0,0, []⟩
  |cell {d:Nat} {b:Sc} {s:List UInt8}:s∈nmCs ->Tr d b ⟨2,s,0,0,0,0, []⟩
  |var {d:Nat} {b:Sc} {s:List UInt8}:s∈b ->Tr d b ⟨11,s,0,0,0,0, []⟩
  |val {d:Nat} {b:Sc} {s:List UInt8} {n:Int}:s∈nmEs ->0 <=n ->n <=2 ->Tr d b ⟨3,s,n,0,0,0, []⟩
  |valh {d:Nat} {b:Sc} {s:List UInt8} {n:Int}:s∈b ->0 <=n ->n <=2 ->Tr d b ⟨3, [104,58,123] ++s ++ [125],n,0,0,0, []⟩
  |loop {d:Nat} {b:Sc} {o:Int} {s:List UInt8} {lo hi:Int} {a:Nd}:qZ o =true ->s∈nmVs -> -100 <=lo ->lo <=155 ->lo <=hi ->hi <=lo + 6 ->Tr d (b ++ [s]) a ->Tr (d + 1) b ⟨o,s,0,0,lo,hi, [a]⟩
  |bin {d:Nat} {b:Sc} {o:Int} {a c:Nd}:xM o =true ->Tr d b a ->Tr d b c ->Tr (d + 1) b ⟨o, [],0,0,0,0, [a,c]⟩
theorem okF_bin{b:Sc}{o:Int}(h:xM o =true):okF b o [] 0 0 0 0 2 =true/\qZ o =false:=by
  simp only[xM,Bool.or_eq_true,zS]at h
  rcases h with(((((rfl|rfl)|rfl)|rfl)|rfl)|rfl)|rfl <;> exact⟨rfl,rfl⟩
theorem okF_loop{b:Sc}{o lo hi:Int}{s:List UInt8}(h:qZ o =true)(hs:s∈nmVs)(h1: -100 <=lo)(h2:lo <=155)(h3:lo <=hi)(h4:hi <=lo + 6):okF b o s 0 0 lo hi 1 =true:=by
  have hn:qT s =true:=by
    simp only[nmVs,List.mem_cons,List.not_mem_nil,or_false]at hs
    rcases hs with rfl|rfl|rfl <;> decide
  have ho:o≠1/\o≠2/\o≠11/\o≠3:=by
    simp only[qZ,Bool.or_eq_true,zS]at h;omega
  unfold okF
  rw[if_neg ho.1,if_neg ho.2.1,if_neg ho.2.2.1,if_neg ho.2.2.2,if_pos h,hn]
  simp;omega
theorem szN_mk(k:Nat)(b:Sc)(o:Int)(nm:List UInt8)(n v lo hi:Int)(ps:List Nd):szN (k + 1) b ⟨o,nm,n,v,lo,hi,ps⟩=if okF b o nm n v lo hi ps.length then szL (szN k (if qZ o then b ++ [nm]else b)) 1 ps else 0:=rfl
theorem nmV_name{s:List UInt8}(hs:s∈nmVs):qT s =true/\s.length <=3/\s.all (· !=125)=true/\s ∉ nmCs:=by
  simp only[nmVs,List.mem_cons,List.not_mem_nil,or_false]at hs
  rcases hs with rfl|rfl|rfl <;> exact⟨by decide,by decide,by decide,by decide⟩
theorem tr_sz{d:Nat}{b:Sc}{x:Nd}(h:Tr d b x):∀(k:Nat),d <=5 ->(∀s∈b,s∈nmVs) ->1 <=szN (d + 1 + k) b x/\szN (d + 1 + k) b x + 1 <=2 ^ (d + 1) :=by
  have leaf:∀(d k:Nat) (b:Sc) (o:Int) (nm:List UInt8) (n v:Int),okF b o nm n v 0 0 0 =true ->1 <=szN (d + 1 + k) b ⟨o,nm,n,v,0,0, []⟩/\szN (d + 1 + k) b ⟨o,nm,n,v,0,0, []⟩ + 1 <=2 ^ (d + 1) :=by
    intro d k b o nm n v h
    have:2 ^ 1 <=2 ^ (d + 1) :=Nat.pow_le_pow_right dcx ze
    rw[show d + 1 + k =(d + k) + 1 by omega,szN_mk,List.length_nil,if_pos h]
    simp only[szL];omega
  induction h with
  |num h1 h2 =>intro k _ _;exact leaf _ _ _ _ _ _ _ (by unfold okF;simp;omega)
  | @cell d b s hs =>
    intro k _ hb
    refine leaf _ _ _ _ _ _ _ ?_
    have h1:qT s =true:=by
      simp only[nmCs,List.mem_cons,List.not_mem_nil,or_false]at hs
      rcases hs with rfl|rfl|rfl|rfl <;> decide
    have h2:s ∉ b:=λhm =>(nmV_name (hb s hm)).2.2.2 hs
    unfold okF;simp[h1,h2]
  | @var d b s hs =>
    intro k _ hb
    refine leaf _ _ _ _ _ _ _ ?_
    unfold okF;simp[hs,(nmV_name (hb s hs)).1]
  | @val d b s n hs h1 h2 =>
    intro k _ hb
    refine leaf _ _ _ _ _ _ _ ?_
    have h3:patB b s =true:=by
      simp only[nmEs,List.mem_cons,List.not_mem_nil,or_false]at hs
      rcases hs with rfl|rfl|rfl|rfl|rfl|rfl <;> simp[patB,patL,xP,cDig]
    unfold okF;simp[h3];omega
  | @valh d b s n hs h1 h2 =>
    intro k _ hb
    refine leaf _ _ _ _ _ _ _ ?_
    obtain⟨m1,m2,m3,_⟩ :=nmV_name (hb s hs)
    have h3:patB b ([104,58,123] ++s ++ [125])=true:=by
      obtain⟨t1,t2⟩ :=tw_app (p:=(· !=(125:UInt8))) s [125] m3 (λc t e =>by cases e;decide)
      simp only[patB,List.cons_append,List.nil_append,List.length_cons,zQ,List.length_nil]
      simp only[patL]
      rw[if_neg dcx,if_neg dcx,if_pos trivial,t1,t2,m1]
      have hl:s.length + (0 + 1) + 1 + 1 + 1 <=60:=ze
      simp[hs,xP,hl,patL]
    unfold okF;simp only[h3];simp;omega
  | @loop d b o s lo hi a ho hs h1 h2 h3 h4 ha ih =>
    intro k hd hb
    obtain⟨i1,i2⟩ :=ih k ze (λs' hm =>(List.mem_append.1 hm).elim (hb s') (λe =>by rw[List.mem_singleton.1 e];exact hs))
    rw[show d + 1 + 1 + k =(d + 1 + k) + 1 by omega,szN_mk,List.length_singleton,okF_loop ho hs h1 h2 h3 h4,if_pos rfl,if_pos ho]
    have:(2:Nat) ^ (d + 1) <=2 ^ 5:=Nat.pow_le_pow_right dcx ze
    simp only[szL]
    rw[if_neg (by omega),Nat.pow_succ]
    omega
  | @bin d b o a c ho ha hc ih1 ih2 =>
    intro k hd hb
    obtain⟨i1,i2⟩ :=ih1 k ze hb
    obtain⟨j1,j2⟩ :=ih2 k ze hb
    obtain⟨o1,o2⟩ :=okF_bin (b:=b) ho
    rw[show d + 1 + 1 + k =(d + 1 + k) + 1 by omega,szN_mk]
    simp only[List.length_cons,List.length_nil,o1,o2,if_pos]
    have:(2:Nat) ^ (d + 1) <=2 ^ 5:=Nat.pow_le_pow_right dcx ze
    simp only[szL]
    rw[if_neg (by simp;omega),if_neg (by simp;omega),Nat.pow_succ]
    simp;omega
theorem itoa_len{z:Int}(h:z.natAbs < 10 ^ 5):(Lib.itoa z).length <=6:=by
  have:=dec_len10 z.natAbs 5 h dcx
  by_cases hn:z < 0
  ·rw[Lib.itoa,if_pos hn,List.length_cons];omega
  ·rw[Lib.itoa,if_neg hn,show z.toNat =z.natAbs by omega];omega
theorem opW_len(o:Int):(opW o).length <=5:=by
  unfold opW
  repeat' split
  all_goals decide
theorem tr_len{d:Nat}{b:Sc}{x:Nd}(h:Tr d b x):∀(k:Nat),(∀s∈b,s∈nmVs) ->(shN k x).length + 40 <=40 * 2 ^ (d + 1) :=by
  have leaf:∀(d k:Nat) (o:Int) (nm:List UInt8) (n v:Int),nm.length <=9 ->n.natAbs < 10 ^ 5 ->v.natAbs < 10 ^ 5 ->(shN k ⟨o,nm,n,v,0,0, []⟩).length + 40 <=40 * 2 ^ (d + 1) :=by
    intro d k o nm n v h1 h2 h3
    have h4:2 ^ 1 <=2 ^ (d + 1) :=Nat.pow_le_pow_right dcx ze
    have h5:=itoa_len h2
    have h6:=itoa_len h3
    suffices (shN k ⟨o,nm,n,v,0,0, []⟩).length <=40 by omega
    cases k with
    |zero =>simp[shN]
    | succ k =>
      rw[shN_mk]
      unfold shF
      split
      ·omega
      · split
        ·omega
        · by_cases h9:o =3
          ·rw[if_pos h9];simp[wVal];omega
          ·rw[if_neg h9];exact Nat.zero_le _
  induction h with
  |num h1 h2 =>intro k _;exact leaf _ _ _ _ _ _ zo dcx ze
  | @cell d b s hs =>
    intro k _
    refine leaf _ _ _ _ _ _ ?_ dcx dcx
    simp only[nmCs,List.mem_cons,List.not_mem_nil,or_false]at hs
    rcases hs with rfl|rfl|rfl|rfl <;> decide
  | @var d b s hs =>intro k hb;exact leaf _ _ _ _ _ _ (by have:=(nmV_name (hb s hs)).2.1;omega) dcx dcx
  | @val d b s n hs h1 h2 =>
    intro k hb
    refine leaf _ _ _ _ _ _ ?_ ze dcx
    simp only[nmEs,List.mem_cons,List.not_mem_nil,or_false]at hs
    rcases hs with rfl|rfl|rfl|rfl|rfl|rfl <;> decide
  | @valh d b s n hs h1 h2 =>intro k hb;exact leaf _ _ _ _ _ _ (by have:=(nmV_name (hb s hs)).2.1;simp;omega) ze dcx
  | @loop d b o s lo hi a ho hs h1 h2 h3 h4 ha ih =>
    intro k hb
    have hp:2 ^ 1 <=2 ^ (d + 1) :=Nat.pow_le_pow_right dcx ze
    cases k with
    |zero =>simp only[shN,List.length_nil,Nat.pow_succ];omega
    | succ k =>
      have i1:=ih k (λs' hm =>(List.mem_append.1 hm).elim (hb s') (λe =>by rw[List.mem_singleton.1 e];exact hs))
      have h5:=itoa_len (z:=lo) ze
      have h6:=itoa_len (z:=hi) ze
      have h7:=opW_len o
      have h8:=(nmV_name hs).2.1
      have ho':o≠1/\¬(o =2\/o =11)/\o≠3:=by
        simp only[qZ,Bool.or_eq_true,zS]at ho;omega
      rw[shN_mk,shF,if_neg ho'.1,if_neg ho'.2.1,if_neg ho'.2.2,Nat.pow_succ]
      simp only[zQ,List.length_cons,List.length_nil]
      omega
  | @bin d b o a c ho ha hc ih1 ih2 =>
    intro k hb
    have hp:2 ^ 1 <=2 ^ (d + 1) :=Nat.pow_le_pow_right dcx ze
    cases k with
    |zero =>simp only[shN,List.length_nil,Nat.pow_succ];omega
    | succ k =>
      have i1:=ih1 k hb
      have i2:=ih2 k hb
      have h7:=opW_len o
      have ho':o≠1/\¬(o =2\/o =11)/\o≠3:=by
        simp only[xM,Bool.or_eq_true,zS]at ho;omega
      rw[shN_mk,shF,if_neg ho'.1,if_neg ho'.2.1,if_neg ho'.2.2,Nat.pow_succ]
      split
      ·simp only[zQ,List.length_cons,List.length_nil];omega
      ·simp only[zQ,List.length_cons,List.length_nil];omega
/-! ### Lists of cells -/
def TrC(c:Cl):Prop:=Tr 4 [] c.e
theorem trC_sz{c:Cl}(h:TrC c):szN 20 [] c.e≠0:=by
  have:=(tr_sz h 15 dcx (λs hs =>by cases hs)).1
  intro e
  rw[show 4 + 1 + 15 =20 from rfl,e]at this
  exact absurd this dcx
theorem rtL_of:∀(l:List Cl) (seen:Sc),(∀c∈l,TrC c/\qT c.nm =true) ->(seen ++l.map Cl.nm).Nodup ->rtL seen l =true
  | [],_,_,_ =>rfl
  | c ::t,seen,h,hn =>by
    obtain⟨h1,h2⟩ :=h c zo
    have hc:c.nm ∉ seen:=by
      intro hm
      have:=(List.nodup_append.1 hn).2.2
      exact this _ hm _ zo rfl
    rw[rtL,h2,rtL_of t (seen ++ [c.nm]) (λc' hc' =>h c' (by simp[hc'])) (by simpa using hn)]
    simp[hc,trC_sz h1]
theorem shL_len:∀(l:List Cl),(∀c∈l,TrC c/\c.nm.length <=12) ->(shL l).length <=1300 * l.length
  | [],_ =>by simp[shL]
  | c ::t,h =>by
    obtain⟨h1,h2⟩ :=h c zo
    have h3:=shL_len t (λc' hc' =>h c' (by simp[hc']))
    have h4:=tr_len h1 20 (λs hs =>by cases hs)
    have hs:(shL (c ::t)).length =c.nm.length + 3 + (shN 20 c.e).length + 1 + (shL t).length:=by simp[shL,shC];omega
    rw[hs,List.length_cons]
    omega
theorem name_len{s:List UInt8}(h:qT s =true):s.length <=12:=by
  simp only[qT,wordB,Bool.and_eq_true,zS]at h
  exact h.2.1.1
theorem tr_pr{l:List Cl}(h:∀c∈l,TrC c/\qT c.nm =true)(hn:(l.map Cl.nm).Nodup)(hl:l.length <=15):prE l =0:=by
  have h1:rtE l =true:=by simp[rtE,rtL_of l [] h (by simpa using hn)];omega
  have h2:=shL_len l (λc hc =>⟨(h c hc).1,name_len (h c hc).2⟩)
  rw[prE,if_pos h1,if_neg (by omega)]
theorem pa_tr{l:List Cl}(h:∀c∈l,TrC c/\qT c.nm =true)(hn:(l.map Cl.nm).Nodup)(hl:l.length <=15):paE (shL l)=(l,0) :=pa_sh (tr_pr h hn hl)
theorem shL_app(a b:List Cl):shL (a ++b)=shL a ++shL b:=by simp[shL]
theorem rtL_dup:∀(l t:List Cl) (seen:Sc) (c:Cl),c∈t ->c.nm∈seen ++l.map Cl.nm ->rtL seen (l ++t)=false
  | [],t,seen,c,hc,hm =>by
    rw[List.nil_append]
    simp only[List.map_nil,List.append_nil]at hm
    induction t generalizing seen with
    |nil =>cases hc
    | cons a t ih =>
      rw[rtL]
      rcases List.mem_cons.1 hc with rfl|hc
      ·simp[hm]
      ·rw[ih (seen ++ [a.nm]) hc (by simp[hm])];simp
  | a ::l,t,seen,c,hc,hm =>by
    rw[List.cons_append,rtL,rtL_dup l t (seen ++ [a.nm]) c hc (by simpa using hm)];simp
theorem clP_app:∀(l l':List Cl) (seen seen':Sc) (m:Nat),rtL seen l =true ->rtL seen' l' =true ->(shL (l ++l')).length <=m ->clP m (shL (l ++l'))=some (l ++l')
  | [],l',_,seen',m,_,h,hm =>cl_sh l' seen' m h hm
  | c ::t,l',seen,seen',m,h,h',hm =>by
    rw[rtL]at h
    simp only[Bool.and_eq_true,zS]at h
    obtain⟨⟨⟨h1,_⟩,h2⟩,h3⟩ :=h
    obtain⟨p1,p2,d,u,p3,p4⟩ :=name_parts h1
    have hs:shL (c ::t ++l')=c.nm ++ ([32,61,32] ++ (shN 20 c.e ++ (10 ::shL (t ++l')))) :=by simp[shL,shC]
    have hlen:=congrArg List.length hs
    simp only[zQ,List.length_cons,List.length_nil]at hlen
    cases m with
    |zero =>omega
    | succ m =>
      have ih:=clP_app t l' (seen ++ [c.nm]) seen' m h3 h' ze
      obtain⟨t1,t2⟩ :=Dl.tw p1 (dl32 ([61,32] ++ (shN 20 c.e ++ (10 ::shL (t ++l')))))
      have t1':(c.nm ++ ([32,61,32] ++ (shN 20 c.e ++ (10 ::shL (t ++l'))))).takeWhile qH =c.nm:=t1
      have t2':(c.nm ++ ([32,61,32] ++ (shN 20 c.e ++ (10 ::shL (t ++l'))))).dropWhile qH = [32,61,32] ++ (shN 20 c.e ++ (10 ::shL (t ++l'))) :=t2
      exact tNb_1
theorem pa_twice{l:List Cl}(h:∀c∈l,TrC c/\qT c.nm =true)(hn:(l.map Cl.nm).Nodup)(hl:l.length <=7)(hne:l≠ []):paE (shL l ++shL l)=([],420) :=by
  have h1:=rtL_of l [] h (by simpa using hn)
  have h2:=shL_len l (λc hc =>⟨(h c hc).1,name_len (h c hc).2⟩)
  have h3:=clP_app l l [] [] _ h1 h1 (zN _)
  obtain⟨c,t,rfl⟩:∃c t,l =c ::t:=by cases l with|nil =>exact absurd rfl hne|cons c t =>exact⟨c,t,rfl⟩
  have h4:rtE (c ::t ++ (c ::t))=false:=by
    rw[rtE,rtL_dup (c ::t) (c ::t) [] c (by simp) (by simp)];rfl
  have h5:prE (c ::t ++ (c ::t))=1:=by rw[prE,h4];rfl
  rw[<-shL_app]
  have h6:(shL (c ::t ++ (c ::t))).length <=20000:=by rw[shL_app,zQ];omega
  rw[paE,if_neg (by omega),h3]
  simp only[h5]
  rw[if_neg]
  rintro⟨e,_⟩
  exact absurd e dcx
/-! ### The reference's sizes -/
mutual
def cntN:Nd ->Nat
  | .mk _ _ _ _ _ _ ps =>cntL 1 ps
def cntL:Nat ->List Nd ->Nat
  |m, [] =>m
  |m,a ::t =>if 200 < m then m else cntL (m + cntN a) t
end
theorem cntL_nil(m:Nat):cntL m []=m:=by rw[cntL]
theorem cntL_cons(m:Nat)(a:Nd)(t:List Nd):cntL m (a ::t)=if 200 < m then m else cntL (m + cntN a) t:=by rw[cntL]
theorem cntL_ge:∀(l:List Nd) (m:Nat),m <=cntL m l
  | [],m =>by rw[cntL_nil];exact zN _
  | a ::t,m =>by
    rw[cntL_cons]
    split
    ·exact zN _
    ·exact zO (Nat.le_add_right _ _) (cntL_ge t _)
theorem cntN_pos(x:Nd):1 <=cntN x:=by
  obtain⟨o,nm,n,v,lo,hi,ps⟩ :=x
  rw[cntN]
  exact cntL_ge ps 1
def gdN:Nat ->Sc ->Nd ->Bool
  |0,_,_ =>false
  |k + 1,b,x =>okN b x && x.ps.all (gdN k (inS b x))
theorem szL_gd{f:Nd ->Nat}{g:Nd ->Bool}(hf:∀a,f a =if g a && decide (cntN a <=200)then cntN a else 0):∀(l:List Nd) (m:Nat),m <=200 ->szL f m l =if l.all g && decide (cntL m l <=200)then cntL m l else 0
  | [],m,hm =>by simp[szL,cntL_nil,hm]
  | a :: t,m,hm =>by
    rw[szL,cntL_cons,if_neg (show ¬200 < m by omega),List.all_cons]
    have hp:=cntN_pos a
    have hge:=cntL_ge t (m + cntN a)
    by_cases hg:g a =true
    · by_cases hc:cntN a <=200
      · have hfa:f a =cntN a:=by rw[hf,hg];simp[hc]
        rw[hfa]
        by_cases h2:200 < m + cntN a
        · rw[if_pos (.inr h2),if_neg]
          simp;intro _ _;omega
        · rw[if_neg (by omega),szL_gd hf t _ (by omega),hg]
          simp
      · have hfa:f a =0:=by rw[hf,hg];simp[hc]
        rw[if_pos (.inl hfa),if_neg]
        simp;intro _ _;omega
    · have hfa:f a =0:=by rw[hf];simp[hg]
      rw[if_pos (.inl hfa)]
      simp[hg]
theorem szN_gd:∀(k:Nat) (b:Sc) (x:Nd),szN k b x =if gdN k b x && decide (cntN x <=200)then cntN x else 0
  |0,b,x =>by simp[szN,gdN]
  | k + 1,b,x =>by
    rw[szN,gdN]
    have hc:cntN x =cntL 1 x.ps:=by obtain⟨o,nm,n,v,lo,hi,ps⟩ :=x;rw[cntN];rfl
    by_cases ho:okN b x =true
    ·rw[if_pos ho,szL_gd (szN_gd k (inS b x)) x.ps 1 dcx,ho,hc];simp
    ·rw[if_neg ho];simp[ho]
theorem szN_ne(k:Nat)(b:Sc)(x:Nd):(szN k b x≠0) ↔ gdN k b x =true/\cntN x <=200:=by
  rw[szN_gd]
  have:=cntN_pos x
  by_cases h:gdN k b x =true/\cntN x <=200
  ·rw[if_pos (by simp[h])];exact⟨λ_ =>h,λ_ =>by omega⟩
  ·rw[if_neg (by simpa using h)];exact⟨λe =>absurd rfl e,λe =>absurd e h⟩
/-! ### Cells that are used,cells replaced -/
mutual
def usN:Nd ->Sc
  | .mk o nm _ _ _ _ ps =>(if o =2 then [nm]else []) ++usL ps
def usL:List Nd ->Sc
  | [] => []
  |a ::t =>usN a ++usL t
end
def five:Nd:=⟨1, [],0,5,0,0, []⟩
mutual
def rpN(s:List UInt8):Nd ->Nd
  | .mk o nm n v lo hi ps =>if o =2/\nm =s then five else⟨o,nm,n,v,lo,hi,rpL s ps⟩
def rpL(s:List UInt8):List Nd ->List Nd
  | [] => []
  |a ::t =>rpN s a ::rpL s t
end
theorem rpL_map(s:List UInt8):∀l:List Nd,rpL s l =l.map (rpN s)
  | [] =>by rw[rpL];rfl
  |a ::t =>by rw[rpL,rpL_map s t];rfl
theorem usL_flat:∀l:List Nd,usL l =l.flatMap usN
  | [] =>by rw[usL];rfl
  |a ::t =>by rw[usL,usL_flat t];rfl
theorem bind_nots{o:Int}(h:qZ o =true):o≠2:=by rintro rfl;exact absurd h dcx
theorem join_nots{o:Int}(h:xM o =true):o≠2:=by rintro rfl;exact absurd h dcx
theorem tr_rp{d:Nat}{b:Sc}{x:Nd}(s:List UInt8)(h:Tr d b x):Tr d b (rpN s x)/\s ∉ usN (rpN s x)/\ (s∈usN x ->rpN s x≠x)/\ (s ∉ usN x ->rpN s x =x)/\∀t∈usN x,t∈nmCs:=by
  have leaf:∀(o:Int) (nm:List UInt8) (n v:Int),o≠2 ->rpN s ⟨o,nm,n,v,0,0, []⟩=⟨o,nm,n,v,0,0, []⟩/\usN ⟨o,nm,n,v,0,0, []⟩= [] :=by
    intro o nm n v h
    refine⟨by rw[rpN,if_neg (λe =>h e.1),rpL],by rw[usN,usL,if_neg h];rfl⟩
  induction h with
  |num h1 h2 =>obtain⟨e1,e2⟩ :=leaf 1 [] 0 _ dcx;rw[e1,e2];exact⟨.num h1 h2,by simp,by simp,by simp,by simp⟩
  | @cell d b t ht =>
    have hu:usN ⟨2,t,0,0,0,0, []⟩= [t] :=by rw[usN,usL,if_pos rfl];rfl
    rw[hu,rpN]
    by_cases e:t =s
    · rw[if_pos ⟨rfl,e⟩,five]
      refine⟨.num dcx dcx,by rw[usN,usL];simp,λ_ =>by simp,λhn =>absurd (by simp[e]) hn,by simpa using ht⟩
    · rw[if_neg (λq =>e q.2),rpL,hu]
      exact⟨.cell ht,by simp[Ne.symm e],by simp[Ne.symm e],by simp,by simpa using ht⟩
  |var ht =>obtain⟨e1,e2⟩ :=leaf 11 _ 0 0 dcx;rw[e1,e2];exact⟨.var ht,by simp,by simp,by simp,by simp⟩
  |val ht h1 h2 =>obtain⟨e1,e2⟩ :=leaf 3 _ _ 0 dcx;rw[e1,e2];exact⟨.val ht h1 h2,by simp,by simp,by simp,by simp⟩
  |valh ht h1 h2 =>obtain⟨e1,e2⟩ :=leaf 3 _ _ 0 dcx;rw[e1,e2];exact⟨.valh ht h1 h2,by simp,by simp,by simp,by simp⟩
  | @loop d b o t lo hi a ho ht h1 h2 h3 h4 ha ih =>
    obtain⟨i1,i2,i3,i4,i5⟩ :=ih
    have hu:∀y:Nd,usN ⟨o,t,0,0,lo,hi, [y]⟩=usN y:=λy =>by rw[usN,usL,usL,if_neg (bind_nots ho)];simp
    have hr:rpN s ⟨o,t,0,0,lo,hi, [a]⟩=⟨o,t,0,0,lo,hi, [rpN s a]⟩ :=by rw[rpN,if_neg (λe =>bind_nots ho e.1),rpL,rpL]
    rw[hr,hu,hu]
    refine⟨.loop ho ht h1 h2 h3 h4 i1,i2,λhm e =>i3 hm (by simpa using e),λhm =>by rw[i4 hm],i5⟩
  | @bin d b o a c ho ha hc ih1 ih2 =>
    obtain⟨i1,i2,i3,i4,i5⟩ :=ih1
    obtain⟨j1,j2,j3,j4,j5⟩ :=ih2
    have hu:∀y z:Nd,usN ⟨o, [],0,0,0,0, [y,z]⟩=usN y ++usN z:=λy z =>by rw[usN,usL,usL,usL,if_neg (join_nots ho)];simp
    have hr:rpN s ⟨o, [],0,0,0,0, [a,c]⟩=⟨o, [],0,0,0,0, [rpN s a,rpN s c]⟩ :=by rw[rpN,if_neg (λe =>join_nots ho e.1),rpL,rpL,rpL]
    rw[hr,hu,hu]
    refine⟨.bin ho i1 j1,by simp[i2,j2],λhm e =>?_,λhm =>?_,λt ht =>?_⟩
    · simp only[Nd.mk.injEq,List.cons.injEq,and_true,true_and]at e
      rcases List.mem_append.1 hm with q|q
      ·exact i3 q e.1
      ·exact j3 q e.2
    · simp only[List.mem_append,not_or]at hm
      rw[i4 hm.1,j4 hm.2]
    · rcases List.mem_append.1 ht with q|q
      ·exact i5 t q
      ·exact j5 t q
end Go.Proofs.YtenhciieboegbaaGreatDoor
