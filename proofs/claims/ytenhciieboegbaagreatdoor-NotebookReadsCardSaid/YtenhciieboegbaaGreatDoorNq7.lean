/-
  The reference's reader in plain words (exR), and that it reads what Parse reads where the result is right.
-/
import Derived.Test.YtenhciieboegbaaGreatDoorNq6
namespace Go.Proofs.YtenhciieboegbaaGreatDoor
open Go Go.RowKit Go.Maps
noncomputable def secR (E:List UInt8 ->Option (Nd×List UInt8)) (x:Nd) (op:Int) (r:List UInt8):Option (Nd×List UInt8) :=
  (E r).bind λq =>(qG [41] q.2).bind λt =>some (⟨op, [],0,0,0,0, [x,q.1]⟩,t)
def opS(o:Int):List UInt8:= [32] ++opW o ++ [32]
noncomputable def infF (E:List UInt8 ->Option (Nd×List UInt8)) (q:Nd×List UInt8):Nat ->Nat ->Option (Nd×List UInt8)
  |0,_ =>none
  | f + 1,o =>match qG (opS (o:Int)) q.2 with
    |some t =>secR E q.1 (o:Int) t
    |none =>infF E q f (o + 1)
noncomputable def infR (E:List UInt8 ->Option (Nd×List UInt8)) (r:List UInt8):Option (Nd×List UInt8) :=(E r).bind λq =>infF E q 3 4
noncomputable def pairR (E:List UInt8 ->Option (Nd×List UInt8)) (op:Int) (r:List UInt8):Option (Nd×List UInt8) :=
  (E r).bind λq =>(qG [44,32] q.2).bind λt =>secR E q.1 op t
noncomputable def bndR (E:Sc ->List UInt8 ->Option (Nd×List UInt8)) (b:Sc) (op:Int) (r:List UInt8):Option (Nd×List UInt8) :=
  (qG [44,32] (r.dropWhile qH)).bind λs3 =>(nbP [44,32] s3).bind λl =>(nbP [44,32] l.2).bind λh =>
    (E (b ++ [r.takeWhile qH]) h.2).bind λq =>(qG [41] q.2).bind λt =>some (⟨op,r.takeWhile qH,0,0,l.1,h.1, [q.1]⟩,t)
noncomputable def calR (E:Sc ->List UInt8 ->Option (Nd×List UInt8)) (b:Sc) (w s2:List UInt8):Option (Nd×List UInt8) :=
  if w =wVal then valR s2 else if jE w =0 then none else if qZ (jE w)then bndR E b (jE w) s2 else pairR (E b) (jE w) s2
noncomputable def namR (b:Sc) (w t:List UInt8):Nd×List UInt8:=(⟨if b.contains w then 11 else 2,w,0,0,0,0, []⟩,t)
noncomputable def exR:Nat ->Sc ->List UInt8 ->Option (Nd×List UInt8)
  |0,_,_ =>none
  | k + 1,b,s =>match s with
    | [] =>none
    | c ::t =>if c =40 then infR (exR k b) t
      else if xP c then match qG [40] (s.dropWhile qH)with
        |none =>some (namR b (s.takeWhile qH) (s.dropWhile qH))
        |some s2 =>calR (exR k) b (s.takeWhile qH) s2
      else(numP s).map mkN
theorem exR_0(b:Sc)(s:List UInt8):exR 0 b s =none:=rfl
theorem exR_nil(k:Nat)(b:Sc):exR k b []=none:=by cases k <;> rfl
theorem exR_inf(k:Nat)(b:Sc)(t:List UInt8):exR (k + 1) b (40 ::t)=infR (exR k b) t:=by rw[exR];simp only[if_true]
theorem exR_num{k:Nat}{b:Sc}{c:UInt8}{t:List UInt8}(h1:c≠40)(h2:xP c =false):exR (k + 1) b (c ::t)=(numP (c ::t)).map mkN:=by
  rw[exR]
  simp only[if_neg h1,h2]
  rfl
theorem exR_name{k:Nat}{b:Sc}{c:UInt8}{t:List UInt8}(h1:c≠40)(h2:xP c =true)(h3:qG [40] ((c ::t).dropWhile qH)=none):exR (k + 1) b (c ::t)=some (namR b ((c ::t).takeWhile qH) ((c ::t).dropWhile qH)) :=by
  rw[exR]
  simp only[if_neg h1,h2,if_true]
  rw[h3]
theorem exR_call{k:Nat}{b:Sc}{c:UInt8}{t s2:List UInt8}(h1:c≠40)(h2:xP c =true)(h3:qG [40] ((c ::t).dropWhile qH)=some s2):exR (k + 1) b (c ::t)=calR (exR k) b ((c ::t).takeWhile qH) s2:=by
  rw[exR]
  simp only[if_neg h1,h2,if_true]
  rw[h3]
theorem takeP_eq{x s t:List UInt8}(h:qG x s =some t):s =x ++t:=by
  rw[takeP_pre]at h
  by_cases hx:x <+:s
  · rw[if_pos hx]at h
    obtain⟨u,rfl⟩ :=hx
    rw[List.drop_left]at h
    injection h with h
    rw[h]
  ·rw[if_neg hx]at h;cases h
theorem takeP_ap(x t:List UInt8):qG x (x ++t)=some t:=by rw[takeP_pre,if_pos (List.prefix_append _ _),List.drop_left]
theorem tk_tw(p:UInt8 ->Bool):∀(l:List UInt8) (n:Nat),(l.takeWhile p).length < n ->(l.take n).takeWhile p =l.takeWhile p
  | [],n,_ =>by simp
  |c ::t,0,h =>by simp at h
  | c ::t,n + 1,h =>by
    rw[List.take_succ_cons,List.takeWhile_cons,List.takeWhile_cons]
    rw[List.takeWhile_cons]at h
    cases hc:p c with
    |false =>simp
    | true =>
      rw[hc,if_pos rfl,List.length_cons]at h
      rw[if_pos rfl,if_pos rfl,tk_tw p t n (by omega)]
theorem dw_hd{p:UInt8 ->Bool}:∀ {l u:List UInt8} {c:UInt8},l.dropWhile p =c ::u ->p c =false
  | [],_,_,h =>by simp at h
  | d ::t,u,c,h =>by
    rw[List.dropWhile_cons]at h
    cases hd:p d with
    |true =>rw[hd,if_pos rfl]at h;exact dw_hd h
    | false =>
      rw[hd,if_neg dcx]at h
      injection h with h1 h2
      rw[<-h1];exact hd
theorem infF_hit{E:List UInt8 ->Option (Nd×List UInt8)}{y:Nd}{o:Int}{s3:List UInt8}(h:o =4\/o =5\/o =6):infF E (y, [32] ++ (opW o ++ [32] ++s3)) 3 4 =secR E y o s3:=by
  have hz: [32] ++ (opW o ++ [32] ++s3)=opS o ++s3:=by simp[opS]
  rw[hz]
  rcases h with rfl|rfl|rfl
  ·rw[infF,show qG (opS ((4:Nat):Int)) (y,opS 4 ++s3).2 =some s3 from takeP_ap _ _];rfl
  · rw[infF,show qG (opS ((4:Nat):Int)) (y,opS 5 ++s3).2 =none from rfl]
    show infF E _ 2 5 =_
    rw[infF,show qG (opS ((5:Nat):Int)) (y,opS 5 ++s3).2 =some s3 from takeP_ap _ _];rfl
  · rw[infF,show qG (opS ((4:Nat):Int)) (y,opS 6 ++s3).2 =none from rfl]
    show infF E _ 2 5 =_
    rw[infF,show qG (opS ((5:Nat):Int)) (y,opS 6 ++s3).2 =none from rfl]
    show infF E _ 1 6 =_
    rw[infF,show qG (opS ((6:Nat):Int)) (y,opS 6 ++s3).2 =some s3 from takeP_ap _ _];rfl
theorem opP_or(s:List UInt8):opP s =4\/opP s =5\/opP s =6\/opP s =0:=by
  unfold opP
  split
  ·exact .inl rfl
  split
  ·exact .inr (.inl rfl)
  split
  ·exact .inr (.inr (.inl rfl))
  ·exact .inr (.inr (.inr rfl))
theorem call_or(w:List UInt8):jE w =0\/qZ (jE w)=true\/xM (jE w)=true:=by
  unfold jE
  repeat (split;first|exact .inr (.inl rfl)|exact .inr (.inr rfl))
  exact .inl rfl
theorem prE_rt{l:List Cl}(h:prE l =0):rtL [] l =true/\l.length <=40:=by
  rw[prE]at h
  split at h
  · rename_i h1
    rw[rtE,Bool.and_eq_true,zS]at h1
    exact h1
  ·cases h
theorem gd_two{k:Nat}{b:Sc}{op:Int}{y z:Nd}(h:xM op =true)(hg:gdN (k + 1) b ⟨op, [],0,0,0,0, [y,z]⟩=true):gdN k b y =true/\gdN k b z =true:=by
  rw[gdN_two h]at hg
  simp only[Bool.and_eq_true]at hg
  exact hg.2.2.2.2
theorem valR_of{b:Sc}{k:Nat}{s2 s6 t:List UInt8}{x:Nd}(h:valP s2 =some (x,s6))(ht:qG [41] s6 =some t)(hg:gdN (k + 1) b x =true):valR s2 =some (x,t) :=by
  rw[valP]at h
  obtain⟨s3,h1,h⟩ :=qI h
  obtain⟨s4,h2,h⟩ :=qI h
  obtain⟨⟨z,s5⟩,h3,h⟩ :=qI h
  simp only[Option.some.injEq,Prod.mk.injEq]at h
  obtain⟨rfl,rfl⟩ :=h
  have hl:(s3.takeWhile (· !=34)).length <=60:=by
    have h9:=((gdN_leaf (k:=k) (b:=b) (op:=3) (nm:=s3.takeWhile (· !=34)) (xn:=z) (z:=0) (lo:=0) (hi:=0) (ps:= []) rfl rfl).2.2 rfl rfl rfl).2.1 rfl
    rw[h9]at hg
    simp only[Bool.and_eq_true,patB,zS]at hg
    exact hg.2.1.2
  have hq:qtU s3 =s3.takeWhile (· !=34) :=tk_tw _ _ _ ze
  have hd:s3.drop (qtU s3).length =s3.dropWhile (· !=34) :=by rw[hq];exact dropL (List.takeWhile_append_dropWhile (p:=(· !=34)) (l:=s3))
  have h2':qG [34,44,32] (s3.drop (qtU s3).length)=some s4:=by
    rw[hd]
    cases hw:s3.dropWhile (· !=34)with
    |nil =>rw[hw]at h2;exact absurd (takeP_eq h2) zo
    | cons c u =>
      obtain rfl:c =34:=by have:=dw_hd hw;simpa using this
      rw[hw]at h2
      have h5:u = [44,32] ++s4:=takeP_eq h2
      rw[h5]
      exact takeP_ap [34,44,32] s4
  rw[valR,h1]
  show(qG [34,44,32] (s3.drop (qtU s3).length)).bind _ =_
  rw[h2']
  show(nbP [41] s4).bind _ =_
  rw[nbP,h3]
  show((qG [41] s5).bind _).bind _ =_
  rw[ht,hq];rfl
theorem exR_of : ∀(k:Nat) (b:Sc) {r t:List UInt8} {x:Nd},exP k b r =some (x,t) ->gdN k b x =true ->exR k b r =some (x,t) :=by
  intro k
  induction k with
  |zero =>intro b r t x h;cases h
  | succ k ih =>
    intro b r t x h hg
    cases r with
    |nil =>rw[exP_nil]at h;cases h
    | cons c u =>
      by_cases h1:c =40
      · subst h1
        rw[exP_inf,infP]at h
        obtain⟨⟨y,s1⟩,h1,h⟩ :=qI h
        obtain⟨s2,h2,h⟩ :=qI h
        obtain⟨s3,h3,h⟩ :=qI h
        obtain⟨⟨z,s4⟩,h4,h⟩ :=qI h
        obtain⟨s5,h5,h⟩ :=qI h
        simp only[Option.some.injEq,Prod.mk.injEq]at h
        obtain⟨rfl,rfl⟩ :=h
        obtain⟨o,ho⟩:∃o,opP s2 =o:=⟨_,rfl⟩
        have hor:=opP_or s2
        rw[ho]at hg h3 hor ⊢
        have hj:o =4\/o =5\/o =6:=by
          rcases hor with h|h|h|rfl
          ·exact .inl h
          ·exact .inr (.inl h)
          ·exact .inr (.inr h)
          ·exact absurd hg (by simp[gdN,okN,okF,Nd.op,qZ,xM])
        have hjo:xM o =true:=by rcases hj with rfl|rfl|rfl <;> rfl
        obtain⟨g1,g2⟩ :=gd_two hjo hg
        rw[exR_inf,infR,ih b h1 g1]
        obtain rfl:=takeP_eq h2
        obtain rfl:=takeP_eq h3
        show infF (exR k b) (y, [32] ++ (opW o ++ [32] ++s3)) 3 4 =_
        rw[infF_hit hj,secR,ih b h4 g2]
        show(qG [41] s4).bind _ =_
        rw[h5];rfl
      · cases h2 :xP c with
        | false =>
          rw[exP_num h1 h2]at h
          obtain⟨⟨z,s1⟩,h3,h⟩ :=qI h
          simp only[Option.some.injEq,Prod.mk.injEq]at h
          obtain⟨rfl,rfl⟩ :=h
          rw[exR_num h1 h2,h3];rfl
        | true =>
          cases h3:qG [40] ((c ::u).dropWhile qH)with
          | none =>
            rw[exP_name h1 h2 h3]at h
            rw[exR_name h1 h2 h3];exact h
          | some s2 =>
            rw[exP_call h1 h2 h3]at h
            obtain⟨⟨y,s6⟩,h4,h⟩ :=qI h
            obtain⟨s7,h5,h⟩ :=qI h
            simp only[Option.some.injEq,Prod.mk.injEq]at h
            obtain⟨rfl,rfl⟩ :=h
            rw[exR_call h1 h2 h3,calR]
            rw[caP]at h4
            split at h4
            · rename_i hw
              rw[if_pos hw]
              exact valR_of h4 h5 hg
            rename_i hw
            rw[if_neg hw]
            split at h4
            ·cases h4
            rename_i hc
            rw[if_neg hc]
            split at h4
            · rename_i hb
              rw[if_pos hb,bndR]
              rw[bndP]at h4
              obtain⟨r3,g1,h4⟩ :=qI h4
              obtain⟨⟨lo,r4⟩,g2,h4⟩ :=qI h4
              obtain⟨r5,g3,h4⟩ :=qI h4
              obtain⟨⟨hi,r6⟩,g4,h4⟩ :=qI h4
              obtain⟨r7,g5,h4⟩ :=qI h4
              obtain⟨⟨z,r8⟩,g6,h4⟩ :=qI h4
              simp only[Option.some.injEq,Prod.mk.injEq]at h4
              obtain⟨rfl,rfl⟩ :=h4
              rw[gdN_bind hb]at hg
              simp only[Bool.and_eq_true,List.all_cons,List.all_nil,Bool.and_true]at hg
              rw[g1]
              show(nbP [44,32] r3).bind _ =_
              rw[nbP,g2]
              show((qG [44,32] r4).bind _).bind _ =_
              rw[g3]
              show(nbP [44,32] r5).bind _ =_
              rw[nbP,g4]
              show((qG [44,32] r6).bind _).bind _ =_
              rw[g5]
              show(exR k (b ++ [s2.takeWhile qH]) r7).bind _ =_
              rw[ih _ g6 hg.2]
              show(qG [41] r8).bind _ =_
              rw[h5];rfl
            · rename_i hb
              rw[if_neg hb,pairR]
              rw[joiP]at h4
              obtain⟨⟨y1,r3⟩,g1,h4⟩ :=qI h4
              obtain⟨r4,g2,h4⟩ :=qI h4
              obtain⟨⟨y2,r5⟩,g3,h4⟩ :=qI h4
              simp only[Option.some.injEq,Prod.mk.injEq]at h4
              obtain⟨rfl,rfl⟩ :=h4
              have hjo:xM (jE ((c ::u).takeWhile qH))=true:=by
                rcases call_or ((c ::u).takeWhile qH)with h|h|h
                ·exact absurd h hc
                ·exact absurd h hb
                ·exact h
              obtain⟨q1,q2⟩ :=gd_two hjo hg
              rw[ih b g1 q1]
              show(qG [44,32] r3).bind _ =_
              rw[g2]
              show secR (exR k b) y1 _ r4 =_
              rw[secR,ih b g3 q2]
              show(qG [41] r5).bind _ =_
              rw[h5];rfl
/-! ### Levels -/
theorem infF_hg{E:List UInt8 ->Option (Nd×List UInt8)}{k:Nat}(hE:∀ {r t x},E r =some (x,t) ->hgN k x){q:Nd×List UInt8}(hq:hgN k q.1):∀(f o:Nat) {x:Nd} {t:List UInt8},infF E q f o =some (x,t) ->hgN (k + 1) x
  |0,_,_,_,h =>by cases h
  | f + 1,o,x,t,h =>by
    rw[infF]at h
    split at h
    · rw[secR]at h
      obtain⟨⟨z,s4⟩,h4,h⟩ :=qI h
      obtain⟨s5,h5,h⟩ :=qI h
      simp only[Option.some.injEq,Prod.mk.injEq]at h
      obtain⟨rfl,rfl⟩ :=h
      intro a ha
      simp only[Nd.ps,List.mem_cons,List.not_mem_nil,or_false]at ha
      rcases ha with rfl|rfl
      ·exact hq
      ·exact hE h4
    ·exact infF_hg hE hq f (o + 1) h
theorem exR_hg :∀(k:Nat) (b:Sc) {r t:List UInt8} {x:Nd},exR k b r =some (x,t) ->hgN k x:=by
  intro k
  induction k with
  |zero =>intro b r t x h;cases h
  | succ k ih =>
    intro b r t x h
    cases r with
    |nil =>rw[exR_nil]at h;cases h
    | cons c u =>
      by_cases h1:c =40
      · subst h1
        rw[exR_inf,infR]at h
        obtain⟨⟨y,s1⟩,h1,h⟩ :=qI h
        exact infF_hg (ih b) (ih b h1) _ _ h
      · cases h2:xP c with
        | false =>
          rw[exR_num h1 h2]at h
          obtain⟨z,h3,rfl⟩ :=map_mkN h
          intro a ha;simp[Nd.ps]at ha
        | true =>
          cases h3:qG [40] ((c ::u).dropWhile qH)with
          | none =>
            rw[exR_name h1 h2 h3,namR]at h
            simp only[Option.some.injEq,Prod.mk.injEq]at h
            obtain⟨rfl,rfl⟩ :=h
            intro a ha;simp[Nd.ps]at ha
          | some s2 =>
            rw[exR_call h1 h2 h3,calR]at h
            split at h
            · rw[valR]at h
              obtain⟨s3,h1,h⟩ :=qI h
              obtain⟨s4,h2,h⟩ :=qI h
              obtain⟨⟨z,s5⟩,h3,h⟩ :=qI h
              simp only[Option.some.injEq,Prod.mk.injEq]at h
              obtain⟨rfl,rfl⟩ :=h
              intro a ha;simp[Nd.ps]at ha
            split at h
            ·cases h
            split at h
            · rw[bndR]at h
              obtain⟨s3,h1,h⟩ :=qI h
              obtain⟨⟨lo,s4⟩,h2,h⟩ :=qI h
              obtain⟨⟨hi,s5⟩,h3,h⟩ :=qI h
              obtain⟨⟨z,s6⟩,h4,h⟩ :=qI h
              obtain⟨s7,h5,h⟩ :=qI h
              simp only[Option.some.injEq,Prod.mk.injEq]at h
              obtain⟨rfl,rfl⟩ :=h
              intro a ha
              simp only[Nd.ps,List.mem_cons,List.not_mem_nil,or_false]at ha
              subst ha
              exact ih _ h4
            · rw[pairR]at h
              obtain⟨⟨y,s3⟩,h1,h⟩ :=qI h
              obtain⟨s4,h2,h⟩ :=qI h
              rw[secR]at h
              obtain⟨⟨z,s5⟩,h4,h⟩ :=qI h
              obtain⟨s6,h5,h⟩ :=qI h
              simp only[Option.some.injEq,Prod.mk.injEq]at h
              obtain⟨rfl,rfl⟩ :=h
              intro a ha
              simp only[Nd.ps,List.mem_cons,List.not_mem_nil,or_false]at ha
              rcases ha with rfl|rfl
              ·exact ih b h1
              ·exact ih b h4
/-! ### Parts have an operation -/
inductive PsO:Nd ->Prop
  |mk {op:Int} {nm:List UInt8} {n v lo hi:Int} {ps:List Nd}:(∀a∈ps,a.op≠0) ->(∀a∈ps,PsO a) ->PsO ⟨op,nm,n,v,lo,hi,ps⟩
def NzO(x:Nd):Prop:=x.op≠0/\PsO x
theorem nz_leaf{op:Int}{nm:List UInt8}{n v lo hi:Int}(h:op≠0):NzO ⟨op,nm,n,v,lo,hi, []⟩ :=⟨h,.mk (λa h =>by simp at h) (λa h =>by simp at h)⟩
theorem nz_one{op:Int}{nm:List UInt8}{n v lo hi:Int}{y:Nd}(h:op≠0)(hy:NzO y):NzO ⟨op,nm,n,v,lo,hi, [y]⟩ :=
  ⟨h,.mk (λa h =>by rw[List.mem_singleton.1 h];exact hy.1) (λa h =>by rw[List.mem_singleton.1 h];exact hy.2)⟩
theorem nz_two{op:Int}{nm:List UInt8}{n v lo hi:Int}{y z:Nd}(h:op≠0)(hy:NzO y)(hz:NzO z):NzO ⟨op,nm,n,v,lo,hi, [y,z]⟩ :=
  ⟨h,.mk (λa h =>by rcases List.mem_cons.1 h with rfl|h;exact hy.1;rw[List.mem_singleton.1 h];exact hz.1) (λa h =>by rcases List.mem_cons.1 h with rfl|h;exact hy.2;rw[List.mem_singleton.1 h];exact hz.2)⟩
theorem secR_nz{E:List UInt8 ->Option (Nd×List UInt8)}(hE:∀ {r t x},E r =some (x,t) ->NzO x){x y:Nd}(hx:NzO x){op:Int}(ho:op≠0){r t:List UInt8}(h:secR E x op r =some (y,t)):NzO y:=by
  rw[secR]at h
  obtain⟨⟨z,s4⟩,h4,h⟩ :=qI h
  obtain⟨s5,h5,h⟩ :=qI h
  simp only[Option.some.injEq,Prod.mk.injEq]at h
  obtain⟨rfl,rfl⟩ :=h
  exact nz_two ho hx (hE h4)
theorem infF_nz{E:List UInt8 ->Option (Nd×List UInt8)}(hE:∀ {r t x},E r =some (x,t) ->NzO x){q:Nd×List UInt8}(hq:NzO q.1):∀(f o:Nat) {x:Nd} {t:List UInt8},o≠0 ->infF E q f o =some (x,t) ->NzO x
  |0,_,_,_,_,h =>by cases h
  | f + 1,o,x,t,ho,h =>by
    rw[infF]at h
    split at h
    ·exact secR_nz hE hq ze h
    ·exact infF_nz hE hq f (o + 1) ze h
theorem exR_nz :∀(k:Nat) (b:Sc) {r t:List UInt8} {x:Nd},exR k b r =some (x,t) ->NzO x:=by
  intro k
  induction k with
  |zero =>intro b r t x h;cases h
  | succ k ih =>
    intro b r t x h
    cases r with
    |nil =>rw[exR_nil]at h;cases h
    | cons c u =>
      by_cases h1:c =40
      · subst h1
        rw[exR_inf,infR]at h
        obtain⟨⟨y,s1⟩,h1,h⟩ :=qI h
        exact infF_nz (ih b) (ih b h1) _ _ dcx h
      · cases h2:xP c with
        | false =>
          rw[exR_num h1 h2]at h
          obtain⟨z,h3,rfl⟩ :=map_mkN h
          exact nz_leaf dcx
        | true =>
          cases h3:qG [40] ((c ::u).dropWhile qH)with
          | none =>
            rw[exR_name h1 h2 h3,namR]at h
            simp only[Option.some.injEq,Prod.mk.injEq]at h
            obtain⟨rfl,rfl⟩ :=h
            exact nz_leaf (by split <;> decide)
          | some s2 =>
            rw[exR_call h1 h2 h3,calR]at h
            split at h
            · rw[valR]at h
              obtain⟨s3,h1,h⟩ :=qI h
              obtain⟨s4,h2,h⟩ :=qI h
              obtain⟨⟨z,s5⟩,h3,h⟩ :=qI h
              simp only[Option.some.injEq,Prod.mk.injEq]at h
              obtain⟨rfl,rfl⟩ :=h
              exact nz_leaf dcx
            split at h
            ·cases h
            rename_i hc
            split at h
            · rw[bndR]at h
              obtain⟨s3,h1,h⟩ :=qI h
              obtain⟨⟨lo,s4⟩,h2,h⟩ :=qI h
              obtain⟨⟨hi,s5⟩,h3,h⟩ :=qI h
              obtain⟨⟨z,s6⟩,h4,h⟩ :=qI h
              obtain⟨s7,h5,h⟩ :=qI h
              simp only[Option.some.injEq,Prod.mk.injEq]at h
              obtain⟨rfl,rfl⟩ :=h
              exact nz_one hc (ih _ h4)
            · rw[pairR]at h
              obtain⟨⟨y,s3⟩,h1,h⟩ :=qI h
              obtain⟨s4,h2,h⟩ :=qI h
              exact secR_nz (ih b) (ih b h1) hc h
/-! ### What is left is not longer -/
theorem secR_len{E:List UInt8 ->Option (Nd×List UInt8)}(hE:∀ {r t x},E r =some (x,t) ->t.length <=r.length){x y:Nd}{op:Int}{r t:List UInt8}(h:secR E x op r =some (y,t)):t.length <=r.length:=by
  rw[secR]at h
  obtain⟨⟨z,s4⟩,h4,h⟩ :=qI h
  obtain⟨s5,h5,h⟩ :=qI h
  simp only[Option.some.injEq,Prod.mk.injEq]at h
  obtain⟨rfl,rfl⟩ :=h
  have:=hE h4
  have h6:=qJ h5
  simp only at h6
  omega
theorem infF_len{E:List UInt8 ->Option (Nd×List UInt8)}(hE:∀ {r t x},E r =some (x,t) ->t.length <=r.length){q:Nd×List UInt8}:∀(f o:Nat) {x:Nd} {t:List UInt8},infF E q f o =some (x,t) ->t.length <=q.2.length
  |0,_,_,_,h =>by cases h
  | f + 1,o,x,t,h =>by
    rw[infF]at h
    split at h
    · rename_i t' ht
      have:=secR_len hE h
      have:=qJ ht
      omega
    ·exact infF_len hE f (o + 1) h
theorem nbP_len{x r t:List UInt8}{z:Int}(h:nbP x r =some (z,t)):t.length <=r.length:=by
  rw[nbP]at h
  obtain⟨⟨z',t'⟩,h1,h⟩ :=qI h
  obtain⟨t2,h2,h⟩ :=qI h
  simp only[Option.some.injEq,Prod.mk.injEq]at h
  obtain⟨rfl,rfl⟩ :=h
  have:=smlP_len h1
  have h6:=qJ h2
  simp only at h6
  omega
theorem exR_len :∀(k:Nat) (b:Sc) {r t:List UInt8} {x:Nd},exR k b r =some (x,t) ->t.length <=r.length:=by
  intro k
  induction k with
  |zero =>intro b r t x h;cases h
  | succ k ih =>
    intro b r t x h
    cases r with
    |nil =>rw[exR_nil]at h;cases h
    | cons c u =>
      by_cases h1:c =40
      · subst h1
        rw[exR_inf,infR]at h
        obtain⟨⟨y,s1⟩,h1,h⟩ :=qI h
        have q1:=infF_len (ih b) _ _ h
        have q2:=ih b h1
        simp only at q1
        rw[List.length_cons];omega
      · cases h2 :xP c with
        | false =>
          rw[exR_num h1 h2]at h
          obtain⟨z,h3,-⟩ :=map_mkN h
          exact numP_len h3
        | true =>
          cases h3:qG [40] ((c ::u).dropWhile qH)with
          | none =>
            rw[exR_name h1 h2 h3,namR]at h
            simp only[Option.some.injEq,Prod.mk.injEq]at h
            rw[<-h.2];exact(xR _ _).2
          | some s2 =>
            rw[exR_call h1 h2 h3,calR]at h
            have q1:=qJ h3;have q2:=(xR qH (c ::u)).2
            have q9:t.length <=s2.length:=by
              split at h
              · rw[valR]at h
                obtain⟨s3,h1,h⟩ :=qI h
                obtain⟨s4,h2,h⟩ :=qI h
                obtain⟨⟨z,s5⟩,h3,h⟩ :=qI h
                simp only[Option.some.injEq,Prod.mk.injEq]at h
                have p1:=qJ h1;have p2:=qJ h2;have p3:=nbP_len h3
                rw[List.length_drop]at p2
                rw[<-h.2];omega
              split at h
              ·cases h
              split at h
              · rw[bndR]at h
                obtain⟨s3,h1,h⟩ :=qI h
                obtain⟨⟨lo,s4⟩,h2,h⟩ :=qI h
                obtain⟨⟨hi,s5⟩,h3,h⟩ :=qI h
                obtain⟨⟨z,s6⟩,h4,h⟩ :=qI h
                obtain⟨s7,h5,h⟩ :=qI h
                simp only[Option.some.injEq,Prod.mk.injEq]at h
                have p0:=(xR qH s2).2
                have p1:=qJ h1;have p2:=nbP_len h2;have p3:=nbP_len h3;have p4:=ih _ h4;have p5:=qJ h5
                simp only at p3 p4 p5
                rw[<-h.2];omega
              · rw[pairR]at h
                obtain⟨⟨y,s3⟩,h1,h⟩ :=qI h
                obtain⟨s4,h2,h⟩ :=qI h
                have p1:=ih b h1;have p2:=qJ h2;have p3:=secR_len (ih b) h
                simp only at p2
                omega
            omega
/-! ### Cells -/
noncomputable def clR:Nat ->Nat ->List UInt8 ->Option (List Cl)
  |_,_, [] =>some []
  |0,_,_ =>none
  |k + 1,n,s =>(qG [32,61,32] (s.dropWhile qH)).bind λs1 =>(exR 20 [] s1).bind λq =>(qG [10] q.2).bind λs3 =>if 40 < n then none else(clR k (n + 1) s3).bind λl =>some (⟨s.takeWhile qH,q.1⟩ ::l)
noncomputable def paR (s:List UInt8):List Cl×Int:=
  if 20000 < s.length then([],2)else match clR s.length 0 s with
    |none =>([],420)
    |some l =>if prE l =0/\shL l =s then(l,0)else([],420)
theorem clR_one{k n:Nat}{s:List UInt8}(h:s≠ []):clR (k + 1) n s =(qG [32,61,32] (s.dropWhile qH)).bind λs1 =>(exR 20 [] s1).bind λq =>(qG [10] q.2).bind λs3 =>if 40 < n then none else(clR k (n + 1) s3).bind λl =>some (⟨s.takeWhile qH,q.1⟩ ::l) :=by
  cases s with
  |nil =>exact absurd rfl h
  |cons c t =>rfl
theorem paR_no{s:List UInt8}(hl:s.length <=20000)(h:clR s.length 0 s =none):paR s =([],420) :=by
  rw[paR,if_neg (by omega),h]
theorem clR_of:∀(k n:Nat) {s:List UInt8} {l:List Cl} {seen:Sc},clP k s =some l ->rtL seen l =true ->n + l.length <=41 ->clR k n s =some l:=by
  intro k
  induction k with
  | zero =>
    intro n s l seen h hr hn
    cases s with
    |nil =>exact h
    |cons c t =>cases h
  | succ k ih =>
    intro n s l seen h hr hn
    cases s with
    |nil =>exact h
    | cons c t =>
      simp only[clP]at h
      obtain⟨s1,h1,h⟩ :=qI h
      obtain⟨⟨x,s2⟩,h2,h⟩ :=qI h
      obtain⟨s3,h3,h⟩ :=qI h
      obtain⟨l',h4,h⟩ :=qI h
      obtain rfl:=Option.some.inj h
      rw[rtL]at hr
      simp only[Bool.and_eq_true,zS]at hr
      rw[List.length_cons]at hn
      simp only[clR]
      rw[h1]
      show(exR 20 [] s1).bind _ =_
      rw[exR_of 20 [] h2 ((szN_ne 20 [] x).1 hr.1.2).1]
      show(qG [10] s2).bind _ =_
      rw[h3]
      show(if 40 < n then none else(clR k (n + 1) s3).bind _)=_
      rw[if_neg (by omega),ih (n + 1) h4 hr.2 (by omega)];rfl
theorem paR_eq(s:List UInt8):paR s =paE s:=by
  unfold paR paE
  by_cases hs:20000 < s.length
  ·rw[if_pos hs,if_pos hs]
  rw[if_neg hs,if_neg hs]
  cases h1:clR s.length 0 s with
  | some l =>
    by_cases h2:prE l =0/\shL l =s
    · have h3:=pa_sh h2.1
      rw[h2.2,paE,if_neg hs]at h3
      dsimp only
      rw[if_pos h2,<-h3]
    · dsimp only
      rw[if_neg h2]
      cases h4:clP s.length s with
      |none =>rfl
      | some l' =>
        dsimp only
        by_cases h5:prE l' =0/\shL l' =s
        · exfalso
          have hrt:=prE_rt h5.1
          have h6:=clR_of s.length 0 h4 hrt.1 ze
          rw[h1]at h6
          injection h6 with h6
          subst h6
          exact h2 h5
        ·rw[if_neg h5]
  | none =>
    dsimp only
    cases h4:clP s.length s with
    |none =>rfl
    | some l' =>
      dsimp only
      by_cases h5:prE l' =0/\shL l' =s
      · exfalso
        have hrt:=prE_rt h5.1
        have h6:=clR_of s.length 0 h4 hrt.1 ze
        rw[h1]at h6
        cases h6
      ·rw[if_neg h5]
end Go.Proofs.YtenhciieboegbaaGreatDoor
