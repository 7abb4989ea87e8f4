/-
  Package notebook: the reader: small.
  An append from any row of memory (any offset, or nil), to a row whose block holds no word.
  Package notebook: rows of nodes and of cells by append. (Printed by wip/gen/nap.py.)
  Package notebook in plain words: the parts of a read expression, and what is left.
-/
import Derived.Test.YtenhciieboegbaaGreatDoorNnu
import Derived.Test.YtenhciieboegbaaGreatDoorLow
import Derived.Test.YtenhciieboegbaaGreatDoorRwn
namespace Go.Proofs.YtenhciieboegbaaGreatDoor
open Go Go.RowKit
def SmP:Int→Value→World→Prop:=λz v _=>v=.int .i64 z
section
set_option maxRecDepth 100000
set_option maxHeartbeats 8000000
theorem small_f{R:Nat}{s:List UInt8}{w:World}(B:Bk w R [encS s])(hl:s.length≤1000000):Calls Tryz.prog 137 #[.pointer (some ⟨R,0,none⟩)] w (RdP R w SmP (smlP s)):=by
  have HN:=hid (number_f B hl);obtain⟨q,hq⟩:∃q,numP s=q:=⟨_,rfl⟩;have HQ1:=hid (show q=none→smlP s=none from λh=>by rw[smlP,hq,h]);have HQ2:=hid (show ∀z t,q=some (z,t)→smlP s=if -1000000≤z∧z≤1000000 then some (z,t)else none from λz t h=>by rw[smlP,hq,h]);rw[hq]at HN;have HN:Hid (Calls Tryz.prog 113 #[.pointer (some ⟨R,0,none⟩)] w (RdP R w IntP q)):=HN;clear B hl hq;go_enter Tryz.func137,Tryz.ntmps137;cases q with
  | none=>
    have HR:=hid (HQ1.out rfl);clear HQ1 HQ2;go_wp2_with (go_at_call 113;refine Calls.mono HN.out ?_;rintro e w1 ⟨o1,rfl⟩)
    rw[HR.out];exact⟨rfl,o1,rfl⟩
  | some y=>
    obtain⟨z,t⟩:=y;have HR:=hid (HQ2.out z t rfl);clear HQ1 HQ2;have HLW:=hid (λ(x:Value) (w:World) (h:IsI 136 z x w)=>Low_f h);by_cases hb: -9223372036854775808≤z∧z≤9223372036854775807
    · have HLW:Hid (∀(x:Value) (w:World) (h:IsI 136 z x w),Calls Tryz.prog 167 #[x] w (Ret w (IsT2 (IsV (.int .i64 z)) (IsV (.bool true))))):=by rw[if_pos hb]at HLW;exact HLW
      have HBB:=hid hb;clear hb;by_cases h1:z< -1000000
      · have HR2:=hid (show smlP s=none by rw[HR.out,if_neg (by omega)])
        go_wp2_with (first| (go_at_call 113;refine Calls.mono HN.out ?_;rintro e w1 ⟨o1,b1,v1,rfl,hv1⟩;have hv1:=hid hv1)| (go_at_call 167;refine Calls.mono (HLW.out _ _ hv1.out) ?_;rintro e w2 ⟨v2,rfl,e2,x1,x2,rfl,d1,d2⟩;obtain rfl:x1=.int .i64 z:=d1;obtain rfl:x2=.bool true:=d2))
        rw[HR2.out];exact⟨rfl,o1.then e2,rfl⟩
      · by_cases h2:1000000<z
        · have HR2:=hid (show smlP s=none by rw[HR.out,if_neg (by omega)])
          go_wp2_with (first| (go_at_call 113;refine Calls.mono HN.out ?_;rintro e w1 ⟨o1,b1,v1,rfl,hv1⟩;have hv1:=hid hv1)| (go_at_call 167;refine Calls.mono (HLW.out _ _ hv1.out) ?_;rintro e w2 ⟨v2,rfl,e2,x1,x2,rfl,d1,d2⟩;obtain rfl:x1=.int .i64 z:=d1;obtain rfl:x2=.bool true:=d2))
          rw[HR2.out];exact⟨rfl,o1.then e2,rfl⟩
        · have HR2:=hid (show smlP s=some (z,t)by rw[HR.out,if_pos (by omega)])
          go_wp2_with (first| (go_at_call 113;refine Calls.mono HN.out ?_;rintro e w1 ⟨o1,b1,v1,rfl,hv1⟩;have hv1:=hid hv1)| (go_at_call 167;refine Calls.mono (HLW.out _ _ hv1.out) ?_;rintro e w2 ⟨v2,rfl,e2,x1,x2,rfl,d1,d2⟩;obtain rfl:x1=.int .i64 z:=d1;obtain rfl:x2=.bool true:=d2))
          go_ret
          rw[HR2.out];exact⟨o1.then e2,b1.ext e2,_,rfl,rfl⟩
    · have HLW:Hid (∀(x:Value) (w:World) (h:IsI 136 z x w),Calls Tryz.prog 167 #[x] w (Ret w (IsT2 (IsV (.int .i64 0)) (IsV (.bool false))))):=by rw[if_neg hb]at HLW;exact HLW
      have HR2:=hid (show smlP s=none by rw[HR.out,if_neg (by omega)]);clear hb;go_wp2_with (first| (go_at_call 113;refine Calls.mono HN.out ?_;rintro e w1 ⟨o1,b1,v1,rfl,hv1⟩;have hv1:=hid hv1)| (go_at_call 167;refine Calls.mono (HLW.out _ _ hv1.out) ?_;rintro e w2 ⟨v2,rfl,e2,x1,x2,rfl,d1,d2⟩;obtain rfl:x1=.int .i64 0:=d1;obtain rfl:x2=.bool false:=d2))
      rw[HR2.out];exact⟨rfl,o1.then e2,rfl⟩
end
end Go.Proofs.YtenhciieboegbaaGreatDoor
namespace Go.Proofs.YtenhciieboegbaaGreatDoor
open Go Go.RowKit
def SrcR(m:Nat)(news:List Value)(x:Value)(w:World):Prop:=(x=.slice none 0 0∧m=0∧news= [])∨ ∃g f c,x=.slice (some ⟨g,f,none⟩) m c∧ ∀j u,news[j]? =some u→World.cell? w ⟨g,f+j,none⟩=some u
theorem SrcR.ext{m:Nat}{news:List Value}{x:Value}{w w':World}(h:SrcR m news x w)(e:Ext w w'):SrcR m news x w':=h.imp id λ⟨g,f,c,h1,h2⟩=>⟨g,f,c,h1,λj u hj=>e.cell (h2 j u hj)⟩
theorem SrcR.new(w:World)(cs:Array Value)(t m c:Nat):SrcR m cs.toList (.slice (some ⟨w.heap.size,0,none⟩) m c) (w.alloc (.cells cs t)):=.inr ⟨_,0,c,rfl,λj u hj=>by rw[Nat.zero_add];exact cells_newE w cs t _ rfl j u hj⟩
theorem wp_rwnS{P:Program}{w:World}{o:Oper}{a:Act}{Q:Exit→Act→World→Prop}{K:Act→World→Prop}(s x:Operand)(t:TypeId)
    (ho:o.op=.call {callee:=.builtin .append,args:= #[s,x],argTypes:= #[t,t]}) (base e:Nat) (z:Value) (k bytes:Nat) (ht:P.underlying t=some (.slice e)) (hinfo:(P.info? e).map (λi=>(i.zero,i.size,i.bytes))=some (some z,k,bytes))
    (hzs:z.cells.size=k) (hk:0<k) (hzn:∀u∈z.cells.toList,NoWord u) (v:Value) (n:Nat) (xs:List Value) (hs:a.eval s=v) (hown:Rwg e k base w v n xs) (hnw:NwB w v) (m:Nat) (news:List Value) (xv:Value) (hx:a.eval x=xv) (hl:news.length=m*k)
    (hnews:SrcR m news xv w) (h1:∀u∈news,u.oneCell'=true) (hnn:∀u∈news,NoWord u) (h63:n+m≤140737488355328) (hbytes:(n+m)*bytes≤140737488355328) (hbase:base≤w.heap.size)
    (h:∀v' w',Rwg e k base w' v' (n+m) (xs++news)→NwB w' v'→w.grownBy w' v.ownBlock→Gr w w'→Below base w w'→(v'.ownBlock=v.ownBlock∨v'.ownBlock=some w.heap.size)→K (a.put o.dst v') w'):
    Oper.wp P o a w K Q:=by
  obtain⟨i,hi,hz0,hz1,hz2⟩:=info_parts hinfo;rcases hnews with⟨rfl,rfl,rfl⟩| ⟨g,f,c,rfl,hc⟩
  · have hr:=run_append_owned_none (P:=P) (w:=w) base t o.type e i k ht hi v n xs hown
    unfold Oper.wp execOp;simp only[ho,resolve,invoke,builtin,Sem.run_bind,Sem.run_pure,Result.andThen_ok,List.map_toArray,List.map_cons,List.map_nil,hs,hx,hr];exact h v w (by simpa using hown) hnw ⟨rfl,rfl,rfl,Nat.le_refl _,λ_ _ _=>rfl⟩ (Gr.refl w) (Below.refl base w) (.inl rfl)
  · obtain⟨v',w',hr,h2,h3,h5,h6⟩:=run_append_nw (P:=P) w base t o.type e i z k bytes ht hi hz0 hz1 hz2 hzs hk hzn v n xs hown hnw ⟨g,f,none⟩ m c news hl (λj u hj=>by have:=hc j u hj;cases j <;> simpa [Addr.add]using this) h1 hnn (by unfold maxLen;omega) hbytes hbase
    unfold Oper.wp execOp;simp only[ho,resolve,invoke,builtin,Sem.run_bind,Sem.run_pure,Result.andThen_ok,List.map_toArray,List.map_cons,List.map_nil,hs,hx,hr];refine h v' w' h2 h6 h3 (gr_of_grown h3 hnw) ((Below.refl base w).grown h3 hbase λb hb=>?_) h5;obtain⟨_,⟨hv,_⟩| ⟨g,cap,cur,hv,hb2,_⟩⟩:=hown
    ·rw[hv]at hb;cases hb
    ·rw[hv]at hb;cases hb;exact hb2
end Go.Proofs.YtenhciieboegbaaGreatDoor
namespace Go.Proofs.YtenhciieboegbaaGreatDoor
open Go Go.RowKit Go.Maps Go.Shelf
attribute [local go_sem] Oper.semAt_some
set_option maxRecDepth 100000
def RwK(T k base:Nat)(M:List (List Value))(v:Value)(w:World):Prop:=Rwg T k base w v M.length M.flatten∧NwB w v
theorem RwK.ext{T k base:Nat}{M:List (List Value)}{v:Value}{w w':World}(h:RwK T k base M v w)(e:Ext w w'):RwK T k base M v w':=⟨h.1.ext e,h.2.kept λg hg=>e.block g (World.ownsRow.lt h.1 g hg).2⟩
theorem RwK.nil(T k base:Nat)(w:World):RwK T k base [] (.slice none 0 0) w:=⟨Rwg.nil _ _ _ _,NwB.nil _⟩
theorem RwK.ob{T k base R:Nat}{M:List (List Value)}{v:Value}{w w':World}(h:RwK T k base M v w)(O:Ob R w w')(hR:R<base):RwK T k base M v w':=by
  have hb:∀g,v.ownBlock=some g→w'.heap[g]? =w.heap[g]? :=λg hg=>O.block g (World.ownsRow.lt h.1 g hg).2 (by have:=(World.ownsRow.lt h.1 g hg).1;omega)
  refine⟨?_,h.2.kept hb⟩;obtain⟨h1,h2| ⟨g,cap,cur,hv,hb2,hg,hr⟩⟩:=h.1
  ·exact⟨h1,.inl h2⟩
  ·exact⟨h1,.inr ⟨g,cap,cur,hv,hb2,(hb g (by rw[hv];rfl)).trans hg,hr⟩⟩
theorem flat_atK{k:Nat}:∀ {L:List (List Value)},(∀vs∈L,vs.length=k)→ ∀ {j:Nat} {vs:List Value},L[j]? =some vs→ ∀ {q:Nat} {u:Value},vs[q]? =some u→L.flatten[k*j+q]? =some u
  | [],_,j,vs,hj,_,_,_=>by simp at hj
  | x ::t,h,0,vs,hj,q,u,hq=>by
    obtain rfl:x=vs:=by simpa using hj
    rw[List.flatten_cons,Nat.mul_zero,Nat.zero_add,List.getElem?_append_left (List.getElem?_eq_some_iff.1 hq).1];exact hq
  | x ::t,h,j+1,vs,hj,q,u,hq=>by
    have hx:x.length=k:=h x (by simp);rw[List.flatten_cons,List.getElem?_append_right (by rw[hx,Nat.mul_succ];omega),hx,show k*(j+1)+q-k=k*j+q by rw[Nat.mul_succ];omega];exact flat_atK (λvs hv=>h vs (List.mem_cons_of_mem _ hv)) (by simpa using hj) hq
theorem RwK.at{T k base:Nat}{M:List (List Value)}{v:Value}{w:World}(h:RwK T k base M v w)(hk:∀us∈M,us.length=k):∃ao cap,v=.slice ao M.length cap∧M.length≤cap∧cap≤9223372036854775807∧
    (M≠ []→ ∃g,ao=some ⟨g,0,none⟩∧base≤g∧g<w.heap.size∧ ∀i us,M[i]? =some us→ ∀j u,us[j]? =some u→w.cell? ⟨g,k*i+j,none⟩=some u):=by
  obtain⟨ao,cap,h1,h2,h3,h4,h5⟩:=h.1.shape;refine⟨ao,cap,h1,h2,h3,λhne=>?_⟩;obtain⟨g,q1,q2,q3,q4⟩:=h5 (by simpa using hne);refine⟨g,q1,q2,q3,λi us hi j u hj=>q4 _ _ ?_⟩;exact flat_atK hk hi hj
theorem infoNd:∃bytes,(Tryz.prog.info? 32).map (λi=>(i.zero,i.size,i.bytes))=some (some (.agg zNd.toArray),8,bytes)∧bytes≤1000:=⟨104,by kernel_rfl,by decide⟩
theorem wp_nd{w:World}{o:Oper}{a:Act}{Q:Exit→Act→World→Prop}{K:Act→World→Prop}(t:Tmp)(s x:Operand)
    (ho:o.op=.call {callee:=.builtin .append,args:= #[s,x],argTypes:= #[30,30]}) (base:Nat) (M:List (List Value)) (us:List Value) (v xv:Value) (hs:a.eval s=v) (hx:a.eval x=xv) (hI:RwK 32 8 base M v w) (hu:us.length=8∧(∀v∈us,NoWord v)∧us.all (λu=>u.oneCell')=true) (hsrc:SrcR 1 us xv w) (hl:M.length≤1000000) (hbase:base≤w.heap.size)
    (h:∀v' w',RwK 32 8 base (M++ [us]) v' w'→w.grownBy w' v.ownBlock→Gr w w'→Below base w w'→K (a.put (some t) v') w') (hdt:o.dst=some t:=by rfl):Oper.wp Tryz.prog o a w K Q:=by
  obtain⟨bytes,hi,hb⟩:=infoNd;refine wp_rwnS s x 30 ho base 32 (.agg zNd.toArray) 8 bytes (by kernel_rfl) hi rfl (by decide) (λu hu=>nwZN u (by simpa [Value.cells]using hu)) v M.length M.flatten hs hI.1 hI.2 1 us xv hx (by rw[hu.1]) hsrc (List.all_eq_true.1 hu.2.2) hu.2.1 (by omega) (by have:=Nat.mul_le_mul (show M.length+1≤1000001 by omega) hb;omega) hbase ?_;intro v' w' r1 r2 r3 r4 r5 r6;rw[hdt];exact h v' w' ⟨by rw[List.length_append,List.flatten_append];simpa using r1,r2⟩ r3 r4 r5
theorem infoCl:∃bytes,(Tryz.prog.info? 34).map (λi=>(i.zero,i.size,i.bytes))=some (some (.agg zCl.toArray),9,bytes)∧bytes≤1000:=⟨120,by kernel_rfl,by decide⟩
theorem wp_cl{w:World}{o:Oper}{a:Act}{Q:Exit→Act→World→Prop}{K:Act→World→Prop}(t:Tmp)(s x:Operand)
    (ho:o.op=.call {callee:=.builtin .append,args:= #[s,x],argTypes:= #[25,25]}) (base:Nat) (M:List (List Value)) (us:List Value) (v xv:Value) (hs:a.eval s=v) (hx:a.eval x=xv) (hI:RwK 34 9 base M v w) (hu:us.length=9∧(∀v∈us,NoWord v)∧us.all (λu=>u.oneCell')=true) (hsrc:SrcR 1 us xv w) (hl:M.length≤1000000) (hbase:base≤w.heap.size)
    (h:∀v' w',RwK 34 9 base (M++ [us]) v' w'→w.grownBy w' v.ownBlock→Gr w w'→Below base w w'→K (a.put (some t) v') w') (hdt:o.dst=some t:=by rfl):Oper.wp Tryz.prog o a w K Q:=by
  obtain⟨bytes,hi,hb⟩:=infoCl;refine wp_rwnS s x 25 ho base 34 (.agg zCl.toArray) 9 bytes (by kernel_rfl) hi rfl (by decide) (λu hu=>nwZCl u (by simpa [Value.cells]using hu)) v M.length M.flatten hs hI.1 hI.2 1 us xv hx (by rw[hu.1]) hsrc (List.all_eq_true.1 hu.2.2) hu.2.1 (by omega) (by have:=Nat.mul_le_mul (show M.length+1≤1000001 by omega) hb;omega) hbase ?_;intro v' w' r1 r2 r3 r4 r5 r6;rw[hdt];exact h v' w' ⟨by rw[List.length_append,List.flatten_append];simpa using r1,r2⟩ r3 r4 r5
end Go.Proofs.YtenhciieboegbaaGreatDoor
namespace Go.Proofs.YtenhciieboegbaaGreatDoor
open Go Go.RowKit
noncomputable def infP (k:Nat) (b:Sc) (t:List UInt8):Option (Nd×List UInt8):=
  (exP k b t).bind λ(x,s1)=>(takeP [32] s1).bind λs2=>(takeP (opW (opP s2)++ [32]) s2).bind λs3=>
    (exP k b s3).bind λ(y,s4)=>(takeP [41] s4).bind λs5=>some (.mk (opP s2) [] 0 0 0 0 [x,y],s5)
noncomputable def valP (s2:List UInt8):Option (Nd×List UInt8):=
  (takeP [34] s2).bind λs3=>(takeP [44,32] ((s3.dropWhile (· !=34)).drop 1)).bind λs4=>(smlP s4).bind λ(z,s5)=>some (.mk 3 (s3.takeWhile (· !=34)) z 0 0 0 [],s5)
noncomputable def bndP (k:Nat) (b:Sc) (op:Int) (s2:List UInt8):Option (Nd×List UInt8):=
  (takeP [44,32] (s2.dropWhile cWrd)).bind λs3=>(smlP s3).bind λ(lo,s4)=>(takeP [44,32] s4).bind λs5=>(smlP s5).bind λ(hi,s6)=>(takeP [44,32] s6).bind λs7=>
    (exP k (b++ [s2.takeWhile cWrd]) s7).bind λ(x,s8)=>some (.mk op (s2.takeWhile cWrd) 0 0 lo hi [x],s8)
noncomputable def joiP (k:Nat) (b:Sc) (op:Int) (s2:List UInt8):Option (Nd×List UInt8):=
  (exP k b s2).bind λ(x,s3)=>(takeP [44,32] s3).bind λs4=>(exP k b s4).bind λ(y,s5)=>some (.mk op [] 0 0 0 0 [x,y],s5)
noncomputable def caP (k:Nat) (b:Sc) (w s2:List UInt8):Option (Nd×List UInt8):=
  if w=wVal then valP s2 else if callO w=0 then none else if bindO (callO w)then bndP k b (callO w) s2 else joiP k b (callO w) s2
theorem exP_nil(k:Nat)(b:Sc):exP k b []=none:=by cases k <;> rfl
theorem exP_inf(k:Nat)(b:Sc)(t:List UInt8):exP (k+1) b (40 ::t)=infP k b t:=by rw[exP];simp only[if_true];rfl
theorem exP_num{k:Nat}{b:Sc}{c:UInt8}{t:List UInt8}(h1:c≠40)(h2:cLet c=false):exP (k+1) b (c ::t)=(numP (c ::t)).bind λ(z,t)=>some (.mk 1 [] 0 z 0 0 [],t):=by
  rw[exP];simp only[if_neg h1,h2];rfl
theorem exP_name{k:Nat}{b:Sc}{c:UInt8}{t:List UInt8}(h1:c≠40)(h2:cLet c=true)(h3:takeP [40] ((c ::t).dropWhile cWrd)=none):exP (k+1) b (c ::t)=some (.mk (if b.contains ((c ::t).takeWhile cWrd)then 11 else 2) ((c ::t).takeWhile cWrd) 0 0 0 0 [],(c ::t).dropWhile cWrd):=by
  rw[exP];simp only[if_neg h1,h2,if_true];rw[h3]
theorem exP_call{k:Nat}{b:Sc}{c:UInt8}{t s2:List UInt8}(h1:c≠40)(h2:cLet c=true)(h3:takeP [40] ((c ::t).dropWhile cWrd)=some s2):exP (k+1) b (c ::t)=(caP k b ((c ::t).takeWhile cWrd) s2).bind λ(x,s6)=>(takeP [41] s6).bind λs7=>some (x,s7):=by
  rw[exP];simp only[if_neg h1,h2,if_true];rw[h3];rfl
theorem takeP_len{x s t:List UInt8}(h:takeP x s=some t):t.length≤s.length:=by
  rw[takeP]at h
  split at h
  ·cases h;simp
  ·cases h
theorem tw_len(p:UInt8→Bool)(s:List UInt8):(s.takeWhile p).length≤s.length∧(s.dropWhile p).length≤s.length:=⟨(List.takeWhile_prefix _).length_le,(List.dropWhile_suffix _).length_le⟩
theorem numP_len{s t:List UInt8}{z:Int}(h:numP s=some (z,t)):t.length≤s.length:=by
  rw[numP]at h
  split at h
  ·cases h
  · simp only[Option.some.injEq,Prod.mk.injEq]at h
    rw[← h.2];have:=(tw_len cWrd (s.drop (minusP s).length)).2;simp at this;omega
theorem smlP_len{s t:List UInt8}{z:Int}(h:smlP s=some (z,t)):t.length≤s.length:=by
  rw[smlP]at h;cases hn:numP s with
  |none=>rw[hn]at h;cases h
  | some y=>
    obtain⟨z',t'⟩:=y;rw[hn]at h;dsimp only at h
    split at h
    · simp only[Option.some.injEq,Prod.mk.injEq]at h
      rw[← h.2];exact numP_len hn
    ·cases h
theorem bindS{α β:Type}{o:Option α}{f:α→Option β}{y:β}(h:o.bind f=some y):∃x,o=some x∧f x=some y:=Option.bind_eq_some_iff.1 h
theorem valP_len{s t:List UInt8}{x:Nd}(h:valP s=some (x,t)):t.length≤s.length:=by
  rw[valP]at h;obtain⟨s3,h1,h⟩:=bindS h;obtain⟨s4,h2,h⟩:=bindS h;obtain⟨⟨z,s5⟩,h3,h⟩:=bindS h;simp only[Option.some.injEq,Prod.mk.injEq]at h;have q1:=takeP_len h1;have q2:=takeP_len h2;have q3:=smlP_len h3;have q4:=(tw_len (· !=34) s3).2;simp only[List.length_drop]at q2;rw[← h.2];omega
theorem exP_len:∀ (k:Nat) {b:Sc} {s t:List UInt8} {x:Nd},exP k b s=some (x,t)→t.length≤s.length:=by
  intro k
  induction k with
  |zero=>intro b s t x h;cases h
  | succ k ih=>
    intro b s t x h;cases s with
    |nil=>rw[exP_nil]at h;cases h
    | cons c u=>
      by_cases h1:c=40
      · subst h1
        rw[exP_inf,infP]at h;obtain⟨⟨y,s1⟩,h1,h⟩:=bindS h;obtain⟨s2,h2,h⟩:=bindS h;obtain⟨s3,h3,h⟩:=bindS h;obtain⟨⟨z,s4⟩,h4,h⟩:=bindS h;obtain⟨s5,h5,h⟩:=bindS h;simp only[Option.some.injEq,Prod.mk.injEq]at h;have q1:=ih h1;have q2:=takeP_len h2;have q3:=takeP_len h3;have q4:=ih h4;have q5:=takeP_len h5;rw[← h.2,List.length_cons];omega
      · cases h2:cLet c with
        | false=>
          rw[exP_num h1 h2]at h;obtain⟨⟨z,s1⟩,h3,h⟩:=bindS h;simp only[Option.some.injEq,Prod.mk.injEq]at h;rw[← h.2];exact numP_len h3
        | true=>
          cases h3:takeP [40] ((c ::u).dropWhile cWrd)with
          | none=>
            rw[exP_name h1 h2 h3]at h;simp only[Option.some.injEq,Prod.mk.injEq]at h;rw[← h.2];exact(tw_len _ _).2
          | some s2=>
            rw[exP_call h1 h2 h3]at h;obtain⟨⟨y,s6⟩,h4,h⟩:=bindS h;obtain⟨s7,h5,h⟩:=bindS h;simp only[Option.some.injEq,Prod.mk.injEq]at h;have q1:=takeP_len h3;have q2:=takeP_len h5;have q3:=(tw_len cWrd (c ::u)).2
            have q4:s6.length≤s2.length:=by
              rw[caP]at h4
              split at h4
              ·exact valP_len h4
              · split at h4
                ·cases h4
                · split at h4
                  · rw[bndP]at h4
                    obtain⟨r3,g1,h4⟩:=bindS h4;obtain⟨⟨lo,r4⟩,g2,h4⟩:=bindS h4;obtain⟨r5,g3,h4⟩:=bindS h4;obtain⟨⟨hi,r6⟩,g4,h4⟩:=bindS h4;obtain⟨r7,g5,h4⟩:=bindS h4;obtain⟨⟨z,r8⟩,g6,h4⟩:=bindS h4;simp only[Option.some.injEq,Prod.mk.injEq]at h4;have p0:=(tw_len cWrd s2).2;have p1:=takeP_len g1;have p2:=smlP_len g2;have p3:=takeP_len g3;have p4:=smlP_len g4;have p5:=takeP_len g5;have p6:=ih g6;rw[← h4.2];omega
                  · rw[joiP]at h4
                    obtain⟨⟨y1,r3⟩,g1,h4⟩:=bindS h4;obtain⟨r4,g2,h4⟩:=bindS h4;obtain⟨⟨y2,r5⟩,g3,h4⟩:=bindS h4;simp only[Option.some.injEq,Prod.mk.injEq]at h4;have p1:=ih g1;have p2:=takeP_len g2;have p3:=ih g3;rw[← h4.2];omega
            rw[← h.2];omega
end Go.Proofs.YtenhciieboegbaaGreatDoor
