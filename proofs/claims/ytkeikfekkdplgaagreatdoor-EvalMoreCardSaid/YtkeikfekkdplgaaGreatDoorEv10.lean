/- Lemmas. -/
import Derived.Test.YtkeikfekkdplgaaGreatDoorEv8
import Derived.Tactics
import Derived.Tactics2
import Derived.Defers
import Derived.Recover
import Derived.Laws.Pointers
namespace Go.Proofs.YtkeikfekkdplgaaGreatDoor
section
open Go Go.RowKit
open Go.Proofs.Tryz
theorem zp{P:Prop}(h:P:=by simpa [xR]using h):P:=h
set_option maxRecDepth 100000
set_option maxHeartbeats 8000000
def xR:List (Int×FuncId):= [(4,138),(5,141),(6,143),(7,146),(8,147),(12,148),(13,151)]
def opsC:List Value:= [.int .i64 4,.func (.func 138) #[] #[],.int .i64 5,.func (.func 141) #[] #[],.int .i64 6,.func (.func 143) #[] #[],.int .i64 7,.func (.func 146) #[] #[],.int .i64 8,.func (.func 147) #[] #[],.int .i64 12,.func (.func 148) #[] #[],.int .i64 13,.func (.func 151) #[] #[]]
def IsOps(B:Nat):Value->World->Prop:=λx w=>∃g,x=.slice (some ⟨g,0,none⟩) 7 7/\B<=g/\Bk w g opsC
theorem IsOps.stb(B:Nat):Stb (IsOps B):=λ_ _ _ e ⟨g,h1,h2,h3⟩=>⟨g,h1,h2,h3.ext e⟩
instance (B:Nat):StbC (IsOps B):=⟨IsOps.stb B⟩
theorem operations_f(w:World)(B:Nat)(hB:B<=w.heap.size):Calls prog 114 #[] w (Ret w (IsOps B)):=by
  go_enter func114,ntmps114;go_wp2_with fail
  go_ret
  exact⟨_,rfl,(Ext.refl _).alloc _,_,rfl,hB,Bk.new w _ _⟩
theorem opsT_at:∀ {j:Nat} {op:Int} {f:FuncId},xR[j]? =some (op,f)->j<7/\opsC[2*j]? =some (.int .i64 op)/\opsC[2*j+1]? =some (.func (.func f) #[] #[])
  | 0,_,_,h=>by
    obtain⟨rfl,rfl⟩:(4:Int)=_/\(138:FuncId)=_:=zp
    exact⟨by decide,rfl,rfl⟩
  | 1,_,_,h=>by
    obtain⟨rfl,rfl⟩:(5:Int)=_/\(141:FuncId)=_:=zp
    exact⟨by decide,rfl,rfl⟩
  | 2,_,_,h=>by
    obtain⟨rfl,rfl⟩:(6:Int)=_/\(143:FuncId)=_:=zp
    exact⟨by decide,rfl,rfl⟩
  | 3,_,_,h=>by
    obtain⟨rfl,rfl⟩:(7:Int)=_/\(146:FuncId)=_:=zp
    exact⟨by decide,rfl,rfl⟩
  | 4,_,_,h=>by
    obtain⟨rfl,rfl⟩:(8:Int)=_/\(147:FuncId)=_:=zp
    exact⟨by decide,rfl,rfl⟩
  | 5,_,_,h=>by
    obtain⟨rfl,rfl⟩:(12:Int)=_/\(148:FuncId)=_:=zp
    exact⟨by decide,rfl,rfl⟩
  | 6,_,_,h=>by
    obtain⟨rfl,rfl⟩:(13:Int)=_/\(151:FuncId)=_:=zp
    exact⟨by decide,rfl,rfl⟩
  |j+7,_,_,h=>by simp[xR]at h
theorem opsT_inj{j k:Nat}{op:Int}{f f':FuncId}(h:xR[j]? =some (op,f))(h':xR[k]? =some (op,f')):j=k:=by
  have h1:=(opsT_at h).1;have h2:=(opsT_at h').1;have:∀j k:Fin 7,(xR[j.1]?).map (·.1)=(xR[k.1]?).map (·.1)->j=k:=by decide
  have:=this ⟨j,h1⟩ ⟨k,h2⟩ (by rw[h,h'];rfl)
  simpa using this
theorem opsT_of{op:Int}(h:op=4\/op=5\/op=6\/op=7\/op=8\/op=12\/op=13):∃(j:Nat) (f:FuncId),xR[j]? =some (op,f):=by
  rcases h with rfl|rfl|rfl|rfl|rfl|rfl|rfl
  ·exact⟨0,_,rfl⟩
  ·exact⟨1,_,rfl⟩
  ·exact⟨2,_,rfl⟩
  ·exact⟨3,_,rfl⟩
  ·exact⟨4,_,rfl⟩
  ·exact⟨5,_,rfl⟩
  ·exact⟨6,_,rfl⟩
theorem opsT_en{j:Nat}{op:Int}{f:FuncId}(h:xR[j]? =some (op,f)):∀args w,(callFunc f args).run prog w=.ok (.enter f args) w:=by
  have h1:=(opsT_at h).1
  match j,h1,h with
  | 0,_,h=>
    obtain⟨rfl,rfl⟩:(4:Int)=_/\(138:FuncId)=_:=zp
    exact en func138
  | 1,_,h=>
    obtain⟨rfl,rfl⟩:(5:Int)=_/\(141:FuncId)=_:=zp
    exact en func141
  | 2,_,h=>
    obtain⟨rfl,rfl⟩:(6:Int)=_/\(143:FuncId)=_:=zp
    exact en func143
  | 3,_,h=>
    obtain⟨rfl,rfl⟩:(7:Int)=_/\(146:FuncId)=_:=zp
    exact en func146
  | 4,_,h=>
    obtain⟨rfl,rfl⟩:(8:Int)=_/\(147:FuncId)=_:=zp
    exact en func147
  | 5,_,h=>
    obtain⟨rfl,rfl⟩:(12:Int)=_/\(148:FuncId)=_:=zp
    exact en func148
  | 6,_,h=>
    obtain⟨rfl,rfl⟩:(13:Int)=_/\(151:FuncId)=_:=zp
    exact en func151
theorem cmpI_neg(a b:Int):decide (qJ a b<0)=decide (a<b):=by
  unfold qJ;by_cases h:a<b
  ·simp[h]
  ·by_cases h2:b<a <;> simp[h,h2]
theorem cmpI_nn(a b:Int):decide (0<=qJ a b)=decide (b<=a):=by
  unfold qJ;by_cases h:a<b
  · have:¬b<=a:=by omega
    simp[h,this]
  · have h1:b<=a:=by omega
    by_cases h2:b<a <;> simp[h,h1,h2]
theorem cmpI_zero(a b:Int):(qJ a b==0)=decide (a=b):=by
  unfold qJ;by_cases h:a<b
  · have:¬a=b:=by omega
    simp[h,this]
  · by_cases h2:b<a
    · have:¬a=b:=by omega
      simp[h,h2,this]
    · have:a=b:=by omega
      simp[this]
theorem cmpI_z{a b:Int}:qJ a b=0↔a=b:=by
  have:=cmpI_zero a b;constructor
  ·intro h;rw[h]at this;simpa using this.symm
  ·intro h;simpa [h]using this
theorem OpP.of{w:World}{k:Nat}{q:Kn}{e:Ending}{w':World}(h:Ret w (IsK k q) e w')(hk:k<=128):OpP w (.ok q) e w':=let ⟨v,h1,h2,h3⟩:=h;⟨h2,v,h1,h3.mono hk⟩
theorem shortP{k:Nat}{u v:Int}{w:World}{P:FuncId}{args:Array Value}
    (hy:∀m1 m2 r:Int,Hid (((bitLen u.natAbs:Nat):Int)=m1)->Hid (((bitLen v.natAbs:Nat):Int)=m2)->Hid ((if m2 >m1 then m2 else m1)=r)->Hid (¬r >4096)->Calls prog P args w (Ret w (IsKn k u v false)))
    (hn:∀m1 m2 r:Int,Hid (((bitLen u.natAbs:Nat):Int)=m1)->Hid (((bitLen v.natAbs:Nat):Int)=m2)->Hid ((if m2 >m1 then m2 else m1)=r)->Hid (r >4096)->Calls prog P args w (λe w'=>e=.panicked (pan 2)/\Ext w w')):Calls prog P args w (OpP w (xP ⟨u,v,false⟩)):=by
  by_cases hb:4096<max (bitLen u.natAbs) (bitLen v.natAbs)
  · rw[xP,if_pos hb]
    exact jC (hn _ _ _ (hid rfl) (hid rfl) (hid rfl) (hid (by split <;> omega))) λe w' h=>⟨h.2,h.1⟩
  · rw[xP,if_neg hb]
    exact jC (hy _ _ _ (hid rfl) (hid rfl) (hid rfl) (hid (by split <;> omega))) λe w' h=>let ⟨v,h1,h2,h3⟩:=h;⟨h2,v,h1,h3.tight (bitLen_lt zb) (bitLen_lt zb)⟩
theorem op_all{j:Nat}{op:Int}{f:FuncId}(h:xR[j]? =some (op,f)){p q:Kn}{x y:Value}{w:World}(hx:IsK 128 p x w)(hy:IsK 128 q y w):Calls prog f #[x,y] w (OpP w (opV op p q)):=by
  obtain⟨l1,u1,f1⟩:=p;obtain⟨l2,u2,f2⟩:=q;have hK:Hid (128<=1000):=hid dcx;have h1:=(opsT_at h).1
  match j,h1,h with
  | 0,_,h=>
    obtain⟨rfl,rfl⟩:(4:Int)=_/\(138:FuncId)=_:=zp
    rw[show opV 4 ⟨l1,u1,f1⟩ ⟨l2,u2,f2⟩=xP ⟨l1+l2,u1+u2,false⟩from rfl];exact shortP (λm1 m2 r a b c d=>opA_y hx hy hK (hid rfl) (hid rfl) a b c d) (λm1 m2 r a b c d=>opA_n hx hy hK (hid rfl) (hid rfl) a b c d)
  | 1,_,h=>
    obtain⟨rfl,rfl⟩:(5:Int)=_/\(141:FuncId)=_:=zp
    rw[show opV 5 ⟨l1,u1,f1⟩ ⟨l2,u2,f2⟩=xP ⟨l1-u2,u1-l2,false⟩from rfl];exact shortP (λm1 m2 r a b c d=>opS_y hx hy hK (hid rfl) (hid rfl) a b c d) (λm1 m2 r a b c d=>opS_n hx hy hK (hid rfl) (hid rfl) a b c d)
  | 2,_,h=>
    obtain⟨rfl,rfl⟩:(6:Int)=_/\(143:FuncId)=_:=zp
    exact opM_f hx hy hK
  | 3,_,h=>
    obtain⟨rfl,rfl⟩:(7:Int)=_/\(146:FuncId)=_:=zp
    exact jC (opL_f hx hy hK) λe w' h=>OpP.of (q:=⟨min l1 l2,min u1 u2,false⟩) h dcx
  | 4,_,h=>
    obtain⟨rfl,rfl⟩:(8:Int)=_/\(147:FuncId)=_:=zp
    exact jC (opG_f hx hy hK) λe w' h=>OpP.of (q:=⟨max l1 l2,max u1 u2,false⟩) h dcx
  | 5,_,h=>
    obtain⟨rfl,rfl⟩:(12:Int)=_/\(148:FuncId)=_:=zp
    rw[show opV 12 ⟨l1,u1,f1⟩ ⟨l2,u2,f2⟩=.ok (qU (decide (u1<l2)) (decide (u2<=l1)))from rfl,<-cmpI_neg,<-cmpI_nn];exact jC (opLess_f hx hy hK (hid rfl) (hid rfl) (hid rfl) (hid rfl)) λe w' h=>OpP.of h dcx
  | 6,_,h=>
    obtain⟨rfl,rfl⟩:(13:Int)=_/\(151:FuncId)=_:=zp
    rw[show opV 13 ⟨l1,u1,f1⟩ ⟨l2,u2,f2⟩=.ok (qU (decide (l1=u2)&&decide (l2=u1)) (decide (u1<l2)||decide (u2<l1)))from rfl];by_cases c1:u1<l2
    · have d1:decide (qJ u1 l2<0)=true:=by rw[cmpI_neg];exact decide_eq_true c1
      rw[decide_eq_true c1,Bool.true_or];by_cases c3:l1=u2
      · rw[decide_eq_true c3,Bool.true_and,<-cmpI_zero]
        exact jC (opEq_tt (_b2:=true) (_c2':=0) hx hy hK (hid rfl) (hid d1) (hid rfl) (hid (cmpI_z.2 c3)) (hid rfl) (hid rfl)) λe w' h=>OpP.of h dcx
      · rw[decide_eq_false c3,Bool.false_and]
        exact jC (opEq_tf (_b2:=true) (_b4:=true) (_c2':=0) (_c4':=0) hx hy hK (hid rfl) (hid d1) (hid rfl) (hid (λhh=>c3 (cmpI_z.1 hh)))) λe w' h=>OpP.of h dcx
    · have d1:decide (qJ u1 l2<0)=false:=by rw[cmpI_neg];exact decide_eq_false c1
      rw[decide_eq_false c1,Bool.false_or,<-cmpI_neg u2 l1];by_cases c3:l1=u2
      · rw[decide_eq_true c3,Bool.true_and,<-cmpI_zero]
        exact jC (opEq_ft hx hy hK (hid rfl) (hid d1) (hid rfl) (hid rfl) (hid rfl) (hid (cmpI_z.2 c3)) (hid rfl) (hid rfl)) λe w' h=>OpP.of h dcx
      · rw[decide_eq_false c3,Bool.false_and]
        exact jC (opEq_ff (_b4:=true) (_c4':=0) hx hy hK (hid rfl) (hid d1) (hid rfl) (hid rfl) (hid rfl) (hid (λhh=>c3 (cmpI_z.1 hh)))) λe w' h=>OpP.of h dcx
theorem wp_callV{P:Program}{Q:Exit->Act->World->Prop}{o:Oper}{f:FuncId}{c:Call}{t:Operand}{a:Act}{w:World}{K:Act->World->Prop}{R:Ending->World->Prop}{xs:List Operand}{us:List Value}(he:∀args w,(callFunc f args).run P w=.ok (.enter f args) w)(ht:a.eval t=.func (.func f) #[] #[])(hx:xs.map a.eval=us)
    (h:Calls P f us.toArray w R) (h1:∀v w',R (.returned v) w'->K (a.put o.dst v) w') (h2:∀ch w',R (.panicked ch) w'->Q (.panic ch) a w') (h3:∀w',¬R .outgrown w')
    (ho:o.op=.call c:=by rfl) (hc:c.callee=.value t:=by rfl) (ha:c.args=xs.toArray:=by rfl):Oper.wp P o a w K Q:=by
  have hr:(execOp a.eval o).run P w=.ok (.enter f (c.args.map a.eval)) w:=by
    unfold execOp;rw[ho];dsimp only;unfold resolve;rw[hc];simp[invoke,he,ht,Deferred.ofValue]
  unfold Oper.wp;rw[hr,Oper.upon_enter,ha,List.map_toArray,hx];refine jC h ?_;intro e w2 hR;cases e with
  |returned v=>exact h1 v w2 hR
  |panicked ch=>exact h2 ch w2 hR
  |outgrown=>exact absurd hR (h3 w2)
set_option maxRecDepth 100000
theorem lenOps{B:Nat}{ops:Array Oper}{Q:Exit->Act->World->Prop}{ds:List (Option Tmp)}{a0:Act}{w0:World}{L:List (Value->World->Prop)}{boxes:List Nat}{i:Nat}{o:Oper}{x:Operand}(hx:Od ops ds a0 w0 L i x (IsOps B))(ho:o.op=.call {callee:=.builtin .len,args:= #[x],argTypes:= #[207]} :=by rfl)(hi:L.getD i (λ_ _=>True)=iV 7:=by kernel_rfl)(hb:boxes.contains i=false:=by kernel_rfl):Ok prog ops Q ds a0 w0 L boxes i o:=
  Ok.of hb λv a w hE hd hf=>by
    obtain⟨g,h1,_⟩:=hx.out v a w hE hd hf;refine⟨_,?_,by rw[hi];exact rfl⟩;unfold execOp;rw[ho];dsimp only;unfold resolve;simp only[List.map_toArray,List.map_cons,List.map_nil,h1]
    go_simp
theorem ix_Op(g j:Nat)(h:j<7)(w:World):(Instr.indexAt 207 (.slice (some ⟨g,0,none⟩) 7 7) (.int .i64 (j:Int))).run prog w=.ok (.pointer (some ⟨g,2*j,none⟩)) w:=by
  have h1:(0:Int)<=(j:Int):=zb
  have h2:(j:Int)<7:=zb
  have h3:0+j*2=2*j:=zb
  have h4:j*2=2*j:=zb
  go_simp
theorem ld_Op(g f:Nat)(w:World)(z:Int)(u:FuncId)(h0:World.cell? w ⟨g,f,none⟩=some (.int .i64 z))(h1:World.cell? w ⟨g,f+1,none⟩=some (.func (.func u) #[] #[])):(Instr.loadAt 211 (.pointer (some ⟨g,f,none⟩))).run prog w=.ok (.agg #[.int .i64 z,.func (.func u) #[] #[]]) w:=by go_simp
theorem al_Op(w:World):(Instr.alloc 211 true (.tuple #[])).run prog w=.ok (.pointer (some ⟨w.heap.size,0,none⟩)) (w.alloc (.cells [.int .i64 0,.nilFunc].toArray 211)):=by go_simp
theorem fa_Op0(g:Nat)(w:World):(Instr.fieldAt 211 (.pointer (some ⟨g,0,none⟩)) 0).run prog w=.ok (.pointer (some ⟨g,0,none⟩)) w:=by go_simp
theorem fa_Op1(g:Nat)(w:World):(Instr.fieldAt 211 (.pointer (some ⟨g,0,none⟩)) 1).run prog w=.ok (.pointer (some ⟨g,1,none⟩)) w:=by go_simp
theorem opsT_mem{j:Nat}{op:Int}{f:FuncId}(h:xR[j]? =some (op,f)):op=4\/op=5\/op=6\/op=7\/op=8\/op=12\/op=13:=by
  have h2:(op,f)∈xR:=List.mem_of_getElem? h;simp only[xR,List.mem_cons,Prod.mk.injEq,List.not_mem_nil,or_false]at h2;rcases h2 with h|h|h|h|h|h|h
  ·exact .inl h.1
  ·exact .inr (.inl h.1)
  ·exact .inr (.inr (.inl h.1))
  ·exact .inr (.inr (.inr (.inl h.1)))
  ·exact .inr (.inr (.inr (.inr (.inl h.1))))
  ·exact .inr (.inr (.inr (.inr (.inr (.inl h.1)))))
  ·exact .inr (.inr (.inr (.inr (.inr (.inr h.1)))))
def binR{σ:Type}(op:Int)(r1 r2:Res Kn×Mst σ):Res Kn×Mst σ:=
  match r1 with
  | (.error n,st')=>(.error n,st')
  | (.ok p,_)=>match r2 with
    | (.error n,st2)=>(.error n,st2)
    | (.ok q,st2)=>match opV op p q with
      | .error n=>(.error n,st2)
      | .ok r=>(.ok ⟨r.lo,r.hi,p.fin&&q.fin⟩,st2)
theorem binR_ok{σ:Type}{op:Int}{p q r:Kn}{s1 s2:Mst σ}(h:opV op p q=.ok r):binR op (.ok p,s1) (.ok q,s2)=(.ok ⟨r.lo,r.hi,p.fin&&q.fin⟩,s2):=by simp only[binR,h]
theorem binR_er{σ:Type}{op:Int}{p q:Kn}{n:Int}{s1 s2:Mst σ}(h:opV op p q=.error n):binR op (.ok p,s1) (.ok q,s2)=(.error n,s2):=by simp only[binR,h]
theorem ld_Fn:LdC1 prog 209:=λw a v h=>by go_simp
theorem st_Op:StV prog 211 2:=by
  intro w g vs us h1 h2 hs B
  match vs,h1 with
  | [v0,v1],_=>
    match us,h2 with
    | [u0,u1],_=>
      simp only[List.all_cons,List.all_nil,Bool.and_true,Bool.and_eq_true]at hs;obtain⟨s0,s1⟩:=hs;have r0:=λw a m=>run_store prog w a u0 m s0;have r1:=λw a m=>run_store prog w a u1 m s1
      have c0:=B.c 0 _ rfl;have c1:=B.c 1 _ rfl;have f0:=B.f 0;have f1:=B.f 1;clear B s0 s1;simp only[xD]
      go_simp
theorem nwO:∀v∈ [Value.int .i64 0,.nilFunc],NoWord v:=by
  intro v hv;simp only[List.mem_cons,List.not_mem_nil,or_false]at hv;rcases hv with rfl|rfl
  ·exact NoWord.int64 _
  ·exact λx=>by simp
structure BIv {σ:Type} (m:Mc) (J:σ->World->Prop) (w:World) (us:List Value) (st:Mst σ) (gA gB gC gD:Nat) (cA cB:List Value) (pl ph ql qh:Int) (x1 x2 x3 x4:Value) (ro:Option Kn) (W:World):Prop where
  s:EIv m J w us st W
  ba:Bk W gA cA
  bb:Bk W gB cB
  bd:Bk W gD opsC
  k1:IsI 128 pl x1 W
  k2:IsI 128 ph x2 W
  k3:IsI 128 ql x3 W
  k4:IsI 128 qh x4 W
  r:match ro with
    |none=>Bk W gC [.bool false,.slice none 0 0,.bool false,.slice none 0 0,.bool false]
    |some r=>∃s a n c s' a' n' c',Bk W gC [.bool s,.slice a n c,.bool s',.slice a' n' c',.bool r.fin]/\IsI 128 r.lo (.agg #[.bool s,.slice a n c]) W/\IsI 128 r.hi (.agg #[.bool s',.slice a' n' c']) W
section
variable {σ:Type} {m:Mc} {J:σ->World->Prop} {w:World} {us:List Value} {st:Mst σ} {gA gB gC gD gE:Nat} {cA cB:List Value} {pl ph ql qh:Int} {x1 x2 x3 x4:Value} {ro:Option Kn} {W W':World}
theorem BIv.bn(S:BIv m J w us st gA gB gC gD cA cB pl ph ql qh x1 x2 x3 x4 none W):Bk W gC [.bool false,.slice none 0 0,.bool false,.slice none 0 0,.bool false]:=S.r
theorem BIv.ext(S:BIv m J w us st gA gB gC gD cA cB pl ph ql qh x1 x2 x3 x4 ro W)(hJ:MapInv m.h J)(hh:m.h+3<=w.heap.size)(e:Ext W W'):BIv m J w us st gA gB gC gD cA cB pl ph ql qh x1 x2 x3 x4 ro W':=
  ⟨S.s.ext hJ hh e,S.ba.ext e,S.bb.ext e,S.bd.ext e,S.k1.ext e,S.k2.ext e,S.k3.ext e,S.k4.ext e,by
    have:=S.r;cases ro with
    |none=>exact Bk.ext this e
    |some r=>obtain⟨s,a,n,c,s',a',n',c',B,h1,h2⟩:=this;exact⟨s,a,n,c,s',a',n',c',B.ext e,h1.ext e,h2.ext e⟩⟩
theorem BIv.only(S:BIv m J w us st gA gB gC gD cA cB pl ph ql qh x1 x2 x3 x4 ro W)(hJ:MapInv m.h J)(hh:m.h+3<=w.heap.size)(O:OnlyB gE W W')(hg:w.heap.size+2<=gE/\gA<gE/\gB<gE/\gC<gE/\gD<gE):BIv m J w us st gA gB gC gD cA cB pl ph ql qh x1 x2 x3 x4 ro W':=
  ⟨S.s.only hJ hh O hg.1,O.bk S.ba zb,O.bk S.bb zb,O.bk S.bd zb,IsI.gstb _ _ _ _ _ O.gr S.k1,IsI.gstb _ _ _ _ _ O.gr S.k2,IsI.gstb _ _ _ _ _ O.gr S.k3,IsI.gstb _ _ _ _ _ O.gr S.k4,by
    have:=S.r;cases ro with
    |none=>exact O.bk this zb
    |some r=>obtain⟨s,a,n,c,s',a',n',c',B,h1,h2⟩:=this;exact⟨s,a,n,c,s',a',n',c',O.bk B zb,IsI.gstb _ _ _ _ _ O.gr h1,IsI.gstb _ _ _ _ _ O.gr h2⟩⟩
theorem BIv.put{r:Kn}{s:Bool}{a:Option Addr}{n c:Nat}{s':Bool}{a':Option Addr}{n' c':Nat}(S:BIv m J w us st gA gB gC gD cA cB pl ph ql qh x1 x2 x3 x4 none W)(hJ:MapInv m.h J)(hh:m.h+3<=w.heap.size)(hg:w.heap.size+2<=gA/\gA<gB/\gB<gC/\gC<gD)(O:OnlyB gC W W')
    (B:Bk W' gC [.bool s,.slice a n c,.bool s',.slice a' n' c',.bool r.fin]) (h1:IsI 128 r.lo (.agg #[.bool s,.slice a n c]) W) (h2:IsI 128 r.hi (.agg #[.bool s',.slice a' n' c']) W):BIv m J w us st gA gB gC gD cA cB pl ph ql qh x1 x2 x3 x4 (some r) W':=
  ⟨S.s.only hJ hh O zb,O.bk S.ba zb,O.bk S.bb zb,O.bk S.bd zb,IsI.gstb _ _ _ _ _ O.gr S.k1,IsI.gstb _ _ _ _ _ O.gr S.k2,IsI.gstb _ _ _ _ _ O.gr S.k3,IsI.gstb _ _ _ _ _ O.gr S.k4,s,a,n,c,s',a',n',c',B,IsI.gstb _ _ _ _ _ O.gr h1,IsI.gstb _ _ _ _ _ O.gr h2⟩
end
theorem tEv10_1{P:Prop}(h:P:=by
  refine Rc (bn (r:=.int .i64 ((j:Int)+1)) (qB (x:=.int .i64 (j:Int)) 115) qF (hr:=λw=>by have hx9:=HI1.out;go_simp)) ?_;exact rn0
  ):P:=h
theorem tEv10_2{P:Prop}(h:P:=by
  cases res with
  |ok q=>obtain⟨_,hv,_⟩:=h;cases hv
  | error nn=>
    cases h;exact⟨rfl,S.rm.trans hR,hMA,hJA,rfl⟩
  ):P:=h
theorem eval_bin {σ:Type}{m:Mc}{J:σ->World->Prop}{w:World}{st:Mst σ}{op kk lo hi:Int}{x:ByteArray}{s:Bool}{a:Option Addr}{n c:Nat}{g o mm cp:Nat}{ve:Value}{vs1 vs2:List Value}{j0:Nat}{f0:FuncId}{r1 r2:Res Kn×Mst σ}(hJ:MapInv m.h J)(hh:m.h+3<=w.heap.size)(hM:MAt m st.1 w)(hj:J st.2 w)(HM:Hid (2<=mm/\mm<=9223372036854775807/\g<m.h))(HV1:Hid (vs1.length=8/\∀j v,vs1[j]? =some v->World.cell? w ⟨g,o+j,none⟩=some v))(HV2:Hid (vs2.length=8/\∀j v,vs2[j]? =some v->World.cell? w ⟨g,o+8+j,none⟩=some v))(HOP:Hid (xR[j0]? =some (op,f0)))
    (HC1:Hid (∀w',Rm m.h w w'->MAt m st.1 w'->J st.2 w'->w.heap.size<=w'.heap.size->Calls prog 84 #[.pointer (some ⟨m.h+2,0,none⟩),.agg vs1.toArray,ve] w' (EvP m J w' r1))) (HC2:Hid (∀w',Rm m.h w w'->MAt m r1.2.1 w'->J r1.2.2 w'->w.heap.size<=w'.heap.size->Calls prog 84 #[.pointer (some ⟨m.h+2,0,none⟩),.agg vs2.toArray,ve] w' (EvP m J w' r2))):
    Calls prog 84 #[.pointer (some ⟨m.h+2,0,none⟩),.agg #[.int .i64 op,.string x,.int .i64 kk,.bool s,.slice a n c,.int .i64 lo,.int .i64 hi,.slice (some ⟨g,o,none⟩) mm cp],ve] w (EvP m J w (binR op r1 r2)):=by
  obtain⟨n1,n2,n3,n4,n5,n6⟩:(op==1)=false/\(op==11)=false/\(op==2)=false/\(op==3)=false/\(op==9)=false/\(op==10)=false:=by
    have h:=opsT_mem HOP.out;rcases h with rfl|rfl|rfl|rfl|rfl|rfl|rfl <;> decide
  obtain⟨W,hW,S⟩:∃W,W=(w.alloc (.cells #[.int .i64 op,.string x,.int .i64 kk,.bool s,.slice a n c,.int .i64 lo,.int .i64 hi,.slice (some ⟨g,o,none⟩) mm cp] 31)).alloc (.cells #[.bool false,.slice none 0 0,.bool false,.slice none 0 0,.bool false] 176)/\EIv m J w [.int .i64 op,.string x,.int .i64 kk,.bool s,.slice a n c,.int .i64 lo,.int .i64 hi,.slice (some ⟨g,o,none⟩) mm cp] st W:=⟨_,rfl,EIv.start hJ hh hM hj _ _ _⟩;have hs0:=S.sz;go_enter func84,ntmps84;go_upto_region 1 with fail;rw[<-hW];clear hW;have d0:=S.b4.c 0 _ rfl;go_upto_region 19 with fail;clear d0 n1 n2 n3 n4 n5 n6;refine rgs 6 (dR 99 6) [IsP (m.h+2) 0,IsP (w.heap.size) 7,IsV (.slice (some ⟨g,o,none⟩) mm cp),IsP g o,IsV (.agg vs1.toArray),IsV ve] [] ?_ ?_
  · refine Rc zt ?_
    refine Rc zah ?_;refine Rc (lvC 7 S.b4 ld_Nds (qA 1 100)) ?_;refine Rc (ixq (ia_Nd0 (g:=g) (o:=o) (n:=mm) (c:=cp) (by have:=HM.out;omega)) (qA 2 101) qF) ?_;refine Rc (lv (fP:=IsV (.agg vs1.toArray)) _ (λw' e=>ld_Nd (o:=o) HV1.out.1 (λj v hj=>e.cell (S.rm.cell (HV1.out.2 j v hj) (.inl HM.out.2.2)))) (qA 3 102) (λ_ _=>rfl)) ?_;refine Rc yw ?_;exact rn0
  intro v X1 e1 hZ _;replace S:=S.ext hJ hh e1;simp only[lxE,Nat.reduceAdd];rw[show v 0=.pointer (some ⟨m.h+2,0,none⟩)from hZ 0 dcx,show v 4=.agg vs1.toArray from hZ 4 dcx,show v 5=ve from hZ 5 dcx];clear hZ e1;refine stL (λK hK=>?_);refine xC (us:= [.pointer (some ⟨m.h+2,0,none⟩),.agg vs1.toArray,ve]) (en func84) za (HC1.out _ S.rm S.mat S.j S.rm.size) (λv2 X2 h=>hK _ _ ?_) (λch X2 h=>?_) (λX2 h=>?_)
  · obtain ⟨hR,hMA,hJA,h⟩:=h
    obtain⟨res,st1⟩:=r1;cases res with
    |error nn=>cases h
    | ok p=>
      obtain⟨_,hv,sA1,aA1,nA1,cA1,sA2,aA2,nA2,cA2,hv2,kA1,kA2⟩:=h;cases hv;subst hv2;replace S:=S.call hh hR hMA hJA;obtain⟨pl,ph,fA⟩:=p;simp only at kA1 kA2;clear hK K hR hMA hJA;have hs2:=S.sz
      go_simp
      refine stL (λK hK=>?_);refine xK (vs:= [.bool false,.slice none 0 0,.bool false,.slice none 0 0,.bool false]) al_Kn (λBA e1=>hK _ _ ?_);replace S:=S.ext hJ hh e1;replace kA1:=IsI.gstb _ _ _ _ _ e1.gr kA1;replace kA2:=IsI.gstb _ _ _ _ _ e1.gr kA2;obtain⟨gA,hgA⟩:∃g,X2.heap.size=g:=⟨_,rfl⟩;rw[hgA]at BA hs2 ⊢;have hGA:=BA.lt;generalize X2.alloc (.cells [Value.bool false,.slice none 0 0,.bool false,.slice none 0 0,.bool false].toArray 176)=Y1 at S BA kA1 kA2 hGA ⊢;clear hK K e1
      go_simp
      refine stL (λK hK=>?_);refine qX (us:= [.bool sA1,.slice aA1 nA1 cA1,.bool sA2,.slice aA2 nA2 cA2,.bool fA]) BA xL rfl rfl nw5 (λZ1 BA' O=>hK _ _ ?_);replace S:=S.only hJ hh O zb;replace kA1:=IsI.gstb _ _ _ _ _ O.gr kA1;replace kA2:=IsI.gstb _ _ _ _ _ O.gr kA2;clear BA hK K O hgA;have BA:=BA';clear BA';have hGA:=BA.lt;refine jE ?_;go_upto_region 20 with fail;refine rgs 6 (dR 106 6) [IsP (m.h+2) 0,IsP (w.heap.size) 7,IsV (.slice (some ⟨g,o,none⟩) mm cp),IsP g (o+8),IsV (.agg vs2.toArray),IsV ve] [] ?_ ?_
      · refine Rc zt ?_
        refine Rc zah ?_;refine Rc (lvC 7 S.b4 ld_Nds (qA 1 107)) ?_;refine Rc (ixq (ia_Nd1 (g:=g) (o:=o) (n:=mm) (c:=cp) (by have:=HM.out;omega)) (qA 2 108) qF) ?_;refine Rc (lv (fP:=IsV (.agg vs2.toArray)) _ (λw' e=>ld_Nd (o:=o+8) HV2.out.1 (λj v hj=>e.cell (S.rm.cell (HV2.out.2 j v hj) (.inl HM.out.2.2)))) (qA 3 109) (λ_ _=>rfl)) ?_;refine Rc yw ?_;exact rn0
      intro v X2 e1 hZ _;replace S:=S.ext hJ hh e1;replace BA:=BA.ext e1;replace kA1:=IsI.gstb _ _ _ _ _ e1.gr kA1;replace kA2:=IsI.gstb _ _ _ _ _ e1.gr kA2;simp only[lxE,Nat.reduceAdd];rw[show v 0=.pointer (some ⟨m.h+2,0,none⟩)from hZ 0 dcx,show v 4=.agg vs2.toArray from hZ 4 dcx,show v 5=ve from hZ 5 dcx];clear hZ e1;refine stL (λK hK=>?_);refine xC (us:= [.pointer (some ⟨m.h+2,0,none⟩),.agg vs2.toArray,ve]) (en func84) za (HC2.out _ S.rm S.mat S.j S.rm.size) (λv2 X4 h=>hK _ _ ?_) (λch X4 h=>?_) (λX4 h=>?_)
      · obtain ⟨hR,hMA,hJA,h⟩:=h
        obtain⟨res,st2⟩:=r2;cases res with
        |error nn=>cases h
        | ok q=>
          obtain⟨_,hv,sB1,aB1,nB1,cB1,sB2,aB2,nB2,cB2,hv2,kB1,kB2⟩:=h;cases hv;subst hv2;replace S:=S.call hh hR hMA hJA;replace BA:=hR.bk BA zb;replace kA1:=IsI.gstb _ _ _ _ _ hR.gr kA1;replace kA2:=IsI.gstb _ _ _ _ _ hR.gr kA2;have hAl:=BA.lt;obtain⟨ql,qh,fB⟩:=q;simp only at kB1 kB2;clear hK K hR hMA hJA;have hs3:=S.sz
          go_simp
          refine stL (λK hK=>?_);refine xK (vs:= [.bool false,.slice none 0 0,.bool false,.slice none 0 0,.bool false]) al_Kn (λBB e1=>hK _ _ ?_);replace S:=S.ext hJ hh e1;replace BA:=BA.ext e1;replace kA1:=IsI.gstb _ _ _ _ _ e1.gr kA1;replace kA2:=IsI.gstb _ _ _ _ _ e1.gr kA2;replace kB1:=IsI.gstb _ _ _ _ _ e1.gr kB1;replace kB2:=IsI.gstb _ _ _ _ _ e1.gr kB2;obtain⟨gB,hgB⟩:∃g,X4.heap.size=g:=⟨_,rfl⟩;rw[hgB]at BB hs3 hAl ⊢;have hGB:=BB.lt;generalize X4.alloc (.cells [Value.bool false,.slice none 0 0,.bool false,.slice none 0 0,.bool false].toArray 176)=Y2 at S BB BA kA1 kA2 kB1 kB2 hGB ⊢;clear hK K e1
          go_simp
          refine stL (λK hK=>?_);refine qX (us:= [.bool sB1,.slice aB1 nB1 cB1,.bool sB2,.slice aB2 nB2 cB2,.bool fB]) BB xL rfl rfl nw5 (λZ2 BB' O=>hK _ _ ?_);have hAB:gA<gB:=hAl;replace S:=S.only hJ hh O zb;replace BA:=O.bk BA zb;replace kA1:=IsI.gstb _ _ _ _ _ O.gr kA1;replace kA2:=IsI.gstb _ _ _ _ _ O.gr kA2;replace kB1:=IsI.gstb _ _ _ _ _ O.gr kB1;replace kB2:=IsI.gstb _ _ _ _ _ O.gr kB2;clear BB hK K O hgB;have BB:=BB';clear BB';have hGB:=BB.lt;refine jE ?_;go_upto_region 21 with fail;have hs4:=S.sz;refine rgs 1 [some 12] [IsNb Z2.heap.size [.bool false,.slice none 0 0,.bool false,.slice none 0 0,.bool false]] [] ?_ ?_
          · refine Rc (alB al_Kn (jJ _)) ?_
            exact rn0
          intro v X21 e1 hZ _;replace S:=S.ext hJ hh e1;replace BA:=BA.ext e1;replace BB:=BB.ext e1;replace kA1:=IsI.gstb _ _ _ _ _ e1.gr kA1;replace kA2:=IsI.gstb _ _ _ _ _ e1.gr kA2;replace kB1:=IsI.gstb _ _ _ _ _ e1.gr kB1;replace kB2:=IsI.gstb _ _ _ _ _ e1.gr kB2;obtain⟨gC,hv0,hgC,BC⟩:=hZ 0 dcx;simp only[lxE];rw[hv0];clear hv0 hZ;have he1:=e1.size;clear e1;have hGC:=BC.lt;refine jE ?_;go_upto_region 22 with fail;refine rgs 3 (dR 113 3) [IsOps X21.heap.size,iV 7,iV 0] [] ?_ ?_
          · refine Rc (cl0 (en func114) (λw' hE=>operations_f w' _ hE.size)) ?_
            refine Rc (lenOps (qA (fP:=IsOps X21.heap.size) 0 113)) ?_;refine Rc (mv qF) ?_;exact rn0
          intro v X22 e1 hZ _;replace S:=S.ext hJ hh e1;replace BA:=BA.ext e1;replace BB:=BB.ext e1;replace BC:=BC.ext e1;replace kA1:=IsI.gstb _ _ _ _ _ e1.gr kA1;replace kA2:=IsI.gstb _ _ _ _ _ e1.gr kA2;replace kB1:=IsI.gstb _ _ _ _ _ e1.gr kB1;replace kB2:=IsI.gstb _ _ _ _ _ e1.gr kB2;obtain⟨gD,hv0,hgD,BD⟩:=hZ 0 dcx;simp only[lxE,Nat.reduceAdd];rw[hv0,show v 1=.int .i64 7 from hZ 1 dcx,show v 2=.int .i64 0 from hZ 2 dcx];clear hv0 hZ e1;have hGD:=BD.lt;refine jE ?_;have HGG:=hid (show w.heap.size+2<=gA/\gA<gB/\gB<gC/\gC<gD by omega);clear hs0 hs2 hs3 hs4 hGA hGB hGC hGD hgC hgD he1 hAB;go_wp2_with fail;have F0:BIv m J w [.int .i64 op,.string x,.int .i64 kk,.bool s,.slice a n c,.int .i64 lo,.int .i64 hi,.slice (some ⟨g,o,none⟩) mm cp] st2 gA gB gC gD [.bool sA1,.slice aA1 nA1 cA1,.bool sA2,.slice aA2 nA2 cA2,.bool fA] [.bool sB1,.slice aB1 nB1 cB1,.bool sB2,.slice aB2 nB2 cB2,.bool fB] pl ph ql qh (.agg #[.bool sA1,.slice aA1 nA1 cA1]) (.agg #[.bool sA2,.slice aA2 nA2 cA2]) (.agg #[.bool sB1,.slice aB1 nB1 cB1]) (.agg #[.bool sB2,.slice aB2 nB2 cB2]) none X22:=⟨S,BA,BB,BD,kA1,kA2,kB1,kB2,BC⟩;have F0:=hid F0;clear S BA BB BC BD kA1 kA2 kB1 kB2
          go_loopg [115] 8 (λgk v7 wr=>∃(j:Nat) (ro:Option Kn),v7=.int .i64 (j:Int)/\j+gk=8/\j<=7/\Hid ((j<=j0->ro=none)/\(j0<j->∃r,ro=some r/\opV op ⟨pl,ph,fA⟩ ⟨ql,qh,fB⟩=.ok r))/\Hid (BIv m J w [.int .i64 op,.string x,.int .i64 kk,.bool s,.slice a n c,.int .i64 lo,.int .i64 hi,.slice (some ⟨g,o,none⟩) mm cp] st2 gA gB gC gD [.bool sA1,.slice aA1 nA1 cA1,.bool sA2,.slice aA2 nA2 cA2,.bool fA] [.bool sB1,.slice aB1 nB1 cB1,.bool sB2,.slice aB2 nB2 cB2,.bool fB] pl ph ql qh (.agg #[.bool sA1,.slice aA1 nA1 cA1]) (.agg #[.bool sA2,.slice aA2 nA2 cA2]) (.agg #[.bool sB1,.slice aB1 nB1 cB1]) (.agg #[.bool sB2,.slice aB2 nB2 cB2]) ro wr))
          case atStart=>exact⟨0,none,rfl,by omega,by omega,hid ⟨λ_=>rfl,λh=>by omega⟩,F0⟩
          case round=>
            clear F0;obtain⟨j,ro,rfl,hg,hj7,hro,S⟩:=hrel;have S:=S.out;have HRO:=hid hro.out;have HG:=hid (jI hg hj7);clear hro;have hj0:j0<7:=(opsT_at HOP.out).1;by_cases hlt:j<7
            · have HLT:=hid hlt
              have HLI:=hid (show(j:Int)<7 by omega);have HI1:=hid (show IntKind.i64.wrap ((j:Int)+1)=(j:Int)+1 by simp only[IntKind.wrap_i64];omega)
              obtain⟨opj,fj,hoj⟩:∃(opj:Int) (fj:FuncId),xR[j]? =some (opj,fj):=by
                have:∃p,xR[j]? =some p:=⟨_,List.getElem?_eq_getElem (by simpa [xR]using hlt)⟩;obtain⟨⟨a,b⟩,h⟩:=this;exact⟨a,b,h⟩
              have HOJ:=hid hoj;obtain⟨bq,hbq⟩:∃b,(opj==op)=b:=⟨_,rfl⟩;have HBQ:=hid hbq;clear hg hj7 hlt hoj hj0 hbq;go_upto_region 23 with fail;refine rgs 1 [some 116] [IsV (.bool true)] [] ?_ ?_
              · refine Rc (bn (r:=.bool true) (qB (x:=.int .i64 (j:Int)) 115) (qB (x:=.int .i64 7) 114) (hr:=λw=>by have hx9:=HLT.out;have hx8:=HLI.out;go_simp)) ?_
                exact rn0
              intro v V1 e1 hZ _;replace S:=S.ext hJ hh e1;simp only[lxE];rw[show v 0=.bool true from hZ 0 dcx];clear hZ e1;refine jE ?_;go_upto_region 24 with fail;have hsz:=S.s.sz;have hszz:=S.bd.lt;refine rgs 3 [some 117,some 118,some 14] [IsP gD (2*j),IsV (.agg #[.int .i64 opj,.func (.func fj) #[] #[]]),IsNb V1.heap.size [.int .i64 0,.nilFunc]] [] ?_ ?_
              · refine Rc (ixq (ix_Op gD j HLT.out) (qB 113) (qB (x:=.int .i64 (j:Int)) 115)) ?_
                refine Rc (lv (fP:=IsV (.agg #[.int .i64 opj,.func (.func fj) #[] #[]])) _ (λw' e=>ld_Op gD (2*j) w' opj fj ((S.bd.ext e).c _ _ (opsT_at HOJ.out).2.1) ((S.bd.ext e).c _ _ (opsT_at HOJ.out).2.2)) (qA 0 117) (λ_ _=>rfl)) ?_;refine Rc (alB al_Op (jJ _)) ?_;exact rn0
              intro v V2 e1 hZ _;replace S:=S.ext hJ hh e1;obtain⟨gE,hv2,hgE,BE⟩:=hZ 2 dcx;simp only[lxE,Nat.reduceAdd];rw[hv2,show v 1=.agg #[.int .i64 opj,.func (.func fj) #[] #[]]from hZ 1 dcx];clear hv2 hZ e1;refine stL (λK hK=>?_);refine qX (us:= [.int .i64 opj,.func (.func fj) #[] #[]]) BE st_Op rfl rfl nwO (λV3 BE' O=>hK _ _ ?_);replace S:=S.only hJ hh O (by have:=HGG.out;omega);clear BE hK K O;refine jE ?_;go_upto_region 25 with fail;refine rgs 5 (dR 119 5) [IsP gE 0,iV opj,IsP (w.heap.size) 0,iV op,IsV (.bool bq)] [] ?_ ?_
              · refine Rc (fa (fa_Op0 gE) (qB 14)) ?_
                refine Rc (lvC 0 BE' xF (qA 0 119)) ?_;refine Rc (fa (fa_Nd0 w.heap.size) (qB 4)) ?_;refine Rc (lvC 0 S.s.b4 xF (qA 2 121)) ?_;refine Rc (bn (r:=.bool bq) (qC 1 120) (qC 3 122) (hr:=λw=>by have hx9:=HBQ.out;go_simp)) ?_;exact rn0
              intro v V4 e1 hZ _;replace S:=S.ext hJ hh e1;replace BE':=BE'.ext e1;simp only[lxE,Nat.reduceAdd];rw[show v 4=.bool bq from hZ 4 dcx];clear hZ e1;refine jE ?_;cases bq with
              | true=>
                obtain rfl:op=opj:=by have:=HBQ.out;simp at this;exact this.symm
                obtain rfl:j=j0:=opsT_inj HOJ.out HOP.out;obtain rfl:fj=f0:=by have:=HOJ.out.symm.trans HOP.out;simpa using this
                obtain rfl:ro=none:=HRO.out.1 (jJ _);go_upto_region 26 with fail;refine rgs 4 (dR 124 4) [IsP gE 1,IsV (.func (.func fj) #[] #[]),IsV (.agg #[.bool sA1,.slice aA1 nA1 cA1,.bool sA2,.slice aA2 nA2 cA2,.bool fA]),IsV (.agg #[.bool sB1,.slice aB1 nB1 cB1,.bool sB2,.slice aB2 nB2 cB2,.bool fB])] [] ?_ ?_
                · refine Rc (fa (fa_Op1 gE) (qB 14)) ?_
                  refine Rc (lvC 1 BE' ld_Fn (qA 0 124)) ?_;refine Rc (lvV S.ba ld_Kn (qB 10)) ?_;refine Rc (lvV S.bb ld_Kn (qB 11)) ?_;exact rn0
                intro v V5 e1 hZ _;replace S:=S.ext hJ hh e1;simp only[lxE,Nat.reduceAdd];rw[show v 1=.func (.func fj) #[] #[]from hZ 1 dcx,show v 2=.agg #[.bool sA1,.slice aA1 nA1 cA1,.bool sA2,.slice aA2 nA2 cA2,.bool fA]from hZ 2 dcx,show v 3=.agg #[.bool sB1,.slice aB1 nB1 cB1,.bool sB2,.slice aB2 nB2 cB2,.bool fB]from hZ 3 dcx];clear hZ e1;have hcl:=op_all (w:=V5) HOJ.out (p:=⟨pl,ph,fA⟩) (q:=⟨ql,qh,fB⟩) ⟨_,_,_,_,_,_,_,_,rfl,S.k1,S.k2⟩ ⟨_,_,_,_,_,_,_,_,rfl,S.k3,S.k4⟩;obtain⟨rv,hrv⟩:∃r,opV op ⟨pl,ph,fA⟩ ⟨ql,qh,fB⟩=r:=⟨_,rfl⟩;rw[hrv]at hcl;refine stL (λK hK=>?_);refine wp_callV (us:= [.agg #[.bool sA1,.slice aA1 nA1 cA1,.bool sA2,.slice aA2 nA2 cA2,.bool fA],.agg #[.bool sB1,.slice aB1 nB1 cB1,.bool sB2,.slice aB2 nB2 cB2,.bool fB]]) (opsT_en HOJ.out) za za hcl (λv2 V6 h=>hK _ _ ?_) (λch V6 h=>?_) (λV6 h=>?_)
                · obtain⟨e2,h⟩:=h
                  cases rv with
                  |error nn=>cases h
                  | ok r=>
                    obtain⟨_,hv,s7,a7,n7,c7,s8,a8,n8,c8,hv2,g1,g2⟩:=h;cases hv;subst hv2;replace S:=S.ext hJ hh e2;clear hK K hcl
                    go_simp
                    refine stL (λK hK=>?_);refine qX (us:= [.bool s7,.slice a7 n7 c7,.bool s8,.slice a8 n8 c8,.bool r.fin]) S.bn xL rfl rfl nw5 (λV7 BC' O=>hK _ _ ?_);replace S:=S.put hJ hh HGG.out O BC' g1 g2;clear BC' hK K O g1 g2;refine jE ?_;go_upto_region 27 with fail;refine rgs 1 [some 129] [iV ((j:Int)+1)] [] ?_ ?_
                    ·exact tEv10_1
                    intro v V8 e1 hZ _;replace S:=S.ext hJ hh e1;simp only[lxE];rw[show v 0=.int .i64 ((j:Int)+1)from hZ 0 dcx];clear hZ e1;refine jP λK hK=>?_;go_simp;refine hK _ _ ?_;clear hK K
                    refine jE ?_;have S':=hid S;clear S BE';go_wp2_with fail
                    go_roundg (gk-1)
                    case measure=>have:=HG.out;have:=HLT.out;omega
                    case rel=>exact⟨j+1,some r,by rw[Int.natCast_add];rfl,by have:=HG.out;omega,by have:=HLT.out;omega,hid ⟨λh=>by omega,λ_=>⟨r,rfl,hrv⟩⟩,S'⟩
                · obtain⟨e2,h⟩:=h
                  cases rv with
                  |ok r=>obtain⟨_,hv,_⟩:=h;cases hv
                  | error nn=>
                    cases h;replace S:=S.ext hJ hh e2;exact⟨rfl,(show EvP m J w (binR op (.ok ⟨pl,ph,fA⟩,st1) (.ok ⟨ql,qh,fB⟩,st2)) _ _ from by{rw[binR_er hrv];exact⟨S.s.rm,S.s.mat,S.s.j,rfl⟩})⟩
                · obtain⟨e2,h⟩:=h
                  cases rv with
                  |ok r=>obtain⟨_,hv,_⟩:=h;cases hv
                  |error nn=>cases h
              | false=>
                have hne:j≠j0:=by
                  intro he;subst he;have:=HOJ.out.symm.trans HOP.out;have h2:opj=op:=by simp at this;exact this.1
                  have h3:=HBQ.out;simp[h2]at h3
                go_upto_region 27 with fail;refine rgs 1 [some 129] [iV ((j:Int)+1)] [] ?_ ?_
                ·exact tEv10_1
                intro v V5 e1 hZ _;replace S:=S.ext hJ hh e1;simp only[lxE];rw[show v 0=.int .i64 ((j:Int)+1)from hZ 0 dcx];clear hZ e1;refine jP λK hK=>?_;go_simp;refine hK _ _ ?_;clear hK K
                refine jE ?_;have S':=hid S;clear S BE';go_wp2_with fail
                go_roundg (gk-1)
                case measure=>have:=HG.out;have:=HLT.out;omega
                case rel=>exact⟨j+1,ro,by rw[Int.natCast_add];rfl,by have:=HG.out;have:=HLT.out;omega,by have:=HLT.out;omega,hid ⟨λh=>HRO.out.1 zb,λh=>HRO.out.2 zb⟩,S'⟩
            · obtain rfl:j=7:=by omega
              obtain⟨r,rfl,hr⟩:=HRO.out.2 hj0;clear hg hj7 hlt hj0;go_upto_region 23 with fail;refine rgs 1 [some 116] [IsV (.bool false)] [] ?_ ?_
              · refine Rc (bn (r:=.bool false) (qB (x:=.int .i64 ((7:Nat):Int)) 115) (qB (x:=.int .i64 7) 114) (hr:=λw=>by go_simp)) ?_
                exact rn0
              intro v V1 e1 hZ _;replace S:=S.ext hJ hh e1;simp only[lxE];rw[show v 0=.bool false from hZ 0 dcx];clear hZ e1;refine jE ?_;go_upto_region 28 with fail;obtain⟨S,BA,BB,BD,kA1,kA2,kB1,kB2,s7,a7,n7,c7,s8,a8,n8,c8,BC,g1,g2⟩:=S;clear BD kA1 kA2 kB1 kB2;obtain⟨fR,hfR⟩:∃f,(fA&&fB)=f:=⟨_,rfl⟩;have HFR:=hid hfR;refine rgs 7 (dR 130 7) [IsP gA 4,IsV (.bool fA),IsV (.bool fA),IsIf fA (IsP gB 4),IsIf fA (IsV (.bool fB)),IsV (.bool fR),IsP gC 4] [] ?_ ?_
              · refine Rc (fa (fa_Kn2 gA 0) (qB 10)) ?_
                refine Rc (lvC 4 BA ld_b (qA 0 130)) ?_;refine Rc (mv (qA 1 131)) ?_;refine RcB 2 132 fA true (λhb=>by subst hb;exact fa (fa_Kn2 gB 0) (qB 11)) ?_;refine RcB 2 132 fA true (λhb=>by subst hb;exact lvC 4 BB ld_b (qA 3 133)) ?_;refine Rc (pkA (b2:=fB) (qC 2 132) (λhb=>by subst hb;exact qA 4 134) HFR.out) ?_;refine Rc (fa (fa_Kn2 gC 0) (qB 12)) ?_;exact rn0
              intro v V2 e1 hZ _;replace S:=S.ext hJ hh e1;replace BC:=BC.ext e1;replace g1:=IsI.gstb _ _ _ _ _ e1.gr g1;replace g2:=IsI.gstb _ _ _ _ _ e1.gr g2;simp only[lxE,Nat.reduceAdd];rw[show v 5=.bool fR from hZ 5 dcx,show v 6=.pointer (some ⟨gC,4,none⟩)from hZ 6 dcx];clear hZ e1 BA BB;refine stL (λK hK=>?_);refine stCO 4 BC (st_b fR) rfl (NoWord.bool _) (λV3 BC' O=>hK _ _ ?_);replace S:=S.only hJ hh O (by have:=HGG.out;omega);replace g1:=IsI.gstb _ _ _ _ _ O.gr g1;replace g2:=IsI.gstb _ _ _ _ _ O.gr g2;simp only[u0x,u1x]at BC';clear BC hK K O;refine jE ?_;go_upto_region 29 with fail;refine rgs 1 [some 137] [IsV (.agg #[.bool s7,.slice a7 n7 c7,.bool s8,.slice a8 n8 c8,.bool fR])] [] ?_ ?_
              · refine Rc (lvV BC' ld_Kn (qB 12)) ?_
                exact rn0
              intro v V4 e1 hZ _;replace S:=S.ext hJ hh e1;replace g1:=IsI.gstb _ _ _ _ _ e1.gr g1;replace g2:=IsI.gstb _ _ _ _ _ e1.gr g2;simp only[lxE];rw[show v 0=_ from hZ 0 dcx];clear hZ e1 BC';refine stL (λK hK=>?_);refine qX (us:= [.bool s7,.slice a7 n7 c7,.bool s8,.slice a8 n8 c8,.bool fR]) S.b6 xL rfl rfl nw5 (λX9 B9 O=>hK _ _ ?_);obtain⟨f1,f2,f3⟩:=S.last hJ hh O;replace g1:=IsI.gstb _ _ _ _ _ O.gr g1;replace g2:=IsI.gstb _ _ _ _ _ O.gr g2;refine jE ?_;have d0:=B9.c 0 _ rfl;have d1:=B9.c 1 _ rfl;have d2:=B9.c 2 _ rfl;have d3:=B9.c 3 _ rfl;have d4:=B9.c 4 _ rfl;clear hK K O B9 S;go_wp2_with fail;exact jD (v:=.agg #[.bool s7,.slice a7 n7 c7,.bool s8,.slice a8 n8 c8,.bool fR]) ji rfl (show EvP m J w (binR op (.ok ⟨pl,ph,fA⟩,st1) (.ok ⟨ql,qh,fB⟩,st2)) _ _ from by{rw[binR_ok hr,hfR];exact⟨f1,f2,f3,_,rfl,_,_,_,_,_,_,_,_,rfl,g1,g2⟩})
      · obtain⟨hR,hMA,hJA,h⟩:=h
        obtain⟨res,st2⟩:=r2;exact tEv10_2
      · obtain⟨hR,hMA,hJA,h⟩:=h
        obtain⟨res,st2⟩:=r2;cases res with
        |ok q=>obtain⟨_,hv,_⟩:=h;cases hv
        |error nn=>cases h
  · obtain⟨hR,hMA,hJA,h⟩:=h
    obtain⟨res,st1⟩:=r1;exact tEv10_2
  · obtain⟨hR,hMA,hJA,h⟩:=h
    obtain⟨res,st1⟩:=r1;cases res with
    |ok q=>obtain⟨_,hv,_⟩:=h;cases hv
    |error nn=>cases h
theorem eval_f{σ:Type}(M:Mem σ)(m:Mc)(J:σ->World->Prop)(hJ:MapInv m.h J)(C:ByteArray->Prop)(V:ByteArray->Int->Env->Prop)
    (HCL:∀(x:ByteArray) (st:Mst σ) (w:World),C x->MAt m st.1 w->J st.2 w->m.h+3<=w.heap.size->Calls prog 111 #[.pointer (some ⟨m.h+2,0,none⟩),.string x] w (EvP m J w ((M.cl x st.2).1,(st.1,(M.cl x st.2).2))))
    (HVL:∀(x:ByteArray) (n:Int) (env:Env) (ve:Value) (st:Mst σ) (w:World),V x n env->IsEnv m.h env ve w->MAt m st.1 w->J st.2 w->m.h+3<=w.heap.size->Calls prog 112 #[.pointer (some ⟨m.h+2,0,none⟩),.string x,.int .i64 n,ve] w (EvP m J w ((M.vl x n env st.2).1,(st.1,(M.vl x n env st.2).2)))):
    ∀ (e:Ex) (env:Env) (us:List Value) (ve:Value) (st:Mst σ) (w:World),wfE C V e env->IsNd m.h e us w->IsEnv m.h env ve w->MAt m st.1 w->J st.2 w->m.h+3<=w.heap.size->
      Calls prog 84 #[.pointer (some ⟨m.h+2,0,none⟩),.agg us.toArray,ve] w (EvP m J w (ev M e env st))
  | .num z,env,us,ve,st,w,hw,hn,hE,hM,hj,hh=>by
    obtain⟨nm,k,s,a,n,c,lo,hi,A,rfl,hz⟩:=hn;exact eval_num hJ hh hM hj hz
  | .var x,env,us,ve,st,w,hw,hn,hE,hM,hj,hh=>by
    obtain⟨k,s,a,n,c,lo,hi,A,rfl⟩:=hn;exact eval_var hJ hh hM hj hE hw.1 hw.2
  | .cell x,env,us,ve,st,w,hw,hn,hE,hM,hj,hh=>by
    obtain⟨k,s,a,n,c,lo,hi,A,rfl⟩:=hn;exact eval_cell hJ hh hM hj (λw' hR hM' hj' hs=>HCL x st w' hw hM' hj' (jK hh hs))
  | .val x j,env,us,ve,st,w,hw,hn,hE,hM,hj,hh=>by
    obtain⟨s,a,n,c,lo,hi,A,rfl⟩:=hn;exact eval_val hJ hh hM hj (λw' hR hM' hj' hs=>HVL x j env ve st w' hw (hE.rm hR) hM' hj' (jK hh hs))
  | .loop fst x lo hi b,env,us,ve,st,w,hw,hn,hE,hM,hj,hh=>by
    obtain⟨k,s,a,n,c,g,o,mm,cp,rfl,h1,h2,h3,vs,h4,h5,h6⟩:=hn;obtain⟨q1,q2,q3,q4,q5⟩:=hw;have HBD:=hid (jI q2 (jI q3 q4))
    have key:∀(opc:Int),Hid ((opc==10)=fst)->∀w',Rm m.h w w'->MAt m st.1 w'->J st.2 w'->w.heap.size<=w'.heap.size->
        Calls prog 113 #[.pointer (some ⟨m.h+2,0,none⟩),.agg #[.int .i64 opc,.string x,.int .i64 k,.bool s,.slice a n c,.int .i64 lo,.int .i64 hi,.slice (some ⟨g,o,none⟩) mm cp],ve] w' (SrP m J w' (xO (λn st=>ev M b (env++ [(x,n)]) st) fst hi (hi+1-lo).toNat ⟨0,0,hi+1,hi+1,lo,true⟩ st)):=by
      intro opc ho w' hR hM' hj' hs;have hh':=jK hh hs
      exact search_f M m J hJ fst x lo hi b env opc k s a n c g o mm cp vs st ve w' _ ho HBD (hid q1) (hid ⟨h1,h2,h3⟩) (hid ⟨h4,λj v hjv=>hR.cell (h5 j v hjv) (.inl h3),IsNd.rm hR h6⟩) (hid (hE.rm hR))
        (hid λnx st2 ve2 w2 g1 g2 g3 g4 g5 g6 g7=>eval_f M m J hJ C V HCL HVL b (env++ [(x,nx)]) vs ve2 st2 w2 (q5 nx g1 g2) g4 g3 g5 g6 g7) hM' hj' hh' (hid rfl)
    have hT:∀t st',xO (λn st=>ev M b (env++ [(x,n)]) st) fst hi (hi+1-lo).toNat ⟨0,0,hi+1,hi+1,lo,true⟩ st=(.ok t,st')->lo<=t.next/\t.next<=hi+1/\0<=t.sure/\0<=t.opn/\t.sure+t.opn<=t.next-lo+1/\lo<=t.first/\t.first<=hi+1/\lo<=t.last/\t.last<=hi+1:=
      λt st' h=>srch_bd _ fst lo hi t st' _ _ _ jm h
    have e:lpR fst hi (xO (λn st=>ev M b (env++ [(x,n)]) st) fst hi (hi+1-lo).toNat ⟨0,0,hi+1,hi+1,lo,true⟩ st)=ev M (.loop fst x lo hi b) env st:=by rw[ev];rfl
    rw[<-e];cases fst with
    |true=>exact eval_first hJ hh hM hj (key 10 (hid dcx)) HBD (hid hT)
    |false=>exact eval_count hJ hh hM hj (key 9 (hid dcx)) HBD (hid hT)
  | .bin op p q,env,us,ve,st,w,hw,hn,hE,hM,hj,hh=>by
    obtain⟨x,k,s,a,n,c,lo,hi,g,o,mm,cp,rfl,h1,h2,h3,⟨vs,h4,h5,h6⟩,vs',h4',h5',h6'⟩:=hn;obtain⟨q1,q2,q3⟩:=hw;obtain⟨j0,f0,hop⟩:=opsT_of q1
    have e:binR op (ev M p env st) (ev M q env (ev M p env st).2)=ev M (.bin op p q) env st:=by
      rw[ev];unfold binR;rcases ev M p env st with⟨_|p',st1⟩
      ·rfl
      · dsimp only
        rcases ev M q env st1 with⟨_|q',st2⟩ <;> rfl
    rw[<-e]
    exact eval_bin (r1:=ev M p env st) (r2:=ev M q env (ev M p env st).2) hJ hh hM hj (hid ⟨h1,h2,h3⟩) (hid ⟨h4,h5⟩) (hid ⟨h4',h5'⟩) (hid hop)
      (hid λw' hR hM' hj' hs=>eval_f M m J hJ C V HCL HVL p env vs ve st w' q2 (IsNd.rm hR h6) (hE.rm hR) hM' hj' (jK hh hs))
      (hid λw' hR hM' hj' hs=>eval_f M m J hJ C V HCL HVL q env vs' ve _ w' q3 (IsNd.rm hR h6') (hE.rm hR) hM' hj' (jK hh hs))
end
section
open Go Go.RowKit
open Go.Proofs.Tryz
set_option maxRecDepth 100000
set_option maxHeartbeats 4000000
theorem value1_f{k:Nat}{z:Int}{x:Value}{w:World}(hx:IsI k z x w)(HK:Hid (k<=1000))(q:Rat)(HQ:Hid (Rat.divInt z 1=q)):Calls prog 106 #[x] w (Ret w (IsRat (max (k+2) 2) q)):=by
 obtain⟨s1,a1,n1,c1,rfl,h1⟩:=hx;have h1:IsI _ _ _ w:=⟨_,_,_,_,rfl,h1⟩;obtain⟨W,hW,S⟩:∃W,W=(w.alloc (.cells #[.bool s1,.slice a1 n1 c1] 28)).alloc (.cells #[.bool false,.slice none 0 0,.bool false,.slice none 0 0] 45)/\Sto w W [((w.heap.size+1,1),IsI 0 0),((w.heap.size+1,0),IsI 0 0),((w.heap.size,0),IsI k z)]:=⟨_,rfl,(((Sto.start w).new1 (w.heap.size) zd s1 a1 n1 c1 28 (IsI k z) (IsI.gstb _ _) (h1)).new2 (w.heap.size+1) zd false false none none 0 0 0 0 45 (IsI 0 0) (IsI 0 0) (IsI.gstb _ _) (IsI.nil _ _) (IsI.gstb _ _) (IsI.nil _ _))⟩;clear h1;go_enter func106,ntmps106;go_upto_region 1 with fail;rw[<-hW];clear hW;have hl:=hid S.lt;have hw:=S.ext.size;refine rgn 9 [some 6,some 7,some 8,some 5,some 9,some 10,some 3,none,some 4] [IsI k z,IsI 2 1,IsT2 (IsQ (IsI (max (k+2) 2) q.num) (IsI (max (k+2) 2) (((q.den:Nat):Int)))) (iV 0),IsT2 (IsQ (IsI (max (k+2) 2) q.num) (IsI (max (k+2) 2) (((q.den:Nat):Int)))) (iV 0),IsQ (IsI (max (k+2) 2) q.num) (IsI (max (k+2) 2) (((q.den:Nat):Int))),iV 0,IsNw W 2,TT,iV 0] [6] [none,none,none,none,none,none,none,some (6, [IsI (max (k+2) 2) q.num,IsI (max (k+2) 2) (((q.den:Nat):Int))]),none] [none,none,none,none,none,none,none,some 6,none] 0 ?_ ?_
 ·refine RcK (ldI S 2 (w.heap.size) 0 (qB 1) qE) ?_;refine RcK (cl1 (en func108) qF (λx0 w' hE d0=>by{obtain rfl:x0=.int .i64 1:=d0;exact Of_f _ 1 dcx dcx})) ?_;refine RcK (cl2 (en func107) (qA (fP:=IsI k z) 0 6) (qA (fP:=IsI 2 1) 1 7) (λx0 x1 w' hE d0 d1=>qNew_c d0 d1 ze dcx dcx q HQ.out)) ?_;refine RcK (mv (qA 2 8)) ?_;refine RcK (ex (qC 3 5) t20) ?_;refine RcK (ex (qC 3 5) t21) ?_;refine RcK (alN al_Rat) ?_;refine RcS 6 (sQ st_Rat (qA (fP:=IsQ (IsI (max (k+2) 2) q.num) (IsI (max (k+2) 2) (((q.den:Nat):Int)))) 4 9) (IsI.gstb _ _) (IsI.gstb _ _)) ?_;refine RcK (mv (qA 5 10)) ?_;exact RgAllN.nil
 intro v W1 e1 hZ hS _;replace S:=S.mono e1;obtain⟨g3,v6,q1,S2⟩:=S.addQ (hZ 6 dcx rfl) (hS 7 dcx _ _ rfl) hw (IsI.gstb _ _) (IsI.gstb _ _);replace S:=S2 (ApartO.old hl.out q1);clear S2;simp only[lxE,Nat.reduceAdd];rw[v6];clear hl hw v6 hZ hS e1;refine jL za ?_ _;go_upto_region 2 with fail;refine rgs 1 [some 11] [IsQ (IsI (max (k+2) 2) q.num) (IsI (max (k+2) 2) (((q.den:Nat):Int)))] [] ?_ ?_
 ·refine Rc (ldQ S 1 0 (g3) 0 (qB 3) ld_Rat rfl rfl) ?_;exact rn0
 intro v W2 e1 hZ _;replace S:=S.mono e1;have h11:=hZ 0 dcx;simp only[lxE];clear hZ e1
 try simp only[dxE]
 (with_reducible refine stL ?_ zbq);intro KK hKK;refine stQ S 3 2 (w.heap.size+1) 0 h11 (IsI.gstb _ _) (IsI.gstb _ _) st_Rat (λW2a S2 G2=>hKK _ _ ?_) rfl rfl
 replace S:=S2;clear S2 G2 hKK KK h11;simp only[u0x,u1x]at S;refine jE ?_;go_wp2_with fail;obtain⟨s90x,a90x,n90x,c90x,b90x,h90x⟩:=S.at 3 (w.heap.size+1) 0 (IsI (max (k+2) 2) q.num) rfl;have L90xa:World.cell? W2a ⟨w.heap.size+1,0,none⟩=some (.bool s90x):=b90x.c0;have L90xb:World.cell? W2a ⟨w.heap.size+1,1,none⟩=some (.slice a90x n90x c90x):=b90x.c1;obtain⟨s90y,a90y,n90y,c90y,b90y,h90y⟩:=S.at 2 (w.heap.size+1) 1 (IsI (max (k+2) 2) (((q.den:Nat):Int))) rfl;have L90ya:World.cell? W2a ⟨w.heap.size+1,2,none⟩=some (.bool s90y):=b90y.c0;have L90yb:World.cell? W2a ⟨w.heap.size+1,3,none⟩=some (.slice a90y n90y c90y):=b90y.c1;exact jD (v:=.agg #[.bool s90x,.slice a90x n90x c90x,.bool s90y,.slice a90y n90y c90y]) (by simp[results,results106,go_sem,L90xa,L90xb,L90ya,L90yb]) rfl (⟨_,rfl,S.ext,⟨_,_,_,_,_,_,_,_,rfl,h90x,h90y⟩⟩)
def IsVl(r:Res Kn)(hy:Value):Value->World->Prop:=λx w=>match r with
 | .ok q=>∃s1 a1 n1 c1 s2 a2 n2 c2 s3 a3 n3 c3 s4 a4 n4 c4,x=.agg #[.bool s1,.slice a1 n1 c1,.bool s2,.slice a2 n2 c2,.bool s3,.slice a3 n3 c3,.bool s4,.slice a4 n4 c4,.bool q.fin,hy,.int .i64 0]/\
   IsRat 130 (Rat.divInt q.lo 1) (.agg #[.bool s1,.slice a1 n1 c1,.bool s2,.slice a2 n2 c2]) w/\IsRat 130 (Rat.divInt q.hi 1) (.agg #[.bool s3,.slice a3 n3 c3,.bool s4,.slice a4 n4 c4]) w
 | .error n=>x=.agg #[.bool false,.slice none 0 0,.bool false,.slice none 0 0,.bool false,.slice none 0 0,.bool false,.slice none 0 0,.bool true,hy,.int .i64 n]
theorem IsRat.gstb(k:Nat)(q:Rat):GStb (IsRat k q):=IsQ.gstb (IsI.gstb _ _) (IsI.gstb _ _)
theorem IsVl.gstb(r:Res Kn)(hy:Value):GStb (IsVl r hy):=λx w w' e h=>by
 cases r with
 |error n=>exact h
 | ok q=>
  obtain⟨s1,a1,n1,c1,s2,a2,n2,c2,s3,a3,n3,c3,s4,a4,n4,c4,h1,h2,h3⟩:=h;exact⟨s1,a1,n1,c1,s2,a2,n2,c2,s3,a3,n3,c3,s4,a4,n4,c4,h1,IsRat.gstb _ _ _ _ _ e h2,IsRat.gstb _ _ _ _ _ e h3⟩
set_option maxRecDepth 100000
theorem st_Vl:StV prog 50 11:=by
 intro w g vs us h1 h2 hs B
 match vs,h1 with
 | [v0,v1,v2,v3,v4,v5,v6,v7,v8,v9,v10],_=>
  match us,h2 with
  | [u0,u1,u2,u3,u4,u5,u6,u7,u8,u9,u10],_=>
   simp only[List.all_cons,List.all_nil,Bool.and_true,Bool.and_eq_true]at hs;obtain⟨s0,s1,s2,s3,s4,s5,s6,s7,s8,s9,s10⟩:=hs;have r0:=λw a m=>run_store prog w a u0 m s0;have r1:=λw a m=>run_store prog w a u1 m s1;have r2:=λw a m=>run_store prog w a u2 m s2;have r3:=λw a m=>run_store prog w a u3 m s3;have r4:=λw a m=>run_store prog w a u4 m s4;have r5:=λw a m=>run_store prog w a u5 m s5
   have r6:=λw a m=>run_store prog w a u6 m s6;have r7:=λw a m=>run_store prog w a u7 m s7;have r8:=λw a m=>run_store prog w a u8 m s8;have r9:=λw a m=>run_store prog w a u9 m s9;have r10:=λw a m=>run_store prog w a u10 m s10
   have c0:=B.c 0 _ rfl;have c1:=B.c 1 _ rfl;have c2:=B.c 2 _ rfl;have c3:=B.c 3 _ rfl;have c4:=B.c 4 _ rfl;have c5:=B.c 5 _ rfl;have c6:=B.c 6 _ rfl;have c7:=B.c 7 _ rfl;have c8:=B.c 8 _ rfl;have c9:=B.c 9 _ rfl;have c10:=B.c 10 _ rfl;have f0:=B.f 0;have f1:=B.f 1;have f2:=B.f 2;have f3:=B.f 3;have f4:=B.f 4;have f5:=B.f 5;have f6:=B.f 6;have f7:=B.f 7;have f8:=B.f 8;have f9:=B.f 9;have f10:=B.f 10;clear B s0 s1 s2 s3 s4 s5 s6 s7 s8 s9 s10;simp only[xD]
   go_simp
theorem ld_Vl:LdV prog 50 11:=by
 intro w g vs h1 B
 match vs,h1 with
 | [v0,v1,v2,v3,v4,v5,v6,v7,v8,v9,v10],_=>
  have c0:=B.c 0 _ rfl;have c1:=B.c 1 _ rfl;have c2:=B.c 2 _ rfl;have c3:=B.c 3 _ rfl;have c4:=B.c 4 _ rfl;have c5:=B.c 5 _ rfl;have c6:=B.c 6 _ rfl;have c7:=B.c 7 _ rfl;have c8:=B.c 8 _ rfl;have c9:=B.c 9 _ rfl;have c10:=B.c 10 _ rfl;clear B
  go_simp
theorem nwVl{s1 s2 s3 s4:Bool}{a1 a2 a3 a4 a5:Option Addr}{n1 n2 n3 n4 n5 c1 c2 c3 c4 c5:Nat}{f:Bool}{e:Int}:∀v∈ [Value.bool s1,.slice a1 n1 c1,.bool s2,.slice a2 n2 c2,.bool s3,.slice a3 n3 c3,.bool s4,.slice a4 n4 c4,.bool f,.slice a5 n5 c5,.int .i64 e],NoWord v:=by
 intro v hv;simp only[List.mem_cons,List.not_mem_nil,or_false]at hv;rcases hv with rfl|rfl|rfl|rfl|rfl|rfl|rfl|rfl|rfl|rfl|rfl
 all_goals first|exact NoWord.bool _|exact NoWord.slice _ _ _|exact NoWord.int64 _
def IsIv(k:Nat)(p q:Rat):Value->World->Prop:=IsJ (IsI k p.num) (IsI k ((p.den:Nat):Int)) (IsI k q.num) (IsI k ((q.den:Nat):Int))
section
variable {ops:Array Oper} {Q:Exit->Act->World->Prop} {ds:List (Option Tmp)} {a0:Act} {w0:World} {L:List (Value->World->Prop)} {boxes:List Nat} {i k:Nat} {o:Oper} {os:List Oper}
theorem bdIv{k:Nat}{p q:Rat}{x y:Operand}(hx:Od ops ds a0 w0 L i x (IsRat k p))(hy:Od ops ds a0 w0 L i y (IsRat k q))(ho:o.op=.build 47 #[(0,x),(1,y)]:=by rfl)(hi:L.getD i (λ_ _=>True)=IsIv k p q:=by kernel_rfl)(hb:boxes.contains i=false:=by kernel_rfl):Ok prog ops Q ds a0 w0 L boxes i o:=
 Ok.of hb λv a w hE hd hf=>by
  obtain⟨s1,a1,n1,c1,s2,a2,n2,c2,e1,h1,h2⟩:=hx.out v a w hE hd hf;obtain⟨s3,a3,n3,c3,s4,a4,n4,c4,e2,h3,h4⟩:=hy.out v a w hE hd hf;have hr:(Instr.build 47 #[(0,.agg #[.bool s1,.slice a1 n1 c1,.bool s2,.slice a2 n2 c2]),(1,.agg #[.bool s3,.slice a3 n3 c3,.bool s4,.slice a4 n4 c4])]).run prog w=.ok (.agg #[.bool s1,.slice a1 n1 c1,.bool s2,.slice a2 n2 c2,.bool s3,.slice a3 n3 c3,.bool s4,.slice a4 n4 c4]) w:=zy
  exact⟨_,bd_run ho e1 e2 hr,by rw[hi];exact⟨_,_,_,_,_,_,_,_,_,_,_,_,_,_,_,_,rfl,h1,h2,h3,h4⟩⟩
theorem bdVl{q:Kn}{x y:Operand}(hx:Od ops ds a0 w0 L i x (IsIv 130 (Rat.divInt q.lo 1) (Rat.divInt q.hi 1)))(hy:Od ops ds a0 w0 L i y (IsV (.bool q.fin)))(ho:o.op=.build 50 #[(0,x),(1,y)]:=by rfl)(hi:L.getD i (λ_ _=>True)=IsVl (.ok q) (.slice none 0 0):=by kernel_rfl)(hb:boxes.contains i=false:=by kernel_rfl):Ok prog ops Q ds a0 w0 L boxes i o:=
 Ok.of hb λv a w hE hd hf=>by
  obtain⟨s1,a1,n1,c1,s2,a2,n2,c2,s3,a3,n3,c3,s4,a4,n4,c4,e1,h1,h2,h3,h4⟩:=hx.out v a w hE hd hf;have hr:(Instr.build 50 #[(0,.agg #[.bool s1,.slice a1 n1 c1,.bool s2,.slice a2 n2 c2,.bool s3,.slice a3 n3 c3,.bool s4,.slice a4 n4 c4]),(1,.bool q.fin)]).run prog w=.ok (.agg #[.bool s1,.slice a1 n1 c1,.bool s2,.slice a2 n2 c2,.bool s3,.slice a3 n3 c3,.bool s4,.slice a4 n4 c4,.bool q.fin,.slice none 0 0,.int .i64 0]) w:=zy
  exact⟨_,bd_run ho e1 (hy.out v a w hE hd hf) hr,by rw[hi];exact⟨_,_,_,_,_,_,_,_,_,_,_,_,_,_,_,_,rfl,⟨_,_,_,_,_,_,_,_,rfl,h1,h2⟩,⟨_,_,_,_,_,_,_,_,rfl,h3,h4⟩⟩⟩
end
theorem IsVl.stb(r:Res Kn)(hy:Value):Stb (IsVl r hy):=λx w w' e h=>IsVl.gstb r hy x w w' e.gr h
instance (r:Res Kn) (hy:Value):StbC (IsVl r hy):=⟨IsVl.stb r hy⟩
theorem IsIv.stb(k:Nat)(p q:Rat):Stb (IsIv k p q):=IsJ.stb (IsI.stb _ _) (IsI.stb _ _) (IsI.stb _ _) (IsI.stb _ _)
instance (k:Nat) (p q:Rat):StbC (IsIv k p q):=⟨IsIv.stb k p q⟩
theorem IsRat.stbE(k:Nat)(q:Rat):Stb (IsRat k q):=IsQ.stb (IsI.stb _ _) (IsI.stb _ _)
instance (k:Nat) (q:Rat):StbC (IsRat k q):=⟨IsRat.stbE k q⟩
theorem value_f{q:Kn}{x:Value}{w:World}(hx:IsK 128 q x w):Calls prog 83 #[x] w (Ret w (IsVl (.ok q) (.slice none 0 0))):=by
 obtain⟨s,a,n,c,s',a',n',c',rfl,h1,h2⟩:=hx
 obtain⟨W,hW,E,B1,B2⟩:∃W,W=(w.alloc (.cells #[.bool s,.slice a n c,.bool s',.slice a' n' c',.bool q.fin] 176)).alloc (.cells #[.bool false,.slice none 0 0,.bool false,.slice none 0 0,.bool false,.slice none 0 0,.bool false,.slice none 0 0,.bool false,.slice none 0 0,.int .i64 0] 50)/\Ext w W/\Bk W w.heap.size [.bool s,.slice a n c,.bool s',.slice a' n' c',.bool q.fin]/\Bk W (w.heap.size+1) [.bool false,.slice none 0 0,.bool false,.slice none 0 0,.bool false,.slice none 0 0,.bool false,.slice none 0 0,.bool false,.slice none 0 0,.int .i64 0]:=
  ⟨_,rfl,((Ext.refl w).alloc _).alloc _,(Bk.new w _ _).ext ((Ext.refl _).alloc _),Bk.newE _ _ zd _ _⟩
 replace h1:=h1.ext E;replace h2:=h2.ext E;go_enter func83,ntmps83;go_upto_region 2 with fail;rw[<-hW];clear hW;refine rg 12 (dR 4 12) [IsV (.func (.func 106) #[] #[]),IsP (w.heap.size) 0,IsI 128 q.lo,IsRat 130 (Rat.divInt q.lo 1),IsV (.func (.func 106) #[] #[]),IsP (w.heap.size) 2,IsI 128 q.hi,IsRat 130 (Rat.divInt q.hi 1),IsIv 130 (Rat.divInt q.lo 1) (Rat.divInt q.hi 1),IsP (w.heap.size) 4,IsV (.bool q.fin),IsVl (.ok q) (.slice none 0 0)] [] 1 ?_ ?_
 ·refine Rc (mv (qB 3)) ?_;refine Rc (fa (qQ w.heap.size 0) (qB 1)) ?_;refine Rc (lvI 0 B1 h1 qE (qA 1 5)) ?_;refine Rc (cv1 (caps:= []) (en func106) (qA (fP:=IsV (.func (.func 106) #[] #[])) 0 4) (qA (fP:=IsI 128 q.lo) 2 6) (λx0 w' hE d0=>value1_f d0 (hid dcx) _ (hid rfl))) ?_;refine Rc (mv (qB 3)) ?_;refine Rc (fa (qP w.heap.size 0) (qB 1)) ?_;refine Rc (lvI 2 B1 h2 qE (qA 5 9)) ?_;refine Rc (cv1 (caps:= []) (en func106) (qA (fP:=IsV (.func (.func 106) #[] #[])) 4 8) (qA (fP:=IsI 128 q.hi) 6 10) (λx0 w' hE d0=>value1_f d0 (hid dcx) _ (hid rfl))) ?_;refine Rc (bdIv (qC 3 7) (qC 7 11)) ?_;refine Rc (fa (fa_Kn2 w.heap.size 0) (qB 1)) ?_;refine Rc (lvC 4 B1 ld_b (qA 9 13)) ?_;refine Rc (bdVl (q:=q) (qC 8 12) (qC 10 14)) ?_;exact rn0
 intro v W2 e1 hZ _;replace E:=E.trans e1;replace B2:=B2.ext e1;obtain⟨s1,a1,n1,c1,s2,a2,n2,c2,s3,a3,n3,c3,s4,a4,n4,c4,hv,g1,g2⟩:=hZ 11 dcx;simp only[lxE,Nat.reduceAdd];rw[hv];clear hv hZ e1 B1 h1 h2;refine stA 12 (h:=λK hK=>?_);refine stV (us:= [.bool s1,.slice a1 n1 c1,.bool s2,.slice a2 n2 c2,.bool s3,.slice a3 n3 c3,.bool s4,.slice a4 n4 c4,.bool q.fin,.slice none 0 0,.int .i64 0]) B2 st_Vl rfl rfl nwVl E zb (λW2a B4 E2 G2 _ _=>hK _ _ ?_);refine jL za ?_ _;have d0:=B4.c 0 _ rfl;have d1:=B4.c 1 _ rfl;have d2:=B4.c 2 _ rfl;have d3:=B4.c 3 _ rfl;have d4:=B4.c 4 _ rfl;have d5:=B4.c 5 _ rfl;have d6:=B4.c 6 _ rfl;have d7:=B4.c 7 _ rfl;have d8:=B4.c 8 _ rfl;have d9:=B4.c 9 _ rfl;have d10:=B4.c 10 _ rfl;go_wp2_with fail;exact jD (v:=.agg #[.bool s1,.slice a1 n1 c1,.bool s2,.slice a2 n2 c2,.bool s3,.slice a3 n3 c3,.bool s4,.slice a4 n4 c4,.bool q.fin,.slice none 0 0,.int .i64 0]) (by simp[results,results83,go_sem,d0,d1,d2,d3,d4,d5,d6,d7,d8,d9,d10]) rfl ⟨_,rfl,E2,_,_,_,_,_,_,_,_,_,_,_,_,_,_,_,_,rfl,IsRat.gstb _ _ _ _ _ G2 g1,IsRat.gstb _ _ _ _ _ G2 g2⟩
def zVl:List Value:= [.bool false,.slice none 0 0,.bool false,.slice none 0 0,.bool false,.slice none 0 0,.bool false,.slice none 0 0,.bool false,.slice none 0 0,.int .i64 0]
def eVl(n:Int):List Value:= [.bool false,.slice none 0 0,.bool false,.slice none 0 0,.bool false,.slice none 0 0,.bool false,.slice none 0 0,.bool true,.slice none 0 0,.int .i64 n]
theorem ta_f(n:Int)(w:World):(Instr.typeAssert (.iface 172 (.agg #[.int .i64 n])) 20 172 true).run prog w=.ok (.tuple #[.agg #[.int .i64 n],.bool true]) w:=by
 first|rfl|go_simp
theorem catch_f(n:Int)(w:World)(g:Nat)(B:Bk w g zVl):CallsD prog 82 #[.pointer (some ⟨g,0,none⟩)] (.panicking (pan n)) w λe u' w'=>
  e=.returned (.tuple #[])/\u'=.panicking [{v:=failV n,recovered:=true}]/\∃W0,Ext w W0/\w'=xD W0 g 0 (eVl n)/\Bk W0 g zVl:=by
 refine callsD_of_wpS func82 rfl λc₀ cs hu=>?_
 apply wpS_seq;apply wpS_region
 obtain⟨W0,hW1,E1,c1⟩:∃W0,W0=w.alloc (.cells #[.int .i64 n] 172)/\Ext w W0/\W0.cell? ⟨w.heap.size,0,none⟩=some (.int .i64 n):=
  ⟨_,rfl,(Ext.refl w).alloc _,by simp⟩
 have hta:=ta_f n;have B1:=B.ext E1;have k0:=B1.c 0 _ rfl;have k1:=B1.c 1 _ rfl;have k2:=B1.c 2 _ rfl;have k3:=B1.c 3 _ rfl;have k4:=B1.c 4 _ rfl;have k5:=B1.c 5 _ rfl;have k6:=B1.c 6 _ rfl;have k7:=B1.c 7 _ rfl;have k8:=B1.c 8 _ rfl;have k9:=B1.c 9 _ rfl;have k10:=B1.c 10 _ rfl;have f0:=B1.f 0;have f1:=B1.f 1;have f2:=B1.f 2;have f3:=B1.f 3;have f4:=B1.f 4;have f5:=B1.f 5;have f6:=B1.f 6;have f7:=B1.f 7;have f8:=B1.f 8;have f9:=B1.f 9;have f10:=B1.f 10;have hbd:∀w,(Instr.build 50 #[(1,.bool true),(3,.int .i64 n)]).run prog w=.ok (.agg (eVl n).toArray) w:=λw=>by unfold eVl;go_simp
 simp[wpOpsS,hta,go_sem,recoverD,hu,ntmps82,Exit.thenS,pan,failV];rw[<-hW1];apply wpS_seq;apply wpS_region;simp[wpOpsS,go_sem,Exit.thenS];refine wpS_cond (t:=true) (by simp[Act.eval]) ?_;simp only[if_true];apply wpS_region;simp[wpOpsS,go_sem,c1,bodyPostS,results,results82,k0,k1,k2,k3,k4,k5,k6,k7,k8,k9,k10,f0,f1,f2,f3,f4,f5,f6,f7,f8,f9,f10];exact⟨W0,E1,rfl,B1⟩
theorem ta_n(w:World):(Instr.typeAssert .nilIface 20 172 true).run prog w=.ok (.tuple #[.agg #[.int .i64 0],.bool false]) w:=by
 first|rfl|go_simp
theorem idle_f(w:World)(g:Nat):CallsD prog 82 #[.pointer (some ⟨g,0,none⟩)] .returning w λe u' w'=>e=.returned (.tuple #[])/\u'=.returning/\Ext w w':=by
 refine callsD_of_wpS func82 rfl λc₀ cs hu=>?_
 apply wpS_seq;apply wpS_region;obtain⟨W0,hW1,E1⟩:∃W0,W0=w.alloc (.cells #[.int .i64 0] 172)/\Ext w W0:=⟨_,rfl,(Ext.refl w).alloc _⟩;have hta:=ta_n;simp[wpOpsS,hta,go_sem,recoverD,hu,ntmps82,Exit.thenS];rw[<-hW1];apply wpS_seq;apply wpS_region;simp[wpOpsS,go_sem,Exit.thenS];refine wpS_cond (t:=false) (by simp[Act.eval]) ?_;simp only[Bool.false_eq_true,if_false];refine wpS_of_wp (wp_skip ?_);cases c₀
 simp_all [bodyPostS,results,results82]
theorem xY:LdV prog 31 8:=λw' g' vs' hl B=>ld_Nd hl (λj v hj=>by rw[Nat.zero_add];exact B.c j v hj)
theorem len8{us:List Value}(hl:us.length=8):∃u0 u1 u2 u3 u4 u5 u6 u7,us= [u0,u1,u2,u3,u4,u5,u6,u7]:=by
 match us,hl with
 | [u0,u1,u2,u3,u4,u5,u6,u7],_=>exact⟨_,_,_,_,_,_,_,_,rfl⟩
theorem result_f{σ:Type}{m:Mc}{J:σ->World->Prop}{w:World}{st:Mst σ}{us:List Value}(hl:us.length=8)(hJ:MapInv m.h J)(hh:m.h+3<=w.heap.size)(hM:MAt m st.1 w)(hj:J st.2 w){r:Res Kn×Mst σ}
  (HC:Hid (∀w',Rm m.h w w'->MAt m st.1 w'->J st.2 w'->w.heap.size<=w'.heap.size->Calls prog 84 #[.pointer (some ⟨m.h+2,0,none⟩),.agg us.toArray,.slice none 0 0] w' (EvP m J w' r))):
  Calls prog 66 #[.pointer (some ⟨m.h+2,0,none⟩),.agg us.toArray] w (λe w'=>Rm m.h w w'/\MAt m r.2.1 w'/\J r.2.2 w'/\∃v,e=.returned v/\IsVl r.1 (.slice none 0 0) v w'):=by
 obtain⟨u0,u1,u2,u3,u4,u5,u6,u7,rfl⟩:=len8 hl;clear hl;have hmf:∀(fn:Fn) (first cap:Array Value) (w:World),(Instr.makeFunc fn first cap).run prog w=.ok (.func fn first cap) w:=λ_ _ _ _=>rfl
 obtain⟨W,hW,E,B3,B4⟩:∃W,W=(w.alloc (.cells #[u0,u1,u2,u3,u4,u5,u6,u7] 31)).alloc (.cells #[.bool false,.slice none 0 0,.bool false,.slice none 0 0,.bool false,.slice none 0 0,.bool false,.slice none 0 0,.bool false,.slice none 0 0,.int .i64 0] 50)/\Ext w W/\Bk W w.heap.size [u0,u1,u2,u3,u4,u5,u6,u7]/\Bk W (w.heap.size+1) zVl:=
  ⟨_,rfl,((Ext.refl w).alloc _).alloc _,(Bk.new w _ _).ext ((Ext.refl _).alloc _),Bk.newE _ _ zd _ _⟩
 go_enter_defers func66,ntmps66
 go_upto_region 2 with fail;rw[<-hW];clear hW;refine rgs 2 [some 6,some 7] [IsP (m.h+2) 0,IsV (.agg #[u0,u1,u2,u3,u4,u5,u6,u7])] [] ?_ ?_
 ·refine Rc zt ?_;refine Rc (lvV B3 xY (qB 3)) ?_;exact rn0
 intro v X1 e1 hZ _;replace E:=E.trans e1;replace B4:=B4.ext e1;simp only[lxE,Nat.reduceAdd];rw[show v 0=.pointer (some ⟨m.h+2,0,none⟩)from hZ 0 dcx,show v 1=.agg #[u0,u1,u2,u3,u4,u5,u6,u7]from hZ 1 dcx];clear hZ e1 B3;refine stL (λK hK=>?_);refine xC (us:= [.pointer (some ⟨m.h+2,0,none⟩),.agg #[u0,u1,u2,u3,u4,u5,u6,u7],.slice none 0 0]) (en func84) za (HC.out _ (Rm.ext E) (hM.ext E) (hJ.ext hj E hh) E.size) (λv2 X2 h=>hK _ _ ?_) (λch X2 h=>?_) (λX2 h=>?_)
 ·obtain⟨hR,hMA,hJA,h⟩:=h;obtain⟨res,st2⟩:=r;cases res with
  |error nn=>cases h
  | ok q=>
   obtain⟨v3,hv,hq⟩:=h;cases hv;have R:=(Rm.ext E).trans hR;have hs2:=R.size;replace B4:=hR.bk B4 zb;clear hK K hR E
   go_simp
   refine stL (λK hK=>?_);refine wp_call1 (en func83) za (value_f hq) (λv4 X3 h=>hK _ _ ?_) (λch X3 h=>by obtain⟨x,hx,_⟩:=h;cases hx) (λX3 h=>by obtain⟨x,hx,_⟩:=h;cases hx);obtain⟨v5,hv5,e3,s1,a1,n1,c1,s2,a2,n2,c2,s3,a3,n3,c3,s4,a4,n4,c4,hv6,g1,g2⟩:=h;cases hv5;subst hv6;replace R:=R.trans (Rm.ext e3);replace B4:=B4.ext e3;replace hMA:=hMA.ext e3;replace hJA:=hJ.ext hJA e3 (jK hh hs2);clear hK K e3
   go_simp
   refine stL (λK hK=>?_);refine qX (us:= [.bool s1,.slice a1 n1 c1,.bool s2,.slice a2 n2 c2,.bool s3,.slice a3 n3 c3,.bool s4,.slice a4 n4 c4,.bool q.fin,.slice none 0 0,.int .i64 0]) B4 st_Vl rfl rfl nwVl (λX4 B9 O=>hK _ _ ?_);refine jE ?_;replace g1:=IsRat.gstb _ _ _ _ _ O.gr g1;replace g2:=IsRat.gstb _ _ _ _ _ O.gr g2;have f1:=O.rm R zb;have f2:MAt m st2.1 X4:=⟨O.bk hMA.bk zb,hMA.fit⟩;have f3:=hJ.only hJA O zb;clear hK K O R hMA hJA B4;go_wp2_with fail;refine leaves_cons (f:=82) (args:= #[.pointer (some ⟨w.heap.size+1,0,none⟩)]) zd (by simp[go_sem]) ?_;refine(idle_f X4 (w.heap.size+1)).mono ?_;rintro e u' w'' ⟨rfl,rfl,e5⟩;replace B9:=B9.ext e5;have d0:=B9.c 0 _ rfl;have d1:=B9.c 1 _ rfl;have d2:=B9.c 2 _ rfl;have d3:=B9.c 3 _ rfl;have d4:=B9.c 4 _ rfl;have d5:=B9.c 5 _ rfl;have d6:=B9.c 6 _ rfl;have d7:=B9.c 7 _ rfl;have d8:=B9.c 8 _ rfl;have d9:=B9.c 9 _ rfl;have d10:=B9.c 10 _ rfl;simp[Leaves,settle,results,results66,go_sem,d0,d1,d2,d3,d4,d5,d6,d7,d8,d9,d10];exact⟨f1.trans (Rm.ext e5),f2.ext e5,hJ.ext f3 e5 (jK hh f1.size),_,_,_,_,_,_,_,_,_,_,_,_,_,_,_,_,rfl,IsRat.gstb _ _ _ _ _ e5.gr g1,IsRat.gstb _ _ _ _ _ e5.gr g2⟩
 ·obtain⟨hR,hMA,hJA,h⟩:=h;obtain⟨res,st2⟩:=r;cases res with
  |ok q=>obtain⟨_,hv,_⟩:=h;cases hv
  | error nn=>
   cases h;have R:=(Rm.ext E).trans hR;replace B4:=hR.bk B4 zb;show Leaves _ _ _ _ _ _ _;refine leaves_cons (f:=82) (args:= #[.pointer (some ⟨w.heap.size+1,0,none⟩)]) zd (by simp[go_sem]) ?_;refine(catch_f nn X2 (w.heap.size+1) B4).mono ?_;rintro e u' w'' ⟨rfl,rfl,W2,e5,rfl,B5⟩;obtain⟨O,B9⟩:=B5.putO (us:=eVl nn) rfl nwVl;have f1:=O.rm (R.trans (Rm.ext e5)) zb;have f2:MAt m st2.1 _:=⟨O.bk (hMA.ext e5).bk zb,hMA.fit⟩;have f3:=hJ.only (hJ.ext hJA e5 (jK hh R.size)) O zb;have d0:=B9.c 0 _ rfl;have d1:=B9.c 1 _ rfl;have d2:=B9.c 2 _ rfl;have d3:=B9.c 3 _ rfl;have d4:=B9.c 4 _ rfl;have d5:=B9.c 5 _ rfl;have d6:=B9.c 6 _ rfl;have d7:=B9.c 7 _ rfl;have d8:=B9.c 8 _ rfl;have d9:=B9.c 9 _ rfl;have d10:=B9.c 10 _ rfl;generalize xD W2 (w.heap.size+1) 0 (eVl nn)=X5 at*;simp[Leaves,settle,results,results66,go_sem,d0,d1,d2,d3,d4,d5,d6,d7,d8,d9,d10];exact⟨f1,f2,f3,rfl⟩
 ·obtain⟨hR,hMA,hJA,h⟩:=h;obtain⟨res,st2⟩:=r;cases res with
  |ok q=>obtain⟨_,hv,_⟩:=h;cases hv
  |error nn=>cases h
end
end Go.Proofs.YtkeikfekkdplgaaGreatDoor
