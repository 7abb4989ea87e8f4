/-
  A drawn region in which a load may come before a call or behind it: the load is taken first, though a later operation of the region stores into the cell that it reads.
-/
import Derived.Test.YtenhciieboegbaaGreatDoorNbs
import Derived.OrdersHeld
namespace Go.Proofs.YtenhciieboegbaaGreatDoor
open Go Go.RowKit
section
variable {P:Program} {ops:Array Oper} {Q:Exit → Act → World → Prop} {md:Region.Mode} {S:World → Prop} {D:List Nat}
def wpAnyD(P:Program)(md:Region.Mode)(ops:Array Oper)(Q:Exit → Act → World → Prop)(S:World → Prop)(D:List Nat):Nat → Array Bool → Act → World → Prop
  |0,listed,a,w =>Region.ready md ops listed = [] ∧ Q .normal a w
  | fuel + 1,listed,a,w =>
    (Region.ready md ops listed = [] → Q .normal a w) ∧
    ∀i∈Region.ready md ops listed,wpOp P ops Q i (λa' w' =>(i ∉ D → S w') ∧ wpAnyD P md ops Q S D fuel (listed.setIfInBounds i true) a' w') a w
theorem wpAny_of_D:∀(fuel:Nat) (listed:Array Bool) (a:Act) (w:World),wpAnyD P md ops Q S D fuel listed a w → wpAny P md ops Q fuel listed a w
  |0,_,_,_,h =>h
  |fuel + 1,_,_,_,h =>⟨h.1,λi hi =>wpOp_mono (λa' w' h' =>wpAny_of_D fuel _ a' w' h'.2) (h.2 i hi)⟩
theorem getD_set_ne'{l:Array Bool}{j k:Nat}(h:j≠k)(b:Bool):(l.setIfInBounds j true).getD k b =l.getD k b:=by
  simp[Array.getD_eq_getD_getElem?,h]
def waitsD(md:Region.Mode)(ops:Array Oper)(D:List Nat)(i:Nat):Bool:=
  D.all λk =>match ops[k]? with|some o =>(o.after.any λe =>Region.binds md e && (e.on ==i || D.contains e.on))|none =>true
theorem wpAnyD_first{i:Nat}{oi:Oper}{v:Value}(hi:ops[i]? =some oi)(hsel:∀(j:Nat) (o:Oper) cs b,ops[j]? =some o → o.op≠ .select cs b)
    (hQ:∀c a w,Q (.panic c) (a.put oi.dst v) w → Q (.panic c) a w) (hD:waitsD md ops D i =true) :
    ∀ (fuel:Nat) (listed:Array Bool) (a:Act) (w:World),
      (∀j oj,ops[j]? =some oj → j≠i → listed.getD j true =false → (∀e∈oj.after,Region.binds md e =true → e.on≠i) → oi.apart ops oj =true) →
      i∈Region.ready md ops listed → YieldsIf P ops S oi v a → S w → (∀k∈D,listed[k]? ≠some true) →
      wpAnyD P md ops Q S D fuel (listed.setIfInBounds i true) (a.put oi.dst v) w → wpAny P md ops Q (fuel + 1) listed a w:=by
  intro fuel
  induction fuel with
  | zero =>
    intro listed a w _ hr hy hS _ H
    refine⟨λh =>(by rw[h]at hr;cases hr),λj hj =>?_⟩
    by_cases hji:j =i
    ·subst hji;exact hy.wpOp hi hS ⟨H.1,H.2⟩
    · have:=ready_mono hj hji
      rw[H.1]at this
      cases this
  | succ fuel ih =>
    intro listed a w hfree hr hy hS hun H
    refine⟨λh =>(by rw[h]at hr;cases hr),λj hj =>?_⟩
    by_cases hji:j =i
    ·subst hji;exact hy.wpOp hi hS (wpAny_of_D _ _ _ _ H)
    · have h1:=H.2 j (ready_mono hj hji)
      obtain⟨hjun,oj,hoj,hall⟩ :=mem_ready.1 hj
      have hnot:∀e∈oj.after,Region.binds md e =true → e.on≠i:=λe he hb heq =>by
        have h1:=hall e he hb
        have h0:=(mem_ready.1 hr).1
        rw[heq]at h1
        rcases Nat.lt_or_ge i listed.size with h'|h'
        ·simp[h']at h0 h1;rw[h0]at h1;cases h1
        ·simp[Array.getElem?_eq_none h']at h1
      have hjD:j ∉ D:=λhm =>by
        have h3:=List.all_eq_true.1 hD j hm
        rw[hoj]at h3
        dsimp only at h3
        rw[← Array.any_toList]at h3
        obtain⟨e,he,h4⟩ :=List.any_eq_true.1 h3
        have he:e∈oj.after:=by simpa using he
        simp only[Bool.and_eq_true,Bool.or_eq_true,beq_iff_eq,List.contains_iff_mem]at h4
        rcases h4.2 with h5|h5
        ·exact hnot e he h4.1 h5
        · have h6:=hall e he h4.1
          have h7:=hun _ h5
          rcases Nat.lt_or_ge e.on listed.size with h'|h'
          ·simp[h']at h6 h7;rw[h6]at h7;cases h7
          ·simp[Array.getElem?_eq_none h']at h6
      have h2:=wpOp_putIf hoj (hfree j oj hoj hji hjun hnot) (λcs b =>hsel i oi cs b hi) (λcs b =>hsel j oj cs b hoj) hQ hy h1
      have hfree':∀k ok,ops[k]? =some ok → k≠i → (listed.setIfInBounds j true).getD k true =false →
          (∀e∈ok.after,Region.binds md e =true → e.on≠i) → oi.apart ops ok =true:=λk ok hk hki hun hno =>by
        refine hfree k ok hk hki ?_ hno
        by_cases hjk:j =k
        ·subst hjk;exact hjun
        ·rw[getD_set_ne' hjk true]at hun;exact hun
      have hun':∀k∈D,(listed.setIfInBounds j true)[k]? ≠some true:=λk hk =>by
        have hne:j≠k:=λe =>hjD (e ▸ hk)
        rw[Array.getElem?_setIfInBounds_ne hne]
        exact hun k hk
      refine wpOp_mono (λa' w' h3 =>ih (listed.setIfInBounds j true) a' w' hfree' (ready_mono hr (Ne.symm hji)) h3.1 (h3.2.1 hjD) hun' ?_) h2
      rw[Array.setIfInBounds_comm _ _ hji]
      exact h3.2.2
theorem tkD{fuel:Nat}{listed:Array Bool}{a:Act}{w:World}(i:Nat)(D:List Nat)(S:World → Prop){T:Nat}{x:Operand}{o:Oper}{p u:Value}(hl:∀w,S w → (Instr.loadAt T p).run P w =.ok u w)(hS:S w)
    (h:wpAnyD P .any ops Q S D fuel (listed.setIfInBounds i true) (a.put o.dst u) w)
    (hi:ops[i]? =some o:=by rfl) (ho:o.op =.load T x:=by rfl) (he:a.eval x =p:=by kernel_rfl) (hs:Region.noSelect ops =true:=by kernel_rfl) (hf:Region.free .any ops listed i =true:=by kernel_rfl) (hr:(Region.ready .any ops listed).contains i =true:=by kernel_rfl)
    (hD:waitsD .any ops D i =true:=by kernel_rfl) (hun:(D.all λk =>listed[k]? !=some true)=true:=by kernel_rfl)
    (hQ:∀v c a w,Q (.panic c) (a.put o.dst v) w → Q (.panic c) a w:=by exact λ_ _ _ _ h =>h) (hg:o.guard =none:=by rfl):wpAny P .any ops Q (fuel + 1) listed a w:=
  wpAnyD_first hi (Region.noSelect_spec hs) (hQ _) hD fuel listed a w (Region.free_spec hi hf) (by simpa using hr)
    (.inl ⟨by simp[Region.wanted,hg],λw hw =>by
      unfold execOp
      rw[ho]
      dsimp only
      rw[he]
      simp[hl w hw]⟩) hS (λk hk =>by simpa using List.all_eq_true.1 hun k hk) h
theorem stD{fuel:Nat}{listed:Array Bool}{a:Act}{w:World}{o:Oper}(j:Nat)(ho:ops[j]? =some o)(h:∀K:Act → World → Prop,(∀a w,S w → wpAnyD P .any ops Q S D fuel (listed.setIfInBounds j true) a w → K a w) → Oper.wp P o a w K Q)
    (hr:Region.ready .any ops listed = [j] :=by kernel_rfl) (hg:o.guard =none:=by rfl):wpAnyD P .any ops Q S D (fuel + 1) listed a w:=
  ⟨fun h0 =>(by rw[hr]at h0;cases h0),λi hi =>by
    rw[hr]at hi
    obtain rfl:=List.mem_singleton.1 hi
    unfold wpOp
    simp only[ho]
    rw[if_pos (by simp[Region.wanted,hg])]
    exact .inl (h _ λa w h1 h2 =>⟨λ_ =>h1,h2⟩)⟩
theorem wpAnyD_of_any:∀(fuel:Nat) (listed:Array Bool) (a:Act) (w:World),(∀k ok,ops[k]? =some ok → listed.getD k true =false → k∈D) → wpAny P md ops Q fuel listed a w → wpAnyD P md ops Q S D fuel listed a w
  |0,_,_,_,_,h =>h
  | fuel + 1,listed,a,w,hun,h =>⟨h.1,λi hi =>by
    have hiD:i∈D:=by
      obtain⟨h1,oi,h2,-⟩ :=mem_ready.1 hi
      exact hun i oi h2 h1
    refine wpOp_mono (λa' w' h' =>⟨λhn =>absurd hiD hn,wpAnyD_of_any fuel _ a' w' (λk ok hk hl =>?_) h'⟩) (h.2 i hi)
    by_cases hik:i =k
    ·subst hik;exact hiD
    ·rw[getD_set_ne' hik true]at hl;exact hun k ok hk hl⟩
theorem enD{fuel:Nat}{listed:Array Bool}{a:Act}{w:World}(h:wpAny P .any ops Q fuel listed a w)(hun:((List.range ops.size).all λk =>listed.getD k true || D.contains k)=true:=by kernel_rfl):wpAnyD P .any ops Q S D fuel listed a w:=
  wpAnyD_of_any fuel listed a w (λk ok hk hl =>by
    have hk':k < ops.size:=by
      rcases Nat.lt_or_ge k ops.size with h|h
      ·exact h
      ·rw[Array.getElem?_eq_none h]at hk;cases hk
    have:=List.all_eq_true.1 hun k (List.mem_range.2 hk')
    simpa [hl]using this) h
end
/-! ### What lies in blocks from B on is kept -/
def Kc(B:Nat)(w w':World):Prop:=(∀(p:Addr) (v:Value),B ≤ p.block → World.cell? w p =some v → World.cell? w' p =some v) ∧ Gr w w'
section
variable {B g:Nat} {a b c:World} {v:Value}
theorem Kc.refl(B:Nat)(w:World):Kc B w w:=⟨λ_ _ _ h =>h,Gr.refl w⟩
theorem Kc.trans(x:Kc B a b)(y:Kc B b c):Kc B a c:=⟨λp v hp h =>y.1 p v hp (x.1 p v hp h),x.2.trans y.2⟩
theorem Kc.ext(e:Ext a b):Kc B a b:=⟨λ_ _ _ h =>e.cell h,e.gr⟩
theorem Kc.ob(O:Ob g a b)(hg:g < B):Kc B a b:=⟨λ_ _ hp h =>O.cell h (by omega),O.gr⟩
theorem Kc.only(O:OnlyB g a b)(hg:g < B):Kc B a b:=Kc.ob (Ob.only O) hg
theorem Kc.grown(h:Kc B a b)(hg:b.grownBy c v.ownBlock)(gr:Gr b c)(hv:∀g,v.ownBlock =some g → a.heap.size ≤ g):Kc B a c:=
  ⟨fun p u hp hc =>by
    have h1:=h.1 p u hp hc
    have h2:=World.block_lt_of_cell? a p hc
    refine(World.cell?_of_block (w:=b) (a:=p) (hg.block p.block (World.block_lt_of_cell? b p h1) λe =>?_)).trans h1
    have:=hv _ e.symm
    omega,h.2.trans gr⟩
theorem Kc.grown2(hg:a.grownBy b v.ownBlock)(gr:Gr a b)(hv:∀g,v.ownBlock =some g → g < B):Kc B a b:=
  ⟨fun p u hp h1 =>by
    refine(World.cell?_of_block (w:=a) (a:=p) (hg.block p.block (World.block_lt_of_cell? a p h1) λe =>?_)).trans h1
    have:=hv _ e.symm
    omega,gr⟩
theorem NdC.kc{x:Nd}{us:List Value}(h:NdC B a x us)(K:Kc B a b):NdC B b x us:=NdC.kept K.1 K.2 x us h
theorem RwK.base_le{T k base:Nat}{M:List (List Value)}{v:Value}{w:World}(h:RwK T k base M v w)(hM:M≠ []):base ≤ w.heap.size:=by
  obtain⟨ao,cap,h1,h2,h3,h4,h5⟩ :=h.1.shape
  obtain⟨g,q1,q2,q3,q4⟩ :=h5 (by simpa using hM)
  omega
theorem nd_two{base W0:Nat}{w:World}{op:Int}{x y:Nd}{us vs:List Value}{v:Value}(hop: -9223372036854775808 ≤ op ∧ op ≤ 9223372036854775807)(h:RwK 32 8 base [us,vs] v w)(hb:W0 ≤ base)(hx:NdC W0 w x us)(hy:NdC W0 w y vs):
    IsNd W0 (.mk op [] 0 0 0 0 [x,y]) (.agg #[.int .i64 op,.string ⟨#[]⟩,.int .i64 0,.bool false,.slice none 0 0,.int .i64 0,.int .i64 0,v]) w:=by
  have hl1:=hx.len
  have hl2:=hy.len
  obtain⟨ao,cap,rfl,h2,h3,h4⟩ :=h.at (k:=8) (λvs h =>by rcases List.mem_cons.1 h with rfl|h;exact hl1;obtain rfl:=List.mem_singleton.1 h;exact hl2)
  refine⟨_,rfl,NdC.mk' ⟨by simp[Nd.nm],hop.1,hop.2⟩ rfl (IsI.nil _ _) h2 h3 λ_ =>?_⟩
  obtain⟨g,q1,q2,q3,q4⟩ :=h4 (by simp)
  refine⟨g,0,q1,Nat.le_trans hb q2,NdR.of λi z hi =>?_⟩
  rcases i with _|_|i
  · obtain rfl:x =z:=by simpa [Nd.ps]using hi
    exact⟨us,hl1,λj u hj =>by have:=q4 0 us rfl j u hj;simpa using this,hx⟩
  · obtain rfl:y =z:=by simpa [Nd.ps]using hi
    exact⟨vs,hl2,λj u hj =>by have:=q4 1 vs rfl j u hj;simpa using this,hy⟩
  ·simp[Nd.ps]at hi
theorem nd_one{base W0:Nat}{w:World}{op:Int}{nm:List UInt8}{lo hi:Int}{x:Nd}{us:List Value}{v:Value}(hop:NdBd nm op)(h:RwK 32 8 base [us] v w)(hb:W0 ≤ base)(hx:NdC W0 w x us):
    IsNd W0 (.mk op nm 0 0 lo hi [x]) (.agg #[.int .i64 op,encS nm,.int .i64 0,.bool false,.slice none 0 0,.int .i64 lo,.int .i64 hi,v]) w:=by
  have hl1:=hx.len
  obtain⟨ao,cap,rfl,h2,h3,h4⟩ :=h.at (k:=8) (λvs h =>by obtain rfl:=List.mem_singleton.1 h;exact hl1)
  refine⟨_,rfl,NdC.mk' hop rfl (IsI.nil _ _) h2 h3 λ_ =>?_⟩
  obtain⟨g,q1,q2,q3,q4⟩ :=h4 (by simp)
  refine⟨g,0,q1,Nat.le_trans hb q2,NdR.of λi z hi =>?_⟩
  rcases i with _|i
  · obtain rfl:x =z:=by simpa [Nd.ps]using hi
    exact⟨us,hl1,λj u hj =>by have:=q4 0 us rfl j u hj;simpa using this,hx⟩
  ·simp[Nd.ps]at hi
end
section
variable {P:Program} {Q:Exit → Act → World → Prop} {o:Oper} {a:Act} {w:World} {K:Act → World → Prop}
theorem wp_fa{T f:Nat}{x:Operand}{p r:Value}(hp:(Instr.fieldAt T p f).run P w =.ok r w)(h:K (a.put o.dst r) w)(he:a.eval x =p:=by kernel_rfl)(ho:o.op =.fieldAddr T x f:=by rfl):Oper.wp P o a w K Q:=by
  have h9:(execOp a.eval o).run P w =.ok (.value r) w:=by
    unfold execOp
    rw[ho]
    dsimp only
    rw[he]
    simp[hp]
  unfold Oper.wp
  rw[h9]
  exact h
end
theorem wp_ndo{w:World}{o:Oper}{a:Act}{Q:Exit → Act → World → Prop}{K:Act → World → Prop}(t:Tmp)(s x:Operand)
    (ho:o.op =.call {callee:=.builtin .append,args:= #[s,x],argTypes:= #[30,30]}) (base:Nat) (M:List (List Value)) (us:List Value) (v xv:Value) (hs:a.eval s =v) (hx:a.eval x =xv) (hI:RwK 32 8 base M v w) (hu:us.length =8 ∧ (∀v∈us,NoWord v) ∧ us.all (λu =>u.oneCell')=true) (hsrc:SrcR 1 us xv w) (hl:M.length ≤ 1000000) (hbase:base ≤ w.heap.size)
    (h:∀v' w',RwK 32 8 base (M ++ [us]) v' w' → w.grownBy w' v.ownBlock → Gr w w' → (v'.ownBlock =v.ownBlock ∨ v'.ownBlock =some w.heap.size) → K (a.put (some t) v') w') (hdt:o.dst =some t:=by rfl):Oper.wp Tryz.prog o a w K Q:=by
  obtain⟨bytes,hi,hb⟩ :=infoNd
  refine wp_rwnS s x 30 ho base 32 (.agg zNd.toArray) 8 bytes (by kernel_rfl) hi rfl (by decide) (λu hu =>nwZN u (by simpa [Value.cells]using hu)) v M.length M.flatten hs hI.1 hI.2 1 us xv hx (by rw[hu.1]) hsrc (List.all_eq_true.1 hu.2.2) hu.2.1 (by omega) (by have:=Nat.mul_le_mul (show M.length + 1 ≤ 1000001 by omega) hb;omega) hbase ?_
  intro v' w' r1 r2 r3 r4 r5 r6
  rw[hdt]
  exact h v' w' ⟨by rw[List.length_append,List.flatten_append];simpa using r1,r2⟩ r3 r4 r6
theorem st_Nds(a:Option Addr)(n c:Nat):StC1 Tryz.prog 30 (.slice a n c) :=λw p v h2 h3 =>by go_simp
theorem nwSl(a:Option Addr)(n c:Nat):NoWord (.slice a n c) :=λx =>by simp
theorem st_strE(s:List UInt8):StC1 Tryz.prog 9 (encS s) :=λw a v h2 h3 =>by unfold encS;go_simp
theorem Kc.new{B g:Nat}{a b c:World}(h:Kc B a b)(O:OnlyB g b c)(hg:a.heap.size ≤ g):Kc B a c:=
  ⟨fun p u hp hc =>by
    have h1:=h.1 p u hp hc
    have h2:=World.block_lt_of_cell? a p hc
    exact(Ob.only O).cell h1 (by omega),h.2.trans O.gr⟩
theorem RwK.ne{T k base g:Nat}{M:List (List Value)}{v:Value}{w w':World}(h:RwK T k base M v w)(O:Ob g w w')(hne:∀g',v.ownBlock =some g' → g'≠g):RwK T k base M v w':=by
  have hb:∀g,v.ownBlock =some g → w'.heap[g]? =w.heap[g]? :=λg hg =>O.block g (World.ownsRow.lt h.1 g hg).2 (hne g hg)
  refine⟨?_,h.2.kept hb⟩
  obtain⟨h1,h2| ⟨g,cap,cur,hv,hb2,hg,hr⟩⟩ :=h.1
  ·exact⟨h1,.inl h2⟩
  ·exact⟨h1,.inr ⟨g,cap,cur,hv,hb2,(hb g (by rw[hv];rfl)).trans hg,hr⟩⟩
theorem RwK.bs{us:List Value}(hu:us.length =8 ∧ (∀v∈us,NoWord v) ∧ us.all (λu =>u.oneCell')=true)(w:World):RwK 32 8 w.heap.size [us] (.slice (some ⟨w.heap.size,0,none⟩) 1 1) (w.alloc (.cells us.toArray 32)) :=by
  have hg:(w.alloc (.cells us.toArray 32)).heap[w.heap.size]? =some (.cells us.toArray 32) :=by
    show(w.heap.push _)[w.heap.size]? =_
    simp
  refine⟨⟨by simp[hu.1],.inr ⟨w.heap.size,1,us.toArray,rfl,Nat.le_refl _,hg,?_⟩⟩,?_⟩
  ·simp[hu.1,maxLen,List.take_of_length_le]
  · intro g cs e fz h1 h2 u hu'
    obtain rfl:w.heap.size =g:=by cases h1;rfl
    rw[hg]at h2
    cases h2
    exact hu.2.1 u (by simpa using hu')
theorem Ret.ext'{w w':World}{fP:Value → World → Prop}{e:Ending}(h:Ret w fP e w'):Ext w w':=let ⟨_,_,h2,_⟩ :=h;h2
section
variable {P:Program} {Q:Exit → Act → World → Prop} {o:Oper} {a:Act} {w:World} {K:Act → World → Prop}
theorem wp_lk{T:Nat}{c:Bool}{x y:Operand}{p q r:Value}(hr:(Instr.lookup T p q c).run P w =.ok r w)(h:K (a.put o.dst r) w)(hx:a.eval x =p:=by kernel_rfl)(hy:a.eval y =q:=by kernel_rfl)(ho:o.op =.lookup T x y c:=by rfl):Oper.wp P o a w K Q:=by
  have h9:(execOp a.eval o).run P w =.ok (.value r) w:=by
    unfold execOp
    rw[ho]
    dsimp only
    rw[hx,hy]
    simp[hr]
  unfold Oper.wp
  rw[h9]
  exact h
theorem wp_bo{b:BinOp}{T T2:Nat}{x y:Operand}{p q r:Value}(hp:Sem.run P (do eqGuard b T x y p q;binOp b T p q) w =.ok r w)(h:K (a.put o.dst r) w)(hx:a.eval x =p:=by kernel_rfl)(hy:a.eval y =q:=by kernel_rfl)(ho:o.op =.binOp b T x y T2:=by rfl):Oper.wp P o a w K Q:=by
  have h9:(execOp a.eval o).run P w =.ok (.value r) w:=by
    unfold execOp
    rw[ho]
    dsimp only
    rw[hx,hy]
    cases hg9:Sem.run P (eqGuard b T x y p q) w with
    |ok u w1 =>simp[hg9]at hp ⊢;rw[hp];simp
    |halt e w1 =>simp[hg9]at hp
  unfold Oper.wp
  rw[h9]
  exact h
end
end Go.Proofs.YtenhciieboegbaaGreatDoor
