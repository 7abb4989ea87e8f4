/-
  Package count: a triple as a form. (Printed by wip/gen/den25.py.)
  Rows whose blocks hold no word (rows of structs): an append leaves all words in memory as they were.
-/
import Derived.Test.YtknffgdbdadpcaaGreatDoorDen23
import Derived.Test.YtknffgdbdadpcaaGreatDoorRwg
import Derived.Test.YtknffgdbdadpcaaGreatDoorRgm
namespace Go.Proofs.YtknffgdbdadpcaaGreatDoor
open Go Go.RowKit
set_option maxRecDepth 100000
set_option maxHeartbeats 4000000
theorem form_f (w:World) (a b c:Int) (hb:(-9223372036854775808≤a∧a≤9223372036854775807)∧(-9223372036854775808≤b∧b≤9223372036854775807)∧(-9223372036854775808≤c∧c≤9223372036854775807)):
    Calls Tryz.prog 121 #[.agg #[.int .i64 a,.int .i64 b,.int .i64 c]] w (Ret w (IsF (IsI 2 a) (IsI 2 b) (IsI 2 c))):=by
  have HB:=hid hb;clear hb;obtain ⟨W,hW,S,C0,C1,C2⟩:∃ W,W=(w.alloc (.cells #[.int .i64 a,.int .i64 b,.int .i64 c] 159)).alloc (.cells #[.bool false,.slice none 0 0,.bool false,.slice none 0 0,.bool false,.slice none 0 0] 62)∧Sto w W [((w.heap.size+1,2),IsI 0 0),((w.heap.size+1,1),IsI 0 0),((w.heap.size+1,0),IsI 0 0)]∧World.cell? W ⟨w.heap.size,0,none⟩=some (.int .i64 a)∧World.cell? W ⟨w.heap.size,1,none⟩=some (.int .i64 b)∧World.cell? W ⟨w.heap.size,2,none⟩=some (.int .i64 c):=⟨_,rfl,(((Sto.start w).mono ((Ext.refl _).alloc _)).new3 (w.heap.size+1) (by simp) false false false none none none 0 0 0 0 0 0 62 (IsI 0 0) (IsI 0 0) (IsI 0 0) (IsI.gstb _ _) (IsI.nil _ _) (IsI.gstb _ _) (IsI.nil _ _) (IsI.gstb _ _) (IsI.nil _ _)),((Ext.refl _).alloc _).cell (cell_newAt _ _ (by simp) _ _ _ _ rfl),((Ext.refl _).alloc _).cell (cell_newAt _ _ (by simp) _ _ _ _ rfl),((Ext.refl _).alloc _).cell (cell_newAt _ _ (by simp) _ _ _ _ rfl)⟩;go_enter Tryz.func121,Tryz.ntmps121;go_upto_region 1 with (fail);rw [← hW];clear hW;refine rg 10 [some 3,some 4,some 5,some 6,some 7,some 8,some 9,some 10,some 11,some 12] [IsV (.pointer (some ⟨w.heap.size,0,none⟩)),iV a,IsI 2 a,IsV (.pointer (some ⟨w.heap.size,1,none⟩)),iV b,IsI 2 b,IsV (.pointer (some ⟨w.heap.size,2,none⟩)),iV c,IsI 2 c,IsF (IsI 2 a) (IsI 2 b) (IsI 2 c)] [] 1 ?_ ?_ (hst:=by repeat' (first | exact trivial | apply IsIf.stb | exact IsV.stb _ | exact IsI.stb _ _ | apply IsJ.stb | apply IsQ.stb | apply IsF.stb | apply IsT2.stb | apply IsT3.stb | exact IsBo.stb _ _ | apply And.intro))
  · refine Rc (fa (fa_Tr0 (w.heap.size)) (Od.lit 1)) ?_
    refine Rc (ldG2 (fun w e=>Ext.cell e C0) (Od.loc 0 3)) ?_;refine Rc (cl1 (en Tryz.func75) (Od.lc (Φ:=iV a) 1 4) (fun x0 w' hE d0=>by { obtain rfl:x0= .int .i64 a:=d0;exact number_f _ a HB.out.1.1 HB.out.1.2})) ?_;refine Rc (fa (fa_Tr1 (w.heap.size)) (Od.lit 1)) ?_;refine Rc (ldG2 (fun w e=>Ext.cell e C1) (Od.loc 3 6)) ?_;refine Rc (cl1 (en Tryz.func75) (Od.lc (Φ:=iV b) 4 7) (fun x0 w' hE d0=>by { obtain rfl:x0= .int .i64 b:=d0;exact number_f _ b HB.out.2.1.1 HB.out.2.1.2})) ?_;refine Rc (fa (fa_Tr2 (w.heap.size)) (Od.lit 1)) ?_;refine Rc (ldG2 (fun w e=>Ext.cell e C2) (Od.loc 6 9)) ?_;refine Rc (cl1 (en Tryz.func75) (Od.lc (Φ:=iV c) 7 10) (fun x0 w' hE d0=>by { obtain rfl:x0= .int .i64 c:=d0;exact number_f _ c HB.out.2.2.1 HB.out.2.2.2})) ?_;refine Rc (bF (Od.loc 2 5) (Od.loc 5 8) (Od.loc 8 11) bd_Frm) ?_;exact rn0
  intro v W1 e1 hΦ _;replace S:=S.mono e1;have h12:=hΦ 9 dcx;simp only [lxE,Nat.reduceAdd];clear hΦ e1;refine stA 10 (h:=fun KK hKK=>stF S 2 1 0 (w.heap.size+1) 0 h12 (IsI.gstb _ _) (IsI.gstb _ _) (IsI.gstb _ _) st_Frm (fun W2 S2 G2=>hKK _ _ ?_) rfl rfl rfl);replace S:=S2;clear S2 G2 hKK KK h12;simp only [u0x,u1x] at S;refine wpAny_done (by kernel_rfl) ?_ _;go_wp2_with fail;obtain ⟨s90x,a90x,n90x,c90x,b90x,h90x⟩:=S.at 2 (w.heap.size+1) 0 (IsI 2 a) rfl;have L90xa:World.cell? W2 ⟨w.heap.size+1,0,none⟩=some (.bool s90x):=b90x.c0;have L90xb:World.cell? W2 ⟨w.heap.size+1,1,none⟩=some (.slice a90x n90x c90x):=b90x.c1;obtain ⟨s90y,a90y,n90y,c90y,b90y,h90y⟩:=S.at 1 (w.heap.size+1) 1 (IsI 2 b) rfl;have L90ya:World.cell? W2 ⟨w.heap.size+1,2,none⟩=some (.bool s90y):=b90y.c0;have L90yb:World.cell? W2 ⟨w.heap.size+1,3,none⟩=some (.slice a90y n90y c90y):=b90y.c1;obtain ⟨s90z,a90z,n90z,c90z,b90z,h90z⟩:=S.at 0 (w.heap.size+1) 2 (IsI 2 c) rfl;have L90za:World.cell? W2 ⟨w.heap.size+1,4,none⟩=some (.bool s90z):=b90z.c0;have L90zb:World.cell? W2 ⟨w.heap.size+1,5,none⟩=some (.slice a90z n90z c90z):=b90z.c1;exact bodyPost_ret (v:= .agg #[.bool s90x,.slice a90x n90x c90x,.bool s90y,.slice a90y n90y c90y,.bool s90z,.slice a90z n90z c90z]) (by simp [results,Tryz.results121,go_sem,L90xa,L90xb,L90ya,L90yb,L90za,L90zb]) rfl (⟨_,rfl,S.ext,⟨_,_,_,_,_,_,_,_,_,_,_,_,rfl,h90x,h90y,h90z⟩⟩)
def NwB (w:World) (v:Value):Prop:= ∀ g cs e fz,v.ownBlock=some g→w.heap[g]? =some (.cells cs e fz)→ ∀ u∈cs.toList,NoWord u
theorem NwB.nil (w:World):NwB w (.slice none 0 0):=fun _ _ _ _ h=>by cases h
theorem NwB.kept {w w':World} {v:Value} (h:NwB w v) (hg:∀ g,v.ownBlock=some g→w'.heap[g]? =w.heap[g]?):NwB w' v:=fun g cs e fz h1 h2=>h g cs e fz h1 ((hg g h1)▸h2)
theorem gr_of_grown {w w':World} {v:Value} (hg:w.grownBy w' v.ownBlock) (h:NwB w v):Gr w w':=by
  refine ⟨hg.size,fun p x hp=> ?_⟩;by_cases hb:some p.block=v.ownBlock
  · exfalso
    have hp2:=hp;unfold World.cell? at hp
    split at hp
    · rename_i c e fz ho
      split at hp
      · cases hp
      · have hm:(.int .u32 x:Value)∈c.toList:=by
          obtain ⟨hlt,he⟩:=Array.getElem?_eq_some_iff.1 hp;rw [← he];exact Array.getElem_mem_toList hlt
        exact h _ _ _ _ hb.symm ho _ hm x rfl
    · cases hp
  · exact hg.cell hp hb
theorem zero_nw {z:Array Value} (hz:∀ u∈z.toList,NoWord u) (n:Nat):∀ u∈(Builtin.zeroCells z n).toList,NoWord u:=by
  intro u hu;simp [Builtin.zeroCells] at hu;obtain ⟨j,hj,rfl⟩:=hu
  have h0 : 0 < z.size := by rcases Nat.eq_zero_or_pos z.size with h | h; · rw [h] at hj; omega
                             · exact h
  rw [getElem!_pos z _ (Nat.mod_lt _ h0)];exact hz _ (Array.getElem_mem_toList _)
section
variable {P:Program} (w:World)
theorem run_append_nw (base:Nat) (t ty e:TypeId) (i:TypeInfo) (z:Value) (size bytes:Nat) (ht:P.underlying t=some (.slice e)) (hi:P.info? e=some i) (hz:i.zero=some z)
    (hsize:i.size=size) (hby:i.bytes=bytes) (hzs:z.cells.size=size) (hsz:0<size) (hzn:∀ u∈z.cells.toList,NoWord u)
    (v:Value) (n:Nat) (xs:List Value) (hown:w.ownsRow base e size v n xs) (hnw:NwB w v)
    (a:Addr) (m c:Nat) (news:List Value) (hl:news.length=m*size) (hnews:∀ j u,news[j]? =some u→w.cell? (a.add j)=some u) (h1:∀ u∈news,u.oneCell'=true) (hnn:∀ u∈news,NoWord u)
    (h63:n+m≤maxLen) (hbytes:(n+m)*bytes≤140737488355328) (hbase:base≤w.heap.size):
    ∃ v' w',(Builtin.append_ #[t,t] ty #[v,.slice (some a) m c]).run P w= .ok v' w'∧w'.ownsRow base e size v' (n+m) (xs++news)∧w.grownBy w' v.ownBlock∧(v'.ownBlock=v.ownBlock∨v'.ownBlock=some w.heap.size)∧NwB w' v':=by
  obtain ⟨v',w',hr,h2,h3,h4,h5⟩:=run_append_own_at (P:=P) w base t ty e i z size bytes ht hi hz hsize hby hzs hsz v n xs hown a m c news hl hnews h1 h63 hbytes hbase;refine ⟨v',w',hr,h2,h3,h5,?_⟩;subst hsize;subst hby;have hsmall:n+m≤9223372036854775807:=by simp only [maxLen] at h63;omega
  rcases hown.2 with ⟨rfl,rfl⟩ | ⟨g,cap,cur,rfl,hbg,hg,hnc,hcm,hcs,htake⟩
  · by_cases hm:m=0
    · have:=(h4.2 ⟨rfl,hm⟩);subst this;exact NwB.nil _
    · have hr2:=run_append_nil (P:=P) w t ty e i z ht hi hz a m c news hl hnews (by omega) (by omega) (by have hb:=hbytes;simp only [Nat.zero_add] at hb;omega)
      rw [hr2] at hr;injection hr with e1 e2;subst e1;subst e2;intro g cs e' fz hb ho u hu;injection hb with hb;subst hb;rw [show (w.drew.alloc (.cells (news.toArray++Builtin.zeroCells z.cells (grownCap w m 0 e-m)) e)).heap[w.heap.size]? =some (.cells (news.toArray++Builtin.zeroCells z.cells (grownCap w m 0 e-m)) e) from heap_alloc_new w.drew _] at ho;injection ho with ho;injection ho with ho _ _;subst ho;rw [Array.toList_append,List.mem_append] at hu;rcases hu with hu | hu
      · exact hnn u (by simpa using hu)
      · exact zero_nw hzn _ u hu
  · have hcn:∀ u∈cur.toList,NoWord u:=hnw g cur e (0,0) rfl hg
    by_cases hroom:n+m≤cap
    · have hfit:n*i.size+news.length≤cur.size:=by rw [hl,hcs,← Nat.add_mul];exact Nat.mul_le_mul_right _ hroom
      have hr2:=run_append_room (P:=P) w t ty e i ht hi g n cap cur hg a m c news hl hnews h1 hroom hfit;rw [hr2] at hr;injection hr with e1 e2;subst e1;subst e2;intro g' cs e' fz hb ho u hu;injection hb with hb;subst hb;rw [setRow_heap w g cur _ e _ hg] at ho;injection ho with ho;injection ho with ho _ _;subst ho;simp only [List.mem_append] at hu;rcases hu with (hu | hu) | hu
      · exact hcn u (List.mem_of_mem_take hu)
      · exact hnn u hu
      · exact hcn u (List.mem_of_mem_drop hu)
    · have holds:∀ j u,xs[j]? =some u→w.cell? ((⟨g,0,none⟩:Addr).add j)=some u:=hown.cells (g:=g) rfl
      have hr2:=run_append_grow (P:=P) w t ty e i z ht hi hz ⟨g,0,none⟩ n cap xs hown.1 holds a m c news hl hnews (by omega) (by omega) (growslice_fits (by omega) hbytes);rw [hr2] at hr;injection hr with e1 e2;subst e1;subst e2;intro g' cs e' fz hb ho u hu;injection hb with hb;subst hb;rw [show (w.drew.alloc (.cells (xs.toArray++news.toArray++Builtin.zeroCells z.cells (grownCap w (n+m) cap e-(n+m))) e)).heap[w.heap.size]? =some (.cells (xs.toArray++news.toArray++Builtin.zeroCells z.cells (grownCap w (n+m) cap e-(n+m))) e) from heap_alloc_new w.drew _] at ho;injection ho with ho;injection ho with ho _ _;subst ho;rw [Array.toList_append,Array.toList_append,List.mem_append,List.mem_append] at hu;rcases hu with (hu | hu) | hu
      · have hu:u∈xs:=by simpa using hu
        rw [← htake] at hu;exact hcn u (List.mem_of_mem_take hu)
      · exact hnn u (by simpa using hu)
      · exact zero_nw hzn _ u hu
end
theorem wpl_rwn {P:Program} {w:World} {ops:Array Oper} {rest:List Oper} {o:Oper} {a:Act} {Q:Exit→Act→World→Prop} (hgd:o.guard=none) (s x:Operand) (t:TypeId)
    (ho:o.op= .call { callee:= .builtin .append,args:= #[s,x],argTypes:= #[t,t]}) (base e:Nat) (z:Value) (k bytes:Nat) (ht:P.underlying t=some (.slice e)) (hinfo:(P.info? e).map (fun i=>(i.zero,i.size,i.bytes))=some (some z,k,bytes))
    (hzs:z.cells.size=k) (hk:0<k) (hzn:∀ u∈z.cells.toList,NoWord u) (v:Value) (n:Nat) (xs:List Value) (hs:a.eval s=v) (hown:Rwg e k base w v n xs) (hnw:NwB w v) (g m c:Nat) (news:List Value) (hx:a.eval x= .slice (some ⟨g,0,none⟩) m c) (hl:news.length=m*k)
    (hnews:∀ j u,news[j]? =some u→w.cell? ⟨g,j,none⟩=some u) (h1:∀ u∈news,u.oneCell'=true) (hnn:∀ u∈news,NoWord u) (h63:n+m≤140737488355328) (hbytes:(n+m)*bytes≤140737488355328) (hbase:base≤w.heap.size)
    (h:∀ v' w',Rwg e k base w' v' (n+m) (xs++news)→NwB w' v'→w.grownBy w' v.ownBlock→Gr w w'→Below base w w'→(v'.ownBlock=v.ownBlock∨v'.ownBlock=some w.heap.size)→wpList P ops Q rest (a.put o.dst v') w'):
    wpList P ops Q (o ::rest) a w:=by
  obtain ⟨i,hi,hz0,hz1,hz2⟩:=info_parts hinfo;refine wpList_plain hgd fun K hK=> ?_
  obtain ⟨v',w',hr,h2,h3,h5,h6⟩:=run_append_nw (P:=P) w base t o.type e i z k bytes ht hi hz0 hz1 hz2 hzs hk hzn v n xs hown hnw ⟨g,0,none⟩ m c news hl (fun j u hj=>by cases j <;> simpa [Addr.add] using hnews _ u hj) h1 hnn (by unfold maxLen;omega) hbytes hbase;unfold Oper.wp execOp;simp only [ho,resolve,invoke,builtin,Sem.run_bind,Sem.run_pure,Result.andThen_ok,List.map_toArray,List.map_cons,List.map_nil,hs,hx,hr];refine hK _ _ (h v' w' h2 h6 h3 (gr_of_grown h3 hnw) ((Below.refl base w).grown h3 hbase fun b hb=> ?_) h5);obtain ⟨_,⟨hv,_⟩ | ⟨g,cap,cur,hv,hb2,_⟩⟩:=hown
  · rw [hv] at hb;cases hb
  · rw [hv] at hb;cases hb;exact hb2
end Go.Proofs.YtknffgdbdadpcaaGreatDoor
