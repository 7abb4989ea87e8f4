/-
 Package count: the list of the reduced primitive forms. (Printed by wip/gen/cntl.py.)
 Package count: Reduced; rows of forms as they read. (Printed by wip/gen/den26.py.)
 The law DensityDirichlet: its walk. (Printed by wip/gen/law41.py.)
-/
import Derived.Test.YtknffgdbdadpcaaGreatDoorRwn
import Derived.Test.YtknffgdbdadpcaaGreatDoorRfd
import Derived.Test.YtknffgdbdadpcaaGreatDoorDen17
import Derived.Test.YtknffgdbdadpcaaGreatDoorDen24
namespace Go.Proofs.YtknffgdbdadpcaaGreatDoor
open Go Go.RowKit
open Go.Proofs.Tryz
set_option maxRecDepth 100000
set_option maxHeartbeats 8000000
attribute [local go_sem] Oper.semAt_some
theorem rgsI {l n':Nat} {P:Program} {ops:Array Oper} {Q:Exit→Act→World→Prop} {a0:Act} {w0:World} (n:Nat) (ds:List (Option Tmp)) (L:List (Value→World→Prop)) (boxes:List Nat) {id:Nat} (hQ:¬ LetsOut Q)
  (hop:RgAll P .any ops Q ds a0 w0 L boxes 0 n ops.toList)
  (hend:∀ v w,Ext w0 w→(∀ i,i<n→L.getD i (fun _ _=>True) (v i) w)→(∀ i j,i∈boxes→j∈boxes→i<n→j<n→i≠j→v i≠v j)→
   wpList P ops Q (ops.toList.drop n) (layL v a0 0 ds) w)
  (hn:n≤ops.size:=by decide) (hds:(List.range n).map (dstOf ops)=ds:=by kernel_rfl) (hap:dstsApart ops n=true:=by kernel_rfl) (htp:backOk ops n=true:=by kernel_rfl)
  (hst:AllStb L:=by repeat' (first | exact trivial | exact IsV.stb _ | exact IsW.stb _ | exact IsI.stb _ _ | exact IsBo.stb _ _ | exact IsR.stb _ _ | exact IsMag.stb _ _ | exact IsPos.stb | apply IsJ.stb | apply IsQ.stb | apply IsT3.stb | apply IsT2.stb | apply And.intro)) (hbx:AllBox L boxes:=by repeat' (first | exact trivial | exact IsBo.box _ _ | apply And.intro)) (hnd:noDefer ops=true:=by kernel_rfl):
  (Code.region id ops false).wpIn (Fence.wide.inRound l) n' P Q a0 w0:=by
 refine region_roundS hQ hnd ?_;simp only [backOk,List.all_eq_true,List.mem_range,decide_eq_true_eq] at htp;have:=wp_list_rg n L boxes ds hn hds hap htp hst hbx.get hop hend n 0 (slotVal ops a0) w0 (by omega) (Ext.refl _) (fun i hi=>by omega) (fun i j hi=>by omega);have hlay:layN ops (slotVal ops a0) a0 n=a0:=layN_self a0 n
 rwa [hlay,List.drop_zero] at this
section
variable {ops:Array Oper} {Q:Exit→Act→World→Prop} {ds:List (Option Tmp)} {a0:Act} {w0:World} {L:List (Value→World→Prop)} {boxes:List Nat} {i:Nat} {o:Oper}
theorem ldT {b:Nat} {u1 u2 u3:Int} {x:Operand} (h0:∀ w,Ext w0 w→World.cell? w ⟨b,0,none⟩=some (.int .i64 u1)) (h1:∀ w,Ext w0 w→World.cell? w ⟨b,1,none⟩=some (.int .i64 u2)) (h2:∀ w,Ext w0 w→World.cell? w ⟨b,2,none⟩=some (.int .i64 u3)) (hx:Od ops ds a0 w0 L i x (IsV (.pointer (some ⟨b,0,none⟩)))) (ho:o.op= .load 159 x:=by rfl) (hi:L.getD i (fun _ _=>True)=IsV (.agg #[.int .i64 u1,.int .i64 u2,.int .i64 u3]):=by kernel_rfl) (hb:boxes.contains i=false:=by kernel_rfl):Ok prog ops Q ds a0 w0 L boxes i o:=
 Ok.of hb fun v a w hE hd hf=>by
  have h:a.eval x=_:=hx.out v a w hE hd hf;have k0:=h0 w hE;have k1:=h1 w hE;have k2:=h2 w hE;exact ⟨_,ld_run ho h (show (Instr.loadAt 159 (.pointer (some ⟨b,0,none⟩))).run prog w= .ok (.agg #[.int .i64 u1,.int .i64 u2,.int .i64 u3]) w by go_simp),by rw [hi];exact rfl⟩
theorem ldFn {b:Addr} {f:Fn} {u c:Array Value} {x:Operand} (hc:∀ w,Ext w0 w→World.cell? w b=some (.func f u c)) (hx:Od ops ds a0 w0 L i x (IsV (.pointer (some b)))) (ho:o.op= .load 60 x:=by rfl) (hi:L.getD i (fun _ _=>True)=IsV (.func f u c):=by kernel_rfl) (hb:boxes.contains i=false:=by kernel_rfl):Ok prog ops Q ds a0 w0 L boxes i o:=
 Ok.of hb fun v' a w hE hd hf=>by
  have h:a.eval x=_:=hx.out v' a w hE hd hf;have hcell:=hc w hE;exact ⟨_,ld_run ho h (show (Instr.loadAt 60 (.pointer (some b))).run prog w= .ok (.func f u c) w by go_simp),by rw [hi];exact rfl⟩
end
def FrAt (xs:List Value) (w:World) (j:Nat) (f:Int×Int×Int):Prop:=
 ∃ s a n c s' a' n' c' s2 a2 n2 c2,xs[6*j]? =some (.bool s)∧xs[6*j+1]? =some (.slice a n c)∧xs[6*j+2]? =some (.bool s')∧xs[6*j+3]? =some (.slice a' n' c')∧xs[6*j+4]? =some (.bool s2)∧xs[6*j+5]? =some (.slice a2 n2 c2)∧
  IsI 2 f.1 (.agg #[.bool s,.slice a n c]) w∧IsI 2 f.2.1 (.agg #[.bool s',.slice a' n' c']) w∧IsI 2 f.2.2 (.agg #[.bool s2,.slice a2 n2 c2]) w
theorem FrAt.gr {xs:List Value} {w w':World} {j:Nat} {f:Int×Int×Int} (h:FrAt xs w j f) (g:Gr w w'):FrAt xs w' j f:=
 let ⟨s,a,n,c,s',a',n',c',s2,a2,n2,c2,h0,h1,h2,h3,h4,h5,k1,k2,k3⟩:=h
 ⟨s,a,n,c,s',a',n',c',s2,a2,n2,c2,h0,h1,h2,h3,h4,h5,IsI.gstb _ _ _ _ _ g k1,IsI.gstb _ _ _ _ _ g k2,IsI.gstb _ _ _ _ _ g k3⟩
def FRow (base:Nat) (w:World) (v:Value) (fs:List (Int×Int×Int)):Prop:=
 ∃ xs,Rwg 62 6 base w v fs.length xs∧NwB w v∧ ∀ j f,fs[j]? =some f→FrAt xs w j f
theorem FRow.nil (base:Nat) (w:World):FRow base w (.slice none 0 0) []:=⟨[],Rwg.nil _ _ _ _,NwB.nil w,fun j f h=>by simp at h⟩
theorem Rwg.same {e k base n:Nat} {w w':World} {v:Value} {xs:List Value} (h:Rwg e k base w v n xs) (hg:∀ g,v.ownBlock=some g→w'.heap[g]? =w.heap[g]?):Rwg e k base w' v n xs:=by
 obtain ⟨h1,h2 | ⟨g,cap,cur,hv,hb,ho,hr⟩⟩:=h
 ·exact ⟨h1,.inl h2⟩
 ·exact ⟨h1,.inr ⟨g,cap,cur,hv,hb,(hg g (by rw [hv];rfl)).trans ho,hr⟩⟩
theorem FRow.gr {base:Nat} {w w':World} {v:Value} {fs:List (Int×Int×Int)} (h:FRow base w v fs) (g:Gr w w') (hg:∀ g,v.ownBlock=some g→w'.heap[g]? =w.heap[g]?):FRow base w' v fs:=
 let ⟨xs,h1,h2,h3⟩:=h;⟨xs,h1.same hg,h2.kept hg,fun j f hj=>(h3 j f hj).gr g⟩
theorem FRow.lt {base:Nat} {w:World} {v:Value} {fs:List (Int×Int×Int)} (h:FRow base w v fs):∀ g,v.ownBlock=some g→g<w.heap.size∧base≤g∧ ∃ o:Obj,w.heap[g]? =some o∧o.isCells=true:=fun g hg=>by
 obtain ⟨xs,⟨_,⟨hv,_⟩ | ⟨g',cap,cur,hv,hb,ho,_⟩⟩,_⟩:=h
 ·rw [hv] at hg;cases hg
 ·rw [hv] at hg;injection hg with hg;subst hg;exact ⟨(Array.getElem?_eq_some_iff.1 ho).1,hb,_,ho,rfl⟩
theorem FRow.ext {base:Nat} {w w':World} {v:Value} {fs:List (Int×Int×Int)} (h:FRow base w v fs) (e:Ext w w'):FRow base w' v fs:=h.gr e.gr fun g hg=>e.block g (h.lt g hg).1
def FmI (g8 g1 n0 base:Nat) (W0:World) (pre:List (Int×Int×Int)) (W:World):Prop:=
 (∃ v,(W.cell? ⟨g8,0,none⟩=some v∧W.frozen? ⟨g8,0,none⟩=false)∧FRow base W v (pre.filter fmPrim))∧W.cell? ⟨g1,0,none⟩=some (.func (.func 68) #[] #[])∧Below n0 W0 W
theorem gr_kept {W W':World} {row:Option Nat} (hg:W.grownBy W' row) (hr:∀ r,row=some r→ ∃ o:Obj,W.heap[r]? =some o∧o.isCells=false):Gr W W':=⟨hg.size,fun _ _ hp=>cell_kept hp hg hr⟩
theorem fmI_own {g8 g1 n0 base B:Nat} {W0:World} (h0:n0≤W0.heap.size) (hB:n0≤B):OwnFrom B (FmI g8 g1 n0 base W0):=by
 rintro pre W W' row ⟨⟨v,⟨hv,hf⟩,hr⟩,h1,h2⟩ hg hrow;have hr':∀ r,row=some r→ ∃ o:Obj,W.heap[r]? =some o∧o.isCells=false:=fun r e=>(hrow r e).2
 refine ⟨⟨v,⟨cell_kept hv hg hr',(frozen_kept hv hg hr').trans hf⟩,hr.gr (gr_kept hg hr') fun g hgv=> ?_⟩,cell_kept h1 hg hr',ownFrom_below (β:=Unit) h0 hB () _ _ _ h2 hg hrow⟩;obtain ⟨_,_,o,ho,hc⟩:=hr.lt g hgv;exact grownBy_keeps_cells hg hr' ho hc
theorem infoFrm:(prog.info? 62).map (fun i=>(i.zero,i.size,i.bytes))=some (some (.agg #[.bool false,.slice none 0 0,.bool false,.slice none 0 0,.bool false,.slice none 0 0]),6,96):=by kernel_rfl
theorem zFrm_nw:∀ u∈(Value.agg #[.bool false,.slice none 0 0,.bool false,.slice none 0 0,.bool false,.slice none 0 0]).cells.toList,NoWord u:=by
 intro u hu;simp [Value.cells] at hu;rcases hu with rfl | rfl | rfl | rfl | rfl | rfl <;> first | exact NoWord.bool _ | exact NoWord.slice _ _ _
theorem six_nw (t0 t1 t2:Bool) (u0 u1 u2:Option Addr) (m0 d0 m1 d1 m2 d2:Nat):∀ u∈ [Value.bool t0,.slice u0 m0 d0,.bool t1,.slice u1 m1 d1,.bool t2,.slice u2 m2 d2],NoWord u:=by
 intro u hu;simp at hu;rcases hu with rfl | rfl | rfl | rfl | rfl | rfl <;> first | exact NoWord.bool _ | exact NoWord.slice _ _ _
theorem list_f {k1 n:Nat} {x0:Value} {w:World} (hx:IsI k1 (-(n:Int)) x0 w) (l1:k1≤16777216) (hn:1≤n∧n≤4096∧(n%4=0∨n%4=3)):
  Calls prog 67 #[x0,.func (.func 68) #[] #[]] w (Ret w fun r W'=> ∃ v,r= .tuple #[v,.int .i64 0]∧FRow w.heap.size W' v ((fmA (n:Int) (n+1) 1).filter fmPrim)):=by
 have HN:=hid hn;have HK:=hid l1;obtain ⟨s1,a1,n1,c1,rfl,h1⟩:=hx;have h1:IsI k1 (-(n:Int)) (.agg #[.bool s1,.slice a1 n1 c1]) w:=⟨_,_,_,_,rfl,h1⟩;clear hn l1;refine calls_of_wp_marks func67 rfl ?_;simp only [ntmps67,List.size_toArray,List.length_cons,List.length_nil,Nat.reduceAdd,Nat.reduceSub,Array.replicate_succ,Array.replicate_zero,List.push_toArray,List.append_toArray,List.nil_append,List.cons_append];go_wp2_with (first | (go_at_call 74;go_must (refine Calls.mono (csize_f (IsI.ext h1 (((Ext.refl _).alloc _).alloc _)) HK.out ⟨HN.out.1,by have:=HN.out.2.1;omega,HN.out.2.2⟩) ?_;rintro e w1 ⟨_,rfl,E1,_,_,rfl,rfl,rfl⟩)) | (go_at_call 120;go_must (refine Calls.mono (forms_c _ n) ?_;rintro e w2 ⟨rfl,rfl⟩)))
 obtain ⟨W,hW⟩:∃ W,(w1.alloc (.cells #[.slice none 0 0] 57)).alloc (.cells #[.int .i64 (n:Int)] 2)=W:=⟨_,rfl⟩;obtain ⟨g8,hg8⟩:∃ g,w1.heap.size=g:=⟨_,rfl⟩;have hWs:W.heap.size=g8+2:=by rw [← hW,← hg8];simp
 have hw1:w.heap.size+2≤g8:=by have:=E1.size;rw [← hg8];simpa using this
 have E:Ext w W:=by rw [← hW];exact ((Below.trans (((Ext.refl _).alloc _).alloc _) (E1.mono (by simp;omega))).alloc (by omega) _).alloc (by simp;omega) _
 have CF:W.cell? ⟨w.heap.size+1,0,none⟩=some (.func (.func 68) #[] #[]):=by
  rw [← hW];refine (((Ext.refl w1).alloc _).alloc _).cell (p:=⟨w.heap.size+1,0,none⟩) (E1.cell (p:=⟨w.heap.size+1,0,none⟩) ?_);exact cell_newAt _ _ (by simp) _ _ _ _ rfl
 have I0:FmI g8 (w.heap.size+1) w.heap.size W.heap.size W [] W:=by
  refine ⟨⟨.slice none 0 0,?_,FRow.nil _ _⟩,CF,Below.refl _ _⟩;rw [← hW,← hg8];constructor
  ·exact ((Ext.refl _).alloc _).cell (p:=⟨w1.heap.size,0,none⟩) (cell_newAt _ _ rfl _ _ _ _ rfl)
  ·simp
 have hc:W.cell? ⟨g8+1,0,none⟩=some (.int .i64 (n:Int)):=by
  have:=cell_newAt (w1.alloc (.cells #[.slice none 0 0] 57)) (g8+1) (by simp [hg8]) #[.int .i64 (n:Int)] 2 0 _ rfl;rw [hW] at this;exact this
 have hX:=forms1_in Fence.wide 8 trivial rfl dcx W (g8+1) n (by have:=HN.out;omega) hc;rw [hW,hg8];clear hW
 refine wpIn_wide.1 (wpIn_rangeFunc_boxA (n:=9) rfl dcx (gf:=157) (lb:= #[.pointer (some ⟨g8+1,0,none⟩)]) rfl trivial (en func157) (c:=g8+1) (by omega)
  hX (fun _=>rfl)
  (FmI g8 (w.heap.size+1) w.heap.size W.heap.size W) (fun _ _ _=>False)
  (fmI_own (by have:=E.size;omega) (by have:=E.size;omega)) (fun _ _ _ _ _ h _ _=>h) I0
  (fun x=> .cells #[.int .i64 x.1,.int .i64 x.2.1,.int .i64 x.2.2] 159)
  (fun x b=> { tmps:= #[.agg #[.bool s1,.slice a1 n1 c1],.func (.func 68) #[] #[],.pointer (some ⟨w.heap.size,0,none⟩),.pointer (some ⟨w.heap.size+1,0,none⟩),.slice none 0 0,.int .i64 0,.int .i64 (n:Int),.int .i64 0,.pointer (some ⟨g8,0,none⟩),.pointer (some ⟨b,0,none⟩),undef,.tuple #[.int .i64 (n:Int),.int .i64 0],.agg #[.bool s1,.slice a1 n1 c1],.tuple #[.int .i64 (n:Int),.int .i64 0],.int .i64 (n:Int),.int .i64 0,.int .i64 0,.bool false,undef,.int .i64 (n:Int),.func (.func 157) #[] #[.pointer (some ⟨g8+1,0,none⟩)],.agg #[.int .i64 x.1,.int .i64 x.2.1,.int .i64 x.2.2],undef,undef,undef,undef,undef,undef,undef,undef,undef,undef],defers:= []}) ?_ ?_ ?_ ?_)
 ·intro l x W' K hK
  gi_wp2
  exact hK
 ·intro l pre x W' b hI hp hb hbo;have hx:x∈fmA n (n+1) 1:=hp.mem (by simp);obtain ⟨hx1,hx2,hx3⟩:=fm_box HN.out.2.1 hx;have HB:=hid (show (-9223372036854775808≤x.1∧x.1≤9223372036854775807)∧(-9223372036854775808≤x.2.1∧x.2.1≤9223372036854775807)∧(-9223372036854775808≤x.2.2∧x.2.2≤9223372036854775807) by omega);have C0:World.cell? W' ⟨b,0,none⟩=some (.int .i64 x.1):=by simp [World.cell?,hbo]
  have C1:World.cell? W' ⟨b,1,none⟩=some (.int .i64 x.2.1):=by simp [World.cell?,hbo]
  have C2:World.cell? W' ⟨b,2,none⟩=some (.int .i64 x.2.2):=by simp [World.cell?,hbo]
  have HI:=hid hI;replace CF:=hI.2.1;obtain ⟨bb,hbb⟩:∃ t,fmPrim x=t:=⟨_,rfl⟩;have HPX:=hid hbb;have hlen0:=List.length_filter_le fmPrim pre;have hlen1:=hp.length_le;have hlen2:=fmA_len (n:=(n:Int)) (by have:=HN.out.2.1;omega) (n+1) 1 dcx;have HLEN:=hid (show (pre.filter fmPrim).length≤100000 by simp at hlen1;omega);clear hx hx1 hx2 hx3 hbb hp hI hlen0 hlen1 hlen2 hX I0 hc;refine wpIn_block (wpIn_seq ?_);have S:Sto W' W' []:=Sto.start W';have hl:=hid S.lt;have hw:=S.ext.size;refine rgsI (hQ:=not_out_then (not_out_block not_out_box _) _) 3 [some 22,some 23,some 10] [IsV (.agg #[.int .i64 x.1,.int .i64 x.2.1,.int .i64 x.2.2]),IsF (IsI 2 x.1) (IsI 2 x.2.1) (IsI 2 x.2.2),IsBo W' 3] [2] ?_ ?_ (hst:=by repeat' (first | exact trivial | apply IsIf.stb | exact IsV.stb _ | exact IsI.stb _ _ | apply IsJ.stb | apply IsQ.stb | apply IsF.stb | apply IsT2.stb | apply IsT3.stb | exact IsBo.stb _ _ | apply And.intro))
  ·refine Rc (ldT (fun w e=>Ext.cell e C0) (fun w e=>Ext.cell e C1) (fun w e=>Ext.cell e C2) (Od.lit 9)) ?_;refine Rc (cl1 (en func121) (Od.lc (Φ:=IsV (.agg #[.int .i64 x.1,.int .i64 x.2.1,.int .i64 x.2.2])) 0 22) (fun x0 w' hE d0=>by { obtain rfl:x0= .agg #[.int .i64 x.1,.int .i64 x.2.1,.int .i64 x.2.2]:=d0;exact form_f _ x.1 x.2.1 x.2.2 HB.out})) ?_;refine Rc (al al_Frm) ?_;exact rn0
  intro v W1 e1 hΦ _;replace S:=S.mono e1;have h23:=hΦ 1 dcx;obtain ⟨g10,v2,q2,b1,_⟩:=(hΦ 2 dcx:IsBo W' 3 (v 2) W1);replace S:=S.addN 3 (ApartO.old hl.out q2) (Nat.le_trans hw q2) b1;simp only [newF,List.cons_append,List.nil_append] at S;simp only [lxE,Nat.reduceAdd];rw [v2];clear b1 hl hw v2 hΦ e1
  try simp only [dxE]
  (with_reducible refine stL ?_ (by rfl));intro KK hKK;refine stF S 2 1 0 (g10) 0 h23 (IsI.gstb _ _) (IsI.gstb _ _) (IsI.gstb _ _) st_Frm (fun W2 S2 G2=>hKK _ _ ?_) rfl rfl rfl
  replace S:=S2;clear S2 G2 hKK KK h23;simp only [u0x,u1x] at S;refine wpList_nil ?_;show (Code.seq _ _).wpIn _ _ _ _ _ _;refine wpIn_seq ?_;refine rgsI (hQ:=not_out_then (not_out_block not_out_box _) _) 3 [some 24,some 25,some 26] [IsV (.func (.func 68) #[] #[]),IsF (IsI 2 x.1) (IsI 2 x.2.1) (IsI 2 x.2.2),IsV (.bool bb)] [] ?_ ?_ (hst:=by repeat' (first | exact trivial | apply IsIf.stb | exact IsV.stb _ | exact IsI.stb _ _ | apply IsJ.stb | apply IsQ.stb | apply IsF.stb | apply IsT2.stb | apply IsT3.stb | exact IsBo.stb _ _ | apply And.intro))
  ·refine Rc (ldFn (fun w e=>Ext.cell (S.ext.trans e) CF) (Od.lit 3)) ?_;refine Rc (ldF S 2 1 0 (g10) 0 (Od.lit 10) ld_Frm rfl rfl rfl) ?_;refine Rc (cv1 (en func68) (Od.loc 0 24) (Od.lc (Φ:=IsF (IsI 2 x.1) (IsI 2 x.2.1) (IsI 2 x.2.2)) 1 25) (fun x0 w' hE d0=>(by have hh:=qPrim_f d0;rw [show (x.1,x.2.1,x.2.2)=x from rfl,HPX.out] at hh;exact hh))) ?_;exact rn0
  intro v W3 e1 hΦ _;replace S:=S.mono e1;have v2:v 2= .bool bb:=hΦ 2 dcx;simp only [lxE,Nat.reduceAdd];rw [v2];clear v2 hΦ e1;refine wpList_nil ?_;show (Code.cond _ _ _).wpIn _ _ _ _ _ _;have E3:=S.ext;obtain ⟨⟨v,⟨hv,hvf⟩,xs,hr,hnw,hfr⟩,_,hbl⟩:=HI.out;have Lv:=E3.cell hv;have Fv:=(E3.frozen (p:=⟨g8,0,none⟩) (World.block_lt_of_cell? W' _ hv)).trans hvf;have hW8:=hbl.size;cases bb with
  | true=>
   obtain ⟨t0,u0,m0,d0,B0,k0⟩:=S.at 2 g10 0 _ rfl;obtain ⟨t1,u1,m1,d1,B1,k1'⟩:=S.at 1 g10 1 _ rfl;obtain ⟨t2,u2,m2,d2,B2,k2⟩:=S.at 0 g10 2 _ rfl;have L0:=B0.c0;have L1:=B0.c1;have L2:=B1.c0;have L3:=B1.c1;have L4:=B2.c0;have L5:=B2.c1;simp only [Nat.reduceMul,Nat.reduceAdd,Nat.mul_zero,Nat.zero_add] at L0 L1 L2 L3 L4 L5;obtain ⟨ao,cap,rfl,hnc,hcm,hxl,hsh⟩:=hr.shape;refine wpIn_cond (t:=true) rfl ?_;show (Code.region _ _ _).wpIn _ _ _ _ _ _;refine region_roundS (not_out_block not_out_box _) (by kernel_rfl) ?_;have hlen:=HLEN.out;have hs3:=E3.size;go_wp2_with (at_builtin;go_must (refine wpl_rwn rfl _ _ 57 rfl W.heap.size 62 _ 6 96 (by kernel_rfl) infoFrm rfl dcx zFrm_nw _ _ _ rfl (hr.ext (E3.alloc _)) (hnw.kept fun g hg=>(E3.alloc _).block g (FRow.lt ⟨xs,hr,hnw,hfr⟩ g hg).1) _ 1 _ [.bool t0,.slice u0 m0 d0,.bool t1,.slice u1 m1 d1,.bool t2,.slice u2 m2 d2] rfl rfl (cells_newE _ _ _ _ (by simp)) (by simp [Value.oneCell']) (six_nw _ _ _ _ _ _ _ _ _ _ _ _) (by omega) (by omega) (by simp;omega) ?_;intro v9 w9 hr9 hn9 hg9 hG9 hb9 _;obtain ⟨ao9,cap9,rfl,_,_,_,_⟩:=hr9.shape;have Lg9:w9.cell? ⟨g8,0,none⟩=some (.slice ao _ cap):=(hb9.cell (p:=⟨g8,0,none⟩) (by show g8<W.heap.size;omega)).trans (((Ext.refl W3).alloc _).cell (p:=⟨g8,0,none⟩) Lv);have Fg9:w9.frozen? ⟨g8,0,none⟩=false:=(hb9.frozen (p:=⟨g8,0,none⟩) (by show g8<W.heap.size;omega)).trans ((((Ext.refl W3).alloc _).frozen (p:=⟨g8,0,none⟩) (World.block_lt_of_cell? W3 _ Lv)).trans Fv)))
   have hcells:∀ (j:Nat) (o:Obj),Value.ownBlock (.slice ao (pre.filter fmPrim).length cap)=some j→(W3.alloc (.cells #[.bool t0,.slice u0 m0 d0,.bool t1,.slice u1 m1 d1,.bool t2,.slice u2 m2 d2] 62)).heap[j]? =some o→o.isCells=true:=fun j o hj ho=>by
    obtain ⟨_,_,o',ho',hc'⟩:=FRow.lt ⟨xs,hr,hnw,hfr⟩ j hj;have:=(E3.alloc (.cells #[.bool t0,.slice u0 m0 d0,.bool t1,.slice u1 m1 d1,.bool t2,.slice u2 m2 d2] 62)).block j (Array.getElem?_eq_some_iff.1 ho').1;rw [ho,ho'] at this;injection this with this;subst this;exact hc'
   have K1:KeepsOthers W' w9:=((ext_keeps E3).trans (KeepsOthers.alloc _ _)).trans (KeepsOthers.of_grownBy hg9 hcells);have hfl:(pre++ [x]).filter fmPrim=pre.filter fmPrim++ [x]:=by rw [List.filter_append,List.filter_cons_of_pos HPX.out];simp
   have hG:Gr W3 (w9.setCell ⟨g8,0,none⟩ (.slice ao9 ((pre.filter fmPrim).length+1) cap9)):=(((Ext.refl W3).alloc _).gr.trans hG9).set Lg9 (NoWord.slice _ _ _) _
   have hoth:∀ g,Value.ownBlock (.slice ao9 ((pre.filter fmPrim).length+1) cap9)=some g→(w9.setCell ⟨g8,0,none⟩ (.slice ao9 ((pre.filter fmPrim).length+1) cap9)).heap[g]? =w9.heap[g]? :=fun g hg=>by
    obtain ⟨_,⟨hv',_⟩ | ⟨g',_,_,hv',hb',_⟩⟩:=hr9
    ·rw [hv'] at hg;cases hg
    ·rw [hv'] at hg;injection hg with hg;have hg:g'=g:=hg;subst hg;exact setCell_heap w9 _ _ _ (by omega)
   refine boxPost_norm ((K1.trans (KeepsOthers.setCell _ _ _)).from _) ?_ ?_
   ·exact (setCell_heap w9 _ _ _ (by omega)).trans ((hb9.block _ (by omega)).trans ((E3.alloc _).block _ (by omega)))
   ·refine ⟨⟨.slice ao9 ((pre.filter fmPrim).length+1) cap9,⟨World.cell?_setCell_same' _ _ _ (by rw [Lg9];rfl),by rw [World.frozen?_setCell];exact Fg9⟩,?_⟩,?_,?_⟩
    ·rw [hfl];refine ⟨xs++ [.bool t0,.slice u0 m0 d0,.bool t1,.slice u1 m1 d1,.bool t2,.slice u2 m2 d2],?_,hn9.kept hoth,fun j f hj=> ?_⟩
     ·rw [List.length_append];exact hr9.same hoth
     ·rcases Nat.lt_or_ge j (pre.filter fmPrim).length with hjl | hjl
      ·rw [List.getElem?_append_left hjl] at hj;obtain ⟨s,a,n,c,s',a',n',c',s2,a2,n2,c2,e0,e1,e2,e3,e4,e5,f1,f2,f3⟩:=((hfr j f hj).gr E3.gr).gr hG;have hl:xs.length=(pre.filter fmPrim).length*6:=hxl;exact ⟨s,a,n,c,s',a',n',c',s2,a2,n2,c2,by rw [List.getElem?_append_left (by omega)];exact e0,by rw [List.getElem?_append_left (by omega)];exact e1,by rw [List.getElem?_append_left (by omega)];exact e2,by rw [List.getElem?_append_left (by omega)];exact e3,by rw [List.getElem?_append_left (by omega)];exact e4,by rw [List.getElem?_append_left (by omega)];exact e5,f1,f2,f3⟩
      ·have hl:xs.length=(pre.filter fmPrim).length*6:=hxl
       have hj0:j=(pre.filter fmPrim).length:=by
        have h9:=(List.getElem?_eq_some_iff.1 hj).1;rw [List.length_append] at h9;simp only [List.length_cons,List.length_nil] at h9;omega
       subst hj0;rw [List.getElem?_append_right (Nat.le_refl _)] at hj;simp only [Nat.sub_self,List.getElem?_cons_zero,Option.some.injEq] at hj;subst hj
       have h6:∀ i,(xs++ [Value.bool t0,.slice u0 m0 d0,.bool t1,.slice u1 m1 d1,.bool t2,.slice u2 m2 d2])[6*(pre.filter fmPrim).length+i]? = [Value.bool t0,.slice u0 m0 d0,.bool t1,.slice u1 m1 d1,.bool t2,.slice u2 m2 d2][i]? :=fun i=>by
        rw [List.getElem?_append_right (by omega)];congr 1;omega
       exact ⟨t0,u0,m0,d0,t1,u1,m1,d1,t2,u2,m2,d2,h6 0,h6 1,h6 2,h6 3,h6 4,h6 5,IsI.gstb _ _ _ _ _ hG k0,IsI.gstb _ _ _ _ _ hG k1',IsI.gstb _ _ _ _ _ hG k2⟩
    ·rw [World.cell?_setCell_other _ _ _ _ (by intro h;injection h with h;omega)];exact (hb9.cell (p:=⟨w.heap.size+1,0,none⟩) (by show w.heap.size+1<W.heap.size;omega)).trans ((E3.alloc _).cell (p:=⟨w.heap.size+1,0,none⟩) HI.out.2.1)
    ·exact ((hbl.trans ((E3.alloc _).mono (by have:=E.size;omega))).trans (hb9.mono (by have:=E.size;omega))).setCell (by show w.heap.size≤g8;omega) _
  | false=>
   gi_wp2
   refine boxPost_norm ((ext_keeps E3).from _) (E3.block _ (by omega)) ?_;have hfl:(pre++ [x]).filter fmPrim=pre.filter fmPrim:=by rw [List.filter_append,List.filter_cons_of_neg (by rw [HPX.out];decide)];simp
   refine ⟨⟨v,⟨Lv,Fv⟩,?_⟩,E3.cell (p:=⟨w.heap.size+1,0,none⟩) HI.out.2.1,hbl.trans (E3.mono (by have:=E.size;omega))⟩;rw [hfl];exact FRow.ext ⟨xs,hr,hnw,hfr⟩ E3
 ·rintro D xs W' hD rfl hI hK;obtain ⟨⟨v,⟨Lg,Fg⟩,hrow⟩,_,hbl⟩:=hI;have E6:Ext w W':=Below.trans E hbl;obtain ⟨ys,hr,hnw,hfr⟩:=hrow;obtain ⟨ao,cap,rfl,_,_,_,_⟩:=hr.shape;go_wp2_with fail;have hgr:W'.grownBy (W'.putObj D (.deferred none)) (some D):=grownBy_putObj' W' D _;have hnc:∀ r,some D=some r→ ∃ o:Obj,W'.heap[r]? =some o∧o.isCells=false:=fun r e=>by cases e;exact ⟨_,hK,rfl⟩
  have hfin:Ext w (W'.putObj D (.deferred none)):=Below.trans E6 (belowK_b (w:=w) (Nat.le_refl _) W' D _ _ (by have:=E.size;omega) hK rfl rfl)
  have hrow:FRow w.heap.size (W'.putObj D (.deferred none)) (.slice ao ((fmA (n:Int) (n+1) 1).filter fmPrim).length cap) ((fmA (n:Int) (n+1) 1).filter fmPrim):=by
   refine FRow.gr ⟨ys,hr.base (by have:=E.size;omega),hnw,hfr⟩ (gr_kept hgr hnc) fun g hg=> ?_
   obtain ⟨_,_,o,ho,hc⟩:=FRow.lt ⟨ys,hr,hnw,hfr⟩ g hg;exact grownBy_keeps_cells hgr hnc ho hc
  exact marks_ret1 hK (v:= .tuple #[.slice ao ((fmA (n:Int) (n+1) 1).filter fmPrim).length cap,.int .i64 0]) (by simp [results,results67,go_sem]) ⟨_,rfl,hfin,_,rfl,hrow⟩
 ·intro D q pre W' _ _ h _;exact h.elim
def IsFm (fs:List (Int×Int×Int)):Value→World→Prop:=fun x w=> ∃ ao c,x= .slice ao fs.length c∧ ∀ j f,fs[j]? =some f→ ∃ g,ao=some ⟨g,0,none⟩∧
 (∃ s a n c,Bo w g (3*j) s a n c∧IsI 2 f.1 (.agg #[.bool s,.slice a n c]) w)∧(∃ s a n c,Bo w g (3*j+1) s a n c∧IsI 2 f.2.1 (.agg #[.bool s,.slice a n c]) w)∧ ∃ s a n c,Bo w g (3*j+2) s a n c∧IsI 2 f.2.2 (.agg #[.bool s,.slice a n c]) w
theorem IsFm.stb (fs:List (Int×Int×Int)):Stb (IsFm fs):=fun _ _ _ e ⟨ao,c,h1,h2⟩=>⟨ao,c,h1,fun j f hj=>
 let ⟨g,h3,⟨s,a,n,c,b1,k1⟩,⟨s',a',n',c',b2,k2⟩,s2,a2,n2,c2,b3,k3⟩:=h2 j f hj
 ⟨g,h3,⟨s,a,n,c,b1.ext e,k1.ext e⟩,⟨s',a',n',c',b2.ext e,k2.ext e⟩,s2,a2,n2,c2,b3.ext e,k3.ext e⟩⟩
theorem FRow.isFm {base:Nat} {w:World} {v:Value} {fs:List (Int×Int×Int)} (h:FRow base w v fs):IsFm fs v w:=by
 obtain ⟨xs,hr,_,hf⟩:=h;have hr0:=hr;obtain ⟨h1,⟨h2,h3⟩ | ⟨g,cap,cur,hv,hb,ho,hn,hc,hsz,ht⟩⟩:=hr0
 ·refine ⟨none,0,by rw [h2,h3],fun j f hj=> ?_⟩;have:=(List.getElem?_eq_some_iff.1 hj).1;omega
 ·refine ⟨some ⟨g,0,none⟩,cap,hv,fun j f hj=>⟨g,rfl,?_⟩⟩;obtain ⟨s,a,n,c,s',a',n',c',s2,a2,n2,c2,e0,e1,e2,e3,e4,e5,k1,k2,k3⟩:=hf j f hj
  have hcell:∀ i u,xs[i]? =some u→w.cell? ⟨g,i,none⟩=some u:=fun i u hi=>by
   have hil:i<xs.length:=(List.getElem?_eq_some_iff.1 hi).1;simp only [World.cell?];rw [ho];show cur[i]? =some u;rw [← ht,List.getElem?_take,if_pos (by omega)] at hi
   simpa using hi
  have hfz:∀ i,w.frozen? ⟨g,i,none⟩=false:=fun i=>by simp [World.frozen?,ho]
  have c0:=hcell _ _ e0;have c1:=hcell _ _ e1;have c2':=hcell _ _ e2;have c3:=hcell _ _ e3;have c4:=hcell _ _ e4;have c5:=hcell _ _ e5;refine ⟨⟨s,a,n,c,⟨?_,?_,hfz _,hfz _⟩,k1⟩,⟨s',a',n',c',⟨?_,?_,hfz _,hfz _⟩,k2⟩,s2,a2,n2,c2,⟨?_,?_,hfz _,hfz _⟩,k3⟩
  ·rw [show 2*(3*j)=6*j by omega];exact c0
  ·rw [show 2*(3*j)+1=6*j+1 by omega];exact c1
  ·rw [show 2*(3*j+1)=6*j+2 by omega];exact c2'
  ·rw [show 2*(3*j+1)+1=6*j+3 by omega];exact c3
  ·rw [show 2*(3*j+2)=6*j+4 by omega];exact c4
  ·rw [show 2*(3*j+2)+1=6*j+5 by omega];exact c5
theorem list_x {k1 n:Nat} {x0:Value} {w:World} (hx:IsI k1 (-(n:Int)) x0 w) (l1:k1≤16777216) (hn:1≤n∧n≤4096∧(n%4=0∨n%4=3)):
  Calls prog 67 #[x0,.func (.func 68) #[] #[]] w (Ret w (IsT2 (IsFm ((fmA (n:Int) (n+1) 1).filter fmPrim)) (iV 0))):=
 (list_f hx l1 hn).mono fun _ _ ⟨r,h1,h2,v,h3,h4⟩=>⟨r,h1,h2,v,_,h3,h4.isFm,rfl⟩
structure FmOk (n:Int) (f:Int×Int×Int):Prop where
 a1:1≤f.1
 b1: -f.1<f.2.1
 b2:f.2.1≤f.1
 ac:f.1≤f.2.2
 edge:f.2.1<0→f.1≠f.2.2
 disc:f.2.1*f.2.1+(-4)*f.1*f.2.2= -n
theorem fmB_ok {n a:Int} (ha:1≤a):∀ (k:Nat) (b:Int) (x:Int×Int×Int),x∈fmB n a k b→fmOk n a x.2.1=true∧x.1=a∧x.2.2=(x.2.1*x.2.1+n)/(4*a)
 | 0,b,x,h=>by simp [fmB] at h
 | k+1,b,x,h=>by
  rw [fmB,List.mem_append] at h;rcases h with h | h
  ·split at h
   ·rename_i hok
    rw [List.mem_singleton] at h;subst h;exact ⟨hok,rfl,rfl⟩
   ·simp at h
  ·exact fmB_ok ha k (b+1) x h
theorem fmA_okF {n:Int} :∀ (k:Nat) (a:Int) (x:Int×Int×Int),1≤a→x∈fmA n k a→fmOk n x.1 x.2.1=true
 | 0,a,x,_,h=>by simp [fmA] at h
 | k+1,a,x,ha,h=>by
  rw [fmA] at h
  split at h
  ·rw [List.mem_append] at h;rcases h with h | h
   ·obtain ⟨h1,h2,_⟩:=fmB_ok ha _ _ x h;rw [h2];exact h1
   ·exact fmA_okF k (a+1) x (by omega) h
  ·simp at h
theorem fm_ok {n:Nat} {x:Int×Int×Int} (h:x∈fmA n (n+1) 1):FmOk n x:=by
 obtain ⟨h1,h2,h3,h4,h5⟩:=fmA_mem _ _ _ dcx h;have h6:=fmA_okF _ _ _ dcx h;unfold fmOk at h6;simp only [Bool.and_eq_true,decide_eq_true_eq,Bool.not_eq_true',Bool.and_eq_false_iff,decide_eq_false_iff_not] at h6;rw [← h5] at h6;obtain ⟨⟨g1,g2⟩,g3⟩:=h6
 have hd:4*x.1*x.2.2=x.2.1*x.2.1+n:=by
  rw [h5];exact Int.mul_ediv_cancel' (Int.dvd_of_emod_eq_zero g1)
 refine ⟨h1,by omega,h4,g2,fun hb=> ?_,?_⟩
 ·rcases g3 with g3 | g3
  ·exact absurd hb g3
  ·exact g3
 ·have:(-4)*x.1*x.2.2= -(4*x.1*x.2.2):=by rw [Int.neg_mul,Int.neg_mul]
  omega
theorem ix_Frm (g n c j:Nat) (h:j<n) (w:World):(Instr.indexAt 57 (.slice (some ⟨g,0,none⟩) n c) (.int .i64 (j:Int))).run prog w= .ok (.pointer (some ⟨g,2*(3*j),none⟩)) w:=by
 have h1:(0:Int)≤(j:Int):=by omega
 have h2:(j:Int)<(n:Int):=by omega
 have h3:0+j*6=2*(3*j):=by omega
 have h4:j*6=2*(3*j):=by omega
 go_simp
section
variable {ops:Array Oper} {Q:Exit→Act→World→Prop} {ds:List (Option Tmp)} {a0:Act} {w0:World} {L:List (Value→World→Prop)} {boxes:List Nat} {i:Nat} {o:Oper}
theorem Od.fn {f:FuncId} :Od ops ds a0 w0 L i (.func f) (IsV (.func (.func f) #[] #[])):=⟨fun _ _ _ _ _ _=>rfl⟩
theorem lenF {ao:Option Addr} {n c:Nat} {x:Operand} (hx:Od ops ds a0 w0 L i x (IsV (.slice ao n c))) (ho:o.op= .call { callee:= .builtin .len,args:= #[x],argTypes:= #[57]} :=by rfl) (hi:L.getD i (fun _ _=>True)=iV (n:Int):=by kernel_rfl) (hb:boxes.contains i=false:=by kernel_rfl):Ok prog ops Q ds a0 w0 L boxes i o:=
 Ok.of hb fun v a w hE hd hf=>by
  have h1:a.eval x=_:=hx.out v a w hE hd hf;refine ⟨_,?_,by rw [hi];exact rfl⟩;unfold execOp;rw [ho];dsimp only;unfold resolve;simp only [List.map_toArray,List.map_cons,List.map_nil,h1]
  go_simp
end
theorem Reduced_f {k1 n:Nat} {x:Value} {w:World} (hx:IsI k1 (-(n:Int)) x w) (l1:k1≤16777216) (hn:1≤n∧n≤4096∧(n%4=0∨n%4=3)):
  Calls prog 24 #[x] w (Ret w (IsT2 (IsFm ((fmA (n:Int) (n+1) 1).filter fmPrim)) (iV 0))):=by
 obtain ⟨fs,hfs⟩:∃ l,(fmA (n:Int) (n+1) 1).filter fmPrim=l:=⟨_,rfl⟩;rw [hfs];have HFS:=hid hfs;have HN:=hid hn;have HK:=hid l1;clear hn l1 hfs;obtain ⟨s1,a1,n1,c1,rfl,h1⟩:=hx;have h1:IsI _ _ _ w:=⟨_,_,_,_,rfl,h1⟩;obtain ⟨W,hW,S⟩:∃ W,W=w.alloc (.cells #[.bool s1,.slice a1 n1 c1] 33)∧Sto w W [((w.heap.size,0),IsI k1 (-(n:Int)))]:=⟨_,rfl,((Sto.start w).new1 (w.heap.size) (by simp) s1 a1 n1 c1 33 (IsI k1 (-(n:Int))) (IsI.gstb _ _) (h1))⟩;clear h1;go_enter func24,ntmps24;go_upto_region 1 with (fail);rw [← hW];clear hW;refine rgs 6 [some 4,some 5,some 6,some 7,some 2,some 3] [IsI k1 (-(n:Int)),IsT2 (IsFm fs) (iV 0),IsFm fs,iV 0,IsFm fs,iV 0] [] ?_ ?_ (hst:=by repeat' (first | exact trivial | exact IsFm.stb _ | exact IsV.stb _ | exact IsI.stb _ _ | exact IsBo.stb _ _ | apply IsT2.stb | apply IsT3.stb | apply IsJ.stb | apply IsQ.stb | apply IsF.stb | apply And.intro))
 ·refine Rc (ldI S 0 (w.heap.size) 0 (Od.lit 1) ld_Int) ?_;refine Rc (cl2 (en func67) (Od.lc (Φ:=IsI k1 (-(n:Int))) 0 4) Od.fn (fun x0 x1 w' hE d0 d1=>by { obtain rfl:x1= .func (.func 68) #[] #[]:=d1;exact (by have hh:=list_x d0 HK.out HN.out;rw [HFS.out] at hh;exact hh)})) ?_;refine Rc (ex (Od.loc 1 5) t20) ?_;refine Rc (ex (Od.loc 1 5) t21) ?_;refine Rc (mv (Od.lc 2 6)) ?_;refine Rc (mv (Od.lc 3 7)) ?_;exact rn0
 intro v W1 e1 hΦ _;replace S:=S.mono e1;obtain ⟨u2,hu2,k2⟩:∃ vv_,v 4=vv_∧(IsFm fs) vv_ W1:=⟨_,rfl,hΦ 4 dcx⟩;have v5:v 5= .int .i64 0:=hΦ 5 dcx;simp only [lxE,Nat.reduceAdd];rw [hu2,v5];clear hu2 v5 hΦ e1;refine wpList_nil ?_;go_wp2_with fail;exact bodyPost_ret (v:= .tuple #[u2,.int .i64 0]) (by simp [results,results24,go_sem]) rfl ⟨_,rfl,S.ext,⟨_,_,rfl,k2,rfl⟩⟩
def FmAt (g i:Nat) (f:Int×Int×Int) (w:World):Prop:=
 (∃ s a n c,Bo w g (3*i) s a n c∧IsI 2 f.1 (.agg #[.bool s,.slice a n c]) w)∧(∃ s a n c,Bo w g (3*i+1) s a n c∧IsI 2 f.2.1 (.agg #[.bool s,.slice a n c]) w)∧ ∃ s a n c,Bo w g (3*i+2) s a n c∧IsI 2 f.2.2 (.agg #[.bool s,.slice a n c]) w
theorem FmAt.ext {g i:Nat} {f:Int×Int×Int} {w w':World} (h:FmAt g i f w) (e:Ext w w'):FmAt g i f w':=
 let ⟨⟨s,a,n,c,b1,k1⟩,⟨s',a',n',c',b2,k2⟩,s2,a2,n2,c2,b3,k3⟩:=h
 ⟨⟨s,a,n,c,b1.ext e,k1.ext e⟩,⟨s',a',n',c',b2.ext e,k2.ext e⟩,s2,a2,n2,c2,b3.ext e,k3.ext e⟩
end Go.Proofs.YtknffgdbdadpcaaGreatDoor
