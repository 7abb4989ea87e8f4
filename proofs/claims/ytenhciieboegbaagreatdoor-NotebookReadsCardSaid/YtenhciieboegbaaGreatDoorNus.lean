/-
  The laws' helpers: samePair, sameTexts; the reference's Has.
  Package notebook: Uses: the names of the cells that an expression uses, collected in a map.
-/
import Derived.Test.YtenhciieboegbaaGreatDoorNsa
import Derived.Test.YtenhciieboegbaaGreatDoorNvl
import Derived.Shelf.SlIter.Sorted
namespace Go.Proofs.YtenhciieboegbaaGreatDoor
open Go Go.RowKit
open Go.Proofs.Tryz
theorem ix_St(g o c n j:Nat)(h:j<n)(w:World):(Instr.indexAt 53 (.slice (some ⟨g,o,none⟩) n c) (.int .i64 (j:Int))).run prog w=.ok (.pointer (some ⟨g,o+j,none⟩)) w:=by
  have h1:(j:Int)<(n:Int):=ze
  go_simp
section
set_option maxRecDepth 100000
set_option maxHeartbeats 8000000
theorem samePair_f{l l':List Cl}{z z':Int}{u v:Value}{w:World}{B B':Nat}(hu:IsPa B l z u w)(hv:IsPa B' l' z' v w)(hl:l.length<=1000000000):Calls prog 18 #[u,v] w (Ret w (IsV (.bool (decide (z=z')&&sameB l l')))):=by
  obtain⟨x,rfl,hx⟩:=hu;obtain⟨y,rfl,hy⟩:=hv;obtain⟨ao,c,rfl,-⟩:=id hx;obtain⟨ao',c',rfl,-⟩:=id hy;obtain⟨n,hn⟩:∃n,l.length=n:=⟨_,rfl⟩;obtain⟨m,hm⟩:∃n,l'.length=n:=⟨_,rfl⟩;rw[hn]at hx ⊢;rw[hm]at hy ⊢
  obtain⟨W,hW,E,B2,B3⟩:∃W,W=(w.alloc (.cells #[.slice ao n c,.int .i64 z] 47)).alloc (.cells #[.slice ao' m c',.int .i64 z'] 47)/\Ext w W/\Bk W w.heap.size [.slice ao n c,.int .i64 z]/\Bk W (w.heap.size+1) [.slice ao' m c',.int .i64 z']:=
    ⟨_,rfl,((Ext.refl w).alloc _).alloc _,(Bk.new w _ _).ext ((Ext.refl _).alloc _),Bk.newE _ _ zo _ _⟩
  have HS:=hid (Same42_f ((hx.low (Nat.zero_le _)).ext E) ((hy.low (Nat.zero_le _)).ext E) hl);have HE:=hid E;have g0:=B2.c 0 _ rfl;have g1:=B2.c 1 _ rfl;have k0:=B3.c 0 _ rfl;have k1:=B3.c 1 _ rfl;clear hx hy hn hm hl B2 B3 E;go_enter func18,ntmps18;go_upto_region 1 with fail;rw[<-hW];clear hW;by_cases he:z=z'
  · subst he
    go_wp2_with (go_at_call 21;refine zG HS.out ?_;rintro e w1 ⟨x1,rfl,e1,hx1⟩;obtain rfl:x1=.bool (sameB l l'):=hx1)
    go_ret
    exact⟨_,rfl,HE.out.trans e1,by simp;rfl⟩
  · have hq:(z==z')=false:=by simpa using he
    have HR:=hid he;clear he;go_wp2_with fail
    go_ret
    exact⟨_,rfl,HE.out,by simp[HR.out];rfl⟩
theorem sameTexts_f{l l':Sc}{u v:Value}{w:World}(hu:IsSr l u w)(hv:IsSr l' v w)(hl:l.length<=1000000000):Calls prog 29 #[u,v] w (Ret w (IsV (.bool (decide (l=l'))))):=by
  obtain⟨n,hn⟩:∃n,l.length=n:=⟨_,rfl⟩;obtain⟨m,hm⟩:∃n,l'.length=n:=⟨_,rfl⟩;obtain⟨ao,cp,rfl,h63,hP⟩:=hu;obtain⟨ao',cp',rfl,h63',hP'⟩:=hv;have HN:=hid (zL (zL hn hm) hl);have HP:=hid (zL hP hP');rw[hn,hm];by_cases he:n=m
  · subst he
    clear hn hm hl hP hP' h63 h63';go_enter func29,ntmps29;go_wp2_with fail
    go_loopg [5] n (λgk v5 wr=>∃i:Nat,v5=.int .i64 (i:Int)/\i+gk=n/\Hid (Ext w wr/\l.take i=l'.take i))
    case atStart=>exact⟨0,rfl,by omega,hid ⟨Ext.refl _,by simp⟩⟩
    case round=>
      obtain⟨i,rfl,hg,S⟩:=hrel;by_cases hi2:i<n
      · have hil:(i:Int)<(n:Int):=by omega
        have hiw:IntKind.i64.wrap ((i:Int)+1)=((i+1:Nat):Int):=zy
        obtain⟨y,hy⟩:∃y,l[i]? =some y:=⟨_,List.getElem?_eq_getElem (by rw[HN.out.1.1];exact hi2)⟩;obtain⟨z,hz⟩:∃z,l'[i]? =some z:=⟨_,List.getElem?_eq_getElem (by rw[HN.out.1.2];exact hi2)⟩;obtain⟨g,o,rfl,hc⟩:=HP.out.1 (λe=>by rw[e]at hy;cases hy);obtain⟨g',o',rfl,hd⟩:=HP.out.2 (λe=>by rw[e]at hz;cases hz);obtain⟨sb,hsb⟩:∃y',(⟨y.toArray⟩:ByteArray)=y':=⟨_,rfl⟩;obtain⟨sb',hsb'⟩:∃y',(⟨z.toArray⟩:ByteArray)=y':=⟨_,rfl⟩;have HC:=hid (zL (show World.cell? w ⟨g,o+i,none⟩=some (.string sb)by rw[<-hsb];exact hc i _ hy) (show World.cell? w ⟨g',o'+i,none⟩=some (.string sb')by rw[<-hsb'];exact hd i _ hz));obtain⟨r,hr⟩:∃r:Bool,(!decide (y=z))=r:=⟨_,rfl⟩
        have hbn:∀w',Sem.run prog (do eqGuard .neq 9 (.tmp 20) (.tmp 24) (.string sb) (.string sb');binOp .neq 9 (.string sb) (.string sb')) w'=.ok (.bool r) w':=λw'=>by
          have h9:=jM y z;rw[hsb,hsb']at h9;rw[<-hr,<-h9]
          go_simp
        have HBN:=hid hbn;have HG:=hid (zL hg hi2);have HI:=hid (zL hy hz);have HR:=hid hr;clear hg hi2 hy hz hsb hsb' hr hbn hc hd;go_upto_region 6 with fail;refine rg 9 (dR 17 9) [IsV (.slice (some ⟨g,o,none⟩) n cp),iV (i:Int),IsP g (o+i),IsV (.string sb),IsV (.slice (some ⟨g',o',none⟩) n cp'),iV (i:Int),IsP g' (o'+i),IsV (.string sb'),IsV (.bool r)] [] 0 ?_ ?_
        · refine Rc xa ?_
          refine Rc je ?_;refine Rc (ixq (ix_St g o cp n i HG.out.2) (qA 0 17) (qA (fP:=iV (i:Int)) 1 18)) ?_;refine Rc (lv (fP:=IsV (.string sb)) _ (λw' e=>qP w' _ _ ((S.out.1.trans e).cell HC.out.1)) (qA 2 19) (λ_ _=>rfl)) ?_;refine Rc xu ?_;refine Rc je ?_;refine Rc (ixq (ix_St g' o' cp' n i HG.out.2) (qA 4 21) (qA (fP:=iV (i:Int)) 5 22)) ?_;refine Rc (lv (fP:=IsV (.string sb')) _ (λw' e=>qP w' _ _ ((S.out.1.trans e).cell HC.out.2)) (qA 6 23) (λ_ _=>rfl)) ?_;refine Rc (bn (r:=.bool r) (qA (fP:=IsV (.string sb)) 3 20) (qA (fP:=IsV (.string sb')) 7 24) (hr:=HBN.out)) ?_;exact rn0
        intro u X4 e4 hΦ _;simp only[lxE,Nat.reduceAdd];rw[show u 8=.bool r from hΦ 8 dcx];have E4:=hid (S.out.1.trans e4);have S2:=hid S.out.2;clear hΦ S e4;refine zP zc ?_ _;cases r with
        | true=>
          have HNE:=hid (show l≠l' from λe=>by
            have h1:=HI.out.1;rw[e,HI.out.2]at h1;have h2:=HR.out;cases h1
            simp at h2)
          go_wp2_with fail
          go_ret
          exact⟨_,rfl,E4.out,by rw[decide_eq_false HNE.out];rfl⟩
        | false=>
          have HEQ:=hid (show y=z by have:=HR.out;simpa using this);have HT:=hid (show l.take (i+1)=l'.take (i+1)by rw[List.take_add_one,List.take_add_one,S2.out,HI.out.1,HI.out.2,HEQ.out]);go_wp2_with fail
          go_roundg (gk-1)
          case measure=>have:=HG.out;omega
          case rel=>exact⟨i+1,rfl,by have:=HG.out;omega,hid ⟨E4.out,HT.out⟩⟩
      · have hil:¬((i:Int)<(n:Int)):=by omega
        have HT:=hid (show l=l' by have:=S.out.2;rwa [List.take_of_length_le (by rw[HN.out.1.1];omega),List.take_of_length_le (by rw[HN.out.1.2];omega)]at this);have E4:=hid S.out.1;clear S hg hi2;go_wp2_with fail
        go_ret
        exact⟨_,rfl,E4.out,by rw[decide_eq_true HT.out];rfl⟩
  · have hq:((n:Int) !=(m:Int))=true:=by simp;omega
    have HR:=hid (show l≠l' from λe=>he (by rw[<-hn,<-hm,e]));clear hn hm hl he hP hP' h63 h63';go_enter func29,ntmps29;go_wp2_with fail
    go_ret
    exact⟨_,rfl,Ext.refl _,by rw[decide_eq_false HR.out];rfl⟩
end
open Go Go.RowKit Go.Maps Go.Sort Go.Shelf
theorem Gr.of_map{w w':World}{b:Nat}{_es:Array (Option (Value×Value))}(hs:w.heap.size<=w'.heap.size)(hb:∀p v,World.cell? w p=some v->p.block≠b)(hk:∀k,k<w.heap.size->k≠b->w'.heap[k]? =w.heap[k]?):Gr w w':=
  ⟨hs,λp _x hp=>(World.cell?_of_block (w:=w) (a:=p) (hk p.block (World.block_lt_of_cell? w p hp) (hb p _ hp))).trans hp⟩
theorem ob_turned{w w':World}{T:TypeId}{R:Value->Option (DU×List MemPlace)}{b n:Nat}{D:DU}(own:w.ownsMap prog T R b n D)(tur:w.mapTurned w' b):Ob b w w':=by
  have hb:∀p v,World.cell? w p=some v->p.block≠b:=by
    rintro p v hp rfl;obtain⟨es,clock,hb,-⟩:=own;unfold World.cell? at hp;rw[hb]at hp;simp at hp
  have g:=tur.grown;exact⟨g.os,g.tape,g.output,g.size,λk hk hne=>g.block k hk (λe=>hne (Option.some.inj e)),Gr.of_map (_es:= #[]) (b:=b) g.size hb (λk hk hne=>g.block k hk (λe=>hne (Option.some.inj e)))⟩
section
variable {P:Program} {Q:Exit->Act->World->Prop} {o:Oper} {a:Act} {w:World} {K:Act->World->Prop}
theorem wp_callC{f:FuncId}{c:Call}{t:Operand}{caps:Array Value}{R:Ending->World->Prop}{xs:List Operand}{us:List Value}(he:∀args w,(callFunc f args).run P w=.ok (.enter f args) w)(ht:a.eval t=.func (.func f) #[] caps)(hx:xs.map a.eval=us)
    (h:Calls P f (us.toArray++caps) w R) (h1:∀v w',R (.returned v) w'->K (a.put o.dst v) w') (h2:∀ch w',R (.panicked ch) w'->Q (.panic ch) a w') (h3:∀w',¬R .outgrown w')
    (ho:o.op=.call c:=by rfl) (hc:c.callee=.value t:=by rfl) (ha:c.args=xs.toArray:=by rfl):Oper.wp P o a w K Q:=by
  have hr:(execOp a.eval o).run P w=.ok (.enter f (c.args.map a.eval++caps)) w:=by
    unfold execOp;rw[ho];dsimp only;unfold resolve;rw[hc];simp[invoke,he,ht,Deferred.ofValue]
  unfold Oper.wp;rw[hr,Oper.upon_enter,ha,List.map_toArray,hx];refine zG h ?_;intro e w2 hR;cases e with
  |returned v=>exact h1 v w2 hR
  |panicked ch=>exact h2 ch w2 hR
  |outgrown=>exact absurd hR (h3 w2)
end
theorem ld_fn:LdC1 prog 87:=λw a v h=>by go_simp
def UsA(S F b n:Nat)(l:Sc)(w:World):Prop:=w.ownsMap (H:=Unit) prog 9 (plainElem prog 4) b n (putS l)/\Bk w S [.map (some b)]/\Bk w F [.func (.func 45) #[] #[.pointer (some ⟨S,0,none⟩),.pointer (some ⟨F,0,none⟩)]]
theorem UsA.ext{S F b n:Nat}{l:Sc}{w w':World}(h:UsA S F b n l w)(e:Ext w w'):UsA S F b n l w':=⟨xN h.1 e,h.2.1.ext e,h.2.2.ext e⟩
def NdOk(x:Nd):Prop:=∀s∈usN x,s.length<=1000000000
theorem usN_mk(o:Int)(nm:List UInt8)(n v lo hi:Int)(ps:List Nd):usN (.mk o nm n v lo hi ps)=(if o=2 then [nm]else [])++ps.flatMap usN:=by rw[usN,usL_flat]
theorem flat_take{l:List Nd}{i:Nat}{x:Nd}(hi:l[i]? =some x):(l.take (i+1)).flatMap usN=(l.take i).flatMap usN++usN x:=by
  rw[List.take_add_one,hi,List.flatMap_append];simp
theorem us_le{l:List Nd}{i:Nat}{x:Nd}(hi:l[i]? =some x):((l.take i).flatMap usN).length+(usN x).length<=(l.flatMap usN).length:=by
  have h:=flat_take hi;have h2:(l.take (i+1)++l.drop (i+1)).flatMap usN=l.flatMap usN:=by rw[List.take_append_drop]
  rw[List.flatMap_append]at h2;have h3:=congrArg List.length h2;have h4:=congrArg List.length h;simp only[zQ]at h3 h4;omega
section
set_option maxRecDepth 100000
set_option maxHeartbeats 16000000
theorem look_f:∀(x:Nd) (B S F b n:Nat) (l:Sc) (us:List Value) (w0 w:World),NdC B w0 x us->Ext w0 w->w0.heap.size<=b->UsA S F b n l w->S≠b->F≠b->NdOk x->n+(usN x).length<=1000000->
    Calls prog 45 #[.agg us.toArray,.pointer (some ⟨S,0,none⟩),.pointer (some ⟨F,0,none⟩)] w (λe w'=>e=.returned (.tuple #[])/\Ob b w w'/\UsA S F b (n+(usN x).length) ((usN x).reverse++l) w'):=Nd.ind λop nm k v lo hi ps IH=>by
  intro B S F b n l us w0 w hx hE0 hB hU hSb hFb hok hn;have HIH:=hid IH;obtain⟨s,a,m,c,ao,cp,rfl,-,hlp,hcp,hP⟩:=hx.out;simp only[Nd.op,Nd.nm,Nd.n,Nd.lo,Nd.hi,Nd.ps]at*;obtain⟨q,hq⟩:∃q,ps.length=q:=⟨_,rfl⟩;obtain⟨sb,hsb⟩:∃y,(⟨nm.toArray⟩:ByteArray)=y:=⟨_,rfl⟩;have hse:qB nm=.string sb:=xl
  rw[usN_mk]at hn ⊢;obtain⟨t0,ht0⟩:∃t:Sc,(if op=2 then [nm]else [])=t:=⟨_,rfl⟩;rw[ht0]at hn ⊢;have HT0:=hid ht0;clear ht0;have HOK:=hid hok;have HN:=hid hn;have HNE:=hid (zL hSb hFb);have HBb:=hid hB;have HE0:=hid hE0;have HL:=hid (zL hq (zL hlp hcp));have HP:=hid hP;obtain⟨W,hW,E,B2⟩:∃W,W=w.alloc (.cells #[.int .i64 op,qB nm,.int .i64 k,.bool s,.slice a m c,.int .i64 lo,.int .i64 hi,.slice ao ps.length cp] 32)/\Ext w W/\Bk W w.heap.size [.int .i64 op,qB nm,.int .i64 k,.bool s,.slice a m c,.int .i64 lo,.int .i64 hi,.slice ao ps.length cp]:=zg;have HU0:=hid (hU.ext E)
  have hlt:b<w.heap.size:=by
    have:=hU.1.lt;exact this
  have HBW:=hid (show S<w.heap.size/\F<w.heap.size/\b<w.heap.size from⟨hU.2.1.lt,hU.2.2.lt,hlt⟩);have HO0:=hid (show Ob b w W from Ob.of E);simp only[hse,hq]at hW B2 ⊢;have HSB:=hid hsb;have HB2:=hid B2;have g0:=B2.c 0 _ rfl;have g1:=B2.c 1 _ rfl;have g7:=B2.c 7 _ rfl;have k0:=HU0.out.2.1.c 0 _ rfl;clear IH hx hB hE0 hU hSb hFb hok hn hq hsb hse hlp hcp hP E B2 hlt;go_enter func45,ntmps45;go_upto_region 1 with fail;rw[<-hW];clear hW;obtain⟨N0,hN0⟩:∃g,w.heap.size=g:=⟨_,rfl⟩;rw[hN0]at HB2 HBW g0 g1 g7 ⊢;have HN0:=hid hN0;clear hN0;have h2c:(op==2)=true\/(op==2)=false:=by cases op==2 <;> simp
  rcases h2c with hop|hop
  case' inl=>
    have HT1:=hid (show t0= [nm]by rw[<-HT0.out,if_pos (by simpa using hop)])
    have hsz:sb.size<=maxLen:=by
      have h1:nm.length<=1000000000:=HOK.out nm (by rw[usN_mk,HT0.out,HT1.out];simp);have h2:sb.size=nm.length:=by rw[<-HSB.out];rfl
      unfold maxLen;omega
    obtain⟨W1,hrun,own2,tur⟩:=HU0.out.1.store lawS ty_msb (by have:=HN.out;rw[HT1.out]at this;simp at this;show n<2^63-1;omega) (key:=.string sb) (val:=.bool true) (kl:=.string sb.data.toList) (d:=.lit (.bool true)) (ps:= []) (WideMaps.keyOf_string_mk jK hsz) (plainElem_bool ty_bool true);have O7:=ob_turned HU0.out.1 tur;have HO1:=hid (HO0.out.trans O7);have HB1:=hid (O7.bk HB2.out (by have:=HBW.out;omega))
    have HU1:=hid (show UsA S F b (n+t0.length) (t0.reverse++l) W1 by
      rw[HT1.out];have h1:sb.data.toList=nm:=by rw[<-HSB.out]
      rw[h1]at own2
      exact⟨own2,O7.bk HU0.out.2.1 HNE.out.1,O7.bk HU0.out.2.2 HNE.out.2⟩)
    clear own2 tur O7 hsz;go_upto_region 3 with fail;have g7:=HB1.out.c 7 _ rfl;clear hrun;generalize W1=X at*
  case' inr=>
    have HT1:=hid (show t0= []by rw[<-HT0.out,if_neg (by simpa using hop)]);have HO1:=HO0;have HB1:=HB2;have HU1:=hid (show UsA S F b (n+t0.length) (t0.reverse++l) W by rw[HT1.out];exact HU0.out);go_upto_region 3 with fail;generalize W=X at*
  all_goals
    clear HO0 HB2 HU0 hop g0 g1 k0 HT1;go_wp2_with fail
    go_loopg [15] q (λgk v15 wr=>∃i:Nat,v15=.int .i64 (i:Int)/\i+gk=q/\Hid (Ob b w wr/\Bk wr N0 [.int .i64 op,.string sb,.int .i64 k,.bool s,.slice a m c,.int .i64 lo,.int .i64 hi,.slice ao q cp]/\UsA S F b (n+t0.length+((ps.take i).flatMap usN).length) (((ps.take i).flatMap usN).reverse++(t0.reverse++l)) wr))
    case atStart=>exact⟨0,rfl,by omega,hid ⟨HO1.out,HB1.out,by simpa using HU1.out⟩⟩
    case round=>
      obtain⟨i,rfl,hg,S9⟩:=hrel;by_cases hi2:i<q
      · have hil:(i:Int)<(q:Int):=by omega
        have hiw:IntKind.i64.wrap ((i:Int)+1)=((i+1:Nat):Int):=by have:=HL.out;simp only[IntKind.wrap_i64];omega
        obtain⟨y,hy⟩:∃y,ps[i]? =some y:=⟨_,List.getElem?_eq_getElem (by rw[HL.out.1];exact hi2)⟩;obtain⟨g,o,rfl,hBg,hR⟩:=HP.out (λe=>by rw[e]at hy;cases hy);obtain⟨us,hl8,hcs,hy2⟩:=hR.get hy;have HC:=hid (zL hl8 hcs);have HY:=hid hy2;have HG:=hid (zL hg (zL hi2 hBg));have HI:=hid hy;have HB9:=hid S9.out.2.1;have HU9:=hid S9.out.2.2;have HO9:=hid S9.out.1;clear hg hi2 hR hl8 hcs hy2 hy S9 hBg;go_upto_region 5 with fail;refine rgs 2 [some 17,some 18] [IsP g (o+8*i),IsV (.agg us.toArray)] [] ?_ ?_
        · refine Rc (ixq (xC g o cp q i HG.out.2.1) (qC 13) (qC (x:=.int .i64 (i:Int)) 15)) ?_
          refine Rc (lv (fP:=IsV (.agg us.toArray)) _ (λw' e=>ldM zc zc HC.out.1 (λj v hj=>e.cell ((HO9.out.ext HE0.out HBb.out).cell (HC.out.2 j v hj)))) (qA 0 17) (λ_ _=>rfl)) ?_;exact rn0
        intro u4 X4 e4 hΦ _;simp only[lxE,Nat.reduceAdd];rw[show u4 1=.agg us.toArray from hΦ 1 dcx];clear hΦ;refine stL (λK hK=>?_);refine jJ (vs:=zNd) al_Nd (λBn e3=>hK _ _ ?_);obtain⟨g5,hg5⟩:∃g,X4.heap.size=g:=⟨_,rfl⟩;rw[hg5]at Bn ⊢;generalize X4.alloc (.cells zNd.toArray 32)=Y1 at Bn e3 ⊢;clear hK K
        go_simp
        refine stL (λK hK=>?_);refine zE (us:=us) Bn st_Nd rfl HC.out.1 nwZN (λX5 B7 O=>hK _ _ ?_) (ho1:=HY.out.nw.2);have e5:=e4.trans (O.ext e3 (Nat.le_of_eq hg5));have HO5:=hid (HO9.out.trans (Ob.of e5));have HB5:=hid (HB9.out.ext e5);have HU5:=hid (HU9.out.ext e5);have HB7:=hid B7;clear hK K O Bn e3 e4 e5 hg5 HO9 HB9 HU9 B7;refine zI ?_;go_upto_region 6 with fail;refine wp_region_lit ?_;refine stL (λK hK=>wp_ld (p:=.pointer (some ⟨F,0,none⟩)) (u:=.func (.func 45) #[] #[.pointer (some ⟨S,0,none⟩),.pointer (some ⟨F,0,none⟩)]) (ld_fn _ _ _ (HU5.out.2.2.c 0 _ rfl)) (hK _ _ ?_));clear hK K
        go_simp
        refine stL (λK hK=>wp_ld (p:=.pointer (some ⟨g5,0,none⟩)) (u:=.agg us.toArray) (ld_Nd _ _ _ HC.out.1 HB7.out) (hK _ _ ?_));clear hK K
        go_simp
        have HCL:=hid (HIH.out y (List.mem_of_getElem? HI.out) B S F b _ _ us w0 X5 HY.out (HO5.out.ext HE0.out HBb.out) HBb.out HU5.out HNE.out.1 HNE.out.2 (λs hs=>HOK.out s (by rw[usN_mk];exact List.mem_append_right _ (List.mem_flatMap.2 ⟨y,List.mem_of_getElem? HI.out,hs⟩))) (by have:=HN.out;have:=us_le HI.out;rw[zQ]at *;omega));refine stL (λK hK=>?_);refine wp_callC (us:= [.agg us.toArray]) (caps:= #[.pointer (some ⟨S,0,none⟩),.pointer (some ⟨F,0,none⟩)]) (en func45) zc zc HCL.out (λv X6 h=>hK _ _ ?_) (λch X h=>by{obtain⟨hx,_⟩:=h;cases hx}) (λX h=>by{obtain⟨hx,_⟩:=h;cases hx});clear hK K HCL;obtain⟨h0,hO,hU⟩:=h;cases h0;have hfl:=flat_take HI.out;have HO6:=hid (HO5.out.trans hO);have HB6:=hid (hO.bk HB5.out (by have:=HBW.out;omega))
        have HU6:=hid (show UsA S F b (n+t0.length+((ps.take (i+1)).flatMap usN).length) (((ps.take (i+1)).flatMap usN).reverse++(t0.reverse++l)) X6 by
          rw[hfl,zQ,List.reverse_append,List.append_assoc,<-Nat.add_assoc];exact hU)
        clear hO hU HO5 HB5 HU5 HB7 hfl;refine zI ?_;go_wp2_with fail
        go_roundg (gk-1)
        case measure=>have:=HG.out;omega
        case rel=>exact⟨i+1,rfl,by have:=HG.out;omega,hid ⟨HO6.out,HB6.out,HU6.out⟩⟩
      · have hil:¬((i:Int)<(q:Int)):=by omega
        have hie:i=q:=ze
        subst hie;obtain⟨hO,-,hU⟩:=S9.out;rw[List.take_of_length_le (by rw[HL.out.1];exact zN _)]at hU
        have HR:=hid (show UsA S F b (n+(t0++ps.flatMap usN).length) ((t0++ps.flatMap usN).reverse++l) wr by
          rw[zQ,List.reverse_append,List.append_assoc,<-Nat.add_assoc];exact hU)
        have HOO:=hid hO;clear hO hU S9;go_wp2_with fail;exact bodyPost_end (v:=.tuple #[]) (by simp[results,results45,go_sem]) rfl ⟨rfl,HOO.out,by simpa using HR.out⟩
end
end Go.Proofs.YtenhciieboegbaaGreatDoor
