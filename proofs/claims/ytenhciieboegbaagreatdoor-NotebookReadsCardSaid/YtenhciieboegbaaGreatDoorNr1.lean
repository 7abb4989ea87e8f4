/-
  The row parts of the notebook's laws: bytes and rows of bytes as arguments; what a row's world gives. (Printed by wip/gen/nrr.py.)
  The reference's sizes and depths in plain words: an expression with few levels has a small size; when a list of cells is right.
  The laws' Has and replaced: a name looked for in a row; a cell's name replaced by five in an expression.
  The reference: words, names, patterns, sizes.
-/
import Derived.Test.YtenhciieboegbaaGreatDoorNmd
import Derived.Test.YtenhciieboegbaaGreatDoorRows
import Derived.LaidMore
import Derived.MakeChecks
import Derived.Lib.SmallJoins
import Derived.ChangeSlices
import Derived.ChangeSame
import Derived.Below
import Derived.ProofKit
import Derived.Stop.Joined
import Derived.OpenShut
import Derived.SizedLaws
import Derived.Shelf.Vars
import Derived.Deep.Slices
import Derived.Test.YtenhciieboegbaaGreatDoorRgv
namespace Go.Proofs.YtenhciieboegbaaGreatDoor
open Go Go.RowKit Go.ChangeShapes Go.WideShapes Go.ChangeAt Go.Joins
open Go.Proofs.Tryz
theorem zx{P:Prop}(h:P:=by rw[List.drop_eq_getElem_cons (List.getElem?_eq_some_iff.1 h).1,(List.getElem?_eq_some_iff.1 h).2]):P:=h
section
variable {H:Type} {enc:TypeId×Value->H}
theorem post_of_below{P:Program}{f:Func}{s:ChangeSpec}{apart fresh handsOn again:Bool}{W W':World}{args:Array Value}{v:Value}{ds gs:List (DataW H)}{before pa pv:List MemPlace}
    (hW:DataW.Whole enc P f.params.toList s.vars apart W args.toList ds gs before)
    (hres:∀(b:Nat) (sp:Nat->Bool) (hd:Bool),DataW.TrodAll enc P W' b sp hd f.resultTypes.toList (v.resultList f.resultTypes.size) (s.fn H (ds++gs)).results [])
    (hargs:∀sp:Nat->Bool,(∀p∈before,sp p.block=true)->DataW.TrodAll enc P W' 0 sp true f.params.toList args.toList (s.fn H (ds++gs)).args pa)
    (hvars:∀sp:Nat->Bool,(∀p∈before,sp p.block=true)->DataW.TrodVars enc P W' sp s.vars (s.fn H (ds++gs)).vars pv)
    (hps:before=pa++pv) (hb:Below W.heap.size W W')
    (hok:∀(j:Nat) (t:TypeId) (r:Value),f.resultTypes[j]? =some t->(v.resultList f.resultTypes.size)[j]? =some r->Value.okWide P W' .any 0 t r):
    s.post enc P f apart fresh handsOn again W args v W':=by
  have hlt:∀p∈before,p.block<W.heap.size:=λp hp=>hW.lt p hp
  have hold:∀p∈before,(λb=>decide (b<W.heap.size)) p.block=true:=λp hp=>by simpa using hlt p hp
  refine⟨ds,gs,before, [],pa,pv,hW,hres _ _ _,hargs _ hold,hvars _ hold,World.keptBut_mono (λp hp=>⟨hp,?_⟩) (hb.frame (· ∈before)),λ_=>?_⟩
  · rw[hps,List.mem_append]at hp
    exact Or.inr hp
  · obtain⟨_,_,_,_,_,hz,hn⟩:=hW
    refine⟨hok,_,_,([]++pa)++pv,⟨[]++pa,pv,trodAll_append (hargs _ (λ_ _=>rfl)) (hres _ _ _),hvars _ (λ_ _=>rfl),rfl,?_,?_⟩,?_⟩
    · intro b off hp
      have hin:MemPlace.cell b off∈before:=by rw[hps];simpa using hp
      rw[hb.frozen (hlt _ hin)];exact hz b off hin
    · intro ha
      have:=hn ha;rw[hps]at this
      simpa using this
    · intro p hp _
      rw[hps]
      simpa using hp
end
theorem own:ownKnob prog.godebug=none:=by kernel_rfl
theorem wf_u8(n:Int)(h:(Lit.int .u8 n).wf=true):0<=n/\n<=255:=by
  simp only[Lit.wf,Bool.and_eq_true,zS]at h;have h1:IntKind.min .u8=0:=rfl;have h2:IntKind.max .u8=255:=rfl;rw[h1,h2]at h;exact h
section
variable {H:Type} {enc:TypeId×Value->H}
theorem tNr1_1{P:Prop}(h:P:=by
  refine⟨⟨none,0,0,rfl,by decide,λh=>absurd rfl h⟩,λW' sp _ _=>?_⟩;obtain⟨m,hm⟩:=shut_slice_nil (enc:=enc) (w:=W') (base:=0) (spare:=sp) (held:=true) ht;exact⟨m,by simpa [Value.cells]using hm⟩
  ):P:=h
theorem bytes_open{W:World}{t:TypeId}(ht:prog.underlying t=some (.slice 5)){fuel:Nat}{c:Value}{y:DataW H×List MemPlace}(h:DataW.trod enc prog W 0 (λ_=>true) true fuel t [c]=some y):
    IsBy c W/\∀(W':World) (sp:Nat->Bool),Below W.heap.size W W'->(∀q∈y.2,sp q.block=true)->∃m,DataW.trod enc prog W' 0 sp true m t [c]=some y:=by
  have he:prog.underlying 5=some (.int .u8):=zc
  have hc:prog.cellsOf 5=1:=zc
  rcases open_ints ht he hc h with⟨h1,rfl⟩| ⟨a,len,cap,zs,h1,hb,hl,hm,hlen,rfl,hcell,hwf⟩
  · simp only[List.cons.injEq,and_true]at h1
    subst h1;exact tNr1_1
  · simp only[List.cons.injEq,and_true]at h1
    subst h1;simp only[if_true]at hlen;refine⟨⟨some a,len,cap,rfl,by unfold maxLen at hm;omega,λh0=>?_⟩,λW' sp hbel hsp=>?_⟩
    · have h00:=hcell 0 ze
      have hsn:a.spot=none:=by
        simp only[Addr.add,if_true,World.cell?]at h00
        split at h00
        · split at h00
          ·cases h00
          ·rename_i hs;simpa using hs
        ·cases h00
      obtain⟨b,off,sn⟩:=a;simp only at hsn;subst hsn;refine⟨b,off,rfl,λj hj=>?_⟩;have hj2:j<zs.length:=ze
      have h4:zs.getD j 0=zs[j]:=by simp[List.getD,hj2]
      have h3:=wf_u8 _ (hwf zs[j] (List.getElem_mem hj2));have:=hcell j hj2;rw[Addr.add_lit,h4]at this;exact⟨zs[j].toNat,by omega,by rw[this,Int.toNat_of_nonneg h3.1]⟩
    · refine⟨0+2,shut_ints 0 ht he hc hb hl hm ?_ (λi hi=>?_) hwf⟩
      · rcases zK zs.length with h0|h0
        ·split <;> omega
        · have:sp a.block=true:=hsp (.cell a.block a.off) (by simp only[MemPlace.row,List.mem_map,List.mem_range];exact⟨0,h0,by simp⟩)
          rw[this];simpa using hlen
      · have h1:=hcell i hi
        rw[Below.cell hbel (by have:=World.block_lt_of_cell? W (a.add i) h1;exact this)];exact h1
def ReadsC(enc:TypeId×Value->H)(W:World)(t:TypeId)(v:Value)(d:DataW H)(p:List MemPlace):Prop:=
  ∀(W':World) (sp:Nat->Bool),Below W.heap.size W W'->(∀q∈p,sp q.block=true)->DataW.Trod enc prog W' 0 sp true t v d p
set_option maxRecDepth 100000 in
theorem bytess_arg{W:World}{b0:Nat}{r:Reach}{t:TypeId}{v:Value}{d:DataW H}{p:List MemPlace}(ht:prog.underlying t=some (.slice 52))(hv:Value.okWide prog W r b0 t v)(h:DataW.Trod enc prog W 0 (λ_=>true) true t v d p):IsBys v W/\ReadsC enc W t v d p:=by
  obtain⟨a,n,c,rfl⟩:=okWide_slice ht hv;obtain⟨fuel,hf⟩:=h;have ha:prog.underlying 52=some (.slice 5):=zc
  have hc:prog.cellsOf 52=1:=zc
  rcases Go.Deep.open_slice1 ht hc (cs:= [.slice a n c]) (x:=(d,p)) (by simpa [Value.cells]using hf)with⟨h1,h2⟩| ⟨a',len,cap,m,fu,V,D,Pl,h1,hb,hl,hm,hmm,h2,hx⟩
  · simp only[List.cons.injEq,and_true]at h1
    cases h1;cases h2;exact tNr1_1
  · simp only[List.cons.injEq,and_true]at h1
    obtain⟨rfl,rfl,rfl⟩:a=some a'/\n=len/\c=cap:=by injection h1 with q1 q2 q3;exact⟨q1,q2,q3⟩
    simp only[if_true]at hmm;subst hmm;cases h2;have hall:=λi (hi:i<m)=>bytes_open (enc:=enc) ha (hx i hi).2
    by_cases h0:m=0
    · subst h0
      obtain rfl:n=0:=ze
      refine⟨⟨_,0,0,rfl,by decide,λh=>absurd rfl h⟩,λW' sp _ _=>?_⟩;by_cases hs:sp a'.block=true
      ·simpa using Go.Deep.shut_slice_whole (enc:=enc) (w:=W') (base:=0) (spare:=sp) (held:=true) ht (Nat.zero_le _) (zN _) hm hs D Pl (λi hi=>by omega)
      ·simpa using Go.Deep.shut_slice (enc:=enc) (w:=W') (base:=0) (spare:=sp) (held:=true) ht (Nat.zero_le _) (zN _) hm (by simpa using hs) D Pl (λi hi=>by omega)
    · have h00:=(hx 0 ze).1
      have hsn:a'.spot=none:=by
        cases hq:a'.spot with
        |none=>rfl
        |some q=>simp[World.cell?,Addr.add,hq]at h00;split at h00 <;> cases h00
      obtain⟨b,off,sn⟩:=a';simp only at hsn;subst hsn;have hcell:∀i,i<m->World.cell? W ⟨b,off+i,none⟩=some (V i):=λi hi=>by have:=(hx i hi).1;rwa [Addr.add_lit]at this
      refine⟨⟨_,n,m,rfl,by unfold maxLen at hm;omega,λhn=>⟨b,off,rfl,λj hj=>⟨V j,hcell j ze,(hall j ze).1⟩⟩⟩,λW' sp hbel hsp=>?_⟩;have hs:sp b=true:=hsp (.cell b off) (by simp only[List.mem_append,MemPlace.row,List.mem_map,List.mem_range];exact .inl ⟨0,by omega,by simp⟩)
      exact Go.Deep.shut_slice_whole1 (enc:=enc) (w:=W') (base:=0) (spare:=sp) (held:=true) ht hc (Nat.zero_le _) hl hm hs V D Pl (λi hi=>by rw[Below.cell hbel (World.block_lt_of_cell? W _ (hcell i hi))];exact hcell i hi)
        (λi hi=>(hall i hi).2 W' sp hbel (λq hq=>hsp q (by simp only[List.mem_append,List.mem_flatMap,List.mem_range];exact .inr ⟨i,hi,hq⟩)))
end
theorem handed_and_shaped{H:Type}{enc:TypeId×Value->H}{a:Assume}{C:Checked}{os:Os}{f:FuncId}{fn:Func}{s:ChangeSpec}{conds:List PathCond}{apart fresh handsOn again:Bool}{X:World->Array Value->Prop}
    (hX:∀(w w':World) (args:Array Value),w.heap=w'.heap->X w args->X w' args)
    (own:ownKnob C.prog.godebug=none) (started:os.Started) (noInit:C.prog.inits.idxOf? f=none) (hfn:C.prog.funcs[f]? =some fn)
    (witness:∃(w:World) (tape:Tape) (i:Input),w.os=os/\(w.forCall tape i).Shaped C.prog/\i.vars= []/\Input.okWide C.prog (w.forCall tape i) .any w.heap.size f i/\
      ((s.pre enc C.prog fn conds apart (w.forCall tape i).memory i.args/\X (w.forCall tape i).memory i.args)/\sizedMet enc C.prog fn (OpenSpec.ofChange s) apart (w.forCall tape i).memory i.args)/\a.holds C.prog (lone (Frame.enter C.prog f i.args .normal) [] (w.forCall tape i)))
    (contract:∀(W:World) (base:Nat) (args:Array Value) (ds gs:List (DataW H)) (before:List MemPlace),
      (∀(j:Nat) t v,fn.params[j]? =some t->args[j]? =some v->Value.okWide C.prog W .any base t v)->
      DataW.Whole enc C.prog fn.params.toList s.vars apart W args.toList ds gs before->X W args->W.ShapedOpen C.prog->
      Calls C.prog f args W λe W'=>∃v,e=.returned v/\s.post enc C.prog fn apart fresh handsOn again W args v W'):
    ReturnsInHanded a C os f .any (λw args=>(s.pre enc C.prog fn conds apart w args/\X w args)/\sizedMet enc C.prog fn (OpenSpec.ofChange s) apart w args) (s.post enc C.prog fn apart fresh handsOn again):=by
  refine returnsInHanded_of_calls own started noInit witness ?_;intro w tape i _ hsh _ hok hpre _;obtain⟨_,_,_,fn',hfn',_,_,_,_,hval⟩:=hok;have e:fn'=fn:=Option.some.inj (hfn'.symm.trans hfn);subst e;obtain⟨⟨⟨ds,gs,before,hw,_⟩,hx⟩,_⟩:=hpre;have hw':=DataW.Whole.of_heap (w':=w.forCall tape i) zab hw;refine(contract (w.forCall tape i) w.heap.size i.args ds gs before hval hw' (hX _ _ _ zab hx) hsh).mono λe W' ⟨v,he,hp⟩=>?_
  subst he;exact ChangeSpec.post_blind hp
theorem tab5{W:World}(h:laidMetH prog Rows.notebookRoundsRow.laid W):Tab W:=by
  rw[MakeChecks.laidMetH_plain _ _ _ (by kernel_rfl)]at h;obtain⟨ps,⟨g0,t0,cs0,f0,p0,q0,hg0,ht0,hv0,hd0,⟨g1,t1,cs1,f1,p1,q1,hg1,ht1,hv1,hd1,⟨g2,t2,cs2,f2,p2,q2,hg2,ht2,hv2,hd2,_,_⟩,_⟩,_⟩,_,_⟩:=h;have hty:(prog.globals[g2]?).map (·.type)=some t2:=ht2;have hg:prog.globalNamed "internal/strconv.uint64pow10" =some 3:=zc
  obtain rfl:=Option.some.inj (hg.symm.trans hg2);have ht:(prog.globals[3]?).map (·.type)=some 216:=zc
  obtain rfl:=Option.some.inj (ht.symm.trans ht2);unfold Tab Lib.TabIs;rw[hv2,<-Lib.cells_of_tab (n:=20) (k:=.u64) (e:=95) (zs:=Lib.pow10Tab) (by kernel_rfl) (by kernel_rfl) (by kernel_rfl) (by kernel_rfl) hd2]
theorem tabM_of{W:World}(h:laidMetH prog Rows.notebookRoundsRow.laid W)(hs:W.ShapedOpen prog):TabM W:=
  ⟨tab5 h,cell_of_shapedOpen_int (g:=0) (t:=3) (zero:= #[.int .i64 0]) (k:=.i64) hs (of_decide_eq_true zc) zc rfl zc zc zc⟩
open Go Go.RowKit
def hgN:Nat->Nd->Prop
  |0,_=>False
  |k+1,x=>∀a∈x.ps,hgN k a
theorem cntN_ps(x:Nd):cntN x=cntL 1 x.ps:=by obtain⟨o,nm,n,v,lo,hi,ps⟩:=x;rw[cntN];rfl
theorem cntL_bd{K:Nat}:∀(l:List Nd) (m:Nat),(∀a∈l,cntN a<=K)->m<=200+K->cntL m l<=200+K
  | [],m,_,h=>by rw[cntL_nil];exact h
  | a ::t,m,ha,h=>by
    rw[cntL_cons]
    split
    ·exact h
    ·exact cntL_bd t _ (λb hb=>ha b (by simp[hb])) (by have:=ha a zo;omega)
theorem hg_cnt:∀(k:Nat) (x:Nd),hgN k x->cntN x<=200*k
  |0,_,h=>h.elim
  | k+1,x,h=>by
    rw[cntN_ps];have:=cntL_bd (K:=200*k) x.ps 1 (λa ha=>hg_cnt k a (h a ha)) ze;omega
theorem gd_hg:∀(k:Nat) (b:Sc) (x:Nd),gdN k b x=true->hgN k x
  |0,_,_,h=>by rw[gdN]at h;cases h
  | k+1,b,x,h=>by
    rw[gdN,Bool.and_eq_true,List.all_eq_true]at h;exact λa ha=>gd_hg k _ a (h.2 a ha)
theorem sz_hg{k:Nat}{b:Sc}{x:Nd}(h:szN k b x≠0):hgN k x:=gd_hg k b x ((szN_ne k b x).1 h).1
theorem cntL_at{l:List Nd}{m:Nat}(h:200<m):cntL m l=m:=by
  cases l with
  |nil=>rw[cntL_nil]
  |cons a t=>rw[cntL_cons,if_pos h]
theorem cntL_drop{l:List Nd}{i m:Nat}{a:Nd}(h:l[i]? =some a)(hm:m<=200):cntL m (l.drop i)=cntL (m+cntN a) (l.drop (i+1)):=by
  rw[List.drop_eq_getElem_cons (List.getElem?_eq_some_iff.1 h).1,(List.getElem?_eq_some_iff.1 h).2,cntL_cons,if_neg (by omega)]
theorem rt_at{l:List Cl}{i:Nat}{x:Cl}(hi:l[i]? =some x):rtL (nms (l.take i)) (l.drop i)=(qT x.nm&&(!(nms (l.take i)).contains x.nm&&(decide (cntN x.e<=200)&&(gdN 20 [] x.e&&rtL (nms (l.take (i+1))) (l.drop (i+1)))))):=by
  rw[rtL_at hi]
  have h:decide (szN 20 [] x.e≠0)=(gdN 20 [] x.e&&decide (cntN x.e<=200)):=by
    rw[Bool.eq_iff_iff,zS,szN_ne];simp
  rw[h];cases qT x.nm <;> cases(nms (l.take i)).contains x.nm <;> cases gdN 20 [] x.e <;> cases decide (cntN x.e<=200) <;> simp
open Go Go.RowKit Go.Maps
section
set_option maxRecDepth 100000
set_option maxHeartbeats 8000000
theorem Has_f{l:Sc}{s:List UInt8}{u:Value}{w:World}(hu:IsSr l u w)(hl:l.length<=1000000000):Calls prog 26 #[u,qB s] w (Ret w (IsV (.bool (decide (s∈l))))):=by
  obtain⟨n,hn⟩:∃n,l.length=n:=⟨_,rfl⟩;obtain⟨ao,cp,rfl,h63,hP⟩:=hu;have HN:=hid (zL hn hl);have HP:=hid hP;obtain⟨sb,hsb⟩:∃y:ByteArray,(⟨s.toArray⟩:ByteArray)=y:=⟨_,rfl⟩;have HSB:=hid hsb;rw[hn,qB,hsb];clear hn hl hP h63 hsb;go_enter func26,ntmps26;go_wp2_with fail
  go_loopg [5] n (λgk v5 wr=>∃i:Nat,v5=.int .i64 (i:Int)/\i+gk=n/\Hid (Ext w wr/\s∉l.take i))
  case atStart=>exact⟨0,rfl,by omega,hid ⟨Ext.refl _,by simp⟩⟩
  case round=>
    obtain⟨i,rfl,hg,S⟩:=hrel;by_cases hi2:i<n
    · have hil:(i:Int)<(n:Int):=by omega
      have hiw:IntKind.i64.wrap ((i:Int)+1)=((i+1:Nat):Int):=zy
      obtain⟨y,hy⟩:∃y,l[i]? =some y:=⟨_,List.getElem?_eq_getElem (by rw[HN.out.1];exact hi2)⟩;obtain⟨g,o,rfl,hc⟩:=HP.out (λe=>by rw[e]at hy;cases hy);obtain⟨sc,hsc⟩:∃y',(⟨y.toArray⟩:ByteArray)=y':=⟨_,rfl⟩;have c0:World.cell? wr ⟨g,o+i,none⟩=some (.string sc):=by rw[<-hsc];exact S.out.1.cell (hc i _ hy)
      have HG:=hid (zL hg (zL hi2 hy));have HSC:=hid hsc;by_cases e:y=s
      · subst e
        obtain rfl:sb=sc:=HSB.out.symm.trans hsc;have HM:=hid (show y∈l from List.mem_of_getElem? hy);clear hg hi2 hy hsc hc;go_wp2_with fail
        go_ret
        exact⟨_,rfl,S.out.1,by rw[decide_eq_true HM.out];rfl⟩
      · have hne:¬sc.toList=sb.toList:=λh=>e (by
          have h9:=jM y s;rw[hsc,HSB.out]at h9;rw[h]at h9
          simpa using h9.symm)
        have hnb:(sc.toList==sb.toList)=false:=by simpa using hne
        have HNE:=hid e;clear hg hi2 hy hsc hc e;go_wp2_with fail
        go_roundg (gk-1)
        case measure=>have:=HG.out;omega
        case rel=>exact⟨i+1,rfl,by have:=HG.out;omega,hid ⟨S.out.1,by rw[List.take_add_one,HG.out.2.2];intro hm;rcases List.mem_append.1 hm with h|h;exact S.out.2 h;exact HNE.out (show s=y by simpa using h).symm⟩⟩
    · have hil:¬((i:Int)<(n:Int)):=by omega
      have HM:=hid (show s∉l by have h:=S.out.2;rwa [List.take_of_length_le (by rw[HN.out.1];omega)]at h);go_wp2_with fail
      go_ret
      exact⟨_,rfl,S.out.1,by rw[decide_eq_false HM.out];rfl⟩
end
theorem ba_at{s:List UInt8}{sb:ByteArray}(h:(⟨s.toArray⟩:ByteArray)=sb){j:Nat}{c:UInt8}(hc:s[j]? =some c):∃hj:j<sb.size,(sb[j]'hj)=c:=by
  subst h;obtain⟨h1,h2⟩:=List.getElem?_eq_some_iff.1 hc;exact⟨h1,h2⟩
theorem ba_atn{s:List UInt8}{sb:ByteArray}(h:(⟨s.toArray⟩:ByteArray)=sb){j:Nat}{c:UInt8}(hc:s[j]? =some c)(hj:j<sb.size):((sb[j]'hj).toNat:Int)=((c.toNat:Nat):Int):=by
  obtain⟨_,h2⟩:=ba_at h hc;rw[h2]
theorem wordB_head{s:List UInt8}{c:UInt8}(h:s[0]? =some c)(hl:s.length<=12):wordB s=(xP c&&s.all qH):=by
  cases s with
  |nil=>simp at h
  | cons a t=>
    obtain rfl:a=c:=zad
    simp only[wordB,decide_eq_true hl,Bool.true_and]
theorem all_at{p:UInt8->Bool}{s:List UInt8}{i:Nat}{c:UInt8}(h:s[i]? =some c)(hp:(s.take i).all p=true):(s.take (i+1)).all p=p c:=by
  rw[List.take_add_one,h,List.all_append,hp];simp
theorem all_no{p:UInt8->Bool}{s:List UInt8}{i:Nat}{c:UInt8}(h:s[i]? =some c)(hp:p c=false):s.all p=false:=by
  rw[Bool.eq_false_iff];intro h2;have:=List.all_eq_true.1 h2 c (List.mem_of_getElem? h);rw[hp]at this;cases this
section
set_option maxRecDepth 100000
set_option maxHeartbeats 8000000
theorem Word_f (s:List UInt8)(w:World):Calls prog 62 #[qB s] w (RSame w (.bool (wordB s))):=by
  obtain⟨n,hn⟩:∃n,s.length=n:=⟨_,rfl⟩;obtain⟨r,hr⟩:∃r,wordB s=r:=⟨_,rfl⟩;obtain⟨sb,hsb⟩:∃y:ByteArray,(⟨s.toArray⟩:ByteArray)=y:=⟨_,rfl⟩;have hsz:sb.size=n:=jp
  have HR:=hid hr;have HS:=hid (zL hsb hn);rw[qB,hsb,hr];clear hr hsb hn;by_cases h0:n=0
  · subst h0
    obtain rfl:r=false:=by rw[<-HR.out,List.length_eq_zero_iff.1 HS.out.2];rfl
    go_enter func62,ntmps62;go_wp2_with fail
    go_ret
    exact rsB rfl rfl
  by_cases h12:12<n
  · have hle:(12:Int)<(n:Int):=by omega
    have hle2:¬(n:Int)<1:=ze
    obtain rfl:r=false:=by rw[<-HR.out];simp[wordB,show ¬s.length<=12 by rw[HS.out.2];omega]
    go_enter func62,ntmps62;go_wp2_with fail
    go_ret
    exact rsB rfl rfl
  · have hle:¬ (12:Int)<(n:Int):=by omega
    have hle2:¬(n:Int)<1:=ze
    obtain⟨c0,hc0⟩:∃c,s[0]? =some c:=⟨_,List.getElem?_eq_getElem (by rw[HS.out.2];omega)⟩;obtain⟨hj0,-⟩:=ba_at HS.out.1 hc0;have hct0:=ba_atn HS.out.1 hc0 hj0;have hw:=wordB_head hc0 (by rw[HS.out.2];omega);rw[HR.out]at hw;obtain⟨p0,hp0⟩:∃p,xP c0=p:=⟨_,rfl⟩;have hL:=λw=>letter_f c0 w
    rw[hp0]at hw;simp only[hp0,bV]at hL;generalize c0.toNat=k0 at hct0 hL;have HL:=hid hL;have HW:=hid hw;have HN:=hid (show n<=12 by omega);clear hL hw hp0 hc0 h0 h12;cases p0 with
    | false=>
      obtain rfl:r=false:=by rw[HW.out];rfl
      go_enter func62,ntmps62;go_wp2_with (go_at_call 79;go_must (refine zG (HL.out _) ?_;rintro e w1 ⟨rfl,rfl⟩))
      go_ret
      exact rsB rfl rfl
    | true=>
      go_enter func62,ntmps62;go_wp2_with (go_at_call 79;go_must (refine zG (HL.out _) ?_;rintro e w1 ⟨rfl,rfl⟩))
      clear hct0 hj0 hle hle2
      go_loopg [3] n (λgk v3 wr=>∃i:Nat,v3=.int .i64 (i:Int)/\i+gk=n/\wr=w/\Hid ((s.take i).all qH=true))
      case atStart=>exact⟨0,rfl,by omega,rfl,hid rfl⟩
      case round=>
        obtain⟨i,rfl,hg,rfl,S⟩:=hrel;by_cases hi:i<n
        · have hil:(i:Int)<(n:Int):=by omega
          have hi0:(0:Int)<=(i:Int):=ze
          have hiw:IntKind.i64.wrap ((i:Int)+1)=((i+1:Nat):Int):=zy
          obtain⟨c,hc⟩:∃c,s[i]? =some c:=⟨_,List.getElem?_eq_getElem (by rw[HS.out.2];exact hi)⟩;obtain⟨hj,-⟩:=ba_at HS.out.1 hc;have hct:=ba_atn HS.out.1 hc hj;have HT:=hid (show(s.take (i+1)).all qH=qH c from all_at hc S.out);have HF:=hid (show qH c=false->r=false from λh=>by rw[HW.out,all_no hc h];rfl);have hq:qH c=(xP c||cDig c||decide (c.toNat=95)):=rfl;obtain⟨p1,hp1⟩:∃p,xP c=p:=⟨_,rfl⟩;obtain⟨p2,hp2⟩:∃p,cDig c=p:=⟨_,rfl⟩;have hL:=λw=>letter_f c w
          have hD:=λw=>digit_f c w
          rw[hp1,hp2]at hq;simp only[hp1,hp2,bV]at hL hD;generalize c.toNat=k at hct hL hD hq;have HL1:=hid hL;have HD1:=hid hD;have HQ:=hid hq;have HG:=hid (zL hg hi);clear hL hD hq hp1 hp2 hc hg hi;by_cases h95:k=95
          · have d95:((k:Int)==95)=true:=by simp;omega
            have d95':((k:Int) !=95)=false:=jh
            have HY:=hid (show qH c=true by rw[HQ.out,decide_eq_true h95];simp);clear h95;cases p1 <;> cases p2
            all_goals
              go_wp2_with (first| (go_at_call 79;go_must (refine zG (HL1.out _) ?_;rintro e w1 ⟨rfl,rfl⟩))| (go_at_call 80;go_must (refine zG (HD1.out _) ?_;rintro e w1 ⟨rfl,rfl⟩)))
              go_roundg (gk-1)
              case measure=>have:=HG.out;omega
              case rel=>exact⟨i+1,rfl,by have:=HG.out;omega,rfl,hid (by rw[HT.out,HY.out])⟩
          · have d95:((k:Int)==95)=false:=by simp;omega
            have d95':((k:Int) !=95)=true:=jh
            have HY:=hid (show qH c=(p1||p2)by rw[HQ.out,decide_eq_false h95];simp);clear h95;cases p1 <;> cases p2
            all_goals
              go_wp2_with (first| (go_at_call 79;go_must (refine zG (HL1.out _) ?_;rintro e w1 ⟨rfl,rfl⟩))| (go_at_call 80;go_must (refine zG (HD1.out _) ?_;rintro e w1 ⟨rfl,rfl⟩)))
              first
              | (go_ret
                 exact rsB rfl (HF.out HY.out).symm)
              | (go_roundg (gk-1)
                 case measure=>have:=HG.out;omega
                 case rel=>exact⟨i+1,rfl,by have:=HG.out;omega,rfl,hid (by rw[HT.out,HY.out];rfl)⟩)
        · have hil:¬((i:Int)<(n:Int)):=by omega
          obtain rfl:r=true:=by
            have h:=S.out;rw[List.take_of_length_le (by rw[HS.out.2];omega)]at h;rw[HW.out,h];rfl
          go_wp2_with fail
          go_ret
          exact rsB rfl rfl
def nm7V:List Value:= [.string ⟨#[118,97,108,117,101]⟩,.string ⟨#[99,111,117,110,116]⟩,.string ⟨#[102,105,114,115,116]⟩,.string ⟨#[109,105,110]⟩,.string ⟨#[109,97,120]⟩,.string ⟨#[108,101,115,115]⟩,.string ⟨#[101,113,117,97,108]⟩]
theorem nm7_of{k:Nat}(h:k<7):∃s,resv[k]? =some s/\nm7V[k]? =some (qB s):=by
  rcases(by omega:k=0\/k=1\/k=2\/k=3\/k=4\/k=5\/k=6)with rfl|rfl|rfl|rfl|rfl|rfl|rfl <;> exact⟨_,rfl,rfl⟩
theorem Name_f(s:List UInt8)(w:World):Calls prog 34 #[qB s] w (RVal w (.bool (qT s))):=by
  have HW:=hid (λw=>Word_f s w);obtain⟨sb,hsb⟩:∃y:ByteArray,(⟨s.toArray⟩:ByteArray)=y:=⟨_,rfl⟩;rw[qB,hsb]at HW;have HSB:=hid hsb;rw[qB,hsb];clear hsb;go_enter func34,ntmps34;go_upto_region 1 with fail;refine rgs 2 [some 5,some 3] [IsRw 0 nm7V,IsRw 0 nm7V] [] ?_ ?_
  · refine Rc (bsC (xs:=nm7V) (hr:=λa w=>⟨9,by unfold nm7V;go_simp⟩)) ?_
    refine Rc (mv (qA (fP:=IsRw 0 nm7V) 0 5)) ?_;exact rn0
  intro x W1 e1 hΦ _;obtain⟨a1,c1,hv1,hnm⟩:=hΦ 1 dcx;rw[show nm7V.length=7 from rfl]at hv1;simp only[lxE,Nat.reduceAdd];rw[hv1];obtain⟨gn,rfl,-,hcells⟩:=hnm (by simp[nm7V]);have HC:=hid hcells;have HE:=hid e1;clear hΦ hv1 hnm hcells e1;refine zI ?_;go_wp2_with fail
  go_loopg [4] 7 (λgk v4 wr=>∃i:Nat,v4=.int .i64 (i:Int)/\i+gk=7/\wr=W1/\Hid (s∉resv.take i))
  case atStart=>exact⟨0,rfl,rfl,rfl,hid zo⟩
  case round=>
    obtain⟨i,rfl,hg,rfl,S⟩:=hrel;by_cases hi:i<7
    · have hil:(i:Int)<(7:Int):=by omega
      have hi0:(0:Int)<=(i:Int):=ze
      have hiw:IntKind.i64.wrap ((i:Int)+1)=((i+1:Nat):Int):=zh
      obtain⟨y,hy,hyv⟩:=nm7_of hi;obtain⟨sc,hsc⟩:∃y',(⟨y.toArray⟩:ByteArray)=y':=⟨_,rfl⟩;have c0:World.cell? wr ⟨gn,i,none⟩=some (.string sc):=by rw[<-hsc];exact HC.out i _ hyv
      have HG:=hid (zL hg (zL hi hy));by_cases e:y=s
      · subst e
        obtain rfl:sb=sc:=HSB.out.symm.trans hsc
        have HM:=hid (show qT y=false by
          rw[qT,show resv.contains y=true from by simpa using List.mem_of_getElem? hy];rfl)
        clear hg hi hy hsc hyv;go_wp2_with fail
        go_ret
        exact⟨by rw[HM.out];rfl,HE.out⟩
      · have hne:¬sb.toList=sc.toList:=λh=>e (by
          have h9:=jM y s;rw[hsc,HSB.out]at h9;rw[<-h]at h9
          simpa using h9.symm)
        have hnb:(sb.toList==sc.toList)=false:=by simpa using hne
        have HNE:=hid e;clear hg hi hy hsc hyv e;go_wp2_with fail
        go_roundg (gk-1)
        case measure=>have:=HG.out;omega
        case rel=>exact⟨i+1,rfl,by have:=HG.out;omega,rfl,hid (by rw[List.take_add_one,HG.out.2.2];intro hm;rcases List.mem_append.1 hm with h|h;exact S.out h;exact HNE.out (show s=y by simpa using h).symm)⟩
    · have hil:¬((i:Int)<(7:Int)):=by omega
      have HM:=hid (show qT s=wordB s by
        have h:=S.out;rw[List.take_of_length_le (by show 7<=i;omega)]at h
        rw[qT,show resv.contains s=false from by simpa using h];rfl)
      go_wp2_with (go_at_call 62;go_must (refine zG (HW.out _) ?_;rintro e w1 ⟨rfl,rfl⟩))
      go_ret
      exact⟨by rw[HM.out];rfl,HE.out⟩
def clsZ(s:List UInt8)(i:Nat):Int:=if (125:UInt8)∈s.drop i then((i+((s.drop i).takeWhile (· !=125)).length:Nat):Int)else -1
theorem clsZ_step{s:List UInt8}{i:Nat}{c:UInt8}(h:s[i]? =some c):clsZ s i=if c=125 then(i:Int)else clsZ s (i+1):=by
  have hd:s.drop i=c ::s.drop (i+1):=zx
  by_cases hc:c=125
  ·rw[if_pos hc,clsZ,hd,hc];simp
  · rw[if_neg hc,clsZ,clsZ,hd]
    have h2:((125:UInt8)∈c ::s.drop (i+1))↔(125:UInt8)∈s.drop (i+1):=by simp[Ne.symm hc]
    by_cases h3:(125:UInt8)∈s.drop (i+1)
    ·rw[if_pos (h2.2 h3),if_pos h3,List.takeWhile_cons,if_pos (by simpa using hc)];simp;omega
    ·rw[if_neg (λh=>h3 (h2.1 h)),if_neg h3]
theorem clsZ_end{s:List UInt8}{i:Nat}(h:s.length<=i):clsZ s i= -1:=by rw[clsZ,List.drop_of_length_le h];simp
theorem closing_f(s:List UInt8)(i0:Nat)(w:World)(hl:s.length<=4611686018427387904):Calls prog 108 #[qB s,.int .i64 (i0:Int)] w (RSame w (.int .i64 (clsZ s i0))):=by
  obtain⟨n,hn⟩:∃n,s.length=n:=⟨_,rfl⟩;obtain⟨r,hr⟩:∃r,clsZ s i0=r:=⟨_,rfl⟩;obtain⟨sb,hsb⟩:∃y:ByteArray,(⟨s.toArray⟩:ByteArray)=y:=⟨_,rfl⟩;have hsz:sb.size=n:=jp
  have HR:=hid hr;have HS:=hid (zL hsb (zL hn hl));rw[qB,hsb,hr];clear hr hsb hn hl;go_enter func108,ntmps108;go_wp2_with fail
  go_loopg [5] (n-i0) (λgk v5 wr=>∃i:Nat,v5=.int .i64 (i:Int)/\gk=n-i/\wr=w/\Hid (clsZ s i=r))
  case atStart=>exact⟨i0,rfl,rfl,rfl,HR⟩
  case round=>
    obtain⟨i,rfl,hg,rfl,S⟩:=hrel;by_cases hi:i<n
    · have hil:(i:Int)<(n:Int):=by omega
      have hi0:(0:Int)<=(i:Int):=ze
      have hiw:IntKind.i64.wrap ((i:Int)+1)=((i+1:Nat):Int):=by have:=HS.out.2;simp only[IntKind.wrap_i64];omega
      obtain⟨c,hc⟩:∃c,s[i]? =some c:=⟨_,List.getElem?_eq_getElem (by rw[HS.out.2.1];exact hi)⟩;obtain⟨hj,-⟩:=ba_at HS.out.1 hc;have hct:=ba_atn HS.out.1 hc hj;have hst:=clsZ_step hc;rw[S.out]at hst;have hk2:c=125↔c.toNat=125:=by rw[<-UInt8.toNat_inj];exact Iff.rfl
      generalize c.toNat=k at hct hk2;have HG:=hid (zL hg hi);by_cases h5:k=125
      · have d5:((k:Int)==125)=true:=by simp;omega
        rw[if_pos (hk2.2 h5)]at hst;have HST:=hid hst;clear hst hk2 h5 hc hg hi;go_wp2_with fail
        go_ret
        exact⟨by rw[HST.out];rfl,rfl⟩
      · have d5:((k:Int)==125)=false:=by simp;omega
        rw[if_neg (λh=>h5 (hk2.1 h))]at hst;have HST:=hid hst;clear hst hk2 h5 hc hg hi;go_wp2_with fail
        go_roundg (n-(i+1))
        case measure=>have:=HG.out;omega
        case rel=>exact⟨i+1,rfl,rfl,rfl,hid HST.out.symm⟩
    · have hil:¬((i:Int)<(n:Int)):=by omega
      obtain rfl:r= -1:=by rw[<-S.out];exact clsZ_end (by rw[HS.out.2.1];omega)
      go_wp2_with fail
      go_ret
      exact⟨rfl,rfl⟩
theorem two_f(op:Int)(w:World):Calls prog 63 #[.int .i64 op] w (RSame w (.bool (xM op))):=by
  obtain⟨r,hr⟩:∃r,xM op=r:=⟨_,rfl⟩;rw[hr];unfold xM at hr;have HR:=hid hr;clear hr;go_enter func63,ntmps63
  go_wp2
  all_goals (go_ret;refine rsB rfl ?_;rw[<-HR.out,Bool.eq_iff_iff];simp <;> omega)
theorem bind_f(op:Int)(w:World):Calls prog 65 #[.int .i64 op] w (RSame w (.bool (qZ op))):=by
  obtain⟨r,hr⟩:∃r,qZ op=r:=⟨_,rfl⟩;rw[hr];unfold qZ at hr;have HR:=hid hr;clear hr;go_enter func65,ntmps65
  go_wp2
  all_goals (go_ret;refine rsB rfl ?_;rw[<-HR.out,Bool.eq_iff_iff];simp <;> omega)
end
end Go.Proofs.YtenhciieboegbaaGreatDoor
