/- Lemmas. -/
import Derived.Test.YtkeikfekkdplgaaGreatDoorFact
import Derived.LaidMore
import Derived.MakeChecks
import Derived.Test.YtkeikfekkdplgaaGreatDoorRows
import Derived.Lib.SmallJoins
import Derived.ChangeSlices
import Derived.ChangeSame
import Derived.Below
import Derived.ProofKit
import Derived.Stop.Joined
import Derived.OpenShut
import Derived.Test.YtkeikfekkdplgaaGreatDoorBase
import Derived.Test.YtkeikfekkdplgaaGreatDoorDivW
namespace Go.Proofs.YtkeikfekkdplgaaGreatDoor
section
open Go Go.RowKit Go.ChangeShapes Go.WideShapes Go.ChangeAt Go.Joins
section
variable {H:Type} {enc:TypeId×Value->H}
theorem post_of_below{P:Program}{f:Func}{s:ChangeSpec}{apart fresh handsOn again:Bool}{W W':World}{args:Array Value}{v:Value}{ds gs:List (DataW H)}{before pa pv:List MemPlace}
  (hW:DataW.Whole enc P f.params.toList s.vars apart W args.toList ds gs before)
  (hres:∀(b:Nat) (sp:Nat->Bool) (hd:Bool),DataW.TrodAll enc P W' b sp hd f.resultTypes.toList (v.resultList f.resultTypes.size) (s.fn H (ds++gs)).results [])
  (hargs:∀sp:Nat->Bool,(∀p∈before,sp p.block=true)->DataW.TrodAll enc P W' 0 sp true f.params.toList args.toList (s.fn H (ds++gs)).args pa)
  (hvars:∀sp:Nat->Bool,(∀p∈before,sp p.block=true)->DataW.TrodVars enc P W' sp s.vars (s.fn H (ds++gs)).vars pv)
  (hps:before=pa++pv) (hb:Below W.heap.size W W')
  (hok:∀(j:Nat) (t:TypeId) (r:Value),f.resultTypes[j]? =some t->(v.resultList f.resultTypes.size)[j]? =some r->Value.okWide P W' .any 0 t r):
  s.post enc P f apart fresh handsOn again W args v W':=by
 have hlt:∀p∈before,p.block<W.heap.size:=λp hp=>hW.lt p hp
 have hold:∀p∈before,(λb=>decide (b<W.heap.size)) p.block=true:=λp hp=>by simpa using hlt p hp
 refine⟨ds,gs,before, [],pa,pv,hW,hres _ _ _,hargs _ hold,hvars _ hold,World.keptBut_mono (λp hp=>⟨hp,?_⟩) (hb.frame (· ∈before)),λ_=>?_⟩
 ·rw[hps,List.mem_append]at hp;exact Or.inr hp
 ·obtain⟨_,_,_,_,_,hz,hn⟩:=hW;refine⟨hok,_,_,([]++pa)++pv,⟨[]++pa,pv,trodAll_append (hargs _ (λ_ _=>rfl)) (hres _ _ _),hvars _ (λ_ _=>rfl),rfl,?_,?_⟩,?_⟩
  ·intro b off hp;have hin:MemPlace.cell b off∈before:=by rw[hps];simpa using hp
   rw[hb.frozen (hlt _ hin)];exact hz b off hin
  ·intro ha;have:=hn ha;rw[hps]at this
   simpa using this
  ·intro p hp _;rw[hps]
   simpa using hp
end
theorem own:ownKnob Tryz.prog.godebug=none:=by kernel_rfl
theorem wf_u8(n:Int)(h:(Lit.int .u8 n).wf=true):0<=n/\n<=255:=by
 simp only[Lit.wf,Bool.and_eq_true,jY]at h;have h1:IntKind.min .u8=0:=rfl;have h2:IntKind.max .u8=255:=rfl;rw[h1,h2]at h;exact h
end
section
open Go Go.RowKit
open Go.Proofs.Tryz
structure Bo (w:World) (g i:Nat) (s:Bool) (a:Option Addr) (n c:Nat):Prop where
 c0:w.cell? ⟨g,2 * i,none⟩=some (.bool s)
 c1:w.cell? ⟨g,2 * i + 1,none⟩=some (.slice a n c)
 f0:w.frozen? ⟨g,2 * i,none⟩=false
 f1:w.frozen? ⟨g,2 * i + 1,none⟩=false
theorem Bo.lt{w:World}{g i n c:Nat}{s:Bool}{a:Option Addr}(h:Bo w g i s a n c):g < w.heap.size:=World.block_lt_of_cell? w ⟨g,2 * i,none⟩ h.c0
theorem Bo.ext{w w':World}{g i n c:Nat}{s:Bool}{a:Option Addr}(h:Bo w g i s a n c)(e:Ext w w'):Bo w' g i s a n c:=
 ⟨e.cell h.c0,e.cell h.c1,(e.frozen h.lt).trans h.f0,(e.frozen h.lt).trans h.f1⟩
def Po(g i:Nat)(w w':World):Prop:=
 (∀g2 i2 s a n c,(g2,i2)≠ (g,i) ->Bo w g2 i2 s a n c ->Bo w' g2 i2 s a n c)/\Gr w w'/\ (∀w0:World,Ext w0 w ->w0.heap.size <=g ->Ext w0 w')
theorem Bo.put{w:World}{g i n c:Nat}{s:Bool}{a:Option Addr}(b:Bo w g i s a n c)(s':Bool)(a':Option Addr)(n' c':Nat):
  ∃W,W =(w.setCell ⟨g,2 * i,none⟩ (.bool s')).setCell ⟨g,2 * i + 1,none⟩ (.slice a' n' c')/\Bo W g i s' a' n' c'/\Po g i w W:=by
 refine⟨_,rfl,⟨?_,?_,?_,?_⟩,λg2 i2 s2 a2 n2 c2 hg b2 =>?_,?_,λw0 e hg =>(e.set hg _).set hg _⟩
 ·rw[World.cell?_setCell_other _ _ _ _ (by simp),World.cell?_setCell_same _ _ _ b.c0]
 ·refine World.cell?_setCell_same _ _ _ (u:=.slice a n c) ?_
  rw[World.cell?_setCell_other _ _ _ _ (by simp)];exact b.c1
 ·simp[b.f0]
 ·simp[b.f1]
 ·have h:∀j k:Nat,j <=1 ->k <=1 ->(⟨g,2 * i + j,none⟩:Addr)≠ ⟨g2,2 * i2 + k,none⟩ :=λj k hj hk he =>by
   injection he with e1 e2
   exact hg (by rw[show g2 =g from e1.symm,show i2 =i by omega])
  have h00:(⟨g,2 * i,none⟩:Addr)≠ ⟨g2,2 * i2,none⟩ :=h 0 0 (by omega) (by omega)
  have h10:(⟨g,2 * i + 1,none⟩:Addr)≠ ⟨g2,2 * i2,none⟩ :=h 1 0 (by omega) (by omega)
  have h01:(⟨g,2 * i,none⟩:Addr)≠ ⟨g2,2 * i2 + 1,none⟩ :=h 0 1 (by omega) (by omega)
  have h11:(⟨g,2 * i + 1,none⟩:Addr)≠ ⟨g2,2 * i2 + 1,none⟩ :=h 1 1 (by omega) (by omega)
  refine⟨?_,?_,?_,?_⟩
  ·rw[World.cell?_setCell_other _ _ _ _ h10,World.cell?_setCell_other _ _ _ _ h00];exact b2.c0
  ·rw[World.cell?_setCell_other _ _ _ _ h11,World.cell?_setCell_other _ _ _ _ h01];exact b2.c1
  ·simp[b2.f0]
  ·simp[b2.f1]
 ·refine((Gr.refl w).set b.c0 (NoWord.bool _) _).set (p:=⟨g,2 * i + 1,none⟩) (u:=.slice a n c) ?_ (NoWord.slice _ _ _) _
  rw[World.cell?_setCell_other _ _ _ _ (by simp)];exact b.c1
abbrev Fld:=(Nat×Nat)× (Value ->World ->Prop)
structure Sto (w0 w:World) (B:List Fld):Prop where
 ext:Ext w0 w
 box:∀p∈B,w0.heap.size <=p.1.1/\∃s a n c,Bo w p.1.1 p.1.2 s a n c/\p.2 (.agg #[.bool s,.slice a n c]) w
 stb:∀p∈B,GStb p.2
 apart:B.Pairwise (λp q =>p.1≠q.1)
theorem Sto.start(w:World):Sto w w [] :=⟨Ext.refl w,(λ_ h =>by cases h),(λ_ h =>by cases h),List.Pairwise.nil⟩
theorem Sto.mono{w0 w w':World}{B:List Fld}(h:Sto w0 w B)(e:Ext w w'):Sto w0 w' B:=
 ⟨h.ext.trans e,λp hp =>let ⟨h1,s,a,n,c,h2,h3⟩ :=h.box p hp;⟨h1,s,a,n,c,h2.ext e,h.stb p hp _ _ _ e.gr h3⟩,h.stb,h.apart⟩
theorem Sto.lt{w0 w:World}{B:List Fld}(h:Sto w0 w B):∀p∈B,p.1.1 < w.heap.size:=λp hp =>let ⟨_,_,_,_,_,h2,_⟩ :=h.box p hp;h2.lt
theorem Sto.at{w0 w:World}{B:List Fld}(h:Sto w0 w B)(i:Nat)(g k:Nat)(fP:Value ->World ->Prop)(hp:B[i]? =some ((g,k),fP)):
  ∃s a n c,Bo w g k s a n c/\fP (.agg #[.bool s,.slice a n c]) w:=(h.box _ (List.mem_of_getElem? hp)).2
theorem Sto.add{w0 w:World}{B:List Fld}(h:Sto w0 w B){g k:Nat}{s:Bool}{a:Option Addr}{n c:Nat}{fP:Value ->World ->Prop}(hb:Bo w g k s a n c)(hg:w0.heap.size <=g)(hn:∀p∈B,p.1≠ (g,k))
  (hs:GStb fP) (hZ:fP (.agg #[.bool s,.slice a n c]) w):Sto w0 w (((g,k),fP) ::B) :=by
 refine⟨h.ext,λp hp =>?_,λp hp =>?_,List.Pairwise.cons (λq hq he =>hn q hq he.symm) h.apart⟩
 ·rcases List.mem_cons.1 hp with rfl|hp
  ·exact⟨hg,s,a,n,c,hb,hZ⟩
  ·exact h.box p hp
 ·rcases List.mem_cons.1 hp with rfl|hp
  ·exact hs
  ·exact h.stb p hp
theorem Sto.put{w0 w:World}{B:List Fld}(h:Sto w0 w B)(i:Nat)(g k:Nat)(fP fS:Value ->World ->Prop)(hp:B[i]? =some ((g,k),fP))(s:Bool)(a:Option Addr)(n c:Nat)(hs:GStb fS)(hG:fS (.agg #[.bool s,.slice a n c]) w):
  ∃W,W =(w.setCell ⟨g,2 * k,none⟩ (.bool s)).setCell ⟨g,2 * k + 1,none⟩ (.slice a n c)/\Sto w0 W (B.set i ((g,k),fS))/\Gr w W:=by
 obtain⟨s',a',n',c',hb,_⟩ :=(h.box _ (List.mem_of_getElem? hp)).2
 have hg:w0.heap.size <=g:=(h.box _ (List.mem_of_getElem? hp)).1
 obtain⟨W,h1,h2,h3⟩ :=hb.put s a n c
 have hi:i < B.length:=(List.getElem?_eq_some_iff.1 hp).1
 have hBi:B[i]=((g,k),fP) :=(List.getElem?_eq_some_iff.1 hp).2
 refine⟨W,h1,⟨h3.2.2 _ h.ext hg,λp hpm =>?_,λp hpm =>?_,?_⟩,h3.2.1⟩
 ·rcases List.mem_or_eq_of_mem_set hpm with hpm'|rfl
  ·by_cases hgp:p.1 =(g,k)
   ·obtain⟨j,hj,hpj⟩ :=List.mem_iff_getElem.1 hpm
    by_cases hij:i =j
    ·subst hij
     rw[List.getElem_set_self]at hpj
     subst hpj
     exact⟨hg,s,a,n,c,h2,hs _ _ _ h3.2.1 hG⟩
    ·rw[List.getElem_set_ne hij]at hpj
     exfalso
     have hj':j < B.length:=yx
     rcases Nat.lt_or_gt_of_ne hij with hlt|hlt
     ·have:=List.pairwise_iff_getElem.1 h.apart i j hi hj' hlt
      rw[hBi,hpj]at this;exact this hgp.symm
     ·have:=List.pairwise_iff_getElem.1 h.apart j i hj' hi hlt
      rw[hBi,hpj]at this;exact this hgp
   ·obtain⟨h4,s4,a4,n4,c4,h5,h6⟩ :=h.box p hpm'
    exact⟨h4,s4,a4,n4,c4,h3.1 _ _ _ _ _ _ hgp h5,h.stb p hpm' _ _ _ h3.2.1 h6⟩
  ·exact⟨hg,s,a,n,c,h2,hs _ _ _ h3.2.1 hG⟩
 ·rcases List.mem_or_eq_of_mem_set hpm with hpm'|rfl
  ·exact h.stb p hpm'
  ·exact hs
 ·rw[List.pairwise_iff_getElem]
  intro j l hj hl hjl
  have hj':j < B.length:=yx
  have hl':l < B.length:=by simpa using hl
  have key:=List.pairwise_iff_getElem.1 h.apart j l hj' hl' hjl
  rw[List.getElem_set,List.getElem_set]
  split
  ·rename_i h5;subst h5
   rw[hBi]at key
   split
   ·omega
   ·exact key
  ·split
   ·rename_i h5;subst h5;rw[hBi]at key;exact key
   ·exact key
def ApartO(g:Nat)(B:List Fld):Prop:=∀p∈B,p.1.1≠g
theorem ApartO.old{W:World}{B:List Fld}{g:Nat}(h:∀p∈B,p.1.1 < W.heap.size)(hg:W.heap.size <=g):ApartO g B:=λp hp he =>by have:=h p hp;omega
theorem ApartO.cons{g g' k:Nat}{fP:Value ->World ->Prop}{B:List Fld}(h:g'≠g)(l:ApartO g B):ApartO g (((g',k),fP) ::B) :=λp hp =>by
 rcases List.mem_cons.1 hp with rfl|hp
 ·exact h
 ·exact l p hp
def IsBo(w0:World)(m:Nat):Value ->World ->Prop:=λx w =>∃g,x =.pointer (some ⟨g,0,none⟩)/\w0.heap.size <=g/\ (∀i,i < m ->Bo w g i false none 0 0)/\g < w.heap.size
theorem IsBo.stb(w0:World)(m:Nat):Stb (IsBo w0 m) :=λ_ _ _ e ⟨g,h1,h2,h3,h4⟩ =>⟨g,h1,h2,λi hi =>(h3 i hi).ext e,Nat.lt_of_lt_of_le h4 e.size⟩
instance (w0:World) (m:Nat):StbC (IsBo w0 m) :=⟨IsBo.stb w0 m⟩
theorem IsBo.box(w0:World)(m:Nat):IsBox (IsBo w0 m) :=λ_ _ ⟨g,h1,_,_,h4⟩ =>⟨g,h1,h4⟩
def newF(g:Nat):Nat ->List Fld
 |0 => []
 |m + 1 =>((g,m),IsI 0 0) ::newF g m
theorem newF.lt{g m:Nat}:∀p∈newF g m,p.1.1 =g/\p.1.2 < m:=by
 induction m with
 |zero =>intro p hp;cases hp
 | succ m ih =>
  intro p hp
  rcases List.mem_cons.1 hp with rfl|hp
  ·exact⟨rfl,Nat.lt_succ_self m⟩
  ·have:=ih p hp;exact⟨this.1,by omega⟩
theorem Sto.addN{w0 w:World}{B:List Fld}(h:Sto w0 w B){g:Nat}(m:Nat)(hn:ApartO g B)(hg:w0.heap.size <=g)(hb:∀i,i < m ->Bo w g i false none 0 0):Sto w0 w (newF g m ++B) :=by
 induction m with
 |zero =>exact h
 | succ m ih =>
  refine(ih λi hi =>hb i (by omega)).add (hb m (by omega)) hg (λp hp he =>?_) (IsI.gstb 0 0) (IsI.nil w 0)
  rcases List.mem_append.1 hp with hp|hp
  ·have:=(newF.lt p hp).2;rw[he]at this;simp at this
  ·exact hn p hp (by rw[he])
theorem Bo.new1(w:World)(s:Bool)(a:Option Addr)(n c:Nat)(t:TypeId):Bo (w.alloc (.cells #[.bool s,.slice a n c] t)) w.heap.size 0 s a n c:=⟨by simp,by simp,by simp,by simp⟩
theorem Bo.new2(w:World)(s s':Bool)(a a':Option Addr)(n c n' c':Nat)(t:TypeId):
  Bo (w.alloc (.cells #[.bool s,.slice a n c,.bool s',.slice a' n' c'] t)) w.heap.size 0 s a n c/\Bo (w.alloc (.cells #[.bool s,.slice a n c,.bool s',.slice a' n' c'] t)) w.heap.size 1 s' a' n' c':=
 ⟨⟨by simp,by simp,by simp,by simp⟩,⟨by simp,by simp,by simp,by simp⟩⟩
theorem IsBo.new1(w0 w:World)(t:TypeId)(h:w0.heap.size <=w.heap.size):IsBo w0 1 (.pointer (some ⟨w.heap.size,0,none⟩)) (w.alloc (.cells #[.bool false,.slice none 0 0] t)) :=by
 refine⟨_,rfl,h,λi hi =>?_,?_⟩
 ·skip
  obtain rfl:i =0:=by omega
  exact Bo.new1 _ _ _ _ _ _
 ·simp
theorem IsBo.new2(w0 w:World)(t:TypeId)(h:w0.heap.size <=w.heap.size):IsBo w0 2 (.pointer (some ⟨w.heap.size,0,none⟩)) (w.alloc (.cells #[.bool false,.slice none 0 0,.bool false,.slice none 0 0] t)) :=by
 refine⟨_,rfl,h,λi hi =>?_,?_⟩
 ·skip
  have b:=Bo.new2 w false false none none 0 0 0 0 t
  rcases(by omega:i =0\/i =1)with rfl|rfl
  ·exact b.1
  ·exact b.2
 ·simp
theorem Sto.new1{w0 w:World}{B:List Fld}(h:Sto w0 w B)(g:Nat)(hg:w.heap.size =g)(s:Bool)(a:Option Addr)(n c:Nat)(t:TypeId)(fP:Value ->World ->Prop)(hs:GStb fP)(hZ:fP (.agg #[.bool s,.slice a n c]) w):
  Sto w0 (w.alloc (.cells #[.bool s,.slice a n c] t)) (((g,0),fP) ::B) :=by
 subst hg
 have e:Ext w (w.alloc (.cells #[.bool s,.slice a n c] t)) :=(Ext.refl w).alloc _
 exact(h.mono e).add (Bo.new1 _ _ _ _ _ _) h.ext.size (λp hp he =>by have:=h.lt p hp;rw[he]at this;simp at this) hs (hs _ _ _ e.gr hZ)
theorem Sto.new2{w0 w:World}{B:List Fld}(h:Sto w0 w B)(g:Nat)(hg:w.heap.size =g)(s s':Bool)(a a':Option Addr)(n c n' c':Nat)(t:TypeId)(fP fS:Value ->World ->Prop)(hs:GStb fP)(hZ:fP (.agg #[.bool s,.slice a n c]) w)(hs':GStb fS)(hG:fS (.agg #[.bool s',.slice a' n' c']) w):
  Sto w0 (w.alloc (.cells #[.bool s,.slice a n c,.bool s',.slice a' n' c'] t)) (((g,1),fS) ::((g,0),fP) ::B) :=by
 subst hg
 have e:Ext w (w.alloc (.cells #[.bool s,.slice a n c,.bool s',.slice a' n' c'] t)) :=(Ext.refl w).alloc _
 have b:=Bo.new2 w s s' a a' n c n' c' t
 have hl:∀p∈B,p.1.1≠w.heap.size:=λp hp he =>by have:=h.lt p hp;omega
 refine((h.mono e).add b.1 h.ext.size (λp hp he =>hl p hp (by rw[he])) hs (hs _ _ _ e.gr hZ)).add b.2 h.ext.size (λp hp he =>?_) hs' (hs' _ _ _ e.gr hG)
 rcases List.mem_cons.1 hp with rfl|hp
 ·simp at he
 ·exact hl p hp (by rw[he])
def IsQ(fP fS:Value ->World ->Prop):Value ->World ->Prop:=λx w =>∃s a n c s' a' n' c',x =.agg #[.bool s,.slice a n c,.bool s',.slice a' n' c']/\fP (.agg #[.bool s,.slice a n c]) w/\fS (.agg #[.bool s',.slice a' n' c']) w
theorem IsQ.gstb{fP fS:Value ->World ->Prop}(h:GStb fP)(k:GStb fS):GStb (IsQ fP fS) :=λ_ _ _ e ⟨s,a,n,c,s',a',n',c',h1,h2,h3⟩ =>⟨s,a,n,c,s',a',n',c',h1,h _ _ _ e h2,k _ _ _ e h3⟩
theorem IsQ.stb{fP fS:Value ->World ->Prop}(h:Stb fP)(k:Stb fS):Stb (IsQ fP fS) :=λ_ _ _ e ⟨s,a,n,c,s',a',n',c',h1,h2,h3⟩ =>⟨s,a,n,c,s',a',n',c',h1,h _ _ _ e h2,k _ _ _ e h3⟩
instance {fP fS:Value ->World ->Prop} [StbC fP] [StbC fS]:StbC (IsQ fP fS) :=⟨IsQ.stb StbC.out StbC.out⟩
def IsJ(fP fS fQ fT:Value ->World ->Prop):Value ->World ->Prop:=λx w =>∃s a n c s' a' n' c' s2 a2 n2 c2 s3 a3 n3 c3,
 x =.agg #[.bool s,.slice a n c,.bool s',.slice a' n' c',.bool s2,.slice a2 n2 c2,.bool s3,.slice a3 n3 c3]/\fP (.agg #[.bool s,.slice a n c]) w/\fS (.agg #[.bool s',.slice a' n' c']) w/\fQ (.agg #[.bool s2,.slice a2 n2 c2]) w/\fT (.agg #[.bool s3,.slice a3 n3 c3]) w
theorem IsJ.stb{fP fS fQ fT:Value ->World ->Prop}(h:Stb fP)(k:Stb fS)(l:Stb fQ)(m:Stb fT):Stb (IsJ fP fS fQ fT) :=
 λ_ _ _ e ⟨s,a,n,c,s',a',n',c',s2,a2,n2,c2,s3,a3,n3,c3,h1,h2,h3,h4,h5⟩ =>⟨s,a,n,c,s',a',n',c',s2,a2,n2,c2,s3,a3,n3,c3,h1,h _ _ _ e h2,k _ _ _ e h3,l _ _ _ e h4,m _ _ _ e h5⟩
instance {fP fS fQ fT:Value ->World ->Prop} [StbC fP] [StbC fS] [StbC fQ] [StbC fT]:StbC (IsJ fP fS fQ fT) :=⟨IsJ.stb StbC.out StbC.out StbC.out StbC.out⟩
section
variable {P:Program} {ops:Array Oper} {Q:Exit ->Act ->World ->Prop} {ds:List (Option Tmp)} {a0:Act} {w0:World} {L:List (Value ->World ->Prop)} {boxes:List Nat} {i k:Nat} {o:Oper} {os:List Oper}
structure Od (ops:Array Oper) (ds:List (Option Tmp)) (a0:Act) (w0:World) (L:List (Value ->World ->Prop)) (i:Nat) (x:Operand) (fP:Value ->World ->Prop):Prop where
 out:∀(v:Nat ->Value) (a:Act) (w:World),Ext w0 w ->(∀j,(ups .any ops i).contains j =true ->L.getD j (λ_ _ =>True) (v j) w) ->Fr ds a0 v a ->fP (a.eval x) w
structure Ok (P:Program) (ops:Array Oper) (Q:Exit ->Act ->World ->Prop) (ds:List (Option Tmp)) (a0:Act) (w0:World) (L:List (Value ->World ->Prop)) (boxes:List Nat) (i:Nat) (o:Oper):Prop where
 out:OpOk P .any ops Q ds a0 w0 L boxes i o
theorem eval_tmp(a:Act)(t:Nat):a.eval (.tmp t)=a.tmps[t]?.getD undef:=by simp[Act.eval]
theorem qC(j t:Nat)(hu:(ups .any ops i).contains j =true:=by kernel_rfl)(h1:ds[j]? =some (some t) :=by kernel_rfl)(h2:(ds.drop (j + 1)).contains (some t)=false:=by kernel_rfl)(h3:decide (t < a0.tmps.size)=true:=by kernel_rfl):
  Od ops ds a0 w0 L i (.tmp t) (L.getD j (λ_ _ =>True)) :=
 ⟨λv a w _ hd hf =>by rw[eval_tmp,hf.val j t _ rfl h1 h2 h3];exact hd j hu⟩
theorem qA(j t:Nat){fP:Value ->World ->Prop}(hL:L.getD j (λ_ _ =>True)=fP:=by kernel_rfl)(hu:(ups .any ops i).contains j =true:=by kernel_rfl)(h1:ds[j]? =some (some t) :=by kernel_rfl)(h2:(ds.drop (j + 1)).contains (some t)=false:=by kernel_rfl)(h3:decide (t < a0.tmps.size)=true:=by kernel_rfl):
  Od ops ds a0 w0 L i (.tmp t) fP:=hL ▸ qC j t hu h1 h2 h3
theorem qB(t:Nat){x:Value}(h1:ds.contains (some t)=false:=by kernel_rfl)(h2:a0.tmps[t]? =some x:=by kernel_rfl):Od ops ds a0 w0 L i (.tmp t) (IsV x) :=
 ⟨λv a w _ _ hf =>by rw[eval_tmp,hf.lit t x h1 h2];exact rfl⟩
theorem qE{x:Value}:Od ops ds a0 w0 L i (.const x) (IsV x) :=⟨λ_ _ _ _ _ _ =>rfl⟩
theorem Rc(h:Ok P ops Q ds a0 w0 L boxes i o)(hs:RgAll P .any ops Q ds a0 w0 L boxes (i + 1) k os)(hg:o.guard =none:=by rfl):RgAll P .any ops Q ds a0 w0 L boxes i (k + 1) (o ::os) :=
 ⟨RgL.mk hg h.out,hs⟩
theorem RcG(g t:Nat)(b:Bool)(h:Ok P ops Q ds a0 w0 L boxes i o)(hs:RgAll P .any ops Q ds a0 w0 L boxes (i + 1) k os)(hg:o.guard =some (g,b) :=by rfl)(hdst:qP ops g =some t:=by kernel_rfl)(h1:ds[g]? =some (some t) :=by kernel_rfl)(h2:(ds.drop (g + 1)).contains (some t)=false:=by kernel_rfl)(h3:decide (t < a0.tmps.size)=true:=by kernel_rfl)(hu:(ups .any ops i).contains g =true:=by kernel_rfl)
  (hL:L.getD g (λ_ _ =>True)=IsV (.bool b) :=by kernel_rfl):RgAll P .any ops Q ds a0 w0 L boxes i (k + 1) (o ::os) :=
 ⟨RgL.mkG g t b hg hdst h1 h2 h3 hu (λ_ _ h =>by rw[hL]at h;exact h) h.out,hs⟩
theorem RcN(g t:Nat)(b:Bool)(hs:RgAll P .any ops Q ds a0 w0 L boxes (i + 1) k os)(hg:o.guard =some (g,!b) :=by rfl)(hdst:qP ops g =some t:=by kernel_rfl)(h1:ds[g]? =some (some t) :=by kernel_rfl)(h2:(ds.drop (g + 1)).contains (some t)=false:=by kernel_rfl)(h3:decide (t < a0.tmps.size)=true:=by kernel_rfl)(hu:(ups .any ops i).contains g =true:=by kernel_rfl)
  (hL:L.getD g (λ_ _ =>True)=IsV (.bool b) :=by kernel_rfl) (hb:boxes.contains i =false:=by kernel_rfl) (hi:L.getD i (λ_ _ =>True)=IsV undef:=by kernel_rfl):RgAll P .any ops Q ds a0 w0 L boxes i (k + 1) (o ::os) :=
 ⟨RgL.mkN g t b hg hdst h1 h2 h3 hu (λ_ _ h =>by rw[hL]at h;exact h) hb (λ_ =>by rw[hi];exact rfl),hs⟩
theorem Ok.of(hb:boxes.contains i =false)(h:∀(v:Nat ->Value) (a:Act) (w:World),Ext w0 w ->(∀j,(ups .any ops i).contains j =true ->L.getD j (λ_ _ =>True) (v j) w) ->Fr ds a0 v a ->
  ∃x,(execOp a.eval o).run P w =.ok (.value x) w/\L.getD i (λ_ _ =>True) x w):Ok P ops Q ds a0 w0 L boxes i o:=
 ⟨fun v a w hE hd hf K hK =>by
  obtain⟨x,hr,hx⟩ :=h v a w hE hd hf
  unfold Oper.wp
  rw[hr]
  exact hK.out x w (Ext.refl _) hx (FreshIf.no hb)⟩
theorem mv{x:Operand}(hx:Od ops ds a0 w0 L i x (L.getD i (λ_ _ =>True)))(ho:(o.op =.move x\/o.op =.assign x) :=by first|exact .inl rfl|exact .inr rfl)(hb:boxes.contains i =false:=by kernel_rfl):Ok P ops Q ds a0 w0 L boxes i o:=
 Ok.of hb λv a w hE hd hf =>by
  have h:=hx.out v a w hE hd hf
  refine⟨a.eval x,?_,h⟩
  unfold execOp
  rcases ho with ho|ho <;> rw[ho] <;> rfl
theorem fa{x:Operand}{T f:Nat}{p r:Value}(hr:∀w,(Instr.fieldAt T p f).run P w =.ok r w)(hx:Od ops ds a0 w0 L i x (IsV p))(ho:o.op =.fieldAddr T x f:=by rfl)(hi:L.getD i (λ_ _ =>True)=IsV r:=by kernel_rfl)(hb:boxes.contains i =false:=by kernel_rfl):Ok P ops Q ds a0 w0 L boxes i o:=
 Ok.of hb λv a w hE hd hf =>by
  have h:a.eval x =p:=hx.out v a w hE hd hf
  refine⟨r,?_,by rw[hi];exact rfl⟩
  have:=hr w
  unfold execOp
  rw[ho]
  dsimp only
  rw[h]
  simp[this]
def LdI(P:Program)(T:TypeId):Prop:=∀(w:World) (b f:Nat) (s:Bool) (a:Option Addr) (n c:Nat),w.cell? ⟨b,f,none⟩=some (.bool s) ->w.cell? ⟨b,f + 1,none⟩=some (.slice a n c) ->(Instr.loadAt T (.pointer (some ⟨b,f,none⟩))).run P w =.ok (.agg #[.bool s,.slice a n c]) w
def LdQ(P:Program)(T:TypeId):Prop:=∀(w:World) (b f:Nat) (s:Bool) (a:Option Addr) (n c:Nat) (s':Bool) (a':Option Addr) (n' c':Nat),w.cell? ⟨b,f,none⟩=some (.bool s) ->w.cell? ⟨b,f + 1,none⟩=some (.slice a n c) ->w.cell? ⟨b,f + 2,none⟩=some (.bool s') ->w.cell? ⟨b,f + 3,none⟩=some (.slice a' n' c') ->
 (Instr.loadAt T (.pointer (some ⟨b,f,none⟩))).run P w =.ok (.agg #[.bool s,.slice a n c,.bool s',.slice a' n' c']) w
theorem ld_run{x:Operand}{T:Nat}{a:Act}{p u:Value}{w:World}(ho:o.op =.load T x)(h:a.eval x =p)(hr:(Instr.loadAt T p).run P w =.ok u w):(execOp a.eval o).run P w =.ok (.value u) w:=by
 unfold execOp
 rw[ho]
 dsimp only
 rw[h]
 simp[hr]
theorem ldI{W:World}{B:List Fld}(S:Sto W w0 B)(j g q:Nat){T:Nat}{x:Operand}(hx:Od ops ds a0 w0 L i x (IsV (.pointer (some ⟨g,2 * q,none⟩))))(hT:LdI P T)(ho:o.op =.load T x:=by rfl)
  (hi:B[j]? =some ((g,q),L.getD i (λ_ _ =>True)) :=by kernel_rfl) (hb:boxes.contains i =false:=by kernel_rfl):Ok P ops Q ds a0 w0 L boxes i o:=
 Ok.of hb λv a w hE hd hf =>by
  have h:a.eval x =_:=hx.out v a w hE hd hf
  obtain⟨s,a',n,c,b,h'⟩ :=(S.mono hE).at j g q _ hi
  exact⟨_,ld_run ho h (hT w g (2 * q) _ _ _ _ b.c0 b.c1),h'⟩
theorem ldQ{W:World}{B:List Fld}(S:Sto W w0 B)(j j2 g q:Nat){T:Nat}{x:Operand}{fP fS:Value ->World ->Prop}(hx:Od ops ds a0 w0 L i x (IsV (.pointer (some ⟨g,2 * q,none⟩))))(hT:LdQ P T)(h1:B[j]? =some ((g,q),fP))(h2:B[j2]? =some ((g,q + 1),fS))(ho:o.op =.load T x:=by rfl)
  (hi:L.getD i (λ_ _ =>True)=IsQ fP fS:=by kernel_rfl) (hb:boxes.contains i =false:=by kernel_rfl):Ok P ops Q ds a0 w0 L boxes i o:=
 Ok.of hb λv a w hE hd hf =>by
  have h:a.eval x =_:=hx.out v a w hE hd hf
  obtain⟨s,a',n,c,b,h'⟩ :=(S.mono hE).at j g q _ h1
  obtain⟨s2,a2,n2,c2,b2,h2'⟩ :=(S.mono hE).at j2 g (q + 1) _ h2
  exact⟨_,ld_run ho h (hT w g (2 * q) _ _ _ _ _ _ _ _ b.c0 b.c1 b2.c0 b2.c1),by rw[hi];exact⟨_,_,_,_,_,_,_,_,rfl,h',h2'⟩⟩
theorem cl{f:FuncId}{c:Call}{fQ:Value ->World ->Prop}(he:∀args w,(callFunc f args).run P w =.ok (.enter f args) w)(ho:o.op =.call c)(hc:c.callee =.value (.func f))(hi:L.getD i (λ_ _ =>True)=fQ)(hb:boxes.contains i =false)
  (h:∀(v:Nat ->Value) (a:Act) (w:World),Ext w0 w ->(∀j,(ups .any ops i).contains j =true ->L.getD j (λ_ _ =>True) (v j) w) ->Fr ds a0 v a ->Calls P f (c.args.map a.eval) w (Ret w fQ)):Ok P ops Q ds a0 w0 L boxes i o:=
 ⟨fun v a w hE hd hf K hK =>by
  have hr:(execOp a.eval o).run P w =.ok (.enter f (c.args.map a.eval)) w:=by
   unfold execOp
   rw[ho]
   dsimp only
   unfold resolve
   rw[hc]
   simp[invoke,he,Deferred.ofValue,show a.eval (.func f)=.func (.func f) #[] #[]from rfl]
  unfold Oper.wp
  rw[hr,Oper.upon_enter]
  refine jJ (h v a w hE hd hf) ?_
  rintro e w2 ⟨x,rfl,e2,hx⟩
  exact hK.out _ _ e2 (by rw[hi];exact hx) (FreshIf.no hb)⟩
theorem clv{f:FuncId}{c:Call}{t:Operand}{caps:Array Value}{fQ:Value ->World ->Prop}(ht:Od ops ds a0 w0 L i t (IsV (.func (.func f) #[] caps)))(he:∀args w,(callFunc f args).run P w =.ok (.enter f args) w)(ho:o.op =.call c)(hc:c.callee =.value t)(hi:L.getD i (λ_ _ =>True)=fQ)(hb:boxes.contains i =false)
  (h:∀(v:Nat ->Value) (a:Act) (w:World),Ext w0 w ->(∀j,(ups .any ops i).contains j =true ->L.getD j (λ_ _ =>True) (v j) w) ->Fr ds a0 v a ->Calls P f (c.args.map a.eval ++caps) w (Ret w fQ)):Ok P ops Q ds a0 w0 L boxes i o:=
 ⟨fun v a w hE hd hf K hK =>by
  have h0:a.eval t =_:=ht.out v a w hE hd hf
  have hr:(execOp a.eval o).run P w =.ok (.enter f (c.args.map a.eval ++caps)) w:=by
   unfold execOp
   rw[ho]
   dsimp only
   unfold resolve
   rw[hc]
   simp[invoke,he,h0,Deferred.ofValue]
  unfold Oper.wp
  rw[hr,Oper.upon_enter]
  refine jJ (h v a w hE hd hf) ?_
  rintro e w2 ⟨x,rfl,e2,hx⟩
  exact hK.out _ _ e2 (by rw[hi];exact hx) (FreshIf.no hb)⟩
theorem cl0{f:FuncId}{c:Call}{fQ:Value ->World ->Prop}(he:∀args w,(callFunc f args).run P w =.ok (.enter f args) w)(h:∀w,Ext w0 w ->Calls P f #[] w (Ret w fQ))
  (ho:o.op =.call c:=by rfl) (hc:c.callee =.value (.func f) :=by rfl) (ha:c.args = #[] :=by rfl) (hi:L.getD i (λ_ _ =>True)=fQ:=by kernel_rfl) (hb:boxes.contains i =false:=by kernel_rfl):Ok P ops Q ds a0 w0 L boxes i o:=
 cl he ho hc hi hb λv a w hE hd hf =>by rw[ha,show(#[]:Array Operand).map a.eval = #[]by simp];exact h w hE
theorem cl1{f:FuncId}{c:Call}{x:Operand}{fP fQ:Value ->World ->Prop}(he:∀args w,(callFunc f args).run P w =.ok (.enter f args) w)(hx:Od ops ds a0 w0 L i x fP)(h:∀u w,Ext w0 w ->fP u w ->Calls P f #[u] w (Ret w fQ))
  (ho:o.op =.call c:=by rfl) (hc:c.callee =.value (.func f) :=by rfl) (ha:c.args = #[x] :=by rfl) (hi:L.getD i (λ_ _ =>True)=fQ:=by kernel_rfl) (hb:boxes.contains i =false:=by kernel_rfl):Ok P ops Q ds a0 w0 L boxes i o:=
 cl he ho hc hi hb λv a w hE hd hf =>by rw[ha,show(#[x]:Array Operand).map a.eval = #[a.eval x]by simp];exact h _ w hE (hx.out v a w hE hd hf)
theorem cl2{f:FuncId}{c:Call}{x y:Operand}{fP fS fQ:Value ->World ->Prop}(he:∀args w,(callFunc f args).run P w =.ok (.enter f args) w)(hx:Od ops ds a0 w0 L i x fP)(hy:Od ops ds a0 w0 L i y fS)(h:∀u u' w,Ext w0 w ->fP u w ->fS u' w ->Calls P f #[u,u'] w (Ret w fQ))
  (ho:o.op =.call c:=by rfl) (hc:c.callee =.value (.func f) :=by rfl) (ha:c.args = #[x,y] :=by rfl) (hi:L.getD i (λ_ _ =>True)=fQ:=by kernel_rfl) (hb:boxes.contains i =false:=by kernel_rfl):Ok P ops Q ds a0 w0 L boxes i o:=
 cl he ho hc hi hb λv a w hE hd hf =>by rw[ha,show(#[x,y]:Array Operand).map a.eval = #[a.eval x,a.eval y]by simp];exact h _ _ w hE (hx.out v a w hE hd hf) (hy.out v a w hE hd hf)
theorem cl3{f:FuncId}{c:Call}{x y z:Operand}{fP fS fT fQ:Value ->World ->Prop}(he:∀args w,(callFunc f args).run P w =.ok (.enter f args) w)(hx:Od ops ds a0 w0 L i x fP)(hy:Od ops ds a0 w0 L i y fS)(hz:Od ops ds a0 w0 L i z fT)(h:∀u u' u2 w,Ext w0 w ->fP u w ->fS u' w ->fT u2 w ->Calls P f #[u,u',u2] w (Ret w fQ))
  (ho:o.op =.call c:=by rfl) (hc:c.callee =.value (.func f) :=by rfl) (ha:c.args = #[x,y,z] :=by rfl) (hi:L.getD i (λ_ _ =>True)=fQ:=by kernel_rfl) (hb:boxes.contains i =false:=by kernel_rfl):Ok P ops Q ds a0 w0 L boxes i o:=
 cl he ho hc hi hb λv a w hE hd hf =>by rw[ha,show(#[x,y,z]:Array Operand).map a.eval = #[a.eval x,a.eval y,a.eval z]by simp];exact h _ _ _ w hE (hx.out v a w hE hd hf) (hy.out v a w hE hd hf) (hz.out v a w hE hd hf)
theorem cv1{f:FuncId}{c:Call}{t x:Operand}{caps:List Value}{fP fQ:Value ->World ->Prop}(he:∀args w,(callFunc f args).run P w =.ok (.enter f args) w)(ht:Od ops ds a0 w0 L i t (IsV (.func (.func f) #[] caps.toArray)))(hx:Od ops ds a0 w0 L i x fP)(h:∀u w,Ext w0 w ->fP u w ->Calls P f (u ::caps).toArray w (Ret w fQ))
  (ho:o.op =.call c:=by rfl) (hc:c.callee =.value t:=by rfl) (ha:c.args = #[x] :=by rfl) (hi:L.getD i (λ_ _ =>True)=fQ:=by kernel_rfl) (hb:boxes.contains i =false:=by kernel_rfl):Ok P ops Q ds a0 w0 L boxes i o:=
 clv ht he ho hc hi hb λv a w hE hd hf =>by rw[ha,show(#[x]:Array Operand).map a.eval ++caps.toArray =(a.eval x ::caps).toArray by simp];exact h _ w hE (hx.out v a w hE hd hf)
theorem cv2{f:FuncId}{c:Call}{t x y:Operand}{caps:List Value}{fP fS fQ:Value ->World ->Prop}(he:∀args w,(callFunc f args).run P w =.ok (.enter f args) w)(ht:Od ops ds a0 w0 L i t (IsV (.func (.func f) #[] caps.toArray)))(hx:Od ops ds a0 w0 L i x fP)(hy:Od ops ds a0 w0 L i y fS)(h:∀u u' w,Ext w0 w ->fP u w ->fS u' w ->Calls P f (u ::u' ::caps).toArray w (Ret w fQ))
  (ho:o.op =.call c:=by rfl) (hc:c.callee =.value t:=by rfl) (ha:c.args = #[x,y] :=by rfl) (hi:L.getD i (λ_ _ =>True)=fQ:=by kernel_rfl) (hb:boxes.contains i =false:=by kernel_rfl):Ok P ops Q ds a0 w0 L boxes i o:=
 clv ht he ho hc hi hb λv a w hE hd hf =>by rw[ha,show(#[x,y]:Array Operand).map a.eval ++caps.toArray =(a.eval x ::a.eval y ::caps).toArray by simp];exact h _ _ w hE (hx.out v a w hE hd hf) (hy.out v a w hE hd hf)
theorem ex{x:Operand}{n:Nat}{fP fQ:Value ->World ->Prop}(hx:Od ops ds a0 w0 L i x fP)(h:∀u w,fP u w ->∃vs:Array Value,u =.tuple vs/\∃y,vs[n]? =some y/\fQ y w)(ho:o.op =.extract x n:=by rfl)(hi:L.getD i (λ_ _ =>True)=fQ:=by kernel_rfl)(hb:boxes.contains i =false:=by kernel_rfl):Ok P ops Q ds a0 w0 L boxes i o:=
 Ok.of hb λv a w hE hd hf =>by
  obtain⟨vs,hu,y,hy,hχ⟩ :=h _ _ (hx.out v a w hE hd hf)
  refine⟨y,?_,by rw[hi];exact hχ⟩
  unfold execOp
  rw[ho]
  dsimp only
  rw[hu]
  simp[Instr.extract,hy]
theorem t20{fP fS:Value ->World ->Prop}(u:Value)(w:World)(h:IsT2 fP fS u w):∃vs:Array Value,u =.tuple vs/\∃y,vs[0]? =some y/\fP y w:=let ⟨_,_,h1,h2,_⟩ :=h;⟨_,h1,_,rfl,h2⟩
theorem t21{fP fS:Value ->World ->Prop}(u:Value)(w:World)(h:IsT2 fP fS u w):∃vs:Array Value,u =.tuple vs/\∃y,vs[1]? =some y/\fS y w:=let ⟨_,_,h1,_,h2⟩ :=h;⟨_,h1,_,rfl,h2⟩
theorem t30{fP fS fQ:Value ->World ->Prop}(u:Value)(w:World)(h:IsT3 fP fS fQ u w):∃vs:Array Value,u =.tuple vs/\∃y,vs[0]? =some y/\fP y w:=let ⟨_,_,_,h1,h2,_,_⟩ :=h;⟨_,h1,_,rfl,h2⟩
theorem t31{fP fS fQ:Value ->World ->Prop}(u:Value)(w:World)(h:IsT3 fP fS fQ u w):∃vs:Array Value,u =.tuple vs/\∃y,vs[1]? =some y/\fS y w:=let ⟨_,_,_,h1,_,h2,_⟩ :=h;⟨_,h1,_,rfl,h2⟩
theorem t32{fP fS fQ:Value ->World ->Prop}(u:Value)(w:World)(h:IsT3 fP fS fQ u w):∃vs:Array Value,u =.tuple vs/\∃y,vs[2]? =some y/\fQ y w:=let ⟨_,_,_,h1,_,_,h2⟩ :=h;⟨_,h1,_,rfl,h2⟩
theorem bn{x y:Operand}{b:BinOp}{T T2:Nat}{p q r:Value}(hx:Od ops ds a0 w0 L i x (IsV p))(hy:Od ops ds a0 w0 L i y (IsV q))(ho:o.op =.binOp b T x y T2:=by rfl)(hr:∀w,Sem.run P (do eqGuard b T x y p q;binOp b T p q) w =.ok r w)(hi:L.getD i (λ_ _ =>True)=IsV r:=by kernel_rfl)(hb:boxes.contains i =false:=by kernel_rfl):Ok P ops Q ds a0 w0 L boxes i o:=
 Ok.of hb λv a w hE hd hf =>by
  have h1:a.eval x =p:=hx.out v a w hE hd hf
  have h2:a.eval y =q:=hy.out v a w hE hd hf
  refine⟨r,?_,by rw[hi];exact rfl⟩
  have:=hr w
  unfold execOp
  rw[ho]
  dsimp only
  rw[h1,h2]
  cases hg:Sem.run P (eqGuard b T x y p q) w with
  |ok u w1 =>simp[hg]at this ⊢;rw[this];simp
  |halt e w1 =>simp[hg]at this
theorem pk{c x y z:Operand}{b:Bool}(hc:Od ops ds a0 w0 L i c (IsV (.bool b)))(hx:Od ops ds a0 w0 L i z (L.getD i (λ_ _ =>True)))(ho:o.op =.pick c x y:=by rfl)(hz:(bif b then x else y)=z:=by rfl)(hb:boxes.contains i =false:=by kernel_rfl):Ok P ops Q ds a0 w0 L boxes i o:=
 Ok.of hb λv a w hE hd hf =>by
  have h1:a.eval c =.bool b:=hc.out v a w hE hd hf
  have h2:=hx.out v a w hE hd hf
  refine⟨a.eval z,?_,h2⟩
  subst hz
  unfold execOp
  rw[ho]
  dsimp only
  rw[h1]
  cases b <;> simp[asBool]
def AlO(P:Program)(T:TypeId)(m:Nat):Prop:=∀w0 w:World,w0.heap.size <=w.heap.size ->∃w',(Instr.alloc T true (.tuple #[])).run P w =.ok (.pointer (some ⟨w.heap.size,0,none⟩)) w'/\Ext w w'/\IsBo w0 m (.pointer (some ⟨w.heap.size,0,none⟩)) w'
theorem al{T m:Nat}(hr:AlO P T m)(ho:o.op =.alloc T:=by rfl)(hi:L.getD i (λ_ _ =>True)=IsBo w0 m:=by kernel_rfl):Ok P ops Q ds a0 w0 L boxes i o:=
 ⟨fun v a w hE hd hf K hK =>by
  obtain⟨w',h1,h2,h3⟩ :=hr w0 w hE.size
  have hrun:(execOp a.eval o).run P w =.ok (.value (.pointer (some ⟨w.heap.size,0,none⟩))) w':=by
   unfold execOp
   rw[ho]
   dsimp only
   simp[h1]
  unfold Oper.wp
  rw[hrun]
  exact hK.out _ w' h2 (by rw[hi];exact h3) FreshIf.yes⟩
def BdQ(P:Program)(T:TypeId):Prop:=∀(w:World) (s:Bool) (a:Option Addr) (n c:Nat) (s':Bool) (a':Option Addr) (n' c':Nat),(Instr.build T #[(0,.agg #[.bool s,.slice a n c]),(1,.agg #[.bool s',.slice a' n' c'])]).run P w =.ok (.agg #[.bool s,.slice a n c,.bool s',.slice a' n' c']) w
theorem bd_run{x y:Operand}{T:Nat}{a:Act}{p q u:Value}{w:World}(ho:o.op =.build T #[(0,x),(1,y)])(h:a.eval x =p)(h':a.eval y =q)(hr:(Instr.build T #[(0,p),(1,q)]).run P w =.ok u w):(execOp a.eval o).run P w =.ok (.value u) w:=by
 unfold execOp
 rw[ho]
 dsimp only
 simp only[List.map_toArray,List.map_cons,List.map_nil]
 rw[h,h']
 simp[hr]
theorem bq{x y:Operand}{T k1 k2:Nat}{z1 z2:Int}(hx:Od ops ds a0 w0 L i x (IsI k1 z1))(hy:Od ops ds a0 w0 L i y (IsI k2 z2))(hT:BdQ P T)(ho:o.op =.build T #[(0,x),(1,y)] :=by rfl)
  (hi:L.getD i (λ_ _ =>True)=IsQ (IsI k1 z1) (IsI k2 z2) :=by kernel_rfl) (hb:boxes.contains i =false:=by kernel_rfl):Ok P ops Q ds a0 w0 L boxes i o:=
 Ok.of hb λv a w hE hd hf =>by
  obtain⟨s,a1,n,c,e1,h1⟩ :=hx.out v a w hE hd hf
  obtain⟨s',a1',n',c',e2,h2⟩ :=hy.out v a w hE hd hf
  exact⟨_,bd_run ho e1 e2 (hT w _ _ _ _ _ _ _ _),by rw[hi];exact⟨_,_,_,_,_,_,_,_,rfl,⟨_,_,_,_,rfl,h1⟩,⟨_,_,_,_,rfl,h2⟩⟩⟩
theorem b0{T:Nat}{z:Value}{fP:Value ->World ->Prop}(hr:∀w,(Instr.build T #[]).run P w =.ok z w)(hz:∀w,fP z w)(ho:o.op =.build T #[] :=by rfl)(hi:L.getD i (λ_ _ =>True)=fP:=by kernel_rfl)(hb:boxes.contains i =false:=by kernel_rfl):Ok P ops Q ds a0 w0 L boxes i o:=
 Ok.of hb λv a w hE hd hf =>by
  refine⟨z,?_,by rw[hi];exact hz w⟩
  have:=hr w
  unfold execOp
  rw[ho]
  dsimp only
  simp[this]
def StI(P:Program)(T:TypeId):Prop:=∀(w:World) (b f:Nat) (s0:Bool) (a0:Option Addr) (n0 c0:Nat) (s:Bool) (a:Option Addr) (n c:Nat),w.cell? ⟨b,f,none⟩=some (.bool s0) ->w.cell? ⟨b,f + 1,none⟩=some (.slice a0 n0 c0) ->w.frozen? ⟨b,f,none⟩=false ->w.frozen? ⟨b,f + 1,none⟩=false ->
 (Instr.storeAt T (.pointer (some ⟨b,f,none⟩)) (.agg #[.bool s,.slice a n c])).run P w =.ok () ((w.setCell ⟨b,f,none⟩ (.bool s)).setCell ⟨b,f + 1,none⟩ (.slice a n c))
def StQ(P:Program)(T:TypeId):Prop:=∀(w:World) (b f:Nat) (s0:Bool) (a0:Option Addr) (n0 c0:Nat) (s1:Bool) (a1:Option Addr) (n1 c1:Nat) (s:Bool) (a:Option Addr) (n c:Nat) (s':Bool) (a':Option Addr) (n' c':Nat),
 w.cell? ⟨b,f,none⟩=some (.bool s0) ->w.cell? ⟨b,f + 1,none⟩=some (.slice a0 n0 c0) ->w.frozen? ⟨b,f,none⟩=false ->w.frozen? ⟨b,f + 1,none⟩=false ->w.cell? ⟨b,f + 2,none⟩=some (.bool s1) ->w.cell? ⟨b,f + 3,none⟩=some (.slice a1 n1 c1) ->w.frozen? ⟨b,f + 2,none⟩=false ->w.frozen? ⟨b,f + 3,none⟩=false ->
 (Instr.storeAt T (.pointer (some ⟨b,f,none⟩)) (.agg #[.bool s,.slice a n c,.bool s',.slice a' n' c'])).run P w =.ok () ((((w.setCell ⟨b,f,none⟩ (.bool s)).setCell ⟨b,f + 1,none⟩ (.slice a n c)).setCell ⟨b,f + 2,none⟩ (.bool s')).setCell ⟨b,f + 3,none⟩ (.slice a' n' c'))
theorem st_wp{x y:Operand}{T:Nat}{a:Act}{p u:Value}{w w':World}{K:Act ->World ->Prop}(ho:o.op =.store T x y)(h:a.eval x =p)(h':a.eval y =u)(hr:(Instr.storeAt T p u).run P w =.ok () w')(hK:K (a.put o.dst undef) w'):Oper.wp P o a w K Q:=by
 have:(execOp a.eval o).run P w =.ok .skip w':=by
  unfold execOp
  rw[ho]
  dsimp only
  rw[h,h']
  simp[hr]
 unfold Oper.wp
 rw[this]
 exact hK
theorem stI{w W:World}{B:List Fld}{a:Act}{K:Act ->World ->Prop}(S:Sto w W B)(j g q:Nat){T k:Nat}{z:Int}{x y:Operand}{fP:Value ->World ->Prop}{u:Value}(hu:IsI k z u W)(hT:StI P T)(h:∀W',Sto w W' (B.set j ((g,q),IsI k z)) ->Gr W W' ->K a W')
  (hB:B[j]? =some ((g,q),fP)) (ho:o.op =.store T x y:=by rfl) (hd:o.dst =none:=by rfl) (hx:a.eval x =.pointer (some ⟨g,2 * q,none⟩) :=by kernel_rfl) (hy:a.eval y =u:=by kernel_rfl):Oper.wp P o a W K Q:=by
 obtain⟨s,a1,n,c,rfl,h1⟩ :=hu
 obtain⟨s0,a2,n0,c0,b,_⟩ :=S.at j g q fP hB
 obtain⟨W',hW,S',G⟩ :=S.put j g q fP (IsI k z) hB s a1 n c (IsI.gstb _ _) ⟨_,_,_,_,rfl,h1⟩
 refine st_wp ho hx hy (hT W g (2 * q) _ _ _ _ _ _ _ _ b.c0 b.c1 b.f0 b.f1) ?_
 rw[<-hW,hd]
 exact h W' S' G
theorem stQ{w W:World}{B:List Fld}{a:Act}{K:Act ->World ->Prop}(S:Sto w W B)(j j2 g q:Nat){T:Nat}{x y:Operand}{fP fS P' Q':Value ->World ->Prop}{u:Value}(hu:IsQ P' Q' u W)(g1:GStb P')(g2:GStb Q')(hT:StQ P T)
  (h:∀W',Sto w W' ((B.set j ((g,q),P')).set j2 ((g,q + 1),Q')) ->Gr W W' ->K a W')
  (hB:B[j]? =some ((g,q),fP)) (hB2:B[j2]? =some ((g,q + 1),fS)) (hj:(j ==j2)=false:=by rfl) (ho:o.op =.store T x y:=by rfl) (hd:o.dst =none:=by rfl) (hx:a.eval x =.pointer (some ⟨g,2 * q,none⟩) :=by kernel_rfl) (hy:a.eval y =u:=by kernel_rfl):Oper.wp P o a W K Q:=by
 obtain⟨s,a1,n,c,s',a1',n',c',rfl,h1,h2⟩ :=hu
 have hj:j≠j2:=yx
 obtain⟨s0,a2,n0,c0,b,_⟩ :=S.at j g q fP hB
 obtain⟨s2,a3,n2,c2,b2,_⟩ :=S.at j2 g (q + 1) fS hB2
 obtain⟨W',hW,S',G⟩ :=S.put j g q fP P' hB s a1 n c g1 h1
 obtain⟨W0,hW2,S2,G2⟩ :=S'.put j2 g (q + 1) fS Q' (by rw[List.getElem?_set_ne hj];exact hB2) s' a1' n' c' g2 (g2 _ _ _ G h2)
 refine st_wp ho hx hy (hT W g (2 * q) _ _ _ _ _ _ _ _ _ _ _ _ _ _ _ _ b.c0 b.c1 b.f0 b.f1 b2.c0 b2.c1 b2.f0 b2.f1) ?_
 rw[<-hW,hd]
 have:=h W0 S2 (G.trans G2)
 rw[hW2]at this
 exact this
def AllBox(L:List (Value ->World ->Prop)):List Nat ->Prop
 | [] =>True
 |b ::bs =>IsBox (L.getD b (λ_ _ =>True))/\AllBox L bs
theorem AllBox.get{L:List (Value ->World ->Prop)}:∀ {bs:List Nat},AllBox L bs ->∀i∈bs,IsBox (L.getD i (λ_ _ =>True))
 | [],_,_,h =>by cases h
 | b ::bs,h,i,hi =>by
  rcases List.mem_cons.1 hi with rfl|hi
  ·exact h.1
  ·exact AllBox.get h.2 i hi
theorem rg(n:Nat)(ds:List (Option Tmp))(L:List (Value ->World ->Prop))(boxes:List Nat)(fuel:Nat){id:Nat}
  (hop:RgAll P .any ops Q ds a0 w0 L boxes 0 n ops.toList)
  (hend:∀v w,Ext w0 w ->(∀i,i < n ->L.getD i (λ_ _ =>True) (v i) w) ->(∀i j,i∈boxes ->j∈boxes ->i < n ->j < n ->i≠j ->v i≠v j) ->
   wpAny P .any ops Q fuel (qG ops.size n) (qW v a0 0 ds) w)
  (hm:P.follows .mixedOrders =true:=by kernel_rfl) (hn:n <=ops.size:=by decide) (hf:ops.size - n =fuel:=by kernel_rfl) (hds:(List.range n).map (qP ops)=ds:=by kernel_rfl) (hap:qO ops n =true:=by kernel_rfl) (htp:xD .any ops n []=true:=by kernel_rfl) (hns:Region.noSelect ops =true:=by kernel_rfl)
  (hst:AllStb L:=by exact AStb.out) (hbx:AllBox L boxes:=by repeat' (first|exact trivial|exact IsBo.box _ _|apply jO)) :
  (Code.region id ops true).wp P Q a0 w0:=qV n ds L boxes fuel hm hn hf hds hap htp hns hst hbx.get hop hend
theorem rgs(n:Nat)(ds:List (Option Tmp))(L:List (Value ->World ->Prop))(boxes:List Nat){id:Nat}
  (hop:RgAll P .any ops Q ds a0 w0 L boxes 0 n ops.toList)
  (hend:∀v w,Ext w0 w ->(∀i,i < n ->L.getD i (λ_ _ =>True) (v i) w) ->(∀i j,i∈boxes ->j∈boxes ->i < n ->j < n ->i≠j ->v i≠v j) ->
   wpList P ops Q (ops.toList.drop n) (qW v a0 0 ds) w)
  (hn:n <=ops.size:=by decide) (hds:(List.range n).map (qP ops)=ds:=by kernel_rfl) (hap:qO ops n =true:=by kernel_rfl) (htp:backOk ops n =true:=by kernel_rfl)
  (hst:AllStb L:=by exact AStb.out) (hbx:AllBox L boxes:=by repeat' (first|exact trivial|exact IsBo.box _ _|apply jO)) :
  (Code.region id ops false).wp P Q a0 w0:=qI n ds L boxes hn hds hap htp hst hbx.get hop hend
theorem rgt{x0:World}{B:List Fld}(S:Sto x0 w0 B)(n:Nat)(ds:List (Option Tmp))(L:List (Value->World->Prop)){id:Nat}(hop:RgAll P .any ops Q ds a0 w0 L [] 0 n ops.toList)(hend:∀v w,Sto x0 w B->(∀i,i<n->L.getD i (λ_ _=>True) (v i) w)->Q .normal (qW v a0 0 ds) w)
 (hn:n<=ops.size:=by decide) (hq:ops.toList.drop n=[]:=by rfl) (hds:(List.range n).map (qP ops)=ds:=by kernel_rfl) (hap:qO ops n=true:=by kernel_rfl) (htp:backOk ops n=true:=by kernel_rfl) (hst:AllStb L:=by exact AStb.out):(Code.region id ops false).wp P Q a0 w0:=rgs n ds L [] hop (λv w e h _=>by rw[hq];exact hend v w (S.mono e) h) hn hds hap htp hst
theorem rgO(n:Nat)(opt:List Nat)(ds:List (Option Tmp))(L:List (Value ->World ->Prop))(boxes:List Nat)(fuel:Nat){id:Nat}
  (hY:∀i∈opt,∀(v:Nat ->Value) (w:World),Ext w0 w ->(∀j,(ups .any ops i).contains j =true ->L.getD j (λ_ _ =>True) (v j) w) ->∃x o,ops[i]? =some o/\Yields P ops o x (qW v a0 0 ds)/\L.getD i (λ_ _ =>True) x w)
  (hop:RgAll P .any ops (NoPanic Q) ds a0 w0 L boxes 0 n ops.toList)
  (hend:∀v w,Ext w0 w ->(∀i,i < n ->L.getD i (λ_ _ =>True) (v i) w) ->(∀i j,i∈boxes ->j∈boxes ->i < n ->j < n ->i≠j ->v i≠v j) ->
   wpAny P .any ops (NoPanic Q) fuel (qG ops.size n) (qW v a0 0 ds) w)
  (hm:P.follows .mixedOrders =true:=by kernel_rfl) (hn:n <=ops.size:=by decide) (hf:ops.size - n =fuel:=by kernel_rfl) (hds:(List.range n).map (qP ops)=ds:=by kernel_rfl) (hap:qO ops n =true:=by kernel_rfl) (htp:xD .any ops n opt =true:=by kernel_rfl) (hoo:optOk .any ops n opt =true:=by kernel_rfl) (hob:opt.all (λi => !boxes.contains i)=true:=by kernel_rfl)
  (hst:AllStb L:=by exact AStb.out) (hbx:AllBox L boxes:=by repeat' (first|exact trivial|exact IsBo.box _ _|apply jO)) :
  (Code.region id ops true).wp P Q a0 w0:=wp_region_rgO n opt ds L boxes fuel hm hn hf hds hap htp hoo hob hst hbx.get hY hop hend
theorem stA{fuel:Nat}{listed:Array Bool}{a:Act}{w:World}(j:Nat)(ho:ops[j]? =some o:=by rfl)(h:∀K:Act ->World ->Prop,(∀a w,wpAny P .any ops Q fuel (listed.setIfInBounds j true) a w ->K a w) ->Oper.wp P o a w K Q)
  (hr:Region.ready .any ops listed = [j] :=by kernel_rfl) (hg:o.guard =none:=by rfl):wpAny P .any ops Q (fuel + 1) listed a w:=
 wpAny_ready (rs:= [j]) hr (by simp) (AllReady.cons ho (λK hK =>by rw[if_pos (by simp[Region.wanted,hg])];exact h K hK) AllReady.nil)
theorem stL{a:Act}{w:World}(h:∀K:Act ->World ->Prop,(∀a w,wpList P ops Q os a w ->K a w) ->Oper.wp P o a w K Q)(hg:o.guard =none:=by rfl):wpList P ops Q (o ::os) a w:=wpList_plain hg h
end
/-! ### This program's types -/
set_option maxRecDepth 100000
theorem en1{k:Nat}{z:Int}{x:Value}{w:World}(h:IsI k z x w):∃s a n c W,x=.agg #[.bool s,.slice a n c]/\W=w.alloc (.cells #[.bool s,.slice a n c] 33)/\Sto w W [((w.heap.size,0),IsI k z)]:=by
 obtain⟨s1,a1,n1,c1,rfl,h1⟩:=h;exact⟨s1,a1,n1,c1,_,rfl,rfl,((Sto.start w).new1 (w.heap.size) (by simp) s1 a1 n1 c1 33 (IsI k z) (IsI.gstb _ _) ⟨_,_,_,_,rfl,h1⟩)⟩
theorem en2{k l:Nat}{z y:Int}{x u:Value}{w:World}(h:IsI k z x w)(g:IsI l y u w):∃s a n c t b m d W,x=.agg #[.bool s,.slice a n c]/\u=.agg #[.bool t,.slice b m d]/\W=(w.alloc (.cells #[.bool s,.slice a n c] 33)).alloc (.cells #[.bool t,.slice b m d] 33)/\Sto w W [((w.heap.size+1,0),IsI l y),((w.heap.size,0),IsI k z)]:=by
 obtain⟨s1,a1,n1,c1,rfl,h1⟩:=h;obtain⟨s2,a2,n2,c2,rfl,h2⟩:=g;have h2:IsI l y _ w:=⟨_,_,_,_,rfl,h2⟩;exact⟨s1,a1,n1,c1,s2,a2,n2,c2,_,rfl,rfl,rfl,(((Sto.start w).new1 (w.heap.size) (by simp) s1 a1 n1 c1 33 (IsI k z) (IsI.gstb _ _) ⟨_,_,_,_,rfl,h1⟩).new1 (w.heap.size+1) (by simp) s2 a2 n2 c2 33 (IsI l y) (IsI.gstb _ _) (h2.ext ((Ext.refl _).alloc _)))⟩
theorem qF:LdI prog 28:=λw b f s a n c h0 h1 =>by go_simp
theorem ld_Rat:LdQ prog 45:=λw b f s a n c s' a' n' c' h0 h1 h2 h3 =>by go_simp
theorem st_Int:StI prog 28:=λw b f s0 a0 n0 c0 s a n c h0 h1 f0 f1 =>by go_simp
theorem st_Rat:StQ prog 45:=λw b f s0 a0 n0 c0 s1 a1 n1 c1 s a n c s' a' n' c' h0 h1 f0 f1 h2 h3 f2 f3 =>by go_simp
theorem bd_Rat:BdQ prog 45:=λw s a n c s' a' n' c' =>by go_simp
theorem al_Int:AlO prog 28 1:=λw0 w h =>⟨_,by go_simp,(Ext.refl _).alloc _,IsBo.new1 w0 w 28 h⟩
theorem al_Rat:AlO prog 45 2:=λw0 w h =>⟨_,by go_simp,(Ext.refl _).alloc _,IsBo.new2 w0 w 45 h⟩
theorem fa_Rat0(g f:Nat)(w:World):(Instr.fieldAt 45 (.pointer (some ⟨g,f,none⟩)) 0).run prog w =.ok (.pointer (some ⟨g,f,none⟩)) w:=by go_simp
theorem fa_Rat1(g f:Nat)(w:World):(Instr.fieldAt 45 (.pointer (some ⟨g,f,none⟩)) 1).run prog w =.ok (.pointer (some ⟨g,f + 2,none⟩)) w:=by go_simp
theorem fa_Iv0(g f:Nat)(w:World):(Instr.fieldAt 47 (.pointer (some ⟨g,f,none⟩)) 0).run prog w =.ok (.pointer (some ⟨g,f,none⟩)) w:=by go_simp
theorem fa_Iv1(g f:Nat)(w:World):(Instr.fieldAt 47 (.pointer (some ⟨g,f,none⟩)) 1).run prog w =.ok (.pointer (some ⟨g,f + 4,none⟩)) w:=by go_simp
theorem en{f:FuncId}{fn:Func}{c:Code}(hf:prog.funcs[f]? =some fn)(hn:(fn.name == "runtime.NumGoroutine")=false:=by kernel_rfl)(hb:fn.body =some c:=by rfl):∀args w,(callFunc f args).run prog w =.ok (.enter f args) w:=enters_of hf hn hb
end
section
open Go Go.RowKit
def Shp(w w':World):Prop:=∀g i,(∃s a n c,Bo w g i s a n c) ->∃s a n c,Bo w' g i s a n c
theorem Shp.of{w w':World}(e:Ext w w'):Shp w w':=λ_ _ ⟨s,a,n,c,h⟩ =>⟨s,a,n,c,h.ext e⟩
def Gst(fP:Value ->World ->Prop):Prop:=∀x w w',Gr w w' ->Shp w w' ->fP x w ->fP x w'
theorem Gst.of{fP:Value ->World ->Prop}(h:GStb fP):Gst fP:=λ_ _ _ g _ k =>h _ _ _ g k
theorem Gst.v(u:Value):Gst (IsV u) :=λ_ _ _ _ _ k =>k
theorem Gst.t2{fP fS:Value ->World ->Prop}(h:Gst fP)(k:Gst fS):Gst (IsT2 fP fS) :=λ_ _ _ g s ⟨a,b,h1,h2,h3⟩ =>⟨a,b,h1,h _ _ _ g s h2,k _ _ _ g s h3⟩
theorem Gst.t3{fP fS fQ:Value ->World ->Prop}(h:Gst fP)(k:Gst fS)(l:Gst fQ):Gst (IsT3 fP fS fQ) :=λ_ _ _ g s ⟨a,b,c,h1,h2,h3,h4⟩ =>⟨a,b,c,h1,h _ _ _ g s h2,k _ _ _ g s h3,l _ _ _ g s h4⟩
theorem Gst.q{fP fS:Value ->World ->Prop}(h:Gst fP)(k:Gst fS):Gst (IsQ fP fS) :=λ_ _ _ g sh ⟨s,a,n,c,s',a',n',c',h1,h2,h3⟩ =>⟨s,a,n,c,s',a',n',c',h1,h _ _ _ g sh h2,k _ _ _ g sh h3⟩
theorem Gst.j{fP fS fQ fT:Value ->World ->Prop}(h:Gst fP)(k:Gst fS)(l:Gst fQ)(m:Gst fT):Gst (IsJ fP fS fQ fT) :=λ_ _ _ g sh ⟨s,a,n,c,s',a',n',c',s2,a2,n2,c2,s3,a3,n3,c3,h1,h2,h3,h4,h5⟩ =>⟨s,a,n,c,s',a',n',c',s2,a2,n2,c2,s3,a3,n3,c3,h1,h _ _ _ g sh h2,k _ _ _ g sh h3,l _ _ _ g sh h4,m _ _ _ g sh h5⟩
theorem Gst.tt:Gst (λ_ _ =>True) :=λ_ _ _ _ _ _ =>trivial
theorem gs0:∀fP∈ ([]:List (Value ->World ->Prop)),GStb fP:=λ_ h =>by cases h
theorem gs1{fP:Value ->World ->Prop}{l:List (Value ->World ->Prop)}(h:GStb fP)(k:∀fS∈l,GStb fS):∀fS∈fP ::l,GStb fS:=λfS hm =>by
 rcases List.mem_cons.1 hm with rfl|hm
 ·exact h
 ·exact k fS hm
inductive AllGst:List (Value ->World ->Prop) ->Prop
 |nil:AllGst []
 |cons {p:Value ->World ->Prop} {ps:List (Value ->World ->Prop)}:Gst p ->AllGst ps ->AllGst (p ::ps)
theorem AllGst.get{L:List (Value ->World ->Prop)}(h:AllGst L):∀i,Gst (L.getD i (λ_ _ =>True)) :=by
 induction h with
 |nil =>intro i _ _ _ _ _ _;simp
 | cons h _ ih =>
  intro i
  cases i with
  |zero =>simpa using h
  |succ i =>simpa using ih i
def IsNw(w0:World)(m:Nat):Value ->World ->Prop:=λx w =>∃g,x =.pointer (some ⟨g,0,none⟩)/\w0.heap.size <=g/\g < w.heap.size/\∀i,i < m ->∃s a n c,Bo w g i s a n c
theorem IsNw.gs(w0:World)(m:Nat):Gst (IsNw w0 m) :=λ_ _ _ g s ⟨b,h1,h2,h3,h4⟩ =>⟨b,h1,h2,Nat.lt_of_lt_of_le h3 g.1,λi hi =>s b i (h4 i hi)⟩
theorem IsBo.nw{w0:World}{m:Nat}{x:Value}{w:World}(h:IsBo w0 m x w):IsNw w0 m x w:=let ⟨g,h1,h2,h3,h4⟩ :=h;⟨g,h1,h2,h4,λi hi =>⟨_,_,_,_,h3 i hi⟩⟩
def Stored(x:Value)(Fs:List (Value ->World ->Prop))(w:World):Prop:=∃g,x =.pointer (some ⟨g,0,none⟩)/\∀k fP,Fs[k]? =some fP ->∃s a n c,Bo w g k s a n c/\fP (.agg #[.bool s,.slice a n c]) w
structure Into (x:Value) (w w':World):Prop where
 gr:Gr w w'
 oth:∀g i s a n c,x≠ .pointer (some ⟨g,0,none⟩) ->Bo w g i s a n c ->Bo w' g i s a n c
 ext:∀w1:World,Ext w1 w ->(∀g,x =.pointer (some ⟨g,0,none⟩) ->w1.heap.size <=g) ->Ext w1 w'
 shp:Shp w w'
theorem Stored.ext{x:Value}{Fs:List (Value ->World ->Prop)}(hs:∀fP∈Fs,GStb fP){w w':World}(h:Stored x Fs w)(e:Ext w w'):Stored x Fs w':=
 let ⟨g,h1,h2⟩ :=h;⟨g,h1,λk fP hk =>let ⟨s,a,n,c,h3,h4⟩ :=h2 k fP hk;⟨s,a,n,c,h3.ext e,hs fP (List.mem_of_getElem? hk) _ _ _ e.gr h4⟩⟩
theorem Stored.into{x y:Value}{Fs:List (Value ->World ->Prop)}(hs:∀fP∈Fs,GStb fP){w w':World}(h:Stored x Fs w)(e:Into y w w')(hne:y≠x):Stored x Fs w':=
 let ⟨g,h1,h2⟩ :=h;⟨g,h1,λk fP hk =>let ⟨s,a,n,c,h3,h4⟩ :=h2 k fP hk;⟨s,a,n,c,e.oth _ _ _ _ _ _ (by rw[<-h1];exact hne) h3,hs fP (List.mem_of_getElem? hk) _ _ _ e.gr h4⟩⟩
section
variable {P:Program} {ops:Array Oper} {Q:Exit ->Act ->World ->Prop}
abbrev Tg:=Option (Nat×List (Value ->World ->Prop))
structure RgS (P:Program) (ops:Array Oper) (Q:Exit ->Act ->World ->Prop) (ds:List (Option Tmp)) (a0:Act) (w0:World) (L:List (Value ->World ->Prop)) (i:Nat) (o:Oper) (j:Nat) (Fs:List (Value ->World ->Prop)):Prop where
 out:∀(v:Nat ->Value) (w:World),Ext w0 w ->(∀j,(ups .any ops i).contains j =true ->L.getD j (λ_ _ =>True) (v j) w) ->
  ∀K:Act ->World ->Prop,Shut (∀w',Into (v j) w w' ->Stored (v j) Fs w' ->K (qW v a0 0 ds) w') ->Oper.wp P o (qW v a0 0 ds) w K Q
inductive RgAllN (P:Program) (ops:Array Oper) (Q:Exit ->Act ->World ->Prop) (ds:List (Option Tmp)) (a0:Act) (w0:World) (L:List (Value ->World ->Prop)) (boxes:List Nat) (tg:List Tg):Nat ->Nat ->List Oper ->Prop
 |nil {i:Nat} {os:List Oper}:RgAllN P ops Q ds a0 w0 L boxes tg i 0 os
 |op {i k:Nat} {o:Oper} {os:List Oper}:tg.getD i none =none ->RgL P .any ops Q ds a0 w0 L boxes i o ->RgAllN P ops Q ds a0 w0 L boxes tg (i + 1) k os ->RgAllN P ops Q ds a0 w0 L boxes tg i (k + 1) (o ::os)
 |st {i k j:Nat} {Fs:List (Value ->World ->Prop)} {o:Oper} {os:List Oper}:tg.getD i none =some (j,Fs) ->o.dst =none ->o.guard =none ->RgS P ops Q ds a0 w0 L i o j Fs ->RgAllN P ops Q ds a0 w0 L boxes tg (i + 1) k os ->RgAllN P ops Q ds a0 w0 L boxes tg i (k + 1) (o ::os)
variable {ds:List (Option Tmp)} {a0:Act} {w0:World} {L:List (Value ->World ->Prop)} {boxes:List Nat} {tg:List Tg} {i:Nat} {o:Oper}
theorem RgAllN.get{k i:Nat}{os:List Oper}(h:RgAllN P ops Q ds a0 w0 L boxes tg i k os):∀j,j < k ->∀o,os[j]? =some o ->
  (match tg.getD (i + j) none with|none =>RgL P .any ops Q ds a0 w0 L boxes (i + j) o|some (t,Fs) =>o.dst =none/\o.guard =none/\RgS P ops Q ds a0 w0 L (i + j) o t Fs) :=by
 induction h with
 |nil =>intro j hj;omega
 | op ht h _ ih =>
  intro j hj o ho
  cases j with
  | zero =>
   obtain rfl:=jt
   simp only[Nat.add_zero]
   rw[ht];exact h
  | succ j =>
   have:=ih j (by omega) o jt
   rwa [Nat.add_assoc,Nat.add_comm 1 j]at this
 | st ht hd hg h _ ih =>
  intro j hj o ho
  cases j with
  | zero =>
   obtain rfl:=jt
   simp only[Nat.add_zero]
   rw[ht];exact⟨hd,hg,h⟩
  | succ j =>
   have:=ih j (by omega) o jt
   rwa [Nat.add_assoc,Nat.add_comm 1 j]at this
theorem rgn_main(n:Nat)(hn:n <=ops.size)(hds:(List.range n).map (qP ops)=ds)(hap:qO ops n =true)(htp:xD .any ops n []=true)
  (hst:AllGst L) (hbx:∀i∈boxes,∃m,L.getD i (λ_ _ =>True)=IsNw w0 m)
  (htg:∀i,i < n ->∀j Fs,tg.getD i none =some (j,Fs) ->(ups .any ops i).contains j =true/\boxes.contains j =true/\j < n/\ (∀fP∈Fs,GStb fP)/\∀i2,i2 < n ->i≠i2 ->∀j2 F2,tg.getD i2 none =some (j2,F2) ->j≠j2)
  (hop:RgAllN P ops Q ds a0 w0 L boxes tg 0 n ops.toList)
  (hend:∀v w,Ext w0 w ->(∀i,i < n ->tg.getD i none =none ->L.getD i (λ_ _ =>True) (v i) w) ->(∀i,i < n ->∀j Fs,tg.getD i none =some (j,Fs) ->Stored (v j) Fs w) ->
   (∀i j,i∈boxes ->j∈boxes ->i < n ->j < n ->i≠j ->tg.getD i none =none ->tg.getD j none =none ->v i≠v j) ->wpAny P .any ops Q (ops.size - n) (qG ops.size n) (qW v a0 0 ds) w) :
  ∀ (fuel:Nat) (listed:Array Bool) (v:Nat ->Value) (w:World),listed.size =ops.size ->(∀j,n <=j ->listed.getD j false =false) ->
   fuel + qU listed n =ops.size ->(∀i,listed.getD i false =true ->∀e∈qS .any ops i,listed.getD e false =true) ->Ext w0 w ->
   (∀i,i < n ->listed.getD i false =true ->tg.getD i none =none ->L.getD i (λ_ _ =>True) (v i) w) ->
   (∀i,i < n ->listed.getD i false =true ->∀j Fs,tg.getD i none =some (j,Fs) ->Stored (v j) Fs w) ->
   (∀i j,i < n ->j < n ->i≠j ->boxes.contains i =true ->boxes.contains j =true ->tg.getD i none =none ->tg.getD j none =none ->listed.getD i false =true ->listed.getD j false =true ->v i≠v j) ->
   (∀i,i < n ->∀j Fs,tg.getD i none =some (j,Fs) ->tg.getD j none =none) ->(∀i,i < n ->tg.getD i none≠none ->∀x w,L.getD i (λ_ _ =>True) x w) ->
   wpAny P .any ops Q fuel listed (qT ops v a0 n) w:=by
 simp only[xD,Bool.and_eq_true,List.all_eq_true,List.mem_range,Bool.or_eq_true,jY]at htp
 obtain⟨htp1,htp2⟩ :=htp
 intro fuel
 induction fuel with
 | zero =>
  intro listed v w hsz hbig hcnt hcl hE hZ hS hdis hj0 htr
  have hle:qU listed n <=n:=by
   have:=List.countP_le_length (p:=λi =>listed.getD i false) (l:=List.range n)
   simpa [qU]using this
  have hnn:n =ops.size:=by omega
  have hall:∀i,i < n ->listed.getD i false =true:=λi hi =>by
   cases h:listed.getD i false
   ·have:=doneN_lt hi h;omega
   ·rfl
  have hl:listed =qG ops.size n:=by
   apply Array.ext (by simp[qG,hsz])
   intro i h1 h2
   have h3:listed[i]=listed.getD i false:=by simp[h1]
   rw[h3,hall i (by omega)];simp[qG];omega
  have:=hend v w hE (λi hi ht =>hZ i hi (hall i hi) ht) (λi hi =>hS i hi (hall i hi)) (λi j hbi hbj hi hj hij ti tj =>hdis i j hi hj hij (List.contains_iff_mem.2 hbi) (List.contains_iff_mem.2 hbj) ti tj (hall i hi) (hall j hj))
  rw[qY v a0 n ds hds,hl]
  rwa [show ops.size - n =0 by omega]at this
 | succ fuel ih =>
  intro listed v w hsz hbig hcnt hcl hE hZ hS hdis hj0 htr
  by_cases hall:∃i,i < n/\ (!listed.getD i false)=true
  ·obtain⟨i1,hi1,h1⟩ :=hall
   have hu1:listed.getD i1 false =false:=by simpa using h1
   obtain⟨i0,hi0,h0,hmin⟩ :=xX (λi => !listed.getD i false) n ⟨i1,hi1,by rw[hu1];rfl⟩
   have hi0s:i0 < listed.size:=by omega
   have hr0:i0∈Region.ready .any ops listed:=xG (by simpa [hi0s]using h0) (by omega) (λe he =>by
    have:=hmin e zah
    simpa using this)
   refine⟨λh =>(by rw[h]at hr0;cases hr0),λi hi =>?_⟩
   have hin:i < n:=by
    rcases jU i n with h|h
    ·exact h
    ·exfalso
     obtain⟨_,o,ho,_⟩ :=mem_ready.1 hi
     have his:i < ops.size:=(Array.getElem?_eq_some_iff.1 ho).1
     rcases(htp1 i his).resolve_left (by omega) i1 hi1 with h2|h2
     ·have h3:=qK hcl i (qS .any ops i) (qL hi) i1 (List.contains_iff_mem.1 h2)
      rw[hu1]at h3;cases h3
     ·simp at h2
   obtain⟨hun,o,ho,_⟩ :=mem_ready.1 hi
   have hil:i < listed.size:=by omega
   have hunf:listed.getD i false =false:=by simp[hil]at hun ⊢;exact hun
   have hdeps:∀j,(ups .any ops i).contains j =true ->L.getD j (λ_ _ =>True) (v j) w:=λj hj =>by
    have hjl:=qK hcl i (qS .any ops i) (qL hi) j (List.contains_iff_mem.1 hj)
    have hjn:j < n:=by
     rcases jU j n with h|h
     ·exact h
     ·rw[hbig j h]at hjl;cases hjl
    by_cases ht:tg.getD j none =none
    ·exact hZ j hjn hjl ht
    ·exact htr j hjn ht _ _
   have hthis:=RgAllN.get hop i hin o jt
   rw[Nat.zero_add]at hthis
   refine wpOp_step ho λK hK =>?_
   have hdst:o.dst =qP ops i:=by simp[qP,ho]
   cases htgi:tg.getD i none with
   | none =>
    rw[htgi]at hthis
    have hrun:=hthis v w hE hdeps K
    rw[<-qY v a0 n ds hds]at hrun
    refine hrun ?_
    intro x w' e1 hx hbx'
    refine hK _ _ ?_
    rw[hdst,layN_put a0 v i x n hin (λj k hj hk hjk =>xM hap hj hk hjk)]
    refine ih _ _ _ (by simp[hsz]) (λj hj =>?_) ?_ (λj hj e he =>?_) (hE.trans e1) (λj hj hlj ht =>?_) (λk hk hlk j Fs ht =>?_) (λj k hj hk hjk hbj hbk htj htk hlj hlk =>?_) hj0 htr
    ·rw[getD_set_ne false (by omega)];exact hbig j hj
    ·rw[doneN_set _ _ hun,if_pos hin];omega
    ·by_cases hij:i =j
     ·subst hij
      exact getD_set_true (qL hi e he)
     ·rw[getD_set_ne false hij]at hj
      exact getD_set_true (hcl j hj e he)
    ·by_cases hij:j =i
     ·subst hij;simpa only[xW,if_true]using hx
     ·rw[getD_set_ne false (Ne.symm hij)]at hlj
      simp only[xW];rw[if_neg hij]
      exact hst.get j _ _ _ e1.gr (Shp.of e1) (hZ j hj hlj ht)
    ·have hki:k≠i:=λh =>by rw[h,htgi]at ht;cases ht
     rw[getD_set_ne false (Ne.symm hki)]at hlk
     have hji:j≠i:=λh =>by
      have h1:=(htg k hk j Fs ht).1
      have h2:=qK hcl k (qS .any ops k) (λe he =>hcl k hlk e he) j (List.contains_iff_mem.1 h1)
      rw[h,hunf]at h2;cases h2
     simp only[xW];rw[if_neg hji]
     exact(hS k hk hlk j Fs ht).ext (htg k hk j Fs ht).2.2.2.1 e1
    ·simp only[xW]
     by_cases hji:j =i
     ·subst hji
      rw[if_pos rfl,if_neg (Ne.symm hjk)]
      rw[getD_set_ne false hjk]at hlk
      obtain⟨m,hm⟩ :=hbx k (List.contains_iff_mem.1 hbk)
      have hk2:=hZ k hk hlk htk
      rw[hm]at hk2
      obtain⟨g,hg,_,hlt,_⟩ :=hk2
      obtain⟨g',hg',hge⟩ :=hbx' hbj
      rw[hg,hg']
      intro h;injection h with h;injection h with h;injection h with h;omega
     ·rw[if_neg hji]
      rw[getD_set_ne false (Ne.symm hji)]at hlj
      by_cases hki:k =i
      ·subst hki
       rw[if_pos rfl]
       obtain⟨m,hm⟩ :=hbx j (List.contains_iff_mem.1 hbj)
       have hj2:=hZ j hj hlj htj
       rw[hm]at hj2
       obtain⟨g,hg,_,hlt,_⟩ :=hj2
       obtain⟨g',hg',hge⟩ :=hbx' hbk
       rw[hg,hg']
       intro h;injection h with h;injection h with h;injection h with h;omega
      ·rw[if_neg hki]
       rw[getD_set_ne false (Ne.symm hki)]at hlk
       exact hdis j k hj hk hjk hbj hbk htj htk hlj hlk
   | some jF =>
    obtain⟨t,Fs⟩ :=jF
    rw[htgi]at hthis
    obtain⟨hd0,hg0,hthis⟩ :=hthis
    obtain⟨hut,hbt,htn,hgF,hsep⟩ :=htg i hin t Fs htgi
    have hrun:=hthis.out v w hE hdeps K
    rw[<-qY v a0 n ds hds]at hrun
    rw[if_pos (by simp[Region.wanted,hg0])]
    refine hrun ?_
    intro w' hin' hst'
    refine hK _ _ ?_
    have hnt:=hdeps t hut
    obtain⟨m,hm⟩ :=hbx t (List.contains_iff_mem.1 hbt)
    rw[hm]at hnt
    obtain⟨gt,hgt,hgt0,_,_⟩ :=hnt
    have htl:=qK hcl i (qS .any ops i) (qL hi) t (List.contains_iff_mem.1 hut)
    refine ih _ _ _ (by simp[hsz]) (λj hj =>?_) ?_ (λj hj e he =>?_) (hin'.ext w0 hE (λg hg =>by rw[hgt]at hg;injection hg with hg;injection hg with hg;injection hg with hg;omega)) (λj hj hlj ht =>?_) (λk hk hlk j F2 ht =>?_) (λj k hj hk hjk hbj hbk htj htk hlj hlk =>?_) hj0 htr
    ·rw[getD_set_ne false (by omega)];exact hbig j hj
    ·rw[doneN_set _ _ hun,if_pos hin];omega
    ·by_cases hij:i =j
     ·subst hij
      exact getD_set_true (qL hi e he)
     ·rw[getD_set_ne false hij]at hj
      exact getD_set_true (hcl j hj e he)
    ·have hij:j≠i:=λh =>by rw[h,htgi]at ht;cases ht
     rw[getD_set_ne false (Ne.symm hij)]at hlj
     exact hst.get j _ _ _ hin'.gr hin'.shp (hZ j hj hlj ht)
    ·by_cases hki:k =i
     ·subst hki
      rw[htgi]at ht
      injection ht with ht
      injection ht with h1 h2
      subst h1;subst h2
      exact hst'
     ·rw[getD_set_ne false (Ne.symm hki)]at hlk
      have hjt:t≠j:=hsep k hk (λh =>hki h.symm) j F2 ht
      obtain⟨huj,hbj,hjn,hgF2,_⟩ :=htg k hk j F2 ht
      have hjl:=qK hcl k (qS .any ops k) (λe he =>hcl k hlk e he) j (List.contains_iff_mem.1 huj)
      exact(hS k hk hlk j F2 ht).into hgF2 hin' (hdis t j htn hjn hjt hbt hbj (hj0 i hin t Fs htgi) (hj0 k hk j F2 ht) htl hjl)
    ·by_cases hji:j =i
     ·rw[hji,htgi]at htj;cases htj
     by_cases hki:k =i
     ·rw[hki,htgi]at htk;cases htk
     rw[getD_set_ne false (Ne.symm hji)]at hlj
     rw[getD_set_ne false (Ne.symm hki)]at hlk
     exact hdis j k hj hk hjk hbj hbk htj htk hlj hlk
  ·have hall':∀i,i < n ->listed.getD i false =true:=λi hi =>by
    cases h:listed.getD i false
    ·exact absurd ⟨i,hi,by rw[h];rfl⟩ hall
    ·rfl
   have hl:listed =qG ops.size n:=by
    apply Array.ext (by simp[qG,hsz])
    intro i h1 h2
    have h3:listed[i]=listed.getD i false:=by simp[h1]
    rw[h3]
    rcases jU i n with h|h
    ·rw[hall' i h];simp[qG,h]
    ·rw[hbig i h];simp[qG];omega
   have:=hend v w hE (λi hi ht =>hZ i hi (hall' i hi) ht) (λi hi =>hS i hi (hall' i hi)) (λi j hbi hbj hi hj hij ti tj =>hdis i j hi hj hij (List.contains_iff_mem.2 hbi) (List.contains_iff_mem.2 hbj) ti tj (hall' i hi) (hall' j hj))
   rw[qY v a0 n ds hds,hl]
   have hdn:=doneN_all n hall'
   rwa [show ops.size - n =fuel + 1 by omega]at this
/-! The rule,its side conditions found by themselves. -/
def AllNw(w0:World)(L:List (Value ->World ->Prop)):List Nat ->Prop
 | [] =>True
 |b ::bs =>(∃m,L.getD b (λ_ _ =>True)=IsNw w0 m)/\AllNw w0 L bs
theorem AllNw.get{L:List (Value ->World ->Prop)}:∀ {bs:List Nat},AllNw w0 L bs ->∀i∈bs,∃m,L.getD i (λ_ _ =>True)=IsNw w0 m
 | [],_,_,h =>by cases h
 | b ::bs,h,i,hi =>by
  rcases List.mem_cons.1 hi with rfl|hi
  ·exact h.1
  ·exact AllNw.get h.2 i hi
abbrev TT:Value ->World ->Prop:=λ_ _ =>True
inductive AllTr:List Tg ->List (Value ->World ->Prop) ->Prop
 |nil {ls:List (Value ->World ->Prop)}:AllTr [] ls
 |none {ts:List Tg} {l:Value ->World ->Prop} {ls:List (Value ->World ->Prop)}:AllTr ts ls ->AllTr (Option.none ::ts) (l ::ls)
 |some {ts:List Tg} {ls:List (Value ->World ->Prop)} {j:Nat} {Fs:List (Value ->World ->Prop)}:(∀fP∈Fs,GStb fP) ->AllTr ts ls ->AllTr (Option.some (j,Fs) ::ts) (TT ::ls)
theorem AllTr.get{tg:List Tg}{L:List (Value ->World ->Prop)}(h:AllTr tg L):∀i j Fs,tg.getD i Option.none =Option.some (j,Fs) ->i < L.length ->L.getD i (λ_ _ =>True)=TT/\∀fP∈Fs,GStb fP:=by
 induction h with
 |nil =>intro i j Fs h _;simp at h
 | none _ ih =>
  intro i j Fs h hi
  cases i with
  |zero =>simp at h
  |succ i =>simpa using ih i j Fs yw (by simpa using hi)
 | some hF _ ih =>
  intro i j Fs h hi
  cases i with
  | zero =>
   simp only[List.getD_cons_zero,Option.some.injEq,Prod.mk.injEq]at h
   obtain⟨rfl,rfl⟩ :=h
   exact⟨rfl,hF⟩
  |succ i =>simpa using ih i j Fs yw (by simpa using hi)
def tgFine(ops:Array Oper)(n:Nat)(boxes:List Nat)(tg:List (Option Nat)):Bool:=
 (List.range n).all λi =>match tg.getD i none with
  |none =>true
  |some j =>(ups .any ops i).contains j && boxes.contains j && decide (j < n) && (tg.getD j none ==none) && (List.range n).all λi2 =>i ==i2 || tg.getD i2 none !=some j
theorem rgn(n:Nat)(ds:List (Option Tmp))(L:List (Value ->World ->Prop))(boxes:List Nat)(tg:List Tg)(tn:List (Option Nat))(fuel:Nat){id:Nat}
  (hop:RgAllN P ops Q ds a0 w0 L boxes tg 0 n ops.toList)
  (hend:∀v w,Ext w0 w ->(∀i,i < n ->tg.getD i none =none ->L.getD i (λ_ _ =>True) (v i) w) ->(∀i,i < n ->∀j Fs,tg.getD i none =some (j,Fs) ->Stored (v j) Fs w) ->
   (∀i j,i∈boxes ->j∈boxes ->i < n ->j < n ->i≠j ->tg.getD i none =none ->tg.getD j none =none ->v i≠v j) ->wpAny P .any ops Q fuel (qG ops.size n) (qW v a0 0 ds) w)
  (hm:P.follows .mixedOrders =true:=by kernel_rfl) (hn:n <=ops.size:=by decide) (hf:ops.size - n =fuel:=by kernel_rfl) (hds:(List.range n).map (qP ops)=ds:=by kernel_rfl) (hap:qO ops n =true:=by kernel_rfl) (htp:xD .any ops n []=true:=by kernel_rfl)
  (htn:tg.map (λt =>t.map (λp =>p.1))=tn:=by kernel_rfl) (hfine:tgFine ops n boxes tn =true:=by kernel_rfl) (hlen:decide (n <=L.length)=true:=by kernel_rfl)
  (hst:AllGst L:=by repeat' (with_reducible first|exact AllGst.nil|apply AllGst.cons|exact Gst.v _|exact Gst.tt|exact Gst.of (IsI.gstb _ _)|exact IsNw.gs _ _|exact Gst.of (IsR.gstb _ _)|apply Gst.q|apply Gst.j|apply Gst.t2|apply Gst.t3))
  (hbx:AllNw w0 L boxes:=by repeat' (first|exact trivial|exact⟨_,rfl⟩|apply jO))
  (htr:AllTr tg L:=by repeat' (with_reducible first|exact AllTr.nil|apply AllTr.none| (refine AllTr.some ?_ ?_)|exact gs0| (refine gs1 ?_ ?_)|exact IsI.gstb _ _|exact IsR.gstb _ _)) :
  (Code.region id ops true).wp P Q a0 w0:=by
 have hg:∀i,tn.getD i none =(tg.getD i none).map (λp =>p.1) :=λi =>by
  rw[<-htn]
  simp only[List.getD_eq_getElem?_getD,List.getElem?_map]
  cases tg[i]? <;> rfl
 simp only[tgFine,List.all_eq_true,List.mem_range]at hfine
 have hfin:∀i,i < n ->∀j Fs,tg.getD i none =some (j,Fs) ->(ups .any ops i).contains j =true/\boxes.contains j =true/\j < n/\tg.getD j none =none/\∀i2,i2 < n ->i≠i2 ->∀j2 F2,tg.getD i2 none =some (j2,F2) ->j≠j2:=λi hi j Fs ht =>by
  have:=hfine i hi
  rw[hg i,ht]at this
  simp only[Option.map_some,Bool.and_eq_true,jY,List.all_eq_true,List.mem_range,Bool.or_eq_true,beq_iff_eq,bne_iff_ne,ne_eq]at this
  obtain⟨⟨⟨⟨h1,h2⟩,h3⟩,h4⟩,h5⟩ :=this
  refine⟨h1,h2,h3,?_,λi2 hi2 hne j2 F2 ht2 he =>?_⟩
  ·rw[hg j]at h4
   cases h:tg.getD j none with
   |none =>rfl
   |some p =>rw[h]at h4;simp at h4
  ·rcases h5 i2 hi2 with h|h
   ·exact hne h
   ·rw[hg i2,ht2]at h;exact h (by rw[he];rfl)
 have htr':∀i,i < n ->∀j Fs,tg.getD i none =some (j,Fs) ->L.getD i (λ_ _ =>True)=TT/\∀fP∈Fs,GStb fP:=λi hi j Fs ht =>htr.get i j Fs ht (by have:=of_decide_eq_true hlen;omega)
 refine wp_region_any hm ?_
 have hE:Ext w0 w0.drew:=(Ext.refl w0).drew
 have hD:∀m,qU (Array.replicate ops.size false) m =0:=λm =>by
  unfold qU
  rw[List.countP_eq_zero.2]
  intro i _
  simp[qH]
 have:=rgn_main (P:=P) (Q:=Q) (a0:=a0) (w0:=w0) (tg:=tg) (L:=L) (boxes:=boxes) n hn hds hap htp hst hbx.get
  (λi hi j Fs ht =>⟨(hfin i hi j Fs ht).1,(hfin i hi j Fs ht).2.1,(hfin i hi j Fs ht).2.2.1,(htr' i hi j Fs ht).2,(hfin i hi j Fs ht).2.2.2.2⟩)
  hop (λv w e h1 h2 h3 =>by rw[hf];exact hend v w e h1 h2 h3)
  ops.size (Array.replicate ops.size false) (xT ops a0) w0.drew (by simp) (λj _ =>by simp[qH]) (by rw[hD];rfl)
  (λi hi =>by simp[qH]at hi) hE (λi hi h =>by simp[qH]at h) (λi hi h =>by simp[qH]at h) (λi j _ _ _ _ _ _ _ h =>by simp[qH]at h)
  (fun i hi j Fs ht =>(hfin i hi j Fs ht).2.2.2.1) (λi hi ht x w =>by
   cases h:tg.getD i none with
   |none =>exact absurd h ht
   |some p =>rw[(htr' i hi p.1 p.2 h).1];trivial)
 have hlay:qT ops (xT ops a0) a0 n =a0:=layN_self a0 n
 rwa [hlay]at this
/-! Its rows. -/
variable {os:List Oper} {k:Nat}
theorem RcS(j:Nat){Fs:List (Value ->World ->Prop)}(h:RgS P ops Q ds a0 w0 L i o j Fs)(hs:RgAllN P ops Q ds a0 w0 L boxes tg (i + 1) k os)(ht:tg.getD i none =some (j,Fs) :=by kernel_rfl)(hd:o.dst =none:=by rfl)(hg:o.guard =none:=by rfl):RgAllN P ops Q ds a0 w0 L boxes tg i (k + 1) (o ::os) :=.st ht hd hg h hs
theorem RcK(h:Ok P ops Q ds a0 w0 L boxes i o)(hs:RgAllN P ops Q ds a0 w0 L boxes tg (i + 1) k os)(hg:o.guard =none:=by rfl)(ht:tg.getD i none =none:=by kernel_rfl):RgAllN P ops Q ds a0 w0 L boxes tg i (k + 1) (o ::os) :=.op ht (RgL.mk hg h.out) hs
theorem alN{T m:Nat}(hr:AlO P T m)(ho:o.op =.alloc T:=by rfl)(hi:L.getD i (λ_ _ =>True)=IsNw w0 m:=by kernel_rfl):Ok P ops Q ds a0 w0 L boxes i o:=
 ⟨fun v a w hE hd hf K hK =>by
  obtain⟨w',h1,h2,h3⟩ :=hr w0 w hE.size
  have hrun:(execOp a.eval o).run P w =.ok (.value (.pointer (some ⟨w.heap.size,0,none⟩))) w':=by
   unfold execOp
   rw[ho]
   dsimp only
   simp[h1]
  unfold Oper.wp
  rw[hrun]
  exact hK.out _ w' h2 (by rw[hi];exact h3.nw) FreshIf.yes⟩
theorem Into.put{w:World}{g i n c:Nat}{s:Bool}{a:Option Addr}(b:Bo w g i s a n c)(s':Bool)(a':Option Addr)(n' c':Nat):
  ∃W,W =(w.setCell ⟨g,2 * i,none⟩ (.bool s')).setCell ⟨g,2 * i + 1,none⟩ (.slice a' n' c')/\Bo W g i s' a' n' c'/\Into (.pointer (some ⟨g,0,none⟩)) w W/\ (∀i2 s2 a2 n2 c2,i2≠i ->Bo w g i2 s2 a2 n2 c2 ->Bo W g i2 s2 a2 n2 c2) :=by
 obtain⟨W,hW,b1,p⟩ :=b.put s' a' n' c'
 refine⟨W,hW,b1,⟨p.2.1,λg2 i2 s2 a2 n2 c2 hne h =>p.1 _ _ _ _ _ _ (λhe =>hne (by injection he with he;rw[he])) h,λw1 e hg =>p.2.2 w1 e (hg g rfl),λg2 i2 ⟨s2,a2,n2,c2,h⟩ =>?_⟩,λi2 s2 a2 n2 c2 hne h =>p.1 _ _ _ _ _ _ (λhe =>hne (by injection he with _ he)) h⟩
 by_cases he:(g2,i2)=(g,i)
 ·injection he with h1 h2
  subst h1;subst h2
  exact⟨_,_,_,_,b1⟩
 ·exact⟨_,_,_,_,p.1 _ _ _ _ _ _ he h⟩
theorem Into.trans{x:Value}{a b c:World}(h:Into x a b)(k:Into x b c):Into x a c:=
 ⟨h.gr.trans k.gr,λg i s n m d hne hb =>k.oth g i s n m d hne (h.oth g i s n m d hne hb),λw1 e hg =>k.ext w1 (h.ext w1 e hg) hg,λg i hb =>k.shp g i (h.shp g i hb)⟩
theorem sQ{T tp j:Nat}{y:Operand}{fP fS:Value ->World ->Prop}(hT:StQ P T)(hy:Od ops ds a0 w0 L i y (IsQ fP fS))(g2:GStb fS)(g1:GStb fP)(ho:o.op =.store T (.tmp tp) y:=by rfl)(hdd:o.dst =none:=by rfl)
  (hj:L.getD j (λ_ _ =>True)=IsNw w0 2:=by kernel_rfl) (hu:(ups .any ops i).contains j =true:=by kernel_rfl) (h1:ds[j]? =some (some tp) :=by kernel_rfl) (h2:(ds.drop (j + 1)).contains (some tp)=false:=by kernel_rfl) (h3:decide (tp < a0.tmps.size)=true:=by kernel_rfl):RgS P ops Q ds a0 w0 L i o j [fP,fS] :=by
 refine⟨λv w hE hd K hK =>?_⟩
 have hf:=Fr.of ds a0 v
 obtain⟨s,a1,n1,c1,s',a1',n1',c1',hv,hZ,hG⟩ :=hy.out v _ w hE hd hf
 have hp:(qW v a0 0 ds).eval (.tmp tp)=v j:=by rw[eval_tmp,hf.val j tp _ rfl h1 h2 h3]
 have hn:=hd j hu
 rw[hj]at hn
 obtain⟨g,hg,_,_,hb⟩ :=hn
 obtain⟨t0,t1,t2,t3,b0⟩ :=hb 0 dcx
 obtain⟨u0,u1,u2,u3,b1⟩ :=hb 1 dcx
 obtain⟨W,hW,k0,i1,o1⟩ :=Into.put b0 s a1 n1 c1
 obtain⟨W0,hW2,k1,i2,o2⟩ :=Into.put (o1 1 _ _ _ _ dcx b1) s' a1' n1' c1'
 refine st_wp ho (hp.trans hg) hv (hT w g 0 _ _ _ _ _ _ _ _ _ _ _ _ _ _ _ _ b0.c0 b0.c1 b0.f0 b0.f1 b1.c0 b1.c1 b1.f0 b1.f1) ?_
 have hW3:W0 =((((w.setCell ⟨g,0,none⟩ (.bool s)).setCell ⟨g,0 + 1,none⟩ (.slice a1 n1 c1)).setCell ⟨g,0 + 2,none⟩ (.bool s')).setCell ⟨g,0 + 3,none⟩ (.slice a1' n1' c1')) :=by rw[hW2,hW]
 rw[<-hW3,hdd]
 refine hK.out W0 (by rw[hg];exact i1.trans i2) ⟨g,hg,λk fQ hk =>?_⟩
 rcases k with _|_|k
 ·obtain rfl:fP =fQ:=by simpa using hk
  exact⟨_,_,_,_,o2 0 _ _ _ _ dcx k0,g1 _ _ _ (i1.gr.trans i2.gr) hZ⟩
 ·obtain rfl:fS =fQ:=by simpa using hk
  exact⟨_,_,_,_,k1,g2 _ _ _ (i1.gr.trans i2.gr) hG⟩
 ·simp at hk
theorem Sto.addQ{w0 w W:World}{B:List Fld}(S:Sto w0 w B){x:Value}{fP fS:Value ->World ->Prop}(h:IsNw W 2 x w)(k:Stored x [fP,fS] w)(hW:w0.heap.size <=W.heap.size)(hZ:GStb fP)(hG:GStb fS):
  ∃g,x =.pointer (some ⟨g,0,none⟩)/\W.heap.size <=g/\ (ApartO g B ->Sto w0 w (((g,1),fS) ::((g,0),fP) ::B)) :=by
 obtain⟨g,hg,h1,h2,_⟩ :=h
 obtain⟨g',hg',h3⟩ :=k
 rw[hg]at hg'
 obtain rfl:g =g':=by injection hg' with e;injection e with e;injection e
 obtain⟨s,a,n,c,b,hb⟩ :=h3 0 fP rfl
 obtain⟨s',a',n',c',b',hb'⟩ :=h3 1 fS rfl
 refine⟨g,hg,h1,λhap =>((S.add b (by omega) (λp hp he =>hap p hp (by rw[he])) hZ hb).add b' (by omega) (λp hp he =>?_) hG hb')⟩
 rcases List.mem_cons.1 hp with rfl|hp
 ·simp at he
 ·exact hap p hp (by rw[he])
end
end
section
open Go Go.RowKit
theorem rat_num_pos(n d:Int)(hd:0<d):n/(Int.gcd n d:Int)=(Rat.divInt n d).num:=by
 rw[Rat.num_divInt,Int.sign_eq_one_of_pos hd,Int.one_mul,Int.gcd_comm]
theorem rat_den_pos(n d:Int)(hd:0<d):d/(Int.gcd n d:Int)=((Rat.divInt n d).den:Int):=by
 rw[Rat.den_divInt,if_neg (by omega),Int.natCast_ediv,Int.gcd_comm,show(d.natAbs:Int)=d by omega]
end
section
open Go Go.RowKit
open Go.Proofs.Tryz
theorem zd{P:Prop}(h:P:=by exact⟨_,rfl,((((Sto.start w).new1 (w.heap.size) (by simp) s1 a1 n1 c1 28 (IsI k1 z1) (IsI.gstb _ _) (h1)).new1 (w.heap.size+1) (by simp) s2 a2 n2 c2 28 (IsI k2 z2) (IsI.gstb _ _) (h2.ext ((Ext.refl _).alloc _))).new2 (w.heap.size+1+1) (by simp) false false none none 0 0 0 0 45 (IsI 0 0) (IsI 0 0) (IsI.gstb _ _) (IsI.nil _ _) (IsI.gstb _ _) (IsI.nil _ _))⟩):P:=h
theorem jp{P:Prop}(h:P:=by exact ldI S 1 (w.heap.size+1) 0 (qB 3) qF):P:=h
theorem js{P:Prop}(h:P:=by exact ldI S 2 (w.heap.size) 0 (qB 2) qF):P:=h
theorem yb{P:Prop}(h:P:=by exact ldI S 2 (w.heap.size+1) 0 (qB 3) qF):P:=h
theorem zaj{P:Prop}(h:P:=by exact ldI S 3 (w.heap.size) 0 (qB 2) qF):P:=h
abbrev jL:=@wpList_nil
set_option maxRecDepth 100000
set_option maxHeartbeats 4000000
abbrev IsRat(K:Nat)(q:Rat):Value->World->Prop:=IsQ (IsI K q.num) (IsI K (q.den:Int))
theorem IsRat.mono{K K':Nat}{q:Rat}{x:Value}{w:World}(h:IsRat K q x w)(hk:K<=K'):IsRat K' q x w:=
 let ⟨s,a,n,c,s',a',n',c',h1,h2,h3⟩:=h;⟨s,a,n,c,s',a',n',c',h1,h2.mono hk,h3.mono hk⟩
theorem quotient_f{k1 k2:Nat}{z1 z2:Int}{x y:Value}{w:World}(hx:IsI k1 z1 x w)(hy:IsI k2 z2 y w)(l1:k1<=33554432)(l2:k2<=33554432)(hz:z2=1):
  Calls prog 176 #[x,y] w (Ret w (IsI k1 (z1/z2))):=by
 have HZ:=hid hz;clear hz;obtain⟨s1,a1,n1,c1,rfl,h1⟩:=hx;have h1:IsI _ _ _ w:=⟨_,_,_,_,rfl,h1⟩;obtain⟨s2,a2,n2,c2,rfl,h2⟩:=hy;have h2:IsI _ _ _ w:=⟨_,_,_,_,rfl,h2⟩;obtain⟨W,hW,S⟩:∃W,W=((w.alloc (.cells #[.bool s1,.slice a1 n1 c1] 28)).alloc (.cells #[.bool s2,.slice a2 n2 c2] 28)).alloc (.cells #[.bool false,.slice none 0 0] 28)/\Sto w W [((w.heap.size+1+1,0),IsI 0 0),((w.heap.size+1,0),IsI k2 z2),((w.heap.size,0),IsI k1 z1)]:=⟨_,rfl,((((Sto.start w).new1 (w.heap.size) (by simp) s1 a1 n1 c1 28 (IsI k1 z1) (IsI.gstb _ _) (h1)).new1 (w.heap.size+1) (by simp) s2 a2 n2 c2 28 (IsI k2 z2) (IsI.gstb _ _) (h2.ext ((Ext.refl _).alloc _))).new1 (w.heap.size+1+1) (by simp) false none 0 0 28 (IsI 0 0) (IsI.gstb _ _) (IsI.nil _ _))⟩;clear h1 h2;go_enter func176,ntmps176;go_upto_region 1 with fail;rw[<-hW];clear hW;have hl:=hid S.lt;have hw:=S.ext.size;refine rgs 9 [some 9,some 10,some 11,some 8,some 12,some 13,some 14,some 5,some 6] [IsI k1 z1,IsI k2 z2,IsT3 (IsI k1 (z1/z2)) (IsI k2 (z1%z2)) (iV 0),IsT3 (IsI k1 (z1/z2)) (IsI k2 (z1%z2)) (iV 0),IsI k1 (z1/z2),IsI k2 (z1%z2),iV 0,IsBo W 1,IsBo W 1] [7,8] ?_ ?_
 ·refine Rc js ?_;refine Rc jp ?_;refine Rc (cl2 (en func213) (qA (fP:=IsI k1 z1) 0 9) (qA (fP:=IsI k2 z2) 1 10) (λx0 x1 w' hE d0 d1=>DivMod_f d0 d1 (by omega) (by omega) HZ.out)) ?_;refine Rc (mv (qA 2 11)) ?_;refine Rc (ex (qC 3 8) t30) ?_;refine Rc (ex (qC 3 8) t31) ?_;refine Rc (ex (qC 3 8) t32) ?_;refine Rc (al al_Int) ?_;refine Rc (al al_Int) ?_;exact rn0
 intro v W1 e1 hZ hne;replace S:=S.mono e1;have h12:=hZ 4 dcx;have h13:=hZ 5 dcx;have v6:v 6=.int .i64 0:=hZ 6 dcx;obtain⟨g5,v7,q2,b1,_⟩:=(hZ 7 dcx:IsBo W 1 (v 7) W1);replace S:=S.addN 1 (ApartO.old hl.out q2) (jQ hw q2) b1;obtain⟨g6,v8,q4,b3,_⟩:=(hZ 8 dcx:IsBo W 1 (v 8) W1);replace S:=S.addN 1 (ApartO.cons (λh=>hne 7 8 dcx dcx dcx dcx dcx (by rw[v7,v8,h])) (ApartO.old hl.out q4)) (jQ hw q4) b3;simp only[newF,List.cons_append,List.nil_append]at S;simp only[lxE,Nat.reduceAdd];rw[v6,v7,v8];clear b1 b3 hl hw hne v6 v7 v8 hZ e1
 try simp only[dxE]
 (with_reducible refine stL ?_ zb6);intro KK hKK;refine stI S 1 (g5) 0 h12 st_Int (λW1a S2 G2=>hKK _ _ ?_) rfl
 replace h13:=(IsI.gstb _ _) _ _ _ G2 h13;replace S:=S2;clear S2 G2 hKK KK h12;simp only[u0x,u1x]at S
 try simp only[dxE]
 (with_reducible refine stL ?_ zb6);intro KK hKK;refine stI S 0 (g6) 0 h13 st_Int (λW1b S2 G2=>hKK _ _ ?_) rfl
 replace S:=S2;clear S2 G2 hKK KK h13;simp only[u0x]at S;refine jX λK hK=>?_;go_simp;refine hK _ _ ?_;clear hK K
 refine jL ?_;go_upto_region 2 with fail;refine rgs 1 [some 15] [IsI k1 (z1/z2)] [] ?_ ?_
 ·refine Rc (ldI S 1 (g5) 0 (qB 5) qF) ?_;exact rn0
 intro v W2 e1 hZ _;replace S:=S.mono e1;have h15:=hZ 0 dcx;simp only[lxE];clear hZ e1
 try simp only[dxE]
 (with_reducible refine stL ?_ zb6);intro KK hKK;refine stI S 2 (w.heap.size+1+1) 0 h15 st_Int (λW2a S2 G2=>hKK _ _ ?_) rfl
 replace S:=S2;clear S2 G2 hKK KK h15;simp only[u0x,u1x]at S;refine jL ?_;go_wp2_with fail;obtain⟨s90x,a90x,n90x,c90x,b90x,h90x⟩:=S.at 2 (w.heap.size+1+1) 0 (IsI k1 (z1/z2)) rfl;have L90xa:World.cell? W2a ⟨w.heap.size+1+1,0,none⟩=some (.bool s90x):=b90x.c0;have L90xb:World.cell? W2a ⟨w.heap.size+1+1,1,none⟩=some (.slice a90x n90x c90x):=b90x.c1;exact jK (v:=.agg #[.bool s90x,.slice a90x n90x c90x]) (by simp[results,results176,go_sem,L90xa,L90xb]) rfl (⟨_,rfl,S.ext,h90x⟩)
theorem reduced_c{k1 k2:Nat}{z1 z2:Int}{x y:Value}{w:World}(hx:IsI k1 z1 x w)(hy:IsI k2 z2 y w)(l1:k1<=33554432)(l2:k2<=33554432)(hz:z2=1)(qn qd:Int)(hn:z1/(Int.gcd z1 z2:Nat)=qn)(hd:z2/(Int.gcd z1 z2:Nat)=qd):
  Calls prog 128 #[x,y] w (Ret w (IsQ (IsI k1 qn) (IsI k2 qd))):=by
 have HG:=hid (show((Int.gcd z1 z2:Nat):Int)=1 by rw[hz];simp);have HU:=hid hz;have HN:=hid hn;have HD:=hid hd;clear hz hn hd;obtain⟨s1,a1,n1,c1,rfl,h1⟩:=hx;have h1:IsI _ _ _ w:=⟨_,_,_,_,rfl,h1⟩;obtain⟨s2,a2,n2,c2,rfl,h2⟩:=hy;have h2:IsI _ _ _ w:=⟨_,_,_,_,rfl,h2⟩;obtain⟨W,hW,S⟩:∃W,W=((w.alloc (.cells #[.bool s1,.slice a1 n1 c1] 28)).alloc (.cells #[.bool s2,.slice a2 n2 c2] 28)).alloc (.cells #[.bool false,.slice none 0 0,.bool false,.slice none 0 0] 45)/\Sto w W [((w.heap.size+1+1,1),IsI 0 0),((w.heap.size+1+1,0),IsI 0 0),((w.heap.size+1,0),IsI k2 z2),((w.heap.size,0),IsI k1 z1)]:=zd;clear h1 h2;go_enter func128,ntmps128;go_upto_region 1 with fail;rw[<-hW];clear hW;have hl:=hid S.lt;have hw:=S.ext.size;refine rgs 4 [some 6,some 7,some 8,some 5] [IsI k1 z1,IsI k2 z2,IsI (max k1 k2) ((Int.gcd z1 z2:Nat)),IsBo W 1] [3] ?_ ?_
 ·refine Rc zaj ?_;refine Rc yb ?_;refine Rc (cl2 (en func175) (qA (fP:=IsI k1 z1) 0 6) (qA (fP:=IsI k2 z2) 1 7) (λx0 x1 w' hE d0 d1=>Gcd_f d0 d1 (by omega) (by omega) HU.out)) ?_;refine Rc (al al_Int) ?_;exact rn0
 intro v W1 e1 hZ _;replace S:=S.mono e1;have h8:=hZ 2 dcx;obtain⟨g5,v3,q2,b1,_⟩:=(hZ 3 dcx:IsBo W 1 (v 3) W1);replace S:=S.addN 1 (ApartO.old hl.out q2) (jQ hw q2) b1;simp only[newF,List.cons_append,List.nil_append]at S;simp only[lxE,Nat.reduceAdd];rw[v3];clear b1 hl hw v3 hZ e1
 try simp only[dxE]
 (with_reducible refine stL ?_ zb6);intro KK hKK;refine stI S 0 (g5) 0 h8 st_Int (λW1a S2 G2=>hKK _ _ ?_) rfl
 replace S:=S2;clear S2 G2 hKK KK h8;simp only[u0x]at S;refine jL ?_;go_upto_region 2 with fail;refine rg 7 (dR 9 7) [IsI k1 z1,IsI (max k1 k2) ((Int.gcd z1 z2:Nat)),IsI k1 qn,IsI k2 z2,IsI (max k1 k2) ((Int.gcd z1 z2:Nat)),IsI k2 qd,IsQ (IsI k1 qn) (IsI k2 qd)] [] 1 ?_ ?_
 ·refine Rc (ldI S 4 (w.heap.size) 0 (qB 2) qF) ?_;refine Rc (ldI S 0 (g5) 0 (qB 5) qF) ?_;refine Rc (cl2 (en func176) (qA (fP:=IsI k1 z1) 0 9) (qA (fP:=IsI (max k1 k2) ((Int.gcd z1 z2:Nat))) 1 10) (λx0 x1 w' hE d0 d1=>jJ (quotient_f d0 d1 (by omega) (by omega) HG.out) λ_ _ h=>h.eqz HN.out)) ?_;refine Rc (ldI S 3 (w.heap.size+1) 0 (qB 3) qF) ?_;refine Rc (ldI S 0 (g5) 0 (qB 5) qF) ?_;refine Rc (cl2 (en func176) (qA (fP:=IsI k2 z2) 3 12) (qA (fP:=IsI (max k1 k2) ((Int.gcd z1 z2:Nat))) 4 13) (λx0 x1 w' hE d0 d1=>jJ (quotient_f d0 d1 (by omega) (by omega) HG.out) λ_ _ h=>h.eqz HD.out)) ?_;refine Rc (bq (qC 2 11) (qC 5 14) bd_Rat) ?_;exact rn0
 intro v W2 e1 hZ _;replace S:=S.mono e1;have h15:=hZ 6 dcx;simp only[lxE,Nat.reduceAdd];clear hZ e1;refine stA 7 (h:=λKK hKK=>stQ S 2 1 (w.heap.size+1+1) 0 h15 (IsI.gstb _ _) (IsI.gstb _ _) st_Rat (λW2a S2 G2=>hKK _ _ ?_) rfl rfl);replace S:=S2;clear S2 G2 hKK KK h15;simp only[u0x,u1x]at S;refine jR za ?_ _;go_wp2_with fail;obtain⟨s90x,a90x,n90x,c90x,b90x,h90x⟩:=S.at 2 (w.heap.size+1+1) 0 (IsI k1 qn) rfl;have L90xa:World.cell? W2a ⟨w.heap.size+1+1,0,none⟩=some (.bool s90x):=b90x.c0;have L90xb:World.cell? W2a ⟨w.heap.size+1+1,1,none⟩=some (.slice a90x n90x c90x):=b90x.c1;obtain⟨s90y,a90y,n90y,c90y,b90y,h90y⟩:=S.at 1 (w.heap.size+1+1) 1 (IsI k2 qd) rfl;have L90ya:World.cell? W2a ⟨w.heap.size+1+1,2,none⟩=some (.bool s90y):=b90y.c0;have L90yb:World.cell? W2a ⟨w.heap.size+1+1,3,none⟩=some (.slice a90y n90y c90y):=b90y.c1;exact jK (v:=.agg #[.bool s90x,.slice a90x n90x c90x,.bool s90y,.slice a90y n90y c90y]) (by simp[results,results128,go_sem,L90xa,L90xb,L90ya,L90yb]) rfl (⟨_,rfl,S.ext,⟨_,_,_,_,_,_,_,_,rfl,h90x,h90y⟩⟩)
theorem reduced_f{k1 k2:Nat}{z1 z2:Int}{x y:Value}{w:World}(hx:IsI k1 z1 x w)(hy:IsI k2 z2 y w)(l1:k1<=33554432)(l2:k2<=33554432)(hz:z2=1):
  Calls prog 128 #[x,y] w (Ret w (IsRat (max k1 k2) (Rat.divInt z1 z2))):=by
 refine jJ (reduced_c hx hy l1 l2 hz _ _ (rat_num_pos z1 z2 (by omega)) (rat_den_pos z1 z2 (by omega))) λ_ _ h=>h.mono λ_ _ ⟨s,a,n,c,s',a',n',c',h1,h2,h3⟩=>⟨s,a,n,c,s',a',n',c',h1,h2.mono (by omega),h3.mono (by omega)⟩
theorem Ret.ratz{w:World}{K K':Nat}{q q':Rat}{e:Ending}{w':World}(h:Ret w (IsRat K q) e w')(hq:q=q')(hk:K<=K'):Ret w (IsRat K' q') e w':=by
 subst hq;exact h.mono λ_ _ h=>h.mono hk
theorem new_sign(n d:Int)(hd:d≠0):Rat.divInt (n*d.sign) (d.natAbs:Int)=Rat.divInt n d:=by
 rw[<-Int.mul_sign_self d];exact Rat.divInt_mul_right (by intro h;exact hd (Int.sign_eq_zero_iff_zero.1 h))
theorem qNew_c{k1 k2:Nat}{z1 z2:Int}{x y:Value}{w:World}(hx:IsI k1 z1 x w)(hy:IsI k2 z2 y w)(l1:k1<=16777216)(l2:k2<=16777216)(hu:z2=1)(q:Rat)(hq:Rat.divInt z1 z2=q):
  Calls prog 107 #[x,y] w (Ret w (IsT2 (IsRat (max (k1+2) k2) q) (iV 0))):=by
 have hz:z2≠0:=by omega
 obtain⟨sg,hsg⟩:∃s,z2.sign=s:=⟨_,rfl⟩;have HSG:=hid hsg;have HS0:=hid (show(sg==0)=false by rw[jM,<-hsg];intro h;exact hz (Int.sign_eq_zero_iff_zero.1 h));have HSB:=hid (show -9223372036854775808<=sg/\sg<=9223372036854775807 by rw[<-hsg];rcases Int.lt_trichotomy z2 0 with h|h|h <;> simp[Int.sign_eq_neg_one_of_neg,Int.sign_eq_one_of_pos,h]);have HP:=hid (show((z2.natAbs:Nat):Int)=1 by omega);have HQ:=hid (show Rat.divInt (z1*sg) ((z2.natAbs:Nat):Int)=q by rw[<-hsg,new_sign z1 z2 hz];exact hq);clear hz hsg hq hu;obtain⟨s1,a1,n1,c1,rfl,h1⟩:=hx;have h1:IsI _ _ _ w:=⟨_,_,_,_,rfl,h1⟩;obtain⟨s2,a2,n2,c2,rfl,h2⟩:=hy;have h2:IsI _ _ _ w:=⟨_,_,_,_,rfl,h2⟩;obtain⟨W,hW,S⟩:∃W,W=((w.alloc (.cells #[.bool s1,.slice a1 n1 c1] 28)).alloc (.cells #[.bool s2,.slice a2 n2 c2] 28)).alloc (.cells #[.bool false,.slice none 0 0,.bool false,.slice none 0 0] 45)/\Sto w W [((w.heap.size+1+1,1),IsI 0 0),((w.heap.size+1+1,0),IsI 0 0),((w.heap.size+1,0),IsI k2 z2),((w.heap.size,0),IsI k1 z1)]:=zd;clear h1 h2;go_enter func107,ntmps107;go_upto_region 1 with fail;rw[<-hW];clear hW;refine rgt S 3 [some 7,some 8,some 6] [IsI k2 z2,iV sg,iV sg] ?_ ?_
 ·refine Rc yb ?_;refine Rc (cl1 (en func127) (qA (fP:=IsI k2 z2) 0 7) (λx0 w' hE d0=>jJ (Sign_f d0) λ_ _ h=>h.int (HSG.out))) ?_;refine Rc (mv (qA 1 8)) ?_;exact rn0
 intro v W1 S hZ;simp only[lxE,Nat.reduceAdd];rw[show v 2=.int .i64 sg from hZ 2 dcx];clear hZ;go_upto_region 2 with fail;refine rgt S 2 [some 9,some 10] [iV sg,IsV (.bool false)] ?_ ?_
 ·refine Rc (mv (qB 6)) ?_;refine Rc (bn (r:=.bool false) (qC 0 9) qE (hr:=λw=>by have hx9:=HS0.out;go_simp)) ?_;exact rn0
 intro v W2 S hZ;simp only[lxE,Nat.reduceAdd];rw[show v 1=.bool false from hZ 1 dcx];clear hZ;go_upto_region 4 with fail;refine rg 7 (dR 12 7) [IsI k1 z1,iV sg,IsI 2 sg,IsI (k1+2) (z1*sg),IsI k2 z2,IsI k2 z2.natAbs,IsQ (IsI (max (k1+2) k2) q.num) (IsI (max (k1+2) k2) ((q.den:Int)))] [] 2 ?_ ?_
 ·refine Rc zaj ?_;refine Rc (mv (qB 6)) ?_;refine Rc (cl1 (en func108) (qA (fP:=iV sg) 1 13) (λx0 w' hE d0=>by{obtain rfl:x0=.int .i64 sg:=d0;exact Of_f _ sg HSB.out.1 HSB.out.2})) ?_;refine Rc (cl2 (en func129) (qA (fP:=IsI k1 z1) 0 12) (qA (fP:=IsI 2 sg) 2 14) (λx0 x1 w' hE d0 d1=>Mul_f d0 d1 (by omega) (by omega))) ?_;refine Rc yb ?_;refine Rc (cl1 (en func130) (qA (fP:=IsI k2 z2) 4 16) (λx0 w' hE d0=>Abs_f d0)) ?_;refine Rc (cl2 (en func128) (qA (fP:=IsI (k1+2) (z1*sg)) 3 15) (qA (fP:=IsI k2 z2.natAbs) 5 17) (λx0 x1 w' hE d0 d1=>jJ (reduced_f d0 d1 (by omega) (by omega) HP.out) λ_ _ h=>h.ratz HQ.out (jP _))) ?_;exact rn0
 intro v W4 e1 hZ _;replace S:=S.mono e1;have h18:=hZ 6 dcx;simp only[lxE,Nat.reduceAdd];clear hZ e1;refine stA 7 (h:=λKK hKK=>stQ S 1 0 (w.heap.size+1+1) 0 h18 (IsI.gstb _ _) (IsI.gstb _ _) st_Rat (λW4a S2 G2=>hKK _ _ ?_) rfl rfl);replace S:=S2;clear S2 G2 hKK KK h18;simp only[u0x,u1x]at S;refine wpAny_ready (rs:= [8]) za (by simp) (AllReady.cons rfl (λK hK=>?_) AllReady.nil);go_simp;refine hK _ _ ?_;clear hK K;refine jR za ?_ _;go_wp2_with fail;obtain⟨s90x,a90x,n90x,c90x,b90x,h90x⟩:=S.at 1 (w.heap.size+1+1) 0 (IsI (max (k1+2) k2) q.num) rfl;have L90xa:World.cell? W4a ⟨w.heap.size+1+1,0,none⟩=some (.bool s90x):=b90x.c0;have L90xb:World.cell? W4a ⟨w.heap.size+1+1,1,none⟩=some (.slice a90x n90x c90x):=b90x.c1;obtain⟨s90y,a90y,n90y,c90y,b90y,h90y⟩:=S.at 0 (w.heap.size+1+1) 1 (IsI (max (k1+2) k2) ((q.den:Int))) rfl;have L90ya:World.cell? W4a ⟨w.heap.size+1+1,2,none⟩=some (.bool s90y):=b90y.c0;have L90yb:World.cell? W4a ⟨w.heap.size+1+1,3,none⟩=some (.slice a90y n90y c90y):=b90y.c1;exact jK (v:=.tuple #[.agg #[.bool s90x,.slice a90x n90x c90x,.bool s90y,.slice a90y n90y c90y],.int .i64 0]) (by simp[results,results107,go_sem,L90xa,L90xb,L90ya,L90yb]) rfl (⟨_,rfl,S.ext,_,_,rfl,⟨_,_,_,_,_,_,_,_,rfl,h90x,h90y⟩,rfl⟩)
end
section
open Go Go.RowKit
def isU32(x:Value):Prop:=∃n:Nat,x=.int .u32 (n:Int)
theorem RowOf.wd{w:World}{base n cap:Nat}{ao:Option Addr}{xs:List Nat}(h:RowOf 145 isU32 w base (.slice ao n cap) (xK xs))(hx:∀i,xs.getD i 0<4294967296):Wd w ao n cap xs:=by
 have h0:=h;rcases h with⟨h,hw⟩| ⟨g,cap',cur,h1,h2,h3,h4,h5,h6,h7,h8⟩
 ·simp only[Value.slice.injEq]at h;obtain⟨rfl,rfl,rfl⟩:=h;have:xs= []:=by simpa [xK]using hw
  rw[this];exact wd_nil _ _ _ (by omega)
 ·simp only[Value.slice.injEq]at h1;obtain⟨rfl,rfl,rfl⟩:=h1;refine⟨(qN xs).symm,h4,h5,hx,.inr ⟨g,0,rfl,heap_lt h3,λj hj=>?_⟩⟩;rw[Nat.zero_add];exact h0.cell j _ (wcells_getElem? xs j (by rw[qN]at hj;exact hj))
def Rw(w:World)(base:Nat)(v:Value)(xs:List Nat):Prop:=RowOf 145 isU32 w base v (xK xs)/\∀i,xs.getD i 0<4294967296
theorem Rw.shape{w:World}{base:Nat}{v:Value}{xs:List Nat}(h:Rw w base v xs):∃ao cap,v=.slice ao xs.length cap/\(xs≠ []->∃g,ao=some ⟨g,0,none⟩/\base<=g/\g<w.heap.size)/\xs.length<=cap/\cap<=9223372036854775807:=by
 obtain⟨ao,cap,h1,h2,h3,h4⟩:=h.1.shape;rw[qN]at h1 h3;exact⟨ao,cap,h1,λhx=>h2 (λh=>hx (List.map_eq_nil_iff.1 h)),h3,h4⟩
theorem Rw.wd{w:World}{base:Nat}{v:Value}{xs:List Nat}(h:Rw w base v xs):∃ao cap,v=.slice ao xs.length cap/\Wd w ao xs.length cap xs:=by
 obtain⟨ao,cap,rfl,_⟩:=h.shape;exact⟨ao,cap,rfl,h.1.wd h.2⟩
theorem Rw.start(w:World)(base:Nat)(h:base<=w.heap.size):Rw (w.alloc (.cells #[] 145)) base (.slice (some ⟨w.heap.size,0,none⟩) 0 0) []:=
 ⟨.inr ⟨w.heap.size,0,#[],rfl,h,heap_alloc_new _ _,by simp[xK],by omega,rfl,by simp[xK],by simp⟩,λi=>by simp⟩
theorem wcells_snoc(xs:List Nat)(y:Nat):xK xs++ [.int .u32 (y:Int)]=xK (xs++ [y]):=by simp[xK]
def IsWk(k m:Nat):Value->World->Prop:=λx w=>∃a n c xs,x=.slice a n c/\Wd w a n c xs/\n<=k/\qD xs=m
theorem IsWk.gstb(k m:Nat):GStb (IsWk k m):=λ_ _ _ e ⟨a,n,c,xs,h1,h2,h3⟩=>⟨a,n,c,xs,h1,h2.gr e,h3⟩
theorem IsWk.stb(k m:Nat):Stb (IsWk k m):=(IsWk.gstb k m).stb
instance (k m:Nat):StbC (IsWk k m):=⟨IsWk.stb k m⟩
theorem Rw.isWk{w:World}{base k m:Nat}{v:Value}{xs:List Nat}(h:Rw w base v xs)(hk:xs.length<=k)(hm:qD xs=m):IsWk k m v w:=by
 obtain⟨ao,cap,rfl,hw⟩:=h.wd;exact⟨ao,_,cap,xs,rfl,hw,hk,hm⟩
def Upd(g:Nat)(w w':World):Prop:=Below g w w'/\∀b,b≠g->b<w.heap.size->w'.heap[b]? =w.heap[b]?
theorem Upd.trans{g:Nat}{a b c:World}(h:Upd g a b)(k:Upd g b c):Upd g a c:=
 ⟨Below.trans h.1 k.1,λx hx hl=>(k.2 x hx (Nat.lt_of_lt_of_le hl (Below.size h.1))).trans (h.2 x hx hl)⟩
theorem Upd.set(g j:Nat)(w:World)(v:Value):Upd g w (w.setCell ⟨g,j,none⟩ v):=
 ⟨(jS g w).setCell (jP _) v,λ_ hb _=>Below.heap_setCell _ _ _ _ hb⟩
end
section
/-! ### rows that grow by one word -/
theorem snoc_getD(xs:List Nat)(y i:Nat):(xs ++ [y]).getD i 0 =if i =xs.length then y else xs.getD i 0:=by
 rw[getD_append]
 by_cases h:i < xs.length
 ·rw[if_pos h,if_neg (by omega)]
 ·rw[if_neg h]
  by_cases h2:i =xs.length
  ·rw[if_pos h2,h2,Nat.sub_self];rfl
  ·rw[if_neg h2,xV xs i (by omega),xV _ _ (by simp;omega)]
theorem snoc_val(xs:List Nat)(y:Nat):qD (xs ++ [y])=qD xs + 4294967296 ^ xs.length * y:=by
 rw[natVal_append];simp[qD]
theorem snoc_lt{xs:List Nat}{y:Nat}(hx:∀i,xs.getD i 0 < 4294967296)(hy:y < 4294967296):∀i,(xs ++ [y]).getD i 0 < 4294967296:=by
 intro i;rw[snoc_getD];split
 ·exact hy
 ·exact hx i
def PlusS(A B xs:List Nat)(k c:Nat):Prop:=xs.length =k/\ (∀i,xs.getD i 0 < 4294967296)/\qD xs + 4294967296 ^ k * c =pv A k + pv B k/\c <=1
theorem PlusS.start(A B:List Nat):PlusS A B [] 0 0:=⟨rfl,λi =>by simp,by simp[qD,pv],by omega⟩
theorem PlusS.step{A B xs:List Nat}{k c:Nat}(h:PlusS A B xs k c)(hA:∀i,A.getD i 0 < 4294967296)(hB:∀i,B.getD i 0 < 4294967296):
  PlusS A B (xs ++ [(c + (A.getD k 0 + B.getD k 0)) % 4294967296]) (k + 1) ((c + (A.getD k 0 + B.getD k 0)) / 4294967296) :=by
 obtain⟨h1,h2,h3,h4⟩ :=h
 have a:=hA k
 have b:=hB k
 refine⟨by simp[h1],snoc_lt h2 (jV _ dcx),?_,by omega⟩
 rw[snoc_val,h1,pv,pv]
 exact add_step _ _ _ k _ _ c _ _ h3 (by congr 1;omega) (by congr 1;omega)
theorem PlusS.fin{A B xs:List Nat}{k c:Nat}(h:PlusS A B xs k c)(hA:A.length <=k)(hB:B.length <=k):qD (xs ++ [c])=qD A + qD B/\ (∀i,(xs ++ [c]).getD i 0 < 4294967296) :=by
 obtain⟨h1,h2,h3,h4⟩ :=h
 rw[snoc_val,h1,h3,xL A k hA,xL B k hB]
 exact⟨rfl,snoc_lt h2 (by omega)⟩
def MinusS(A B xs:List Nat)(k c:Nat):Prop:=xs.length =k/\ (∀i,xs.getD i 0 < 4294967296)/\qD xs + pv B k =pv A k + 4294967296 ^ k * c/\c <=1
theorem MinusS.start(A B:List Nat):MinusS A B [] 0 0:=⟨rfl,λi =>by simp,by simp[qD,pv],by omega⟩
theorem MinusS.step{A B xs:List Nat}{k c:Nat}(h:MinusS A B xs k c)(hA:∀i,A.getD i 0 < 4294967296)(hB:∀i,B.getD i 0 < 4294967296):
  MinusS A B (xs ++ [(4294967296 + A.getD k 0 - B.getD k 0 - c) % 4294967296]) (k + 1) (1 - (4294967296 + A.getD k 0 - B.getD k 0 - c) / 4294967296) :=by
 obtain⟨h1,h2,h3,h4⟩ :=h
 have a:=hA k
 have b:=hB k
 refine⟨by simp[h1],snoc_lt h2 (jV _ dcx),?_,by omega⟩
 rw[snoc_val,h1,pv,pv]
 exact sub_step _ _ _ k _ _ c _ _ h3 (by omega)
theorem minus_end(p a b q c:Nat)(h:p + b =a + q * c)(hc:c <=1)(hle:b <=a)(hp:p < q):p =a - b:=by
 rcases jN c with h0|h0
 ·rw[h0]at h;omega
 ·have:c =1:=by omega
  rw[this]at h;omega
theorem pv_small(B:List Nat)(k:Nat)(h:qD B < 4294967296 ^ k):pv B k =qD B:=by
 rcases jU k B.length with hk|hk
 ·rw[pv_take]
  have h2:=natVal_append (B.take k) (B.drop k)
  rw[List.take_append_drop,List.length_take,Nat.min_eq_left (by omega)]at h2
  rcases jN (qD (B.drop k))with h0|h0
  ·rw[h0]at h2;omega
  ·have:=Nat.le_mul_of_pos_right (4294967296 ^ k) h0
   omega
 ·exact xL B k hk
theorem MinusS.fin{A B xs:List Nat}{k c:Nat}(h:MinusS A B xs k c)(hx:∀i,A.getD i 0 < 4294967296)(hA:A.length <=k)(hle:qD B <=qD A):qD xs =qD A - qD B:=by
 obtain⟨h1,h2,h3,h4⟩ :=h
 have hl:=xR A hx
 have hp:4294967296 ^ A.length <=4294967296 ^ k:=Nat.pow_le_pow_right dcx hA
 rw[xL A k hA,pv_small B k (by omega)]at h3
 have:=xR xs h2
 rw[h1]at this
 exact minus_end _ _ _ _ _ h3 h4 hle this
/-! ### order -/
/-! ### long division,bit by bit:what the loop keeps ahead of bit i - 1 (i bits are still to come) -/
end
section
open Go Go.RowKit
theorem word_c(w:World)(ao:Option Addr)(n cap:Nat)(xs:List Nat)(h:Wd w ao n cap xs)(i:Nat)(hi:i<9223372036854775807):
  Calls Tryz.prog 94 #[.slice ao n cap,.int .i64 (i:Int)] w (RSame w (.int .u64 ((xs.getD i 0:Nat):Int))):=by
 by_cases hl:i<n
 ·rcases h.shape with h0| ⟨b,off,rfl,hb⟩
  ·omega
  ·have hc:=h.cell i hl;have hx:=h.lt i;generalize xs.getD i 0=x at*;clear h;go_enter Tryz.func94,Tryz.ntmps94;go_wp2_with fail
   go_ret
   exact⟨rfl,rfl⟩
 ·have hx:xs.getD i 0=0:=xV _ _ (by rw[h.len];omega);rw[hx];clear hx h;go_enter Tryz.func94,Tryz.ntmps94;go_wp2_with fail
  go_ret
  exact⟨rfl,rfl⟩
end
section
open Go Go.RowKit
open Go.Proofs.Tryz
theorem yi{P:Prop}(h:P:=by have:=HLen.out;rw[qN];omega):P:=h
theorem za1{P:Prop}(h:P:=by have:=HS.out;(try simp);(try omega)):P:=h
set_option maxRecDepth 100000
set_option maxHeartbeats 1000000
def PlI(w:World)(A B:List Nat)(N gk:Nat)(v5 v6 v7:Value)(wr:World):Prop:=
 ∃(xs:List Nat) (k c:Nat),v6=.int .u64 (c:Int)/\v7=.int .i64 (k:Int)/\k+gk=N/\Rw wr w.heap.size v5 xs/\PlusS A B xs k c/\Ext w wr
theorem row_next{wr:World}{base:Nat}{v:Value}{xs:List Nat}{u:Nat}{y:Int}(hr:RowOf 145 isU32 wr base v (xK xs++ [.int .u32 y]))(hx:∀i,xs.getD i 0<4294967296)(hy:y=(u:Int))(hu:u<4294967296):Rw wr base v (xs++ [u]):=by
 subst hy;rw[wcells_snoc]at hr;exact⟨hr,snoc_lt hx hu⟩
theorem plus_wd(w:World)(a1 a2:Option Addr)(n1 n2 c1 c2:Nat)(A B:List Nat)(h1:Wd w a1 n1 c1 A)(h2:Wd w a2 n2 c2 B)(s1:n1<=1073741824)(s2:n2<=1073741824):
  Calls prog 74 #[.slice a1 n1 c1,.slice a2 n2 c2] w (Ret w (IsWk (max n1 n2+1) (qD A+qD B))):=by
 have HA:=hid h1.lt;have HB:=hid h2.lt;have HW1:=hid h1;have HW2:=hid h2;obtain⟨N,hN⟩:∃N,N=max n1 n2:=⟨_,rfl⟩;have hlA:A.length<=N:=by rw[h1.len];omega
 have hlB:B.length<=N:=by rw[h2.len];omega
 have hNs:N<=1073741824:=by omega
 have HF:=hid (jO hlA hlB);rw[<-hN];obtain⟨W,hW⟩:∃W,W=w.alloc (.cells #[] 145):=⟨_,rfl⟩;have I0:Hid (PlI w A B N N (.slice (some ⟨w.heap.size,0,none⟩) 0 0) (.int .u64 0) (.int .i64 0) W):=hid ⟨[],0,0,rfl,rfl,by omega,hW▸Rw.start w _ (jP _),PlusS.start A B,by rw[hW];exact(Ext.refl w).alloc _⟩;have hmx:∀k:Nat,k<=N->((k<n1\/k<n2)↔k<N):=λk hk=>by omega
 have Hm:=hid hmx;have hNi:(N:Int)=max (n1:Int) (n2:Int):=by omega
 clear h1 h2 hlA hlB hN hmx;go_enter func74,ntmps74;go_wp2_with fail;rw[<-hW];clear hW
 go_loopg [5,6,7] N (λgk v5 v6 v7 wr=>Hid (PlI w A B N gk v5 v6 v7 wr))
 case atStart=>exact I0
 case round=>
  clear I0;obtain⟨xs,k,c,rfl,rfl,hk,hr,hs,E⟩:=hrel.out;clear hrel;have hc1:=hs.2.2.2;have HLen:Hid (xs.length<=1073741824):=by have h0:=hs.1;exact hid (by omega)
  have HS:Hid (w.heap.size<=wr.heap.size):=hid E.size;have HR:=hid hr;have HST:=hid hs;have HE:=hid E;clear hr hs E;by_cases hkN:k<N
  ·have W0:=hid (word_c wr a1 n1 c1 A (HW1.out.ext HE.out) k (by omega));have W0a:=hid (word_c wr a2 n2 c2 B (HW2.out.ext HE.out) k (by omega));have hst:=HST.out.step HA.out HB.out;have hx:=HA.out k;have hy:=HB.out k;generalize A.getD k 0=x at*;generalize B.getD k 0=y at*;have Hst:=hid hst;have hdec:decide ((k:Int)<max (n1:Int) (n2:Int))=true:=by simp;omega
   have hj:¬((k:Int)<(n1:Int))->(k:Int)<(n2:Int):=by omega
   clear hst;obtain⟨u,hu⟩:∃u:Nat,(c+(x+y))%4294967296=u:=⟨_,rfl⟩;rw[hu]at Hst;have hul:u<4294967296:=by omega
   go_wp2_with fail
   all_goals
    refine jJ W0.out ?_;rintro e w1 ⟨rfl,rfl⟩;go_wp2_with fail;refine jJ W0a.out ?_;rintro e w1 ⟨rfl,rfl⟩;go_wp2_with (at_builtin;go_must (refine wpl_row rfl _ _ 26 145 rfl isU32 (.int .u32 0) 4 za Tryz.infoU32 rfl ⟨0,rfl⟩ (w.heap.size) _ _ rfl (HR.out.1.ext ((Ext.refl _).alloc _)) _ _ (.int .u32 (u:Int)) rfl (by(try simp);(try omega)) rfl ⟨_,rfl⟩ yi yi za1 ?_;intro v9 w9 hr9 hb9 hg9))
    have J':Hid (PlI w A B N (gk-1) v9 (.int .u64 (((c+(x+y))/4294967296:Nat):Int)) (.int .i64 ((k:Int)+1)) w9):=hid ⟨_,k+1,_,rfl,rfl,by omega,row_next hr9 HST.out.2.1 rfl hul,Hst.out,Below.ext (HE.out.alloc _) hb9 (jP _)⟩
    go_roundg (gk-1)
    case measure=>omega
    case rel=>exact J'
  ·obtain rfl:k=N:=by omega
   have hfin:=HST.out.fin HF.out.1 HF.out.2;have Hfin:=hid hfin;have hdec:decide ((k:Int)<max (n1:Int) (n2:Int))=false:=zaf
   have hj1:¬k<n1:=by omega
   have hj2:¬k<n2:=by omega
   clear hfin;go_wp2_with (at_builtin;go_must (refine wpl_row rfl _ _ 26 145 rfl isU32 (.int .u32 0) 4 za Tryz.infoU32 rfl ⟨0,rfl⟩ (w.heap.size) _ _ rfl (HR.out.1.ext ((Ext.refl _).alloc _)) _ _ (.int .u32 (c:Int)) rfl (by(try simp);(try omega)) rfl ⟨_,rfl⟩ yi yi za1 ?_;intro v9 w9 hr9 hb9 hg9))
   go_ret
   exact⟨_,rfl,Below.ext (HE.out.alloc _) hb9 (jP _),Rw.isWk (xs:=xs++ [c]) ⟨by rw[wcells_snoc]at hr9;exact hr9,Hfin.out.2⟩ (by have:=HST.out.1;simp;omega) Hfin.out.1⟩
def MiI(w:World)(A B:List Nat)(N gk:Nat)(v5 v6 v7:Value)(wr:World):Prop:=
 ∃(xs:List Nat) (k c:Nat),v6=.int .u64 (c:Int)/\v7=.int .i64 (k:Int)/\k+gk=N/\Rw wr w.heap.size v5 xs/\MinusS A B xs k c/\Ext w wr
theorem minus_wd(w:World)(a1 a2:Option Addr)(n1 n2 c1 c2:Nat)(A B:List Nat)(h1:Wd w a1 n1 c1 A)(h2:Wd w a2 n2 c2 B)(s1:n1<=1073741824)(hle:qD B<=qD A):
  Calls prog 75 #[.slice a1 n1 c1,.slice a2 n2 c2] w (Ret w (IsWk n1 (qD A-qD B))):=by
 have HA:=hid h1.lt;have HB:=hid h2.lt;have HW1:=hid h1;have HW2:=hid h2;have HF:=hid h1.len;have HLe:=hid hle;obtain⟨W,hW⟩:∃W,W=w.alloc (.cells #[] 145):=⟨_,rfl⟩;have I0:Hid (MiI w A B n1 n1 (.slice (some ⟨w.heap.size,0,none⟩) 0 0) (.int .u64 0) (.int .i64 0) W):=hid ⟨[],0,0,rfl,rfl,by omega,hW▸Rw.start w _ (jP _),MinusS.start A B,by rw[hW];exact(Ext.refl w).alloc _⟩;clear h1 h2 hle;go_enter func75,ntmps75;go_wp2_with fail;rw[<-hW];clear hW
 go_loopg [5,6,7] n1 (λgk v5 v6 v7 wr=>Hid (MiI w A B n1 gk v5 v6 v7 wr))
 case atStart=>exact I0
 case round=>
  clear I0;obtain⟨xs,k,c,rfl,rfl,hk,hr,hs,E⟩:=hrel.out;clear hrel;have hc1:=hs.2.2.2;have HLen:Hid (xs.length<=1073741824):=by have h0:=hs.1;exact hid (by omega)
  have HS:Hid (w.heap.size<=wr.heap.size):=hid E.size;have HR:=hid hr;have HST:=hid hs;have HE:=hid E;clear hr hs E;by_cases hkN:k<n1
  ·have W0:=hid (word_c wr a1 n1 c1 A (HW1.out.ext HE.out) k (by omega));have W0a:=hid (word_c wr a2 n2 c2 B (HW2.out.ext HE.out) k (by omega));have hst:=HST.out.step HA.out HB.out;have hx:=HA.out k;have hy:=HB.out k;generalize A.getD k 0=x at*;generalize B.getD k 0=y at*;have Hst:=hid hst;clear hst;obtain⟨t,ht⟩:∃t,t=4294967296+x-y-c:=⟨_,rfl⟩;have ht1:(4294967296:Int)+(x:Int)-(y:Int)-(c:Int)=(t:Int):=by omega
   have ht2:t<8589934592:=by omega
   have ht3:((t:Int)/4294967296)<=1:=by omega
   rw[<-ht]at Hst;obtain⟨u,hu⟩:∃u:Nat,t%4294967296=u:=⟨_,rfl⟩;rw[hu]at Hst;have hul:u<4294967296:=by omega
   clear ht;go_wp2_with fail;refine jJ W0.out ?_;rintro e w1 ⟨rfl,rfl⟩;go_wp2_with fail;refine jJ W0a.out ?_;rintro e w1 ⟨rfl,rfl⟩;go_wp2_with (at_builtin;go_must (refine wpl_row rfl _ _ 26 145 rfl isU32 (.int .u32 0) 4 za Tryz.infoU32 rfl ⟨0,rfl⟩ (w.heap.size) _ _ rfl (HR.out.1.ext ((Ext.refl _).alloc _)) _ _ (.int .u32 (u:Int)) rfl (by(try simp);(try omega)) rfl ⟨_,rfl⟩ yi yi za1 ?_;intro v9 w9 hr9 hb9 hg9))
   have J':Hid (MiI w A B n1 (gk-1) v9 (.int .u64 (1-(t:Int)/4294967296)) (.int .i64 ((k:Int)+1)) w9):=hid ⟨_,k+1,1-t/4294967296,congrArg (Value.int .u64) (by omega),rfl,by omega,row_next hr9 HST.out.2.1 rfl hul,Hst.out,Below.ext (HE.out.alloc _) hb9 (jP _)⟩
   go_roundg (gk-1)
   case measure=>omega
   case rel=>exact J'
  ·obtain rfl:k=n1:=by omega
   have hfin:=HST.out.fin HA.out (by rw[HF.out];exact jP _) HLe.out;have Hfin:=hid hfin;clear hfin;go_wp2_with fail
   go_ret
   exact⟨_,rfl,HE.out,HR.out.isWk (by have:=HST.out.1;omega) Hfin.out⟩
end
section
open Go Go.RowKit
open Go.Proofs.Tryz
set_option maxRecDepth 100000
set_option maxHeartbeats 2000000
theorem plus_c(w:World)(a1 a2:Option Addr)(n1 n2 c1 c2 k1 k2 x y:Nat)(h1:NatAt w k1 a1 n1 c1 x)(h2:NatAt w k2 a2 n2 c2 y)(s1:k1<=1073741824)(s2:k2<=1073741824):
  Calls prog 74 #[.slice a1 n1 c1,.slice a2 n2 c2] w (Ret w (IsWk (max k1 k2+1) (x+y))):=by
 obtain⟨xs,h1,l1,_,rfl⟩:=h1;obtain⟨ys,h2,l2,_,rfl⟩:=h2;refine(plus_wd w a1 a2 n1 n2 c1 c2 xs ys h1 h2 (by omega) (by omega)).mono ?_;rintro e w' ⟨x,rfl,e1,a,n,c,zs,rfl,h,hk,hv⟩;exact⟨_,rfl,e1,a,n,c,zs,rfl,h,by omega,hv⟩
theorem minus_c(w:World)(a1 a2:Option Addr)(n1 n2 c1 c2 k1 k2 x y:Nat)(h1:NatAt w k1 a1 n1 c1 x)(h2:NatAt w k2 a2 n2 c2 y)(s1:k1<=1073741824)(hle:y<=x):
  Calls prog 75 #[.slice a1 n1 c1,.slice a2 n2 c2] w (Ret w (IsWk k1 (x-y))):=by
 obtain⟨xs,h1,l1,_,rfl⟩:=h1;obtain⟨ys,h2,l2,_,rfl⟩:=h2;refine(minus_wd w a1 a2 n1 n2 c1 c2 xs ys h1 h2 (by omega) hle).mono ?_;rintro e w' ⟨x,rfl,e1,a,n,c,zs,rfl,h,hk,hv⟩;exact⟨_,rfl,e1,a,n,c,zs,rfl,h,by omega,hv⟩
theorem RNeg_c(w:World)(s1:Bool)(a1:Option Addr)(n1 c1 k1:Nat)(z1:Int)(h1:IntAt w k1 s1 a1 n1 c1 z1):Calls prog 76 #[.agg #[.bool s1,.slice a1 n1 c1]] w (RInt w k1 (-z1)):=by
 obtain⟨m,⟨xs,hw,hk,_,hm⟩,hs,hz⟩:=h1;have hz': -z1=if (!s1)then -(qD xs:Int)else qD xs:=by rw[hz,hm];cases s1 <;> simp
 have Hz:=hid hz';clear hz hz' hm hs;obtain⟨W,hW,K0⟩:=kp1 w s1 a1 n1 c1;have q0:=K0.cell 0 0 [.bool s1,.slice a1 n1 c1] _ (by simp) rfl;have q1:=K0.cell 0 1 [.bool s1,.slice a1 n1 c1] _ (by simp) rfl;have hnot:∀(x:Bool) (w:World),(Op.unary .not (.bool x)).run prog w=.ok (.bool (!x)) w:=λ_ _=>rfl
 go_enter func76,ntmps76;go_wp2_with fail;rw[<-hW];refine jJ (rmade_c _ (!s1) _ _ _ xs (-z1) (hw.ext K0.ext) Hz.out) ?_;clear hW;rintro e w1 ⟨s3,a3,n3,c3,rfl,e1,h3⟩;have KF:=K0.after e1;obtain⟨⟨_,r0,_⟩,f0⟩:=Kp.res KF 1 2 (by simp) 0 (by omega);obtain⟨⟨_,r1,_⟩,f1⟩:=Kp.res KF 1 2 (by simp) 1 (by omega);have h3:=h3.mono hk;clear q0 q1 hnot;go_wp2_with fail;refine jK (v:=.agg #[.bool s3,.slice a3 n3 c3]) (by simp[results,results76,go_sem,r0,r1]) rfl (Kp.fin KF 1 (by simp) (by simp) h3)
theorem RAbs_c(w:World)(s:Bool)(ao:Option Addr)(n cap k:Nat)(z:Int)(h:IntAt w k s ao n cap z):
  Calls prog 124 #[.agg #[.bool s,.slice ao n cap]] w (RInt w k z.natAbs):=by
 obtain⟨m,⟨xs,hw,hk,_,hm⟩,hs,hz⟩:=h;have hz':(z.natAbs:Int)=qD xs:=by rw[hz,hm];cases s <;> simp
 have Hw:=hid hw;have Hz:=hid hz';clear hw hz hz' hm;obtain⟨W,hW,e0,b0,b1⟩:=pro1 w s ao n cap;go_enter func124,ntmps124;go_wp2_with fail;refine jJ (rmade_c _ false _ _ _ xs z.natAbs (hW▸Hw.out.ext e0) (by rw[Hz.out];simp)) ?_;rw[<-hW];clear hW;rintro e w1 ⟨s1,a1,n1,c1,rfl,e1,h1⟩;have b1:=b1.ext e1;have q0:=b1.c0;have q1:=b1.c1;have r0:=b1.f 0;have r1:=b1.f 1;have B1:=hid b1;clear b0 b1;go_wp2_with fail;refine jK (v:=.agg #[.bool s1,.slice a1 n1 c1]) (by simp[results,results124,go_sem,q0,q1]) rfl ?_;exact⟨_,_,_,_,rfl,(e0.trans e1).put (Nat.le_succ _),(h1.put B1.out).mono hk⟩
theorem RSign_c(w:World)(s:Bool)(ao:Option Addr)(n cap k:Nat)(z:Int)(h:IntAt w k s ao n cap z):
  Calls prog 91 #[.agg #[.bool s,.slice ao n cap]] w (RVal w (.int .i64 z.sign)):=by
 obtain⟨m,hm,hs,hz⟩:=h;have hz0:=hm.zero;rcases jN n with h0|h0
 ·have:z.sign=0:=by
   rw[hz,hz0.2 h0];cases s <;> rfl
  rw[this];subst h0;clear hm hs hz hz0 this;go_enter func91,ntmps91
  go_wp2
  go_ret
  exact⟨rfl,(Ext.refl w).alloc _⟩
 ·have hm0:m≠0:=λh=>by have:=hz0.1 h;omega
  have h1:((n:Int)==0)=false:=by rw[jM];omega
  cases s
  ·have:z.sign=1:=by rw[hz];exact Int.sign_eq_one_of_pos zaf
   rw[this];clear hm hs hz hz0 this hm0 h0;go_enter func91,ntmps91
   go_wp2
   go_ret
   exact⟨rfl,(Ext.refl w).alloc _⟩
  ·have:z.sign= -1:=by rw[hz];exact Int.sign_eq_neg_one_of_neg zaf
   rw[this];clear hm hs hz hz0 this hm0 h0;go_enter func91,ntmps91
   go_wp2
   go_ret
   exact⟨rfl,(Ext.refl w).alloc _⟩
theorem tRInt_1{P:Prop}(h:P:=by
  go_wp2_with fail;refine jK (v:=.agg #[.bool s3,.slice a3 n3 c3]) (by simp[results,results51,go_sem,r0,r1]) rfl (Kp.fin KF 2 (by simp) (by simp) h3)
  ):P:=h
theorem RAdd_c(w:World)(s1 s2:Bool)(a1 a2:Option Addr)(n1 n2 c1 c2 k1 k2:Nat)(z1 z2:Int)(h1:IntAt w k1 s1 a1 n1 c1 z1)(h2:IntAt w k2 s2 a2 n2 c2 z2)(l1:k1<=268435456)(l2:k2<=268435456):
  Calls prog 51 #[.agg #[.bool s1,.slice a1 n1 c1],.agg #[.bool s2,.slice a2 n2 c2]] w (RInt w (max k1 k2+1) (z1+z2)):=by
 obtain⟨m1,h1,_,hz1⟩:=h1;obtain⟨m2,h2,_,hz2⟩:=h2;obtain⟨W,hW,K0⟩:=kp2 w s1 s2 a1 a2 n1 n2 c1 c2;have Hz1:=hid hz1;have Hz2:=hid hz2;clear hz1 hz2;have KC:=hid (kc2 w s1 s2 a1 a2 n1 n2 c1 c2);have hcm:Hid (∀W',Ext w W'->Calls prog 63 #[.slice a1 n1 c1,.slice a2 n2 c2] W' (RVal W' (.int .i64 (qM m1 m2)))):=λW' e=>rsize_c W' a1 a2 n1 n2 c1 c2 k1 k2 m1 m2 (h1.ext e) (h2.ext e) (by omega)
 by_cases hs:s1=s2
 ·have Hz:Hid (z1+z2=if s1 then -((m1+m2:Nat):Int)else(m1+m2:Nat)):=by
   show _=_;subst hs;rw[Hz1.out,Hz2.out];cases s1 <;> simp <;> omega
  have hb:(s1==s2)=true:=by simp[hs]
  clear hs;obtain⟨_,q1,q2,q3,q4⟩:=KC.out _ K0;go_enter func51,ntmps51;go_wp2_with fail;rw[<-hW];clear hW
  go_region_held3 (λw'=>Kp w w' [(1, [.bool s2,.slice a2 n2 c2]),(0, [.bool s1,.slice a1 n1 c1])] [(2,2)]/\w'.cell? ⟨w.heap.size,0,none⟩=some (.bool s1)/\w'.cell? ⟨w.heap.size,1,none⟩=some (.slice a1 n1 c1)/\w'.cell? ⟨w.heap.size+1,0,none⟩=some (.bool s2)/\w'.cell? ⟨w.heap.size+1,1,none⟩=some (.slice a2 n2 c2)) ((go_split_ands;refine KC.out _ ?_;first|assumption|exact Kp.drew zf|exact Kp.drew (Kp.drewN zf _)|exact Kp.after zf zf|exact(Kp.put2 zf 2 (by simp) _ _ _ _ (by simp)).1))
   (first
    | (go_at_call 74;go_must (go_split_ands;(with_reducible refine jJ (plus_c _ _ _ _ _ _ _ k1 k2 m1 m2 ?_ ?_ (by omega) (by omega)) ?_);exact h1.ext (Kp.ext zf);exact h2.ext (Kp.ext zf);rintro e w1 ⟨x0,rfl,e1,ao,n,cap,xs,rfl,hm,hk,hv⟩;have Hv:=hid hv;clear hv))
    | (go_at_call 59;go_must (go_split_ands;(with_reducible refine jJ (rmade_c _ _ _ _ _ xs (z1+z2) hm ?_) ?_);rw[Hv.out];exact Hz.out;rintro e w2 ⟨s3,a3,n3,c3,rfl,e2,h3⟩;have KF:=Kp.after zf e2;obtain⟨⟨_,r0,_⟩,f0⟩:=Kp.res KF 2 2 (by simp) 0 (by omega);obtain⟨⟨_,r1,_⟩,f1⟩:=Kp.res KF 2 2 (by simp) 1 (by omega))))
  have h3:=h3.mono hk;exact tRInt_1
 ·have hb:(s1==s2)=false:=by simp[hs]
  have hss:Hid (s1= !s2):=by show _=_;cases s1 <;> cases s2 <;> simp at hs ⊢
  clear hs;by_cases hlt:m1<m2
  ·have hv:qM (m1:Int) (m2:Int)= -1:=jC (by omega);rw[hv]at hcm
   have Hz:Hid (z1+z2=if s2 then -((m2-m1:Nat):Int)else(m2-m1:Nat)):=by
    show _=_;rw[Hz1.out,Hz2.out,hss.out];cases s2 <;> simp <;> omega
   clear hv;obtain⟨_,q1,q2,q3,q4⟩:=KC.out _ K0;go_enter func51,ntmps51;go_wp2_with fail;rw[<-hW];clear hW;refine jJ (hcm.out _ K0.ext) ?_;rintro e w0 ⟨rfl,e0⟩;have K1:=K0.after e0;clear q1 q2 q3 q4;obtain⟨_,q1,q2,q3,q4⟩:=KC.out _ K1;go_wp2_with fail
   go_region_held3 (λw'=>Kp w w' [(1, [.bool s2,.slice a2 n2 c2]),(0, [.bool s1,.slice a1 n1 c1])] [(2,2)]/\w'.cell? ⟨w.heap.size,0,none⟩=some (.bool s1)/\w'.cell? ⟨w.heap.size,1,none⟩=some (.slice a1 n1 c1)/\w'.cell? ⟨w.heap.size+1,0,none⟩=some (.bool s2)/\w'.cell? ⟨w.heap.size+1,1,none⟩=some (.slice a2 n2 c2)) ((go_split_ands;refine KC.out _ ?_;first|assumption|exact Kp.drew zf|exact Kp.drew (Kp.drewN zf _)|exact Kp.after zf zf|exact(Kp.put2 zf 2 (by simp) _ _ _ _ (by simp)).1))
    (first
     | (go_at_call 75;go_must (go_split_ands;(with_reducible refine jJ (minus_c _ _ _ _ _ _ _ k2 k1 m2 m1 ?_ ?_ (by omega) (by omega)) ?_);exact h2.ext (Kp.ext zf);exact h1.ext (Kp.ext zf);rintro e w1 ⟨x0,rfl,e1,ao,n,cap,xs,rfl,hm,hk,hv⟩;have Hv:=hid hv;clear hv))
     | (go_at_call 59;go_must (go_split_ands;(with_reducible refine jJ (rmade_c _ _ _ _ _ xs (z1+z2) hm ?_) ?_);rw[Hv.out];exact Hz.out;rintro e w2 ⟨s3,a3,n3,c3,rfl,e2,h3⟩;have KF:=Kp.after zf e2;obtain⟨⟨_,r0,_⟩,f0⟩:=Kp.res KF 2 2 (by simp) 0 (by omega);obtain⟨⟨_,r1,_⟩,f1⟩:=Kp.res KF 2 2 (by simp) 1 (by omega))))
   have h3:=h3.mono (show n<=max k1 k2+1 by omega);go_wp2_with fail;refine jK (v:=.agg #[.bool s3,.slice a3 n3 c3]) (by simp[results,results51,go_sem,r0,r1]) rfl (Kp.fin KF 2 (by simp) (by simp) h3)
  ·have hv:∃c:Int,qM (m1:Int) (m2:Int)=c/\0<=c:=by
    rcases Nat.eq_or_lt_of_le (show m2<=m1 by omega)with h|h
    ·exact⟨0,cmpI_eq (by omega),by omega⟩
    ·exact⟨1,jD (by omega),by omega⟩
   obtain⟨c,hv,hc0⟩:=hv;rw[hv]at hcm
   have Hz:Hid (z1+z2=if s1 then -((m1-m2:Nat):Int)else(m1-m2:Nat)):=by
    show _=_;rw[Hz1.out,Hz2.out,hss.out];cases s2 <;> simp <;> omega
   clear hv;obtain⟨_,q1,q2,q3,q4⟩:=KC.out _ K0;go_enter func51,ntmps51;go_wp2_with fail;rw[<-hW];clear hW;refine jJ (hcm.out _ K0.ext) ?_;rintro e w0 ⟨rfl,e0⟩;have K1:=K0.after e0;clear q1 q2 q3 q4;obtain⟨_,q1,q2,q3,q4⟩:=KC.out _ K1;go_wp2_with fail
   go_region_held3 (λw'=>Kp w w' [(1, [.bool s2,.slice a2 n2 c2]),(0, [.bool s1,.slice a1 n1 c1])] [(2,2)]/\w'.cell? ⟨w.heap.size,0,none⟩=some (.bool s1)/\w'.cell? ⟨w.heap.size,1,none⟩=some (.slice a1 n1 c1)/\w'.cell? ⟨w.heap.size+1,0,none⟩=some (.bool s2)/\w'.cell? ⟨w.heap.size+1,1,none⟩=some (.slice a2 n2 c2)) ((go_split_ands;refine KC.out _ ?_;first|assumption|exact Kp.drew zf|exact Kp.drew (Kp.drewN zf _)|exact Kp.after zf zf|exact(Kp.put2 zf 2 (by simp) _ _ _ _ (by simp)).1))
    (first
     | (go_at_call 75;go_must (go_split_ands;(with_reducible refine jJ (minus_c _ _ _ _ _ _ _ k1 k2 m1 m2 ?_ ?_ (by omega) (by omega)) ?_);exact h1.ext (Kp.ext zf);exact h2.ext (Kp.ext zf);rintro e w1 ⟨x0,rfl,e1,ao,n,cap,xs,rfl,hm,hk,hv⟩;have Hv:=hid hv;clear hv))
     | (go_at_call 59;go_must (go_split_ands;(with_reducible refine jJ (rmade_c _ _ _ _ _ xs (z1+z2) hm ?_) ?_);rw[Hv.out];exact Hz.out;rintro e w2 ⟨s3,a3,n3,c3,rfl,e2,h3⟩;have KF:=Kp.after zf e2;obtain⟨⟨_,r0,_⟩,f0⟩:=Kp.res KF 2 2 (by simp) 0 (by omega);obtain⟨⟨_,r1,_⟩,f1⟩:=Kp.res KF 2 2 (by simp) 1 (by omega))))
   have h3:=h3.mono (show n<=max k1 k2+1 by omega);exact tRInt_1
theorem RSub_c(w:World)(s1 s2:Bool)(a1 a2:Option Addr)(n1 n2 c1 c2 k1 k2:Nat)(z1 z2:Int)(h1:IntAt w k1 s1 a1 n1 c1 z1)(h2:IntAt w k2 s2 a2 n2 c2 z2)(l1:k1<=268435456)(l2:k2<=268435456):
  Calls prog 52 #[.agg #[.bool s1,.slice a1 n1 c1],.agg #[.bool s2,.slice a2 n2 c2]] w (RInt w (max k1 k2+1) (z1-z2)):=by
 obtain⟨W,hW,K0⟩:=kp2 w s1 s2 a1 a2 n1 n2 c1 c2;have KC:=hid (kc2 w s1 s2 a1 a2 n1 n2 c1 c2);go_enter func52,ntmps52;go_wp2_with fail;rw[<-hW];clear hW
 go_region_held3 (λw'=>Kp w w' [(1, [.bool s2,.slice a2 n2 c2]),(0, [.bool s1,.slice a1 n1 c1])] [(2,2)]/\w'.cell? ⟨w.heap.size,0,none⟩=some (.bool s1)/\w'.cell? ⟨w.heap.size,1,none⟩=some (.slice a1 n1 c1)/\w'.cell? ⟨w.heap.size+1,0,none⟩=some (.bool s2)/\w'.cell? ⟨w.heap.size+1,1,none⟩=some (.slice a2 n2 c2)) ((go_split_ands;refine KC.out _ ?_;first|assumption|exact Kp.drew zf|exact Kp.drew (Kp.drewN zf _)|exact Kp.after zf zf|exact(Kp.put2 zf 2 (by simp) _ _ _ _ (by simp)).1))
  (first
   | (go_at_call 76;go_must (go_split_ands;(with_reducible refine jJ (RNeg_c _ _ _ _ _ k2 z2 ?_) ?_);exact h2.ext (Kp.ext zf);rintro e w1 ⟨s4,a4,n4,c4,rfl,e1,h4⟩))
   | (go_at_call 51;go_must (go_split_ands;(with_reducible refine jJ (RAdd_c _ _ _ _ _ _ _ _ _ k1 k2 z1 (-z2) ?_ ?_ (by omega) (by omega)) ?_);exact h1.ext (Kp.ext zf);exact h4;rintro e w2 ⟨s3,a3,n3,c3,rfl,e2,h3⟩;have KF:=Kp.after zf e2;obtain⟨⟨_,r0,_⟩,f0⟩:=Kp.res KF 2 2 (by simp) 0 (by omega);obtain⟨⟨_,r1,_⟩,f1⟩:=Kp.res KF 2 2 (by simp) 1 (by omega))))
 rw[<-Int.sub_eq_add_neg]at h3;go_wp2_with fail;refine jK (v:=.agg #[.bool s3,.slice a3 n3 c3]) (by simp[results,results52,go_sem,r0,r1]) rfl (Kp.fin KF 2 (by simp) (by simp) h3)
theorem rcmp_math(s1 s2:Bool)(m1 m2:Nat)(z1 z2:Int)(h1:z1=if s1 then -(m1:Int)else m1)(h2:z2=if s2 then -(m2:Int)else m2)
  (t1:m1=0->s1=false) (t2:m2=0->s2=false):(s1=true->s2=false->qM z1 z2= -1)/\(s1=false->s2=true->qM z1 z2=1)/\(s1=true->s2=true->qM z1 z2=qM m2 m1)/\(s1=false->s2=false->qM z1 z2=qM m1 m2):=by
 simp only[qM];cases s1 <;> cases s2 <;> simp at h1 h2 t1 t2 ⊢ <;>(repeat' split) <;> omega
theorem RCmp_c(w:World)(s1 s2:Bool)(a1 a2:Option Addr)(n1 n2 c1 c2 k1 k2:Nat)(z1 z2:Int)(h1:IntAt w k1 s1 a1 n1 c1 z1)(h2:IntAt w k2 s2 a2 n2 c2 z2)(l1:k1<=268435456)(l2:k2<=268435456):Calls prog 37 #[.agg #[.bool s1,.slice a1 n1 c1],.agg #[.bool s2,.slice a2 n2 c2]] w (RVal w (.int .i64 (qM z1 z2))):=by
 obtain⟨W,hW,K0⟩:=kq20 w s1 s2 a1 a2 n1 n2 c1 c2;have b2:=K0.bx w.heap.size s1 a1 n1 c1 (by simp);have b3:=K0.bx (w.heap.size+1) s2 a2 n2 c2 (by simp);have E:=hid K0.ext;obtain⟨m1,g1,t1,e1⟩:=h1;obtain⟨m2,g2,t2,e2⟩:=h2;have HM:=hid (rcmp_math s1 s2 m1 m2 z1 z2 e1 e2 (λh=>t1 (g1.zero.1 h)) (λh=>t2 (g2.zero.1 h)));have C1:=hid (rsize_c W a1 a2 n1 n2 c1 c2 k1 k2 m1 m2 (g1.ext K0.ext) (g2.ext K0.ext) (by omega));have C2:=hid (rsize_c W a2 a1 n2 n1 c2 c1 k2 k1 m2 m1 (g2.ext K0.ext) (g1.ext K0.ext) (by omega));have F1:=b2.c0;have F2:=b2.c1;have F3:=b2.f0;have F4:=b2.f1;have G1:=b3.c0;have G2:=b3.c1;have G3:=b3.f0;have G4:=b3.f1;obtain⟨r,hr⟩:∃r,r=qM z1 z2:=⟨_,rfl⟩;rw[<-hr]at HM ⊢;clear K0 e1 e2 t1 t2 g1 g2 hr b2 b3;cases s1 <;> cases s2
 ·have hr:=hid (HM.out.2.2.2 rfl rfl);go_enter func37,ntmps37;go_wp2_with fail;rw[<-hW];clear hW;go_wp2_with fail;refine jJ C1.out ?_;rintro e w1 ⟨rfl,e1⟩;go_wp2_with fail
  go_ret
  exact⟨by rw[hr.out];rfl,E.out.trans e1⟩
 ·have hr:=hid (HM.out.2.1 rfl rfl);go_enter func37,ntmps37;go_wp2_with fail;rw[<-hW];clear hW;go_wp2_with fail
  go_ret
  exact⟨by rw[hr.out];rfl,E.out⟩
 ·have hr:=hid (HM.out.1 rfl rfl);go_enter func37,ntmps37;go_wp2_with fail;rw[<-hW];clear hW;go_wp2_with fail
  go_ret
  exact⟨by rw[hr.out];rfl,E.out⟩
 ·have hr:=hid (HM.out.2.2.1 rfl rfl);go_enter func37,ntmps37;go_wp2_with fail;rw[<-hW];clear hW;go_wp2_with fail;refine jJ C2.out ?_;rintro e w1 ⟨rfl,e1⟩;go_wp2_with fail
  go_ret
  exact⟨by rw[hr.out];rfl,E.out.trans e1⟩
end
section
open Go Go.RowKit
set_option maxRecDepth 100000
set_option maxHeartbeats 2000000
structure Qx (w:World) (g:Nat) (u v:Value):Prop where
  c0:w.cell? ⟨g,0,none⟩=some u
  c1:w.cell? ⟨g,1,none⟩=some v
  f0:w.frozen? ⟨g,0,none⟩=false
  f1:w.frozen? ⟨g,1,none⟩=false
  n0:NoWord u
  n1:NoWord v
theorem Qx.lt{w:World}{g:Nat}{u v:Value}(h:Qx w g u v):g<w.heap.size:=World.block_lt_of_cell? w ⟨g,0,none⟩ h.c0
theorem Qx.ext{w w':World}{g:Nat}{u v:Value}(h:Qx w g u v)(e:Ext w w'):Qx w' g u v:=
  ⟨e.cell h.c0,e.cell h.c1,(e.frozen h.lt).trans h.f0,(e.frozen h.lt).trans h.f1,h.n0,h.n1⟩
theorem Qx.put{w:World}{g:Nat}{u v:Value}(b:Qx w g u v)(u' v':Value)(hu:NoWord u')(hv:NoWord v'):
    ∃W,W=(w.setCell ⟨g,0,none⟩ u').setCell ⟨g,1,none⟩ v'/\Qx W g u' v'/\Gr w W/\(∀ {w0:World},Ext w0 w->w0.heap.size<=g->Ext w0 W)/\Upd g w W:=by
  refine⟨_,rfl,⟨?_,?_,?_,?_,hu,hv⟩,?_,λe hg=>(e.set hg _).set hg _,(Upd.set g 0 w u').trans (Upd.set g 1 _ v')⟩
  ·rw[World.cell?_setCell_other _ _ _ _ (by simp),World.cell?_setCell_same _ _ _ b.c0]
  · refine World.cell?_setCell_same _ _ _ (u:=v) ?_
    rw[World.cell?_setCell_other _ _ _ _ (by simp)];exact b.c1
  ·simp[b.f0]
  ·simp[b.f1]
  · refine((Gr.refl w).set b.c0 b.n0 _).set (p:=⟨g,1,none⟩) (u:=v) ?_ b.n1 _
    rw[World.cell?_setCell_other _ _ _ _ (by simp)];exact b.c1
def IsQt(k q r:Nat):Value->World->Prop:=λv w=>∃a b,v=.agg #[a,b]/\IsWk k q a w/\IsWk k r b w
theorem IsQt.stb(k q r:Nat):Stb (IsQt k q r):=λ_ _ _ e ⟨a,b,h1,h2,h3⟩=>⟨a,b,h1,IsWk.stb _ _ _ _ _ e h2,IsWk.stb _ _ _ _ _ e h3⟩
instance (k q r:Nat):StbC (IsQt k q r):=⟨IsQt.stb k q r⟩
theorem natVal_two(xs:List Nat)(h:xs.length<=2):qD xs=xs.getD 0 0+4294967296*xs.getD 1 0:=by
  match xs,h with
  | [],_=>rfl
  | [a],_=>simp[qD]
  | [a,b],_=>simp[qD]
  |_ ::_ ::_ ::_,h=>simp at h
theorem join_words(a b:Nat)(ha:a<4294967296)(hb:b<4294967296):bits .or .u64 (a:Int) ((b:Int)*4294967296)=((a+4294967296*b:Nat):Int):=by
  have h:=u64_or_nat a (b*4294967296) (by omega) (by omega);have h32:(2:Nat)^32=4294967296:=by decide
  have h2:=nat_join 32 (b*4294967296) a (by rw[h32];omega) (by rw[h32];omega);rw[Nat.or_comm,h2,Nat.add_comm,Nat.mul_comm]at h;have e:((b:Int)*4294967296)=((4294967296*b:Nat):Int):=by omega
  rw[e];exact h
theorem IsWk.new2(w:World)(a b:Nat)(ha:a<4294967296)(hb:b<4294967296):IsWk 2 (a+4294967296*b) (.slice (some ⟨w.heap.size,0,none⟩) 2 2) (w.alloc (.cells #[.int .u32 (a:Nat),.int .u32 (b:Nat)] 145)):=
  ⟨_,_,_, [a,b],rfl,wd_new2 w a b ha hb,jP _,by simp[qD]⟩
theorem divide_small(w:World)(a1 a2:Option Addr)(n1 n2 c1 c2:Nat)(A B:List Nat)(h1:Wd w a1 n1 c1 A)(h2:Wd w a2 n2 c2 B)(s1:n1<=2)(s2:n2<=2)(hy:0<qD B):
    Calls Tryz.prog 174 #[.slice a1 n1 c1,.slice a2 n2 c2] w (Ret w (IsQt 2 (qD A/qD B) (qD A%qD B))):=by
  obtain⟨W,hW,b4,E⟩:∃W,W=w.alloc (.cells #[.slice none 0 0,.slice none 0 0] 270)/\Qx W w.heap.size (.slice none 0 0) (.slice none 0 0)/\Ext w W:=
    ⟨_,rfl,⟨by simp,by simp,by simp,by simp,NoWord.slice _ _ _,NoWord.slice _ _ _⟩,(Ext.refl w).alloc _⟩
  have b4:=hid b4;have E:=hid E;have eA:=natVal_two A (by rw[h1.len];exact s1);have eB:=natVal_two B (by rw[h2.len];exact s2);have HA0:=hid (word_c W a1 n1 c1 A (h1.ext E.out) 0 dcx);have HA1:=hid (word_c W a1 n1 c1 A (h1.ext E.out) 1 dcx);have HB0:=hid (word_c W a2 n2 c2 B (h2.ext E.out) 0 dcx);have HB1:=hid (word_c W a2 n2 c2 B (h2.ext E.out) 1 dcx);have la0:=h1.lt 0;have la1:=h1.lt 1;have lb0:=h2.lt 0;have lb1:=h2.lt 1;generalize A.getD 0 0=x0 at*;generalize A.getD 1 0=x1 at*;generalize B.getD 0 0=y0 at*;generalize B.getD 1 0=y1 at*;have j1:=join_words x0 x1 la0 la1;have j2:=join_words y0 y1 lb0 lb1;rw[<-eA]at j1;rw[<-eB]at j2;have lx:qD A<18446744073709551616:=by omega
  have ly:qD B<18446744073709551616:=by omega
  generalize qD A=X at*;generalize qD B=Y at*;obtain⟨Q,hQ⟩:∃Q,Q=X/Y:=⟨_,rfl⟩;obtain⟨R,hR⟩:∃R,R=X%Y:=⟨_,rfl⟩;have qi:(X:Int)/(Y:Int)=(Q:Int):=by rw[hQ];simp
  have ri:(X:Int)%(Y:Int)=(R:Int):=by rw[hR];simp
  have rt:(X:Int).tmod (Y:Int)=(R:Int):=by rw[Int.tmod_eq_emod_of_nonneg (by omega)];exact ri
  have lQ:Q<18446744073709551616:=by rw[hQ];exact Nat.lt_of_le_of_lt (Nat.div_le_self _ _) lx
  have lR:R<18446744073709551616:=by rw[hR];exact Nat.lt_of_le_of_lt (Nat.mod_le _ _) lx
  have hy0:¬(Y:Int)=0:=by omega
  have hy1:¬Y=0:=by omega
  obtain⟨q0,hq0⟩:∃q0,q0=Q%4294967296:=⟨_,rfl⟩;obtain⟨q1,hq1⟩:∃q1,q1=Q/4294967296:=⟨_,rfl⟩;obtain⟨r0,hr0⟩:∃r0,r0=R%4294967296:=⟨_,rfl⟩;obtain⟨r1,hr1⟩:∃r1,r1=R/4294967296:=⟨_,rfl⟩;have hQ2:=hid (show q0+4294967296*q1=X/Y by omega);have hR2:=hid (show r0+4294967296*r1=X%Y by omega);have e1:(Q:Int)%4294967296=(q0:Int):=by omega
  have e2:(Q:Int)/4294967296=(q1:Int):=by omega
  have e3:(R:Int)%4294967296=(r0:Int):=by omega
  have e4:(R:Int)/4294967296=(r1:Int):=by omega
  have e5:IntKind.u32.wrap (Q:Int)=(q0:Int):=by rw[<-e1];rfl
  have e6:IntKind.u32.wrap (q1:Int)=(q1:Int):=by show(q1:Int)%4294967296=_;omega
  have e7:IntKind.u32.wrap (R:Int)=(r0:Int):=by rw[<-e3];rfl
  have e8:IntKind.u32.wrap (r1:Int)=(r1:Int):=by show(r1:Int)%4294967296=_;omega
  have e9:IntKind.u64.wrap (Q:Int)=(Q:Int):=by simp only[IntKind.wrap_u64];omega
  have e10:IntKind.u64.wrap (R:Int)=(R:Int):=by simp only[IntKind.wrap_u64];omega
  have l0:q0<4294967296:=by omega
  have l1:q1<4294967296:=by omega
  have l2:r0<4294967296:=by omega
  have l3:r1<4294967296:=by omega
  clear h1 h2 eA eB hQ hR hq0 hq1 hr0 hr1;go_enter Tryz.func174,Tryz.ntmps174;go_upto_region 1 with fail;rw[<-hW];clear hW;go_wp2_with fail;refine jJ HA0.out ?_;rintro e w1 ⟨rfl,rfl⟩;go_wp2_with fail;refine jJ HA1.out ?_;rintro e w1 ⟨rfl,rfl⟩;go_wp2_with fail;refine jJ HB0.out ?_;rintro e w1 ⟨rfl,rfl⟩;go_wp2_with fail;refine jJ HB1.out ?_;rintro e w1 ⟨rfl,rfl⟩;go_upto_region 4 with fail
  refine qV 21 [some 32,some 33,some 34,some 35,some 36,some 37,some 38,some 39,some 40,some 41,some 42,some 43,some 44,some 45,some 46,some 47,some 48,some 49,some 50,some 51,some 52]
    [IsV (.int .u64 X),IsV (.int .u64 Y),IsV (.int .u64 Q),IsV (.int .u32 q0),IsV (.int .u64 X),IsV (.int .u64 Y),IsV (.int .u64 Q),IsV (.int .u64 q1),IsV (.int .u32 q1),IsWk 2 (q0+4294967296*q1),
     IsV (.int .u64 X),IsV (.int .u64 Y),IsV (.int .u64 R),IsV (.int .u32 r0),IsV (.int .u64 X),IsV (.int .u64 Y),IsV (.int .u64 R),IsV (.int .u64 r1),IsV (.int .u32 r1),IsWk 2 (r0+4294967296*r1),IsQt 2 (X/Y) (X%Y)] [] 1 za dcx za za za za za ?_ (λ_ h=>by cases h) ?_ ?_
  ·repeat' (first|exact trivial|exact IsV.stb _|exact IsWk.stb _ _|exact IsQt.stb _ _ _|apply jO)
  · refine RgAll.cons zb ?_
    refine RgAll.cons zb ?_;refine RgAll.cons (by{intro v w' hE hd;simp only[lxE,Nat.reduceAdd];have d0:v 0=.int .u64 X:=hd 0 za;have d1:v 1=.int .u64 Y:=hd 1 za;rw[d0,d1];intro K hK;go_simp;exact hK.out _ _ (Ext.refl _) rfl (FreshIf.no rfl)}) ?_;refine RgAll.cons (by{intro v w' hE hd;simp only[lxE,Nat.reduceAdd];have d0:v 2=.int .u64 Q:=hd 2 za;rw[d0];intro K hK;go_simp;exact hK.out _ _ (Ext.refl _) rfl (FreshIf.no rfl)}) ?_;refine RgAll.cons zb ?_;refine RgAll.cons zb ?_;refine RgAll.cons (by{intro v w' hE hd;simp only[lxE,Nat.reduceAdd];have d0:v 4=.int .u64 X:=hd 4 za;have d1:v 5=.int .u64 Y:=hd 5 za;rw[d0,d1];intro K hK;go_simp;exact hK.out _ _ (Ext.refl _) rfl (FreshIf.no rfl)}) ?_;refine RgAll.cons (by{intro v w' hE hd;simp only[lxE,Nat.reduceAdd];have d0:v 6=.int .u64 Q:=hd 6 za;rw[d0];intro K hK;go_simp;exact hK.out _ _ (Ext.refl _) rfl (FreshIf.no rfl)}) ?_;refine RgAll.cons (by{intro v w' hE hd;simp only[lxE,Nat.reduceAdd];have d0:v 7=.int .u64 q1:=hd 7 za;rw[d0];intro K hK;go_simp;exact hK.out _ _ (Ext.refl _) rfl (FreshIf.no rfl)}) ?_;refine RgAll.cons (by{intro v w' hE hd;simp only[lxE,Nat.reduceAdd];have d0:v 3=.int .u32 q0:=hd 3 za;have d1:v 8=.int .u32 q1:=hd 8 za;rw[d0,d1];intro K hK;go_simp;exact hK.out _ _ ((Ext.refl _).alloc _) (IsWk.new2 w' q0 q1 l0 l1) (FreshIf.no rfl)}) ?_;refine RgAll.cons zb ?_;refine RgAll.cons zb ?_;refine RgAll.cons (by{intro v w' hE hd;simp only[lxE,Nat.reduceAdd];have d0:v 10=.int .u64 X:=hd 10 za;have d1:v 11=.int .u64 Y:=hd 11 za;rw[d0,d1];intro K hK;go_simp;exact hK.out _ _ (Ext.refl _) rfl (FreshIf.no rfl)}) ?_;refine RgAll.cons (by{intro v w' hE hd;simp only[lxE,Nat.reduceAdd];have d0:v 12=.int .u64 R:=hd 12 za;rw[d0];intro K hK;go_simp;exact hK.out _ _ (Ext.refl _) rfl (FreshIf.no rfl)}) ?_
    refine RgAll.cons zb ?_;refine RgAll.cons zb ?_;refine RgAll.cons (by{intro v w' hE hd;simp only[lxE,Nat.reduceAdd];have d0:v 14=.int .u64 X:=hd 14 za;have d1:v 15=.int .u64 Y:=hd 15 za;rw[d0,d1];intro K hK;go_simp;exact hK.out _ _ (Ext.refl _) rfl (FreshIf.no rfl)}) ?_;refine RgAll.cons (by{intro v w' hE hd;simp only[lxE,Nat.reduceAdd];have d0:v 16=.int .u64 R:=hd 16 za;rw[d0];intro K hK;go_simp;exact hK.out _ _ (Ext.refl _) rfl (FreshIf.no rfl)}) ?_;refine RgAll.cons (by{intro v w' hE hd;simp only[lxE,Nat.reduceAdd];have d0:v 17=.int .u64 r1:=hd 17 za;rw[d0];intro K hK;go_simp;exact hK.out _ _ (Ext.refl _) rfl (FreshIf.no rfl)}) ?_;refine RgAll.cons (by{intro v w' hE hd;simp only[lxE,Nat.reduceAdd];have d0:v 13=.int .u32 r0:=hd 13 za;have d1:v 18=.int .u32 r1:=hd 18 za;rw[d0,d1];intro K hK;go_simp;exact hK.out _ _ ((Ext.refl _).alloc _) (IsWk.new2 w' r0 r1 l2 l3) (FreshIf.no rfl)}) ?_;refine RgAll.cons (by{intro v w' hE hd;simp only[lxE,Nat.reduceAdd];have d0:IsWk 2 (q0+4294967296*q1) (v 9) w':=hd 9 za;have d1:IsWk 2 (r0+4294967296*r1) (v 19) w':=hd 19 za;rw[hQ2.out]at d0;rw[hR2.out]at d1;obtain⟨a9,n9,c9,x9,z0,h9⟩:=d0;obtain⟨a8,n8,c8,x8,z1,h8⟩:=d1;rw[z0,z1];intro K hK;go_simp;exact hK.out _ _ (Ext.refl _) ⟨_,_,rfl,⟨_,_,_,_,rfl,h9⟩,⟨_,_,_,_,rfl,h8⟩⟩ (FreshIf.no rfl)}) ?_;exact rn0
  intro v w1 e1 hZ _;have d20:IsQt 2 (X/Y) (X%Y) (v 20) w1:=hZ 20 dcx;obtain⟨sa,sb,v20,⟨a9,n9,c9,x9,rfl,h9⟩,⟨a8,n8,c8,x8,rfl,h8⟩⟩:=d20;have b4:=b4.out.ext e1;have E:=E.out.trans e1;simp only[lxE,Nat.reduceAdd];rw[v20];clear v20 hZ;have F1:=b4.c0;have F2:=b4.c1;have F3:=b4.f0;have F4:=b4.f1;refine wpAny_ready (rs:= [21]) za (by simp) (AllReady.cons rfl (λK hK=>?_) AllReady.nil);go_simp;refine hK _ _ ?_;clear hK K;clear F1 F2 F3 F4;obtain⟨w2,hW,b4,g4,x4,_⟩:=b4.put (.slice a9 n9 c9) (.slice a8 n8 c8) (NoWord.slice _ _ _) (NoWord.slice _ _ _);rw[<-hW];clear hW;refine jR za ?_ _;have T0:=b4.c0;have T1:=b4.c1;go_wp2_with fail;exact jK (v:=.agg #[.slice a9 n9 c9,.slice a8 n8 c8]) (by simp[results,Tryz.results174,go_sem,T0,T1]) rfl ⟨_,rfl,x4 E (jP _),_,_,rfl,⟨_,_,_,_,rfl,h9.1.gr g4,h9.2⟩,⟨_,_,_,_,rfl,h8.1.gr g4,h8.2⟩⟩
theorem divide_c(w:World)(a1 a2:Option Addr)(n1 n2 c1 c2 k1 k2 x y:Nat)(h1:NatAt w k1 a1 n1 c1 x)(h2:NatAt w k2 a2 n2 c2 y)(l1:k1<=2)(l2:k2<=2)(hy:0<y):
    Calls Tryz.prog 174 #[.slice a1 n1 c1,.slice a2 n2 c2] w (Ret w (IsQt (k1+2) (x/y) (x%y))):=by
  by_cases hs:n1<=2/\n2<=2
  · obtain⟨A,wA,_,_,rfl⟩:=h1
    obtain⟨B,wB,_,_,rfl⟩:=h2;refine(divide_small w a1 a2 n1 n2 c1 c2 A B wA wB hs.1 hs.2 hy).mono ?_;rintro e w' ⟨v,rfl,e1,a,b,rfl,⟨a9,n9,c9,x9,rfl,h9⟩,⟨a8,n8,c8,x8,rfl,h8⟩⟩;exact⟨_,rfl,e1,_,_,rfl,⟨_,_,_,_,rfl,h9.1,by omega,h9.2.2⟩,⟨_,_,_,_,rfl,h8.1,by omega,h8.2.2⟩⟩
  · obtain⟨A,wA,hA,_,_⟩:=h1
    obtain⟨B,wB,hB,_,_⟩:=h2;exact absurd ⟨jQ hA l1,jQ hB l2⟩ hs
end
section
open Go Go.RowKit
theorem RAdd_f{k1 k2:Nat}{z1 z2:Int}{x y:Value}{w:World}(hx:IsI k1 z1 x w)(hy:IsI k2 z2 y w)(l1:k1<=268435456)(l2:k2<=268435456):Calls Tryz.prog 51 #[x,y] w (Ret w (IsI (max k1 k2+1) (z1+z2))):=by
 obtain⟨s,a,n,c,rfl,h1⟩:=hx;obtain⟨s',a',n',c',rfl,h2⟩:=hy;exact jJ (RAdd_c w s s' a a' n n' c c' k1 k2 z1 z2 h1 h2 l1 l2) λ_ _ h=>h.ret
theorem RSub_f{k1 k2:Nat}{z1 z2:Int}{x y:Value}{w:World}(hx:IsI k1 z1 x w)(hy:IsI k2 z2 y w)(l1:k1<=268435456)(l2:k2<=268435456):Calls Tryz.prog 52 #[x,y] w (Ret w (IsI (max k1 k2+1) (z1-z2))):=by
 obtain⟨s,a,n,c,rfl,h1⟩:=hx;obtain⟨s',a',n',c',rfl,h2⟩:=hy;exact jJ (RSub_c w s s' a a' n n' c c' k1 k2 z1 z2 h1 h2 l1 l2) λ_ _ h=>h.ret
theorem RCmp_f{k1 k2:Nat}{z1 z2:Int}{x y:Value}{w:World}(hx:IsI k1 z1 x w)(hy:IsI k2 z2 y w)(l1:k1<=268435456)(l2:k2<=268435456):Calls Tryz.prog 37 #[x,y] w (Ret w (iV (qM z1 z2))):=by
 obtain⟨s,a,n,c,rfl,h1⟩:=hx;obtain⟨s',a',n',c',rfl,h2⟩:=hy;exact jJ (RCmp_c w s s' a a' n n' c c' k1 k2 z1 z2 h1 h2 l1 l2) λ_ _ h=>h.ret
theorem RAbs_f{k1:Nat}{z1:Int}{x:Value}{w:World}(hx:IsI k1 z1 x w):Calls Tryz.prog 124 #[x] w (Ret w (IsI k1 z1.natAbs)):=by
 obtain⟨s,a,n,c,rfl,h1⟩:=hx;exact jJ (RAbs_c w s a n c k1 z1 h1) λ_ _ h=>h.ret
theorem RSign_f{k1:Nat}{z1:Int}{x:Value}{w:World}(hx:IsI k1 z1 x w):Calls Tryz.prog 91 #[x] w (Ret w (iV z1.sign)):=by
 obtain⟨s,a,n,c,rfl,h1⟩:=hx;exact jJ (RSign_c w s a n c k1 z1 h1) λ_ _ h=>h.ret
theorem IsI.int{k:Nat}{z:Int}{w:World}{s:Bool}{a:Option Addr}{n c:Nat}(h:IsI k z (.agg #[.bool s,.slice a n c]) w):IntAt w k s a n c z:=by
 obtain⟨s',a',n',c',h1,h2⟩:=h;simp only[Value.agg.injEq,Array.mk.injEq,List.cons.injEq,Value.bool.injEq,Value.slice.injEq,and_true]at h1;obtain⟨rfl,rfl,rfl,rfl⟩:=h1;exact h2
theorem IsI.neg'{k:Nat}{z:Int}{w:World}{s:Bool}{a:Option Addr}{n c:Nat}(h:IsI k z (.agg #[.bool s,.slice a n c]) w)(hz:z<0):s=true:=h.int.neg_iff.1 hz
theorem IsI.pos'{k:Nat}{z:Int}{w:World}{s:Bool}{a:Option Addr}{n c:Nat}(h:IsI k z (.agg #[.bool s,.slice a n c]) w)(hz:0<=z):s=false:=by
 cases s
 ·rfl
 ·have:=h.int.neg_iff.2 rfl;omega
theorem St.ne{w0 w:World}{B:List (Nat×(Value->World->Prop))}(h:St w0 w B)(i j:Nat)(p q:Nat×(Value->World->Prop))(hi:B[i]? =some p)(hj:B[j]? =some q)(hij:i≠j):p.1≠q.1:=by
 obtain⟨hi1,hi2⟩:=List.getElem?_eq_some_iff.1 hi;obtain⟨hj1,hj2⟩:=List.getElem?_eq_some_iff.1 hj;rcases Nat.lt_or_gt_of_ne hij with hlt|hlt
 ·have:=List.pairwise_iff_getElem.1 h.apart i j hi1 hj1 hlt
  rwa [hi2,hj2]at this
 ·have:=List.pairwise_iff_getElem.1 h.apart j i hj1 hi1 hlt;rw[hi2,hj2]at this;exact this.symm
end
end Go.Proofs.YtkeikfekkdplgaaGreatDoor
