/- Lemmas. -/
import Derived.Test.YtkeikfekkdplgaaGreatDoorRgm
import Derived.LaidMore
import Derived.MakeChecks
import Derived.Test.YtkeikfekkdplgaaGreatDoorRows
import Derived.Lib.SmallJoins
import Derived.ChangeSlices
import Derived.ChangeSame
import Derived.Below
import Derived.ProofKit
import Derived.Stop.Joined
import Derived.OpenShut
namespace Go.Proofs.YtkeikfekkdplgaaGreatDoor
section
open Go Go.RowKit Go.ChangeShapes Go.WideShapes Go.ChangeAt Go.Joins
section
variable {H:Type} {enc:TypeId×Value->H}
theorem post_of_below{P:Program}{f:Func}{s:ChangeSpec}{apart fresh handsOn again:Bool}{W W':World}{args:Array Value}{v:Value}{ds gs:List (DataW H)}{before pa pv:List MemPlace}
  (hW:DataW.Whole enc P f.params.toList s.vars apart W args.toList ds gs before)
  (hres:∀(b:Nat) (sp:Nat->Bool) (hd:Bool),DataW.TrodAll enc P W' b sp hd f.resultTypes.toList (v.resultList f.resultTypes.size) (s.fn H (ds++gs)).results [])
  (hargs:∀sp:Nat->Bool,(∀p∈before,sp p.block=true)->DataW.TrodAll enc P W' 0 sp true f.params.toList args.toList (s.fn H (ds++gs)).args pa)
  (hvars:∀sp:Nat->Bool,(∀p∈before,sp p.block=true)->DataW.TrodVars enc P W' sp s.vars (s.fn H (ds++gs)).vars pv)
  (hps:before=pa++pv) (hb:Below W.heap.size W W')
  (hok:∀(j:Nat) (t:TypeId) (r:Value),f.resultTypes[j]? =some t->(v.resultList f.resultTypes.size)[j]? =some r->Value.okWide P W' .any 0 t r):
  s.post enc P f apart fresh handsOn again W args v W':=by
 have hlt:∀p∈before,p.block<W.heap.size:=λp hp=>hW.lt p hp
 have hold:∀p∈before,(λb=>decide (b<W.heap.size)) p.block=true:=λp hp=>by simpa using hlt p hp
 refine⟨ds,gs,before, [],pa,pv,hW,hres _ _ _,hargs _ hold,hvars _ hold,World.keptBut_mono (λp hp=>⟨hp,?_⟩) (hb.frame (· ∈before)),λ_=>?_⟩
 ·rw[hps,List.mem_append]at hp;exact Or.inr hp
 ·obtain⟨_,_,_,_,_,hz,hn⟩:=hW;refine⟨hok,_,_,([]++pa)++pv,⟨[]++pa,pv,trodAll_append (hargs _ (λ_ _=>rfl)) (hres _ _ _),hvars _ (λ_ _=>rfl),rfl,?_,?_⟩,?_⟩
  ·intro b off hp;have hin:MemPlace.cell b off∈before:=by rw[hps];simpa using hp
   rw[hb.frozen (hlt _ hin)];exact hz b off hin
  ·intro ha;have:=hn ha;rw[hps]at this
   simpa using this
  ·intro p hp _;rw[hps]
   simpa using hp
end
theorem own:ownKnob Tryz.prog.godebug=none:=by kernel_rfl
theorem wf_u8(n:Int)(h:(Lit.int .u8 n).wf=true):0<=n/\n<=255:=by
 simp only[Lit.wf,Bool.and_eq_true,jQ]at h;have h1:IntKind.min .u8=0:=rfl;have h2:IntKind.max .u8=255:=rfl;rw[h1,h2]at h;exact h
end
section
open Go Go.RowKit
open Go.Proofs.Tryz
structure Bo (w:World) (g i:Nat) (s:Bool) (a:Option Addr) (n c:Nat):Prop where
 c0:w.cell? ⟨g,2 * i,none⟩=some (.bool s)
 c1:w.cell? ⟨g,2 * i + 1,none⟩=some (.slice a n c)
 f0:w.frozen? ⟨g,2 * i,none⟩=false
 f1:w.frozen? ⟨g,2 * i + 1,none⟩=false
theorem Bo.lt{w:World}{g i n c:Nat}{s:Bool}{a:Option Addr}(h:Bo w g i s a n c):g < w.heap.size:=World.block_lt_of_cell? w ⟨g,2 * i,none⟩ h.c0
theorem Bo.ext{w w':World}{g i n c:Nat}{s:Bool}{a:Option Addr}(h:Bo w g i s a n c)(e:Ext w w'):Bo w' g i s a n c:=
 ⟨e.cell h.c0,e.cell h.c1,(e.frozen h.lt).trans h.f0,(e.frozen h.lt).trans h.f1⟩
def Po(g i:Nat)(w w':World):Prop:=
 (∀g2 i2 s a n c,(g2,i2)≠ (g,i) ->Bo w g2 i2 s a n c ->Bo w' g2 i2 s a n c)/\Gr w w'/\ (∀w0:World,Ext w0 w ->w0.heap.size <=g ->Ext w0 w')
theorem Bo.put{w:World}{g i n c:Nat}{s:Bool}{a:Option Addr}(b:Bo w g i s a n c)(s':Bool)(a':Option Addr)(n' c':Nat):
  ∃W,W =(w.setCell ⟨g,2 * i,none⟩ (.bool s')).setCell ⟨g,2 * i + 1,none⟩ (.slice a' n' c')/\Bo W g i s' a' n' c'/\Po g i w W:=by
 refine⟨_,rfl,⟨?_,?_,?_,?_⟩,λg2 i2 s2 a2 n2 c2 hg b2 =>?_,?_,λw0 e hg =>(e.set hg _).set hg _⟩
 ·rw[World.cell?_setCell_other _ _ _ _ (by simp),World.cell?_setCell_same _ _ _ b.c0]
 ·refine World.cell?_setCell_same _ _ _ (u:=.slice a n c) ?_
  rw[World.cell?_setCell_other _ _ _ _ (by simp)];exact b.c1
 ·simp[b.f0]
 ·simp[b.f1]
 ·have h:∀j k:Nat,j <=1 ->k <=1 ->(⟨g,2 * i + j,none⟩:Addr)≠ ⟨g2,2 * i2 + k,none⟩ :=λj k hj hk he =>by
   injection he with e1 e2
   exact hg (by rw[show g2 =g from e1.symm,show i2 =i by omega])
  have h00:(⟨g,2 * i,none⟩:Addr)≠ ⟨g2,2 * i2,none⟩ :=h 0 0 zb zb
  have h10:(⟨g,2 * i + 1,none⟩:Addr)≠ ⟨g2,2 * i2,none⟩ :=h 1 0 zb zb
  have h01:(⟨g,2 * i,none⟩:Addr)≠ ⟨g2,2 * i2 + 1,none⟩ :=h 0 1 zb zb
  have h11:(⟨g,2 * i + 1,none⟩:Addr)≠ ⟨g2,2 * i2 + 1,none⟩ :=h 1 1 zb zb
  refine⟨?_,?_,?_,?_⟩
  ·rw[World.cell?_setCell_other _ _ _ _ h10,World.cell?_setCell_other _ _ _ _ h00];exact b2.c0
  ·rw[World.cell?_setCell_other _ _ _ _ h11,World.cell?_setCell_other _ _ _ _ h01];exact b2.c1
  ·simp[b2.f0]
  ·simp[b2.f1]
 ·refine((Gr.refl w).set b.c0 (NoWord.bool _) _).set (p:=⟨g,2 * i + 1,none⟩) (u:=.slice a n c) ?_ (NoWord.slice _ _ _) _
  rw[World.cell?_setCell_other _ _ _ _ (by simp)];exact b.c1
abbrev Fld:=(Nat×Nat)× (Value ->World ->Prop)
structure Sto (w0 w:World) (B:List Fld):Prop where
 ext:Ext w0 w
 box:∀p∈B,w0.heap.size <=p.1.1/\∃s a n c,Bo w p.1.1 p.1.2 s a n c/\p.2 (.agg #[.bool s,.slice a n c]) w
 stb:∀p∈B,GStb p.2
 apart:B.Pairwise (λp q =>p.1≠q.1)
theorem Sto.start(w:World):Sto w w [] :=⟨Ext.refl w,(λ_ h =>by cases h),(λ_ h =>by cases h),List.Pairwise.nil⟩
theorem Sto.mono{w0 w w':World}{B:List Fld}(h:Sto w0 w B)(e:Ext w w'):Sto w0 w' B:=
 ⟨h.ext.trans e,λp hp =>let ⟨h1,s,a,n,c,h2,h3⟩ :=h.box p hp;⟨h1,s,a,n,c,h2.ext e,h.stb p hp _ _ _ e.gr h3⟩,h.stb,h.apart⟩
theorem Sto.lt{w0 w:World}{B:List Fld}(h:Sto w0 w B):∀p∈B,p.1.1 < w.heap.size:=λp hp =>let ⟨_,_,_,_,_,h2,_⟩ :=h.box p hp;h2.lt
theorem Sto.at{w0 w:World}{B:List Fld}(h:Sto w0 w B)(i:Nat)(g k:Nat)(fP:Value ->World ->Prop)(hp:B[i]? =some ((g,k),fP)):
  ∃s a n c,Bo w g k s a n c/\fP (.agg #[.bool s,.slice a n c]) w:=(h.box _ (List.mem_of_getElem? hp)).2
theorem Sto.add{w0 w:World}{B:List Fld}(h:Sto w0 w B){g k:Nat}{s:Bool}{a:Option Addr}{n c:Nat}{fP:Value ->World ->Prop}(hb:Bo w g k s a n c)(hg:w0.heap.size <=g)(hn:∀p∈B,p.1≠ (g,k))
  (hs:GStb fP) (hZ:fP (.agg #[.bool s,.slice a n c]) w):Sto w0 w (((g,k),fP) ::B) :=by
 refine⟨h.ext,λp hp =>?_,λp hp =>?_,List.Pairwise.cons (λq hq he =>hn q hq he.symm) h.apart⟩
 ·rcases List.mem_cons.1 hp with rfl|hp
  ·exact⟨hg,s,a,n,c,hb,hZ⟩
  ·exact h.box p hp
 ·rcases List.mem_cons.1 hp with rfl|hp
  ·exact hs
  ·exact h.stb p hp
theorem Sto.put{w0 w:World}{B:List Fld}(h:Sto w0 w B)(i:Nat)(g k:Nat)(fP fS:Value ->World ->Prop)(hp:B[i]? =some ((g,k),fP))(s:Bool)(a:Option Addr)(n c:Nat)(hs:GStb fS)(hG:fS (.agg #[.bool s,.slice a n c]) w):
  ∃W,W =(w.setCell ⟨g,2 * k,none⟩ (.bool s)).setCell ⟨g,2 * k + 1,none⟩ (.slice a n c)/\Sto w0 W (B.set i ((g,k),fS))/\Gr w W:=by
 obtain⟨s',a',n',c',hb,_⟩ :=(h.box _ (List.mem_of_getElem? hp)).2
 have hg:w0.heap.size <=g:=(h.box _ (List.mem_of_getElem? hp)).1
 obtain⟨W,h1,h2,h3⟩ :=hb.put s a n c
 have hi:i < B.length:=(List.getElem?_eq_some_iff.1 hp).1
 have hBi:B[i]=((g,k),fP) :=(List.getElem?_eq_some_iff.1 hp).2
 refine⟨W,h1,⟨h3.2.2 _ h.ext hg,λp hpm =>?_,λp hpm =>?_,?_⟩,h3.2.1⟩
 ·rcases List.mem_or_eq_of_mem_set hpm with hpm'|rfl
  ·by_cases hgp:p.1 =(g,k)
   ·obtain⟨j,hj,hpj⟩ :=List.mem_iff_getElem.1 hpm
    by_cases hij:i =j
    ·subst hij
     rw[List.getElem_set_self]at hpj
     subst hpj
     exact⟨hg,s,a,n,c,h2,hs _ _ _ h3.2.1 hG⟩
    ·rw[List.getElem_set_ne hij]at hpj
     exfalso
     have hj':j < B.length:=yk
     rcases Nat.lt_or_gt_of_ne hij with hlt|hlt
     ·have:=List.pairwise_iff_getElem.1 h.apart i j hi hj' hlt
      rw[hBi,hpj]at this;exact this hgp.symm
     ·have:=List.pairwise_iff_getElem.1 h.apart j i hj' hi hlt
      rw[hBi,hpj]at this;exact this hgp
   ·obtain⟨h4,s4,a4,n4,c4,h5,h6⟩ :=h.box p hpm'
    exact⟨h4,s4,a4,n4,c4,h3.1 _ _ _ _ _ _ hgp h5,h.stb p hpm' _ _ _ h3.2.1 h6⟩
  ·exact⟨hg,s,a,n,c,h2,hs _ _ _ h3.2.1 hG⟩
 ·rcases List.mem_or_eq_of_mem_set hpm with hpm'|rfl
  ·exact h.stb p hpm'
  ·exact hs
 ·rw[List.pairwise_iff_getElem]
  intro j l hj hl hjl
  have hj':j < B.length:=yk
  have hl':l < B.length:=by simpa using hl
  have key:=List.pairwise_iff_getElem.1 h.apart j l hj' hl' hjl
  rw[List.getElem_set,List.getElem_set]
  split
  ·rename_i h5;subst h5
   rw[hBi]at key
   split
   ·omega
   ·exact key
  ·split
   ·rename_i h5;subst h5;rw[hBi]at key;exact key
   ·exact key
def ApartO(g:Nat)(B:List Fld):Prop:=∀p∈B,p.1.1≠g
theorem ApartO.old{W:World}{B:List Fld}{g:Nat}(h:∀p∈B,p.1.1 < W.heap.size)(hg:W.heap.size <=g):ApartO g B:=λp hp he =>by have:=h p hp;omega
theorem ApartO.cons{g g' k:Nat}{fP:Value ->World ->Prop}{B:List Fld}(h:g'≠g)(l:ApartO g B):ApartO g (((g',k),fP) ::B) :=λp hp =>by
 rcases List.mem_cons.1 hp with rfl|hp
 ·exact h
 ·exact l p hp
def IsBo(w0:World)(m:Nat):Value ->World ->Prop:=λx w =>∃g,x =.pointer (some ⟨g,0,none⟩)/\w0.heap.size <=g/\ (∀i,i < m ->Bo w g i false none 0 0)/\g < w.heap.size
theorem IsBo.stb(w0:World)(m:Nat):Stb (IsBo w0 m) :=λ_ _ _ e ⟨g,h1,h2,h3,h4⟩ =>⟨g,h1,h2,λi hi =>(h3 i hi).ext e,Nat.lt_of_lt_of_le h4 e.size⟩
instance (w0:World) (m:Nat):StbC (IsBo w0 m) :=⟨IsBo.stb w0 m⟩
theorem IsBo.box(w0:World)(m:Nat):IsBox (IsBo w0 m) :=λ_ _ ⟨g,h1,_,_,h4⟩ =>⟨g,h1,h4⟩
def newF(g:Nat):Nat ->List Fld
 |0 => []
 |m + 1 =>((g,m),IsI 0 0) ::newF g m
theorem newF.lt{g m:Nat}:∀p∈newF g m,p.1.1 =g/\p.1.2 < m:=by
 induction m with
 |zero =>intro p hp;cases hp
 | succ m ih =>
  intro p hp
  rcases List.mem_cons.1 hp with rfl|hp
  ·exact⟨rfl,Nat.lt_succ_self m⟩
  ·have:=ih p hp;exact⟨this.1,by omega⟩
theorem Sto.addN{w0 w:World}{B:List Fld}(h:Sto w0 w B){g:Nat}(m:Nat)(hn:ApartO g B)(hg:w0.heap.size <=g)(hb:∀i,i < m ->Bo w g i false none 0 0):Sto w0 w (newF g m ++B) :=by
 induction m with
 |zero =>exact h
 | succ m ih =>
  refine(ih λi hi =>hb i zb).add (hb m zb) hg (λp hp he =>?_) (IsI.gstb 0 0) (IsI.nil w 0)
  rcases List.mem_append.1 hp with hp|hp
  ·have:=(newF.lt p hp).2;rw[he]at this;simp at this
  ·exact hn p hp (by rw[he])
theorem Bo.new1(w:World)(s:Bool)(a:Option Addr)(n c:Nat)(t:TypeId):Bo (w.alloc (.cells #[.bool s,.slice a n c] t)) w.heap.size 0 s a n c:=⟨by simp,by simp,by simp,by simp⟩
theorem Bo.new2(w:World)(s s':Bool)(a a':Option Addr)(n c n' c':Nat)(t:TypeId):
  Bo (w.alloc (.cells #[.bool s,.slice a n c,.bool s',.slice a' n' c'] t)) w.heap.size 0 s a n c/\Bo (w.alloc (.cells #[.bool s,.slice a n c,.bool s',.slice a' n' c'] t)) w.heap.size 1 s' a' n' c':=
 ⟨⟨by simp,by simp,by simp,by simp⟩,⟨by simp,by simp,by simp,by simp⟩⟩
theorem IsBo.new1(w0 w:World)(t:TypeId)(h:w0.heap.size <=w.heap.size):IsBo w0 1 (.pointer (some ⟨w.heap.size,0,none⟩)) (w.alloc (.cells #[.bool false,.slice none 0 0] t)) :=by
 refine⟨_,rfl,h,λi hi =>?_,?_⟩
 ·skip
  obtain rfl:i =0:=zb
  exact Bo.new1 _ _ _ _ _ _
 ·simp
theorem IsBo.new2(w0 w:World)(t:TypeId)(h:w0.heap.size <=w.heap.size):IsBo w0 2 (.pointer (some ⟨w.heap.size,0,none⟩)) (w.alloc (.cells #[.bool false,.slice none 0 0,.bool false,.slice none 0 0] t)) :=by
 refine⟨_,rfl,h,λi hi =>?_,?_⟩
 ·skip
  have b:=Bo.new2 w false false none none 0 0 0 0 t
  rcases(by omega:i =0\/i =1)with rfl|rfl
  ·exact b.1
  ·exact b.2
 ·simp
theorem Sto.new1{w0 w:World}{B:List Fld}(h:Sto w0 w B)(g:Nat)(hg:w.heap.size =g)(s:Bool)(a:Option Addr)(n c:Nat)(t:TypeId)(fP:Value ->World ->Prop)(hs:GStb fP)(hZ:fP (.agg #[.bool s,.slice a n c]) w):
  Sto w0 (w.alloc (.cells #[.bool s,.slice a n c] t)) (((g,0),fP) ::B) :=by
 subst hg
 have e:Ext w (w.alloc (.cells #[.bool s,.slice a n c] t)) :=(Ext.refl w).alloc _
 exact(h.mono e).add (Bo.new1 _ _ _ _ _ _) h.ext.size (λp hp he =>by have:=h.lt p hp;rw[he]at this;simp at this) hs (hs _ _ _ e.gr hZ)
theorem Sto.new2{w0 w:World}{B:List Fld}(h:Sto w0 w B)(g:Nat)(hg:w.heap.size =g)(s s':Bool)(a a':Option Addr)(n c n' c':Nat)(t:TypeId)(fP fS:Value ->World ->Prop)(hs:GStb fP)(hZ:fP (.agg #[.bool s,.slice a n c]) w)(hs':GStb fS)(hG:fS (.agg #[.bool s',.slice a' n' c']) w):
  Sto w0 (w.alloc (.cells #[.bool s,.slice a n c,.bool s',.slice a' n' c'] t)) (((g,1),fS) ::((g,0),fP) ::B) :=by
 subst hg
 have e:Ext w (w.alloc (.cells #[.bool s,.slice a n c,.bool s',.slice a' n' c'] t)) :=(Ext.refl w).alloc _
 have b:=Bo.new2 w s s' a a' n c n' c' t
 have hl:∀p∈B,p.1.1≠w.heap.size:=λp hp he =>by have:=h.lt p hp;omega
 refine((h.mono e).add b.1 h.ext.size (λp hp he =>hl p hp (by rw[he])) hs (hs _ _ _ e.gr hZ)).add b.2 h.ext.size (λp hp he =>?_) hs' (hs' _ _ _ e.gr hG)
 rcases List.mem_cons.1 hp with rfl|hp
 ·simp at he
 ·exact hl p hp (by rw[he])
def IsQ(fP fS:Value ->World ->Prop):Value ->World ->Prop:=λx w =>∃s a n c s' a' n' c',x =.agg #[.bool s,.slice a n c,.bool s',.slice a' n' c']/\fP (.agg #[.bool s,.slice a n c]) w/\fS (.agg #[.bool s',.slice a' n' c']) w
theorem IsQ.gstb{fP fS:Value ->World ->Prop}(h:GStb fP)(k:GStb fS):GStb (IsQ fP fS) :=λ_ _ _ e ⟨s,a,n,c,s',a',n',c',h1,h2,h3⟩ =>⟨s,a,n,c,s',a',n',c',h1,h _ _ _ e h2,k _ _ _ e h3⟩
theorem IsQ.stb{fP fS:Value ->World ->Prop}(h:Stb fP)(k:Stb fS):Stb (IsQ fP fS) :=λ_ _ _ e ⟨s,a,n,c,s',a',n',c',h1,h2,h3⟩ =>⟨s,a,n,c,s',a',n',c',h1,h _ _ _ e h2,k _ _ _ e h3⟩
instance {fP fS:Value ->World ->Prop} [StbC fP] [StbC fS]:StbC (IsQ fP fS) :=⟨IsQ.stb StbC.out StbC.out⟩
def IsJ(fP fS fQ fT:Value ->World ->Prop):Value ->World ->Prop:=λx w =>∃s a n c s' a' n' c' s2 a2 n2 c2 s3 a3 n3 c3,
 x =.agg #[.bool s,.slice a n c,.bool s',.slice a' n' c',.bool s2,.slice a2 n2 c2,.bool s3,.slice a3 n3 c3]/\fP (.agg #[.bool s,.slice a n c]) w/\fS (.agg #[.bool s',.slice a' n' c']) w/\fQ (.agg #[.bool s2,.slice a2 n2 c2]) w/\fT (.agg #[.bool s3,.slice a3 n3 c3]) w
theorem IsJ.stb{fP fS fQ fT:Value ->World ->Prop}(h:Stb fP)(k:Stb fS)(l:Stb fQ)(m:Stb fT):Stb (IsJ fP fS fQ fT) :=
 λ_ _ _ e ⟨s,a,n,c,s',a',n',c',s2,a2,n2,c2,s3,a3,n3,c3,h1,h2,h3,h4,h5⟩ =>⟨s,a,n,c,s',a',n',c',s2,a2,n2,c2,s3,a3,n3,c3,h1,h _ _ _ e h2,k _ _ _ e h3,l _ _ _ e h4,m _ _ _ e h5⟩
instance {fP fS fQ fT:Value ->World ->Prop} [StbC fP] [StbC fS] [StbC fQ] [StbC fT]:StbC (IsJ fP fS fQ fT) :=⟨IsJ.stb StbC.out StbC.out StbC.out StbC.out⟩
section
variable {P:Program} {ops:Array Oper} {Q:Exit ->Act ->World ->Prop} {ds:List (Option Tmp)} {a0:Act} {w0:World} {L:List (Value ->World ->Prop)} {boxes:List Nat} {i k:Nat} {o:Oper} {os:List Oper}
structure Od (ops:Array Oper) (ds:List (Option Tmp)) (a0:Act) (w0:World) (L:List (Value ->World ->Prop)) (i:Nat) (x:Operand) (fP:Value ->World ->Prop):Prop where
 out:∀(v:Nat ->Value) (a:Act) (w:World),Ext w0 w ->(∀j,(ups .any ops i).contains j =true ->L.getD j (λ_ _ =>True) (v j) w) ->Fr ds a0 v a ->fP (a.eval x) w
structure Ok (P:Program) (ops:Array Oper) (Q:Exit ->Act ->World ->Prop) (ds:List (Option Tmp)) (a0:Act) (w0:World) (L:List (Value ->World ->Prop)) (boxes:List Nat) (i:Nat) (o:Oper):Prop where
 out:OpOk P .any ops Q ds a0 w0 L boxes i o
theorem eval_tmp(a:Act)(t:Nat):a.eval (.tmp t)=a.tmps[t]?.getD undef:=by simp[Act.eval]
theorem qC(j t:Nat)(hu:(ups .any ops i).contains j =true:=by kernel_rfl)(h1:ds[j]? =some (some t) :=by kernel_rfl)(h2:(ds.drop (j + 1)).contains (some t)=false:=by kernel_rfl)(h3:decide (t < a0.tmps.size)=true:=by kernel_rfl):
  Od ops ds a0 w0 L i (.tmp t) (L.getD j (λ_ _ =>True)) :=
 ⟨λv a w _ hd hf =>by rw[eval_tmp,hf.val j t _ rfl h1 h2 h3];exact hd j hu⟩
theorem qA(j t:Nat){fP:Value ->World ->Prop}(hL:L.getD j (λ_ _ =>True)=fP:=by kernel_rfl)(hu:(ups .any ops i).contains j =true:=by kernel_rfl)(h1:ds[j]? =some (some t) :=by kernel_rfl)(h2:(ds.drop (j + 1)).contains (some t)=false:=by kernel_rfl)(h3:decide (t < a0.tmps.size)=true:=by kernel_rfl):
  Od ops ds a0 w0 L i (.tmp t) fP:=hL ▸ qC j t hu h1 h2 h3
theorem qB(t:Nat){x:Value}(h1:ds.contains (some t)=false:=by kernel_rfl)(h2:a0.tmps[t]? =some x:=by kernel_rfl):Od ops ds a0 w0 L i (.tmp t) (IsV x) :=
 ⟨λv a w _ _ hf =>by rw[eval_tmp,hf.lit t x h1 h2];exact rfl⟩
theorem qF{x:Value}:Od ops ds a0 w0 L i (.const x) (IsV x) :=⟨λ_ _ _ _ _ _ =>rfl⟩
theorem Rc(h:Ok P ops Q ds a0 w0 L boxes i o)(hs:RgAll P .any ops Q ds a0 w0 L boxes (i + 1) k os)(hg:o.guard =none:=by rfl):RgAll P .any ops Q ds a0 w0 L boxes i (k + 1) (o ::os) :=
 ⟨RgL.mk hg h.out,hs⟩
theorem RcG(g t:Nat)(b:Bool)(h:Ok P ops Q ds a0 w0 L boxes i o)(hs:RgAll P .any ops Q ds a0 w0 L boxes (i + 1) k os)(hg:o.guard =some (g,b) :=by rfl)(hdst:qR ops g =some t:=by kernel_rfl)(h1:ds[g]? =some (some t) :=by kernel_rfl)(h2:(ds.drop (g + 1)).contains (some t)=false:=by kernel_rfl)(h3:decide (t < a0.tmps.size)=true:=by kernel_rfl)(hu:(ups .any ops i).contains g =true:=by kernel_rfl)
  (hL:L.getD g (λ_ _ =>True)=IsV (.bool b) :=by kernel_rfl):RgAll P .any ops Q ds a0 w0 L boxes i (k + 1) (o ::os) :=
 ⟨RgL.mkG g t b hg hdst h1 h2 h3 hu (λ_ _ h =>by rw[hL]at h;exact h) h.out,hs⟩
theorem RcN(g t:Nat)(b:Bool)(hs:RgAll P .any ops Q ds a0 w0 L boxes (i + 1) k os)(hg:o.guard =some (g,!b) :=by rfl)(hdst:qR ops g =some t:=by kernel_rfl)(h1:ds[g]? =some (some t) :=by kernel_rfl)(h2:(ds.drop (g + 1)).contains (some t)=false:=by kernel_rfl)(h3:decide (t < a0.tmps.size)=true:=by kernel_rfl)(hu:(ups .any ops i).contains g =true:=by kernel_rfl)
  (hL:L.getD g (λ_ _ =>True)=IsV (.bool b) :=by kernel_rfl) (hb:boxes.contains i =false:=by kernel_rfl) (hi:L.getD i (λ_ _ =>True)=IsV undef:=by kernel_rfl):RgAll P .any ops Q ds a0 w0 L boxes i (k + 1) (o ::os) :=
 ⟨RgL.mkN g t b hg hdst h1 h2 h3 hu (λ_ _ h =>by rw[hL]at h;exact h) hb (λ_ =>by rw[hi];exact rfl),hs⟩
theorem Ok.of(hb:boxes.contains i =false)(h:∀(v:Nat ->Value) (a:Act) (w:World),Ext w0 w ->(∀j,(ups .any ops i).contains j =true ->L.getD j (λ_ _ =>True) (v j) w) ->Fr ds a0 v a ->
  ∃x,(execOp a.eval o).run P w =.ok (.value x) w/\L.getD i (λ_ _ =>True) x w):Ok P ops Q ds a0 w0 L boxes i o:=
 ⟨fun v a w hE hd hf K hK =>by
  obtain⟨x,hr,hx⟩ :=h v a w hE hd hf
  unfold Oper.wp
  rw[hr]
  exact hK.out x w (Ext.refl _) hx (FreshIf.no hb)⟩
theorem mv{x:Operand}(hx:Od ops ds a0 w0 L i x (L.getD i (λ_ _ =>True)))(ho:(o.op =.move x\/o.op =.assign x) :=by first|exact .inl rfl|exact .inr rfl)(hb:boxes.contains i =false:=by kernel_rfl):Ok P ops Q ds a0 w0 L boxes i o:=
 Ok.of hb λv a w hE hd hf =>by
  have h:=hx.out v a w hE hd hf
  refine⟨a.eval x,?_,h⟩
  unfold execOp
  rcases ho with ho|ho <;> rw[ho] <;> rfl
theorem fa{x:Operand}{T f:Nat}{p r:Value}(hr:∀w,(Instr.fieldAt T p f).run P w =.ok r w)(hx:Od ops ds a0 w0 L i x (IsV p))(ho:o.op =.fieldAddr T x f:=by rfl)(hi:L.getD i (λ_ _ =>True)=IsV r:=by kernel_rfl)(hb:boxes.contains i =false:=by kernel_rfl):Ok P ops Q ds a0 w0 L boxes i o:=
 Ok.of hb λv a w hE hd hf =>by
  have h:a.eval x =p:=hx.out v a w hE hd hf
  refine⟨r,?_,by rw[hi];exact rfl⟩
  have:=hr w
  unfold execOp
  rw[ho]
  dsimp only
  rw[h]
  simp[this]
def LdI(P:Program)(T:TypeId):Prop:=∀(w:World) (b f:Nat) (s:Bool) (a:Option Addr) (n c:Nat),w.cell? ⟨b,f,none⟩=some (.bool s) ->w.cell? ⟨b,f + 1,none⟩=some (.slice a n c) ->(Instr.loadAt T (.pointer (some ⟨b,f,none⟩))).run P w =.ok (.agg #[.bool s,.slice a n c]) w
def LdQ(P:Program)(T:TypeId):Prop:=∀(w:World) (b f:Nat) (s:Bool) (a:Option Addr) (n c:Nat) (s':Bool) (a':Option Addr) (n' c':Nat),w.cell? ⟨b,f,none⟩=some (.bool s) ->w.cell? ⟨b,f + 1,none⟩=some (.slice a n c) ->w.cell? ⟨b,f + 2,none⟩=some (.bool s') ->w.cell? ⟨b,f + 3,none⟩=some (.slice a' n' c') ->
 (Instr.loadAt T (.pointer (some ⟨b,f,none⟩))).run P w =.ok (.agg #[.bool s,.slice a n c,.bool s',.slice a' n' c']) w
theorem ld_run{x:Operand}{T:Nat}{a:Act}{p u:Value}{w:World}(ho:o.op =.load T x)(h:a.eval x =p)(hr:(Instr.loadAt T p).run P w =.ok u w):(execOp a.eval o).run P w =.ok (.value u) w:=by
 unfold execOp
 rw[ho]
 dsimp only
 rw[h]
 simp[hr]
theorem ldI{W:World}{B:List Fld}(S:Sto W w0 B)(j g q:Nat){T:Nat}{x:Operand}(hx:Od ops ds a0 w0 L i x (IsV (.pointer (some ⟨g,2 * q,none⟩))))(hT:LdI P T)(ho:o.op =.load T x:=by rfl)
  (hi:B[j]? =some ((g,q),L.getD i (λ_ _ =>True)) :=by kernel_rfl) (hb:boxes.contains i =false:=by kernel_rfl):Ok P ops Q ds a0 w0 L boxes i o:=
 Ok.of hb λv a w hE hd hf =>by
  have h:a.eval x =_:=hx.out v a w hE hd hf
  obtain⟨s,a',n,c,b,h'⟩ :=(S.mono hE).at j g q _ hi
  exact⟨_,ld_run ho h (hT w g (2 * q) _ _ _ _ b.c0 b.c1),h'⟩
theorem ldQ{W:World}{B:List Fld}(S:Sto W w0 B)(j j2 g q:Nat){T:Nat}{x:Operand}{fP fS:Value ->World ->Prop}(hx:Od ops ds a0 w0 L i x (IsV (.pointer (some ⟨g,2 * q,none⟩))))(hT:LdQ P T)(h1:B[j]? =some ((g,q),fP))(h2:B[j2]? =some ((g,q + 1),fS))(ho:o.op =.load T x:=by rfl)
  (hi:L.getD i (λ_ _ =>True)=IsQ fP fS:=by kernel_rfl) (hb:boxes.contains i =false:=by kernel_rfl):Ok P ops Q ds a0 w0 L boxes i o:=
 Ok.of hb λv a w hE hd hf =>by
  have h:a.eval x =_:=hx.out v a w hE hd hf
  obtain⟨s,a',n,c,b,h'⟩ :=(S.mono hE).at j g q _ h1
  obtain⟨s2,a2,n2,c2,b2,h2'⟩ :=(S.mono hE).at j2 g (q + 1) _ h2
  exact⟨_,ld_run ho h (hT w g (2 * q) _ _ _ _ _ _ _ _ b.c0 b.c1 b2.c0 b2.c1),by rw[hi];exact⟨_,_,_,_,_,_,_,_,rfl,h',h2'⟩⟩
theorem cl{f:FuncId}{c:Call}{fQ:Value ->World ->Prop}(he:∀args w,(callFunc f args).run P w =.ok (.enter f args) w)(ho:o.op =.call c)(hc:c.callee =.value (.func f))(hi:L.getD i (λ_ _ =>True)=fQ)(hb:boxes.contains i =false)
  (h:∀(v:Nat ->Value) (a:Act) (w:World),Ext w0 w ->(∀j,(ups .any ops i).contains j =true ->L.getD j (λ_ _ =>True) (v j) w) ->Fr ds a0 v a ->Calls P f (c.args.map a.eval) w (Ret w fQ)):Ok P ops Q ds a0 w0 L boxes i o:=
 ⟨fun v a w hE hd hf K hK =>by
  have hr:(execOp a.eval o).run P w =.ok (.enter f (c.args.map a.eval)) w:=by
   unfold execOp
   rw[ho]
   dsimp only
   unfold resolve
   rw[hc]
   simp[invoke,he,Deferred.ofValue,show a.eval (.func f)=.func (.func f) #[] #[]from rfl]
  unfold Oper.wp
  rw[hr,Oper.upon_enter]
  refine jC (h v a w hE hd hf) ?_
  rintro e w2 ⟨x,rfl,e2,hx⟩
  exact hK.out _ _ e2 (by rw[hi];exact hx) (FreshIf.no hb)⟩
theorem clv{f:FuncId}{c:Call}{t:Operand}{caps:Array Value}{fQ:Value ->World ->Prop}(ht:Od ops ds a0 w0 L i t (IsV (.func (.func f) #[] caps)))(he:∀args w,(callFunc f args).run P w =.ok (.enter f args) w)(ho:o.op =.call c)(hc:c.callee =.value t)(hi:L.getD i (λ_ _ =>True)=fQ)(hb:boxes.contains i =false)
  (h:∀(v:Nat ->Value) (a:Act) (w:World),Ext w0 w ->(∀j,(ups .any ops i).contains j =true ->L.getD j (λ_ _ =>True) (v j) w) ->Fr ds a0 v a ->Calls P f (c.args.map a.eval ++caps) w (Ret w fQ)):Ok P ops Q ds a0 w0 L boxes i o:=
 ⟨fun v a w hE hd hf K hK =>by
  have h0:a.eval t =_:=ht.out v a w hE hd hf
  have hr:(execOp a.eval o).run P w =.ok (.enter f (c.args.map a.eval ++caps)) w:=by
   unfold execOp
   rw[ho]
   dsimp only
   unfold resolve
   rw[hc]
   simp[invoke,he,h0,Deferred.ofValue]
  unfold Oper.wp
  rw[hr,Oper.upon_enter]
  refine jC (h v a w hE hd hf) ?_
  rintro e w2 ⟨x,rfl,e2,hx⟩
  exact hK.out _ _ e2 (by rw[hi];exact hx) (FreshIf.no hb)⟩
theorem cl0{f:FuncId}{c:Call}{fQ:Value ->World ->Prop}(he:∀args w,(callFunc f args).run P w =.ok (.enter f args) w)(h:∀w,Ext w0 w ->Calls P f #[] w (Ret w fQ))
  (ho:o.op =.call c:=by rfl) (hc:c.callee =.value (.func f) :=by rfl) (ha:c.args = #[] :=by rfl) (hi:L.getD i (λ_ _ =>True)=fQ:=by kernel_rfl) (hb:boxes.contains i =false:=by kernel_rfl):Ok P ops Q ds a0 w0 L boxes i o:=
 cl he ho hc hi hb λv a w hE hd hf =>by rw[ha,show(#[]:Array Operand).map a.eval = #[]by simp];exact h w hE
theorem cl1{f:FuncId}{c:Call}{x:Operand}{fP fQ:Value ->World ->Prop}(he:∀args w,(callFunc f args).run P w =.ok (.enter f args) w)(hx:Od ops ds a0 w0 L i x fP)(h:∀u w,Ext w0 w ->fP u w ->Calls P f #[u] w (Ret w fQ))
  (ho:o.op =.call c:=by rfl) (hc:c.callee =.value (.func f) :=by rfl) (ha:c.args = #[x] :=by rfl) (hi:L.getD i (λ_ _ =>True)=fQ:=by kernel_rfl) (hb:boxes.contains i =false:=by kernel_rfl):Ok P ops Q ds a0 w0 L boxes i o:=
 cl he ho hc hi hb λv a w hE hd hf =>by rw[ha,show(#[x]:Array Operand).map a.eval = #[a.eval x]by simp];exact h _ w hE (hx.out v a w hE hd hf)
theorem cl2{f:FuncId}{c:Call}{x y:Operand}{fP fS fQ:Value ->World ->Prop}(he:∀args w,(callFunc f args).run P w =.ok (.enter f args) w)(hx:Od ops ds a0 w0 L i x fP)(hy:Od ops ds a0 w0 L i y fS)(h:∀u u' w,Ext w0 w ->fP u w ->fS u' w ->Calls P f #[u,u'] w (Ret w fQ))
  (ho:o.op =.call c:=by rfl) (hc:c.callee =.value (.func f) :=by rfl) (ha:c.args = #[x,y] :=by rfl) (hi:L.getD i (λ_ _ =>True)=fQ:=by kernel_rfl) (hb:boxes.contains i =false:=by kernel_rfl):Ok P ops Q ds a0 w0 L boxes i o:=
 cl he ho hc hi hb λv a w hE hd hf =>by rw[ha,show(#[x,y]:Array Operand).map a.eval = #[a.eval x,a.eval y]by simp];exact h _ _ w hE (hx.out v a w hE hd hf) (hy.out v a w hE hd hf)
theorem cl3{f:FuncId}{c:Call}{x y z:Operand}{fP fS fT fQ:Value ->World ->Prop}(he:∀args w,(callFunc f args).run P w =.ok (.enter f args) w)(hx:Od ops ds a0 w0 L i x fP)(hy:Od ops ds a0 w0 L i y fS)(hz:Od ops ds a0 w0 L i z fT)(h:∀u u' u2 w,Ext w0 w ->fP u w ->fS u' w ->fT u2 w ->Calls P f #[u,u',u2] w (Ret w fQ))
  (ho:o.op =.call c:=by rfl) (hc:c.callee =.value (.func f) :=by rfl) (ha:c.args = #[x,y,z] :=by rfl) (hi:L.getD i (λ_ _ =>True)=fQ:=by kernel_rfl) (hb:boxes.contains i =false:=by kernel_rfl):Ok P ops Q ds a0 w0 L boxes i o:=
 cl he ho hc hi hb λv a w hE hd hf =>by rw[ha,show(#[x,y,z]:Array Operand).map a.eval = #[a.eval x,a.eval y,a.eval z]by simp];exact h _ _ _ w hE (hx.out v a w hE hd hf) (hy.out v a w hE hd hf) (hz.out v a w hE hd hf)
theorem cv1{f:FuncId}{c:Call}{t x:Operand}{caps:List Value}{fP fQ:Value ->World ->Prop}(he:∀args w,(callFunc f args).run P w =.ok (.enter f args) w)(ht:Od ops ds a0 w0 L i t (IsV (.func (.func f) #[] caps.toArray)))(hx:Od ops ds a0 w0 L i x fP)(h:∀u w,Ext w0 w ->fP u w ->Calls P f (u ::caps).toArray w (Ret w fQ))
  (ho:o.op =.call c:=by rfl) (hc:c.callee =.value t:=by rfl) (ha:c.args = #[x] :=by rfl) (hi:L.getD i (λ_ _ =>True)=fQ:=by kernel_rfl) (hb:boxes.contains i =false:=by kernel_rfl):Ok P ops Q ds a0 w0 L boxes i o:=
 clv ht he ho hc hi hb λv a w hE hd hf =>by rw[ha,show(#[x]:Array Operand).map a.eval ++caps.toArray =(a.eval x ::caps).toArray by simp];exact h _ w hE (hx.out v a w hE hd hf)
theorem cv2{f:FuncId}{c:Call}{t x y:Operand}{caps:List Value}{fP fS fQ:Value ->World ->Prop}(he:∀args w,(callFunc f args).run P w =.ok (.enter f args) w)(ht:Od ops ds a0 w0 L i t (IsV (.func (.func f) #[] caps.toArray)))(hx:Od ops ds a0 w0 L i x fP)(hy:Od ops ds a0 w0 L i y fS)(h:∀u u' w,Ext w0 w ->fP u w ->fS u' w ->Calls P f (u ::u' ::caps).toArray w (Ret w fQ))
  (ho:o.op =.call c:=by rfl) (hc:c.callee =.value t:=by rfl) (ha:c.args = #[x,y] :=by rfl) (hi:L.getD i (λ_ _ =>True)=fQ:=by kernel_rfl) (hb:boxes.contains i =false:=by kernel_rfl):Ok P ops Q ds a0 w0 L boxes i o:=
 clv ht he ho hc hi hb λv a w hE hd hf =>by rw[ha,show(#[x,y]:Array Operand).map a.eval ++caps.toArray =(a.eval x ::a.eval y ::caps).toArray by simp];exact h _ _ w hE (hx.out v a w hE hd hf) (hy.out v a w hE hd hf)
theorem ex{x:Operand}{n:Nat}{fP fQ:Value ->World ->Prop}(hx:Od ops ds a0 w0 L i x fP)(h:∀u w,fP u w ->∃vs:Array Value,u =.tuple vs/\∃y,vs[n]? =some y/\fQ y w)(ho:o.op =.extract x n:=by rfl)(hi:L.getD i (λ_ _ =>True)=fQ:=by kernel_rfl)(hb:boxes.contains i =false:=by kernel_rfl):Ok P ops Q ds a0 w0 L boxes i o:=
 Ok.of hb λv a w hE hd hf =>by
  obtain⟨vs,hu,y,hy,hχ⟩ :=h _ _ (hx.out v a w hE hd hf)
  refine⟨y,?_,by rw[hi];exact hχ⟩
  unfold execOp
  rw[ho]
  dsimp only
  rw[hu]
  simp[Instr.extract,hy]
theorem t20{fP fS:Value ->World ->Prop}(u:Value)(w:World)(h:IsT2 fP fS u w):∃vs:Array Value,u =.tuple vs/\∃y,vs[0]? =some y/\fP y w:=let ⟨_,_,h1,h2,_⟩ :=h;⟨_,h1,_,rfl,h2⟩
theorem t21{fP fS:Value ->World ->Prop}(u:Value)(w:World)(h:IsT2 fP fS u w):∃vs:Array Value,u =.tuple vs/\∃y,vs[1]? =some y/\fS y w:=let ⟨_,_,h1,_,h2⟩ :=h;⟨_,h1,_,rfl,h2⟩
theorem t30{fP fS fQ:Value ->World ->Prop}(u:Value)(w:World)(h:IsT3 fP fS fQ u w):∃vs:Array Value,u =.tuple vs/\∃y,vs[0]? =some y/\fP y w:=let ⟨_,_,_,h1,h2,_,_⟩ :=h;⟨_,h1,_,rfl,h2⟩
theorem t31{fP fS fQ:Value ->World ->Prop}(u:Value)(w:World)(h:IsT3 fP fS fQ u w):∃vs:Array Value,u =.tuple vs/\∃y,vs[1]? =some y/\fS y w:=let ⟨_,_,_,h1,_,h2,_⟩ :=h;⟨_,h1,_,rfl,h2⟩
theorem t32{fP fS fQ:Value ->World ->Prop}(u:Value)(w:World)(h:IsT3 fP fS fQ u w):∃vs:Array Value,u =.tuple vs/\∃y,vs[2]? =some y/\fQ y w:=let ⟨_,_,_,h1,_,_,h2⟩ :=h;⟨_,h1,_,rfl,h2⟩
theorem bn{x y:Operand}{b:BinOp}{T T2:Nat}{p q r:Value}(hx:Od ops ds a0 w0 L i x (IsV p))(hy:Od ops ds a0 w0 L i y (IsV q))(ho:o.op =.binOp b T x y T2:=by rfl)(hr:∀w,Sem.run P (do eqGuard b T x y p q;binOp b T p q) w =.ok r w)(hi:L.getD i (λ_ _ =>True)=IsV r:=by kernel_rfl)(hb:boxes.contains i =false:=by kernel_rfl):Ok P ops Q ds a0 w0 L boxes i o:=
 Ok.of hb λv a w hE hd hf =>by
  have h1:a.eval x =p:=hx.out v a w hE hd hf
  have h2:a.eval y =q:=hy.out v a w hE hd hf
  refine⟨r,?_,by rw[hi];exact rfl⟩
  have:=hr w
  unfold execOp
  rw[ho]
  dsimp only
  rw[h1,h2]
  cases hg:Sem.run P (eqGuard b T x y p q) w with
  |ok u w1 =>simp[hg]at this ⊢;rw[this];simp
  |halt e w1 =>simp[hg]at this
theorem pk{c x y z:Operand}{b:Bool}(hc:Od ops ds a0 w0 L i c (IsV (.bool b)))(hx:Od ops ds a0 w0 L i z (L.getD i (λ_ _ =>True)))(ho:o.op =.pick c x y:=by rfl)(hz:(bif b then x else y)=z:=by rfl)(hb:boxes.contains i =false:=by kernel_rfl):Ok P ops Q ds a0 w0 L boxes i o:=
 Ok.of hb λv a w hE hd hf =>by
  have h1:a.eval c =.bool b:=hc.out v a w hE hd hf
  have h2:=hx.out v a w hE hd hf
  refine⟨a.eval z,?_,h2⟩
  subst hz
  unfold execOp
  rw[ho]
  dsimp only
  rw[h1]
  cases b <;> simp[asBool]
def AlO(P:Program)(T:TypeId)(m:Nat):Prop:=∀w0 w:World,w0.heap.size <=w.heap.size ->∃w',(Instr.alloc T true (.tuple #[])).run P w =.ok (.pointer (some ⟨w.heap.size,0,none⟩)) w'/\Ext w w'/\IsBo w0 m (.pointer (some ⟨w.heap.size,0,none⟩)) w'
theorem al{T m:Nat}(hr:AlO P T m)(ho:o.op =.alloc T:=by rfl)(hi:L.getD i (λ_ _ =>True)=IsBo w0 m:=by kernel_rfl):Ok P ops Q ds a0 w0 L boxes i o:=
 ⟨fun v a w hE hd hf K hK =>by
  obtain⟨w',h1,h2,h3⟩ :=hr w0 w hE.size
  have hrun:(execOp a.eval o).run P w =.ok (.value (.pointer (some ⟨w.heap.size,0,none⟩))) w':=by
   unfold execOp
   rw[ho]
   dsimp only
   simp[h1]
  unfold Oper.wp
  rw[hrun]
  exact hK.out _ w' h2 (by rw[hi];exact h3) FreshIf.yes⟩
def BdQ(P:Program)(T:TypeId):Prop:=∀(w:World) (s:Bool) (a:Option Addr) (n c:Nat) (s':Bool) (a':Option Addr) (n' c':Nat),(Instr.build T #[(0,.agg #[.bool s,.slice a n c]),(1,.agg #[.bool s',.slice a' n' c'])]).run P w =.ok (.agg #[.bool s,.slice a n c,.bool s',.slice a' n' c']) w
theorem bd_run{x y:Operand}{T:Nat}{a:Act}{p q u:Value}{w:World}(ho:o.op =.build T #[(0,x),(1,y)])(h:a.eval x =p)(h':a.eval y =q)(hr:(Instr.build T #[(0,p),(1,q)]).run P w =.ok u w):(execOp a.eval o).run P w =.ok (.value u) w:=by
 unfold execOp
 rw[ho]
 dsimp only
 simp only[List.map_toArray,List.map_cons,List.map_nil]
 rw[h,h']
 simp[hr]
theorem bq{x y:Operand}{T k1 k2:Nat}{z1 z2:Int}(hx:Od ops ds a0 w0 L i x (IsI k1 z1))(hy:Od ops ds a0 w0 L i y (IsI k2 z2))(hT:BdQ P T)(ho:o.op =.build T #[(0,x),(1,y)] :=by rfl)
  (hi:L.getD i (λ_ _ =>True)=IsQ (IsI k1 z1) (IsI k2 z2) :=by kernel_rfl) (hb:boxes.contains i =false:=by kernel_rfl):Ok P ops Q ds a0 w0 L boxes i o:=
 Ok.of hb λv a w hE hd hf =>by
  obtain⟨s,a1,n,c,e1,h1⟩ :=hx.out v a w hE hd hf
  obtain⟨s',a1',n',c',e2,h2⟩ :=hy.out v a w hE hd hf
  exact⟨_,bd_run ho e1 e2 (hT w _ _ _ _ _ _ _ _),by rw[hi];exact⟨_,_,_,_,_,_,_,_,rfl,⟨_,_,_,_,rfl,h1⟩,⟨_,_,_,_,rfl,h2⟩⟩⟩
theorem b0{T:Nat}{z:Value}{fP:Value ->World ->Prop}(hr:∀w,(Instr.build T #[]).run P w =.ok z w)(hz:∀w,fP z w)(ho:o.op =.build T #[] :=by rfl)(hi:L.getD i (λ_ _ =>True)=fP:=by kernel_rfl)(hb:boxes.contains i =false:=by kernel_rfl):Ok P ops Q ds a0 w0 L boxes i o:=
 Ok.of hb λv a w hE hd hf =>by
  refine⟨z,?_,by rw[hi];exact hz w⟩
  have:=hr w
  unfold execOp
  rw[ho]
  dsimp only
  simp[this]
def StI(P:Program)(T:TypeId):Prop:=∀(w:World) (b f:Nat) (s0:Bool) (a0:Option Addr) (n0 c0:Nat) (s:Bool) (a:Option Addr) (n c:Nat),w.cell? ⟨b,f,none⟩=some (.bool s0) ->w.cell? ⟨b,f + 1,none⟩=some (.slice a0 n0 c0) ->w.frozen? ⟨b,f,none⟩=false ->w.frozen? ⟨b,f + 1,none⟩=false ->
 (Instr.storeAt T (.pointer (some ⟨b,f,none⟩)) (.agg #[.bool s,.slice a n c])).run P w =.ok () ((w.setCell ⟨b,f,none⟩ (.bool s)).setCell ⟨b,f + 1,none⟩ (.slice a n c))
def StQ(P:Program)(T:TypeId):Prop:=∀(w:World) (b f:Nat) (s0:Bool) (a0:Option Addr) (n0 c0:Nat) (s1:Bool) (a1:Option Addr) (n1 c1:Nat) (s:Bool) (a:Option Addr) (n c:Nat) (s':Bool) (a':Option Addr) (n' c':Nat),
 w.cell? ⟨b,f,none⟩=some (.bool s0) ->w.cell? ⟨b,f + 1,none⟩=some (.slice a0 n0 c0) ->w.frozen? ⟨b,f,none⟩=false ->w.frozen? ⟨b,f + 1,none⟩=false ->w.cell? ⟨b,f + 2,none⟩=some (.bool s1) ->w.cell? ⟨b,f + 3,none⟩=some (.slice a1 n1 c1) ->w.frozen? ⟨b,f + 2,none⟩=false ->w.frozen? ⟨b,f + 3,none⟩=false ->
 (Instr.storeAt T (.pointer (some ⟨b,f,none⟩)) (.agg #[.bool s,.slice a n c,.bool s',.slice a' n' c'])).run P w =.ok () ((((w.setCell ⟨b,f,none⟩ (.bool s)).setCell ⟨b,f + 1,none⟩ (.slice a n c)).setCell ⟨b,f + 2,none⟩ (.bool s')).setCell ⟨b,f + 3,none⟩ (.slice a' n' c'))
theorem st_wp{x y:Operand}{T:Nat}{a:Act}{p u:Value}{w w':World}{K:Act ->World ->Prop}(ho:o.op =.store T x y)(h:a.eval x =p)(h':a.eval y =u)(hr:(Instr.storeAt T p u).run P w =.ok () w')(hK:K (a.put o.dst undef) w'):Oper.wp P o a w K Q:=by
 have:(execOp a.eval o).run P w =.ok .skip w':=by
  unfold execOp
  rw[ho]
  dsimp only
  rw[h,h']
  simp[hr]
 unfold Oper.wp
 rw[this]
 exact hK
theorem stI{w W:World}{B:List Fld}{a:Act}{K:Act ->World ->Prop}(S:Sto w W B)(j g q:Nat){T k:Nat}{z:Int}{x y:Operand}{fP:Value ->World ->Prop}{u:Value}(hu:IsI k z u W)(hT:StI P T)(h:∀W',Sto w W' (B.set j ((g,q),IsI k z)) ->Gr W W' ->K a W')
  (hB:B[j]? =some ((g,q),fP)) (ho:o.op =.store T x y:=by rfl) (hd:o.dst =none:=by rfl) (hx:a.eval x =.pointer (some ⟨g,2 * q,none⟩) :=by kernel_rfl) (hy:a.eval y =u:=by kernel_rfl):Oper.wp P o a W K Q:=by
 obtain⟨s,a1,n,c,rfl,h1⟩ :=hu
 obtain⟨s0,a2,n0,c0,b,_⟩ :=S.at j g q fP hB
 obtain⟨W',hW,S',G⟩ :=S.put j g q fP (IsI k z) hB s a1 n c (IsI.gstb _ _) ⟨_,_,_,_,rfl,h1⟩
 refine st_wp ho hx hy (hT W g (2 * q) _ _ _ _ _ _ _ _ b.c0 b.c1 b.f0 b.f1) ?_
 rw[<-hW,hd]
 exact h W' S' G
theorem stQ{w W:World}{B:List Fld}{a:Act}{K:Act ->World ->Prop}(S:Sto w W B)(j j2 g q:Nat){T:Nat}{x y:Operand}{fP fS P' Q':Value ->World ->Prop}{u:Value}(hu:IsQ P' Q' u W)(g1:GStb P')(g2:GStb Q')(hT:StQ P T)
  (h:∀W',Sto w W' ((B.set j ((g,q),P')).set j2 ((g,q + 1),Q')) ->Gr W W' ->K a W')
  (hB:B[j]? =some ((g,q),fP)) (hB2:B[j2]? =some ((g,q + 1),fS)) (hj:(j ==j2)=false:=by rfl) (ho:o.op =.store T x y:=by rfl) (hd:o.dst =none:=by rfl) (hx:a.eval x =.pointer (some ⟨g,2 * q,none⟩) :=by kernel_rfl) (hy:a.eval y =u:=by kernel_rfl):Oper.wp P o a W K Q:=by
 obtain⟨s,a1,n,c,s',a1',n',c',rfl,h1,h2⟩ :=hu
 have hj:j≠j2:=yk
 obtain⟨s0,a2,n0,c0,b,_⟩ :=S.at j g q fP hB
 obtain⟨s2,a3,n2,c2,b2,_⟩ :=S.at j2 g (q + 1) fS hB2
 obtain⟨W',hW,S',G⟩ :=S.put j g q fP P' hB s a1 n c g1 h1
 obtain⟨W0,hW2,S2,G2⟩ :=S'.put j2 g (q + 1) fS Q' (by rw[List.getElem?_set_ne hj];exact hB2) s' a1' n' c' g2 (g2 _ _ _ G h2)
 refine st_wp ho hx hy (hT W g (2 * q) _ _ _ _ _ _ _ _ _ _ _ _ _ _ _ _ b.c0 b.c1 b.f0 b.f1 b2.c0 b2.c1 b2.f0 b2.f1) ?_
 rw[<-hW,hd]
 have:=h W0 S2 (G.trans G2)
 rw[hW2]at this
 exact this
def AllBox(L:List (Value ->World ->Prop)):List Nat ->Prop
 | [] =>True
 |b ::bs =>IsBox (L.getD b (λ_ _ =>True))/\AllBox L bs
theorem AllBox.get{L:List (Value ->World ->Prop)}:∀ {bs:List Nat},AllBox L bs ->∀i∈bs,IsBox (L.getD i (λ_ _ =>True))
 | [],_,_,h =>by cases h
 | b ::bs,h,i,hi =>by
  rcases List.mem_cons.1 hi with rfl|hi
  ·exact h.1
  ·exact AllBox.get h.2 i hi
theorem rg(n:Nat)(ds:List (Option Tmp))(L:List (Value ->World ->Prop))(boxes:List Nat)(fuel:Nat){id:Nat}
  (hop:RgAll P .any ops Q ds a0 w0 L boxes 0 n ops.toList)
  (hend:∀v w,Ext w0 w ->(∀i,i < n ->L.getD i (λ_ _ =>True) (v i) w) ->(∀i j,i∈boxes ->j∈boxes ->i < n ->j < n ->i≠j ->v i≠v j) ->
   wpAny P .any ops Q fuel (qG ops.size n) (qZ v a0 0 ds) w)
  (hm:P.follows .mixedOrders =true:=by kernel_rfl) (hn:n <=ops.size:=by decide) (hf:ops.size - n =fuel:=by kernel_rfl) (hds:(List.range n).map (qR ops)=ds:=by kernel_rfl) (hap:qO ops n =true:=by kernel_rfl) (htp:xH .any ops n []=true:=by kernel_rfl) (hns:Region.noSelect ops =true:=by kernel_rfl)
  (hst:AllStb L:=by exact AStb.out) (hbx:AllBox L boxes:=by repeat' (first|exact trivial|exact IsBo.box _ _|apply jI)) :
  (Code.region id ops true).wp P Q a0 w0:=qS n ds L boxes fuel hm hn hf hds hap htp hns hst hbx.get hop hend
theorem rgs(n:Nat)(ds:List (Option Tmp))(L:List (Value ->World ->Prop))(boxes:List Nat){id:Nat}
  (hop:RgAll P .any ops Q ds a0 w0 L boxes 0 n ops.toList)
  (hend:∀v w,Ext w0 w ->(∀i,i < n ->L.getD i (λ_ _ =>True) (v i) w) ->(∀i j,i∈boxes ->j∈boxes ->i < n ->j < n ->i≠j ->v i≠v j) ->
   wpList P ops Q (ops.toList.drop n) (qZ v a0 0 ds) w)
  (hn:n <=ops.size:=by decide) (hds:(List.range n).map (qR ops)=ds:=by kernel_rfl) (hap:qO ops n =true:=by kernel_rfl) (htp:backOk ops n =true:=by kernel_rfl)
  (hst:AllStb L:=by exact AStb.out) (hbx:AllBox L boxes:=by repeat' (first|exact trivial|exact IsBo.box _ _|apply jI)) :
  (Code.region id ops false).wp P Q a0 w0:=qI n ds L boxes hn hds hap htp hst hbx.get hop hend
theorem rgt{x0:World}{B:List Fld}(S:Sto x0 w0 B)(n:Nat)(ds:List (Option Tmp))(L:List (Value->World->Prop)){id:Nat}(hop:RgAll P .any ops Q ds a0 w0 L [] 0 n ops.toList)(hend:∀v w,Sto x0 w B->(∀i,i<n->L.getD i (λ_ _=>True) (v i) w)->Q .normal (qZ v a0 0 ds) w)
 (hn:n<=ops.size:=by decide) (hq:ops.toList.drop n=[]:=by rfl) (hds:(List.range n).map (qR ops)=ds:=by kernel_rfl) (hap:qO ops n=true:=by kernel_rfl) (htp:backOk ops n=true:=by kernel_rfl) (hst:AllStb L:=by exact AStb.out):(Code.region id ops false).wp P Q a0 w0:=rgs n ds L [] hop (λv w e h _=>by rw[hq];exact hend v w (S.mono e) h) hn hds hap htp hst
theorem rgO(n:Nat)(opt:List Nat)(ds:List (Option Tmp))(L:List (Value ->World ->Prop))(boxes:List Nat)(fuel:Nat){id:Nat}
  (hY:∀i∈opt,∀(v:Nat ->Value) (w:World),Ext w0 w ->(∀j,(ups .any ops i).contains j =true ->L.getD j (λ_ _ =>True) (v j) w) ->∃x o,ops[i]? =some o/\Yields P ops o x (qZ v a0 0 ds)/\L.getD i (λ_ _ =>True) x w)
  (hop:RgAll P .any ops (NoPanic Q) ds a0 w0 L boxes 0 n ops.toList)
  (hend:∀v w,Ext w0 w ->(∀i,i < n ->L.getD i (λ_ _ =>True) (v i) w) ->(∀i j,i∈boxes ->j∈boxes ->i < n ->j < n ->i≠j ->v i≠v j) ->
   wpAny P .any ops (NoPanic Q) fuel (qG ops.size n) (qZ v a0 0 ds) w)
  (hm:P.follows .mixedOrders =true:=by kernel_rfl) (hn:n <=ops.size:=by decide) (hf:ops.size - n =fuel:=by kernel_rfl) (hds:(List.range n).map (qR ops)=ds:=by kernel_rfl) (hap:qO ops n =true:=by kernel_rfl) (htp:xH .any ops n opt =true:=by kernel_rfl) (hoo:optOk .any ops n opt =true:=by kernel_rfl) (hob:opt.all (λi => !boxes.contains i)=true:=by kernel_rfl)
  (hst:AllStb L:=by exact AStb.out) (hbx:AllBox L boxes:=by repeat' (first|exact trivial|exact IsBo.box _ _|apply jI)) :
  (Code.region id ops true).wp P Q a0 w0:=wp_region_rgO n opt ds L boxes fuel hm hn hf hds hap htp hoo hob hst hbx.get hY hop hend
theorem stA{fuel:Nat}{listed:Array Bool}{a:Act}{w:World}(j:Nat)(ho:ops[j]? =some o:=by rfl)(h:∀K:Act ->World ->Prop,(∀a w,wpAny P .any ops Q fuel (listed.setIfInBounds j true) a w ->K a w) ->Oper.wp P o a w K Q)
  (hr:Region.ready .any ops listed = [j] :=by kernel_rfl) (hg:o.guard =none:=by rfl):wpAny P .any ops Q (fuel + 1) listed a w:=
 wpAny_ready (rs:= [j]) hr zd (AllReady.cons ho (λK hK =>by rw[if_pos (by simp[Region.wanted,hg])];exact h K hK) AllReady.nil)
theorem stL{a:Act}{w:World}(h:∀K:Act ->World ->Prop,(∀a w,wpList P ops Q os a w ->K a w) ->Oper.wp P o a w K Q)(hg:o.guard =none:=by rfl):wpList P ops Q (o ::os) a w:=wpList_plain hg h
end
/-! ### This program's types -/
set_option maxRecDepth 100000
theorem en1{k:Nat}{z:Int}{x:Value}{w:World}(h:IsI k z x w):∃s a n c W,x=.agg #[.bool s,.slice a n c]/\W=w.alloc (.cells #[.bool s,.slice a n c] 33)/\Sto w W [((w.heap.size,0),IsI k z)]:=by
 obtain⟨s1,a1,n1,c1,rfl,h1⟩:=h;exact⟨s1,a1,n1,c1,_,rfl,rfl,((Sto.start w).new1 (w.heap.size) zd s1 a1 n1 c1 33 (IsI k z) (IsI.gstb _ _) ⟨_,_,_,_,rfl,h1⟩)⟩
theorem en2{k l:Nat}{z y:Int}{x u:Value}{w:World}(h:IsI k z x w)(g:IsI l y u w):∃s a n c t b m d W,x=.agg #[.bool s,.slice a n c]/\u=.agg #[.bool t,.slice b m d]/\W=(w.alloc (.cells #[.bool s,.slice a n c] 33)).alloc (.cells #[.bool t,.slice b m d] 33)/\Sto w W [((w.heap.size+1,0),IsI l y),((w.heap.size,0),IsI k z)]:=by
 obtain⟨s1,a1,n1,c1,rfl,h1⟩:=h;obtain⟨s2,a2,n2,c2,rfl,h2⟩:=g;have h2:IsI l y _ w:=⟨_,_,_,_,rfl,h2⟩;exact⟨s1,a1,n1,c1,s2,a2,n2,c2,_,rfl,rfl,rfl,(((Sto.start w).new1 (w.heap.size) zd s1 a1 n1 c1 33 (IsI k z) (IsI.gstb _ _) ⟨_,_,_,_,rfl,h1⟩).new1 (w.heap.size+1) zd s2 a2 n2 c2 33 (IsI l y) (IsI.gstb _ _) (h2.ext ((Ext.refl _).alloc _)))⟩
theorem qE:LdI prog 28:=λw b f s a n c h0 h1 =>by go_simp
theorem ld_Rat:LdQ prog 45:=λw b f s a n c s' a' n' c' h0 h1 h2 h3 =>by go_simp
theorem st_Int:StI prog 28:=λw b f s0 a0 n0 c0 s a n c h0 h1 f0 f1 =>by go_simp
theorem st_Rat:StQ prog 45:=λw b f s0 a0 n0 c0 s1 a1 n1 c1 s a n c s' a' n' c' h0 h1 f0 f1 h2 h3 f2 f3 =>by go_simp
theorem bd_Rat:BdQ prog 45:=λw s a n c s' a' n' c' =>by go_simp
theorem al_Int:AlO prog 28 1:=λw0 w h =>⟨_,by go_simp,(Ext.refl _).alloc _,IsBo.new1 w0 w 28 h⟩
theorem al_Rat:AlO prog 45 2:=λw0 w h =>⟨_,by go_simp,(Ext.refl _).alloc _,IsBo.new2 w0 w 45 h⟩
theorem fa_Rat0(g f:Nat)(w:World):(Instr.fieldAt 45 (.pointer (some ⟨g,f,none⟩)) 0).run prog w =.ok (.pointer (some ⟨g,f,none⟩)) w:=by go_simp
theorem fa_Rat1(g f:Nat)(w:World):(Instr.fieldAt 45 (.pointer (some ⟨g,f,none⟩)) 1).run prog w =.ok (.pointer (some ⟨g,f + 2,none⟩)) w:=by go_simp
theorem fa_Iv0(g f:Nat)(w:World):(Instr.fieldAt 47 (.pointer (some ⟨g,f,none⟩)) 0).run prog w =.ok (.pointer (some ⟨g,f,none⟩)) w:=by go_simp
theorem fa_Iv1(g f:Nat)(w:World):(Instr.fieldAt 47 (.pointer (some ⟨g,f,none⟩)) 1).run prog w =.ok (.pointer (some ⟨g,f + 4,none⟩)) w:=by go_simp
theorem en{f:FuncId}{fn:Func}{c:Code}(hf:prog.funcs[f]? =some fn)(hn:(fn.name == "runtime.NumGoroutine")=false:=by kernel_rfl)(hb:fn.body =some c:=by rfl):∀args w,(callFunc f args).run prog w =.ok (.enter f args) w:=enters_of hf hn hb
end
section
open Go Go.RowKit
def Shp(w w':World):Prop:=∀g i,(∃s a n c,Bo w g i s a n c) ->∃s a n c,Bo w' g i s a n c
theorem Shp.of{w w':World}(e:Ext w w'):Shp w w':=λ_ _ ⟨s,a,n,c,h⟩ =>⟨s,a,n,c,h.ext e⟩
def Gst(fP:Value ->World ->Prop):Prop:=∀x w w',Gr w w' ->Shp w w' ->fP x w ->fP x w'
theorem Gst.of{fP:Value ->World ->Prop}(h:GStb fP):Gst fP:=λ_ _ _ g _ k =>h _ _ _ g k
theorem Gst.v(u:Value):Gst (IsV u) :=λ_ _ _ _ _ k =>k
theorem Gst.t2{fP fS:Value ->World ->Prop}(h:Gst fP)(k:Gst fS):Gst (IsT2 fP fS) :=λ_ _ _ g s ⟨a,b,h1,h2,h3⟩ =>⟨a,b,h1,h _ _ _ g s h2,k _ _ _ g s h3⟩
theorem Gst.t3{fP fS fQ:Value ->World ->Prop}(h:Gst fP)(k:Gst fS)(l:Gst fQ):Gst (IsT3 fP fS fQ) :=λ_ _ _ g s ⟨a,b,c,h1,h2,h3,h4⟩ =>⟨a,b,c,h1,h _ _ _ g s h2,k _ _ _ g s h3,l _ _ _ g s h4⟩
theorem Gst.q{fP fS:Value ->World ->Prop}(h:Gst fP)(k:Gst fS):Gst (IsQ fP fS) :=λ_ _ _ g sh ⟨s,a,n,c,s',a',n',c',h1,h2,h3⟩ =>⟨s,a,n,c,s',a',n',c',h1,h _ _ _ g sh h2,k _ _ _ g sh h3⟩
theorem Gst.j{fP fS fQ fT:Value ->World ->Prop}(h:Gst fP)(k:Gst fS)(l:Gst fQ)(m:Gst fT):Gst (IsJ fP fS fQ fT) :=λ_ _ _ g sh ⟨s,a,n,c,s',a',n',c',s2,a2,n2,c2,s3,a3,n3,c3,h1,h2,h3,h4,h5⟩ =>⟨s,a,n,c,s',a',n',c',s2,a2,n2,c2,s3,a3,n3,c3,h1,h _ _ _ g sh h2,k _ _ _ g sh h3,l _ _ _ g sh h4,m _ _ _ g sh h5⟩
theorem Gst.tt:Gst (λ_ _ =>True) :=λ_ _ _ _ _ _ =>trivial
theorem gs0:∀fP∈ ([]:List (Value ->World ->Prop)),GStb fP:=λ_ h =>by cases h
theorem gs1{fP:Value ->World ->Prop}{l:List (Value ->World ->Prop)}(h:GStb fP)(k:∀fS∈l,GStb fS):∀fS∈fP ::l,GStb fS:=λfS hm =>by
 rcases List.mem_cons.1 hm with rfl|hm
 ·exact h
 ·exact k fS hm
inductive AllGst:List (Value ->World ->Prop) ->Prop
 |nil:AllGst []
 |cons {p:Value ->World ->Prop} {ps:List (Value ->World ->Prop)}:Gst p ->AllGst ps ->AllGst (p ::ps)
theorem AllGst.get{L:List (Value ->World ->Prop)}(h:AllGst L):∀i,Gst (L.getD i (λ_ _ =>True)) :=by
 induction h with
 |nil =>intro i _ _ _ _ _ _;simp
 | cons h _ ih =>
  intro i
  cases i with
  |zero =>simpa using h
  |succ i =>simpa using ih i
def IsNw(w0:World)(m:Nat):Value ->World ->Prop:=λx w =>∃g,x =.pointer (some ⟨g,0,none⟩)/\w0.heap.size <=g/\g < w.heap.size/\∀i,i < m ->∃s a n c,Bo w g i s a n c
theorem IsNw.gs(w0:World)(m:Nat):Gst (IsNw w0 m) :=λ_ _ _ g s ⟨b,h1,h2,h3,h4⟩ =>⟨b,h1,h2,Nat.lt_of_lt_of_le h3 g.1,λi hi =>s b i (h4 i hi)⟩
theorem IsBo.nw{w0:World}{m:Nat}{x:Value}{w:World}(h:IsBo w0 m x w):IsNw w0 m x w:=let ⟨g,h1,h2,h3,h4⟩ :=h;⟨g,h1,h2,h4,λi hi =>⟨_,_,_,_,h3 i hi⟩⟩
def Stored(x:Value)(Fs:List (Value ->World ->Prop))(w:World):Prop:=∃g,x =.pointer (some ⟨g,0,none⟩)/\∀k fP,Fs[k]? =some fP ->∃s a n c,Bo w g k s a n c/\fP (.agg #[.bool s,.slice a n c]) w
structure Into (x:Value) (w w':World):Prop where
 gr:Gr w w'
 oth:∀g i s a n c,x≠ .pointer (some ⟨g,0,none⟩) ->Bo w g i s a n c ->Bo w' g i s a n c
 ext:∀w1:World,Ext w1 w ->(∀g,x =.pointer (some ⟨g,0,none⟩) ->w1.heap.size <=g) ->Ext w1 w'
 shp:Shp w w'
theorem Stored.ext{x:Value}{Fs:List (Value ->World ->Prop)}(hs:∀fP∈Fs,GStb fP){w w':World}(h:Stored x Fs w)(e:Ext w w'):Stored x Fs w':=
 let ⟨g,h1,h2⟩ :=h;⟨g,h1,λk fP hk =>let ⟨s,a,n,c,h3,h4⟩ :=h2 k fP hk;⟨s,a,n,c,h3.ext e,hs fP (List.mem_of_getElem? hk) _ _ _ e.gr h4⟩⟩
theorem Stored.into{x y:Value}{Fs:List (Value ->World ->Prop)}(hs:∀fP∈Fs,GStb fP){w w':World}(h:Stored x Fs w)(e:Into y w w')(hne:y≠x):Stored x Fs w':=
 let ⟨g,h1,h2⟩ :=h;⟨g,h1,λk fP hk =>let ⟨s,a,n,c,h3,h4⟩ :=h2 k fP hk;⟨s,a,n,c,e.oth _ _ _ _ _ _ (by rw[<-h1];exact hne) h3,hs fP (List.mem_of_getElem? hk) _ _ _ e.gr h4⟩⟩
section
variable {P:Program} {ops:Array Oper} {Q:Exit ->Act ->World ->Prop}
abbrev Tg:=Option (Nat×List (Value ->World ->Prop))
structure RgS (P:Program) (ops:Array Oper) (Q:Exit ->Act ->World ->Prop) (ds:List (Option Tmp)) (a0:Act) (w0:World) (L:List (Value ->World ->Prop)) (i:Nat) (o:Oper) (j:Nat) (Fs:List (Value ->World ->Prop)):Prop where
 out:∀(v:Nat ->Value) (w:World),Ext w0 w ->(∀j,(ups .any ops i).contains j =true ->L.getD j (λ_ _ =>True) (v j) w) ->
  ∀K:Act ->World ->Prop,Shut (∀w',Into (v j) w w' ->Stored (v j) Fs w' ->K (qZ v a0 0 ds) w') ->Oper.wp P o (qZ v a0 0 ds) w K Q
inductive RgAllN (P:Program) (ops:Array Oper) (Q:Exit ->Act ->World ->Prop) (ds:List (Option Tmp)) (a0:Act) (w0:World) (L:List (Value ->World ->Prop)) (boxes:List Nat) (tg:List Tg):Nat ->Nat ->List Oper ->Prop
 |nil {i:Nat} {os:List Oper}:RgAllN P ops Q ds a0 w0 L boxes tg i 0 os
 |op {i k:Nat} {o:Oper} {os:List Oper}:tg.getD i none =none ->RgL P .any ops Q ds a0 w0 L boxes i o ->RgAllN P ops Q ds a0 w0 L boxes tg (i + 1) k os ->RgAllN P ops Q ds a0 w0 L boxes tg i (k + 1) (o ::os)
 |st {i k j:Nat} {Fs:List (Value ->World ->Prop)} {o:Oper} {os:List Oper}:tg.getD i none =some (j,Fs) ->o.dst =none ->o.guard =none ->RgS P ops Q ds a0 w0 L i o j Fs ->RgAllN P ops Q ds a0 w0 L boxes tg (i + 1) k os ->RgAllN P ops Q ds a0 w0 L boxes tg i (k + 1) (o ::os)
variable {ds:List (Option Tmp)} {a0:Act} {w0:World} {L:List (Value ->World ->Prop)} {boxes:List Nat} {tg:List Tg} {i:Nat} {o:Oper}
theorem RgAllN.get{k i:Nat}{os:List Oper}(h:RgAllN P ops Q ds a0 w0 L boxes tg i k os):∀j,j < k ->∀o,os[j]? =some o ->
  (match tg.getD (i + j) none with|none =>RgL P .any ops Q ds a0 w0 L boxes (i + j) o|some (t,Fs) =>o.dst =none/\o.guard =none/\RgS P ops Q ds a0 w0 L (i + j) o t Fs) :=by
 induction h with
 |nil =>intro j hj;omega
 | op ht h _ ih =>
  intro j hj o ho
  cases j with
  | zero =>
   obtain rfl:=jt
   simp only[Nat.add_zero]
   rw[ht];exact h
  | succ j =>
   have:=ih j zb o jt
   rwa [Nat.add_assoc,Nat.add_comm 1 j]at this
 | st ht hd hg h _ ih =>
  intro j hj o ho
  cases j with
  | zero =>
   obtain rfl:=jt
   simp only[Nat.add_zero]
   rw[ht];exact⟨hd,hg,h⟩
  | succ j =>
   have:=ih j zb o jt
   rwa [Nat.add_assoc,Nat.add_comm 1 j]at this
theorem rgn_main(n:Nat)(hn:n <=ops.size)(hds:(List.range n).map (qR ops)=ds)(hap:qO ops n =true)(htp:xH .any ops n []=true)
  (hst:AllGst L) (hbx:∀i∈boxes,∃m,L.getD i (λ_ _ =>True)=IsNw w0 m)
  (htg:∀i,i < n ->∀j Fs,tg.getD i none =some (j,Fs) ->(ups .any ops i).contains j =true/\boxes.contains j =true/\j < n/\ (∀fP∈Fs,GStb fP)/\∀i2,i2 < n ->i≠i2 ->∀j2 F2,tg.getD i2 none =some (j2,F2) ->j≠j2)
  (hop:RgAllN P ops Q ds a0 w0 L boxes tg 0 n ops.toList)
  (hend:∀v w,Ext w0 w ->(∀i,i < n ->tg.getD i none =none ->L.getD i (λ_ _ =>True) (v i) w) ->(∀i,i < n ->∀j Fs,tg.getD i none =some (j,Fs) ->Stored (v j) Fs w) ->
   (∀i j,i∈boxes ->j∈boxes ->i < n ->j < n ->i≠j ->tg.getD i none =none ->tg.getD j none =none ->v i≠v j) ->wpAny P .any ops Q (ops.size - n) (qG ops.size n) (qZ v a0 0 ds) w) :
  ∀ (fuel:Nat) (listed:Array Bool) (v:Nat ->Value) (w:World),listed.size =ops.size ->(∀j,n <=j ->listed.getD j false =false) ->
   fuel + xA listed n =ops.size ->(∀i,listed.getD i false =true ->∀e∈qT .any ops i,listed.getD e false =true) ->Ext w0 w ->
   (∀i,i < n ->listed.getD i false =true ->tg.getD i none =none ->L.getD i (λ_ _ =>True) (v i) w) ->
   (∀i,i < n ->listed.getD i false =true ->∀j Fs,tg.getD i none =some (j,Fs) ->Stored (v j) Fs w) ->
   (∀i j,i < n ->j < n ->i≠j ->boxes.contains i =true ->boxes.contains j =true ->tg.getD i none =none ->tg.getD j none =none ->listed.getD i false =true ->listed.getD j false =true ->v i≠v j) ->
   (∀i,i < n ->∀j Fs,tg.getD i none =some (j,Fs) ->tg.getD j none =none) ->(∀i,i < n ->tg.getD i none≠none ->∀x w,L.getD i (λ_ _ =>True) x w) ->
   wpAny P .any ops Q fuel listed (qY ops v a0 n) w:=by
 simp only[xH,Bool.and_eq_true,List.all_eq_true,List.mem_range,Bool.or_eq_true,jQ]at htp
 obtain⟨htp1,htp2⟩ :=htp
 intro fuel
 induction fuel with
 | zero =>
  intro listed v w hsz hbig hcnt hcl hE hZ hS hdis hj0 htr
  have hle:xA listed n <=n:=by
   have:=List.countP_le_length (p:=λi =>listed.getD i false) (l:=List.range n)
   simpa [xA]using this
  have hnn:n =ops.size:=zb
  have hall:∀i,i < n ->listed.getD i false =true:=λi hi =>by
   cases h:listed.getD i false
   ·have:=doneN_lt hi h;omega
   ·rfl
  have hl:listed =qG ops.size n:=by
   apply Array.ext (by simp[qG,hsz])
   intro i h1 h2
   have h3:listed[i]=listed.getD i false:=by simp[h1]
   rw[h3,hall i (by omega)];simp[qG];omega
  have:=hend v w hE (λi hi ht =>hZ i hi (hall i hi) ht) (λi hi =>hS i hi (hall i hi)) (λi j hbi hbj hi hj hij ti tj =>hdis i j hi hj hij (List.contains_iff_mem.2 hbi) (List.contains_iff_mem.2 hbj) ti tj (hall i hi) (hall j hj))
  rw[xB v a0 n ds hds,hl]
  rwa [show ops.size - n =0 by omega]at this
 | succ fuel ih =>
  intro listed v w hsz hbig hcnt hcl hE hZ hS hdis hj0 htr
  by_cases hall:∃i,i < n/\ (!listed.getD i false)=true
  ·obtain⟨i1,hi1,h1⟩ :=hall
   have hu1:listed.getD i1 false =false:=by simpa using h1
   obtain⟨i0,hi0,h0,hmin⟩ :=exists_least (λi => !listed.getD i false) n ⟨i1,hi1,by rw[hu1];rfl⟩
   have hi0s:i0 < listed.size:=zb
   have hr0:i0∈Region.ready .any ops listed:=xI (by simpa [hi0s]using h0) zb (λe he =>by
    have:=hmin e (by simpa using htp2 i0 hi0 e he)
    simpa using this)
   refine⟨λh =>(by rw[h]at hr0;cases hr0),λi hi =>?_⟩
   have hin:i < n:=by
    rcases jN i n with h|h
    ·exact h
    ·exfalso
     obtain⟨_,o,ho,_⟩ :=mem_ready.1 hi
     have his:i < ops.size:=(Array.getElem?_eq_some_iff.1 ho).1
     rcases(htp1 i his).resolve_left zb i1 hi1 with h2|h2
     ·have h3:=qN hcl i (qT .any ops i) (qM hi) i1 (List.contains_iff_mem.1 h2)
      rw[hu1]at h3;cases h3
     ·simp at h2
   obtain⟨hun,o,ho,_⟩ :=mem_ready.1 hi
   have hil:i < listed.size:=zb
   have hunf:listed.getD i false =false:=by simp[hil]at hun ⊢;exact hun
   have hdeps:∀j,(ups .any ops i).contains j =true ->L.getD j (λ_ _ =>True) (v j) w:=λj hj =>by
    have hjl:=qN hcl i (qT .any ops i) (qM hi) j (List.contains_iff_mem.1 hj)
    have hjn:j < n:=by
     rcases jN j n with h|h
     ·exact h
     ·rw[hbig j h]at hjl;cases hjl
    by_cases ht:tg.getD j none =none
    ·exact hZ j hjn hjl ht
    ·exact htr j hjn ht _ _
   have hthis:=RgAllN.get hop i hin o jt
   rw[Nat.zero_add]at hthis
   refine wpOp_step ho λK hK =>?_
   have hdst:o.dst =qR ops i:=by simp[qR,ho]
   cases htgi:tg.getD i none with
   | none =>
    rw[htgi]at hthis
    have hrun:=hthis v w hE hdeps K
    rw[<-xB v a0 n ds hds]at hrun
    refine hrun ?_
    intro x w' e1 hx hbx'
    refine hK _ _ ?_
    rw[hdst,layN_put a0 v i x n hin (λj k hj hk hjk =>xN hap hj hk hjk)]
    refine ih _ _ _ (by simp[hsz]) (λj hj =>?_) ?_ (λj hj e he =>?_) (hE.trans e1) (λj hj hlj ht =>?_) (λk hk hlk j Fs ht =>?_) (λj k hj hk hjk hbj hbk htj htk hlj hlk =>?_) hj0 htr
    ·rw[getD_set_ne false (by omega)];exact hbig j hj
    ·rw[doneN_set _ _ hun,if_pos hin];omega
    ·by_cases hij:i =j
     ·subst hij
      exact getD_set_true (qM hi e he)
     ·rw[getD_set_ne false hij]at hj
      exact getD_set_true (hcl j hj e he)
    ·by_cases hij:j =i
     ·subst hij;simpa only[jB,if_true]using hx
     ·rw[getD_set_ne false (Ne.symm hij)]at hlj
      simp only[jB];rw[if_neg hij]
      exact hst.get j _ _ _ e1.gr (Shp.of e1) (hZ j hj hlj ht)
    ·have hki:k≠i:=λh =>by rw[h,htgi]at ht;cases ht
     rw[getD_set_ne false (Ne.symm hki)]at hlk
     have hji:j≠i:=λh =>by
      have h1:=(htg k hk j Fs ht).1
      have h2:=qN hcl k (qT .any ops k) (λe he =>hcl k hlk e he) j (List.contains_iff_mem.1 h1)
      rw[h,hunf]at h2;cases h2
     simp only[jB];rw[if_neg hji]
     exact(hS k hk hlk j Fs ht).ext (htg k hk j Fs ht).2.2.2.1 e1
    ·simp only[jB]
     by_cases hji:j =i
     ·subst hji
      rw[if_pos rfl,if_neg (Ne.symm hjk)]
      rw[getD_set_ne false hjk]at hlk
      obtain⟨m,hm⟩ :=hbx k (List.contains_iff_mem.1 hbk)
      have hk2:=hZ k hk hlk htk
      rw[hm]at hk2
      obtain⟨g,hg,_,hlt,_⟩ :=hk2
      obtain⟨g',hg',hge⟩ :=hbx' hbj
      rw[hg,hg']
      intro h;injection h with h;injection h with h;injection h with h;omega
     ·rw[if_neg hji]
      rw[getD_set_ne false (Ne.symm hji)]at hlj
      by_cases hki:k =i
      ·subst hki
       rw[if_pos rfl]
       obtain⟨m,hm⟩ :=hbx j (List.contains_iff_mem.1 hbj)
       have hj2:=hZ j hj hlj htj
       rw[hm]at hj2
       obtain⟨g,hg,_,hlt,_⟩ :=hj2
       obtain⟨g',hg',hge⟩ :=hbx' hbk
       rw[hg,hg']
       intro h;injection h with h;injection h with h;injection h with h;omega
      ·rw[if_neg hki]
       rw[getD_set_ne false (Ne.symm hki)]at hlk
       exact hdis j k hj hk hjk hbj hbk htj htk hlj hlk
   | some jF =>
    obtain⟨t,Fs⟩ :=jF
    rw[htgi]at hthis
    obtain⟨hd0,hg0,hthis⟩ :=hthis
    obtain⟨hut,hbt,htn,hgF,hsep⟩ :=htg i hin t Fs htgi
    have hrun:=hthis.out v w hE hdeps K
    rw[<-xB v a0 n ds hds]at hrun
    rw[if_pos (by simp[Region.wanted,hg0])]
    refine hrun ?_
    intro w' hin' hst'
    refine hK _ _ ?_
    have hnt:=hdeps t hut
    obtain⟨m,hm⟩ :=hbx t (List.contains_iff_mem.1 hbt)
    rw[hm]at hnt
    obtain⟨gt,hgt,hgt0,_,_⟩ :=hnt
    have htl:=qN hcl i (qT .any ops i) (qM hi) t (List.contains_iff_mem.1 hut)
    refine ih _ _ _ (by simp[hsz]) (λj hj =>?_) ?_ (λj hj e he =>?_) (hin'.ext w0 hE (λg hg =>by rw[hgt]at hg;injection hg with hg;injection hg with hg;injection hg with hg;omega)) (λj hj hlj ht =>?_) (λk hk hlk j F2 ht =>?_) (λj k hj hk hjk hbj hbk htj htk hlj hlk =>?_) hj0 htr
    ·rw[getD_set_ne false (by omega)];exact hbig j hj
    ·rw[doneN_set _ _ hun,if_pos hin];omega
    ·by_cases hij:i =j
     ·subst hij
      exact getD_set_true (qM hi e he)
     ·rw[getD_set_ne false hij]at hj
      exact getD_set_true (hcl j hj e he)
    ·have hij:j≠i:=λh =>by rw[h,htgi]at ht;cases ht
     rw[getD_set_ne false (Ne.symm hij)]at hlj
     exact hst.get j _ _ _ hin'.gr hin'.shp (hZ j hj hlj ht)
    ·by_cases hki:k =i
     ·subst hki
      rw[htgi]at ht
      injection ht with ht
      injection ht with h1 h2
      subst h1;subst h2
      exact hst'
     ·rw[getD_set_ne false (Ne.symm hki)]at hlk
      have hjt:t≠j:=hsep k hk (λh =>hki h.symm) j F2 ht
      obtain⟨huj,hbj,hjn,hgF2,_⟩ :=htg k hk j F2 ht
      have hjl:=qN hcl k (qT .any ops k) (λe he =>hcl k hlk e he) j (List.contains_iff_mem.1 huj)
      exact(hS k hk hlk j F2 ht).into hgF2 hin' (hdis t j htn hjn hjt hbt hbj (hj0 i hin t Fs htgi) (hj0 k hk j F2 ht) htl hjl)
    ·by_cases hji:j =i
     ·rw[hji,htgi]at htj;cases htj
     by_cases hki:k =i
     ·rw[hki,htgi]at htk;cases htk
     rw[getD_set_ne false (Ne.symm hji)]at hlj
     rw[getD_set_ne false (Ne.symm hki)]at hlk
     exact hdis j k hj hk hjk hbj hbk htj htk hlj hlk
  ·have hall':∀i,i < n ->listed.getD i false =true:=λi hi =>by
    cases h:listed.getD i false
    ·exact absurd ⟨i,hi,by rw[h];rfl⟩ hall
    ·rfl
   have hl:listed =qG ops.size n:=by
    apply Array.ext (by simp[qG,hsz])
    intro i h1 h2
    have h3:listed[i]=listed.getD i false:=by simp[h1]
    rw[h3]
    rcases jN i n with h|h
    ·rw[hall' i h];simp[qG,h]
    ·rw[hbig i h];simp[qG];omega
   have:=hend v w hE (λi hi ht =>hZ i hi (hall' i hi) ht) (λi hi =>hS i hi (hall' i hi)) (λi j hbi hbj hi hj hij ti tj =>hdis i j hi hj hij (List.contains_iff_mem.2 hbi) (List.contains_iff_mem.2 hbj) ti tj (hall' i hi) (hall' j hj))
   rw[xB v a0 n ds hds,hl]
   have hdn:=doneN_all n hall'
   rwa [show ops.size - n =fuel + 1 by omega]at this
/-! The rule,its side conditions found by themselves. -/
def AllNw(w0:World)(L:List (Value ->World ->Prop)):List Nat ->Prop
 | [] =>True
 |b ::bs =>(∃m,L.getD b (λ_ _ =>True)=IsNw w0 m)/\AllNw w0 L bs
theorem AllNw.get{L:List (Value ->World ->Prop)}:∀ {bs:List Nat},AllNw w0 L bs ->∀i∈bs,∃m,L.getD i (λ_ _ =>True)=IsNw w0 m
 | [],_,_,h =>by cases h
 | b ::bs,h,i,hi =>by
  rcases List.mem_cons.1 hi with rfl|hi
  ·exact h.1
  ·exact AllNw.get h.2 i hi
abbrev TT:Value ->World ->Prop:=λ_ _ =>True
inductive AllTr:List Tg ->List (Value ->World ->Prop) ->Prop
 |nil {ls:List (Value ->World ->Prop)}:AllTr [] ls
 |none {ts:List Tg} {l:Value ->World ->Prop} {ls:List (Value ->World ->Prop)}:AllTr ts ls ->AllTr (Option.none ::ts) (l ::ls)
 |some {ts:List Tg} {ls:List (Value ->World ->Prop)} {j:Nat} {Fs:List (Value ->World ->Prop)}:(∀fP∈Fs,GStb fP) ->AllTr ts ls ->AllTr (Option.some (j,Fs) ::ts) (TT ::ls)
theorem AllTr.get{tg:List Tg}{L:List (Value ->World ->Prop)}(h:AllTr tg L):∀i j Fs,tg.getD i Option.none =Option.some (j,Fs) ->i < L.length ->L.getD i (λ_ _ =>True)=TT/\∀fP∈Fs,GStb fP:=by
 induction h with
 |nil =>intro i j Fs h _;simp at h
 | none _ ih =>
  intro i j Fs h hi
  cases i with
  |zero =>simp at h
  |succ i =>simpa using ih i j Fs yj (by simpa using hi)
 | some hF _ ih =>
  intro i j Fs h hi
  cases i with
  | zero =>
   simp only[List.getD_cons_zero,Option.some.injEq,Prod.mk.injEq]at h
   obtain⟨rfl,rfl⟩ :=h
   exact⟨rfl,hF⟩
  |succ i =>simpa using ih i j Fs yj (by simpa using hi)
def tgFine(ops:Array Oper)(n:Nat)(boxes:List Nat)(tg:List (Option Nat)):Bool:=
 (List.range n).all λi =>match tg.getD i none with
  |none =>true
  |some j =>(ups .any ops i).contains j && boxes.contains j && decide (j < n) && (tg.getD j none ==none) && (List.range n).all λi2 =>i ==i2 || tg.getD i2 none !=some j
theorem rgn(n:Nat)(ds:List (Option Tmp))(L:List (Value ->World ->Prop))(boxes:List Nat)(tg:List Tg)(tn:List (Option Nat))(fuel:Nat){id:Nat}
  (hop:RgAllN P ops Q ds a0 w0 L boxes tg 0 n ops.toList)
  (hend:∀v w,Ext w0 w ->(∀i,i < n ->tg.getD i none =none ->L.getD i (λ_ _ =>True) (v i) w) ->(∀i,i < n ->∀j Fs,tg.getD i none =some (j,Fs) ->Stored (v j) Fs w) ->
   (∀i j,i∈boxes ->j∈boxes ->i < n ->j < n ->i≠j ->tg.getD i none =none ->tg.getD j none =none ->v i≠v j) ->wpAny P .any ops Q fuel (qG ops.size n) (qZ v a0 0 ds) w)
  (hm:P.follows .mixedOrders =true:=by kernel_rfl) (hn:n <=ops.size:=by decide) (hf:ops.size - n =fuel:=by kernel_rfl) (hds:(List.range n).map (qR ops)=ds:=by kernel_rfl) (hap:qO ops n =true:=by kernel_rfl) (htp:xH .any ops n []=true:=by kernel_rfl)
  (htn:tg.map (λt =>t.map (λp =>p.1))=tn:=by kernel_rfl) (hfine:tgFine ops n boxes tn =true:=by kernel_rfl) (hlen:decide (n <=L.length)=true:=by kernel_rfl)
  (hst:AllGst L:=by repeat' (with_reducible first|exact AllGst.nil|apply AllGst.cons|exact Gst.v _|exact Gst.tt|exact Gst.of (IsI.gstb _ _)|exact IsNw.gs _ _|exact Gst.of (IsR.gstb _ _)|apply Gst.q|apply Gst.j|apply Gst.t2|apply Gst.t3))
  (hbx:AllNw w0 L boxes:=by repeat' (first|exact trivial|exact⟨_,rfl⟩|apply jI))
  (htr:AllTr tg L:=by repeat' (with_reducible first|exact AllTr.nil|apply AllTr.none| (refine AllTr.some ?_ ?_)|exact gs0| (refine gs1 ?_ ?_)|exact IsI.gstb _ _|exact IsR.gstb _ _)) :
  (Code.region id ops true).wp P Q a0 w0:=by
 have hg:∀i,tn.getD i none =(tg.getD i none).map (λp =>p.1) :=λi =>by
  rw[<-htn]
  simp only[List.getD_eq_getElem?_getD,List.getElem?_map]
  cases tg[i]? <;> rfl
 simp only[tgFine,List.all_eq_true,List.mem_range]at hfine
 have hfin:∀i,i < n ->∀j Fs,tg.getD i none =some (j,Fs) ->(ups .any ops i).contains j =true/\boxes.contains j =true/\j < n/\tg.getD j none =none/\∀i2,i2 < n ->i≠i2 ->∀j2 F2,tg.getD i2 none =some (j2,F2) ->j≠j2:=λi hi j Fs ht =>by
  have:=hfine i hi
  rw[hg i,ht]at this
  simp only[Option.map_some,Bool.and_eq_true,jQ,List.all_eq_true,List.mem_range,Bool.or_eq_true,beq_iff_eq,bne_iff_ne,ne_eq]at this
  obtain⟨⟨⟨⟨h1,h2⟩,h3⟩,h4⟩,h5⟩ :=this
  refine⟨h1,h2,h3,?_,λi2 hi2 hne j2 F2 ht2 he =>?_⟩
  ·rw[hg j]at h4
   cases h:tg.getD j none with
   |none =>rfl
   |some p =>rw[h]at h4;simp at h4
  ·rcases h5 i2 hi2 with h|h
   ·exact hne h
   ·rw[hg i2,ht2]at h;exact h (by rw[he];rfl)
 have htr':∀i,i < n ->∀j Fs,tg.getD i none =some (j,Fs) ->L.getD i (λ_ _ =>True)=TT/\∀fP∈Fs,GStb fP:=λi hi j Fs ht =>htr.get i j Fs ht (by have:=of_decide_eq_true hlen;omega)
 refine wp_region_any hm ?_
 have hE:Ext w0 w0.drew:=(Ext.refl w0).drew
 have hD:∀m,xA (Array.replicate ops.size false) m =0:=λm =>by
  unfold xA
  rw[List.countP_eq_zero.2]
  intro i _
  simp[qH]
 have:=rgn_main (P:=P) (Q:=Q) (a0:=a0) (w0:=w0) (tg:=tg) (L:=L) (boxes:=boxes) n hn hds hap htp hst hbx.get
  (λi hi j Fs ht =>⟨(hfin i hi j Fs ht).1,(hfin i hi j Fs ht).2.1,(hfin i hi j Fs ht).2.2.1,(htr' i hi j Fs ht).2,(hfin i hi j Fs ht).2.2.2.2⟩)
  hop (λv w e h1 h2 h3 =>by rw[hf];exact hend v w e h1 h2 h3)
  ops.size (Array.replicate ops.size false) (xS ops a0) w0.drew zd (λj _ =>by simp[qH]) (by rw[hD];rfl)
  (λi hi =>by simp[qH]at hi) hE (λi hi h =>by simp[qH]at h) (λi hi h =>by simp[qH]at h) (λi j _ _ _ _ _ _ _ h =>by simp[qH]at h)
  (fun i hi j Fs ht =>(hfin i hi j Fs ht).2.2.2.1) (λi hi ht x w =>by
   cases h:tg.getD i none with
   |none =>exact absurd h ht
   |some p =>rw[(htr' i hi p.1 p.2 h).1];trivial)
 have hlay:qY ops (xS ops a0) a0 n =a0:=layN_self a0 n
 rwa [hlay]at this
/-! Its rows. -/
variable {os:List Oper} {k:Nat}
theorem RcS(j:Nat){Fs:List (Value ->World ->Prop)}(h:RgS P ops Q ds a0 w0 L i o j Fs)(hs:RgAllN P ops Q ds a0 w0 L boxes tg (i + 1) k os)(ht:tg.getD i none =some (j,Fs) :=by kernel_rfl)(hd:o.dst =none:=by rfl)(hg:o.guard =none:=by rfl):RgAllN P ops Q ds a0 w0 L boxes tg i (k + 1) (o ::os) :=.st ht hd hg h hs
theorem RcK(h:Ok P ops Q ds a0 w0 L boxes i o)(hs:RgAllN P ops Q ds a0 w0 L boxes tg (i + 1) k os)(hg:o.guard =none:=by rfl)(ht:tg.getD i none =none:=by kernel_rfl):RgAllN P ops Q ds a0 w0 L boxes tg i (k + 1) (o ::os) :=.op ht (RgL.mk hg h.out) hs
theorem alN{T m:Nat}(hr:AlO P T m)(ho:o.op =.alloc T:=by rfl)(hi:L.getD i (λ_ _ =>True)=IsNw w0 m:=by kernel_rfl):Ok P ops Q ds a0 w0 L boxes i o:=
 ⟨fun v a w hE hd hf K hK =>by
  obtain⟨w',h1,h2,h3⟩ :=hr w0 w hE.size
  have hrun:(execOp a.eval o).run P w =.ok (.value (.pointer (some ⟨w.heap.size,0,none⟩))) w':=by
   unfold execOp
   rw[ho]
   dsimp only
   simp[h1]
  unfold Oper.wp
  rw[hrun]
  exact hK.out _ w' h2 (by rw[hi];exact h3.nw) FreshIf.yes⟩
theorem Into.put{w:World}{g i n c:Nat}{s:Bool}{a:Option Addr}(b:Bo w g i s a n c)(s':Bool)(a':Option Addr)(n' c':Nat):
  ∃W,W =(w.setCell ⟨g,2 * i,none⟩ (.bool s')).setCell ⟨g,2 * i + 1,none⟩ (.slice a' n' c')/\Bo W g i s' a' n' c'/\Into (.pointer (some ⟨g,0,none⟩)) w W/\ (∀i2 s2 a2 n2 c2,i2≠i ->Bo w g i2 s2 a2 n2 c2 ->Bo W g i2 s2 a2 n2 c2) :=by
 obtain⟨W,hW,b1,p⟩ :=b.put s' a' n' c'
 refine⟨W,hW,b1,⟨p.2.1,λg2 i2 s2 a2 n2 c2 hne h =>p.1 _ _ _ _ _ _ (λhe =>hne (by injection he with he;rw[he])) h,λw1 e hg =>p.2.2 w1 e (hg g rfl),λg2 i2 ⟨s2,a2,n2,c2,h⟩ =>?_⟩,λi2 s2 a2 n2 c2 hne h =>p.1 _ _ _ _ _ _ (λhe =>hne (by injection he with _ he)) h⟩
 by_cases he:(g2,i2)=(g,i)
 ·injection he with h1 h2
  subst h1;subst h2
  exact⟨_,_,_,_,b1⟩
 ·exact⟨_,_,_,_,p.1 _ _ _ _ _ _ he h⟩
theorem Into.trans{x:Value}{a b c:World}(h:Into x a b)(k:Into x b c):Into x a c:=
 ⟨h.gr.trans k.gr,λg i s n m d hne hb =>k.oth g i s n m d hne (h.oth g i s n m d hne hb),λw1 e hg =>k.ext w1 (h.ext w1 e hg) hg,λg i hb =>k.shp g i (h.shp g i hb)⟩
theorem sQ{T tp j:Nat}{y:Operand}{fP fS:Value ->World ->Prop}(hT:StQ P T)(hy:Od ops ds a0 w0 L i y (IsQ fP fS))(g2:GStb fS)(g1:GStb fP)(ho:o.op =.store T (.tmp tp) y:=by rfl)(hdd:o.dst =none:=by rfl)
  (hj:L.getD j (λ_ _ =>True)=IsNw w0 2:=by kernel_rfl) (hu:(ups .any ops i).contains j =true:=by kernel_rfl) (h1:ds[j]? =some (some tp) :=by kernel_rfl) (h2:(ds.drop (j + 1)).contains (some tp)=false:=by kernel_rfl) (h3:decide (tp < a0.tmps.size)=true:=by kernel_rfl):RgS P ops Q ds a0 w0 L i o j [fP,fS] :=by
 refine⟨λv w hE hd K hK =>?_⟩
 have hf:=Fr.of ds a0 v
 obtain⟨s,a1,n1,c1,s',a1',n1',c1',hv,hZ,hG⟩ :=hy.out v _ w hE hd hf
 have hp:(qZ v a0 0 ds).eval (.tmp tp)=v j:=by rw[eval_tmp,hf.val j tp _ rfl h1 h2 h3]
 have hn:=hd j hu
 rw[hj]at hn
 obtain⟨g,hg,_,_,hb⟩ :=hn
 obtain⟨t0,t1,t2,t3,b0⟩ :=hb 0 dcx
 obtain⟨u0,u1,u2,u3,b1⟩ :=hb 1 dcx
 obtain⟨W,hW,k0,i1,o1⟩ :=Into.put b0 s a1 n1 c1
 obtain⟨W0,hW2,k1,i2,o2⟩ :=Into.put (o1 1 _ _ _ _ dcx b1) s' a1' n1' c1'
 refine st_wp ho (hp.trans hg) hv (hT w g 0 _ _ _ _ _ _ _ _ _ _ _ _ _ _ _ _ b0.c0 b0.c1 b0.f0 b0.f1 b1.c0 b1.c1 b1.f0 b1.f1) ?_
 have hW3:W0 =((((w.setCell ⟨g,0,none⟩ (.bool s)).setCell ⟨g,0 + 1,none⟩ (.slice a1 n1 c1)).setCell ⟨g,0 + 2,none⟩ (.bool s')).setCell ⟨g,0 + 3,none⟩ (.slice a1' n1' c1')) :=by rw[hW2,hW]
 rw[<-hW3,hdd]
 refine hK.out W0 (by rw[hg];exact i1.trans i2) ⟨g,hg,λk fQ hk =>?_⟩
 rcases k with _|_|k
 ·obtain rfl:fP =fQ:=by simpa using hk
  exact⟨_,_,_,_,o2 0 _ _ _ _ dcx k0,g1 _ _ _ (i1.gr.trans i2.gr) hZ⟩
 ·obtain rfl:fS =fQ:=by simpa using hk
  exact⟨_,_,_,_,k1,g2 _ _ _ (i1.gr.trans i2.gr) hG⟩
 ·simp at hk
theorem Sto.addQ{w0 w W:World}{B:List Fld}(S:Sto w0 w B){x:Value}{fP fS:Value ->World ->Prop}(h:IsNw W 2 x w)(k:Stored x [fP,fS] w)(hW:w0.heap.size <=W.heap.size)(hZ:GStb fP)(hG:GStb fS):
  ∃g,x =.pointer (some ⟨g,0,none⟩)/\W.heap.size <=g/\ (ApartO g B ->Sto w0 w (((g,1),fS) ::((g,0),fP) ::B)) :=by
 obtain⟨g,hg,h1,h2,_⟩ :=h
 obtain⟨g',hg',h3⟩ :=k
 rw[hg]at hg'
 obtain rfl:g =g':=by injection hg' with e;injection e with e;injection e
 obtain⟨s,a,n,c,b,hb⟩ :=h3 0 fP rfl
 obtain⟨s',a',n',c',b',hb'⟩ :=h3 1 fS rfl
 refine⟨g,hg,h1,λhap =>((S.add b zb (λp hp he =>hap p hp (by rw[he])) hZ hb).add b' zb (λp hp he =>?_) hG hb')⟩
 rcases List.mem_cons.1 hp with rfl|hp
 ·simp at he
 ·exact hap p hp (by rw[he])
end
end
end Go.Proofs.YtkeikfekkdplgaaGreatDoor
