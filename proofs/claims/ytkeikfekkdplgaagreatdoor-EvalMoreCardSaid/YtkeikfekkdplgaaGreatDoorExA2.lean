/- Lemmas. -/
import Derived.Test.YtkeikfekkdplgaaGreatDoorHld
import Derived.Test.YtkeikfekkdplgaaGreatDoorAddG
import Derived.Test.YtkeikfekkdplgaaGreatDoorEv16
namespace Go.Proofs.YtkeikfekkdplgaaGreatDoor
section
open Go Go.RowKit Go.Maps Go.Shelf Go.Sort
open Go.Proofs.Tryz
theorem xl{P:Prop}(h:P:=by rw[show(Array.map (λp:Nat×Operand=>(p.fst,a.eval p.snd)) #[])= #[]from by simp];exact hr):P:=h
attribute [local go_sem] Oper.semAt_some
set_option maxRecDepth 100000
theorem flG_nil(x:ByteArray):flG x []=x:=rfl
theorem encB(x:ByteArray):encStr x.data.toList=.string x:=by simp[encStr]
theorem ksV_one(x:List UInt8):ksV [x]= [encStr x]:=by simp[ksV,ksL,dS,strKeys,DataW.put,DataW.insert,strOf]
theorem zsV_one(z:Int):zsV [z]= [.int .i64 z]:=by simp[zsV,zsL,dI,intKeys,DataW.put,DataW.insert,Go.intOf]
theorem ksV_nil:ksV []= []:=by simp[ksV,ksL,dS,strKeys]
theorem zsV_nil:zsV []= []:=by simp[zsV,zsL,dI,intKeys]
section
variable {C:ByteArray->Prop} {V:ByteArray->Int->Env->Prop}
theorem wf_num{z:Int}{env:Env}(h: -4294967295<=z/\z<=4294967295):wfE C V (.num z) env:=by
 show z.natAbs<4294967296^128;exact Nat.lt_of_lt_of_le (show z.natAbs<4294967296 by omega) (by decide +kernel)
theorem wf_var{x:ByteArray}{i:Int}(h: -9223372036854775808<=i/\i<=9223372036854775807):wfE C V (.var x) ([]++ [(x,i)]):=⟨by simp[ba_beq],by rw[look_one];exact h⟩
theorem wf_bin{op:Int}{p q:Ex}{env:Env}(h:op=4\/op=5\/op=6\/op=7\/op=8\/op=12\/op=13)(hp:wfE C V p env)(hq:wfE C V q env):wfE C V (.bin op p q) env:=⟨h,hp,hq⟩
theorem wf_loop{fst:Bool}{x:ByteArray}{lo hi:Int}{b:Ex}{env:Env}(h: -1099511627776<=lo/\lo<=hi+1/\hi<=1099511627776)(hb:∀n,lo<=n->n<=hi->wfE C V b (env++ [(x,n)]))(hl:env.length<1000000:=by simp):wfE C V (.loop fst x lo hi b) env:=⟨hl,h.1,h.2.1,h.2.2,hb⟩
end
theorem shpM0{w:World}(hT:TabM w)(dat:List Value->EnD):ShpM [] [] dat [] (.slice none 0 0) (.slice none 0 0) (.slice none 0 0) (.slice none 0 0) w:=
 ⟨hT,⟨none,0,rfl,λh=>absurd rfl h⟩,⟨none,0,rfl,λh=>absurd rfl h⟩,.inl ⟨rfl,rfl⟩,⟨none,0,rfl,λh=>absurd rfl h⟩,λ_ h=>absurd h List.not_mem_nil,λ_ h=>absurd h List.not_mem_nil⟩
theorem shpOk0(dat:List Value->EnD):ShpMOk [] [] [] dat []:=
 ⟨by simp,λ_ h=>absurd h List.not_mem_nil,by simp,λ_ h=>absurd h List.not_mem_nil,λ_ h=>absurd h List.not_mem_nil,by simp,λ_ h=>absurd h List.not_mem_nil⟩
theorem alone_x{w:World}{x:Value}{e:Ex}{s0:Nat}{res:Res Kn}{left:Nat}{rd:List (List UInt8)}{hy:List Int}{SS:List (List UInt8)}(hT:TabM w)(hx:IsNe e x w)(hs:s0<=100000)(hSS:SS.length<=1000)(hw:wfE (λ_=>True) (VG SS flG) e [])(hev:ev (xQ [] (λ_=>none) flG) e [] (s0,([], []))=(res,(left,(rd,hy)))):
  Calls prog 41 #[x,.int .i64 (s0:Int)] w (Ret w (IsOutX res left (ksV rd) (zsV hy))):=by
 have HT:=hid hT;have HNx:=hid hx;obtain⟨us,rfl,hl,_,_,hn⟩:=hx
 have HR:Hid (∀w',Ext w w'->Calls prog 16 #[.agg us.toArray,.slice none 0 0,.slice none 0 0,.agg #[.slice none 0 0],.slice none 0 0,.int .i64 (s0:Int)] w' (Ret w' (IsOutX res left (ksV rd) (zsV hy)))):=hid λw' hE=>by
  obtain⟨us',hu',_,_,_,hn'⟩:=IsNe.stb _ _ _ _ hE HNx.out;cases hu';have h:=run_g (SI:= []) hn'.len hs (jK hSS dcx) zd (evG_f (SS:=SS) (shpM0 (HT.out.ext hE) (λ_=>⟨[], []⟩)) (shpOk0 _) ym (by unfold maxLen;simp) hw hn');rw[show bsG [] (λ_=>⟨[], []⟩) []=(λ_=>none)from rfl,hev]at h;exact h
 have hl0:=hl;obtain⟨u0,u1,u2,u3,u4,u5,u6,u7,rfl⟩:=len8 hl;clear hl hT hn HNx hev hw
 obtain⟨W,hW,E,B2,B4⟩:∃W,W=(w.alloc (.cells #[u0,u1,u2,u3,u4,u5,u6,u7] 31)).alloc (.cells #[.bool false,.slice none 0 0,.bool false,.slice none 0 0,.bool false,.slice none 0 0,.bool false,.slice none 0 0,.bool false,.slice none 0 0,.int .i64 0,.slice none 0 0,.int .i64 0] 53)/\Ext w W/\Bk W w.heap.size [u0,u1,u2,u3,u4,u5,u6,u7]/\Bk W (w.heap.size+1) zOut:=
  ⟨_,rfl,((Ext.refl w).alloc _).alloc _,(Bk.new w _ _).ext ((Ext.refl _).alloc _),Bk.newE _ _ zd _ _⟩
 go_enter func41,ntmps41;go_upto_region 1 with fail;rw[<-hW];clear hW;refine rgs 4 (dR 5 4) [IsV (.agg #[u0,u1,u2,u3,u4,u5,u6,u7]),IsV (.agg #[.slice none 0 0]),iV (s0:Int),IsOutX res left (ksV rd) (zsV hy)] [] ?_ ?_
 ·refine Rc (lvV B2 xY (qB 2)) ?_;refine Rc (Ok.of za λv a w2 hE hd hf=>⟨_,bdG rfl (by{rw[show(Array.map (λp:Nat×Operand=>(p.fst,a.eval p.snd)) #[])= #[]from by simp];go_simp}),rfl⟩) ?_;refine Rc yo ?_
  refine Rc (cl (en func16) rfl rfl za za λv a w2 hE hd hf=>by
   have e1:a.eval (.tmp 5)=_:=(qA (fP:=IsV (.agg #[u0,u1,u2,u3,u4,u5,u6,u7])) 0 5:Od _ _ _ _ _ _ _ _).out v a w2 hE hd hf;have e2:a.eval (.tmp 6)=_:=(qA (fP:=IsV (.agg #[.slice none 0 0])) 1 6:Od _ _ _ _ _ _ _ _).out v a w2 hE hd hf;have e3:a.eval (.tmp 7)=_:=(qA (fP:=iV (s0:Int)) 2 7:Od _ _ _ _ _ _ _ _).out v a w2 hE hd hf;simp only[List.map_toArray,List.map_cons,List.map_nil];rw[e1,e2,e3]
   exact HR.out w2 (E.trans hE)) ?_
  exact rn0
 intro v X1 e1 hZ _;replace E:=E.trans e1;replace B4:=B4.ext e1;obtain⟨vl,ha,hn,hc,ra,rn,rc,hv,h1,h2,h3,h4,h5,h6⟩:=hZ 3 dcx;have hw1:w.heap.size+1<X1.heap.size:=B4.lt;obtain⟨l0,l1,l2,l3,l4,l5,l6,l7,l8,l9,l10,rfl⟩:=len11 h1;simp only[lxE,Nat.reduceAdd];rw[hv];clear hv hZ e1 B2 HR;refine stL (λK hK=>?_)
 have hone2: [l0,l1,l2,l3,l4,l5,l6,l7,l8,l9,l10,Value.slice ra rn rc,.int .i64 (left:Int)].all (λu=>u.oneCell')=true:=by
  rw[show [l0,l1,l2,l3,l4,l5,l6,l7,l8,l9,l10,Value.slice ra rn rc,.int .i64 (left:Int)]= [l0,l1,l2,l3,l4,l5,l6,l7,l8,l9,l10]++ [Value.slice ra rn rc,.int .i64 (left:Int)]from rfl,List.all_append,h2];rfl
 refine qX (us:= [l0,l1,l2,l3,l4,l5,l6,l7,l8,l9,l10,.slice ra rn rc,.int .i64 (left:Int)]) B4 st_Out rfl rfl nwOut (λX6 B9 O=>hK _ _ ?_) (ho1:=hone2);replace E:=O.ext E zb;have hvl6:=IsVl.gstb _ _ _ _ _ O.gr h4;have h57:=h5.out B4 O (noB_z _);have h67:=h6.out B4 O (noB_k _);refine jE ?_;have d0:=B9.c 0 _ rfl;have d1:=B9.c 1 _ rfl;have d2:=B9.c 2 _ rfl;have d3:=B9.c 3 _ rfl;have d4:=B9.c 4 _ rfl;have d5:=B9.c 5 _ rfl;have d6:=B9.c 6 _ rfl;have d7:=B9.c 7 _ rfl;have d8:=B9.c 8 _ rfl;have d9:=B9.c 9 _ rfl;have d10:=B9.c 10 _ rfl;have d11:=B9.c 11 _ rfl;have d12:=B9.c 12 _ rfl;clear hK K O B9;go_wp2_with fail;exact jD (v:=.agg #[l0,l1,l2,l3,l4,l5,l6,l7,l8,l9,l10,.slice ra rn rc,.int .i64 (left:Int)]) (by simp[results,results41,go_sem,d0,d1,d2,d3,d4,d5,d6,d7,d8,d9,d10,d11,d12]) rfl ⟨_,rfl,E, [l0,l1,l2,l3,l4,l5,l6,l7,l8,l9,l10],ha,hn,hc,ra,rn,rc,rfl,rfl,h2,h3,hvl6,h57,h67⟩
theorem is_x{lo hi:Int}{f:Bool}{hs:List Value}{x:Value}{w:World}(hx:IsVh (.ok ⟨lo,hi,f⟩) hs x w)(hl: -9223372036854775808<=lo/\lo<=9223372036854775807)(hh: -9223372036854775808<=hi/\hi<=9223372036854775807):
  Calls prog 38 #[x,.int .i64 lo,.int .i64 hi,.bool f] w (Ret w (IsV (.bool true))):=let ⟨_,_,_,h,_⟩:=hx;is_f (q:=⟨lo,hi,f⟩) h hl hh
def IsEnW(nm:ByteArray)(d:EnD):Value->World->Prop:=λx w=>∃es:List Value,x=.agg es.toArray/\EntW nm d es w
theorem IsEnW.stb(nm:ByteArray)(d:EnD):Stb (IsEnW nm d):=λ_ _ _ e ⟨es,h1,h2⟩=>⟨es,h1,h2.ext e⟩
instance (nm:ByteArray) (d:EnD):StbC (IsEnW nm d):=⟨IsEnW.stb nm d⟩
def IsSh1(nm:ByteArray)(d:EnD):Value->World->Prop:=λx w=>∃(sv:Value) (new:List Value),x=.agg #[sv]/\HdS [new] sv w/\HdOk new/\new[0]? =some (.string (xZ new))/\xZ new=nm/\EntW nm d (new.take 31) w
theorem IsSh1.stb(nm:ByteArray)(d:EnD):Stb (IsSh1 nm d):=λ_ _ _ e ⟨sv,new,h1,h2,h3,h4,h5,h6⟩=>⟨sv,new,h1,h2.ext e,h3,h4,h5,h6.ext e⟩
instance (nm:ByteArray) (d:EnD):StbC (IsSh1 nm d):=⟨IsSh1.stb nm d⟩
theorem add_1{w:World}{x y z:Value}{nm:ByteArray}{d:EnD}(hx:IsV (.agg #[.slice none 0 0]) x w)(hy:IsEnW nm d y w)(hz:IsV (.agg #[.int .i64 0,.int .i64 0,.int .i64 0]) z w):Calls prog 25 #[x,y,z] w (Ret w (IsSh1 nm d)):=by
 obtain rfl:x=_:=hx;obtain rfl:z=_:=hz;obtain⟨es,rfl,he⟩:=hy;refine jC (add_ge (L:= []) (p:=(0,0,0)) (.inl ⟨rfl,rfl⟩) zd (λ_ h=>absurd h List.not_mem_nil) he (.inr λ_ h=>absurd h List.not_mem_nil)) ?_;rintro e w1 ⟨_,rfl,e1,sv,j,m,new,rfl,h2,h3,h4,h5,h6,h7⟩;refine⟨_,rfl,e1,sv,new,rfl,?_,h4.ok.1,h4.ok.2,h5,by rw[h7];exact he.ext e1⟩;have:=h2.hds
 simpa using this
theorem shpM1{w:World}{sv gv:Value}{new:List Value}{nm:ByteArray}{d:EnD}{gs:List Int}(hT:TabM w)(h1:HdS [new] sv w)(h6:EntW nm d (new.take 31) w)(hg:IrR gs gv w):ShpM [] [new] (λ_=>d) gs (.slice none 0 0) (.slice none 0 0) sv gv w:=by
 refine⟨hT,⟨none,0,rfl,λh=>absurd rfl h⟩,⟨none,0,rfl,λh=>absurd rfl h⟩,h1,hg,λvs hv=>?_,λvs hv=>?_⟩
 ·obtain rfl:=List.mem_singleton.1 hv;exact h6.at
 ·obtain rfl:=List.mem_singleton.1 hv;obtain⟨u,k1,k2,-⟩:=h6.hyr;refine⟨u,?_,k2⟩;rw[List.getElem?_take]at k1
  simpa using k1
theorem runV{w:World}{x y gv:Value}{nm:ByteArray}(hT:TabM w)(hx:IsNe (.val nm 0) x w)(hm:nm.size<=16)(hs:IsSh1 nm ⟨[12], [2]⟩ y w)(hg:IrR [1,2] gv w):
  Calls prog 16 #[x,.slice none 0 0,.slice none 0 0,y,gv,.int .i64 0] w (Ret w (IsOutX (.ok ⟨12,12,true⟩) 0 [.string nm] [.int .i64 2])):=by
 obtain⟨sv,new,rfl,h2,h3,h4,h5,h6⟩:=hs;obtain⟨us,rfl,_,_,_,hn⟩:=hx
 obtain⟨sa,sc,hsv⟩:∃a c,sv=.slice a 1 c:=by
  rcases h2 with⟨h,-⟩| ⟨g,c,rfl,-⟩
  ·cases h
  ·exact⟨_,_,rfl⟩
 subst hsv;obtain⟨ga,gc,rfl,-⟩:=id hg;have K:ShpMOk [2] [] [new] (λ_=>(⟨[12], [2]⟩:EnD)) [1,2]:=⟨by simp,λ_ h=>absurd h List.not_mem_nil,by simp,λvs h=>by obtain rfl:=List.mem_singleton.1 h;exact h3,λvs h=>by obtain rfl:=List.mem_singleton.1 h;exact h4,by simp,λvs h=>⟨by simp,by simp,λz hz=>by{obtain rfl:z=2:=(by simpa using hz);exact⟨by simp,by decide⟩}⟩⟩
 have hb:bsG [new] (λ_=>(⟨[12], [2]⟩:EnD)) [1,2] nm.data.toList=some ⟨[12], [2]⟩:=by
  rw[bsG_at];simp[bestH,bestL,minL,h5]
 have h:=run_g (SS:= [nm.data.toList]) (SI:= [2]) (s0:=0) hn.len dcx zd zd (evG_f (SS:= [nm.data.toList]) (shpM1 hT h2 h6 hg) K (by unfold maxLen;simp) (by unfold maxLen;simp) (show wfE (λ_=>True) (VG [nm.data.toList] flG) (.val nm 0) []from⟨by decide,by decide,by rw[flG_nil];simp,hm,by simp,λp hp=>absurd hp List.not_mem_nil⟩) hn);rw[show ev (xQ [] (bsG [new] (λ_=>(⟨[12], [2]⟩:EnD)) [1,2]) flG) (.val nm 0) [] (0,([], []))=(.ok ⟨12,12,true⟩,(0,([nm.data.toList], [2])))from by simp[ev,xQ,vlG,flG_nil,hb]]at h;have h2:Calls prog 16 #[.agg us.toArray,.slice none 0 0,.slice none 0 0,.agg #[.slice sa 1 sc],.slice ga [1,2].length gc,.int .i64 0] w (Ret w (IsOutX (.ok ⟨12,12,true⟩) 0 (ksV [nm.data.toList]) (zsV [2]))):=h;rw[ksV_one,zsV_one,encB]at h2;exact h2
open Go Go.RowKit Go.Maps Go.Shelf
attribute [local go_sem] Oper.semAt_some
set_option maxRecDepth 100000
def IsS1(x:ByteArray)(v:Value)(w:World):Prop:=∃g,v=.slice (some ⟨g,0,none⟩) 1 1/\World.cell? w ⟨g,0,none⟩=some (.string x)
def IsI1(z:Int)(v:Value)(w:World):Prop:=∃g,v=.slice (some ⟨g,0,none⟩) 1 1/\World.cell? w ⟨g,0,none⟩=some (.int .i64 z)
def IsI2(y z:Int)(v:Value)(w:World):Prop:=∃g,v=.slice (some ⟨g,0,none⟩) 2 2/\World.cell? w ⟨g,0,none⟩=some (.int .i64 y)/\World.cell? w ⟨g,1,none⟩=some (.int .i64 z)
def IsN1(z:Int)(v:Value)(w:World):Prop:=∃g s a n c,v=.slice (some ⟨g,0,none⟩) 1 1/\World.cell? w ⟨g,0,none⟩=some (.bool s)/\World.cell? w ⟨g,1,none⟩=some (.slice a n c)/\IsI 2 z (.agg #[.bool s,.slice a n c]) w
theorem IsS1.stb(x:ByteArray):Stb (IsS1 x):=λ_ _ _ e ⟨g,h1,h2⟩=>⟨g,h1,e.cell h2⟩
instance (x:ByteArray):StbC (IsS1 x):=⟨IsS1.stb x⟩
theorem IsI1.stb(z:Int):Stb (IsI1 z):=λ_ _ _ e ⟨g,h1,h2⟩=>⟨g,h1,e.cell h2⟩
instance (z:Int):StbC (IsI1 z):=⟨IsI1.stb z⟩
theorem IsI2.stb(y z:Int):Stb (IsI2 y z):=λ_ _ _ e ⟨g,h1,h2,h3⟩=>⟨g,h1,e.cell h2,e.cell h3⟩
instance (y z:Int):StbC (IsI2 y z):=⟨IsI2.stb y z⟩
theorem IsN1.stb(z:Int):Stb (IsN1 z):=λ_ _ _ e ⟨g,s,a,n,c,h1,h2,h3,h4⟩=>⟨g,s,a,n,c,h1,e.cell h2,e.cell h3,h4.ext e⟩
instance (z:Int):StbC (IsN1 z):=⟨IsN1.stb z⟩
theorem s1_rw{x:ByteArray}{v:Value}{w:World}(h:IsS1 x v w):IsRw 0 ([x.data.toList].map encStr) v w:=by
 obtain⟨g,rfl,h1⟩:=h;refine⟨_,1,rfl,λ_=>⟨g,rfl,Nat.zero_le _,λj u hj=>?_⟩⟩
 match j,hj with
 |0,hj=>cases hj;rw[encB];exact h1
theorem i1_rw{z:Int}{v:Value}{w:World}(h:IsI1 z v w):IsRw 0 ([z].map (Value.int .i64)) v w:=by
 obtain⟨g,rfl,h1⟩:=h;refine⟨_,1,rfl,λ_=>⟨g,rfl,Nat.zero_le _,λj u hj=>?_⟩⟩
 match j,hj with
 |0,hj=>cases hj;exact h1
theorem irI2{y z:Int}{v:Value}{w:World}(h:IsI2 y z v w):IrR [y,z] v w:=by
 obtain⟨g,rfl,h1,h2⟩:=h;refine⟨_,2,rfl,λ_=>⟨g,0,rfl,λj u hj=>?_⟩⟩
 match j,hj with
 |0,hj=>cases hj;exact h1
 |1,hj=>cases hj;exact h2
theorem bd_EnX(nm:ByteArray)(gv gh:Nat)(w:World):(Instr.build 95 #[(0,.string nm),(1,.slice (some ⟨gv,0,none⟩) 1 1),(3,.slice (some ⟨gh,0,none⟩) 1 1)]).run prog w=.ok (.agg (entV nm (some ⟨gv,0,none⟩) 1 1 (some ⟨gh,0,none⟩) 1 1).toArray) w:=by unfold entV;go_simp
section
variable {ops:Array Oper} {Q:Exit->Act->World->Prop} {ds:List (Option Tmp)} {a0:Act} {w0:World} {L:List (Value->World->Prop)} {boxes:List Nat} {i k:Nat} {o:Oper} {os:List Oper}
theorem okV'{P:Program}{u:Value}(hb:boxes.contains i=false)(hi:L.getD i (λ_ _=>True)=IsV u)(h:∀(v:Nat->Value) (a:Act) (w:World),Ext w0 w->(∀j,(ups .any ops i).contains j=true->L.getD j (λ_ _=>True) (v j) w)->Fr ds a0 v a->(execOp a.eval o).run P w=.ok (.value u) w):Ok P ops Q ds a0 w0 L boxes i o:=
 Ok.of hb λv a w hE hd hf=>⟨u,h v a w hE hd hf,by rw[hi];rfl⟩
theorem bdCell{x:ByteArray}(ho:o.op=.build 31 #[(0,.const (.int .i64 2)),(1,.const (.string x))]:=by rfl)(hi:L.getD i (λ_ _=>True)=IsNe (.cell x):=by kernel_rfl)(hb:boxes.contains i=false:=by kernel_rfl):Ok prog ops Q ds a0 w0 L boxes i o:=
 Ok.of hb λv a w hE hd hf=>by
  have hr:(Instr.build 31 #[(0,.int .i64 2),(1,.string x)]).run prog w=.ok (.agg #[.int .i64 2,.string x,.int .i64 0,.bool false,.slice none 0 0,.int .i64 0,.int .i64 0,.slice none 0 0]) w:=zy
  exact⟨_,bdG ho zr,by rw[hi];exact⟨_,rfl,rfl,rfl,nwNd,_,_,_,_,_,_,_,_,rfl⟩⟩
theorem bdVal{x:ByteArray}(ho:o.op=.build 31 #[(0,.const (.int .i64 3)),(1,.const (.string x))]:=by rfl)(hi:L.getD i (λ_ _=>True)=IsNe (.val x 0):=by kernel_rfl)(hb:boxes.contains i=false:=by kernel_rfl):Ok prog ops Q ds a0 w0 L boxes i o:=
 Ok.of hb λv a w hE hd hf=>by
  have hr:(Instr.build 31 #[(0,.int .i64 3),(1,.string x)]).run prog w=.ok (.agg #[.int .i64 3,.string x,.int .i64 0,.bool false,.slice none 0 0,.int .i64 0,.int .i64 0,.slice none 0 0]) w:=zy
  exact⟨_,bdG ho zr,by rw[hi];exact⟨_,rfl,rfl,rfl,nwNd,_,_,_,_,_,_,_,rfl⟩⟩
theorem bsRun{T n:Nat}{ps:Array (Nat×Operand)}{a:Act}{v:Value}{w w':World}{P:Program}(ho:o.op=.buildSlice T n ps)(hr:(Instr.buildSlice T n (ps.map λp=>(p.1,a.eval p.2))).run P w=.ok v w'):(execOp a.eval o).run P w=.ok (.value v) w':=by
 unfold execOp;rw[ho];dsimp only;rw[Sem.run_bind,hr];rfl
theorem tExA2_1{P:Prop}(h:P:=by
  exact⟨_,_,bsRun ho zr,(Ext.refl w).alloc _,by rw[hi];exact⟨_,rfl,(Bk.new w _ _).c 0 _ rfl⟩⟩
  ):P:=h
theorem bsS1{x:ByteArray}(ho:o.op=.buildSlice 51 1 #[(0,.const (.string x))]:=by rfl)(hi:L.getD i (λ_ _=>True)=IsS1 x:=by kernel_rfl)(hb:boxes.contains i=false:=by kernel_rfl):Ok prog ops Q ds a0 w0 L boxes i o:=
 okE' hb λv a w hE hd hf=>by
  have hr:(Instr.buildSlice 51 1 #[(0,.string x)]).run prog w=.ok (.slice (some ⟨w.heap.size,0,none⟩) 1 1) (w.alloc (.cells #[.string x] 9)):=zy
  exact tExA2_1
theorem bsI1{z:Int}(ho:o.op=.buildSlice 41 1 #[(0,.const (.int .i64 z))]:=by rfl)(hi:L.getD i (λ_ _=>True)=IsI1 z:=by kernel_rfl)(hb:boxes.contains i=false:=by kernel_rfl):Ok prog ops Q ds a0 w0 L boxes i o:=
 okE' hb λv a w hE hd hf=>by
  have hr:(Instr.buildSlice 41 1 #[(0,.int .i64 z)]).run prog w=.ok (.slice (some ⟨w.heap.size,0,none⟩) 1 1) (w.alloc (.cells #[.int .i64 z] 3)):=zy
  exact tExA2_1
theorem bsI2{y z:Int}(ho:o.op=.buildSlice 41 2 #[(0,.const (.int .i64 y)),(1,.const (.int .i64 z))]:=by rfl)(hi:L.getD i (λ_ _=>True)=IsI2 y z:=by kernel_rfl)(hb:boxes.contains i=false:=by kernel_rfl):Ok prog ops Q ds a0 w0 L boxes i o:=
 okE' hb λv a w hE hd hf=>by
  have hr:(Instr.buildSlice 41 2 #[(0,.int .i64 y),(1,.int .i64 z)]).run prog w=.ok (.slice (some ⟨w.heap.size,0,none⟩) 2 2) (w.alloc (.cells #[.int .i64 y,.int .i64 z] 3)):=zy
  exact⟨_,_,bsRun ho zr,(Ext.refl w).alloc _,by rw[hi];exact⟨_,rfl,(Bk.new w _ _).c 0 _ rfl,(Bk.new w _ _).c 1 _ rfl⟩⟩
theorem bsN1{z:Int}{x:Operand}(hx:Od ops ds a0 w0 L i x (IsI 2 z))(ho:o.op=.buildSlice 69 1 #[(0,x)]:=by rfl)(hi:L.getD i (λ_ _=>True)=IsN1 z:=by kernel_rfl)(hb:boxes.contains i=false:=by kernel_rfl):Ok prog ops Q ds a0 w0 L boxes i o:=
 okE' hb λv a w hE hd hf=>by
  obtain⟨s,p,n,c,e1,h1⟩:=hx.out v a w hE hd hf;have hr:(Instr.buildSlice 69 1 #[(0,.agg #[.bool s,.slice p n c])]).run prog w=.ok (.slice (some ⟨w.heap.size,0,none⟩) 1 1) (w.alloc (.cells #[.bool s,.slice p n c] 28)):=zy
  exact⟨_,_,bsRun ho zal,(Ext.refl w).alloc _,by rw[hi];exact⟨_,s,p,n,c,rfl,(Bk.new w _ _).c 0 _ rfl,(Bk.new w _ _).c 1 _ rfl,IsI.ext (show IsI 2 z _ w from⟨s,p,n,c,rfl,h1⟩) ((Ext.refl w).alloc _)⟩⟩
theorem bdShN(ho:o.op=.build 39 #[]:=by rfl)(hi:L.getD i (λ_ _=>True)=IsV (.agg #[.slice none 0 0]):=by kernel_rfl)(hb:boxes.contains i=false:=by kernel_rfl):Ok prog ops Q ds a0 w0 L boxes i o:=
 okV' hb hi λv a w hE hd hf=>by
  have hr:(Instr.build 39 #[]).run prog w=.ok (.agg #[.slice none 0 0]) w:=zy
  exact bdG ho xl
theorem bdSo(ho:o.op=.build 102 #[]:=by rfl)(hi:L.getD i (λ_ _=>True)=IsV (.agg #[.int .i64 0,.int .i64 0,.int .i64 0]):=by kernel_rfl)(hb:boxes.contains i=false:=by kernel_rfl):Ok prog ops Q ds a0 w0 L boxes i o:=
 okV' hb hi λv a w hE hd hf=>by
  have hr:(Instr.build 102 #[]).run prog w=.ok (.agg #[.int .i64 0,.int .i64 0,.int .i64 0]) w:=zy
  exact bdG ho xl
theorem bdEnX{nm:ByteArray}{z:Int}{x y:Operand}(hx:Od ops ds a0 w0 L i x (IsN1 z))(hy:Od ops ds a0 w0 L i y (IsI1 2))(ho:o.op=.build 95 #[(0,.const (.string nm)),(1,x),(3,y)]:=by rfl)(hi:L.getD i (λ_ _=>True)=IsEnW nm ⟨[z], [2]⟩:=by kernel_rfl)(hb:boxes.contains i=false:=by kernel_rfl):Ok prog ops Q ds a0 w0 L boxes i o:=
 Ok.of hb λv a w hE hd hf=>by
  obtain⟨gv,s,p,n,c,e1,h1,h2,h3⟩:=hx.out v a w hE hd hf;obtain⟨gh,e2,h4⟩:=hy.out v a w hE hd hf;refine⟨_,bdG ho (by simp only[List.map_toArray,List.map_cons,List.map_nil];rw[e1,e2];exact bd_EnX nm gv gh w),?_⟩;rw[hi];refine⟨_,rfl,⟨by simp,by simp⟩,by simp,λq hq=>by obtain rfl:q=2:=(by simpa using hq);decide,_,_,_,_,rfl,λ_=>⟨gv,rfl,λj u hj=>?_⟩,λ_=>⟨gh,0,rfl,λj u hj=>?_⟩⟩
  ·match j,hj with
   |0,hj=>cases hj;exact⟨s,p,n,c,h1,h2,h3.mono dcx⟩
  ·match j,hj with
   |0,hj=>cases hj;exact h4
end
end
section
open Go Go.RowKit Go.Maps Go.Shelf
open Go.Proofs.Tryz
theorem zac{P:Prop}(h:P:=by exact alB al_Out (jJ _)):P:=h
theorem zap{P:Prop}(h:P:=by exact lv _ (λw' e=>xY w' _ _ hl1 (B1.ext e)) (qB 1) (λw' e=>IsNe.stb _ _ _ _ e hx1)):P:=h
theorem zaq{P:Prop}(h:P:=by exact lv _ (λw' e=>xY w' _ _ hl2 (B2.ext e)) (qB 2) (λw' e=>IsNe.stb _ _ _ _ e hx2)):P:=h
theorem zar{P:Prop}(h:P:=by exact lv _ (λw' e=>xY w' _ _ hl8 (B8.ext e)) (qB 8) (λw' e=>IsNe.stb _ _ _ _ e hx8)):P:=h
set_option maxRecDepth 100000
set_option maxHeartbeats 16000000
attribute [local go_sem] Oper.semAt_some
theorem examples_g{w:World}(hT:TabM w):Calls prog 10 #[] w (Ret w (IsV (.bool true))):=by
 have HT:=hid hT;clear hT;have E:Ext w w:=Ext.refl w;go_enter func10,ntmps10;go_upto_region 1 with fail;refine rgs 4 (dR 12 4) [IsNe (.var (⟨#[120]⟩)),IsNe (.num (4)),IsNe (.bin (12) (.var (⟨#[120]⟩)) (.num (4))),IsNe (.loop false (⟨#[120]⟩) (1) (10) (.bin (12) (.var (⟨#[120]⟩)) (.num (4))))] [] ?_ ?_
 ·refine Rc (cl (en func40) rfl rfl za za λv a w2 hE hd hf=>by
    simp only[List.map_toArray,List.map_cons,List.map_nil]
    exact variable_f w2 _) ?_
  refine Rc (cl (en func43) rfl rfl za za λv a w2 hE hd hf=>by
    simp only[List.map_toArray,List.map_cons,List.map_nil]
    exact num_f w2 _ dcx) ?_
  refine Rc (cl (en func28) rfl rfl za za λv a w2 hE hd hf=>by
    have e1:(IsNe (.var (⟨#[120]⟩))) (a.eval (.tmp 12)) w2:=((qA (fP:=IsNe (.var (⟨#[120]⟩))) 0 12):Od _ _ _ _ _ _ _ _).out v a w2 hE hd hf;have e2:(IsNe (.num (4))) (a.eval (.tmp 13)) w2:=((qA (fP:=IsNe (.num (4))) 1 13):Od _ _ _ _ _ _ _ _).out v a w2 hE hd hf;simp only[List.map_toArray,List.map_cons,List.map_nil]
    exact two_f _ e1 e2) ?_
  refine Rc (cl (en func42) rfl rfl za za λv a w2 hE hd hf=>by
    have e4:(IsNe (.bin (12) (.var (⟨#[120]⟩)) (.num (4)))) (a.eval (.tmp 14)) w2:=((qA (fP:=IsNe (.bin (12) (.var (⟨#[120]⟩)) (.num (4)))) 2 14):Od _ _ _ _ _ _ _ _).out v a w2 hE hd hf;simp only[List.map_toArray,List.map_cons,List.map_nil]
    exact loop_f _ false rfl _ _ _ e4) ?_
  exact rn0
 intro v X1 e1 hZ _;obtain⟨u,hu⟩:∃u,v 3=u:=⟨_,rfl⟩;have hO:(IsNe (.loop false (⟨#[120]⟩) (1) (10) (.bin (12) (.var (⟨#[120]⟩)) (.num (4))))) u X1:=by rw[<-hu];exact hZ 3 dcx
 simp only[lxE,Nat.reduceAdd];rw[hu];clear hZ hu;obtain⟨us1,hus,hl1,hone,hnw,_⟩:=id hO;subst hus;refine stL (λK hK=>?_);refine xK (vs:=zNd) al_Nd (λBn e3=>hK _ _ ?_);obtain⟨g1,hg1⟩:∃g,X1.heap.size=g:=⟨_,rfl⟩;rw[hg1]at Bn ⊢;generalize X1.alloc (.cells zNd.toArray 31)=Y2 at Bn e3 ⊢;clear hK K
 go_simp
 refine stL (λK hK=>?_);refine qX (us:=us1) Bn st_Nd rfl hl1 nwZN (λX2 B1 O=>hK _ _ ?_) (ho1:=hone);have e4:=O.ext e3 (Nat.le_of_eq hg1);have e2:=e1.trans e4;have hx1:=IsNe.stb _ _ _ _ e4 hO;replace E:=E.trans e2;clear hK K O e1 e2 e3 e4 Bn hone hnw hO hg1;refine jE ?_;go_upto_region 2 with fail;refine rgs 6 (dR 16 6) [IsNe (.var (⟨#[120]⟩)),IsNe (.var (⟨#[120]⟩)),IsNe (.bin (6) (.var (⟨#[120]⟩)) (.var (⟨#[120]⟩))),IsNe (.num (49)),IsNe (.bin (13) (.bin (6) (.var (⟨#[120]⟩)) (.var (⟨#[120]⟩))) (.num (49))),IsNe (.loop true (⟨#[120]⟩) (1) (10) (.bin (13) (.bin (6) (.var (⟨#[120]⟩)) (.var (⟨#[120]⟩))) (.num (49))))] [] ?_ ?_
 ·refine Rc (cl (en func40) rfl rfl za za λv a w2 hE hd hf=>by
    simp only[List.map_toArray,List.map_cons,List.map_nil]
    exact variable_f w2 _) ?_
  refine Rc (cl (en func40) rfl rfl za za λv a w2 hE hd hf=>by
    simp only[List.map_toArray,List.map_cons,List.map_nil]
    exact variable_f w2 _) ?_
  refine Rc (cl (en func28) rfl rfl za za λv a w2 hE hd hf=>by
    have e1:(IsNe (.var (⟨#[120]⟩))) (a.eval (.tmp 16)) w2:=((qA (fP:=IsNe (.var (⟨#[120]⟩))) 0 16):Od _ _ _ _ _ _ _ _).out v a w2 hE hd hf;have e2:(IsNe (.var (⟨#[120]⟩))) (a.eval (.tmp 17)) w2:=((qA (fP:=IsNe (.var (⟨#[120]⟩))) 1 17):Od _ _ _ _ _ _ _ _).out v a w2 hE hd hf;simp only[List.map_toArray,List.map_cons,List.map_nil]
    exact two_f _ e1 e2) ?_
  refine Rc (cl (en func43) rfl rfl za za λv a w2 hE hd hf=>by
    simp only[List.map_toArray,List.map_cons,List.map_nil]
    exact num_f w2 _ dcx) ?_
  refine Rc (cl (en func28) rfl rfl za za λv a w2 hE hd hf=>by
    have e1:(IsNe (.bin (6) (.var (⟨#[120]⟩)) (.var (⟨#[120]⟩)))) (a.eval (.tmp 18)) w2:=((qA (fP:=IsNe (.bin (6) (.var (⟨#[120]⟩)) (.var (⟨#[120]⟩)))) 2 18):Od _ _ _ _ _ _ _ _).out v a w2 hE hd hf;have e2:(IsNe (.num (49))) (a.eval (.tmp 19)) w2:=((qA (fP:=IsNe (.num (49))) 3 19):Od _ _ _ _ _ _ _ _).out v a w2 hE hd hf;simp only[List.map_toArray,List.map_cons,List.map_nil]
    exact two_f _ e1 e2) ?_
  refine Rc (cl (en func42) rfl rfl za za λv a w2 hE hd hf=>by
    have e4:(IsNe (.bin (13) (.bin (6) (.var (⟨#[120]⟩)) (.var (⟨#[120]⟩))) (.num (49)))) (a.eval (.tmp 20)) w2:=((qA (fP:=IsNe (.bin (13) (.bin (6) (.var (⟨#[120]⟩)) (.var (⟨#[120]⟩))) (.num (49)))) 4 20):Od _ _ _ _ _ _ _ _).out v a w2 hE hd hf;simp only[List.map_toArray,List.map_cons,List.map_nil]
    exact loop_f _ true rfl _ _ _ e4) ?_
  exact rn0
 intro v X3 e1 hZ _;obtain⟨u,hu⟩:∃u,v 5=u:=⟨_,rfl⟩;have hO:(IsNe (.loop true (⟨#[120]⟩) (1) (10) (.bin (13) (.bin (6) (.var (⟨#[120]⟩)) (.var (⟨#[120]⟩))) (.num (49))))) u X3:=by rw[<-hu];exact hZ 5 dcx
 simp only[lxE,Nat.reduceAdd];rw[hu];clear hZ hu;obtain⟨us2,hus,hl2,hone,hnw,_⟩:=id hO;subst hus;refine stL (λK hK=>?_);refine xK (vs:=zNd) al_Nd (λBn e3=>hK _ _ ?_);obtain⟨g2,hg2⟩:∃g,X3.heap.size=g:=⟨_,rfl⟩;rw[hg2]at Bn ⊢;generalize X3.alloc (.cells zNd.toArray 31)=Y4 at Bn e3 ⊢;clear hK K
 go_simp
 refine stL (λK hK=>?_);refine qX (us:=us2) Bn st_Nd rfl hl2 nwZN (λX4 B2 O=>hK _ _ ?_) (ho1:=hone);have e4:=O.ext e3 (Nat.le_of_eq hg2);have e2:=e1.trans e4;have hx2:=IsNe.stb _ _ _ _ e4 hO;replace E:=E.trans e2;replace B1:=B1.ext e2;replace hx1:=IsNe.stb _ _ _ _ e2 hx1;clear hK K O e1 e2 e3 e4 Bn hone hnw hO hg2;refine jE ?_;go_upto_region 3 with fail;refine rgs 3 [some 22,some 23,some 3] [IsNe (.loop false (⟨#[120]⟩) (1) (10) (.bin (12) (.var (⟨#[120]⟩)) (.num (4)))),IsOutX (.ok ⟨3,3,true⟩) (0) [] [],IsNb X4.heap.size zOut] [] ?_ ?_
 ·refine Rc zap ?_
  refine Rc (cl (en func41) rfl rfl za za λv a w2 hE hd hf=>by
    have e0:(IsNe (.loop false (⟨#[120]⟩) (1) (10) (.bin (12) (.var (⟨#[120]⟩)) (.num (4))))) (a.eval (.tmp 22)) w2:=((qA (fP:=IsNe (.loop false (⟨#[120]⟩) (1) (10) (.bin (12) (.var (⟨#[120]⟩)) (.num (4))))) 0 22):Od _ _ _ _ _ _ _ _).out v a w2 hE hd hf;simp only[List.map_toArray,List.map_cons,List.map_nil]
    exact(by have h9:=alone_x (s0:=10) (res:=.ok ⟨3,3,true⟩) (left:=0) (rd:= []) (hy:= []) (SS:= []) (HT.out.ext (E.trans hE)) e0 dcx zd (wf_loop dcx (λi i1 i2=>wf_bin dcx (wf_var zb) (wf_num dcx))) za;rw[ksV_nil,zsV_nil]at h9;exact h9)) ?_
  refine Rc zac ?_;exact rn0
 intro v X5 e1 hZ _;obtain⟨g3,hv2,hg3,Bn⟩:=hZ 2 dcx;obtain⟨u,hu⟩:∃u,v 1=u:=⟨_,rfl⟩;have hO:(IsOutX (.ok ⟨3,3,true⟩) (0) [] []) u X5:=jz
 simp only[lxE,Nat.reduceAdd];rw[hv2,hu];clear hZ hv2 hu;refine stL (λK hK=>?_);refine stOut Bn hO (λu hu=>absurd hu List.not_mem_nil) (λu hu=>absurd hu List.not_mem_nil) (λX6 O3 O=>hK _ _ ?_);have e2:=O.ext e1 hg3;replace E:=E.trans e2;replace B1:=B1.ext e2;replace hx1:=IsNe.stb _ _ _ _ e2 hx1;replace B2:=B2.ext e2;replace hx2:=IsNe.stb _ _ _ _ e2 hx2;clear hK K O e1 e2 Bn hO;refine jE ?_;go_upto_region 4 with fail;refine rgs 3 [some 24,some 25,some 4] [IsNe (.loop false (⟨#[120]⟩) (1) (10) (.bin (12) (.var (⟨#[120]⟩)) (.num (4)))),IsOutX (.ok ⟨2,10,false⟩) (0) [] [],IsNb X6.heap.size zOut] [] ?_ ?_
 ·refine Rc zap ?_
  refine Rc (cl (en func41) rfl rfl za za λv a w2 hE hd hf=>by
    have e0:(IsNe (.loop false (⟨#[120]⟩) (1) (10) (.bin (12) (.var (⟨#[120]⟩)) (.num (4))))) (a.eval (.tmp 24)) w2:=((qA (fP:=IsNe (.loop false (⟨#[120]⟩) (1) (10) (.bin (12) (.var (⟨#[120]⟩)) (.num (4))))) 0 24):Od _ _ _ _ _ _ _ _).out v a w2 hE hd hf;simp only[List.map_toArray,List.map_cons,List.map_nil]
    exact(by have h9:=alone_x (s0:=2) (res:=.ok ⟨2,10,false⟩) (left:=0) (rd:= []) (hy:= []) (SS:= []) (HT.out.ext (E.trans hE)) e0 dcx zd (wf_loop dcx (λi i1 i2=>wf_bin dcx (wf_var zb) (wf_num dcx))) za;rw[ksV_nil,zsV_nil]at h9;exact h9)) ?_
  refine Rc zac ?_;exact rn0
 intro v X7 e1 hZ _;obtain⟨g4,hv2,hg4,Bn⟩:=hZ 2 dcx;obtain⟨u,hu⟩:∃u,v 1=u:=⟨_,rfl⟩;have hO:(IsOutX (.ok ⟨2,10,false⟩) (0) [] []) u X7:=jz
 simp only[lxE,Nat.reduceAdd];rw[hv2,hu];clear hZ hv2 hu;refine stL (λK hK=>?_);refine stOut Bn hO (λu hu=>absurd hu List.not_mem_nil) (λu hu=>absurd hu List.not_mem_nil) (λX8 O4 O=>hK _ _ ?_);have e2:=O.ext e1 hg4;replace E:=E.trans e2;replace B1:=B1.ext e2;replace hx1:=IsNe.stb _ _ _ _ e2 hx1;replace B2:=B2.ext e2;replace hx2:=IsNe.stb _ _ _ _ e2 hx2;replace O3:=O3.ext e2;clear hK K O e1 e2 Bn hO;refine jE ?_;go_upto_region 5 with fail;refine rgs 3 [some 26,some 27,some 5] [IsNe (.loop true (⟨#[120]⟩) (1) (10) (.bin (13) (.bin (6) (.var (⟨#[120]⟩)) (.var (⟨#[120]⟩))) (.num (49)))),IsOutX (.ok ⟨7,7,true⟩) (3) [] [],IsNb X8.heap.size zOut] [] ?_ ?_
 ·refine Rc zaq ?_
  refine Rc (cl (en func41) rfl rfl za za λv a w2 hE hd hf=>by
    have e0:(IsNe (.loop true (⟨#[120]⟩) (1) (10) (.bin (13) (.bin (6) (.var (⟨#[120]⟩)) (.var (⟨#[120]⟩))) (.num (49))))) (a.eval (.tmp 26)) w2:=((qA (fP:=IsNe (.loop true (⟨#[120]⟩) (1) (10) (.bin (13) (.bin (6) (.var (⟨#[120]⟩)) (.var (⟨#[120]⟩))) (.num (49))))) 0 26):Od _ _ _ _ _ _ _ _).out v a w2 hE hd hf;simp only[List.map_toArray,List.map_cons,List.map_nil]
    exact(by have h9:=alone_x (s0:=10) (res:=.ok ⟨7,7,true⟩) (left:=3) (rd:= []) (hy:= []) (SS:= []) (HT.out.ext (E.trans hE)) e0 dcx zd (wf_loop dcx (λi i1 i2=>wf_bin dcx (wf_bin dcx (wf_var zb) (wf_var zb)) (wf_num dcx))) za;rw[ksV_nil,zsV_nil]at h9;exact h9)) ?_
  refine Rc zac ?_;exact rn0
 intro v X9 e1 hZ _;obtain⟨g5,hv2,hg5,Bn⟩:=hZ 2 dcx;obtain⟨u,hu⟩:∃u,v 1=u:=⟨_,rfl⟩;have hO:(IsOutX (.ok ⟨7,7,true⟩) (3) [] []) u X9:=jz
 simp only[lxE,Nat.reduceAdd];rw[hv2,hu];clear hZ hv2 hu;refine stL (λK hK=>?_);refine stOut Bn hO (λu hu=>absurd hu List.not_mem_nil) (λu hu=>absurd hu List.not_mem_nil) (λX10 O5 O=>hK _ _ ?_);have e2:=O.ext e1 hg5;replace E:=E.trans e2;replace B1:=B1.ext e2;replace hx1:=IsNe.stb _ _ _ _ e2 hx1;replace B2:=B2.ext e2;replace hx2:=IsNe.stb _ _ _ _ e2 hx2;replace O3:=O3.ext e2;replace O4:=O4.ext e2;clear hK K O e1 e2 Bn hO;refine jE ?_;go_upto_region 6 with fail;refine rgs 3 [some 28,some 29,some 6] [IsNe (.loop true (⟨#[120]⟩) (1) (10) (.bin (13) (.bin (6) (.var (⟨#[120]⟩)) (.var (⟨#[120]⟩))) (.num (49)))),IsOutX (.ok ⟨4,11,false⟩) (0) [] [],IsNb X10.heap.size zOut] [] ?_ ?_
 ·refine Rc zaq ?_
  refine Rc (cl (en func41) rfl rfl za za λv a w2 hE hd hf=>by
    have e0:(IsNe (.loop true (⟨#[120]⟩) (1) (10) (.bin (13) (.bin (6) (.var (⟨#[120]⟩)) (.var (⟨#[120]⟩))) (.num (49))))) (a.eval (.tmp 28)) w2:=((qA (fP:=IsNe (.loop true (⟨#[120]⟩) (1) (10) (.bin (13) (.bin (6) (.var (⟨#[120]⟩)) (.var (⟨#[120]⟩))) (.num (49))))) 0 28):Od _ _ _ _ _ _ _ _).out v a w2 hE hd hf;simp only[List.map_toArray,List.map_cons,List.map_nil]
    exact(by have h9:=alone_x (s0:=3) (res:=.ok ⟨4,11,false⟩) (left:=0) (rd:= []) (hy:= []) (SS:= []) (HT.out.ext (E.trans hE)) e0 dcx zd (wf_loop dcx (λi i1 i2=>wf_bin dcx (wf_bin dcx (wf_var zb) (wf_var zb)) (wf_num dcx))) za;rw[ksV_nil,zsV_nil]at h9;exact h9)) ?_
  refine Rc zac ?_;exact rn0
 intro v X11 e1 hZ _;obtain⟨g6,hv2,hg6,Bn⟩:=hZ 2 dcx;obtain⟨u,hu⟩:∃u,v 1=u:=⟨_,rfl⟩;have hO:(IsOutX (.ok ⟨4,11,false⟩) (0) [] []) u X11:=jz
 simp only[lxE,Nat.reduceAdd];rw[hv2,hu];clear hZ hv2 hu;refine stL (λK hK=>?_);refine stOut Bn hO (λu hu=>absurd hu List.not_mem_nil) (λu hu=>absurd hu List.not_mem_nil) (λX12 O6 O=>hK _ _ ?_);have e2:=O.ext e1 hg6;replace E:=E.trans e2;replace B1:=B1.ext e2;replace hx1:=IsNe.stb _ _ _ _ e2 hx1;replace B2:=B2.ext e2;replace hx2:=IsNe.stb _ _ _ _ e2 hx2;replace O3:=O3.ext e2;replace O4:=O4.ext e2;replace O5:=O5.ext e2;clear hK K O e1 e2 Bn hO;refine jE ?_;go_upto_region 7 with fail;refine rgs 5 [some 30,some 31,some 32,some 33,some 7] [IsNe (.num (2)),IsNe (.cell (⟨#[97]⟩)),IsNe (.bin (4) (.num (2)) (.cell (⟨#[97]⟩))),IsOutX (.error 440) (0) [] [],IsNb X12.heap.size zOut] [] ?_ ?_
 ·refine Rc (cl (en func43) rfl rfl za za λv a w2 hE hd hf=>by
    simp only[List.map_toArray,List.map_cons,List.map_nil]
    exact num_f w2 _ dcx) ?_
  refine Rc bdCell ?_
  refine Rc (cl (en func28) rfl rfl za za λv a w2 hE hd hf=>by
    have e1:(IsNe (.num (2))) (a.eval (.tmp 30)) w2:=((qA (fP:=IsNe (.num (2))) 0 30):Od _ _ _ _ _ _ _ _).out v a w2 hE hd hf;have e2:(IsNe (.cell (⟨#[97]⟩))) (a.eval (.tmp 31)) w2:=((qA (fP:=IsNe (.cell (⟨#[97]⟩))) 1 31):Od _ _ _ _ _ _ _ _).out v a w2 hE hd hf;simp only[List.map_toArray,List.map_cons,List.map_nil]
    exact two_f _ e1 e2) ?_
  refine Rc (cl (en func41) rfl rfl za za λv a w2 hE hd hf=>by
    have e0:(IsNe (.bin (4) (.num (2)) (.cell (⟨#[97]⟩)))) (a.eval (.tmp 32)) w2:=((qA (fP:=IsNe (.bin (4) (.num (2)) (.cell (⟨#[97]⟩)))) 2 32):Od _ _ _ _ _ _ _ _).out v a w2 hE hd hf;simp only[List.map_toArray,List.map_cons,List.map_nil]
    exact(by have h9:=alone_x (s0:=0) (res:=.error 440) (left:=0) (rd:= []) (hy:= []) (SS:= []) (HT.out.ext (E.trans hE)) e0 dcx zd (wf_bin dcx (wf_num dcx) trivial) za;rw[ksV_nil,zsV_nil]at h9;exact h9)) ?_
  refine Rc zac ?_;exact rn0
 intro v X13 e1 hZ _;obtain⟨g7,hv4,hg7,Bn⟩:=hZ 4 dcx;obtain⟨u,hu⟩:∃u,v 3=u:=⟨_,rfl⟩;have hO:(IsOutX (.error 440) (0) [] []) u X13:=by rw[<-hu];exact hZ 3 dcx
 simp only[lxE,Nat.reduceAdd];rw[hv4,hu];clear hZ hv4 hu;refine stL (λK hK=>?_);refine stOut Bn hO (λu hu=>absurd hu List.not_mem_nil) (λu hu=>absurd hu List.not_mem_nil) (λX14 O7 O=>hK _ _ ?_);have e2:=O.ext e1 hg7;replace E:=E.trans e2;replace B1:=B1.ext e2;replace hx1:=IsNe.stb _ _ _ _ e2 hx1;replace B2:=B2.ext e2;replace hx2:=IsNe.stb _ _ _ _ e2 hx2;replace O3:=O3.ext e2;replace O4:=O4.ext e2;replace O5:=O5.ext e2;replace O6:=O6.ext e2;clear hK K O e1 e2 Bn hO;refine jE ?_;go_upto_region 8 with fail;refine rgs 1 [some 34] [IsNe (.val (⟨#[104,58,55]⟩) 0)] [] ?_ ?_
 ·refine Rc bdVal ?_;exact rn0
 intro v X15 e1 hZ _;obtain⟨u,hu⟩:∃u,v 0=u:=⟨_,rfl⟩;have hO:(IsNe (.val (⟨#[104,58,55]⟩) 0)) u X15:=by rw[<-hu];exact hZ 0 dcx
 simp only[lxE];rw[hu];clear hZ hu;obtain⟨us8,hus,hl8,hone,hnw,_⟩:=id hO;subst hus;refine stL (λK hK=>?_);refine xK (vs:=zNd) al_Nd (λBn e3=>hK _ _ ?_);obtain⟨g8,hg8⟩:∃g,X15.heap.size=g:=⟨_,rfl⟩;rw[hg8]at Bn ⊢;generalize X15.alloc (.cells zNd.toArray 31)=Y16 at Bn e3 ⊢;clear hK K
 go_simp
 refine stL (λK hK=>?_);refine qX (us:=us8) Bn st_Nd rfl hl8 nwZN (λX16 B8 O=>hK _ _ ?_) (ho1:=hone);have e4:=O.ext e3 (Nat.le_of_eq hg8);have e2:=e1.trans e4;have hx8:=IsNe.stb _ _ _ _ e4 hO;replace E:=E.trans e2;replace B1:=B1.ext e2;replace hx1:=IsNe.stb _ _ _ _ e2 hx1;replace B2:=B2.ext e2;replace hx2:=IsNe.stb _ _ _ _ e2 hx2;replace O3:=O3.ext e2;replace O4:=O4.ext e2;replace O5:=O5.ext e2;replace O6:=O6.ext e2;replace O7:=O7.ext e2;clear hK K O e1 e2 e3 e4 Bn hone hnw hO hg8;refine jE ?_;go_upto_region 9 with fail;refine rgs 3 [some 35,some 36,some 9] [IsNe (.val (⟨#[104,58,55]⟩) 0),IsOutX (.error 6) (0) [.string (⟨#[104,58,55]⟩)] [],IsNb X16.heap.size zOut] [] ?_ ?_
 ·refine Rc zar ?_
  refine Rc (cl (en func41) rfl rfl za za λv a w2 hE hd hf=>by
    have e0:(IsNe (.val (⟨#[104,58,55]⟩) 0)) (a.eval (.tmp 35)) w2:=((qA (fP:=IsNe (.val (⟨#[104,58,55]⟩) 0)) 0 35):Od _ _ _ _ _ _ _ _).out v a w2 hE hd hf;simp only[List.map_toArray,List.map_cons,List.map_nil]
    exact(by have h9:=alone_x (s0:=0) (res:=.error 6) (left:=0) (rd:= [(⟨#[104,58,55]⟩:ByteArray).data.toList]) (hy:= []) (SS:= [(⟨#[104,58,55]⟩:ByteArray).data.toList]) (HT.out.ext (E.trans hE)) e0 dcx zd ⟨by decide,by decide,List.mem_singleton.2 rfl,by decide,by decide,λp hp=>absurd hp List.not_mem_nil⟩ rfl;rw[ksV_one,encB,zsV_nil]at h9;exact h9)) ?_
  refine Rc zac ?_;exact rn0
 intro v X17 e1 hZ _;obtain⟨g9,hv2,hg9,Bn⟩:=hZ 2 dcx;obtain⟨u,hu⟩:∃u,v 1=u:=⟨_,rfl⟩;have hO:(IsOutX (.error 6) (0) [.string (⟨#[104,58,55]⟩)] []) u X17:=jz
 simp only[lxE,Nat.reduceAdd];rw[hv2,hu];clear hZ hv2 hu;refine stL (λK hK=>?_);refine stOut Bn hO ((λu hu b e=>by rw[List.mem_singleton.1 hu]at e;cases e)) (λu hu=>absurd hu List.not_mem_nil) (λX18 O9 O=>hK _ _ ?_);have e2:=O.ext e1 hg9;replace E:=E.trans e2;replace B1:=B1.ext e2;replace hx1:=IsNe.stb _ _ _ _ e2 hx1;replace B2:=B2.ext e2;replace hx2:=IsNe.stb _ _ _ _ e2 hx2;replace B8:=B8.ext e2;replace hx8:=IsNe.stb _ _ _ _ e2 hx8;replace O3:=O3.ext e2;replace O4:=O4.ext e2;replace O5:=O5.ext e2;replace O6:=O6.ext e2;replace O7:=O7.ext e2;clear hK K O e1 e2 Bn hO;refine jE ?_;go_upto_region 10 with fail;refine rgs 7 (dR 37 7) [IsV (.agg #[.slice none 0 0]),IsI 2 12,IsN1 12,IsI1 2,IsEnW (⟨#[104,58,55]⟩) ⟨[12], [2]⟩,IsV (.agg #[.int .i64 0,.int .i64 0,.int .i64 0]),IsSh1 (⟨#[104,58,55]⟩) ⟨[12], [2]⟩] [] ?_ ?_
 ·refine Rc bdShN ?_;refine Rc (cl1 (en func26) qF (λx0 w' hE d0=>by{obtain rfl:x0=.int .i64 12:=d0;exact ROf_f w' 12 dcx dcx})) ?_;refine Rc (bsN1 (qA (fP:=IsI 2 12) 1 38)) ?_;refine Rc bsI1 ?_;refine Rc (bdEnX (z:=12) (qA 2 39) (qA 3 40)) ?_;refine Rc bdSo ?_;refine Rc (cl3 (en func25) (qA (fP:=IsV (.agg #[.slice none 0 0])) 0 37) (qA (fP:=IsEnW (⟨#[104,58,55]⟩) ⟨[12], [2]⟩) 4 41) (qA (fP:=IsV (.agg #[.int .i64 0,.int .i64 0,.int .i64 0])) 5 42) (λx0 x1 x2 w' hE d0 d1 d2=>add_1 d0 d1 d2)) ?_;exact rn0
 intro v X19 e1 hZ _;obtain⟨sv,new,hsv,s2,s3,s4,s5,s6⟩:IsSh1 (⟨#[104,58,55]⟩) ⟨[12], [2]⟩ (v 6) X19:=hZ 6 dcx
 obtain⟨sa,sn,sc,hsl⟩:∃a n c,sv=.slice a n c:=by
  rcases s2 with⟨h,-⟩| ⟨g,c,rfl,-⟩
  ·cases h
  ·exact⟨_,_,_,rfl⟩
 subst hsl;simp only[lxE,Nat.reduceAdd];rw[hsv];clear hZ hsv;refine stL (λK hK=>?_);refine xK (vs:= [.slice none 0 0]) al_ShN (λBn e3=>hK _ _ ?_);obtain⟨g10,hg10⟩:∃g,X19.heap.size=g:=⟨_,rfl⟩;rw[hg10]at Bn ⊢;generalize X19.alloc (.cells [Value.slice none 0 0].toArray 39)=X20 at Bn e3 ⊢;clear hK K
 go_simp
 refine stL (λK hK=>?_);refine qX (us:= [.slice sa sn sc]) Bn st_Sh rfl rfl nwNilS (λX21 B10 O=>hK _ _ ?_);have e4:=O.ext e3 (Nat.le_of_eq hg10);have e2:=e1.trans e4;have HSH:=hid (IsSh1.stb (⟨#[104,58,55]⟩) ⟨[12], [2]⟩ _ _ _ e4 ⟨_,new,rfl,s2,s3,s4,s5,s6⟩);replace E:=E.trans e2;replace B1:=B1.ext e2;replace hx1:=IsNe.stb _ _ _ _ e2 hx1;replace B2:=B2.ext e2;replace hx2:=IsNe.stb _ _ _ _ e2 hx2;replace B8:=B8.ext e2;replace hx8:=IsNe.stb _ _ _ _ e2 hx8;replace O3:=O3.ext e2;replace O4:=O4.ext e2;replace O5:=O5.ext e2;replace O6:=O6.ext e2;replace O7:=O7.ext e2;replace O9:=O9.ext e2;clear hK K O e1 e2 e3 e4 Bn s2 s3 s4 s5 s6 hg10;refine jE ?_;go_upto_region 11 with fail;refine rgs 5 [some 44,some 45,some 46,some 47,some 11] [IsNe (.val (⟨#[104,58,55]⟩) 0),IsV (.agg #[.slice sa sn sc]),IsI2 1 2,IsOutX (.ok ⟨12,12,true⟩) (0) [.string (⟨#[104,58,55]⟩)] [.int .i64 2],IsNb X21.heap.size zOut] [] ?_ ?_
 ·refine Rc zar ?_;refine Rc (lvV B10 ld_Sh (qB 10)) ?_;refine Rc bsI2 ?_
  refine Rc (cl (en func16) rfl rfl za za λv a w2 hE hd hf=>by
    have e0:(IsNe (.val (⟨#[104,58,55]⟩) 0)) (a.eval (.tmp 44)) w2:=((qA (fP:=IsNe (.val (⟨#[104,58,55]⟩) 0)) 0 44):Od _ _ _ _ _ _ _ _).out v a w2 hE hd hf;have e1:(IsV (.agg #[.slice sa sn sc])) (a.eval (.tmp 45)) w2:=((qA (fP:=IsV (.agg #[.slice sa sn sc])) 1 45):Od _ _ _ _ _ _ _ _).out v a w2 hE hd hf;have e2:(IsI2 1 2) (a.eval (.tmp 46)) w2:=((qA (fP:=IsI2 1 2) 2 46):Od _ _ _ _ _ _ _ _).out v a w2 hE hd hf;simp only[List.map_toArray,List.map_cons,List.map_nil];rw[(e1:a.eval (.tmp 45)=_)]
    exact runV (HT.out.ext (E.trans hE)) e0 dcx (IsSh1.stb _ _ _ _ _ hE HSH.out) (irI2 e2)) ?_
  refine Rc zac ?_;exact rn0
 intro v X22 e1 hZ _;obtain⟨g11,hv4,hg11,Bn⟩:=hZ 4 dcx;obtain⟨u,hu⟩:∃u,v 3=u:=⟨_,rfl⟩;have hO:(IsOutX (.ok ⟨12,12,true⟩) (0) [.string (⟨#[104,58,55]⟩)] [.int .i64 2]) u X22:=by rw[<-hu];exact hZ 3 dcx
 simp only[lxE,Nat.reduceAdd];rw[hv4,hu];clear hZ hv4 hu;refine stL (λK hK=>?_);refine stOut Bn hO ((λu hu b e=>by rw[List.mem_singleton.1 hu]at e;cases e)) ((λu hu b e=>by rw[List.mem_singleton.1 hu]at e;cases e)) (λX23 O11 O=>hK _ _ ?_);have e2:=O.ext e1 hg11;replace E:=E.trans e2;replace B1:=B1.ext e2;replace hx1:=IsNe.stb _ _ _ _ e2 hx1;replace B2:=B2.ext e2;replace hx2:=IsNe.stb _ _ _ _ e2 hx2;replace B8:=B8.ext e2;replace hx8:=IsNe.stb _ _ _ _ e2 hx8;replace O3:=O3.ext e2;replace O4:=O4.ext e2;replace O5:=O5.ext e2;replace O6:=O6.ext e2;replace O7:=O7.ext e2;replace O9:=O9.ext e2;clear hK K O e1 e2 Bn hO;refine jE ?_;go_upto_region 12 with fail;clear HSH B10;refine rgs 32 (dR 48 32) [IsP g3 0,IsVh (.ok ⟨3,3,true⟩) [],IsV (.bool true),IsV (.bool false),IsV (.bool false),IsP g3 12,iV ((0:Nat):Int),IsV (.bool false),IsV (.bool false),IsV (.bool false),IsP g4 0,IsVh (.ok ⟨2,10,false⟩) [],IsV (.bool true),IsV (.bool false),IsV (.bool false),IsV (.bool false),IsP g5 0,IsVh (.ok ⟨7,7,true⟩) [],IsV (.bool true),IsV (.bool false),IsV (.bool false),IsV (.bool false),IsP g5 12,iV ((3:Nat):Int),IsV (.bool false),IsV (.bool false),IsV (.bool false),IsP g6 0,IsVh (.ok ⟨4,11,false⟩) [],IsV (.bool true),IsV (.bool false),IsV (.bool false)] [] ?_ ?_
 ·refine Rc (fa (qV g3) (qB 3)) ?_;refine Rc (ldVh O3 (qA (fP:=IsP g3 0) 0 48)) ?_
  refine Rc (cl (en func38) rfl rfl za za λv a w2 hE hd hf=>by
    have e0:(IsVh (.ok ⟨3,3,true⟩) []) (a.eval (.tmp 49)) w2:=((qA (fP:=IsVh (.ok ⟨3,3,true⟩) []) 1 49):Od _ _ _ _ _ _ _ _).out v a w2 hE hd hf;simp only[List.map_toArray,List.map_cons,List.map_nil]
    exact is_x e0 dcx dcx) ?_
  refine Rc (un (r:=.bool false) (qA (fP:=IsV (.bool true)) 2 50) zbq (hr:=λw=>by go_simp)) ?_;refine Rc (mv (qA (fP:=IsV (.bool false)) 3 51)) ?_;refine RcG 4 52 false (fa (fa_Out2 g3) (qB 3)) ?_;refine RcG 4 52 false (ldLeft O3 (qA (fP:=IsP g3 12) 5 53)) ?_;refine RcG 4 52 false (bn (r:=.bool false) (qA (fP:=iV ((0:Nat):Int)) 6 54) qF (hr:=λw=>by go_simp)) ?_;refine Rc (pk (qA (fP:=IsV (.bool false)) 4 52) (qA (fP:=IsV (.bool false)) 7 55)) ?_;refine Rc (mv (qA (fP:=IsV (.bool false)) 8 56)) ?_;refine RcG 9 57 false (fa (qV g4) (qB 4)) ?_;refine RcG 9 57 false (ldVh O4 (qA (fP:=IsP g4 0) 10 58)) ?_
  refine RcG 9 57 false (cl (en func38) rfl rfl za za λv a w2 hE hd hf=>by
    have e0:(IsVh (.ok ⟨2,10,false⟩) []) (a.eval (.tmp 59)) w2:=((qA (fP:=IsVh (.ok ⟨2,10,false⟩) []) 11 59):Od _ _ _ _ _ _ _ _).out v a w2 hE hd hf;simp only[List.map_toArray,List.map_cons,List.map_nil]
    exact is_x e0 dcx dcx) ?_
  refine RcG 9 57 false (un (r:=.bool false) (qA (fP:=IsV (.bool true)) 12 60) zbq (hr:=λw=>by go_simp)) ?_;refine Rc (pk (qA (fP:=IsV (.bool false)) 9 57) (qA (fP:=IsV (.bool false)) 13 61)) ?_;refine Rc (mv (qA (fP:=IsV (.bool false)) 14 62)) ?_;refine RcG 15 63 false (fa (qV g5) (qB 5)) ?_;refine RcG 15 63 false (ldVh O5 (qA (fP:=IsP g5 0) 16 64)) ?_
  refine RcG 15 63 false (cl (en func38) rfl rfl za za λv a w2 hE hd hf=>by
    have e0:(IsVh (.ok ⟨7,7,true⟩) []) (a.eval (.tmp 65)) w2:=((qA (fP:=IsVh (.ok ⟨7,7,true⟩) []) 17 65):Od _ _ _ _ _ _ _ _).out v a w2 hE hd hf;simp only[List.map_toArray,List.map_cons,List.map_nil]
    exact is_x e0 dcx dcx) ?_
  refine RcG 15 63 false (un (r:=.bool false) (qA (fP:=IsV (.bool true)) 18 66) zbq (hr:=λw=>by go_simp)) ?_;refine Rc (pk (qA (fP:=IsV (.bool false)) 15 63) (qA (fP:=IsV (.bool false)) 19 67)) ?_;refine Rc (mv (qA (fP:=IsV (.bool false)) 20 68)) ?_;refine RcG 21 69 false (fa (fa_Out2 g5) (qB 5)) ?_;refine RcG 21 69 false (ldLeft O5 (qA (fP:=IsP g5 12) 22 70)) ?_;refine RcG 21 69 false (bn (r:=.bool false) (qA (fP:=iV ((3:Nat):Int)) 23 71) qF (hr:=λw=>by go_simp)) ?_;refine Rc (pk (qA (fP:=IsV (.bool false)) 21 69) (qA (fP:=IsV (.bool false)) 24 72)) ?_;refine Rc (mv (qA (fP:=IsV (.bool false)) 25 73)) ?_;refine RcG 26 74 false (fa (qV g6) (qB 6)) ?_;refine RcG 26 74 false (ldVh O6 (qA (fP:=IsP g6 0) 27 75)) ?_
  refine RcG 26 74 false (cl (en func38) rfl rfl za za λv a w2 hE hd hf=>by
    have e0:(IsVh (.ok ⟨4,11,false⟩) []) (a.eval (.tmp 76)) w2:=((qA (fP:=IsVh (.ok ⟨4,11,false⟩) []) 28 76):Od _ _ _ _ _ _ _ _).out v a w2 hE hd hf;simp only[List.map_toArray,List.map_cons,List.map_nil]
    exact is_x e0 dcx dcx) ?_
  refine RcG 26 74 false (un (r:=.bool false) (qA (fP:=IsV (.bool true)) 29 77) zbq (hr:=λw=>by go_simp)) ?_;refine Rc (pk (qA (fP:=IsV (.bool false)) 26 74) (qA (fP:=IsV (.bool false)) 30 78)) ?_;exact rn0
 intro v X24 e1 hZ _;simp only[lxE,Nat.reduceAdd];rw[show v 31=.bool false from hZ 31 dcx];clear hZ;replace E:=E.trans e1;replace B1:=B1.ext e1;replace hx1:=IsNe.stb _ _ _ _ e1 hx1;replace B2:=B2.ext e1;replace hx2:=IsNe.stb _ _ _ _ e1 hx2;replace B8:=B8.ext e1;replace hx8:=IsNe.stb _ _ _ _ e1 hx8;replace O3:=O3.ext e1;replace O4:=O4.ext e1;replace O5:=O5.ext e1;replace O6:=O6.ext e1;replace O7:=O7.ext e1;replace O9:=O9.ext e1;replace O11:=O11.ext e1;clear e1;refine jE ?_;go_upto_region 14 with fail;obtain⟨gn,nn,cn,cN1,cN2⟩:=O9.rd;obtain⟨gi,ni,ci,cI1,cI2⟩:=O11.hy;have eR7:World.cell? X24 ⟨g7,10,none⟩=some (.int .i64 440):=O7.err;have eR9:World.cell? X24 ⟨g9,10,none⟩=some (.int .i64 6):=O9.err;refine rgs 29 [some 80,some 81,some 82,some 83,some 84,some 85,some 86,some 87,some 88,some 89,some 90,some 91,some 92,some 93,some 94,some 95,some 96,some 97,some 98,some 99,some 100,some 101,some 102,some 103,some 104,some 105,some 106,some 107,some 0] [IsP g7 0,IsP g7 10,iV 440,IsV (.bool true),IsV (.bool true),IsP g9 0,IsP g9 10,iV 6,IsV (.bool true),IsV (.bool true),IsV (.bool true),IsP g9 11,IsV (.slice gn nn cn),IsS1 (⟨#[104,58,55]⟩),IsV (.bool true),IsV (.bool true),IsV (.bool true),IsP g11 0,IsVh (.ok ⟨12,12,true⟩) [.int .i64 2],IsV (.bool true),IsV (.bool true),IsV (.bool true),IsP g11 0,IsP g11 9,IsV (.slice gi ni ci),IsI1 2,IsV (.bool true),IsV (.bool true),IsV (.bool true)] [] ?_ ?_
 ·refine Rc (fa (qV g7) (qB 7)) ?_;refine Rc (fa (fa_Vl3 g7) (qA (fP:=IsP g7 0) 0 80)) ?_;refine Rc (lv (fP:=iV 440) _ (λw' e=>ld_e w' _ _ (e.cell eR7)) (qA 1 81) (λ_ _=>rfl)) ?_;refine Rc (bn (r:=.bool true) (qA (fP:=iV 440) 2 82) qF (hr:=λw=>by go_simp)) ?_;refine Rc (mv (qA (fP:=IsV (.bool true)) 3 83)) ?_;refine RcG 4 84 true (fa (qV g9) (qB 9)) ?_;refine RcG 4 84 true (fa (fa_Vl3 g9) (qA (fP:=IsP g9 0) 5 85)) ?_;refine RcG 4 84 true (lv (fP:=iV 6) _ (λw' e=>ld_e w' _ _ (e.cell eR9)) (qA 6 86) (λ_ _=>rfl)) ?_;refine RcG 4 84 true (bn (r:=.bool true) (qA (fP:=iV 6) 7 87) qF (hr:=λw=>by go_simp)) ?_;refine Rc (pk (qA (fP:=IsV (.bool true)) 4 84) (qA (fP:=IsV (.bool true)) 8 88)) ?_;refine Rc (mv (qA (fP:=IsV (.bool true)) 9 89)) ?_;refine RcG 10 90 true (fa (fa_Out1 g9) (qB 9)) ?_;refine RcG 10 90 true (lv (fP:=IsV (.slice gn nn cn)) _ (λw' e=>ld_aStr w' _ _ (e.cell cN1)) (qA 11 91) (λ_ _=>rfl)) ?_;refine RcG 10 90 true bsS1 ?_
  refine RcG 10 90 true (cl (en func24) rfl rfl za za λv a w2 hE hd hf=>by
    have e0:(IsV (.slice gn nn cn)) (a.eval (.tmp 92)) w2:=((qA (fP:=IsV (.slice gn nn cn)) 12 92):Od _ _ _ _ _ _ _ _).out v a w2 hE hd hf;have e1:(IsS1 (⟨#[104,58,55]⟩)) (a.eval (.tmp 93)) w2:=((qA (fP:=IsS1 (⟨#[104,58,55]⟩)) 13 93):Od _ _ _ _ _ _ _ _).out v a w2 hE hd hf;simp only[List.map_toArray,List.map_cons,List.map_nil];rw[(e0:a.eval (.tmp 92)=_)]
    exact(sameS_t (l:= [(⟨#[104,58,55]⟩:ByteArray).data.toList]) (by have h9:=cN2.ext hE;rw[<-encB]at h9;exact h9) (s1_rw e1) zd)) ?_
  refine Rc (pk (qA (fP:=IsV (.bool true)) 10 90) (qA (fP:=IsV (.bool true)) 14 94)) ?_;refine Rc (mv (qA (fP:=IsV (.bool true)) 15 95)) ?_;refine RcG 16 96 true (fa (qV g11) (qB 11)) ?_;refine RcG 16 96 true (ldVh O11 (qA (fP:=IsP g11 0) 17 97)) ?_
  refine RcG 16 96 true (cl (en func38) rfl rfl za za λv a w2 hE hd hf=>by
    have e0:(IsVh (.ok ⟨12,12,true⟩) [.int .i64 2]) (a.eval (.tmp 98)) w2:=((qA (fP:=IsVh (.ok ⟨12,12,true⟩) [.int .i64 2]) 18 98):Od _ _ _ _ _ _ _ _).out v a w2 hE hd hf;simp only[List.map_toArray,List.map_cons,List.map_nil]
    exact is_x e0 dcx dcx) ?_
  refine Rc (pk (qA (fP:=IsV (.bool true)) 16 96) (qA (fP:=IsV (.bool true)) 19 99)) ?_;refine Rc (mv (qA (fP:=IsV (.bool true)) 20 100)) ?_;refine RcG 21 101 true (fa (qV g11) (qB 11)) ?_;refine RcG 21 101 true (fa (fa_Vl2 g11) (qA (fP:=IsP g11 0) 22 102)) ?_;refine RcG 21 101 true (lv (fP:=IsV (.slice gi ni ci)) _ (λw' e=>ld_ai w' _ _ (e.cell cI1)) (qA 23 103) (λ_ _=>rfl)) ?_;refine RcG 21 101 true bsI1 ?_
  refine RcG 21 101 true (cl (en func44) rfl rfl za za λv a w2 hE hd hf=>by
    have e0:(IsV (.slice gi ni ci)) (a.eval (.tmp 104)) w2:=((qA (fP:=IsV (.slice gi ni ci)) 24 104):Od _ _ _ _ _ _ _ _).out v a w2 hE hd hf;have e1:(IsI1 2) (a.eval (.tmp 105)) w2:=((qA (fP:=IsI1 2) 25 105):Od _ _ _ _ _ _ _ _).out v a w2 hE hd hf;simp only[List.map_toArray,List.map_cons,List.map_nil];rw[(e0:a.eval (.tmp 104)=_)]
    exact(sameI_t (l:= [2]) (cI2.ext hE) (i1_rw e1) zd)) ?_
  refine Rc (pk (qA (fP:=IsV (.bool true)) 21 101) (qA (fP:=IsV (.bool true)) 26 106)) ?_;refine Rc (mv (qA (fP:=IsV (.bool true)) 27 107)) ?_;exact rn0
 intro v X25 e1 hZ _;simp only[lxE,Nat.reduceAdd];rw[show v 28=.bool true from hZ 28 dcx];clear hZ;replace E:=E.trans e1;replace B1:=B1.ext e1;replace hx1:=IsNe.stb _ _ _ _ e1 hx1;replace B2:=B2.ext e1;replace hx2:=IsNe.stb _ _ _ _ e1 hx2;replace B8:=B8.ext e1;replace hx8:=IsNe.stb _ _ _ _ e1 hx8;replace O3:=O3.ext e1;replace O4:=O4.ext e1;replace O5:=O5.ext e1;replace O6:=O6.ext e1;replace O7:=O7.ext e1;replace O9:=O9.ext e1;replace O11:=O11.ext e1;clear e1;refine jE ?_;go_wp2_with fail
 go_ret
 exact⟨_,rfl,E,rfl⟩
end
end Go.Proofs.YtkeikfekkdplgaaGreatDoor
