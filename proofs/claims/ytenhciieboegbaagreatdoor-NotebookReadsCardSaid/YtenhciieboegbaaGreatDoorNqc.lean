/-
  The reference's Parse (ParseIn) answers what Parse answers. (Printed by wip/gen/nqc.py.)
-/
import Derived.Test.YtenhciieboegbaaGreatDoorNqb
namespace Go.Proofs.YtenhciieboegbaaGreatDoor
open Go Go.RowKit Go.Maps
open Go.Proofs.Tryz
theorem RwK.zero(w:World){base:Nat}(hb:base<=w.heap.size):RwK 34 9 base [] (.slice (some ⟨w.heap.size,0,none⟩) 0 0) (w.alloc (.cells #[] 34)):=by
  refine⟨⟨by simp,.inr ⟨w.heap.size,0,#[],rfl,hb,World.alloc_heap_new _ _,?_,?_,?_,?_⟩⟩,λg cs e fz h1 h2=>?_⟩
  all_goals first| (simp;done)|skip
  obtain rfl:w.heap.size=g:=by injection h1
  rw[World.alloc_heap_new]at h2;injection h2 with h2;injection h2 with h2;subst h2;intro u hu;simp at hu
theorem SrcR.stb(m:Nat)(news:List Value):Stb (SrcR m news):=λ_ _ _ e h=>h.ext e
instance (m:Nat) (news:List Value):StbC (SrcR m news):=⟨SrcR.stb m news⟩
structure PqW (w:World) (l:List Cl) (M:List (List Value)) (lv:Value) (X:World):Prop where
  e:Ext w X
  b:Bk X w.heap.size [.slice none 0 0,.int .i64 0]
  rw:RwK 34 9 (w.heap.size+1) M lv X
  cr:CsR (w.heap.size+1) lv.ownBlock X l M
section
variable {ops:Array Oper} {Q:Exit->Act->World->Prop} {ds:List (Option Tmp)} {a0:Act} {w0:World} {L:List (Value->World->Prop)} {boxes:List Nat} {i k:Nat} {o:Oper} {os:List Oper} {a:Act} {w:World}
theorem bsClG{us:List Value}{x:Operand}(hu:us.length=9)(h1:us.all (λu=>u.oneCell')=true)(hx:Od ops ds a0 w0 L i x (IsV (.agg us.toArray)))(ho:o.op=.buildSlice 25 1 #[(0,x)]:=by rfl)(hi:L.getD i (λ_ _=>True)=SrcR 1 us:=by kernel_rfl)(hb:boxes.contains i=false:=by kernel_rfl):Ok prog ops Q ds a0 w0 L boxes i o:=
  ⟨λv a w hE hd hf K hK=>wp_bsC hu h1 (λe hs=>hK.out _ _ e (by rw[hi];exact hs) (FreshIf.no hb)) (hx.out v a w hE hd hf) ho⟩
theorem lbs0(h:∀g W',IsSg [] (.slice (some ⟨g,0,none⟩) 0 0) W'->Ext w W'->wpList prog ops Q os (a.put o.dst (.slice (some ⟨g,0,none⟩) 0 0)) W')(ho:o.op=.buildSlice 53 0 #[]:=by rfl)(hg:o.guard=none:=by rfl):wpList prog ops Q (o ::os) a w:=
  stL (λK hK=>by
    have hr:(Instr.buildSlice 53 0 #[]).run prog w=.ok (.slice (some ⟨w.heap.size,0,none⟩) 0 0) (w.alloc (.cells #[] 9)):=xh
    have hrun:(execOp a.eval o).run prog w=.ok (.value (.slice (some ⟨w.heap.size,0,none⟩) 0 0)) (w.alloc (.cells #[] 9)):=by
      unfold execOp;rw[ho];dsimp only;simp[hr]
    unfold Oper.wp;rw[hrun]
    exact hK _ _ (h _ _ ⟨_,0,rfl,λj s hj=>by simp at hj⟩ ((Ext.refl _).alloc _))) hg
end
section
set_option maxRecDepth 100000
set_option maxHeartbeats 16000000
theorem st_Cells:StV prog 47 2:=stM zc
theorem bd_CsE{w:World}{e:Int}:(Instr.build 47 #[(1,.int .i64 e)]).run prog w=.ok (.agg ([.slice none 0 0,.int .i64 e]:List Value).toArray) w:=by go_simp
theorem bd_CsL{w:World}{ao:Option Addr}{m c:Nat}:(Instr.build 47 #[(0,.slice ao m c)]).run prog w=.ok (.agg ([.slice ao m c,.int .i64 0]:List Value).toArray) w:=by go_simp
theorem bd_Tx{w:World}{b:ByteArray}:(Instr.build 40 #[(0,.string b)]).run prog w=.ok (.agg #[.string b,.int .i64 0]) w:=by go_simp
theorem tx_ne{x y:Operand}(a b:ByteArray)(z:Int)(r:Bool)(hr:(!((a.toList==b.toList)&&(z==0)))=r)(w:World):Sem.run prog (do eqGuard .neq 40 x y (.agg #[.string a,.int .i64 z]) (.agg #[.string b,.int .i64 0]);binOp .neq 40 (.agg #[.string a,.int .i64 z]) (.agg #[.string b,.int .i64 0])) w=.ok (.bool r) w:=by
  subst hr
  go_simp
  by_cases h:a.toList=b.toList <;> by_cases h2:z=0 <;> simp[h,h2]
theorem bd_Cell{w:World}{b:ByteArray}{us:List Value}(hl:us.length=8):(Instr.build 34 #[(0,.string b),(1,.agg us.toArray)]).run prog w=.ok (.agg (Value.string b ::us).toArray) w:=by
  match us,hl with
  | [u0,u1,u2,u3,u4,u5,u6,u7],_=>go_simp
theorem ex_neg{s:List UInt8}{v d:Value}{w:World}:Calls prog 42 #[qB s,.int .i64 (-1),v,d] w (Ret w (IsV (.agg noV.toArray))):=by
  obtain⟨sb,hsb⟩:∃y:ByteArray,(⟨s.toArray⟩:ByteArray)=y:=⟨_,rfl⟩;obtain⟨W,hW,E,B⟩:∃W,W=w.alloc (.cells zRd.toArray 82)/\Ext w W/\Bk W w.heap.size zRd:=zg;unfold zRd zNd at hW;simp only[List.cons_append,List.nil_append]at hW;have HB:=hid B;have HE:=hid E;rw[qB,hsb];clear B E hsb;go_enter func42,ntmps42;go_upto_region 1 with fail;rw[<-hW];clear hW;go_upto_region 2 with fail;refine wp_region_lit (lca [] (en func81) (none_r _) (λv W2 e8 hv=>?_));obtain rfl:v=.agg noV.toArray:=hv;refine lst noV (HB.out.ext e8) xO rfl rfl zB rfl (λW2a B9 O=>zI ?_);go_wp2_with fail;exact zH (jU results42 zc (lvM zc zc rfl B9)) rfl ⟨_,rfl,O.ext (HE.out.trans e8) (zN _),rfl⟩
theorem nwCells:∀v∈([.slice none 0 0,.int .i64 0]:List Value),NoWord v:=λv hv=>by
  simp only[List.mem_cons,List.not_mem_nil,or_false]at hv;rcases hv with rfl|rfl
  ·exact nwSl _ _ _
  ·exact NoWord.int64 _
theorem tNqc_1{P:Prop}(h:P:=by
  go_upto_region 10 with(go_at_call 43;go_must (refine zG (HA2.out _) ?_;rintro e w1 ⟨rfl,rfl⟩));refine wp_region_lit (lb1 (.agg ([.slice none 0 0,.int .i64 420]:List Value).toArray) bd_CsE ?_);refine lst [.slice none 0 0,.int .i64 420] (HP.out.b.ext HE4.out) st_Cells rfl rfl nwCells rfl (λW10 B9 O=>zI ?_);go_wp2_with fail;exact zH (jU results20 zc (lvM zc zc rfl B9)) rfl ⟨_,rfl,O.ext (HP.out.e.trans HE4.out) (zN _),.slice none 0 0,by rw[HR.out],by rw[HR.out];exact IsCs.nil _ _⟩
  ):P:=h
theorem ParseIn_f{s:List UInt8}{w:World}(hs:s.length<=1000000):Calls prog 20 #[qB s] w (Ret w (IsPa w.heap.size (paR s).1 (paR s).2)):=by
  obtain⟨sb,hsb⟩:∃y:ByteArray,(⟨s.toArray⟩:ByteArray)=y:=⟨_,rfl⟩;obtain⟨n,hn⟩:∃n,s.length=n:=⟨_,rfl⟩;have hsz:sb.size=n:=jp
  obtain⟨W,hW,E,B⟩:∃W,W=w.alloc (.cells #[.slice none 0 0,.int .i64 0] 47)/\Ext w W/\Bk W w.heap.size [.slice none 0 0,.int .i64 0]:=zg;have HB:=hid B;have HE:=hid E;have HS:=hid (zL hsb (zL hn hs));clear B E;by_cases h1:20000<n
  · have h2:(20000:Int)<(n:Int):=by omega
    have HR:=hid (show paR s=([],2)by rw[paR,if_pos (by omega)]);rw[qB,hsb];clear hsb hn hs h1;go_enter func20,ntmps20;go_upto_region 1 with fail;rw[<-hW];clear hW;go_upto_region 2 with fail;refine wp_region_lit (lb1 (.agg ([.slice none 0 0,.int .i64 2]:List Value).toArray) bd_CsE ?_);refine lst [.slice none 0 0,.int .i64 2] HB.out st_Cells rfl rfl nwCells rfl (λW2 B9 O=>zI ?_);go_wp2_with fail;exact zH (jU results20 zc (lvM zc zc rfl B9)) rfl ⟨_,rfl,O.ext HE.out (zN _),.slice none 0 0,by rw[HR.out],by rw[HR.out];exact IsCs.nil _ _⟩
  have h2:¬(20000:Int)<(n:Int):=ze
  have HL:=hid (show s.length<=20000 by omega);rw[qB,hsb];clear hsb hn hs h1;go_enter func20,ntmps20;go_upto_region 1 with fail;rw[<-hW];clear hW;go_upto_region 3 with fail;clear h2
  obtain⟨W3,hW1,P0⟩:∃W3,W3=W.alloc (.cells #[] 34)/\PqW w [] [] (.slice (some ⟨W.heap.size,0,none⟩) 0 0) W3:=by
    have e:=(Ext.refl W).alloc (.cells #[] 34);exact⟨_,rfl,HE.out.trans e,HB.out.ext e,RwK.zero W HB.out.lt,CsR.nil _ _ _⟩
  have HP0:=hid P0;obtain⟨g3,hg3⟩:∃g,W.heap.size=g:=⟨_,rfl⟩;refine wp_region_lit ?_;refine wpList_step λK hK=>?_
  go_simp
  rw[<-hW1];refine hK _ _ ?_;clear hK K hW1 P0;rw[hg3]at HP0;refine lmv (zI ?_);clear hg3 HB HE
  try go_simp
  go_wp2_with fail
  go_loopg [3,4] n (λgk v3 v4 wr=>∃(i m cp:Nat) (ao:Option Addr),v3=.slice ao m cp/\v4=.int .i64 (i:Int)/\i+gk=n/\Hid (∃(l:List Cl) (M:List (List Value)) (k:Nat),PqW w l M (.slice ao m cp) wr/\l.length=m/\m<=41/\n<=i+k/\(∀c∈l,hgN 20 c.e)/\clR s.length 0 s=(clR k m (s.drop i)).map (l++ ·)))
  case atStart=>exact⟨0,0,0,_,rfl,rfl,by omega,hid ⟨[], [],s.length,HP0.out,rfl,by decide,by rw[HS.out.2.1];omega,λc hc=>(by cases hc),by rw[List.drop_zero];cases clR s.length 0 s <;> rfl⟩⟩
  case round=>
    obtain⟨i,m,cp,ao,rfl,rfl,hg,S⟩:=hrel;obtain⟨l,M,k,hP,hlm,hm,hk,hHG,hT⟩:=S.out;have HP:=hid hP;have HM:=hid (zL hlm hm);have HK:=hid hk;have HT:=hid hT;have HG:=hid hg;have HHG:=hid hHG;clear S hP hlm hm hk hT hg hHG;by_cases hi:i<n
    · have hil:(i:Int)<(n:Int):=by omega
      obtain⟨T,hT⟩:∃T,runI s i=T:=⟨_,rfl⟩;have hi2:i<=s.length:=by rw[HS.out.2.1];omega
      have HRU:=hid (λw'=>run_f s i w' HS.out.2.2 hi2);rw[qB,HS.out.1,hT]at HRU;obtain⟨nm,hnm⟩:∃l,(s.drop i).takeWhile qH=l:=⟨_,rfl⟩;have hrp:=run_parts hT;rw[hnm]at hrp;have hTl:=runI_le hi2;rw[hT]at hTl;obtain⟨nb,hnb⟩:∃y:ByteArray,(⟨nm.toArray⟩:ByteArray)=y:=⟨_,rfl⟩;have hex:sb.extract i T=nb:=by rw[<-HS.out.1,ba_ex,hrp.1,hnb]
      have HEX9:=hid (zL hex (show(i:Int)<=(T:Int)/\(T:Int)<=(sb.size:Int)by rw[hsz];have:=HS.out.2.1;omega));have HNB:=hid (zL hnb (show nm.length<=1000000 by rw[<-hnm];have:=(xR qH (s.drop i)).1;rw[List.length_drop]at this;have:=HS.out.2.2;omega));obtain⟨k,rfl⟩:∃k',k=k'+1:=⟨k-1,by have:=HK.out;omega⟩
      have HT1:=hid (show clR s.length 0 s=((qG [32,61,32] (s.drop T)).bind λs1=>(exR 20 [] s1).bind λq=>(qG [10] q.2).bind λs3=>if 40<m then none else(clR k (m+1) s3).bind λl'=>some (⟨nm,q.1⟩ ::l')).map (l++ ·)by
        rw[HT.out,clR_one (λe=>by have:=congrArg List.length e;rw[List.length_drop]at this;simp at this;have h8:=HS.out.2.1;omega),hrp.2,hnm])
      obtain⟨q1,hq1⟩:∃q,aftI s (T:Int) [32,61,32]=q:=⟨_,rfl⟩;have HA1:=hid (after_r HS.out.1 (xb:=⟨#[32,61,32]⟩) rfl hq1 HS.out.2.2 dcx ze ze)
      obtain ⟨U,HU⟩:∃U,Hid ((∀w' v,IsSg [] v w'->Calls prog 42 #[qB s,.int .i64 q1,v,.int .i64 20] w' (Ret w' (IsRd w'.heap.size s U)))/\(∀x t,U=some (x,t)->hgN 20 x/\T+3+t.length<=s.length)/\clR s.length 0 s=(U.bind λq=>(qG [10] q.2).bind λs3=>if 40<m then none else(clR k (m+1) s3).bind λl'=>some (⟨nm,q.1⟩ ::l')).map (l++ ·)):=by
        rcases jW hTl.2 [32,61,32]with⟨k1,k2⟩| ⟨k1,k2,k3⟩
        · refine⟨none,hid ⟨λw' v _=>?_,λx t h=>(by cases h),by rw[HT1.out,k1];rfl⟩⟩
          rw[<-hq1,k2];exact ret_up ex_neg (λ_ _ h=>by rw[show _=_ from h];exact jP rfl)
        · refine⟨exR 20 [] (s.drop (T+([32,61,32]:List UInt8).length)),hid ⟨λw' v hv=>?_,λx t h=>⟨exR_hg 20 [] h,?_⟩,by rw[HT1.out,k1];rfl⟩⟩
          · rw[<-hq1,k2]
            exact ex_all 20 [] s _ v w' hv dcx HS.out.2.2 k3
          · have h9:=exR_len 20 [] h
            rw[List.length_drop]at h9;simp only[List.length_cons,List.length_nil]at h9 k3;omega
      rw[qB,HS.out.1]at HU;have HII:=hid (zL hi (zL hTl hi2));clear hi hT hnm hrp hTl hnb hex hq1 HT HT1 hi2;go_upto_region 7 with(go_at_call 41;go_must (refine zG (HRU.out _) ?_;rintro e w1 ⟨rfl,rfl⟩));clear hil;refine wp_region_lit (lmv (lmv (lmv (lca [.string sb,.int .i64 (T:Int),.string ⟨#[32,61,32]⟩] (en func43) (HA1.out _) (λv X1 e1 hv=>?_)))));obtain rfl:v=.int .i64 q1:=hv;refine lbs0 (λg24 X2 hsg e2=>?_);refine lca [.string sb,.int .i64 q1,.slice (some ⟨g24,0,none⟩) 0 0,.int .i64 20] (en func42) (HU.out.1 _ _ hsg) (λv X3 e3 hv=>?_);obtain⟨x,us,p,rfl,hx,hp⟩:=hv;refine lbx (us++ [Value.int .i64 p]) al_Rd xO rfl (jT hx.len) zB (one_fit hx.nw.2) (λg6 X4 hg6 B6 e4=>zI ?_);have HE4:=hid (((e1.trans e2).trans e3).trans e4);have HX2:=hid (zL (e1.trans e2).size hsg);have HB6:=hid B6;have HX:=hid (hx.ext e4);have c8:=B6.c 8 (.int .i64 p) jk;clear e1 e2 e3 e4 hg6 B6 hx hsg
      try go_simp
      rcases hp with⟨hn,rfl⟩| ⟨a',rfl,hal,ho⟩
      · have HR:=hid (show paR s=([],420)from paR_no HL.out (by rw[HU.out.2.2,hn];rfl))
        have HA2:=hid (jS HS.out.1 (xb:=⟨#[10]⟩) rfl (show aftI s (-1) [10]= -1 from rfl) HS.out.2.2 dcx dcx ze);clear hn;exact tNqc_1
      obtain⟨q2,hq2⟩:∃q,aftI s (a':Int) [10]=q:=⟨_,rfl⟩;have HA2:=hid (jS HS.out.1 (xb:=⟨#[10]⟩) rfl hq2 HS.out.2.2 dcx ze ze);rcases jW hal [10]with⟨k1,k2⟩| ⟨k1,k2,k3⟩
      · obtain rfl:q2= -1:=by rw[<-hq2,k2]
        have HR:=hid (show paR s=([],420)from paR_no HL.out (by rw[HU.out.2.2,ho];show((qG [10] (s.drop a')).bind _).map _=_;rw[k1];rfl));clear hq2 k1 k2 ho hal;exact tNqc_1
      obtain⟨m9,hm9⟩:∃m,a'+([10]:List UInt8).length=m:=⟨_,rfl⟩;have hgx:=HU.out.2.1 x _ ho;rw[List.length_drop]at hgx;rw[hm9]at k1 k2 k3;obtain rfl:q2=(m9:Int):=by rw[<-hq2,k2]
      have hm0:¬((m9:Int)<0):=ze
      have HT2:=hid (show clR s.length 0 s=(if 40<m then none else(clR k (m+1) (s.drop m9)).bind λl'=>some (⟨nm,x⟩ ::l')).map (l++ ·)by rw[HU.out.2.2,ho];show((qG [10] (s.drop a')).bind _).map _=_;rw[k1];rfl);have HM9:=hid (show i+4<=m9/\m9<=s.length by have:=HII.out.2.1;simp at hm9;omega);have HGX:=hid hgx.1;clear hq2 k1 k2 k3 ho hal hm9 hgx;by_cases h40:40<m
      · have h4:(40:Int)<(m:Int):=by omega
        have HR:=hid (show paR s=([],420)from paR_no HL.out (by rw[HT2.out,if_pos h40];rfl));clear h40;exact tNqc_1
      have h4:¬(40:Int)<(m:Int):=ze
      have HT3:=hid (show clR s.length 0 s=(clR k (m+1) (s.drop m9)).map ((l++ [⟨nm,x⟩])++ ·)by rw[HT2.out,if_neg h40];cases clR k (m+1) (s.drop m9) <;> simp);have HM4:=hid (show m<=40 by omega);clear h40;go_upto_region 11 with(go_at_call 43;go_must (refine zG (HA2.out _) ?_;rintro e w1 ⟨rfl,rfl⟩));clear h4 hm0 c8
      have HCO:=hid (show(qB nm ::us).length=9/\(qB nm ::us).all (λu=>u.oneCell')=true by
        refine⟨by rw[List.length_cons,HX.out.len],by rw[List.all_cons,HX.out.nw.2];rfl⟩)
      have HNE:=hid (show qB nm=.string nb by rw[qB,HNB.out.1]);refine rg 9 (dR 38 9) [IsV (.slice ao m cp),IsV (.string sb),iV (i:Int),iV (T:Int),IsV (.string nb),IsP g6 0,IsV (.agg us.toArray),IsV (.agg (qB nm ::us).toArray),SrcR 1 (qB nm ::us)] [] 2 ?_ ?_
      · refine Rc (mv (qC (x:=.slice ao m cp) 3)) ?_
        refine Rc xe ?_;refine Rc jl ?_;refine Rc (mv (qC (x:=.int .i64 (T:Int)) 5)) ?_;refine Rc (slG (qA (fP:=IsV (.string sb)) 1 39) (qA (fP:=iV (i:Int)) 2 40) (qA (fP:=iV (T:Int)) 3 41) HEX9.out.1 HEX9.out.2.1 HEX9.out.2.2) ?_;refine Rc (fa (λw=>fa_Rd0 w g6) (qC 6)) ?_;refine Rc (lv (fP:=IsV (.agg us.toArray)) _ (λw' e=>ld_N (HB6.out.ext e) HX.out.len) (qA 5 43) (λ_ _=>rfl)) ?_;refine Rc (bd2G (qA (fP:=IsV (.string nb)) 4 42) (qA (fP:=IsV (.agg us.toArray)) 6 44) (T:=34) (m:=0) (n:=1) (v9:=.agg (qB nm ::us).toArray) (λw=>by rw[HNE.out];exact bd_Cell HX.out.len)) ?_;refine Rc (bsClG HCO.out.1 HCO.out.2 (qA 7 45)) ?_;exact rn0
      intro y X5 e5 hΦ _;have v8:=hΦ 8 dcx;have v0:y 0=.slice ao m cp:=hΦ 0 dcx;simp only[lxE,Nat.reduceAdd];rw[v0];clear v0;have HSR:SrcR 1 (qB nm ::us) (y 8) X5:=v8;have HE5:=hid (HE4.out.trans e5);have HX5:=hid (HX.out.ext e5);have HB5:=hid (HP.out.b.ext HE5.out);have HRW5:=hid (HP.out.rw.ext HE5.out);have HCR5:=hid (HP.out.cr.kc (Kc.ext HE5.out));clear v8 hΦ e5;have hbz:=HP.out.b.lt;have hsz5:=HE5.out.size;have hx2:=HX2.out.1;refine stA 9 rfl (λK hK=>wp_clo 47 (.tmp 38) (.tmp 46) rfl (w.heap.size+1) M (qB nm ::us) (.slice ao m cp) (y 8) zc zc HRW5.out ⟨HCO.out.1,λv hv=>by rcases List.mem_cons.1 hv with rfl|hv;exact NoWord.string _;exact HX5.out.nw.1 v hv,HCO.out.2⟩ HSR (by rw[HP.out.cr.1];have:=HM.out;omega) ze (λv6 X6 q1 q2 q3 q4=>hK _ _ ?_));clear hK K;have HNO:∀g,(Value.slice ao m cp).ownBlock=some g->w.heap.size+1<=g/\g<wr.heap.size:=World.ownsRow.lt HP.out.rw.1;have HX6:NdI v6.ownBlock (w.heap.size+1) X6 x us:=(NdI.of HX5.out ze (λg e=>by have:=(HNO g e).2;omega)).grown q2 q3 q4;have HCR6:=(HCR5.out.grown q2 q3 q4).snoc (c:=⟨nm,x⟩) HNB.out.2 HX6;have HB6':=jO HB5.out q2 (λe=>by have:=(HNO _ e).1;omega);have HE6:Ext w X6:=Below.grown (HP.out.e.trans HE5.out) q2 (HP.out.e.trans HE5.out).size (λk hk=>by have:=(HNO _ hk).1;omega);obtain⟨ao6,cp6,rfl,-⟩:=q1.at (k:=9) HCR6.len9;have hml:(M++ [qB nm ::us]).length=m+1:=by rw[zQ,HP.out.cr.1,HM.out.1];rfl
      rw[hml]at q1 HCR6 ⊢;have HP6:=hid (show PqW w (l++ [⟨nm,x⟩]) (M++ [qB nm ::us]) (.slice ao6 (m+1) cp6) X6 from⟨HE6,HB6',q1,HCR6⟩);obtain⟨m1,hm1⟩:∃y,m+1=y:=⟨_,rfl⟩;rw[hm1]at HP6 HT3 ⊢;have HM1:=hid (show l.length+1=m1/\m1<=41 by have:=HM.out;have:=HM4.out;omega);clear q1 q2 q3 q4 HNO HX6 HCR6 HB6' HE6 HSR hbz hsz5 hx2 hml hm1;refine stA 10 rfl (λK hK=>qV (hK _ _ ?_));clear hK K;refine zP zc ?_ _;go_wp2_with fail
      go_roundg (n-m9)
      case measure=>have:=HM9.out;have:=HG.out;have:=HS.out.2.1;omega
      case rel=>exact⟨m9,m1,cp6,ao6,rfl,rfl,by have:=HM9.out;have:=HS.out.2.1;omega,hid ⟨l++ [⟨nm,x⟩],_,k,HP6.out,by rw[zQ];exact HM1.out.1,HM1.out.2,by have:=HK.out;have:=HM9.out;omega,λc hc=>(List.mem_append.1 hc).elim (HHG.out c) (λh=>by rw[List.mem_singleton.1 h];exact HGX.out),HT3.out⟩⟩
    · have hil:¬((i:Int)<(n:Int)):=by omega
      have HTT:=hid (show clR s.length 0 s=some l by
        rw[HT.out,List.drop_of_length_le (by rw[HS.out.2.1];omega)]
        cases k <;> simp[clR])
      have HIS:=hid ((HP.out.cr.is HP.out.rw (zN _)).low (Nat.zero_le _));have HIB:=hid (HP.out.cr.is HP.out.rw (zN _));have HPR:=hid (PrintIn_f 20 HIS.out (by have:=HM.out;omega) dcx HHG.out);obtain⟨pb,hpb⟩:∃y:ByteArray,(⟨(prS l).toArray⟩:ByteArray)=y:=⟨_,rfl⟩;obtain⟨pe,hpe⟩:∃y,prE l=y:=⟨_,rfl⟩;unfold IsTx at HPR;rw[show qB (prS l)=.string pb by rw[qB,hpb],hpe]at HPR;have HPRv:Hid (Calls prog 15 #[.slice ao m cp] wr (Ret wr (IsV (.agg #[.string pb,.int .i64 pe])))):=HPR
      have HQ:=hid (show paR s=if prS l=s/\pe=0 then(l,0)else([],420)by
        rw[paR,if_neg (by have:=HL.out;omega),HTT.out];dsimp only;rw[prS,hpe];by_cases h:pe=0
        · rw[if_pos h]
          by_cases h2:shL l=s
          ·rw[if_pos ⟨h,h2⟩,if_pos ⟨h2,h⟩]
          ·rw[if_neg (λe=>h2 e.2),if_neg (λe=>h2 e.1)]
        ·rw[if_neg h,if_neg (λe=>h e.1),if_neg (λe=>h e.2)])
      have hcm:(!((pb.toList==sb.toList)&&(pe==0)))= !decide (prS l=s/\pe=0):=by
        rw[<-hpb,<-HS.out.1,jM,Bool.decide_and];rfl
      clear hi hpb hpe HPR HT;go_upto_region 13 with fail;clear hil;refine wp_region_lit (lmv (lca [.slice ao m cp] (en func15) HPRv.out (λv X1 e1 hv=>?_)));obtain rfl:v=.agg #[.string pb,.int .i64 pe]:=hv;have HE1:=hid (HP.out.e.trans e1);have HB1:=hid (HP.out.b.ext e1);have HI1:=hid (HIB.out.ext e1);clear e1;by_cases he:prS l=s/\pe=0
      · rw[decide_eq_true he]at hcm
        have HR:=hid (show paR s=(l,0)by rw[HQ.out,if_pos he]);refine lmv (lb1 (.agg #[.string sb,.int .i64 0]) bd_Tx (lbn (b:=.neq) (T:=40) (.agg #[.string pb,.int .i64 pe]) (.agg #[.string sb,.int .i64 0]) (r:=.bool false) (tx_ne pb sb pe false hcm _) (zI ?_)));clear hcm he;go_upto_region 15 with fail;refine wp_region_lit (lmv (lb1 (.agg ([.slice ao m cp,.int .i64 0]:List Value).toArray) bd_CsL ?_));refine lst [.slice ao m cp,.int .i64 0] HB1.out st_Cells rfl rfl nwCells rfl (λW15 B9 O=>zI ?_);go_wp2_with fail;refine zH (jU results20 zc (lvM zc zc rfl B9)) rfl ⟨_,rfl,O.ext HE1.out (zN _),.slice ao m cp,by rw[HR.out],?_⟩;rw[HR.out];exact(HI1.out.ob (Ob.only O) (Nat.lt_succ_self _)).low (Nat.le_succ _)
      · rw[decide_eq_false he]at hcm
        have HR:=hid (show paR s=([],420)by rw[HQ.out,if_neg he]);refine lmv (lb1 (.agg #[.string sb,.int .i64 0]) bd_Tx (lbn (b:=.neq) (T:=40) (.agg #[.string pb,.int .i64 pe]) (.agg #[.string sb,.int .i64 0]) (r:=.bool true) (tx_ne pb sb pe true hcm _) (zI ?_)));clear hcm he;go_upto_region 14 with fail;refine wp_region_lit (lb1 (.agg ([.slice none 0 0,.int .i64 420]:List Value).toArray) bd_CsE ?_);refine lst [.slice none 0 0,.int .i64 420] HB1.out st_Cells rfl rfl nwCells rfl (λW14 B9 O=>zI ?_);go_wp2_with fail;exact zH (jU results20 zc (lvM zc zc rfl B9)) rfl ⟨_,rfl,O.ext HE1.out (zN _),.slice none 0 0,by rw[HR.out],by rw[HR.out];exact IsCs.nil _ _⟩
end
end Go.Proofs.YtenhciieboegbaaGreatDoor
