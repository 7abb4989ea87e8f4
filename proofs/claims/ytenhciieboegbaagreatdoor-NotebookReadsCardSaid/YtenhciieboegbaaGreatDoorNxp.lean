/-
  Package notebook: the reader: expression. (Printed by wip/gen/nxp.py.)
-/
import Derived.Test.YtenhciieboegbaaGreatDoorNcj
namespace Go.Proofs.YtenhciieboegbaaGreatDoor
open Go Go.RowKit
open Go.Proofs.Tryz
theorem jj{P:Prop}(h:P:=by simp[results,results78,go_sem,d0,d1,d2,d3,d4,d5,d6,d7]):P:=h
theorem yl{P:Prop}(h:P:=by rw[<-hsb];exact HB0.out.c 0 _ rfl):P:=h
def IhX(R k:Nat):Prop:=∀(b:Sc) (s:List UInt8) (v:Value) (w:World),Bk w R [qB s]->s.length<=1000000->IsSc (R+1) b v w->b.length+k<=800000->Calls prog 78 #[.pointer (some ⟨R,0,none⟩),v,.int .i64 (21-(k:Int))] w (RdP R w (NdW w) (exP k b s))
theorem call_f{R k:Nat}(IH:IhX R k){b:Sc}{x s:List UInt8}{w:World}{v:Value}(B:Bk w R [qB s])(hl:s.length<=1000000)(hv:IsSc (R+1) b v w)(hb:b.length+k+1<=800000)(hx:x≠ []):Calls prog 114 #[.pointer (some ⟨R,0,none⟩),qB x,v,.int .i64 (20-(k:Int))] w (RdP R w (NdW w) (caP k b x s)):=by
  by_cases h:x=wVal
  · subst h
    exact call_val B hl (by rw[caP,if_pos rfl])
  ·exact call_ops IH B hl hv hb hx h rfl
theorem opP_at{s:List UInt8}{i:Nat}(h4:4<=i)(h6:i<=6):(opW (i:Int)).isPrefixOf s=decide (opP s=i):=by
  have hi:i=4\/i=5\/i=6:=ze
  have key:∀c:UInt8, [c].isPrefixOf s=decide (s.head? =some c):=λc=>by
    cases s with
    |nil=>rfl
    | cons a t=>
      rw[Bool.eq_iff_iff];simp[List.isPrefixOf];exact⟨Eq.symm,Eq.symm⟩
  unfold opP;rw[key,key,key];rcases hi with rfl|rfl|rfl
  all_goals (rw[show opW _= [_]from rfl,key];cases s with|nil=>rfl|cons a t=>?_)
  all_goals simp only[List.head?_cons,Option.some.injEq,zS]
  ·by_cases h:a=43 <;> by_cases h5:a=45 <;> by_cases h6:a=42 <;> simp[h,h5,h6]
  · by_cases h:a=43
    ·subst h;decide
    ·by_cases h5:a=45 <;> by_cases h6:a=42 <;> simp[h,h5,h6]
  · by_cases h:a=43
    ·subst h;decide
    · by_cases h5:a=45
      ·subst h5;decide
      ·by_cases h6:a=42 <;> simp[h,h5,h6]
theorem opP_bd(s:List UInt8):opP s=0\/opP s=4\/opP s=5\/opP s=6:=by
  unfold opP
  repeat' split
  all_goals simp
theorem takeP_n{x s:List UInt8}(h:qG x s=none):x.isPrefixOf s=false:=by
  cases hq:x.isPrefixOf s with
  |false=>rfl
  |true=>rw[qG,hq]at h;cases h
theorem takeP_y{x s t:List UInt8}(h:qG x s=some t):x.isPrefixOf s=true:=by
  cases hq:x.isPrefixOf s with
  |true=>rfl
  |false=>rw[qG,hq]at h;cases h
theorem seq_nil(x:List UInt8):((⟨x.toArray⟩:ByteArray).toList== [])=decide (x= []):=by
  have h:=jM x []
  rwa [show(⟨([]:List UInt8).toArray⟩:ByteArray).toList= []from by simp]at h
def cuO(o:Int)(i:Nat):Int:=if o<i then o else 0
theorem fa_Rd(g:Nat)(w:World):(Instr.fieldAt 131 (.pointer (some ⟨g,0,none⟩)) 0).run prog w=.ok (.pointer (some ⟨g,0,none⟩)) w:=by go_simp
section
set_option maxRecDepth 100000
set_option maxHeartbeats 8000000
theorem ex_zero{R:Nat}{b:Sc}{s:List UInt8}{w:World}{v:Value}(B:Bk w R [qB s]):Calls prog 78 #[.pointer (some ⟨R,0,none⟩),v,.int .i64 21] w (RdP R w (NdW w) (exP 0 b s)):=by
  have HB:=hid B;clear B;go_enter func78,ntmps78;go_wp2_with fail;exact⟨rfl,Ob.of ((Ext.refl w).alloc _),rfl⟩
theorem ex_nil{R k:Nat}{b:Sc}{w:World}{v:Value}(B:Bk w R [qB []]):Calls prog 78 #[.pointer (some ⟨R,0,none⟩),v,.int .i64 (21-((k+1:Nat):Int))] w (RdP R w (NdW w) (exP (k+1) b [])):=by
  obtain⟨d,hd⟩:∃d:Int,21-((k+1:Nat):Int)=d:=⟨_,rfl⟩;have hd1:¬(20<d):=ze
  rw[hd];have HB:=hid B;obtain⟨W,hW,E⟩:∃W,W=w.alloc (.cells zNd.toArray 32)/\Ext w W:=⟨_,rfl,(Ext.refl w).alloc _⟩;unfold zNd at hW;have c0:W.cell? ⟨R,0,none⟩=some (.string ⟨#[]⟩):=(B.ext E).c 0 _ rfl;have he:((⟨#[]⟩:ByteArray).toList==(⟨#[]⟩:ByteArray).toList)=true:=zo
  have HE:=hid E;clear B hd E;go_enter func78,ntmps78;go_upto_region 1 with fail;rw[<-hW];clear hW;go_wp2_with fail;exact⟨rfl,Ob.of HE.out,rfl⟩
theorem tNxp_1{P:Prop}(h:P:=by
  simp only[zJ];intro e;exact h1 (UInt8.toNat_inj.1 (show c.toNat=(40:UInt8).toNat by show c.toNat=40;omega))
  ):P:=h
theorem ex_num{R k:Nat}(IH:IhX R k){c:UInt8}(h1:c≠40)(h2:xP c=false){b:Sc}{t:List UInt8}{w:World}{v:Value}(B:Bk w R [qB (c ::t)])(hl:(c ::t).length<=1000000)(hv:IsSc (R+1) b v w)(hb:b.length+(k+1)<=800000):Calls prog 78 #[.pointer (some ⟨R,0,none⟩),v,.int .i64 (21-((k+1:Nat):Int))] w (RdP R w (NdW w) (exP (k+1) b (c ::t))):=by
  obtain⟨d,hd⟩:∃d:Int,20-(k:Int)=d:=⟨_,rfl⟩;have hdw:IntKind.i64.wrap (d+1)=d+1:=zh
  have IH1:=hid IH;unfold IhX at IH1;rw[show 21-(k:Int)=d+1 by omega]at IH1;have HI:=hid IH1.out;rw[show 21-((k+1:Nat):Int)=d by omega];have hd1:¬(20<d):=ze
  have HSC:=hid hv;have HBL:=hid (show b.length+k+1<=800000 from hb);clear IH IH1 hd hv hb;obtain⟨T,hT0⟩:∃T,exP (k+1) b (c ::t)=T:=⟨_,rfl⟩;rw[hT0];have hT:=hT0.symm;clear hT0;rw[exP_num h1 h2]at hT;have HC:=hid h2
  have hc40:(((c.toNat:Nat):Int)==40)=false:=by
    exact tNxp_1
  clear h1 h2;obtain⟨W,hW,E,B0⟩:∃W,W=w.alloc (.cells zNd.toArray 32)/\Ext w W/\Bk W w.heap.size zNd:=zg;unfold zNd at hW;have HRL:=hid B.lt;have hR:R≠w.heap.size:=Nat.ne_of_lt B.lt;obtain⟨G,hG⟩:∃G,w.heap.size=G:=⟨_,rfl⟩;have HO0:=hid (show Ob R w W from Ob.of E);have HB0:=hid (B.ext E);rw[hG]at B0 hR;have HG0:=hid B0;have HRG:=hid hR;have HGs:=hid hG;have HL0:=hid hl;have HV0:=hid hT;clear hR B0 E B hl hT;go_enter func78,ntmps78;go_upto_region 1 with fail
  try rw[hG]
  rw[<-hW];clear hW hG;obtain⟨sb,hsb⟩:∃y,(⟨(c ::t).toArray⟩:ByteArray)=y:=⟨_,rfl⟩;have hsz:sb.size=t.length+1:=by rw[<-hsb];rfl
  have hn0:(0:Int)<(t.length:Int)+1:=ze
  have hn1:0<t.length+1:=ze
  have hb0:∀h,sb[0]'h=c:=λh=>by subst hsb;rfl
  have hne:(sb.toList== [])=false:=by rw[<-hsb,seq_nil];rfl
  have c0:W.cell? ⟨R,0,none⟩=some (.string sb):=yl
  clear hsb;go_upto_region 17 with(go_at_call 57;refine zG (xY c _) ?_;rintro e w4 ⟨rfl,rfl⟩;rw[HC.out]);clear c0 hsz hn0 hn1 hb0 hne hd1;refine wp_region_lit ?_;refine stL (λK hK=>qV (hK _ _ ?_));clear hK K
  go_simp
  refine stL (λK hK=>?_);refine qM (us:= [.pointer (some ⟨R,0,none⟩)]) (en func113) zc (number_f (s:=c ::t) HB0.out HL0.out) (λv Z1 h=>hK _ _ ?_) (λch X h=>by{obtain⟨h1,rfl,h2⟩:=h.pan;exact⟨rfl,RdP.fail (HO0.out.trans h2) (by rw[HV0.out,h1];rfl)⟩}) (λX h=>(h.big).elim);clear hK K;obtain⟨z,r1,h1,h2,h3,h4⟩:=h.ret;obtain⟨sg,a,ln,c9,rfl,hI⟩:=id h4;have HI1:=hid (show IsI 136 z (.agg #[.bool sg,.slice a ln c9]) Z1 from h4);have HO1:=hid (HO0.out.trans h2);have HB1:=hid h3;have HG1:=hid (h2.bk HG0.out (Ne.symm HRG.out));clear HO0 HB0 HG0;have hv:=HV0.out;rw[h1,Option.bind_some]at hv
  try dsimp only at hv
  have HV1:=hid hv;have HL1:=hid (show r1.length<=1000000 by have:=numP_len h1;have:=HL0.out;omega);clear hv HV0 HL0;clear h h1 h2 h3 h4 hI
  try go_simp
  have hbd:∀w',(Instr.build 32 #[(0,.int .i64 1),(3,.agg #[.bool sg,.slice a ln c9])]).run prog w'=.ok (.agg #[.int .i64 1,.string ⟨#[]⟩,.int .i64 0,.bool sg,.slice a ln c9,.int .i64 0,.int .i64 0,.slice none 0 0]) w':=λw'=>by go_simp
  refine stL (λK hK=>wp_bd (v:=.agg #[.int .i64 1,.string ⟨#[]⟩,.int .i64 0,.bool sg,.slice a ln c9,.int .i64 0,.int .i64 0,.slice none 0 0]) jn (hK _ _ ?_) (ho:=rfl));clear hK K hbd
  go_simp
  refine stL (λK hK=>?_);refine zE (us:= [.int .i64 1,.string ⟨#[]⟩,.int .i64 0,.bool sg,.slice a ln c9,.int .i64 0,.int .i64 0,.slice none 0 0]) HG1.out st_Nd rfl rfl nwZN (λZ2 B8 O=>hK _ _ ?_);have HOe:=hid (HO1.out.new O (Nat.le_of_eq HGs.out));have HBe:=hid (O.bk HB1.out HRG.out);have HR:=hid (show NdW w (.mk 1 [] 0 z 0 0 []) (.agg [.int .i64 1,.string ⟨#[]⟩,.int .i64 0,.bool sg,.slice a ln c9,.int .i64 0,.int .i64 0,.slice none 0 0].toArray) Z2 from⟨_,rfl,NdC.mk' ⟨by simp[Nd.nm],show(-9223372036854775808:Int)<=1 by decide,show(1:Int)<=9223372036854775807 by decide⟩ rfl (IsI.gstb _ _ _ _ _ O.gr HI1.out) (zN _) (show(0:Nat)<=9223372036854775807 by decide) (λh=>absurd rfl h)⟩);clear hK K O HO1 HB1 HG1;refine zI ?_;have d0:=B8.c 0 _ rfl;have d1:=B8.c 1 _ rfl;have d2:=B8.c 2 _ rfl;have d3:=B8.c 3 _ rfl;have d4:=B8.c 4 _ rfl;have d5:=B8.c 5 _ rfl;have d6:=B8.c 6 _ rfl;have d7:=B8.c 7 _ rfl;go_wp2_with fail;refine zH (v:=.agg [.int .i64 1,.string ⟨#[]⟩,.int .i64 0,.bool sg,.slice a ln c9,.int .i64 0,.int .i64 0,.slice none 0 0].toArray) jj rfl ?_;exact RdP.done HV1.out HOe.out HBe.out HR.out
theorem ex_name{R k:Nat}(IH:IhX R k){c:UInt8}(h1:c≠40)(h2:xP c=true){t:List UInt8}(h3:qG [40] ((c ::t).dropWhile qH)=none){b:Sc}{w:World}{v:Value}(B:Bk w R [qB (c ::t)])(hl:(c ::t).length<=1000000)(hv:IsSc (R+1) b v w)(hb:b.length+(k+1)<=800000):Calls prog 78 #[.pointer (some ⟨R,0,none⟩),v,.int .i64 (21-((k+1:Nat):Int))] w (RdP R w (NdW w) (exP (k+1) b (c ::t))):=by
  obtain⟨d,hd⟩:∃d:Int,20-(k:Int)=d:=⟨_,rfl⟩;have hdw:IntKind.i64.wrap (d+1)=d+1:=zh
  have IH1:=hid IH;unfold IhX at IH1;rw[show 21-(k:Int)=d+1 by omega]at IH1;have HI:=hid IH1.out;rw[show 21-((k+1:Nat):Int)=d by omega];have hd1:¬(20<d):=ze
  have HSC:=hid hv;have HBL:=hid (show b.length+k+1<=800000 from hb);clear IH IH1 hd hv hb;obtain⟨T,hT0⟩:∃T,exP (k+1) b (c ::t)=T:=⟨_,rfl⟩;rw[hT0];have hT:=hT0.symm;clear hT0;rw[exP_name h1 h2 h3]at hT;have HC:=hid h2;have h3p:=hid (show [40].isPrefixOf ((c ::t).dropWhile qH)=false from takeP_n h3);clear h3
  have hc40:(((c.toNat:Nat):Int)==40)=false:=by
    exact tNxp_1
  clear h1 h2;obtain⟨W,hW,E,B0⟩:∃W,W=w.alloc (.cells zNd.toArray 32)/\Ext w W/\Bk W w.heap.size zNd:=zg;unfold zNd at hW;have HRL:=hid B.lt;have hR:R≠w.heap.size:=Nat.ne_of_lt B.lt;obtain⟨G,hG⟩:∃G,w.heap.size=G:=⟨_,rfl⟩;have HO0:=hid (show Ob R w W from Ob.of E);have HB0:=hid (B.ext E);rw[hG]at B0 hR;have HG0:=hid B0;have HRG:=hid hR;have HGs:=hid hG;have HL0:=hid hl;have HV0:=hid hT;clear hR B0 E B hl hT;go_enter func78,ntmps78;go_upto_region 1 with fail
  try rw[hG]
  rw[<-hW];clear hW hG;obtain⟨sb,hsb⟩:∃y,(⟨(c ::t).toArray⟩:ByteArray)=y:=⟨_,rfl⟩;have hsz:sb.size=t.length+1:=by rw[<-hsb];rfl
  have hn0:(0:Int)<(t.length:Int)+1:=ze
  have hn1:0<t.length+1:=ze
  have hb0:∀h,sb[0]'h=c:=λh=>by subst hsb;rfl
  have hne:(sb.toList== [])=false:=by rw[<-hsb,seq_nil];rfl
  have c0:W.cell? ⟨R,0,none⟩=some (.string sb):=yl
  clear hsb;go_upto_region 18 with(go_at_call 57;refine zG (xY c _) ?_;rintro e w4 ⟨rfl,rfl⟩;rw[HC.out]);clear c0 hsz hn0 hn1 hb0 hne hd1;refine wp_region_lit ?_;refine stL (λK hK=>qV (hK _ _ ?_));clear hK K
  go_simp
  refine stL (λK hK=>?_);refine qM (us:= [.pointer (some ⟨R,0,none⟩)]) (en func76) zc (word_f (s:=c ::t) HB0.out HL0.out) (λv Z1 h=>hK _ _ ?_) (λch X h=>by{obtain⟨h1,_⟩:=h.pan;cases h1}) (λX h=>(h.big).elim);clear hK K;obtain⟨nm,r1,h1,h2,h3,rfl⟩:=h.ret;simp only[Option.some.injEq,Prod.mk.injEq]at h1;obtain⟨h1,h0⟩:=h1;have HO1:=hid (HO0.out.trans h2);have HB1:=hid h3;have HG1:=hid (h2.bk HG0.out (Ne.symm HRG.out));clear HO0 HB0 HG0;have hv:=HV0.out;rw[h1,h0]at hv;have HV1:=hid hv;have HL1:=hid (show r1.length<=1000000 by rw[<-h0];have:=(xR qH (c ::t)).2;have:=HL0.out;omega);have HNM:=hid (show nm.length<=4611686018427387904 by rw[<-h1];have:=(xR qH (c ::t)).1;have:=HL0.out;omega);have HTP:=hid h3p.out;rw[h0]at HTP;have HNE:=hid (show nm≠ []by rw[<-h1];have:=HC.out;simp[qH,this]);clear h h1 h0 h2 h3 hv h3p HV0 HL0
  try go_simp
  refine stL (λK hK=>qV (hK _ _ ?_));clear hK K
  go_simp
  refine zI ?_;have c0:=HB1.out.c 0 _ rfl;have HP:=hid (hasPre_f Z1 r1 [40]);rw[HTP.out]at HP;have HP:Hid (Calls prog 112 #[qB r1,.string ⟨#[40]⟩] Z1 (RSame Z1 (.bool false))):=HP;go_upto_region 20 with(go_at_call 112;refine zG HP.out ?_;rintro e w5 ⟨rfl,rfl⟩);clear c0 HP;refine wp_region_lit ?_;refine stL (λK hK=>qV (hK _ _ ?_));clear hK K
  go_simp
  have hbd:∀w',(Instr.build 32 #[(0,.int .i64 2),(1,qB nm)]).run prog w'=.ok (.agg #[.int .i64 2,qB nm,.int .i64 0,.bool false,.slice none 0 0,.int .i64 0,.int .i64 0,.slice none 0 0]) w':=λw'=>by unfold qB;go_simp
  refine stL (λK hK=>wp_bd (v:=.agg #[.int .i64 2,qB nm,.int .i64 0,.bool false,.slice none 0 0,.int .i64 0,.int .i64 0,.slice none 0 0]) jn (hK _ _ ?_) (ho:=rfl));clear hK K hbd
  go_simp
  refine stL (λK hK=>?_);refine jJ (vs:=zNd) al_Nd (λBn e3=>hK _ _ ?_);obtain⟨N,hN⟩:∃g,Z1.heap.size=g:=⟨_,rfl⟩;rw[hN]at Bn ⊢;generalize Z1.alloc (.cells zNd.toArray 32)=Z2 at Bn e3 ⊢;clear hK K
  try go_simp
  refine stL (λK hK=>?_);refine zE (us:= [.int .i64 2,qB nm,.int .i64 0,.bool false,.slice none 0 0,.int .i64 0,.int .i64 0,.slice none 0 0]) Bn st_Nd rfl rfl nwZN (λZ3 B8 O=>hK _ _ ?_)
  have HNG:=hid (show G<N/\R<G by
    have h1:=HG1.out.lt;have h2:=HRL.out;have h3:=HGs.out
    omega)
  have e5:=O.ext e3 (Nat.le_of_eq hN);have HO2:=hid (HO1.out.then e5);have HB2:=hid (HB1.out.ext e5);have HG2:=hid (HG1.out.ext e5);clear HO1 HB1 HG1;have HV2:=HV1;have HL2:=HL1;clear HV1 HL1;have HN2:=hid (show Bk Z3 N [.int .i64 2,qB nm,.int .i64 0,.bool false,.slice none 0 0,.int .i64 0,.int .i64 0,.slice none 0 0]from B8);clear hK K O Bn e3 hN B8 e5;refine zI ?_;obtain⟨q,hq⟩:∃q,b.contains nm=q:=⟨_,rfl⟩;have HCT:=hid (containsS_f (HSC.out.ob HO2.out (Nat.lt_succ_self R)).sr nm (by have:=HBL.out;omega));rw[hq]at HCT;have HV9:=hid HV2.out;rw[hq]at HV9;clear hq HV2;cases q with
  | false=>
    go_upto_region 23 with(go_at_call 102;refine zG HCT.out ?_;rintro e w6 ⟨rfl,rfl⟩);clear HCT;have HV2:=HV9;refine wp_region_lit ?_;refine stL (λK hK=>wp_ld (p:=.pointer (some ⟨N,0,none⟩)) (u:=.agg [.int .i64 2,qB nm,.int .i64 0,.bool false,.slice none 0 0,.int .i64 0,.int .i64 0,.slice none 0 0].toArray) (ld_Nd _ _ _ rfl HN2.out) (hK _ _ ?_));clear hK K
    go_simp
    refine stL (λK hK=>?_);refine zE (us:= [.int .i64 2,qB nm,.int .i64 0,.bool false,.slice none 0 0,.int .i64 0,.int .i64 0,.slice none 0 0]) HG2.out st_Nd rfl rfl nwZN (λZ4 B8 O=>hK _ _ ?_);have HOe:=hid (HO2.out.new O (Nat.le_of_eq HGs.out));have HBe:=hid (O.bk HB2.out HRG.out);have HR:=hid (show NdW w (.mk 2 nm 0 0 0 0 []) (.agg [.int .i64 2,qB nm,.int .i64 0,.bool false,.slice none 0 0,.int .i64 0,.int .i64 0,.slice none 0 0].toArray) Z4 from⟨_,rfl,NdC.mk' ⟨HNM.out,show(-9223372036854775808:Int)<=2 by decide,show(2:Int)<=9223372036854775807 by decide⟩ rfl (IsI.nil _ _) (zN _) (show(0:Nat)<=9223372036854775807 by decide) (λh=>absurd rfl h)⟩);clear hK K O HO2 HB2 HG2 HN2;refine zI ?_;have d0:=B8.c 0 _ rfl;have d1:=B8.c 1 _ rfl;have d2:=B8.c 2 _ rfl;have d3:=B8.c 3 _ rfl;have d4:=B8.c 4 _ rfl;have d5:=B8.c 5 _ rfl;have d6:=B8.c 6 _ rfl;have d7:=B8.c 7 _ rfl;go_wp2_with fail;refine zH (v:=.agg [.int .i64 2,qB nm,.int .i64 0,.bool false,.slice none 0 0,.int .i64 0,.int .i64 0,.slice none 0 0].toArray) jj rfl ?_;exact RdP.done HV2.out HOe.out HBe.out HR.out
  | true=>
    go_upto_region 22 with(go_at_call 102;refine zG HCT.out ?_;rintro e w6 ⟨rfl,rfl⟩);clear HCT;refine wp_region_lit ?_;have HV2:=HV9;refine stL (λK hK=>wp_fa (jI N _) (hK _ _ ?_));clear hK K
    go_simp
    refine stL (λK hK=>?_);refine stCO 0 (u:=.int .i64 11) HN2.out (st_i 11) rfl (NoWord.int64 _) (λZ4 B9 O=>hK _ _ ?_);clear hK K
    try go_simp
    have HO3:=hid (HO2.out.new O jc);have HB3:=hid (O.bk HB2.out zi);have HG3:=hid (O.bk HG2.out zi);have HN3:=hid (show Bk Z4 N [.int .i64 11,qB nm,.int .i64 0,.bool false,.slice none 0 0,.int .i64 0,.int .i64 0,.slice none 0 0]from B9);clear HO2 HB2 HG2 HN2;have HV3:=HV2;have HL3:=HL2;clear HV2 HL2 B9 O;refine zI ?_;go_upto_region 23 with fail;refine wp_region_lit ?_;refine stL (λK hK=>wp_ld (p:=.pointer (some ⟨N,0,none⟩)) (u:=.agg [.int .i64 11,qB nm,.int .i64 0,.bool false,.slice none 0 0,.int .i64 0,.int .i64 0,.slice none 0 0].toArray) (ld_Nd _ _ _ rfl HN3.out) (hK _ _ ?_));clear hK K
    go_simp
    refine stL (λK hK=>?_);refine zE (us:= [.int .i64 11,qB nm,.int .i64 0,.bool false,.slice none 0 0,.int .i64 0,.int .i64 0,.slice none 0 0]) HG3.out st_Nd rfl rfl nwZN (λZ5 B8 O=>hK _ _ ?_);have HOe:=hid (HO3.out.new O (Nat.le_of_eq HGs.out));have HBe:=hid (O.bk HB3.out HRG.out);have HR:=hid (show NdW w (.mk 11 nm 0 0 0 0 []) (.agg [.int .i64 11,qB nm,.int .i64 0,.bool false,.slice none 0 0,.int .i64 0,.int .i64 0,.slice none 0 0].toArray) Z5 from⟨_,rfl,NdC.mk' ⟨HNM.out,show(-9223372036854775808:Int)<=11 by decide,show(11:Int)<=9223372036854775807 by decide⟩ rfl (IsI.nil _ _) (zN _) (show(0:Nat)<=9223372036854775807 by decide) (λh=>absurd rfl h)⟩);clear hK K O HO3 HB3 HG3 HN3;refine zI ?_;have d0:=B8.c 0 _ rfl;have d1:=B8.c 1 _ rfl;have d2:=B8.c 2 _ rfl;have d3:=B8.c 3 _ rfl;have d4:=B8.c 4 _ rfl;have d5:=B8.c 5 _ rfl;have d6:=B8.c 6 _ rfl;have d7:=B8.c 7 _ rfl;go_wp2_with fail;refine zH (v:=.agg [.int .i64 11,qB nm,.int .i64 0,.bool false,.slice none 0 0,.int .i64 0,.int .i64 0,.slice none 0 0].toArray) jj rfl ?_;exact RdP.done HV3.out HOe.out HBe.out HR.out
theorem caP_len{k:Nat}{b:Sc}{w s t:List UInt8}{x:Nd}(h:caP k b w s=some (x,t)):t.length<=s.length:=by
  rw[caP]at h
  split at h
  ·exact valP_len h
  · split at h
    ·cases h
    · split at h
      · rw[bndP]at h
        obtain⟨r3,g1,h⟩:=qI h;obtain⟨⟨lo,r4⟩,g2,h⟩:=qI h;obtain⟨r5,g3,h⟩:=qI h;obtain⟨⟨hi,r6⟩,g4,h⟩:=qI h;obtain⟨r7,g5,h⟩:=qI h;obtain⟨⟨z,r8⟩,g6,h⟩:=qI h;simp only[Option.some.injEq,Prod.mk.injEq]at h;have p0:=(xR qH s).2;have p1:=qJ g1;have p2:=smlP_len g2;have p3:=qJ g3;have p4:=smlP_len g4;have p5:=qJ g5;have p6:=exP_len k g6;rw[<-h.2];omega
      · rw[joiP]at h
        obtain⟨⟨y1,r3⟩,g1,h⟩:=qI h;obtain⟨r4,g2,h⟩:=qI h;obtain⟨⟨y2,r5⟩,g3,h⟩:=qI h;simp only[Option.some.injEq,Prod.mk.injEq]at h;have p1:=exP_len k g1;have p2:=qJ g2;have p3:=exP_len k g3;rw[<-h.2];omega
theorem len8{us:List Value}(hl:us.length=8):∃u0 u1 u2 u3 u4 u5 u6 u7,us= [u0,u1,u2,u3,u4,u5,u6,u7]:=by
  match us,hl with
  | [u0,u1,u2,u3,u4,u5,u6,u7],_=>exact⟨_,_,_,_,_,_,_,_,rfl⟩
theorem ex_call{R k:Nat}(IH:IhX R k){c:UInt8}(h1:c≠40)(h2:xP c=true){t s2:List UInt8}(h3:qG [40] ((c ::t).dropWhile qH)=some s2){b:Sc}{w:World}{v:Value}(B:Bk w R [qB (c ::t)])(hl:(c ::t).length<=1000000)(hv:IsSc (R+1) b v w)(hb:b.length+(k+1)<=800000):Calls prog 78 #[.pointer (some ⟨R,0,none⟩),v,.int .i64 (21-((k+1:Nat):Int))] w (RdP R w (NdW w) (exP (k+1) b (c ::t))):=by
  obtain⟨d,hd⟩:∃d:Int,20-(k:Int)=d:=⟨_,rfl⟩;have hdw:IntKind.i64.wrap (d+1)=d+1:=zh
  have IH1:=hid IH;unfold IhX at IH1;rw[show 21-(k:Int)=d+1 by omega]at IH1;have HI:=hid IH1.out;rw[show 21-((k+1:Nat):Int)=d by omega];have hd1:¬(20<d):=ze
  have HSC:=hid hv;have HBL:=hid (show b.length+k+1<=800000 from hb);have HCA:=hid (λ(x s:List UInt8) (w:World) (B:Bk w R [qB s]) (hl:s.length<=1000000) (hv:IsSc (R+1) b v w) (hx:x≠ [])=>call_f IH B hl hv hb hx);rw[hd]at HCA;clear IH IH1 hd hv hb;obtain⟨T,hT0⟩:∃T,exP (k+1) b (c ::t)=T:=⟨_,rfl⟩;rw[hT0];have hT:=hT0.symm;clear hT0;replace hT:T=(qG [40] ((c ::t).dropWhile qH)).bind λs2=>(caP k b ((c ::t).takeWhile qH) s2).bind λp=>(qG [41] p.2).bind λs7=>some (p.1,s7):=by rw[hT,exP_call h1 h2 h3,h3];rfl
  have HC:=hid h2;have h3p:=hid (show [40].isPrefixOf ((c ::t).dropWhile qH)=true from takeP_y h3);clear h3
  have hc40:(((c.toNat:Nat):Int)==40)=false:=by
    exact tNxp_1
  clear h1 h2;obtain⟨W,hW,E,B0⟩:∃W,W=w.alloc (.cells zNd.toArray 32)/\Ext w W/\Bk W w.heap.size zNd:=zg;unfold zNd at hW;have HRL:=hid B.lt;have hR:R≠w.heap.size:=Nat.ne_of_lt B.lt;obtain⟨G,hG⟩:∃G,w.heap.size=G:=⟨_,rfl⟩;have HO0:=hid (show Ob R w W from Ob.of E);have HB0:=hid (B.ext E);rw[hG]at B0 hR;have HG0:=hid B0;have HRG:=hid hR;have HGs:=hid hG;have HL0:=hid hl;have HV0:=hid hT;clear hR B0 E B hl hT;go_enter func78,ntmps78;go_upto_region 1 with fail
  try rw[hG]
  rw[<-hW];clear hW hG;obtain⟨sb,hsb⟩:∃y,(⟨(c ::t).toArray⟩:ByteArray)=y:=⟨_,rfl⟩;have hsz:sb.size=t.length+1:=by rw[<-hsb];rfl
  have hn0:(0:Int)<(t.length:Int)+1:=ze
  have hn1:0<t.length+1:=ze
  have hb0:∀h,sb[0]'h=c:=λh=>by subst hsb;rfl
  have hne:(sb.toList== [])=false:=by rw[<-hsb,seq_nil];rfl
  have c0:W.cell? ⟨R,0,none⟩=some (.string sb):=yl
  clear hsb;go_upto_region 18 with(go_at_call 57;refine zG (xY c _) ?_;rintro e w4 ⟨rfl,rfl⟩;rw[HC.out]);clear c0 hsz hn0 hn1 hb0 hne hd1;refine wp_region_lit ?_;refine stL (λK hK=>qV (hK _ _ ?_));clear hK K
  go_simp
  refine stL (λK hK=>?_);refine qM (us:= [.pointer (some ⟨R,0,none⟩)]) (en func76) zc (word_f (s:=c ::t) HB0.out HL0.out) (λv Z1 h=>hK _ _ ?_) (λch X h=>by{obtain⟨h1,_⟩:=h.pan;cases h1}) (λX h=>(h.big).elim);clear hK K;obtain⟨nm,r1,h1,h2,h3,rfl⟩:=h.ret;simp only[Option.some.injEq,Prod.mk.injEq]at h1;obtain⟨h1,h0⟩:=h1;have HO1:=hid (HO0.out.trans h2);have HB1:=hid h3;have HG1:=hid (h2.bk HG0.out (Ne.symm HRG.out));clear HO0 HB0 HG0;have hv:=HV0.out;rw[h1,h0]at hv;have HV1:=hid hv;have HL1:=hid (show r1.length<=1000000 by rw[<-h0];have:=(xR qH (c ::t)).2;have:=HL0.out;omega);have HNM:=hid (show nm.length<=4611686018427387904 by rw[<-h1];have:=(xR qH (c ::t)).1;have:=HL0.out;omega);have HTP:=hid h3p.out;rw[h0]at HTP;have HNE:=hid (show nm≠ []by rw[<-h1];have:=HC.out;simp[qH,this]);clear h h1 h0 h2 h3 hv h3p HV0 HL0
  try go_simp
  refine stL (λK hK=>qV (hK _ _ ?_));clear hK K
  go_simp
  refine zI ?_;have c0:=HB1.out.c 0 _ rfl;have HP:=hid (hasPre_f Z1 r1 [40]);rw[HTP.out]at HP;have HP:Hid (Calls prog 112 #[qB r1,.string ⟨#[40]⟩] Z1 (RSame Z1 (.bool true))):=HP;go_upto_region 24 with(go_at_call 112;refine zG HP.out ?_;rintro e w5 ⟨rfl,rfl⟩);clear c0 HP;refine wp_region_lit ?_;refine stL (λK hK=>qV (hK _ _ ?_));clear hK K
  go_simp
  refine stL (λK hK=>?_);refine qM (us:= [.pointer (some ⟨R,0,none⟩),qB [40]]) (en func77) zc (jZ (s:=r1) (x:= [40]) HB1.out) (λv Z2 h=>hK _ _ ?_) (λch X h=>by{obtain⟨h1,rfl,h2⟩:=xV h;exact⟨rfl,RdP.fail (HO1.out.trans h2) (by rw[HV1.out,h1];rfl)⟩}) (λX h=>(h.big).elim);clear hK K;obtain⟨r2,h1,h2,h3,rfl⟩:=xU h;have HO2:=hid (HO1.out.trans h2);have HB2:=hid h3;have HG2:=hid (h2.bk HG1.out (Ne.symm HRG.out));clear HO1 HB1 HG1;have hv:=HV1.out;rw[h1,Option.bind_some]at hv
  try dsimp only at hv
  have HV2:=hid hv;have HL2:=hid (show r2.length<=1000000 by have:=qJ h1;have:=HL1.out;omega);clear hv HV1 HL1;clear h h1 h2 h3
  try go_simp
  refine zI ?_;go_upto_region 25 with fail;refine wp_region_lit ?_;refine stL (λK hK=>qV (hK _ _ ?_));clear hK K
  go_simp
  refine stL (λK hK=>qV (hK _ _ ?_));clear hK K
  go_simp
  refine stL (λK hK=>qV (hK _ _ ?_));clear hK K
  go_simp
  refine stL (λK hK=>qV (hK _ _ ?_));clear hK K
  go_simp
  have HQ0:=hid (show G<Z2.heap.size/\R<Z2.heap.size/\w.heap.size<=Z2.heap.size by have:=HG2.out.lt;have:=HB2.out.lt;have:=HGs.out;omega);obtain⟨b0,hb⟩:∃b,Z2.heap.size=b:=⟨_,rfl⟩;have HBE0:=hid hb;rw[hb]at HQ0;clear hb;refine stL (λK hK=>?_);refine qM (us:= [.pointer (some ⟨R,0,none⟩),qB nm,v,.int .i64 d]) (en func114) zc (HCA.out nm r2 _ HB2.out HL2.out (HSC.out.ob HO2.out (Nat.lt_succ_self R)) HNE.out) (λv6 Z3 h=>hK _ _ ?_) (λch X h=>by{obtain⟨h1,rfl,h2⟩:=h.pan;exact⟨rfl,RdP.fail (HO2.out.trans h2) (by rw[HV2.out,h1];rfl)⟩}) (λX h=>(h.big).elim);clear hK K;obtain⟨y0,t0,h1,h2,h3,us0,rfl,h4⟩:=h.ret;rw[HBE0.out]at h4;obtain⟨u0,u1,u2,u3,u4,u5,u6,u7,rfl⟩:=len8 h4.len;have HP0:=hid h4;have HO3:=hid (HO2.out.trans h2);have HB3:=hid h3;have HG3:=hid (h2.bk HG2.out (Ne.symm HRG.out));clear HO2 HB2 HG2;have hv:=HV2.out;rw[h1,Option.bind_some]at hv
  try dsimp only at hv
  have HV3:=hid hv;have HL3:=hid (show t0.length<=1000000 by have:=caP_len h1;have:=HL2.out;omega);clear hv HV2 HL2;have HK03:=hid (Kc.refl b0 Z3);clear h h1 h2 h3 h4
  try go_simp
  have HXE:=hid (zN Z3.heap.size);refine stL (λK hK=>?_);refine jJ (vs:=zNd) al_Nd (λBn e3=>hK _ _ ?_);obtain⟨N,hN⟩:∃g,Z3.heap.size=g:=⟨_,rfl⟩;rw[hN]at Bn ⊢;generalize Z3.alloc (.cells zNd.toArray 32)=Z4 at Bn e3 ⊢;clear hK K
  try go_simp
  refine stL (λK hK=>?_);refine zE (us:= [u0,u1,u2,u3,u4,u5,u6,u7]) Bn st_Nd rfl rfl nwZN (λZ5 B8 O=>hK _ _ ?_) (ho1:=HP0.out.nw.2)
  have HNG:=hid (show G<N/\R<G by
    have h1:=HG3.out.lt;have h2:=HRL.out;have h3:=HGs.out
    omega)
  have HPN:=hid (show Z3.heap.size<=N from Nat.le_of_eq hN);have e5:=O.ext e3 (Nat.le_of_eq hN);have HO4:=hid (HO3.out.then e5);have HB4:=hid (HB3.out.ext e5);have HG4:=hid (HG3.out.ext e5);have HK04:=hid (HK03.out.trans (Kc.ext e5));clear HO3 HB3 HG3 HK03;have HV4:=HV3;have HL4:=HL3;clear HV3 HL3;have HN4:=hid (show Bk Z5 N [u0,u1,u2,u3,u4,u5,u6,u7]from B8);clear hK K O Bn e3 hN B8 e5;refine zI ?_;go_upto_region 26 with fail;refine wp_region_lit ?_;refine stL (λK hK=>qV (hK _ _ ?_));clear hK K
  go_simp
  refine stL (λK hK=>?_);refine qM (us:= [.pointer (some ⟨R,0,none⟩),qB [41]]) (en func77) zc (jZ (s:=t0) (x:= [41]) HB4.out) (λv Z6 h=>hK _ _ ?_) (λch X h=>by{obtain⟨h1,rfl,h2⟩:=xV h;exact⟨rfl,RdP.fail (HO4.out.trans h2) (by rw[HV4.out,h1];rfl)⟩}) (λX h=>(h.big).elim);clear hK K;obtain⟨r3,h1,h2,h3,rfl⟩:=xU h;have HO5:=hid (HO4.out.trans h2);have HB5:=hid h3;have HG5:=hid (h2.bk HG4.out (Ne.symm HRG.out));have HN5:=hid (h2.bk HN4.out zi);have HK05:=hid (HK04.out.trans (Kc.ob h2 HQ0.out.2.1));clear HO4 HB4 HG4 HN4 HK04;have hv:=HV4.out;rw[h1,Option.bind_some]at hv
  try dsimp only at hv
  have HV5:=hid hv;have HL5:=hid (show r3.length<=1000000 by have:=qJ h1;have:=HL4.out;omega);clear hv HV4 HL4;clear h h1 h2 h3
  try go_simp
  refine zI ?_;go_upto_region 27 with fail;refine wp_region_lit ?_;refine stL (λK hK=>wp_ld (p:=.pointer (some ⟨N,0,none⟩)) (u:=.agg [u0,u1,u2,u3,u4,u5,u6,u7].toArray) (ld_Nd _ _ _ rfl HN5.out) (hK _ _ ?_));clear hK K
  go_simp
  refine stL (λK hK=>?_);refine zE (us:= [u0,u1,u2,u3,u4,u5,u6,u7]) HG5.out st_Nd rfl rfl nwZN (λZ7 B8 O=>hK _ _ ?_) (ho1:=HP0.out.nw.2);have HOe:=hid (HO5.out.new O (Nat.le_of_eq HGs.out));have HBe:=hid (O.bk HB5.out HRG.out);have HR:=hid (show NdW w y0 (.agg [u0,u1,u2,u3,u4,u5,u6,u7].toArray) Z7 from⟨_,rfl,NdC.low HQ0.out.2.2 _ _ (HP0.out.kc (HK05.out.trans (Kc.only O HQ0.out.1)))⟩);clear hK K O HO5 HB5 HG5 HN5;refine zI ?_;have d0:=B8.c 0 _ rfl;have d1:=B8.c 1 _ rfl;have d2:=B8.c 2 _ rfl;have d3:=B8.c 3 _ rfl;have d4:=B8.c 4 _ rfl;have d5:=B8.c 5 _ rfl;have d6:=B8.c 6 _ rfl;have d7:=B8.c 7 _ rfl;go_wp2_with fail;refine zH (v:=.agg [u0,u1,u2,u3,u4,u5,u6,u7].toArray) jj rfl ?_;exact RdP.done HV5.out HOe.out HBe.out HR.out
theorem tNxp_2{P:Prop}(h:P:=by
  go_wp2_with fail
  go_roundg (gk-1)
  case measure=>have:=HG.out;omega
  case rel=>exact⟨i+1,rfl,by have:=HG.out;omega,by have:=HG.out;omega,HIV⟩
  ):P:=h
theorem ex_inf{R k:Nat}(IH:IhX R k){b:Sc}{t:List UInt8}{w:World}{v:Value}(B:Bk w R [qB (40 ::t)])(hl:(40 ::t).length<=1000000)(hv:IsSc (R+1) b v w)(hb:b.length+(k+1)<=800000):Calls prog 78 #[.pointer (some ⟨R,0,none⟩),v,.int .i64 (21-((k+1:Nat):Int))] w (RdP R w (NdW w) (exP (k+1) b (40 ::t))):=by
  obtain⟨d,hd⟩:∃d:Int,20-(k:Int)=d:=⟨_,rfl⟩;have hdw:IntKind.i64.wrap (d+1)=d+1:=zh
  have IH1:=hid IH;unfold IhX at IH1;rw[show 21-(k:Int)=d+1 by omega]at IH1;have HI:=hid IH1.out;rw[show 21-((k+1:Nat):Int)=d by omega];have hd1:¬(20<d):=ze
  have HSC:=hid hv;have HBL:=hid (show b.length+k+1<=800000 from hb);clear IH IH1 hd hv hb;obtain⟨T,hT0⟩:∃T,exP (k+1) b (40 ::t)=T:=⟨_,rfl⟩;rw[hT0];have hT:=hT0.symm;clear hT0;replace hT:T=(qG [40] (40 ::t)).bind λt=>infP k b t:=by rw[hT,exP_inf,takeP1];rfl
  unfold infP at hT;obtain⟨W,hW,E,B0⟩:∃W,W=w.alloc (.cells zNd.toArray 32)/\Ext w W/\Bk W w.heap.size zNd:=zg;unfold zNd at hW;have HRL:=hid B.lt;have hR:R≠w.heap.size:=Nat.ne_of_lt B.lt;obtain⟨G,hG⟩:∃G,w.heap.size=G:=⟨_,rfl⟩;have HO0:=hid (show Ob R w W from Ob.of E);have HB0:=hid (B.ext E);rw[hG]at B0 hR;have HG0:=hid B0;have HRG:=hid hR;have HGs:=hid hG;have HL0:=hid hl;have HV0:=hid hT;clear hR B0 E B hl hT;go_enter func78,ntmps78;go_upto_region 1 with fail
  try rw[hG]
  rw[<-hW];clear hW hG;obtain⟨sb,hsb⟩:∃y,(⟨(40 ::t).toArray⟩:ByteArray)=y:=⟨_,rfl⟩;have hsz:sb.size=t.length+1:=by rw[<-hsb];rfl
  have hn0:(0:Int)<(t.length:Int)+1:=ze
  have hn1:0<t.length+1:=ze
  have hb0:∀h,sb[0]'h=40:=λh=>by subst hsb;rfl
  have hne:(sb.toList== [])=false:=by rw[<-hsb,seq_nil];rfl
  have c0:W.cell? ⟨R,0,none⟩=some (.string sb):=yl
  clear hsb;go_upto_region 4 with fail;clear c0 hsz hn0 hn1 hb0 hne hd1;refine wp_region_lit ?_;refine stL (λK hK=>qV (hK _ _ ?_));clear hK K
  go_simp
  refine stL (λK hK=>?_);refine qM (us:= [.pointer (some ⟨R,0,none⟩),qB [40]]) (en func77) zc (jZ (s:=40 ::t) (x:= [40]) HB0.out) (λv Z1 h=>hK _ _ ?_) (λch X h=>by{obtain⟨h1,rfl,h2⟩:=xV h;exact⟨rfl,RdP.fail (HO0.out.trans h2) (by rw[HV0.out,h1];rfl)⟩}) (λX h=>(h.big).elim);clear hK K;obtain⟨r1,h1,h2,h3,rfl⟩:=xU h;have HO1:=hid (HO0.out.trans h2);have HB1:=hid h3;have HG1:=hid (h2.bk HG0.out (Ne.symm HRG.out));clear HO0 HB0 HG0;have hv:=HV0.out;rw[h1,Option.bind_some]at hv
  try dsimp only at hv
  have HV1:=hid hv;have HL1:=hid (show r1.length<=1000000 by have:=qJ h1;have:=HL0.out;omega);clear hv HV0 HL0;clear h h1 h2 h3
  try go_simp
  refine zI ?_;go_upto_region 5 with fail;refine wp_region_lit ?_;refine stL (λK hK=>qV (hK _ _ ?_));clear hK K
  go_simp
  refine stL (λK hK=>qV (hK _ _ ?_));clear hK K
  go_simp
  refine stL (λK hK=>qV (hK _ _ ?_));clear hK K
  go_simp
  refine wpList_step λK hK=>?_
  go_simp
  refine hK _ _ ?_;clear hK K;have HQ0:=hid (show G<Z1.heap.size/\R<Z1.heap.size/\w.heap.size<=Z1.heap.size by have:=HG1.out.lt;have:=HB1.out.lt;have:=HGs.out;omega);obtain⟨b0,hb⟩:∃b,Z1.heap.size=b:=⟨_,rfl⟩;have HBE0:=hid hb;rw[hb]at HQ0;clear hb;refine stL (λK hK=>?_);refine qM (us:= [.pointer (some ⟨R,0,none⟩),v,.int .i64 (d+1)]) (en func78) zc (HI.out b r1 _ _ HB1.out HL1.out (HSC.out.ob HO1.out (Nat.lt_succ_self R)) (by have:=HBL.out;omega)) (λv6 Z2 h=>hK _ _ ?_) (λch X h=>by{obtain⟨h1,rfl,h2⟩:=h.pan;exact⟨rfl,RdP.fail (HO1.out.trans h2) (by rw[HV1.out,h1];rfl)⟩}) (λX h=>(h.big).elim);clear hK K;obtain⟨y0,t0,h1,h2,h3,us0,rfl,h4⟩:=h.ret;rw[HBE0.out]at h4;have HP0:=hid h4;have HO2:=hid (HO1.out.trans h2);have HB2:=hid h3;have HG2:=hid (h2.bk HG1.out (Ne.symm HRG.out));clear HO1 HB1 HG1;have hv:=HV1.out;rw[h1,Option.bind_some]at hv
  try dsimp only at hv
  have HV2:=hid hv;have HL2:=hid (show t0.length<=1000000 by have:=exP_len k h1;have:=HL1.out;omega);clear hv HV1 HL1;have HK02:=hid (Kc.refl b0 Z2);clear h h1 h2 h3 h4
  try go_simp
  refine stL (λK hK=>wp_bs HP0.out.len HP0.out.nw.2 (λBn e7 hs=>hK _ _ ?_));clear hK K Bn hs;have q1:=RwK.bs ⟨HP0.out.len,HP0.out.nw.1,HP0.out.nw.2⟩ Z2;obtain⟨p0,hg8⟩:∃g,Z2.heap.size=g:=⟨_,rfl⟩;have HXS:=hid (show Z2.heap.size<=(Z2.alloc (.cells us0.toArray 32)).heap.size from e7.size);have HRWL:=hid (show p0<(Z2.alloc (.cells us0.toArray 32)).heap.size by rw[<-hg8];simp);rw[hg8]at q1 ⊢;generalize Z2.alloc (.cells us0.toArray 32)=Z3 at e7 q1 HXS HRWL ⊢;have HGE:=hid hg8;have HQG:=hid (show G<p0/\R<p0/\w.heap.size<=p0 by have:=HG2.out.lt;have:=HB2.out.lt;have:=HGs.out;omega);have HO3:=hid (HO2.out.then e7);have HB3:=hid (HB2.out.ext e7);have HG3:=hid (HG2.out.ext e7);have HK03:=hid (HK02.out.trans (Kc.ext e7));clear HO2 HB2 HG2 HK02;have HV3:=HV2;have HL3:=HL2;clear HV2 HL2;have HRW3:=hid q1;clear e7 q1 hg8
  try go_simp
  have hbd:∀w',(Instr.build 32 #[(6,.slice (some ⟨p0,0,none⟩) 1 1)]).run prog w'=.ok (.agg #[.int .i64 0,.string ⟨#[]⟩,.int .i64 0,.bool false,.slice none 0 0,.int .i64 0,.int .i64 0,.slice (some ⟨p0,0,none⟩) 1 1]) w':=λw'=>by go_simp
  refine stL (λK hK=>wp_bd (v:=.agg #[.int .i64 0,.string ⟨#[]⟩,.int .i64 0,.bool false,.slice none 0 0,.int .i64 0,.int .i64 0,.slice (some ⟨p0,0,none⟩) 1 1]) jn (hK _ _ ?_) (ho:=rfl));clear hK K hbd
  go_simp
  refine stL (λK hK=>?_);refine jJ (vs:=zNd) al_Nd (λBn e3=>hK _ _ ?_);obtain⟨N,hN⟩:∃g,Z3.heap.size=g:=⟨_,rfl⟩;rw[hN]at Bn ⊢;generalize Z3.alloc (.cells zNd.toArray 32)=Z4 at Bn e3 ⊢;clear hK K
  try go_simp
  refine stL (λK hK=>?_);refine zE (us:= [.int .i64 0,.string ⟨#[]⟩,.int .i64 0,.bool false,.slice none 0 0,.int .i64 0,.int .i64 0,.slice (some ⟨p0,0,none⟩) 1 1]) Bn st_Nd rfl rfl nwZN (λZ5 B8 O=>hK _ _ ?_)
  have HNG:=hid (show G<N/\R<G by
    have h1:=HG3.out.lt;have h2:=HRL.out;have h3:=HGs.out
    omega)
  have HPN:=hid (show Z2.heap.size<=N by rw[<-hN];exact HXS.out);have HNO:=hid (show ∀g,(Value.slice (some ⟨p0,0,none⟩) 1 1).ownBlock=some g->g≠N from λg e=>by cases e;show p0≠N;have:=HRWL.out;omega);have e5:=O.ext e3 (Nat.le_of_eq hN);have HO4:=hid (HO3.out.then e5);have HB4:=hid (HB3.out.ext e5);have HG4:=hid (HG3.out.ext e5);have HK04:=hid (HK03.out.trans (Kc.ext e5));have HRW4:=hid (HRW3.out.ext e5);clear HO3 HB3 HG3 HK03 HRW3;have HV4:=HV3;have HL4:=HL3;clear HV3 HL3;have HN4:=hid (show Bk Z5 N [.int .i64 0,.string ⟨#[]⟩,.int .i64 0,.bool false,.slice none 0 0,.int .i64 0,.int .i64 0,.slice (some ⟨p0,0,none⟩) 1 1]from B8);clear hK K O Bn e3 hN B8 e5;refine zI ?_;go_upto_region 6 with fail;refine wp_region_lit ?_;refine stL (λK hK=>qV (hK _ _ ?_));clear hK K
  go_simp
  refine stL (λK hK=>?_);refine qM (us:= [.pointer (some ⟨R,0,none⟩),qB [32]]) (en func77) zc (jZ (s:=t0) (x:= [32]) HB4.out) (λv Z6 h=>hK _ _ ?_) (λch X h=>by{obtain⟨h1,rfl,h2⟩:=xV h;exact⟨rfl,RdP.fail (HO4.out.trans h2) (by rw[HV4.out,h1];rfl)⟩}) (λX h=>(h.big).elim);clear hK K;obtain⟨r2,h1,h2,h3,rfl⟩:=xU h;have HO5:=hid (HO4.out.trans h2);have HB5:=hid h3;have HG5:=hid (h2.bk HG4.out (Ne.symm HRG.out));have HN5:=hid (h2.bk HN4.out zi);have HK05:=hid (HK04.out.trans (Kc.ob h2 HQ0.out.2.1));have HRW5:=hid (HRW4.out.ob h2 HQG.out.2.1);clear HO4 HB4 HG4 HN4 HK04 HRW4;have hv:=HV4.out;rw[h1,Option.bind_some]at hv
  try dsimp only at hv
  have HV5:=hid hv;have HL5:=hid (show r2.length<=1000000 by have:=qJ h1;have:=HL4.out;omega);clear hv HV4 HL4;clear h h1 h2 h3
  try go_simp
  refine zI ?_;obtain⟨o,ho⟩:∃o,opP r2=o:=⟨_,rfl⟩;have HOB:=hid (show o=0\/o=4\/o=5\/o=6 by rw[<-ho];exact opP_bd r2);have HOP:=hid (show ∀i:Nat,4<=i->i<=6->(opW (i:Int)).isPrefixOf r2=decide (o=i)from λi h4 h6=>by rw[<-ho];exact opP_at h4 h6);have hv:=HV5.out;rw[ho]at hv;have HV5:=hid hv;clear hv ho;have HIV:=hid (show Ob R w Z6/\Bk Z6 R [qB r2]/\Bk Z6 G zNd/\Bk Z6 N [.int .i64 (cuO o 4),.string ⟨#[]⟩,.int .i64 0,.bool false,.slice none 0 0,.int .i64 0,.int .i64 0,.slice (some ⟨p0,0,none⟩) 1 1]/\Kc b0 Z2 Z6/\RwK 32 8 p0 [us0] (.slice (some ⟨p0,0,none⟩) 1 1) Z6 from⟨HO5.out,HB5.out,HG5.out,by rw[show cuO o 4=0 from by have:=HOB.out;unfold cuO;split <;> omega];exact HN5.out,HK05.out,HRW5.out⟩);clear HO5 HB5 HG5 HN5 HK05 HRW5;go_upto_region 7 with fail;go_wp2_with fail
  go_loopg [8] 3 (λgk v8 wr=>∃i:Nat,v8=.int .i64 (i:Int)/\i+gk=7/\4<=i/\Hid (Ob R w wr/\Bk wr R [qB r2]/\Bk wr G zNd/\Bk wr N [.int .i64 (cuO o i),.string ⟨#[]⟩,.int .i64 0,.bool false,.slice none 0 0,.int .i64 0,.int .i64 0,.slice (some ⟨p0,0,none⟩) 1 1]/\Kc b0 Z2 wr/\RwK 32 8 p0 [us0] (.slice (some ⟨p0,0,none⟩) 1 1) wr))
  case atStart=>exact⟨4,rfl,by omega,by omega,HIV⟩
  case round=>
    obtain⟨i,rfl,hg,h4,HIV⟩:=hrel;by_cases hi:i<=6
    · have hil:(i:Int)<=6:=by omega
      have hiw:IntKind.i64.wrap ((i:Int)+1)=((i+1:Nat):Int):=zh
      have HG:=hid (zL hg (zL h4 hi));have HWF:=hid (show(Lit.int .i64 (i:Int)).wf=true from(show(decide ((-9223372036854775808:Int)<=(i:Int))&&decide ((i:Int)<=(9223372036854775807:Int)))=true by simp;omega));obtain⟨q,hq⟩:∃q,decide (o=(i:Int))=q:=⟨_,rfl⟩;have HPQ:=hid (show(opW (i:Int)).isPrefixOf r2=q by rw[HOP.out i h4 hi,hq]);have HQ:=hid hq;clear hg h4 hi hq;go_upto_region 10 with fail;refine rg 8 (dR 44 8) [IsP R 0,IsP R 0,IsP R 0,IsV (qB r2),IsMw,iV (i:Int),IsV (qB (opW (i:Int))),IsV (.bool q)] [] 0 ?_ ?_
      · refine Rc xa ?_
        refine Rc (nc (p:=⟨R,0,none⟩) (qA 0 44)) ?_;refine Rc (fa (fa_Rd R) (qA 1 45)) ?_;refine Rc (lvC 0 HIV.out.2.1 qP (qA 2 46)) ?_;refine Rc xc ?_;refine Rc (mv (qC (x:=.int .i64 (i:Int)) 8)) ?_;refine Rc (lkM (fP:=IsMw) (fQ:=IsV (qB (opW (i:Int)))) (u:=.int .i64 (i:Int)) (qA 4 48) (qA 5 49) (λm w' ⟨b',h1,h2⟩=>⟨qB (opW (i:Int)),by rw[h1];exact words_at h2 HWF.out,rfl⟩)) ?_;refine Rc (cl2 (fP:=IsV (qB r2)) (fR:=IsV (qB (opW (i:Int)))) (fQ:=IsV (.bool q)) (en func112) (qA 3 47) (qA 6 50) (λx y w' hE d0 d1=>by{obtain rfl:x=qB r2:=d0;obtain rfl:y=qB (opW (i:Int)):=d1;refine zG (hasPre_f w' r2 (opW (i:Int))) ?_;rintro e w2 ⟨rfl,rfl⟩;exact⟨_,rfl,Ext.refl _,by rw[HPQ.out];rfl⟩})) ?_;exact rn0
      intro u X20 e2 hΦ _;have q7:u 7=.bool q:=hΦ 7 dcx;simp only[lxE,Nat.reduceAdd];rw[q7];clear hΦ q7;refine zP zc ?_ _;have HO1:=hid (HIV.out.1.then e2);have HB1:=hid (HIV.out.2.1.ext e2);have HG1:=hid (HIV.out.2.2.1.ext e2);have HN1:=hid (HIV.out.2.2.2.1.ext e2);have HK01:=hid (HIV.out.2.2.2.2.1.trans (Kc.ext e2));have HRW1:=hid (HIV.out.2.2.2.2.2.ext e2);clear HIV e2;cases q with
      | true=>
        have HOI:=hid (show o=(i:Int)from of_decide_eq_true HQ.out);go_upto_region 11 with fail;refine wp_region_lit ?_;refine stL (λK hK=>qV (hK _ _ ?_));clear hK K
        go_simp
        refine stL (λK hK=>wp_fa (jI N _) (hK _ _ ?_));clear hK K
        go_simp
        refine stL (λK hK=>?_);refine stCO 0 (u:=.int .i64 (i:Int)) HN1.out (st_i _) rfl (NoWord.int64 _) (λX21 B9 O=>hK _ _ ?_);clear hK K;refine zI ?_;have hcu:cuO o (i+1)=(i:Int):=by have:=HOI.out;unfold cuO;rw[if_pos (by omega)];exact this
        have HIV:=hid (show Ob R w X21/\Bk X21 R [qB r2]/\Bk X21 G zNd/\Bk X21 N [.int .i64 (cuO o (i+1)),.string ⟨#[]⟩,.int .i64 0,.bool false,.slice none 0 0,.int .i64 0,.int .i64 0,.slice (some ⟨p0,0,none⟩) 1 1]/\Kc b0 Z2 X21/\RwK 32 8 p0 [us0] (.slice (some ⟨p0,0,none⟩) 1 1) X21 from⟨HO1.out.new O jc,O.bk HB1.out zi,O.bk HG1.out zi,by rw[hcu];exact B9,HK01.out.new O HPN.out,HRW1.out.ne (Ob.only O) HNO.out⟩);clear O B9 HO1 HB1 HG1 HN1 HK01 HRW1 hcu;exact tNxp_2
      | false=>
        have HOI:=hid (show ¬o=(i:Int)from of_decide_eq_false HQ.out);have hcu:cuO o (i+1)=cuO o i:=by have:=HOI.out;unfold cuO;split <;> split <;> omega
        have HIV:=hid (show Ob R w X20/\Bk X20 R [qB r2]/\Bk X20 G zNd/\Bk X20 N [.int .i64 (cuO o (i+1)),.string ⟨#[]⟩,.int .i64 0,.bool false,.slice none 0 0,.int .i64 0,.int .i64 0,.slice (some ⟨p0,0,none⟩) 1 1]/\Kc b0 Z2 X20/\RwK 32 8 p0 [us0] (.slice (some ⟨p0,0,none⟩) 1 1) X20 from⟨HO1.out,HB1.out,HG1.out,by rw[hcu];exact HN1.out,HK01.out,HRW1.out⟩);clear HO1 HB1 HG1 HN1 HK01 HRW1 hcu;exact tNxp_2
    · have hil:¬(i:Int)<=6:=by omega
      obtain rfl:i=7:=ze
      have HIV:Hid (Ob R w wr/\Bk wr R [qB r2]/\Bk wr G zNd/\Bk wr N [.int .i64 (cuO o 7),.string ⟨#[]⟩,.int .i64 0,.bool false,.slice none 0 0,.int .i64 0,.int .i64 0,.slice (some ⟨p0,0,none⟩) 1 1]/\Kc b0 Z2 wr/\RwK 32 8 p0 [us0] (.slice (some ⟨p0,0,none⟩) 1 1) wr):=HIV;rw[show cuO o 7=o from by have:=HOB.out;unfold cuO;rw[if_pos (by omega)]]at HIV;have HO6:=hid HIV.out.1;have HB6:=hid HIV.out.2.1;have HG6:=hid HIV.out.2.2.1;have HN6:=hid HIV.out.2.2.2.1;have HK06:=hid HIV.out.2.2.2.2.1;have HRW6:=hid HIV.out.2.2.2.2.2;have HV6:=HV5;have HL6:=HL5;clear HIV HV5 HL5 hg h4 hi;have HWF:=hid (show(Lit.int .i64 o).wf=true from(show(decide ((-9223372036854775808:Int)<=o)&&decide (o<=(9223372036854775807:Int)))=true by have:=HOB.out;simp;omega));go_upto_region 12 with fail;refine wp_region_any zc ?_;have ed:Ext wr {wr with drawn:=wr.drawn+1} :=(Ext.refl _).drew;generalize({wr with drawn:=wr.drawn+1}:World)=Z7 at ed ⊢;have HO7:=hid (HO6.out.then ed);have HB7:=hid (HB6.out.ext ed);have HG7:=hid (HG6.out.ext ed);have HN7:=hid (HN6.out.ext ed);have HK07:=hid (HK06.out.trans (Kc.ext ed));have HRW7:=hid (HRW6.out.ext ed);clear HO6 HB6 HG6 HN6 HK06 HRW6;have HV7:=HV6;have HL7:=HL6;clear HV6 HL6;clear ed;refine tkM 0 (.pointer (some ⟨R,0,none⟩)) ?_;refine tkF 2 (jI N) ?_;refine tkD 3 [4,5,6] (λw=>World.cell? w ⟨N,0,none⟩=some (.int .i64 o)) (p:=.pointer (some ⟨N,0,none⟩)) (u:=.int .i64 o) (λw h=>xL _ _ _ h) (HN7.out.c 0 _ rfl) ?_
      try simp only[List.getElem_toArray,List.getElem_cons_succ,List.getElem_cons_zero,Act.put,List.setIfInBounds_toArray,List.set_cons_zero,List.set_cons_succ]
      refine stD 1 rfl (λK hK=>qM (us:= []) (en func56) zc (words_c _) (λv6 Z8 h=>hK _ _ (h.ext'.cell (HN7.out.c 0 _ rfl)) ?_) (λch X h=>by{obtain⟨x,hx,_⟩:=h;cases hx}) (λX h=>by{obtain⟨x,hx,_⟩:=h;cases hx}));clear hK K
      try simp only[List.getElem_toArray,List.getElem_cons_succ,List.getElem_cons_zero,Act.put,List.setIfInBounds_toArray,List.set_cons_zero,List.set_cons_succ]
      obtain⟨vm,h0,e7,bm,rfl,hm⟩:=h;cases h0;have HMW:=hid hm;have HO8:=hid (HO7.out.then e7);have HB8:=hid (HB7.out.ext e7);have HG8:=hid (HG7.out.ext e7);have HN8:=hid (HN7.out.ext e7);have HK08:=hid (HK07.out.trans (Kc.ext e7));have HRW8:=hid (HRW7.out.ext e7);clear HO7 HB7 HG7 HN7 HK07 HRW7;have HV8:=HV7;have HL8:=HL7;clear HV7 HL7;clear e7 hm;refine enD ?_;refine stA 4 rfl (λK hK=>wp_lk (words_at HMW.out HWF.out) (hK _ _ ?_));clear hK K
      try simp only[List.getElem_toArray,List.getElem_cons_succ,List.getElem_cons_zero,Act.put,List.setIfInBounds_toArray,List.set_cons_zero,List.set_cons_succ]
      have hcat:∀w',Sem.run prog (do eqGuard .add 9 (.tmp 58) (.const (.string ⟨#[32]⟩)) (qB (opW o)) (qB [32]);binOp .add 9 (qB (opW o)) (qB [32])) w'=.ok (qB (opW o++ [32])) w':=λw'=>by
        have h:=cat_bin (P:=prog) (opW o) [32] 9 (by have:=opW_len o;simp;omega) w'
        simpa [eqGuard]using h
      refine stA 5 rfl (λK hK=>wp_bo (hcat _) (hK _ _ ?_));clear hK K hcat
      try simp only[List.getElem_toArray,List.getElem_cons_succ,List.getElem_cons_zero,Act.put,List.setIfInBounds_toArray,List.set_cons_zero,List.set_cons_succ]
      refine stA 6 rfl (λK hK=>qM (us:= [.pointer (some ⟨R,0,none⟩),qB (opW o++ [32])]) (en func77) zc (jZ (s:=r2) (x:=opW o++ [32]) HB8.out) (λv Z9 h=>hK _ _ ?_) (λch X h=>by{obtain⟨h1,rfl,h2⟩:=xV h;exact⟨rfl,RdP.fail (HO8.out.trans h2) (by rw[HV8.out,h1];rfl)⟩}) (λX h=>(h.big).elim));clear hK K
      try simp only[List.getElem_toArray,List.getElem_cons_succ,List.getElem_cons_zero,Act.put,List.setIfInBounds_toArray,List.set_cons_zero,List.set_cons_succ]
      obtain⟨r3,h1,h2,h3,rfl⟩:=xU h;have HO9:=hid (HO8.out.trans h2);have HB9:=hid h3;have HG9:=hid (h2.bk HG8.out (Ne.symm HRG.out));have HN9:=hid (h2.bk HN8.out zi);have HK09:=hid (HK08.out.trans (Kc.ob h2 HQ0.out.2.1));have HRW9:=hid (HRW8.out.ob h2 HQG.out.2.1);clear HO8 HB8 HG8 HN8 HK08 HRW8;have hv:=HV8.out;rw[h1,Option.bind_some]at hv
      try dsimp only at hv
      have HV9:=hid hv;have HL9:=hid (show r3.length<=1000000 by have:=qJ h1;have:=HL8.out;omega);clear hv HV8 HL8;clear h h1 h2 h3;refine zP zc ?_ _;go_upto_region 13 with fail;refine wp_region_any zc ?_;have ed:Ext Z9 {Z9 with drawn:=Z9.drawn+1} :=(Ext.refl _).drew;generalize({Z9 with drawn:=Z9.drawn+1}:World)=Z10 at ed ⊢;have HO10:=hid (HO9.out.then ed);have HB10:=hid (HB9.out.ext ed);have HG10:=hid (HG9.out.ext ed);have HN10:=hid (HN9.out.ext ed);have HK010:=hid (HK09.out.trans (Kc.ext ed));have HRW10:=hid (HRW9.out.ext ed);clear HO9 HB9 HG9 HN9 HK09 HRW9;have HV10:=HV9;have HL10:=HL9;clear HV9 HL9;clear ed;have HQ1:=hid (show G<Z10.heap.size/\R<Z10.heap.size/\w.heap.size<=Z10.heap.size by have:=HG10.out.lt;have:=HB10.out.lt;have:=HGs.out;omega);have HQN1:=hid (HN10.out.lt);obtain⟨b1,hb⟩:∃b,Z10.heap.size=b:=⟨_,rfl⟩;have HBE1:=hid hb;rw[hb]at HQ1 HQN1;clear hb;have HOW:=hid (World.ownsRow.lt HRW10.out.1);refine tkF 0 (qN N) ?_;refine tkM 2 (.pointer (some ⟨R,0,none⟩)) ?_;refine tkM 3 v ?_;refine tkM 4 (.int .i64 d) ?_;refine tkB 5 (b:=.add) (T:=3) (p:=.int .i64 d) (q:=.int .i64 1) (r:=.int .i64 (d+1)) (λw=>by go_simp) ?_;refine tkD 1 [8,9,10] (λw=>World.cell? w ⟨N,7,none⟩=some (.slice (some ⟨p0,0,none⟩) 1 1)) (p:=.pointer (some ⟨N,7,none⟩)) (u:=.slice (some ⟨p0,0,none⟩) 1 1) (λw h=>qQ _ _ _ h) (HN10.out.c 7 _ rfl) ?_
      try simp only[List.getElem_toArray,List.getElem_cons_succ,List.getElem_cons_zero,Act.put,List.setIfInBounds_toArray,List.set_cons_zero,List.set_cons_succ]
      refine stD 6 rfl (λK hK=>qM (us:= [.pointer (some ⟨R,0,none⟩),v,.int .i64 (d+1)]) (en func78) zc (HI.out b r3 _ _ HB10.out HL10.out (HSC.out.ob HO10.out (Nat.lt_succ_self R)) xr) (λv6 Z11 h=>hK _ _ ((h.1.bk HN10.out zi).c 7 _ rfl) ?_) (λch X h=>by{obtain⟨h1,rfl,h2⟩:=h.pan;exact⟨rfl,RdP.fail (HO10.out.trans h2) (by rw[HV10.out,h1];rfl)⟩}) (λX h=>(h.big).elim));clear hK K
      try simp only[List.getElem_toArray,List.getElem_cons_succ,List.getElem_cons_zero,Act.put,List.setIfInBounds_toArray,List.set_cons_zero,List.set_cons_succ]
      obtain⟨y1,t1,h1,h2,h3,us1,rfl,h4⟩:=h.ret;rw[HBE1.out]at h4;have HP1:=hid h4;have HO11:=hid (HO10.out.trans h2);have HB11:=hid h3;have HG11:=hid (h2.bk HG10.out (Ne.symm HRG.out));have HN11:=hid (h2.bk HN10.out zi);have HK011:=hid (HK010.out.trans (Kc.ob h2 HQ0.out.2.1));have HRW11:=hid (HRW10.out.ob h2 HQG.out.2.1);clear HO10 HB10 HG10 HN10 HK010 HRW10;have hv:=HV10.out;rw[h1,Option.bind_some]at hv
      try dsimp only at hv
      have HV11:=hid hv;have HL11:=hid (show t1.length<=1000000 by have:=exP_len k h1;have:=HL10.out;omega);clear hv HV10 HL10;have HK111:=hid (Kc.refl b1 Z11);clear h h1 h2 h3 h4;refine stD 7 rfl (λK hK=>wp_bs HP1.out.len HP1.out.nw.2 (λBn e7 hs=>hK _ _ (e7.cell (HN11.out.c 7 _ rfl)) ?_));clear hK K Bn
      try simp only[List.getElem_toArray,List.getElem_cons_succ,List.getElem_cons_zero,Act.put,List.setIfInBounds_toArray,List.set_cons_zero,List.set_cons_succ]
      obtain⟨p1,hg8⟩:∃g,Z11.heap.size=g:=⟨_,rfl⟩;rw[hg8]at hs ⊢;generalize Z11.alloc (.cells us1.toArray 32)=Z12 at e7 hs ⊢;have HS1:=hid hs;have HO12:=hid (HO11.out.then e7);have HB12:=hid (HB11.out.ext e7);have HG12:=hid (HG11.out.ext e7);have HN12:=hid (HN11.out.ext e7);have HK012:=hid (HK011.out.trans (Kc.ext e7));have HRW12:=hid (HRW11.out.ext e7);have HK112:=hid (HK111.out.trans (Kc.ext e7));clear HO11 HB11 HG11 HN11 HK011 HRW11 HK111;have HV12:=HV11;have HL12:=HL11;clear HV11 HL11;have HG8:=hid (show p0<=Z12.heap.size by have:=HRW12.out.base_le zo;omega);clear hs hg8 e7;refine enD ?_;refine stA 8 rfl (λK hK=>?_);refine wp_ndo 69 (.tmp 62) (.tmp 68) rfl p0 [us0] us1 (.slice (some ⟨p0,0,none⟩) 1 1) (.slice (some ⟨p1,0,none⟩) 1 1) zc zc HRW12.out ⟨HP1.out.len,HP1.out.nw.1,HP1.out.nw.2⟩ HS1.out zo HG8.out (λv8 Z13 q1 q2 q3 q4=>hK _ _ ?_);clear hK K
      try simp only[Act.put,List.setIfInBounds_toArray,List.set_cons_zero,List.set_cons_succ]
      obtain⟨ao9,cap9,hv8,-⟩:=q1.at (λus h=>by rcases List.mem_append.1 h with h|h;obtain rfl:=List.mem_singleton.1 h;exact HP0.out.len;obtain rfl:=List.mem_singleton.1 h;exact HP1.out.len);have hv8:v8=.slice ao9 2 cap9:=hv8;subst hv8;have q1:RwK 32 8 p0 [us0,us1] (.slice ao9 2 cap9) Z13:=q1;have HNP:=hid (show ∀g,(Value.slice ao9 2 cap9).ownBlock=some g->g≠N from λg e=>by rcases q4 with h|h;(rw[h]at e;exact HNO.out g e);(rw[h]at e;cases e;have:=HN12.out.lt;omega));have HO13:=hid (ob_grown HO12.out q2 q3 (λg e=>by have:=(HOW.out _ e).1;have:=HQG.out;have:=HNG.out;have:=HGs.out;omega));have HB13:=hid (jO HB12.out q2 (λe=>by have:=(HOW.out _ e).1;have:=HQG.out;omega));have HG13:=hid (jO HG12.out q2 (λe=>by have:=(HOW.out _ e).1;have:=HQG.out;have:=HNG.out;omega));have HN13:=hid (jO HN12.out q2 (λe=>HNO.out _ e rfl));have HK013:=hid (HK012.out.grown q2 q3 (λg e=>by have:=(HOW.out _ e).1;have:=HGE.out;omega));have HRW13:=hid q1;have HK113:=hid (HK112.out.trans (Kc.grown2 q2 q3 (λg e=>by have:=(HOW.out _ e).2;have:=HBE1.out;omega)));clear HO12 HB12 HG12 HN12 HK012 HRW12 HK112;have HV13:=HV12;have HL13:=HL12;clear HV12 HL12;replace HNO:=HNP;clear q1 q2 q3 q4 HG8 HNP;refine tkF 9 (qN N) ?_
      try simp only[List.getElem_toArray,List.getElem_cons_succ,List.getElem_cons_zero,Act.put,List.setIfInBounds_toArray,List.set_cons_zero,List.set_cons_succ]
      refine stA 10 rfl (λK hK=>?_);refine stCO 7 (u:=.slice ao9 2 cap9) HN13.out (st_Nds ao9 2 cap9) rfl (nwSl (some ⟨p0,0,none⟩) 1 1) (λZ14 B9 O=>hK _ _ ?_);clear hK K
      try simp only[List.getElem_toArray,List.getElem_cons_succ,List.getElem_cons_zero,Act.put,List.setIfInBounds_toArray,List.set_cons_zero,List.set_cons_succ]
      have HO14:=hid (HO13.out.new O jc);have HB14:=hid (O.bk HB13.out zi);have HG14:=hid (O.bk HG13.out zi);have HN14:=hid (show Bk Z14 N [.int .i64 o,.string ⟨#[]⟩,.int .i64 0,.bool false,.slice none 0 0,.int .i64 0,.int .i64 0,.slice ao9 2 cap9]from B9);have HK014:=hid (HK013.out.new O HPN.out);have HRW14:=hid (HRW13.out.ne (Ob.only O) HNO.out);have HK114:=hid (HK113.out.trans (Kc.only O HQN1.out));clear HO13 HB13 HG13 HN13 HK013 HRW13 HK113;have HV14:=HV13;have HL14:=HL13;clear HV13 HL13;clear B9 O;refine zP zc ?_ _;go_upto_region 14 with fail;refine wp_region_lit ?_;refine stL (λK hK=>qV (hK _ _ ?_));clear hK K
      go_simp
      refine stL (λK hK=>?_);refine qM (us:= [.pointer (some ⟨R,0,none⟩),qB [41]]) (en func77) zc (jZ (s:=t1) (x:= [41]) HB14.out) (λv Z15 h=>hK _ _ ?_) (λch X h=>by{obtain⟨h1,rfl,h2⟩:=xV h;exact⟨rfl,RdP.fail (HO14.out.trans h2) (by rw[HV14.out,h1];rfl)⟩}) (λX h=>(h.big).elim);clear hK K;obtain⟨r4,h1,h2,h3,rfl⟩:=xU h;have HO15:=hid (HO14.out.trans h2);have HB15:=hid h3;have HG15:=hid (h2.bk HG14.out (Ne.symm HRG.out));have HN15:=hid (h2.bk HN14.out zi);have HK015:=hid (HK014.out.trans (Kc.ob h2 HQ0.out.2.1));have HRW15:=hid (HRW14.out.ob h2 HQG.out.2.1);have HK115:=hid (HK114.out.trans (Kc.ob h2 HQ1.out.2.1));clear HO14 HB14 HG14 HN14 HK014 HRW14 HK114;have hv:=HV14.out;rw[h1,Option.bind_some]at hv
      try dsimp only at hv
      have HV15:=hid hv;have HL15:=hid (show r4.length<=1000000 by have:=qJ h1;have:=HL14.out;omega);clear hv HV14 HL14;clear h h1 h2 h3
      try go_simp
      refine zI ?_;go_upto_region 15 with fail;refine wp_region_lit ?_;refine stL (λK hK=>wp_ld (p:=.pointer (some ⟨N,0,none⟩)) (u:=.agg [.int .i64 o,.string ⟨#[]⟩,.int .i64 0,.bool false,.slice none 0 0,.int .i64 0,.int .i64 0,.slice ao9 2 cap9].toArray) (ld_Nd _ _ _ rfl HN15.out) (hK _ _ ?_));clear hK K
      go_simp
      refine stL (λK hK=>?_);refine zE (us:= [.int .i64 o,.string ⟨#[]⟩,.int .i64 0,.bool false,.slice none 0 0,.int .i64 0,.int .i64 0,.slice ao9 2 cap9]) HG15.out st_Nd rfl rfl nwZN (λZ16 B8 O=>hK _ _ ?_);have HOe:=hid (HO15.out.new O (Nat.le_of_eq HGs.out));have HBe:=hid (O.bk HB15.out HRG.out);have KG0:=Kc.only O HQ0.out.1;have KG1:=Kc.only O HQ1.out.1;have HR:=hid (show NdW w (.mk o [] 0 0 0 0 [y0,y1]) (.agg [.int .i64 o,.string ⟨#[]⟩,.int .i64 0,.bool false,.slice none 0 0,.int .i64 0,.int .i64 0,.slice ao9 2 cap9].toArray) Z16 from nd_two (by have:=HOB.out;constructor <;> omega) (HRW15.out.ob (Ob.only O) HQG.out.1) HQG.out.2.2 (NdC.low HQ0.out.2.2 _ _ (HP0.out.kc (HK015.out.trans KG0))) (NdC.low HQ1.out.2.2 _ _ (HP1.out.kc (HK115.out.trans KG1))));clear KG0 KG1;clear hK K O HO15 HB15 HG15 HN15;refine zI ?_;have d0:=B8.c 0 _ rfl;have d1:=B8.c 1 _ rfl;have d2:=B8.c 2 _ rfl;have d3:=B8.c 3 _ rfl;have d4:=B8.c 4 _ rfl;have d5:=B8.c 5 _ rfl;have d6:=B8.c 6 _ rfl;have d7:=B8.c 7 _ rfl;go_wp2_with fail;refine zH (v:=.agg [.int .i64 o,.string ⟨#[]⟩,.int .i64 0,.bool false,.slice none 0 0,.int .i64 0,.int .i64 0,.slice ao9 2 cap9].toArray) jj rfl ?_;exact RdP.done HV15.out HOe.out HBe.out HR.out
theorem ex_f(R:Nat):∀k,IhX R k
  |0=>λb s v w B hl hv hb=>ex_zero B
  | k+1=>fun b s v w B hl hv hb=>by
    have IH:=ex_f R k;cases s with
    |nil=>exact ex_nil B
    | cons c t=>
      by_cases h1:c=40
      ·subst h1;exact ex_inf IH B hl hv hb
      · cases h2:xP c with
        |false=>exact ex_num IH h1 h2 B hl hv hb
        | true=>
          cases h3:qG [40] ((c ::t).dropWhile qH)with
          |none=>exact ex_name IH h1 h2 h3 B hl hv hb
          |some s2=>exact ex_call IH h1 h2 h3 B hl hv hb
end
end Go.Proofs.YtenhciieboegbaaGreatDoor
