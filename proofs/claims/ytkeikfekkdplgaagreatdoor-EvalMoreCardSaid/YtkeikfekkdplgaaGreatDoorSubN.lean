/- Lemmas. -/
import Derived.Test.YtkeikfekkdplgaaGreatDoorVal
import Derived.Test.YtkeikfekkdplgaaGreatDoorEg4
import Derived.Test.YtkeikfekkdplgaaGreatDoorBst4
import Derived.Test.YtkeikfekkdplgaaGreatDoorEv10
import Derived.Test.YtkeikfekkdplgaaGreatDoorBwd
namespace Go.Proofs.YtkeikfekkdplgaaGreatDoor
section
open Go Go.RowKit Go.Maps Go.Shelf
open Go.Proofs.Tryz
set_option maxRecDepth 100000
set_option maxHeartbeats 8000000
attribute [local go_sem] Oper.semAt_some
def IsQI(a b:Int):Value ->World ->Prop:=IsQ (IsI 130 a) (IsI 130 b)
theorem IsQI.stb(a b:Int):Stb (IsQI a b) :=IsQ.stb (IsI.stb _ _) (IsI.stb _ _)
instance (a b:Int):StbC (IsQI a b) :=⟨IsQI.stb a b⟩
def lqR:Res Kn ->Int×Int| .ok q =>((Rat.divInt q.lo 1).num,((Rat.divInt q.lo 1).den:Int))| .error _ =>(0,0)
def hqR:Res Kn ->Int×Int| .ok q =>((Rat.divInt q.hi 1).num,((Rat.divInt q.hi 1).den:Int))| .error _ =>(0,0)
def finR:Res Kn ->Bool| .ok q =>q.fin| .error _ =>true
def errR:Res Kn ->Int| .ok _ =>0| .error n =>n
theorem IsQI.nil(w:World):IsQI 0 0 (.agg #[.bool false,.slice none 0 0,.bool false,.slice none 0 0]) w:=⟨_,_,_,_,_,_,_,_,rfl,IsI.nil w _,IsI.nil w _⟩
theorem IsVh.agg{r:Res Kn}{hs:List Value}{x:Value}{w:World}(h:IsVh r hs x w):∃s1 a1 n1 c1 s2 a2 n2 c2 s3 a3 n3 c3 s4 a4 n4 c4 a n c,x =.agg #[.bool s1,.slice a1 n1 c1,.bool s2,.slice a2 n2 c2,.bool s3,.slice a3 n3 c3,.bool s4,.slice a4 n4 c4,.bool (finR r),.slice a n c,.int .i64 (errR r)]/\
  IsQI (lqR r).1 (lqR r).2 (.agg #[.bool s1,.slice a1 n1 c1,.bool s2,.slice a2 n2 c2]) w/\IsQI (hqR r).1 (hqR r).2 (.agg #[.bool s3,.slice a3 n3 c3,.bool s4,.slice a4 n4 c4]) w/\IsRw 0 hs (.slice a n c) w:=by
 obtain⟨a,n,c,h1,h2⟩ :=h
 cases r with
 | error m =>
  obtain rfl:=h1
  exact⟨_,_,_,_,_,_,_,_,_,_,_,_,_,_,_,_,a,n,c,rfl,IsQI.nil w,IsQI.nil w,h2⟩
 | ok q =>
  obtain⟨s1,a1,n1,c1,s2,a2,n2,c2,s3,a3,n3,c3,s4,a4,n4,c4,rfl,k1,k2⟩ :=h1
  exact⟨s1,a1,n1,c1,s2,a2,n2,c2,s3,a3,n3,c3,s4,a4,n4,c4,a,n,c,rfl,k1,k2,h2⟩
def IsIvl(q:Kn):Value ->World ->Prop:=λx w =>∃s1 a1 n1 c1 s2 a2 n2 c2 s3 a3 n3 c3 s4 a4 n4 c4,x =.agg #[.bool s1,.slice a1 n1 c1,.bool s2,.slice a2 n2 c2,.bool s3,.slice a3 n3 c3,.bool s4,.slice a4 n4 c4]/\IsRat 130 (Rat.divInt q.lo 1) (.agg #[.bool s1,.slice a1 n1 c1,.bool s2,.slice a2 n2 c2]) w/\IsRat 130 (Rat.divInt q.hi 1) (.agg #[.bool s3,.slice a3 n3 c3,.bool s4,.slice a4 n4 c4]) w
theorem IsIvl.stb(q:Kn):Stb (IsIvl q) :=λ_ _ _ e ⟨s1,a1,n1,c1,s2,a2,n2,c2,s3,a3,n3,c3,s4,a4,n4,c4,h1,h2,h3⟩ =>⟨s1,a1,n1,c1,s2,a2,n2,c2,s3,a3,n3,c3,s4,a4,n4,c4,h1,IsRat.stbE _ _ _ _ _ e h2,IsRat.stbE _ _ _ _ _ e h3⟩
instance (q:Kn):StbC (IsIvl q) :=⟨IsIvl.stb q⟩
theorem cmpQ_int{a b:Int}(h:a <=b):cmpQ (Rat.divInt a 1) (Rat.divInt b 1) <=0:=by
 have e:∀z:Int,Rat.divInt z 1 =(z:Rat) :=λz =>by rw[show Rat.divInt z 1 =mkRat z 1 from rfl,Rat.mkRat_one]
 have h1:cmpQ (Rat.divInt a 1) (Rat.divInt b 1)=qJ a b:=by rw[e,e];simp[cmpQ]
 rw[h1]
 rcases Int.lt_or_eq_of_le h with h|h
 ·rw[xV h];decide
 ·rw[cmpI_eq h];decide
theorem cmpQ_int1{a b:Int}(h:a <=b):¬0 < cmpQ (Rat.divInt a 1) (Rat.divInt b 1) :=Int.not_lt.2 (cmpQ_int h)
theorem sameV_t{w:World}{r:Res Kn}{hl:List Int}{x y:Value}(hx:IsVh r (hl.map (Value.int .i64)) x w)(hy:IsVh r (hl.map (Value.int .i64)) y w)(hk:hl.length <=1000000):Calls prog 23 #[x,y] w (Ret w (IsV (.bool true))) :=by
 obtain⟨ps1,pa1,pn1,pc1,ps2,pa2,pn2,pc2,ps3,pa3,pn3,pc3,ps4,pa4,pn4,pc4,pa,pn,pc,rfl,pl,ph,py⟩ :=hx.agg
 obtain⟨qs1,qa1,qn1,qc1,qs2,qa2,qn2,qc2,qs3,qa3,qn3,qc3,qs4,qa4,qn4,qc4,qa,qn,qc,rfl,ql,qh,qy⟩ :=hy.agg
 have HK:=hid hk
 clear hk
 obtain⟨W,hW,E,B2,B3⟩:∃W,W =(w.alloc (.cells #[.bool ps1,.slice pa1 pn1 pc1,.bool ps2,.slice pa2 pn2 pc2,.bool ps3,.slice pa3 pn3 pc3,.bool ps4,.slice pa4 pn4 pc4,.bool (finR r),.slice pa pn pc,.int .i64 (errR r)] 50)).alloc (.cells #[.bool qs1,.slice qa1 qn1 qc1,.bool qs2,.slice qa2 qn2 qc2,.bool qs3,.slice qa3 qn3 qc3,.bool qs4,.slice qa4 qn4 qc4,.bool (finR r),.slice qa qn qc,.int .i64 (errR r)] 50)/\Ext w W/\Bk W w.heap.size [.bool ps1,.slice pa1 pn1 pc1,.bool ps2,.slice pa2 pn2 pc2,.bool ps3,.slice pa3 pn3 pc3,.bool ps4,.slice pa4 pn4 pc4,.bool (finR r),.slice pa pn pc,.int .i64 (errR r)]/\Bk W (w.heap.size + 1) [.bool qs1,.slice qa1 qn1 qc1,.bool qs2,.slice qa2 qn2 qc2,.bool qs3,.slice qa3 qn3 qc3,.bool qs4,.slice qa4 qn4 qc4,.bool (finR r),.slice qa qn qc,.int .i64 (errR r)] :=⟨_,rfl,((Ext.refl w).alloc _).alloc _,(Bk.new w _ _).ext ((Ext.refl _).alloc _),Bk.newE _ _ zd _ _⟩
 replace pl:=IsQI.stb _ _ _ _ _ E pl;replace ph:=IsQI.stb _ _ _ _ _ E ph;replace ql:=IsQI.stb _ _ _ _ _ E ql;replace qh:=IsQI.stb _ _ _ _ _ E qh
 have P1:=hid (py.ext E);have Q1:=hid (qy.ext E)
 clear py qy
 go_enter func23,ntmps23
 go_upto_region 1 with fail
 rw[<-hW]
 clear hW
 obtain⟨b,hb⟩:∃b,w.heap.size =b:=⟨_,rfl⟩
 rw[hb]at B2 B3 ⊢
 refine rgs 38 [some 5,some 6,some 7,some 8,some 9,some 10,some 11,some 12,some 13,some 14,some 15,some 16,some 17,some 18,some 19,some 20,some 21,some 22,some 23,some 24,some 25,some 26,some 27,some 28,some 29,some 30,some 31,some 32,some 33,some 34,some 35,some 36,some 37,some 38,some 39,some 40,some 41,some 4] [IsV (.pointer (some ⟨b,0,none⟩)),IsV (.pointer (some ⟨b,0,none⟩)),IsQI (lqR r).1 (lqR r).2,IsV (.pointer (some ⟨b + 1,0,none⟩)),IsV (.pointer (some ⟨b + 1,0,none⟩)),IsQI (lqR r).1 (lqR r).2,IsV (.bool true),IsV (.bool true),IsV (.pointer (some ⟨b,0,none⟩)),IsV (.pointer (some ⟨b,4,none⟩)),IsQI (hqR r).1 (hqR r).2,IsV (.pointer (some ⟨b + 1,0,none⟩)),IsV (.pointer (some ⟨b + 1,4,none⟩)),IsQI (hqR r).1 (hqR r).2,IsV (.bool true),IsV (.bool true),IsV (.bool true),IsV (.pointer (some ⟨b,8,none⟩)),IsV (.bool (finR r)),IsV (.pointer (some ⟨b + 1,8,none⟩)),IsV (.bool (finR r)),IsV (.bool true),IsV (.bool true),IsV (.bool true),IsV (.pointer (some ⟨b,9,none⟩)),IsV (.slice pa pn pc),IsV (.pointer (some ⟨b + 1,9,none⟩)),IsV (.slice qa qn qc),IsV (.bool true),IsV (.bool true),IsV (.bool true),IsV (.pointer (some ⟨b,10,none⟩)),iV (errR r),IsV (.pointer (some ⟨b + 1,10,none⟩)),iV (errR r),IsV (.bool true),IsV (.bool true),IsV (.bool true)] [] ?_ ?_
 ·refine Rc (fa (fa_Vl0 (b)) (qB (x:=.pointer (some ⟨b,0,none⟩)) 2)) ?_
  refine Rc (fa (fa_Iv0 (b) 0) (qA (fP:=IsV (.pointer (some ⟨b,0,none⟩))) 0 5)) ?_
  refine Rc (lv (fP:=IsQI (lqR r).1 (lqR r).2) _ (λw' e =>ld_Rat w' (b) 0 ps1 pa1 pn1 pc1 ps2 pa2 pn2 pc2 ((B2.ext e).c 0 _ rfl) ((B2.ext e).c 1 _ rfl) ((B2.ext e).c 2 _ rfl) ((B2.ext e).c 3 _ rfl)) (qA (fP:=IsV (.pointer (some ⟨b,0,none⟩))) 1 6) (λw' e =>IsQI.stb _ _ _ _ _ e pl)) ?_
  refine Rc (fa (fa_Vl0 (b + 1)) (qB (x:=.pointer (some ⟨b + 1,0,none⟩)) 3)) ?_
  refine Rc (fa (fa_Iv0 (b + 1) 0) (qA (fP:=IsV (.pointer (some ⟨b + 1,0,none⟩))) 3 8)) ?_
  refine Rc (lv (fP:=IsQI (lqR r).1 (lqR r).2) _ (λw' e =>ld_Rat w' (b + 1) 0 qs1 qa1 qn1 qc1 qs2 qa2 qn2 qc2 ((B3.ext e).c 0 _ rfl) ((B3.ext e).c 1 _ rfl) ((B3.ext e).c 2 _ rfl) ((B3.ext e).c 3 _ rfl)) (qA (fP:=IsV (.pointer (some ⟨b + 1,0,none⟩))) 4 9) (λw' e =>IsQI.stb _ _ _ _ _ e ql)) ?_
  refine Rc (cl2 (en func19) (qA (fP:=IsQI (lqR r).1 (lqR r).2) 2 7) (qA (fP:=IsQI (lqR r).1 (lqR r).2) 5 10) (λx0 x1 w' hE d0 d1 =>by{exact rqSame_t d0 d1 dcx rfl rfl})) ?_
  refine Rc (mv (qA (fP:=IsV (.bool true)) 6 11)) ?_
  refine RcG 7 12 true (fa (fa_Vl0 (b)) (qB (x:=.pointer (some ⟨b,0,none⟩)) 2)) ?_
  refine RcG 7 12 true (fa (fa_Iv1 (b) 0) (qA (fP:=IsV (.pointer (some ⟨b,0,none⟩))) 8 13)) ?_
  refine RcG 7 12 true (lv (fP:=IsQI (hqR r).1 (hqR r).2) _ (λw' e =>ld_Rat w' (b) 4 ps3 pa3 pn3 pc3 ps4 pa4 pn4 pc4 ((B2.ext e).c 4 _ rfl) ((B2.ext e).c 5 _ rfl) ((B2.ext e).c 6 _ rfl) ((B2.ext e).c 7 _ rfl)) (qA (fP:=IsV (.pointer (some ⟨b,4,none⟩))) 9 14) (λw' e =>IsQI.stb _ _ _ _ _ e ph)) ?_
  refine RcG 7 12 true (fa (fa_Vl0 (b + 1)) (qB (x:=.pointer (some ⟨b + 1,0,none⟩)) 3)) ?_
  refine RcG 7 12 true (fa (fa_Iv1 (b + 1) 0) (qA (fP:=IsV (.pointer (some ⟨b + 1,0,none⟩))) 11 16)) ?_
  refine RcG 7 12 true (lv (fP:=IsQI (hqR r).1 (hqR r).2) _ (λw' e =>ld_Rat w' (b + 1) 4 qs3 qa3 qn3 qc3 qs4 qa4 qn4 qc4 ((B3.ext e).c 4 _ rfl) ((B3.ext e).c 5 _ rfl) ((B3.ext e).c 6 _ rfl) ((B3.ext e).c 7 _ rfl)) (qA (fP:=IsV (.pointer (some ⟨b + 1,4,none⟩))) 12 17) (λw' e =>IsQI.stb _ _ _ _ _ e qh)) ?_
  refine RcG 7 12 true (cl2 (en func19) (qA (fP:=IsQI (hqR r).1 (hqR r).2) 10 15) (qA (fP:=IsQI (hqR r).1 (hqR r).2) 13 18) (λx0 x1 w' hE d0 d1 =>by{exact rqSame_t d0 d1 dcx rfl rfl})) ?_
  refine Rc (pk (qC 7 12) (qA (fP:=IsV (.bool true)) 14 19)) ?_
  refine Rc (mv (qA (fP:=IsV (.bool true)) 15 20)) ?_
  refine RcG 16 21 true (fa (fa_Vl1 (b)) (qB (x:=.pointer (some ⟨b,0,none⟩)) 2)) ?_
  refine RcG 16 21 true (lvC 8 B2 ld_b (qA (fP:=IsV (.pointer (some ⟨b,8,none⟩))) 17 22)) ?_
  refine RcG 16 21 true (fa (fa_Vl1 (b + 1)) (qB (x:=.pointer (some ⟨b + 1,0,none⟩)) 3)) ?_
  refine RcG 16 21 true (lvC 8 B3 ld_b (qA (fP:=IsV (.pointer (some ⟨b + 1,8,none⟩))) 19 24)) ?_
  refine RcG 16 21 true (bn (r:=.bool true) (qC 18 23) (qC 20 25) (hr:=λw =>by go_simp)) ?_
  refine Rc (pk (qC 16 21) (qA (fP:=IsV (.bool true)) 21 26)) ?_
  refine Rc (mv (qA (fP:=IsV (.bool true)) 22 27)) ?_
  refine RcG 23 28 true (fa (fa_Vl2 (b)) (qB (x:=.pointer (some ⟨b,0,none⟩)) 2)) ?_
  refine RcG 23 28 true (lvC 9 B2 ld_ai (qA (fP:=IsV (.pointer (some ⟨b,9,none⟩))) 24 29)) ?_
  refine RcG 23 28 true (fa (fa_Vl2 (b + 1)) (qB (x:=.pointer (some ⟨b + 1,0,none⟩)) 3)) ?_
  refine RcG 23 28 true (lvC 9 B3 ld_ai (qA (fP:=IsV (.pointer (some ⟨b + 1,9,none⟩))) 26 31)) ?_
  refine RcG 23 28 true (cl2 (en func44) (qA (fP:=IsV (.slice pa pn pc)) 25 30) (qA (fP:=IsV (.slice qa qn qc)) 27 32) (λx0 x1 w' hE d0 d1 =>by{obtain rfl:x0 =.slice pa pn pc:=d0;obtain rfl:x1 =.slice qa qn qc:=d1;exact sameI_t (P1.out.ext hE) (Q1.out.ext hE) HK.out})) ?_
  refine Rc (pk (qC 23 28) (qA (fP:=IsV (.bool true)) 28 33)) ?_
  refine Rc (mv (qA (fP:=IsV (.bool true)) 29 34)) ?_
  refine RcG 30 35 true (fa (fa_Vl3 (b)) (qB (x:=.pointer (some ⟨b,0,none⟩)) 2)) ?_
  refine RcG 30 35 true (lvC 10 B2 ld_e (qA (fP:=IsV (.pointer (some ⟨b,10,none⟩))) 31 36)) ?_
  refine RcG 30 35 true (fa (fa_Vl3 (b + 1)) (qB (x:=.pointer (some ⟨b + 1,0,none⟩)) 3)) ?_
  refine RcG 30 35 true (lvC 10 B3 ld_e (qA (fP:=IsV (.pointer (some ⟨b + 1,10,none⟩))) 33 38)) ?_
  refine RcG 30 35 true (bn (r:=.bool true) (qC 32 37) (qC 34 39) (hr:=λw =>by go_simp)) ?_
  refine Rc (pk (qC 30 35) (qA (fP:=IsV (.bool true)) 35 40)) ?_
  refine Rc (mv (qA (fP:=IsV (.bool true)) 36 41)) ?_
  exact rn0
 intro v X e1 hZ _
 simp only[lxE,Nat.reduceAdd]
 rw[show v 37 =.bool true from hZ 37 dcx]
 replace E:=E.trans e1
 clear e1 hZ
 refine jE ?_
 go_wp2_with fail
 go_ret
 exact⟨_,rfl,E,rfl⟩
theorem inside_t{w:World}{p q:Kn}{x y:Value}(hx:IsIvl q x w)(hy:IsIvl p y w)(hi:q.In p):Calls prog 22 #[x,y] w (Ret w (IsV (.bool true))) :=by
 obtain⟨us1,ua1,un1,uc1,us2,ua2,un2,uc2,us3,ua3,un3,uc3,us4,ua4,un4,uc4,rfl,ul,uh⟩ :=hx
 obtain⟨vs1,va1,vn1,vc1,vs2,va2,vn2,vc2,vs3,va3,vn3,vc3,vs4,va4,vn4,vc4,rfl,vl,vh⟩ :=hy
 have h1:cmpQ (Rat.divInt p.lo 1) (Rat.divInt q.lo 1) <=0:=cmpQ_int hi.1
 have h2:cmpQ (Rat.divInt q.hi 1) (Rat.divInt p.hi 1) <=0:=cmpQ_int hi.2
 clear hi
 obtain⟨W,hW,E,B2,B3⟩:∃W,W =(w.alloc (.cells #[.bool us1,.slice ua1 un1 uc1,.bool us2,.slice ua2 un2 uc2,.bool us3,.slice ua3 un3 uc3,.bool us4,.slice ua4 un4 uc4] 47)).alloc (.cells #[.bool vs1,.slice va1 vn1 vc1,.bool vs2,.slice va2 vn2 vc2,.bool vs3,.slice va3 vn3 vc3,.bool vs4,.slice va4 vn4 vc4] 47)/\Ext w W/\Bk W w.heap.size [.bool us1,.slice ua1 un1 uc1,.bool us2,.slice ua2 un2 uc2,.bool us3,.slice ua3 un3 uc3,.bool us4,.slice ua4 un4 uc4]/\Bk W (w.heap.size + 1) [.bool vs1,.slice va1 vn1 vc1,.bool vs2,.slice va2 vn2 vc2,.bool vs3,.slice va3 vn3 vc3,.bool vs4,.slice va4 vn4 vc4] :=⟨_,rfl,((Ext.refl w).alloc _).alloc _,(Bk.new w _ _).ext ((Ext.refl _).alloc _),Bk.newE _ _ zd _ _⟩
 replace ul:=IsRat.stbE _ _ _ _ _ E ul;replace uh:=IsRat.stbE _ _ _ _ _ E uh;replace vl:=IsRat.stbE _ _ _ _ _ E vl;replace vh:=IsRat.stbE _ _ _ _ _ E vh
 go_enter func22,ntmps22
 go_upto_region 1 with fail
 rw[<-hW]
 clear hW
 obtain⟨b,hb⟩:∃b,w.heap.size =b:=⟨_,rfl⟩
 rw[hb]at B2 B3 ⊢
 obtain⟨z1,hz1⟩:∃z,cmpQ (Rat.divInt p.lo 1) (Rat.divInt q.lo 1)=z:=⟨_,rfl⟩
 obtain⟨z2,hz2⟩:∃z,cmpQ (Rat.divInt q.hi 1) (Rat.divInt p.hi 1)=z:=⟨_,rfl⟩
 rw[hz1]at h1;rw[hz2]at h2
 have Z1:=hid hz1;have Z2:=hid hz2
 clear hz1 hz2
 refine rgs 15 [some 5,some 6,some 7,some 8,some 9,some 10,some 11,some 12,some 13,some 14,some 15,some 16,some 17,some 18,some 4] [IsV (.pointer (some ⟨b + 1,0,none⟩)),IsRat 130 (Rat.divInt p.lo 1),IsV (.pointer (some ⟨b,0,none⟩)),IsRat 130 (Rat.divInt q.lo 1),iV z1,IsV (.bool true),IsV (.bool true),IsV (.pointer (some ⟨b,4,none⟩)),IsRat 130 (Rat.divInt q.hi 1),IsV (.pointer (some ⟨b + 1,4,none⟩)),IsRat 130 (Rat.divInt p.hi 1),iV z2,IsV (.bool true),IsV (.bool true),IsV (.bool true)] [] ?_ ?_
 ·refine Rc (fa (fa_Iv0 (b + 1) 0) (qB (x:=.pointer (some ⟨b + 1,0,none⟩)) 3)) ?_
  refine Rc (lv (fP:=IsRat 130 (Rat.divInt p.lo 1)) _ (λw' e =>ld_Rat w' (b + 1) 0 vs1 va1 vn1 vc1 vs2 va2 vn2 vc2 ((B3.ext e).c 0 _ rfl) ((B3.ext e).c 1 _ rfl) ((B3.ext e).c 2 _ rfl) ((B3.ext e).c 3 _ rfl)) (qA (fP:=IsV (.pointer (some ⟨b + 1,0,none⟩))) 0 5) (λw' e =>IsRat.stbE _ _ _ _ _ e vl)) ?_
  refine Rc (fa (fa_Iv0 (b) 0) (qB (x:=.pointer (some ⟨b,0,none⟩)) 2)) ?_
  refine Rc (lv (fP:=IsRat 130 (Rat.divInt q.lo 1)) _ (λw' e =>ld_Rat w' (b) 0 us1 ua1 un1 uc1 us2 ua2 un2 uc2 ((B2.ext e).c 0 _ rfl) ((B2.ext e).c 1 _ rfl) ((B2.ext e).c 2 _ rfl) ((B2.ext e).c 3 _ rfl)) (qA (fP:=IsV (.pointer (some ⟨b,0,none⟩))) 2 7) (λw' e =>IsRat.stbE _ _ _ _ _ e ul)) ?_
  refine Rc (cl2 (en func21) (qA (fP:=IsRat 130 (Rat.divInt p.lo 1)) 1 6) (qA (fP:=IsRat 130 (Rat.divInt q.lo 1)) 3 8) (λx0 x1 w' hE d0 d1 =>by{exact(by have h:=rqCmp_f d0 d1 dcx dcx;rw[Z1.out]at h;exact h)})) ?_
  refine Rc (bn (r:=.bool true) (qC 4 9) qF (hr:=λw =>by go_simp)) ?_
  refine Rc (mv (qA (fP:=IsV (.bool true)) 5 10)) ?_
  refine RcG 6 11 true (fa (fa_Iv1 (b) 0) (qB (x:=.pointer (some ⟨b,0,none⟩)) 2)) ?_
  refine RcG 6 11 true (lv (fP:=IsRat 130 (Rat.divInt q.hi 1)) _ (λw' e =>ld_Rat w' (b) 4 us3 ua3 un3 uc3 us4 ua4 un4 uc4 ((B2.ext e).c 4 _ rfl) ((B2.ext e).c 5 _ rfl) ((B2.ext e).c 6 _ rfl) ((B2.ext e).c 7 _ rfl)) (qA (fP:=IsV (.pointer (some ⟨b,4,none⟩))) 7 12) (λw' e =>IsRat.stbE _ _ _ _ _ e uh)) ?_
  refine RcG 6 11 true (fa (fa_Iv1 (b + 1) 0) (qB (x:=.pointer (some ⟨b + 1,0,none⟩)) 3)) ?_
  refine RcG 6 11 true (lv (fP:=IsRat 130 (Rat.divInt p.hi 1)) _ (λw' e =>ld_Rat w' (b + 1) 4 vs3 va3 vn3 vc3 vs4 va4 vn4 vc4 ((B3.ext e).c 4 _ rfl) ((B3.ext e).c 5 _ rfl) ((B3.ext e).c 6 _ rfl) ((B3.ext e).c 7 _ rfl)) (qA (fP:=IsV (.pointer (some ⟨b + 1,4,none⟩))) 9 14) (λw' e =>IsRat.stbE _ _ _ _ _ e vh)) ?_
  refine RcG 6 11 true (cl2 (en func21) (qA (fP:=IsRat 130 (Rat.divInt q.hi 1)) 8 13) (qA (fP:=IsRat 130 (Rat.divInt p.hi 1)) 10 15) (λx0 x1 w' hE d0 d1 =>by{exact(by have h:=rqCmp_f d0 d1 dcx dcx;rw[Z2.out]at h;exact h)})) ?_
  refine RcG 6 11 true (bn (r:=.bool true) (qC 11 16) qF (hr:=λw =>by go_simp)) ?_
  refine Rc (pk (qC 6 11) (qA (fP:=IsV (.bool true)) 12 17)) ?_
  refine Rc (mv (qA (fP:=IsV (.bool true)) 13 18)) ?_
  exact rn0
 intro v X e1 hZ _
 simp only[lxE,Nat.reduceAdd]
 rw[show v 14 =.bool true from hZ 14 dcx]
 replace E:=E.trans e1
 clear e1 hZ
 refine jE ?_
 go_wp2_with fail
 go_ret
 exact⟨_,rfl,E,rfl⟩
open Go Go.RowKit Go.Maps Go.Sort
theorem any_ins{α:Type}(f:Lit×DataW α ->Bool)(x:Lit×DataW α):∀l:List (Lit×DataW α),(∀p∈DataW.insert x l,p =x\/p∈l)
 | [],p,hp => .inl (by simpa [DataW.insert]using hp)
 | y ::r,p,hp =>by
  unfold DataW.insert at hp
  split at hp
  ·exact(List.mem_cons.1 hp).imp id id
  ·rcases List.mem_cons.1 hp with h|h
   ·exact .inr (by rw[h];exact List.mem_cons_self)
   ·exact(any_ins f x r p h).imp id (List.mem_cons_of_mem _)
theorem dS_keys:∀(l:List (List UInt8)) (es:List (Lit×DU)),(∀p∈es,∃x,p.1 =.string x) ->∃es',l.foldl (λD x =>D.put (.string x) (.lit (.bool true))) (DataW.map es)=.map es'/\∀p∈es',∃x,p.1 =.string x
 | [],es,h =>⟨es,rfl,h⟩
 | x ::l,es,h =>dS_keys l _ λp hp =>by
  rcases any_ins (λ_ =>true) _ _ p hp with e|e
  ·exact⟨x,by rw[e]⟩
  ·exact h p (List.mem_filter.1 e).1
theorem mem_ksL(l:List (List UInt8))(x:List UInt8):x∈ksL l ↔ x∈l:=by
 obtain⟨es,hD,hk⟩ :=dS_keys l [] (λp hp =>absurd hp List.not_mem_nil)
 have hD:dS l =.map es:=hD
 have hm:=has_dS x l
 rw[hD]at hm
 rw[<-hm,has_eq,List.any_eq_true,ksL,List.mem_mergeSort,hD]
 show x∈es.map (λp =>strOf p.1) ↔ _
 rw[List.mem_map]
 constructor
 ·rintro⟨p,hp',rfl⟩
  obtain⟨a,ha⟩ :=hk p hp'
  exact⟨p,hp',by rw[ha];simp[Lit.sameKey,strOf]⟩
 ·rintro⟨p,hp',hs⟩
  obtain⟨a,ha⟩ :=hk p hp'
  rw[ha]at hs
  exact⟨p,hp',by rw[ha];have:=WideAt.sameKey_eq hs;cases this;rfl⟩
theorem leG_ks{s S:Lg}(h:leG s S):∀x∈ksL s.1,x∈ksL S.1:=λx hx =>(mem_ksL _ x).2 (h x ((mem_ksL _ x).1 hx))
open Go Go.RowKit
/-! ### Shelves:what was not read makes no difference -/
theorem ev_hyps(cs:List qL)(bst:List UInt8 ->Option EnD)(fl:ByteArray ->Env ->ByteArray)(P:Int ->Prop)(hc:∀c∈cs,∀h∈c.hyps,P h)(hb:∀x d,bst x =some d ->∀h∈d.hyps,P h):∀(e:Ex) (env:Env) (st:Mst Lg) (r:Res Kn) (st':Mst Lg),ev (xQ cs bst fl) e env st =(r,st') ->(∀h∈st.2.2,P h) ->∀h∈st'.2.2,P h
 | .num z,env,st,r,st',h,hp =>by rw[ev]at h;cases h;exact hp
 | .var x,env,st,r,st',h,hp =>by rw[ev]at h;cases h;exact hp
 | .cell x,env,st,r,st',h,hp =>by
  rw[ev]at h;cases h
  simp only[xQ,clG]
  split
  ·exact hp
  ·rename_i c hf
   intro y hy
   exact(List.mem_append.1 hy).elim (hp y) (hc c (List.mem_of_find?_eq_some hf) y)
 | .val x n,env,st,r,st',h,hp =>by
  rw[ev]at h;cases h
  simp only[xQ,vlG]
  split
  ·exact hp
  ·rename_i d hf
   intro y hy
   exact(List.mem_append.1 hy).elim (hp y) (hb _ d hf y)
 | .loop fst x lo hi b,env,st,r,st',h,hp =>by
  have hs:∀(n:Nat) (t:Tr) (st:Mst Lg) (r:Res Tr) (st':Mst Lg),xO (λn st =>ev (xQ cs bst fl) b (env ++ [(x,n)]) st) fst hi n t st =(r,st') ->(∀h∈st.2.2,P h) ->∀h∈st'.2.2,P h:=by
   intro n
   induction n with
   |zero =>intro t st r st' h hp;simp only[xO]at h;cases h;exact hp
   | succ n ih =>
    intro t st r st' h hp
    rw[xO]at h
    split at h
    ·rcases he:ev (xQ cs bst fl) b (env ++ [(x,t.next)]) (st.1 - 1,st.2)with⟨r1,st1⟩
     have u:=ev_hyps cs bst fl P hc hb b _ _ _ _ he hp
     rw[he]at h
     cases r1 with
     |error e =>cases h;exact u
     | ok q =>
      simp only at h
      split at h
      ·cases h;exact u
      ·exact ih _ _ _ _ h u
    ·cases h;exact hp
  rw[ev]at h
  rcases he:xO (λn st =>ev (xQ cs bst fl) b (env ++ [(x,n)]) st) fst hi (hi + 1 - lo).toNat ⟨0,0,hi + 1,hi + 1,lo,true⟩ st with⟨r1,st1⟩
  have u:=hs _ _ _ _ _ he hp
  rw[he]at h
  cases r1 <;>(cases h;exact u)
 | .bin op a b,env,st,r,st',h,hp =>by
  rw[ev]at h
  rcases he:ev (xQ cs bst fl) a env st with⟨r1,st1⟩
  have u:=ev_hyps cs bst fl P hc hb a _ _ _ _ he hp
  rw[he]at h
  cases r1 with
  |error e =>cases h;exact u
  | ok p =>
   simp only at h
   rcases he2:ev (xQ cs bst fl) b env st1 with⟨r2,st2⟩
   have u2:=ev_hyps cs bst fl P hc hb b _ _ _ _ he2 u
   rw[he2]at h
   cases r2 with
   |error e =>cases h;exact u2
   | ok q =>
    simp only at h
    split at h <;>(cases h;exact u2)
theorem ins_perm{α:Type}(x:Lit×DataW α):∀l:List (Lit×DataW α),(DataW.insert x l).Perm (x ::l)
 | [] =>by simp[DataW.insert]
 | y ::r =>by
  unfold DataW.insert
  split
  ·exact .refl _
  ·exact((ins_perm x r).cons y).trans (.swap ..)
theorem fold_nd{β:Type}(g:β ->Lit)(hg:∀a,(g a).sameKey (g a)=true):∀(l:List β) (es:List (Lit×DU)),es.Pairwise (λp q =>p.1≠q.1) ->(∀p∈es,∃x,p.1 =g x) ->
  ∃es',l.foldl (λD x =>D.put (g x) (.lit (.bool true))) (DataW.map es)=.map es'/\es'.Pairwise (λp q =>p.1≠q.1)/\∀p∈es',∃x,p.1 =g x
 | [],es,h,hk =>⟨es,rfl,h,hk⟩
 | x ::l,es,h,hk =>by
  have hp:=ins_perm (g x,(.lit (.bool true):DU)) (es.filter λp => !p.1.sameKey (g x))
  refine fold_nd g hg l (DataW.insert (g x,.lit (.bool true)) (es.filter λp => !p.1.sameKey (g x))) ?_ ?_
  ·refine(hp.pairwise_iff λh =>h.symm).2 (List.pairwise_cons.2 ⟨λp hm e =>?_,h.filter _⟩)
   have:=(List.mem_filter.1 hm).2
   rw[<-e,hg]at this
   cases this
  ·intro p hm
   rcases List.mem_cons.1 (hp.mem_iff.1 hm)with rfl|hm
   ·exact⟨x,rfl⟩
   ·exact hk p (List.mem_filter.1 hm).1
theorem tSubN_1{P:Prop}(h:P:=by
  rw[hD]
  refine List.pairwise_map.2 (hp.imp_of_mem λ{p q} h1 h2 hne e =>hne ?_)
  obtain⟨a,ha⟩ :=hk p h1
  obtain⟨b,hb⟩ :=hk q h2
  rw[ha,hb]at e ⊢
  exact congrArg _ e
  ):P:=h
theorem ks_nd(l:List (List UInt8)):(ksL l).Nodup:=by
 obtain⟨es,hD,hp,hk⟩ :=fold_nd (λx:List UInt8 =>Lit.string x) (λa =>by simp[Lit.sameKey]) l [] List.Pairwise.nil (λp hp =>absurd hp List.not_mem_nil)
 have hD:dS l =.map es:=hD
 refine(List.mergeSort_perm (strKeys (dS l)) _).nodup_iff.2 ?_
 exact tSubN_1
theorem mem_zsL(l:List Int)(x:Int):x∈zsL l ↔ x∈l:=by
 obtain⟨es,hD,-,hk⟩ :=fold_nd (λx:Int =>Lit.int .i64 x) (λa =>by simp[Lit.sameKey]) l [] List.Pairwise.nil (λp hp =>absurd hp List.not_mem_nil)
 have hD:dI l =.map es:=hD
 have hm:=has_dI x l
 rw[hD]at hm
 rw[<-hm,has_eq,List.any_eq_true,zsL,List.mem_mergeSort,hD]
 show x∈es.map (λp =>Go.intOf p.1) ↔ _
 rw[List.mem_map]
 constructor
 ·rintro⟨p,hp',rfl⟩
  obtain⟨a,ha⟩ :=hk p hp'
  exact⟨p,hp',by rw[ha];simp[Lit.sameKey,Go.intOf]⟩
 ·rintro⟨p,hp',hs⟩
  obtain⟨a,ha⟩ :=hk p hp'
  rw[ha]at hs
  exact⟨p,hp',by rw[ha];have:=WideAt.sameKey_eq hs;cases this;rfl⟩
theorem zs_nd(l:List Int):(zsL l).Nodup:=by
 obtain⟨es,hD,hp,hk⟩ :=fold_nd (λx:Int =>Lit.int .i64 x) (λa =>by simp[Lit.sameKey]) l [] List.Pairwise.nil (λp hp =>absurd hp List.not_mem_nil)
 have hD:dI l =.map es:=hD
 refine(List.mergeSort_perm (intKeys (dI l)) _).nodup_iff.2 ?_
 exact tSubN_1
theorem ksL_len{l SS:List (List UInt8)}(h:∀x∈l,x∈SS):(ksL l).length <=SS.length:=nd_len _ _ (ks_nd l) λx hx =>h x ((mem_ksL _ x).1 hx)
theorem zsL_len{l SI:List Int}(h:∀x∈l,x∈SI):(zsL l).length <=SI.length:=nd_len _ _ (zs_nd l) λx hx =>h x ((mem_zsL _ x).1 hx)
theorem step_next(fst:Bool)(t:Tr)(q:Kn):(t.step fst q).2 =false ->(t.step fst q).1.next =t.next + 1:=by
 unfold Tr.step
 repeat' split
 all_goals simp
theorem ev_names(cs:List qL)(bst:List UInt8 ->Option EnD)(fl:ByteArray ->Env ->ByteArray)(P:List UInt8 ->Prop):∀(e:Ex) (env:Env) (st:Mst Lg) (r:Res Kn) (st':Mst Lg),(∀y∈xJ fl e env,P y) ->ev (xQ cs bst fl) e env st =(r,st') ->(∀x∈st.2.1,P x) ->∀x∈st'.2.1,P x
 | .num z,env,st,r,st',_,h,hp =>by rw[ev]at h;cases h;exact hp
 | .var x,env,st,r,st',_,h,hp =>by rw[ev]at h;cases h;exact hp
 | .cell x,env,st,r,st',_,h,hp =>by
  rw[ev]at h;cases h
  simp only[xQ,clG]
  split <;> exact hp
 | .val x n,env,st,r,st',hn,h,hp =>by
  rw[ev]at h;cases h
  simp only[xQ,vlG]
  have h1:P (fl x env).data.toList:=hn _ (by simp[xJ])
  split
  all_goals
   intro y hy
   rcases List.mem_append.1 hy with hy|hy
   ·exact hp y hy
   ·rw[List.mem_singleton.1 hy];exact h1
 | .loop fst x lo hi b,env,st,r,st',hn,h,hp =>by
  have hn':∀z:Int,lo <=z ->z <=hi ->∀y∈xJ fl b (env ++ [(x,z)]),P y:=λz h1 h2 y hy =>hn y (by
   rw[xJ,List.mem_flatMap]
   exact⟨(z - lo).toNat,List.mem_range.2 zb,by rw[show lo + ((z - lo).toNat:Int)=z from by omega];exact hy⟩)
  have hs:∀(n:Nat) (t:Tr) (st:Mst Lg) (r:Res Tr) (st':Mst Lg),lo <=t.next ->xO (λn st =>ev (xQ cs bst fl) b (env ++ [(x,n)]) st) fst hi n t st =(r,st') ->(∀h∈st.2.1,P h) ->∀h∈st'.2.1,P h:=by
   intro n
   induction n with
   |zero =>intro t st r st' _ h hp;simp only[xO]at h;cases h;exact hp
   | succ n ih =>
    intro t st r st' hl h hp
    rw[xO]at h
    split at h
    ·rename_i hc
     rcases he:ev (xQ cs bst fl) b (env ++ [(x,t.next)]) (st.1 - 1,st.2)with⟨r1,st1⟩
     have u:=ev_names cs bst fl P b _ _ _ _ (hn' t.next hl hc.1) he hp
     rw[he]at h
     cases r1 with
     |error e =>cases h;exact u
     | ok q =>
      simp only at h
      have hnx:=step_next fst t q
      generalize t.step fst q =z at h hnx
      obtain⟨t',bb⟩ :=z
      cases bb with
      |true =>cases h;exact u
      |false =>exact ih _ _ _ _ (by have:=hnx rfl;simp only at this;omega) h u
    ·cases h;exact hp
  rw[ev]at h
  rcases he:xO (λn st =>ev (xQ cs bst fl) b (env ++ [(x,n)]) st) fst hi (hi + 1 - lo).toNat ⟨0,0,hi + 1,hi + 1,lo,true⟩ st with⟨r1,st1⟩
  have u:=hs _ _ _ _ _ (Int.le_refl _) he hp
  rw[he]at h
  cases r1 <;>(cases h;exact u)
 | .bin op a b,env,st,r,st',hn,h,hp =>by
  rw[xJ]at hn
  rw[ev]at h
  rcases he:ev (xQ cs bst fl) a env st with⟨r1,st1⟩
  have u:=ev_names cs bst fl P a _ _ _ _ (λy hy =>hn y (List.mem_append_left _ hy)) he hp
  rw[he]at h
  cases r1 with
  |error e =>cases h;exact u
  | ok p =>
   simp only at h
   rcases he2:ev (xQ cs bst fl) b env st1 with⟨r2,st2⟩
   have u2:=ev_names cs bst fl P b _ _ _ _ (λy hy =>hn y (List.mem_append_right _ hy)) he2 u
   rw[he2]at h
   cases r2 with
   |error e =>cases h;exact u2
   | ok q =>
    simp only at h
    split at h <;>(cases h;exact u2)
end
section
open Go Go.RowKit Go.Maps Go.Sort
open Go.Proofs.Tryz
theorem zl{P:Prop}(h:P:=by have:=HL.out;omega):P:=h
set_option maxRecDepth 100000
set_option maxHeartbeats 4000000
theorem bsG_mem{L:List (List Value)}{dat:List Value->EnD}{gs:List Int}{y:List UInt8}{d:EnD}(h:bsG L dat gs y=some d):∃vs∈L,d=dat vs:=by
 obtain⟨vs,hv,rfl⟩:=Option.map_eq_some_iff.1 h;exact⟨vs,bestH_mem hv,rfl⟩
theorem lens_R{cs:List qL}{L:List (List Value)}{dat:List Value->EnD}{gs SI:List Int}{e:Ex}(K:ShpMOk SI cs L dat gs)(hT:wfT 4 [] e)(s0:Nat):
  (ksL (evR cs L dat gs e s0).2.2.1).length<=2401/\(zsL (evR cs L dat gs e s0).2.2.2).length<=SI.length:=by
 rcases he:evR cs L dat gs e s0 with⟨r,k,na,ha⟩;refine⟨jK (ksL_len (SS:=xJ flG e []) ?_) (namesE_len flG 4 [] e [] hT),zsL_len (SI:=SI) ?_⟩
 ·exact ev_names cs _ flG (λx=>x∈xJ flG e []) e [] _ _ _ (λ_ h=>h) he (λx hx=>absurd hx List.not_mem_nil)
 ·exact ev_hyps cs _ flG (λx=>x∈SI) (λc hc h hh=>((K.ck c hc).2 h hh).1) (λx d hd h hh=>by
   obtain⟨vs,hv,rfl⟩:=bsG_mem hd
   exact((K.dk vs hv).2.2 h hh).1) e [] _ _ _ he (λx hx=>absurd hx List.not_mem_nil)
open Go Go.RowKit Go.Maps Go.Shelf
attribute [local go_sem] Oper.semAt_some
theorem infI:(prog.info? 3).map (λi=>(i.zero,i.size,i.bytes))=some (some (.int .i64 0),1,8):=by kernel_rfl
theorem IrR.of{base n:Nat}{w:World}{v:Value}{gs:List Int}(h:Rwg 3 1 base w v n (gs.map (λz=>Value.int .i64 z)))(hn:gs.length=n):IrR gs v w:=by
 obtain⟨ao,cap,rfl,-,-,-,h2⟩:=h.shape;refine⟨ao,cap,by rw[hn],λhne=>?_⟩;obtain⟨g,rfl,-,-,h3⟩:=h2 (by rintro rfl;exact hne (List.length_eq_zero_iff.1 hn));exact⟨g,0,rfl,λj x hj=>by rw[Nat.zero_add];exact h3 j _ (by rw[List.getElem?_map,hj];rfl)⟩
def IsGr:Value->World->Prop:=λv w=>∃gs:List Int,gs.length<=3/\(∀y∈gs,1<=y/\y<=3)/\IrR gs v w
theorem IsGr.stb:Stb IsGr:=λ_ _ _ e ⟨gs,h1,h2,h3⟩=>⟨gs,h1,h2,h3.ext e⟩
instance:StbC IsGr:=⟨IsGr.stb⟩
theorem granted_f{w:World}{ca ea:Option Addr}{cn cc en' ec:Nat}{gr:Int}(h0:0<=gr)(h1:gr<=255):Calls prog 14 #[.agg #[.slice ca cn cc,.slice ea en' ec,.int .u8 gr]] w (Ret w IsGr):=by
 obtain⟨W,hW,E,B⟩:∃W,W=w.alloc (.cells #[.slice ca cn cc,.slice ea en' ec,.int .u8 gr] 24)/\Ext w W/\Bk W w.heap.size [.slice ca cn cc,.slice ea en' ec,.int .u8 gr]:=zh;go_enter func14,ntmps14;go_upto_region 1 with fail;rw[<-hW];clear hW;have hE:=E.size;have hq:=rwz_run;have hlt:=B.lt;have HB:=hid B;have HE:=hid E;obtain⟨b,hb⟩:∃b,w.heap.size=b:=⟨_,rfl⟩;have HW:=hid hb;rw[hb]at HB hlt;rw[hb];have HH:=hid (jI h0 h1);have HL:=hid hlt;clear B E hb h0 h1
 go_wp2
 go_loopg [3,4] 3 (λgk v3 v4 wr=>∃(i:Nat) (gs:List Int),v4=.int .i64 (i:Int)/\1<=i/\i+gk=4/\Hid (gs.length+1<=i/\(∀y∈gs,1<=y/\y<=3)/\Rwg 3 1 (b+1) wr v3 gs.length (gs.map (λz=>Value.int .i64 z))/\Below (b+1) W wr))
 case atStart=>exact⟨1, [],rfl,by omega,by omega,hid ⟨by simp,λy hy=>by simp at hy,Rwg.zero W zl,(Below.refl _ _).alloc zl _⟩⟩
 case round=>
  obtain⟨i,gs,rfl,hi1,hg,S⟩:=hrel;obtain⟨s1,s2,s3,s4⟩:=S.out;have B:=HB.out;have c2:=(s4.cell (p:=⟨b,2,none⟩) jm).trans (B.c 2 _ rfl);by_cases hi:i<=3
  ·have hil:(i:Int)<=3:=by omega
   have hiw:IntKind.i64.wrap ((i:Int)+1)=((i+1:Nat):Int):=js
   have HG:=hid (jI hi1 hg);have HI:=hid hi;have hsz:b+1<=wr.heap.size:=by have:=s4.size;omega
   have HS:=hid hsz;obtain⟨bb,hbb⟩:∃t,(bits BinOp.and IntKind.u8 (gr/2^i) 1==1)=t:=⟨_,rfl⟩;clear s1 s2 s3 s4 B hi1 hg hi hsz;cases bb with
   | true=>
    go_wp2_with (at_builtin;go_must (refine wpl_rwg rfl _ _ 41 rfl (b+1) 3 (.int .i64 0) 1 8 za infI rfl dcx _ _ _ rfl (S.out.2.2.1.ext ((Ext.refl _).alloc _)) _ 1 _ [.int .i64 (i:Int)] rfl rfl (cells_newE _ _ _ _ zd) xt (by have:=S.out.1;have:=HI.out;omega) (by have:=S.out.1;have:=HI.out;omega) (by have h1:=HS.out;simp;omega) ?_;intro v9 w10 hr9 hg9 hb9))
    have hx:=hid (jI hr9 (S.out.2.2.2.trans ((Below.refl _ _).alloc HS.out _ |>.trans hb9)));clear hr9 hg9 hb9
    go_roundg (gk-1)
    case measure=>have:=HG.out;have:=HI.out;omega
    case rel=>
     refine⟨i+1,gs++ [(i:Int)],rfl,by omega,by have:=HG.out;have:=HI.out;omega,hid ⟨?_,?_,?_,hx.out.2⟩⟩
     ·have:=S.out.1;simp;omega
     ·intro y hy;rcases List.mem_append.1 hy with h|h
      ·exact S.out.2.1 y h
      ·have:=HG.out;have:=HI.out;rw[List.mem_singleton]at h;omega
     ·have:=hx.out.1;simpa using this
   | false=>
    go_wp2_with fail
    go_roundg (gk-1)
    case measure=>have:=HG.out;have:=HI.out;omega
    case rel=>exact⟨i+1,gs,rfl,by omega,by have:=HG.out;have:=HI.out;omega,hid ⟨by have:=S.out.1;omega,S.out.2.1,S.out.2.2.1,S.out.2.2.2⟩⟩
  ·have hil:¬((i:Int)<=3):=by omega
   have e4:Ext w wr:=Below.trans HE.out (s4.mono (by have:=HW.out;omega));have hgs:gs.length<=3:=zb
   clear S s4 c2 B
   go_wp2
   go_ret
   exact⟨_,rfl,e4,gs,hgs,s2,IrR.of s3 rfl⟩
attribute [local go_sem] Oper.semAt_some
def IsSg(n:Int):Value->World->Prop:=λx w=>∃s1 a1 n1 c1 s2 a2 n2 c2 s3 a3 n3 c3 s4 a4 n4 c4,x=.agg #[.bool s1,.slice a1 n1 c1,.bool s2,.slice a2 n2 c2,.bool s3,.slice a3 n3 c3,.bool s4,.slice a4 n4 c4,.bool true,.slice none 0 0,.int .i64 0]/\
 IsRat 2 (Rat.divInt n 1) (.agg #[.bool s1,.slice a1 n1 c1,.bool s2,.slice a2 n2 c2]) w/\IsRat 2 (Rat.divInt n 1) (.agg #[.bool s3,.slice a3 n3 c3,.bool s4,.slice a4 n4 c4]) w
theorem IsSg.stb(n:Int):Stb (IsSg n):=λ_ _ _ e ⟨s1,a1,n1,c1,s2,a2,n2,c2,s3,a3,n3,c3,s4,a4,n4,c4,h1,h2,h3⟩=>⟨s1,a1,n1,c1,s2,a2,n2,c2,s3,a3,n3,c3,s4,a4,n4,c4,h1,IsRat.stbE _ _ _ _ _ e h2,IsRat.stbE _ _ _ _ _ e h3⟩
instance (n:Int):StbC (IsSg n):=⟨IsSg.stb n⟩
section
variable {ops:Array Oper} {Q:Exit->Act->World->Prop} {ds:List (Option Tmp)} {a0:Act} {w0:World} {L:List (Value->World->Prop)} {boxes:List Nat} {i k:Nat} {o:Oper} {os:List Oper}
theorem bdSg{n:Int}{x:Operand}(hx:Od ops ds a0 w0 L i x (IsIv 2 (Rat.divInt n 1) (Rat.divInt n 1)))(ho:o.op=.build 50 #[(0,x),(1,.const (.bool true))]:=by rfl)(hi:L.getD i (λ_ _=>True)=IsSg n:=by kernel_rfl)(hb:boxes.contains i=false:=by kernel_rfl):Ok prog ops Q ds a0 w0 L boxes i o:=
 Ok.of hb λv a w hE hd hf=>by
  obtain⟨s1,a1,n1,c1,s2,a2,n2,c2,s3,a3,n3,c3,s4,a4,n4,c4,e1,h1,h2,h3,h4⟩:=hx.out v a w hE hd hf;have hr:(Instr.build 50 #[(0,.agg #[.bool s1,.slice a1 n1 c1,.bool s2,.slice a2 n2 c2,.bool s3,.slice a3 n3 c3,.bool s4,.slice a4 n4 c4]),(1,.bool true)]).run prog w=.ok (.agg #[.bool s1,.slice a1 n1 c1,.bool s2,.slice a2 n2 c2,.bool s3,.slice a3 n3 c3,.bool s4,.slice a4 n4 c4,.bool true,.slice none 0 0,.int .i64 0]) w:=zy
  exact⟨_,bd_run ho e1 rfl hr,by rw[hi];exact⟨_,_,_,_,_,_,_,_,_,_,_,_,_,_,_,_,rfl,⟨_,_,_,_,_,_,_,_,rfl,h1,h2⟩,⟨_,_,_,_,_,_,_,_,rfl,h3,h4⟩⟩⟩
end
theorem single_f{n:Int}(w:World)(hn: -9223372036854775808<=n/\n<=9223372036854775807):Calls prog 46 #[.int .i64 n] w (Ret w (IsSg n)):=by
 obtain⟨W,hW,E,B2⟩:∃W,W=w.alloc (.cells #[.bool false,.slice none 0 0,.bool false,.slice none 0 0,.bool false,.slice none 0 0,.bool false,.slice none 0 0,.bool false,.slice none 0 0,.int .i64 0] 50)/\Ext w W/\Bk W w.heap.size [.bool false,.slice none 0 0,.bool false,.slice none 0 0,.bool false,.slice none 0 0,.bool false,.slice none 0 0,.bool false,.slice none 0 0,.int .i64 0]:=
  ⟨_,rfl,(Ext.refl w).alloc _,Bk.new w _ _⟩
 have HN:=hid hn;clear hn;go_enter func46,ntmps46;go_upto_region 1 with fail;rw[<-hW];clear hW;refine rgs 6 (dR 3 6) [iV n,IsRat 2 (Rat.divInt n 1),iV n,IsRat 2 (Rat.divInt n 1),IsIv 2 (Rat.divInt n 1) (Rat.divInt n 1),IsSg n] [] ?_ ?_
 ·refine Rc zt ?_;refine Rc (cl2 (en func47) (qA (fP:=iV n) 0 3) qF (λx0 x1 w' hE d0 d1=>by{obtain rfl:x0=.int .i64 n:=d0;obtain rfl:x1=.int .i64 1:=d1;exact rqOf_f w' n 1 HN.out dcx dcx})) ?_;refine Rc zt ?_;refine Rc (cl2 (en func47) (qA (fP:=iV n) 2 5) qF (λx0 x1 w' hE d0 d1=>by{obtain rfl:x0=.int .i64 n:=d0;obtain rfl:x1=.int .i64 1:=d1;exact rqOf_f w' n 1 HN.out dcx dcx})) ?_;refine Rc (bdIv (qC 1 4) (qC 3 6)) ?_;refine Rc (bdSg (qC 4 7)) ?_;exact rn0
 intro v W1 e1 hZ _;replace E:=E.trans e1;replace B2:=B2.ext e1;obtain⟨s1,a1,n1,c1,s2,a2,n2,c2,s3,a3,n3,c3,s4,a4,n4,c4,hv,g1,g2⟩:=hZ 5 dcx;simp only[lxE,Nat.reduceAdd];rw[hv];clear hv hZ e1;refine stL (λK hK'=>?_);refine qX (us:= [.bool s1,.slice a1 n1 c1,.bool s2,.slice a2 n2 c2,.bool s3,.slice a3 n3 c3,.bool s4,.slice a4 n4 c4,.bool true,.slice none 0 0,.int .i64 0]) B2 st_Vl rfl rfl nwVl (λX9 B9 O=>hK' _ _ ?_);replace g1:=IsRat.gstb _ _ _ _ _ O.gr g1;replace g2:=IsRat.gstb _ _ _ _ _ O.gr g2;replace E:=O.ext E (jJ _);refine jE ?_;clear hK' K O;have d0:=B9.c 0 _ rfl;have d1:=B9.c 1 _ rfl;have d2:=B9.c 2 _ rfl;have d3:=B9.c 3 _ rfl;have d4:=B9.c 4 _ rfl;have d5:=B9.c 5 _ rfl;have d6:=B9.c 6 _ rfl;have d7:=B9.c 7 _ rfl;have d8:=B9.c 8 _ rfl;have d9:=B9.c 9 _ rfl;have d10:=B9.c 10 _ rfl;clear B9 B2;go_wp2_with fail;exact jD (v:=.agg #[.bool s1,.slice a1 n1 c1,.bool s2,.slice a2 n2 c2,.bool s3,.slice a3 n3 c3,.bool s4,.slice a4 n4 c4,.bool true,.slice none 0 0,.int .i64 0]) (by simp[results,results46,go_sem,d0,d1,d2,d3,d4,d5,d6,d7,d8,d9,d10]) rfl ⟨_,rfl,E,s1,a1,n1,c1,s2,a2,n2,c2,s3,a3,n3,c3,s4,a4,n4,c4,rfl,g1,g2⟩
theorem Rwg.grown{e k base n:Nat}{w w':World}{v:Value}{xs:List Value}{row:Option Nat}(h:Rwg e k base w v n xs)(hg:w.grownBy w' row)(hr:∀g,v.ownBlock=some g->row≠some g):Rwg e k base w' v n xs:=by
 obtain⟨h1,h2| ⟨g,cap,cur,hv,hb,hc,hx⟩⟩:=h
 ·exact⟨h1,.inl h2⟩
 ·exact⟨h1,.inr ⟨g,cap,cur,hv,hb,(hg.block g (Array.getElem?_eq_some_iff.1 hc).1 (λe=>hr g (by rw[hv];rfl) e.symm)).trans hc,hx⟩⟩
theorem Rwg.own_lt{e k base n:Nat}{w:World}{v:Value}{xs:List Value}(h:Rwg e k base w v n xs){g:Nat}(hg:v.ownBlock=some g):g<w.heap.size/\base<=g:=by
 obtain⟨h1,⟨h2,h3⟩| ⟨g',cap,cur,hv,hb,hc,hx⟩⟩:=h
 ·rw[h2]at hg;cases hg
 ·rw[hv]at hg;cases hg;exact⟨(Array.getElem?_eq_some_iff.1 hc).1,hb⟩
def zCe:List Value:= [.string ⟨#[]⟩,.int .i64 0,.string ⟨#[]⟩,.int .i64 0,.bool false,.slice none 0 0,.int .i64 0,.int .i64 0,.slice none 0 0]
def zVl2:List Value:= [.bool false,.slice none 0 0,.bool false,.slice none 0 0,.bool false,.slice none 0 0,.bool false,.slice none 0 0,.bool false,.slice none 0 0,.int .i64 0]
theorem tWrd_1{P:Prop}(h:P:=by
  simp only[Prod.mk.injEq,jQ]at hq;obtain⟨h0,h1,h2⟩:=hq;exact⟨i.bytes,by rw[hi];simp[h0,h1],h2⟩
  ):P:=h
theorem infoC:∃bytes,(prog.info? 127).map (λi=>(i.zero,i.size,i.bytes))=some (some (.agg zCe.toArray),9,bytes)/\bytes<=100000:=by
 obtain⟨i,hi,hq⟩:=Option.map_eq_some_iff.1 (show(prog.info? 127).map (λi=>(i.zero,i.size,decide (i.bytes<=100000)))=some (some (.agg zCe.toArray),9,true)by kernel_rfl);exact tWrd_1
theorem infoV:∃bytes,(prog.info? 50).map (λi=>(i.zero,i.size,i.bytes))=some (some (.agg zVl2.toArray),11,bytes)/\bytes<=100000:=by
 obtain⟨i,hi,hq⟩:=Option.map_eq_some_iff.1 (show(prog.info? 50).map (λi=>(i.zero,i.size,decide (i.bytes<=100000)))=some (some (.agg zVl2.toArray),11,true)by kernel_rfl);exact tWrd_1
theorem nwZCe:∀u∈zCe,NoWord u:=by
 intro u hu;simp only[zCe,List.mem_cons,List.not_mem_nil,or_false]at hu;rcases hu with rfl|rfl|rfl|rfl|rfl|rfl|rfl|rfl|rfl
 all_goals first|exact NoWord.bool _|exact NoWord.slice _ _ _|exact NoWord.int64 _|exact NoWord.string _
theorem nwZVl2:∀u∈zVl2,NoWord u:=nwVl
theorem num_one(n:Int):(Rat.divInt n 1).num=n:=by rw[show Rat.divInt n 1=mkRat n 1 from rfl,Rat.mkRat_one];rfl
theorem IsRat.lo{n:Int}{s1 s2:Bool}{a1 a2:Option Addr}{n1 c1 n2 c2:Nat}{w:World}(h:IsRat 2 (Rat.divInt n 1) (.agg #[.bool s1,.slice a1 n1 c1,.bool s2,.slice a2 n2 c2]) w):IsI 128 n (.agg #[.bool s1,.slice a1 n1 c1]) w:=by
 obtain⟨t1,b1,m1,d1,t2,b2,m2,d2,e,h1,h2⟩:=h;simp only[Value.agg.injEq,Array.mk.injEq,List.cons.injEq,Value.bool.injEq,Value.slice.injEq,and_true]at e;obtain⟨rfl,⟨rfl,rfl,rfl⟩,rfl,rfl,rfl,rfl⟩:=e;rw[num_one]at h1;exact h1.mono dcx
theorem Bk.mid5{w:World}{g:Nat}{v0 v1 v2 v3 v4 v5 v6 v7 v8 v9 v10 u4 u5 u6 u7 u8:Value}(B:Bk w g [v0,v1,v2,v3,v4,v5,v6,v7,v8,v9,v10])(n4:NoWord v4)(n5:NoWord v5)(n6:NoWord v6)(n7:NoWord v7)(n8:NoWord v8):
  OnlyB g w (((((w.setCell ⟨g,4,none⟩ u4).setCell ⟨g,5,none⟩ u5).setCell ⟨g,6,none⟩ u6).setCell ⟨g,7,none⟩ u7).setCell ⟨g,8,none⟩ u8)/\Bk (((((w.setCell ⟨g,4,none⟩ u4).setCell ⟨g,5,none⟩ u5).setCell ⟨g,6,none⟩ u6).setCell ⟨g,7,none⟩ u7).setCell ⟨g,8,none⟩ u8) g [v0,v1,v2,v3,u4,u5,u6,u7,u8,v9,v10]:=by
 obtain⟨O4,Q4⟩:=B.setO 4 zd u4 n4;obtain⟨O5,Q5⟩:=Q4.setO 5 zd u5 n5;obtain⟨O6,Q6⟩:=Q5.setO 6 zd u6 n6;obtain⟨O7,Q7⟩:=Q6.setO 7 zd u7 n7;obtain⟨O8,Q8⟩:=Q7.setO 8 zd u8 n8;exact⟨O4.trans (O5.trans (O6.trans (O7.trans O8))),Q8⟩
def VcX(v6 v7:Value)(d:qL)(vs:List Value)(w:World):Prop:=vs.length=11/\vs.all (λu=>u.oneCell')=true/\(∀u∈vs,NoWord u)/\(∃s a n c,vs[0]? =some (.bool s)/\vs[1]? =some (.slice a n c)/\IsI 128 d.lo (.agg #[.bool s,.slice a n c]) w)/\(∃s a n c,vs[4]? =some (.bool s)/\vs[5]? =some (.slice a n c)/\IsI 128 d.hi (.agg #[.bool s,.slice a n c]) w)/\
 vs[8]? =some (.bool d.fin)/\vs[10]? =some (.int .i64 d.err)/\∃ao c,vs[9]? =some (.slice ao d.hyps.length c)/\(d.hyps≠ []->∃g,ao=some ⟨g,0,none⟩/\g<w.heap.size/\v6.ownBlock≠some g/\v7.ownBlock≠some g/\∀j x,d.hyps[j]? =some x->World.cell? w ⟨g,0+j,none⟩=some (.int .i64 x))
theorem VcX.grow{v6 v7 u6 u7:Value}{d:qL}{vs:List Value}{w w':World}{row:Option Nat}(h:VcX v6 v7 d vs w)(hg:w.grownBy w' row)(gr:Gr w w')(hr:row=v6.ownBlock\/row=v7.ownBlock\/row=none)(h6:u6.ownBlock=v6.ownBlock\/u6.ownBlock=some w.heap.size)(h7:u7.ownBlock=v7.ownBlock\/u7.ownBlock=some w.heap.size):VcX u6 u7 d vs w':=by
 obtain⟨a1,a2,a3,⟨s,a,n,c,b1,b2,b3⟩,⟨s',a',n',c',b1',b2',b3'⟩,a4,a5,ao,cc,a6,a7⟩:=h;refine⟨a1,a2,a3,⟨s,a,n,c,b1,b2,IsI.gstb _ _ _ _ _ gr b3⟩,⟨s',a',n',c',b1',b2',IsI.gstb _ _ _ _ _ gr b3'⟩,a4,a5,ao,cc,a6,λhn=>?_⟩;obtain⟨g,k1,k2,k3,k4,k5⟩:=a7 hn;refine⟨g,k1,Nat.lt_of_lt_of_le k2 hg.size,λe=>?_,λe=>?_,λj x hj=>?_⟩
 ·rcases h6 with h|h
  ·exact k3 (h▸e)
  ·rw[h]at e;injection e with e;omega
 ·rcases h7 with h|h
  ·exact k4 (h▸e)
  ·rw[h]at e;injection e with e;omega
 ·exact(World.cell?_of_block (w:=w) (a:=⟨g,0+j,none⟩) (hg.block g k2 (λe=>by
   rcases hr with h|h|h
   ·exact k3 (h▸e.symm)
   ·exact k4 (h▸e.symm)
   ·rw[h]at e;cases e))).trans (k5 j x hj)
theorem VcX.ext{v6 v7:Value}{d:qL}{vs:List Value}{w w':World}(h:VcX v6 v7 d vs w)(E:Ext w w'):VcX v6 v7 d vs w':=by
 obtain⟨a1,a2,a3,⟨s,a,n,c,b1,b2,b3⟩,⟨s',a',n',c',b1',b2',b3'⟩,a4,a5,ao,cc,a6,a7⟩:=h;refine⟨a1,a2,a3,⟨s,a,n,c,b1,b2,b3.ext E⟩,⟨s',a',n',c',b1',b2',b3'.ext E⟩,a4,a5,ao,cc,a6,λhn=>?_⟩;obtain⟨g,k1,k2,k3,k4,k5⟩:=a7 hn;exact⟨g,k1,Nat.lt_of_lt_of_le k2 E.size,k3,k4,λj x hj=>E.cell (k5 j x hj)⟩
theorem VcX.out{v6 v7:Value}{d:qL}{vs:List Value}{w:World}(h:VcX v6 v7 d vs w):VcR w.heap.size d vs w:=by
 obtain⟨a1,a2,-,b,c,a4,a5,ao,cc,a6,a7⟩:=h;refine⟨a1,a2,b,c,a4,a5,_,a6,λh hh=>⟨ao,cc,rfl,λhn=>?_⟩⟩;obtain⟨g,k1,k2,-,-,k5⟩:=a7 hn;exact⟨g,0,k1,.inl (Nat.lt_of_lt_of_le k2 hh),k5⟩
theorem VcX.set9{v6 v7:Value}{d:qL}{us:List Value}{X X1:World}{g:Nat}(V:VcX v6 v7 d us X)(B:Bk X g us)(h6:v6.ownBlock≠some X.heap.size)(h7:v7.ownBlock≠some X.heap.size)
  (hX:(X.alloc (.cells #[.int .i64 3] 3)).setCell ⟨g,9,none⟩ (.slice (some ⟨X.heap.size,0,none⟩) 1 1)=X1):
  VcX v6 v7 {d with hyps:= [3]} (us.set 9 (.slice (some ⟨X.heap.size,0,none⟩) 1 1)) X1/\Bk X1 g (us.set 9 (.slice (some ⟨X.heap.size,0,none⟩) 1 1))/\OnlyB g (X.alloc (.cells #[.int .i64 3] 3)) X1:=by
 obtain⟨a1,a2,a3,⟨s,a,n,c,b1,b2,b3⟩,⟨s',a',n',c',b1',b2',b3'⟩,a4,a5,ao,cc,a6,a7⟩:=V;have e0:Ext X (X.alloc (.cells #[.int .i64 3] 3)):=(Ext.refl X).alloc _;obtain⟨O,B1⟩:=(B.ext e0).setO 9 zb (.slice (some ⟨X.heap.size,0,none⟩) 1 1) (a3 _ (List.getElem_mem _));rw[hX]at O B1;have hm:∀u∈us.set 9 (.slice (some ⟨X.heap.size,0,none⟩) 1 1),u∈us\/u=.slice (some ⟨X.heap.size,0,none⟩) 1 1:=λu hu=>List.mem_or_eq_of_mem_set hu
 have hne:∀(j:Nat) (u:Value),j≠9->us[j]? =some u->(us.set 9 (.slice (some ⟨X.heap.size,0,none⟩) 1 1))[j]? =some u:=λj u hj hu=>by rw[List.getElem?_set_ne (by omega)];exact hu
 refine⟨⟨by rw[List.length_set];exact a1,List.all_eq_true.2 λu hu=>(hm u hu).elim (λh=>List.all_eq_true.1 a2 u h) (λh=>by rw[h];rfl),λu hu=>(hm u hu).elim (a3 u) (λh=>by rw[h];exact NoWord.slice _ _ _),
  ⟨s,a,n,c,hne _ _ dcx b1,hne _ _ dcx b2,IsI.gstb _ _ _ _ _ O.gr (b3.ext e0)⟩,⟨s',a',n',c',hne _ _ dcx b1',hne _ _ dcx b2',IsI.gstb _ _ _ _ _ O.gr (b3'.ext e0)⟩,hne _ _ dcx a4,hne _ _ dcx a5,_,1,
  by rw[List.getElem?_set_self (by omega)];rfl,λ_=>⟨X.heap.size,rfl,by rw[O.size,World.size_alloc];exact Nat.lt_succ_self _,h6,h7,λj x hj=>?_⟩⟩,B1,O⟩
 have hg:g≠X.heap.size:=by have:=B.lt;omega
 match j,hj with
 | 0,hj=>
  have hx:x=3:=by simpa using hj.symm
  subst hx;rw[World.cell?_of_block (w:=X.alloc (.cells #[.int .i64 3] 3)) (a:=⟨X.heap.size,0+0,none⟩) (O.block _ (λh=>hg h.symm))];exact(Bk.new X #[.int .i64 3] _).c 0 _ rfl
 |j+1,hj=>simp at hj
def VcB(g:Nat)(X:World):Prop:=∃(us:List Value) (d:qL),Bk X g us/\us[9]? =some (.slice none 0 0)/\d.lo<=d.hi/\ -5<=d.lo/\d.hi<=13/\d.hyps= []/\∀v6 v7,VcX v6 v7 d us X
theorem VcB.of{g:Nat}{X:World}{p1 p2 p3 p4 f:Bool}{q1 q2 q3 q4:Option Addr}{m1 m2 m3 m4 k1 k2 k3 k4:Nat}{lo hi er:Int}(B:Bk X g [.bool p1,.slice q1 m1 k1,.bool p2,.slice q2 m2 k2,.bool p3,.slice q3 m3 k3,.bool p4,.slice q4 m4 k4,.bool f,.slice none 0 0,.int .i64 er])
  (h1:IsI 128 lo (.agg #[.bool p1,.slice q1 m1 k1]) X) (h3:IsI 128 hi (.agg #[.bool p3,.slice q3 m3 k3]) X) (hb:lo<=hi/\ -5<=lo/\hi<=13):VcB g X:=
 ⟨_,⟨⟨#[]⟩,lo,hi,f, [],er⟩,B,rfl,hb.1,hb.2.1,hb.2.2,rfl,λ_ _=>⟨rfl,rfl,nwVl,⟨_,_,_,_,rfl,rfl,h1⟩,⟨_,_,_,_,rfl,rfl,h3⟩,rfl,rfl,_,_,rfl,λh=>absurd rfl h⟩⟩
open Go Go.RowKit
def SrcR(m:Nat)(news:List Value)(x:Value)(w:World):Prop:=(x=.slice none 0 0/\m=0/\news= [])\/∃g f c,x=.slice (some ⟨g,f,none⟩) m c/\∀j u,news[j]? =some u->World.cell? w ⟨g,f+j,none⟩=some u
theorem SrcR.ext{m:Nat}{news:List Value}{x:Value}{w w':World}(h:SrcR m news x w)(e:Ext w w'):SrcR m news x w':=h.imp id λ⟨g,f,c,h1,h2⟩=>⟨g,f,c,h1,λj u hj=>e.cell (h2 j u hj)⟩
theorem SrcR.new(w:World)(cs:Array Value)(t m c:Nat):SrcR m cs.toList (.slice (some ⟨w.heap.size,0,none⟩) m c) (w.alloc (.cells cs t)):=.inr ⟨_,0,c,rfl,λj u hj=>by rw[Nat.zero_add];exact cells_newE w cs t _ rfl j u hj⟩
theorem wp_rwnS{P:Program}{w:World}{o:Oper}{a:Act}{Q:Exit->Act->World->Prop}{K:Act->World->Prop}(s x:Operand)(t:TypeId)
  (ho:o.op=.call {callee:=.builtin .append,args:= #[s,x],argTypes:= #[t,t]}) (base e:Nat) (z:Value) (k bytes:Nat) (ht:P.underlying t=some (.slice e)) (hinfo:(P.info? e).map (λi=>(i.zero,i.size,i.bytes))=some (some z,k,bytes))
  (hzs:z.cells.size=k) (hk:0<k) (hzn:∀u∈z.cells.toList,NoWord u) (v:Value) (n:Nat) (xs:List Value) (hs:a.eval s=v) (hown:Rwg e k base w v n xs) (hnw:NwB w v) (m:Nat) (news:List Value) (xv:Value) (hx:a.eval x=xv) (hl:news.length=m*k)
  (hnews:SrcR m news xv w) (h1:∀u∈news,u.oneCell'=true) (hnn:∀u∈news,NoWord u) (h63:n+m<=140737488355328) (hbytes:(n+m)*bytes<=140737488355328) (hbase:base<=w.heap.size)
  (h:∀v' w',Rwg e k base w' v' (n+m) (xs++news)->NwB w' v'->w.grownBy w' v.ownBlock->Gr w w'->Below base w w'->(v'.ownBlock=v.ownBlock\/v'.ownBlock=some w.heap.size)->K (a.put o.dst v') w'):
  Oper.wp P o a w K Q:=by
 obtain⟨i,hi,hz0,hz1,hz2⟩:=info_parts hinfo;rcases hnews with⟨rfl,rfl,rfl⟩| ⟨g,f,c,rfl,hc⟩
 ·have hr:=run_append_owned_none (P:=P) (w:=w) base t o.type e i k ht hi v n xs hown;unfold Oper.wp execOp;simp only[ho,resolve,invoke,builtin,Sem.run_bind,Sem.run_pure,Result.andThen_ok,List.map_toArray,List.map_cons,List.map_nil,hs,hx,hr];exact h v w (by simpa using hown) hnw ⟨rfl,rfl,rfl,jJ _,λ_ _ _=>rfl⟩ (Gr.refl w) (Below.refl base w) (.inl rfl)
 ·obtain⟨v',w',hr,h2,h3,h5,h6⟩:=run_append_nw (P:=P) w base t o.type e i z k bytes ht hi hz0 hz1 hz2 hzs hk hzn v n xs hown hnw ⟨g,f,none⟩ m c news hl (λj u hj=>by have:=hc j u hj;cases j <;> simpa [Addr.add]using this) h1 hnn ym hbytes hbase;unfold Oper.wp execOp;simp only[ho,resolve,invoke,builtin,Sem.run_bind,Sem.run_pure,Result.andThen_ok,List.map_toArray,List.map_cons,List.map_nil,hs,hx,hr];refine h v' w' h2 h6 h3 (gr_of_grown h3 hnw) ((Below.refl base w).grown h3 hbase λb hb=>?_) h5;obtain⟨_,⟨hv,_⟩| ⟨g,cap,cur,hv,hb2,_⟩⟩:=hown
  ·rw[hv]at hb;cases hb
  ·rw[hv]at hb;cases hb;exact hb2
theorem wpl_rwnS{P:Program}{w:World}{ops:Array Oper}{rest:List Oper}{o:Oper}{a:Act}{Q:Exit->Act->World->Prop}(hgd:o.guard=none)(s x:Operand)(t:TypeId)
  (ho:o.op=.call {callee:=.builtin .append,args:= #[s,x],argTypes:= #[t,t]}) (base e:Nat) (z:Value) (k bytes:Nat) (ht:P.underlying t=some (.slice e)) (hinfo:(P.info? e).map (λi=>(i.zero,i.size,i.bytes))=some (some z,k,bytes))
  (hzs:z.cells.size=k) (hk:0<k) (hzn:∀u∈z.cells.toList,NoWord u) (v:Value) (n:Nat) (xs:List Value) (hs:a.eval s=v) (hown:Rwg e k base w v n xs) (hnw:NwB w v) (m:Nat) (news:List Value) (xv:Value) (hx:a.eval x=xv) (hl:news.length=m*k)
  (hnews:SrcR m news xv w) (h1:∀u∈news,u.oneCell'=true) (hnn:∀u∈news,NoWord u) (h63:n+m<=140737488355328) (hbytes:(n+m)*bytes<=140737488355328) (hbase:base<=w.heap.size)
  (h:∀v' w',Rwg e k base w' v' (n+m) (xs++news)->NwB w' v'->w.grownBy w' v.ownBlock->Gr w w'->Below base w w'->(v'.ownBlock=v.ownBlock\/v'.ownBlock=some w.heap.size)->wpList P ops Q rest (a.put o.dst v') w'):
  wpList P ops Q (o ::rest) a w:=
 wpList_plain hgd λ_K hK=>wp_rwnS s x t ho base e z k bytes ht hinfo hzs hk hzn v n xs hs hown hnw m news xv hx hl hnews h1 hnn h63 hbytes hbase λv' w' q1 q2 q3 q4 q5 q6=>hK _ _ (h v' w' q1 q2 q3 q4 q5 q6)
theorem rwgZ(e k base:Nat)(w:World)(hb:base<=w.heap.size):Rwg e k base (w.alloc (.cells #[] e)) (.slice (some ⟨w.heap.size,0,none⟩) 0 0) 0 []:=by
 refine⟨by simp,.inr ⟨w.heap.size,0,#[],rfl,hb,World.alloc_heap_new _ _,?_,?_,?_,?_⟩⟩
 all_goals simp
theorem nwbZ(e:Nat)(w:World):NwB (w.alloc (.cells #[] e)) (.slice (some ⟨w.heap.size,0,none⟩) 0 0):=by
 intro g cs e' fz h1 h2;cases h1;rw[World.alloc_heap_new]at h2;cases h2;intro u hu;simp at hu
def IntsAt(xs:List Value)(n:Nat)(w:World):Prop:=xs.length=n*2/\∀j,j<n->∃s a m c z,xs[2*j]? =some (Value.bool s)/\xs[2*j+1]? =some (Value.slice a m c)/\IsI 128 z (.agg #[.bool s,.slice a m c]) w
theorem IntsAt.gr{xs:List Value}{n:Nat}{w w':World}(h:IntsAt xs n w)(g:Gr w w'):IntsAt xs n w':=⟨h.1,λj hj=>let ⟨s,a,m,c,z,h1,h2,h3⟩:=h.2 j hj;⟨s,a,m,c,z,h1,h2,IsI.gstb _ _ _ _ _ g h3⟩⟩
theorem IntsAt.nil(w:World):IntsAt [] 0 w:=⟨rfl,λj hj=>by omega⟩
theorem IntsAt.app{xs ys:List Value}{n m:Nat}{w:World}(h:IntsAt xs n w)(k:IntsAt ys m w):IntsAt (xs++ys) (n+m) w:=by
 refine⟨by rw[jM,h.1,k.1];omega,λj hj=>?_⟩;by_cases hn:j<n
 ·obtain⟨s,a,m',c,z,h1,h2,h3⟩:=h.2 j hn;exact⟨s,a,m',c,z,apL _ _ h1,apL _ _ h2,h3⟩
 ·obtain⟨s,a,m',c,z,h1,h2,h3⟩:=k.2 (j-n) zb;have e1:2*j=xs.length+2*(j-n):=by rw[h.1];omega
  have e2:2*j+1=xs.length+(2*(j-n)+1):=by rw[h.1];omega
  exact⟨s,a,m',c,z,by rw[e1];exact apR _ _ h1,by rw[e2];exact apR _ _ h2,h3⟩
theorem IntsAt.cons{xs:List Value}{n:Nat}{w:World}{s:Bool}{a:Option Addr}{m c:Nat}{z:Int}(h:IsI 128 z (.agg #[.bool s,.slice a m c]) w)(k:IntsAt xs n w):IntsAt (.bool s :: .slice a m c ::xs) (1+n) w:=
 IntsAt.app (xs:= [.bool s,.slice a m c]) (n:=1) ⟨rfl,λj hj=>by
  obtain rfl:j=0:=(by omega)
  exact⟨s,a,m,c,z,rfl,rfl,h⟩⟩ k
theorem IntsAt.nw{xs:List Value}{n:Nat}{w:World}(h:IntsAt xs n w):(∀u∈xs,u.oneCell'=true)/\∀u∈xs,NoWord u:=by
 have hu:∀u∈xs,(∃s,u=.bool s)\/∃a m c,u=.slice a m c:=by
  intro u hu;obtain⟨i,hi,rfl⟩:=List.mem_iff_getElem.1 hu;have hl:=h.1;obtain⟨s,a,m,c,z,h1,h2,-⟩:=h.2 (i/2) zb;rcases Nat.mod_two_eq_zero_or_one i with e|e
  ·rw[show 2*(i/2)=i by omega,List.getElem?_eq_getElem hi]at h1;exact .inl ⟨s,Option.some.inj h1⟩
  ·rw[show 2*(i/2)+1=i by omega,List.getElem?_eq_getElem hi]at h2;exact .inr ⟨a,m,c,Option.some.inj h2⟩
 refine⟨λu hx=>?_,λu hx=>?_⟩
 ·rcases hu u hx with⟨s,rfl⟩| ⟨a,m,c,rfl⟩ <;> rfl
 ·rcases hu u hx with⟨s,rfl⟩| ⟨a,m,c,rfl⟩
  ·exact NoWord.bool _
  ·exact NoWord.slice _ _ _
def IsIR(base N:Nat)(v:Value)(w:World):Prop:=∃n xs,n<=N/\Rwg 28 2 base w v n xs/\NwB w v/\IntsAt xs n w
structure Pg (v:Value) (w:World) (v':Value) (w':World):Prop where
 gb:w.grownBy w' v.ownBlock
 gr:Gr w w'
 own:v'.ownBlock=v.ownBlock\/∃g,v'.ownBlock=some g/\w.heap.size<=g
theorem Pg.ext0{v:Value}{w w':World}(e:Ext w w'):Pg v w v w':=⟨⟨e.os,e.tape,e.output,e.size,λk hk _=>e.block k hk⟩,e.gr,.inl rfl⟩
theorem Pg.trans{v v1 v2:Value}{w w1 w2:World}(h:Pg v w v1 w1)(k:Pg v1 w1 v2 w2):Pg v w v2 w2:=by
 refine⟨⟨k.gb.os.trans h.gb.os,k.gb.tape.trans h.gb.tape,k.gb.output.trans h.gb.output,jK h.gb.size k.gb.size,λq hq hne=>?_⟩,h.gr.trans k.gr,?_⟩
 ·refine(k.gb.block q (Nat.lt_of_lt_of_le hq h.gb.size) (λe=>?_)).trans (h.gb.block q hq hne);rcases h.own with o| ⟨g,o,ho⟩
  ·exact hne (e.trans o)
  ·rw[o]at e;cases e;omega
 ·rcases k.own with o| ⟨g,o,ho⟩
  ·rw[o];exact h.own
  ·exact .inr ⟨g,o,jK h.gb.size ho⟩
theorem Pg.ext{v v1:Value}{w w1 w2:World}(h:Pg v w v1 w1)(e:Ext w1 w2):Pg v w v1 w2:=h.trans (Pg.ext0 e)
theorem Pg.bk{v v':Value}{w w':World}{b:Nat}{vs:List Value}(h:Pg v w v' w')(B:Bk w b vs)(hne:v.ownBlock≠some b):Bk w' b vs:=by
 have hb:w'.heap[b]? =w.heap[b]? :=h.gb.block b B.lt (λe=>hne e.symm);exact⟨λj u hj=>(World.cell?_of_block (w:=w) (a:=⟨b,j,none⟩) hb).trans (B.c j u hj),λj=>(World.frozen?_of_block (w:=w) (a:=⟨b,j,none⟩) hb).trans (B.f j),Nat.lt_of_lt_of_le B.lt h.gb.size⟩
theorem Pg.below{base N:Nat}{v v':Value}{w w':World}(h:Pg v w v' w')(hI:IsIR base N v w)(hb:base<=w.heap.size):Below base w w':=by
 obtain⟨n,xs,-,h1,-⟩:=hI;exact(Below.refl base w).grown h.gb hb λb hb=>(h1.own_lt hb).2
def RetI(base N:Nat)(v:Value)(w:World):Ending->World->Prop:=λe w'=>∃v',e=.returned v'/\Pg v w v' w'/\IsIR base N v' w'
def zInt:List Value:= [.bool false,.slice none 0 0]
theorem infoN:∃bytes,(prog.info? 28).map (λi=>(i.zero,i.size,i.bytes))=some (some (.agg zInt.toArray),2,bytes)/\bytes<=100000:=by
 obtain⟨i,hi,hq⟩:=Option.map_eq_some_iff.1 (show(prog.info? 28).map (λi=>(i.zero,i.size,decide (i.bytes<=100000)))=some (some (.agg zInt.toArray),2,true)by kernel_rfl);exact tWrd_1
theorem nwZInt:∀u∈zInt,NoWord u:=by
 intro u hu;simp only[zInt,List.mem_cons,List.not_mem_nil,or_false]at hu;rcases hu with rfl|rfl
 ·exact NoWord.bool _
 ·exact NoWord.slice _ _ _
theorem IsIR.own_lt{base N:Nat}{v:Value}{w:World}(h:IsIR base N v w){g:Nat}(hg:v.ownBlock=some g):g<w.heap.size/\base<=g:=let ⟨_,_,_,h1,_,_⟩:=h;h1.own_lt hg
theorem IsIR.ext{base N:Nat}{v:Value}{w w':World}(h:IsIR base N v w)(e:Ext w w'):IsIR base N v w':=by
 obtain⟨n,xs,h1,h2,h3,h4⟩:=h;exact⟨n,xs,h1,h2.ext e,h3.kept λg hg=>e.block g (h2.own_lt hg).1,h4.gr e.gr⟩
theorem IsIR.mono{base N M:Nat}{v:Value}{w:World}(h:IsIR base N v w)(hm:N<=M):IsIR base M v w:=let ⟨n,xs,h1,h2⟩:=h;⟨n,xs,jK h1 hm,h2⟩
theorem wp_ir{w:World}{o:Oper}{a:Act}{Q:Exit->Act->World->Prop}{K:Act->World->Prop}(s x:Operand)
  (ho:o.op=.call {callee:=.builtin .append,args:= #[s,x],argTypes:= #[69,69]}) (base N m:Nat) (v xv:Value) (news:List Value) (hs:a.eval s=v) (hx:a.eval x=xv) (hI:IsIR base N v w) (hnews:SrcR m news xv w) (hk:IntsAt news m w) (hN:N+m<=1000000000) (hbase:base<=w.heap.size)
  (h:∀v' w',IsIR base (N+m) v' w'->Pg v w v' w'->K (a.put o.dst v') w'):Oper.wp prog o a w K Q:=by
 obtain⟨n,xs,h1,h2,h3,h4⟩:=hI;obtain⟨bytes,hi,hb⟩:=infoN;refine wp_rwnS s x 69 ho base 28 (.agg zInt.toArray) 2 bytes za hi rfl dcx (λu hu=>nwZInt u jo) v n xs hs h2 h3 m news xv hx hk.1 hnews hk.nw.1 hk.nw.2 zb (by have:=Nat.mul_le_mul (show n+m<=1000000000 by omega) hb;omega) hbase ?_;intro v' w' r1 r2 r3 r4 r5 r6;exact h v' w' ⟨n+m,xs++news,by omega,r1,r2,(h4.gr r4).app (hk.gr r4)⟩ ⟨r3,r4,r6.imp id λe=>⟨_,e,jJ _⟩⟩
theorem wpl_ir{w:World}{ops:Array Oper}{rest:List Oper}{o:Oper}{a:Act}{Q:Exit->Act->World->Prop}(hgd:o.guard=none)(s x:Operand)
  (ho:o.op=.call {callee:=.builtin .append,args:= #[s,x],argTypes:= #[69,69]}) (base N m:Nat) (v xv:Value) (news:List Value) (hs:a.eval s=v) (hx:a.eval x=xv) (hI:IsIR base N v w) (hnews:SrcR m news xv w) (hk:IntsAt news m w) (hN:N+m<=1000000000) (hbase:base<=w.heap.size)
  (h:∀v' w',IsIR base (N+m) v' w'->Pg v w v' w'->wpList prog ops Q rest (a.put o.dst v') w'):wpList prog ops Q (o ::rest) a w:=
 wpList_plain hgd λ_K hK=>wp_ir s x ho base N m v xv news hs hx hI hnews hk hN hbase λv' w' q1 q2=>hK _ _ (h v' w' q1 q2)
end
end Go.Proofs.YtkeikfekkdplgaaGreatDoor
