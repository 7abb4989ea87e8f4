/-
  Integers of package integer: Text. Every integer of at most 162 words, where the table of powers of ten is laid.
  Integers of package integer: Parse at the string -0. No condition. The rule of XRg with a letter for the frame: an operation is shown by what its operands hold. No condition on the program.
  Rows whose blocks hold no word (rows of structs): an append leaves all words in memory as they were.
-/
import Derived.Lib.Join
import Derived.Test.YtenhciieboegbaaGreatDoorRow
import Derived.Test.YtenhciieboegbaaGreatDoorFact
namespace Go.Proofs.YtenhciieboegbaaGreatDoor
open Go Go.RowKit
open Go.Proofs.Tryz
theorem zc{P:Prop}(h:P:=by kernel_rfl):P:=h
theorem zh{P:Prop}(h:P:=by simp only[IntKind.wrap_i64];omega):P:=h
theorem ju{P:Prop}(h:P:=by have:=HLen.out;simp;omega):P:=h
theorem zaa{P:Prop}(h:P:=by have:=HS.out;simp;omega):P:=h
set_option maxRecDepth 100000
set_option maxHeartbeats 1000000
def Tab(w:World):Prop:=Lib.TabIs prog w "internal/strconv.uint64pow10" .u64 Lib.pow10Tab
theorem Tab.ext{w w':World}(h:Tab w)(e:Ext w w'):Tab w':=by
  unfold Tab Lib.TabIs World.var? at*;cases hg:prog.globalNamed "internal/strconv.uint64pow10" with
  |none=>rw[hg]at h;cases h
  | some g=>
    rw[hg]at h;simp only[Option.bind_some]at h ⊢;cases hh:w.heap[g]? with
    |none=>rw[hh]at h;cases h
    |some o=>rw[e.heap hh];rw[hh]at h;exact h
theorem ext_grow(w:World)(k:Nat)(os:Array Obj):Ext w (Go.Sort.grow (w.drewN k) os):=by
  have h1:Ext w (w.drewN k):=(Ext.refl w).drewN k;refine h1.trans ⟨rfl,rfl,rfl,by simp[Go.Sort.grow],λi hi=>?_⟩;show((w.drewN k).heap++os)[i]? =_;rw[Array.getElem?_append_left hi]
def isStr(x:Value):Prop:=∃s,x=.string s
theorem isStr.noWord(x:Value)(h:isStr x):NoWord x:=λy=>by obtain⟨s,rfl⟩:=h;simp
def TxI(w:World)(s1:Bool)(a1:Option Addr)(n1 c1 x0 gk:Nat)(v4 v5:Value)(wr:World):Prop:=
  ∃ (P:List (List UInt8)) (ao:Option Addr) (n cap:Nat),v5=.slice ao n cap/\NatAt wr 162 ao n cap gk/\RowOf 9 isStr wr (w.heap.size+1) v4 (P.map qB)/\Bx wr w.heap.size s1 a1 n1 c1/\Ext w wr/\
    Lib.decDigits x0=(if gk=0 then []else Lib.decDigits gk)++P.reverse.flatten/\2^P.length*(if gk=0 then 1 else 2*gk)<=2*x0/\(gk=0->P≠ [])
theorem tx_step(x0 gk q r:Nat)(P:List (List UInt8))(hgk:0<gk)(hq:q=gk/1000000000)(hr:r=gk%1000000000)(h:Lib.decDigits x0=(if gk=0 then []else Lib.decDigits gk)++P.reverse.flatten)(hb:2^P.length*(if gk=0 then 1 else 2*gk)<=2*x0)(p:List UInt8)
    (hp:p=if q=0 then Lib.decDigits r else padk 9 r):
    Lib.decDigits x0=(if q=0 then []else Lib.decDigits q)++(P++ [p]).reverse.flatten/\2^(P++ [p]).length*(if q=0 then 1 else 2*q)<=2*x0:=by
  rw[if_neg (by omega)]at h hb;constructor
  · rw [h,List.reverse_append,List.reverse_singleton,List.singleton_append,List.flatten_cons,<-List.append_assoc]
    congr 1
    by_cases h0:q=0
    · rw[if_pos h0]at hp ⊢
      rw[hp,hr,Nat.mod_eq_of_lt (by omega)];rfl
    · rw [if_neg h0]at hp ⊢
      rw[hp];have h1:=dec_split q ze 8 r (by rw[hr];exact Nat.mod_lt _ dcx)
      have h2:q*10^(8+1)+r=gk:=by
        have:(10:Nat)^(8+1)=1000000000:=by decide
        rw[this];omega
      rw[h2]at h1;exact h1
  · rw[zQ,List.length_cons,List.length_nil,Nat.zero_add,Nat.pow_succ]
    generalize 2^P.length=B at*;have h1:(if q=0 then 1 else 2*q)<=gk:=by split <;> omega
    have h2:=Nat.mul_le_mul_left (B*2) h1;have h3:B*2*gk=B*(2*gk):=by grind
    omega
theorem tx_len(x0 gk n:Nat)(hgk:0<gk)(hb:2^n*(if gk=0 then 1 else 2*gk)<=2*x0)(hx:x0<4294967296^162):n<=5184:=by
  rw[if_neg (by omega)]at hb;rcases zR 5184 n with h|h
  · exfalso
    have h1:2^n*1<=2^n*gk:=Nat.mul_le_mul_left _ hgk;have h2:2^n*(2*gk)=2*(2^n*gk):=by grind
    have h3:∀k:Nat,32*k<=n->(4294967296:Nat)^k<=2^n:=λk hk=>by
      rw[show(4294967296:Nat)=2^32 from rfl,<-Nat.pow_mul];exact Nat.pow_le_pow_right dcx hk
    have h3:=h3 162 ze;omega
  ·exact h
theorem tx_len0(x0 n:Nat)(hb:2^n*(if 0=0 then 1 else 2*0)<=2*x0)(hx:x0<4294967296^162):n<=5185:=by
  rw[if_pos rfl,Nat.mul_one]at hb;rcases zR 5185 n with h|h
  · exfalso
    obtain⟨m,rfl⟩:∃m,n=m+1:=⟨n-1,by omega⟩;rw[Nat.pow_succ]at hb
    have h3:∀k:Nat,32*k<=m->(4294967296:Nat)^k<=2^m:=λk hk=>by
      rw[show(4294967296:Nat)=2^32 from rfl,<-Nat.pow_mul];exact Nat.pow_le_pow_right dcx hk
    have h3:=h3 162 ze;omega
  ·exact h
theorem tRwn_2{P:Prop}(h:P:=by
  intro k
  induction k with
  | zero=>
    intro u hu;by_cases h2:u<10;·rw[Lib.nDigits_small h2]at hu;omega
    ·simpa using h2
  | succ k ih=>
    intro u hu;by_cases h2:u<10
    ·rw[Lib.nDigits_small h2]at hu;omega
    · rw[Lib.nDigits_big h2]at hu
      have:=ih (u/10) ze;rw[Nat.pow_succ];omega
  ):P:=h
theorem itoa_piece(r:Nat)(h:r<1000000000):(Lib.itoa (r:Int))=Lib.decDigits r/\1<=(Lib.decDigits r).length/\(Lib.decDigits r).length<=9:=by
  refine⟨Lib.itoa_nonneg r,?_,?_⟩
  ·rw[Lib.decDigits_length];exact Lib.nDigits_pos r
  · rw [Lib.decDigits_length]
    rcases zR 9 (Lib.nDigits r)with h1|h1
    · exfalso
      have key:∀(k u:Nat),k+1<Lib.nDigits u->10^(k+1)<=u:=by
        exact tRwn_2
      have:=key 8 r h1;have h10:(10:Nat)^(8+1)=1000000000:=by decide
      omega
    ·exact h1
theorem Tryz.infoStr:(prog.info? 9).map (λi=>(i.zero,i.size,i.bytes))=some (some (.string ⟨#[]⟩),1,16):=by kernel_rfl
theorem Below.setCellsB{base b:Nat}(hb:base<=b):∀(vs:List Value) (o:Nat) (w0 w:World),Below base w0 w->Below base w0 (w.setCells b o vs)
  | [],_,_,_,h=>h
  |v ::r,o,w0,_,h=>Below.setCellsB hb r (o+1) w0 _ (Below.setCell (p:=⟨b,o,none⟩) h hb v)
theorem join_empty:∀xs:List (List UInt8),Lib.join xs []=xs.flatten
  | []=>rfl
  | [x]=>by rw[Lib.join_one];simp
  | x ::y ::r=>by
    have h:=join_empty (y ::r);unfold Lib.join List.intercalate at*;simp only[List.intersperse,List.flatten_cons]at*;rw[h];rfl
theorem str_app(a b:List UInt8):(⟨a.toArray⟩++⟨b.toArray⟩:ByteArray)=⟨(a++b).toArray⟩:=by
  apply ByteArray.ext;simp
theorem dec_len(x k:Nat)(h:x<2^k):(Lib.decDigits x).length<=k+1:=by
  rw[Lib.decDigits_length];rcases zR (k+1) (Lib.nDigits x)with h1|h1
  · exfalso
    have key:∀(k u:Nat),k+1<Lib.nDigits u->10^(k+1)<=u:=by
      exact tRwn_2
    have h2:=key k x h1;have h3:2^(k+1)<=10^(k+1):=Nat.pow_le_pow_left dcx _;rw[Nat.pow_succ]at h3;omega
  ·exact h1
theorem dec_len'(x k:Nat)(h:x<4294967296^k):(Lib.decDigits x).length<=32*k+1:=
  dec_len x (32*k) (by rw[Nat.pow_mul];exact h)
theorem reverse_row(w:World)(base:Nat)(g n cap:Nat)(P:List (List UInt8))(h:RowOf 9 isStr w base (.slice (some ⟨g,0,none⟩) n cap) (P.map qB))(hn:n=P.length)(hb:n<=9223372036854775807):
    Calls prog 132 #[.slice (some ⟨g,0,none⟩) n cap] w λe w'=>e=.returned (.tuple #[])/\Below base w w'/\(0<n->base<=g)/\∀(j:Nat) x,(P.reverse.map (λ(l:List UInt8)=>(⟨l.toArray⟩:ByteArray)))[j]? =some x->w'.cell? ⟨g,0+j,none⟩=some (.string x):=by
  have hc:∀i,i<n->w.cell? ⟨g,0+i,none⟩=some (.string ⟨(P.getD i []).toArray⟩):=λi hi=>by
    rw[Nat.zero_add];exact h.cell i _ (by simp[List.getD,show i<P.length by omega,qB])
  have hbase:0<n->base<=g:=λh0=>by
    rcases h with⟨h1,_⟩| ⟨g',cap',cur,h1,h2,_⟩
    ·cases h1
    · simp only[Value.slice.injEq,Option.some.injEq,Addr.mk.injEq,and_true]at h1
      rw[h1.1];exact h2
  refine zG (Tryz.slices_Reverse_string_cells g 0 n cap (λi=>⟨(P.getD i []).toArray⟩) w hb hc (λj _=>by rw[Nat.zero_add];exact h.free j)) λe w' ⟨h1,q,h2⟩=>?_
  have hs:Lib.strsOf (λi=>⟨(P.getD i []).toArray⟩) n=P:=by
    unfold Lib.strsOf;apply List.ext_getElem (by simp[hn]);intro i h1 h2;simp[List.getD,h2]
  rw[hs]at h2;refine⟨h1,?_,hbase,λj x hj=>?_⟩
  · rw [h2]
    rcases zK n with h0|h0
    · have:P= []:=List.eq_nil_of_length_eq_zero ze
      rw[this];exact below_drewN (Below.refl _ _) q
    ·exact Below.setCellsB (hbase h0) _ _ _ _ (below_drewN (Below.refl _ _) q)
  · have hjl:j<P.reverse.length:=by
      have:=(List.getElem?_eq_some_iff.1 hj).1;simpa using this
    rw[h2]
    have key:=World.cell?_setCells_in g (P.reverse.map encStr) 0 (w.drewN q) (λi hi=>by
      have:=hc i (by simp at hi;omega)
      rw[World.cell?_drewN,this];rfl) j (by simpa using hjl)
    rw[key];rw[List.getElem?_map]at hj;rw[List.getElem?_eq_getElem hjl]at hj;simp only[Option.map_some,Option.some.injEq]at hj;rw[<-hj,List.getElem_map]
theorem text_join(w:World)(g n cap:Nat)(xs:List ByteArray)(T:List UInt8)(hx:∀(j:Nat) x,xs[j]? =some x->w.cell? ⟨g,0+j,none⟩=some (.string x))(hg:g<w.heap.size)(hn:xs.length=n)(hc:n<=cap)(hb:n<=140737488355328)
    (hT:(xs.map (·.data.toList)).flatten=T) (hl:T.length<=140737488355328):Calls prog 133 #[.slice (some ⟨g,0,none⟩) n cap,.string ⟨#[]⟩] w λe w'=>e=.returned (qB T)/\Ext w w':=by
  subst hn;have hj:Lib.join (xs.map (·.data.toList)) (⟨#[]⟩:ByteArray).data.toList=T:=by rw[<-hT];exact join_empty _
  refine zG (Tryz.strings_Join g 0 cap xs ⟨#[]⟩ w hx hg hb hc (by rw[hj];exact hl)) λe w' ⟨h1,h2⟩=>⟨?_,h2⟩
  rw[hj]at h1;exact h1
theorem tRwn_1{P:Prop}(h:P:=by
  rintro e w4 ⟨rfl,e4⟩;have E:=E.trans e4;obtain⟨T,hT⟩:∃T,T=Lib.itoa z1:=⟨_,rfl⟩;obtain⟨B,hB⟩:∃B:ByteArray,qB (Lib.itoa z1)=.string B/\B.size=T.length:=⟨_,rfl,by rw[hT];simp[ByteArray.size]⟩;rw[hB.1];have hBs:=hB.2;have HB:=hid hB.1;have HTT:=hid hT;clear hB hT HC3 HT;by_cases hlong:1300<T.length
  · have hd5:decide ((1300:Int)<(T.length:Int))=true:=by simp;omega
    have HL:=hid hlong;clear hlong;go_wp2_with fail;refine zH (v:=.tuple #[.string ⟨#[]⟩,.int .i64 2]) (by simp[results,results110,go_sem]) rfl ⟨_,rfl,E,_,_,rfl,?_,?_⟩
    ·show _=qB (textS z1);rw[textS,if_pos (by rw[<-HTT.out];exact HL.out)];rfl
    ·show _=Value.int .i64 (textE z1);rw[textE,if_pos (by rw[<-HTT.out];exact HL.out)]
  · have hd5:decide ((1300:Int)<(T.length:Int))=false:=by simp;omega
    have HL:=hid hlong;clear hlong;go_wp2_with fail;refine zH (v:=.tuple #[.string B,.int .i64 0]) (by simp[results,results110,go_sem]) rfl ⟨_,rfl,E,_,_,rfl,?_,?_⟩
    ·show _=qB (textS z1);rw[textS,if_neg (by rw[<-HTT.out];exact HL.out)];exact HB.out.symm
    ·show _=Value.int .i64 (textE z1);rw[textE,if_neg (by rw[<-HTT.out];exact HL.out)]
  ):P:=h
theorem Text_main(w:World)(s1:Bool)(a1:Option Addr)(n1 c1:Nat)(z1:Int)(h1:IntAt w 162 s1 a1 n1 c1 z1)(hz:z1≠0)(ht:Tab w):
    Calls prog 110 #[.agg #[.bool s1,.slice a1 n1 c1]] w (Ret w (IsT2 (IsV (qB (textS z1))) (iV (textE z1)))):=by
  have hn1:n1≠0:=λh=>hz (h1.zero_iff.2 h)
  obtain⟨x0,hm,hs,hz1⟩:=h1;have HI:=hid (itoa_parts s1 x0 z1 hz1 (λh=>hs (hm.zero.1 h)))
  have hx0:0<x0:=by
    rcases zK x0 with h|h
    ·exact absurd (hm.zero.1 h) hn1
    ·exact h
  have hx1:=hid (show x0<4294967296^162 from Nat.lt_of_lt_of_le hm.lt (Nat.pow_le_pow_right dcx hm.le))
  obtain⟨W,hW,K0⟩:∃W,W=w.alloc (.cells #[.bool s1,.slice a1 n1 c1] 29)/\Kq w W [(w.heap.size, [.bool s1,.slice a1 n1 c1])]:=by
    refine⟨_,rfl,?_⟩;have:=(Kq.start w).alloc [.bool s1,.slice a1 n1 c1] 29
    simpa using this
  have b1:=hid (K0.bx w.heap.size s1 a1 n1 c1 zo);have E:=hid K0.ext;have hm:=hm.ext K0.ext;have hle:=hm.le;have hd0:((n1:Int)==0)=false:=yi
  have hd1:decide ((162:Int)<(n1:Int))=false:=jh
  have HWs:Hid (w.heap.size<W.heap.size):=hid b1.out.lt;have Hx0:=hid hx0;clear K0 hz hs hz1 hn1;go_enter func110,ntmps110;go_upto_region 1 with fail;rw[<-hW];clear hW;have F1:=b1.out.c0;have F2:=b1.out.c1;have F3:=b1.out.f0;have F4:=b1.out.f1;go_wp2_with fail;clear F1 F2 F3 F4 hd0 hd1;have I0:=hid (show TxI w s1 a1 n1 c1 x0 x0 (.slice none 0 0) (.slice a1 n1 c1) W from⟨[],a1,n1,c1,rfl,hm,RowOf.nil _ _ _ _,b1.out,E.out,by rw[if_neg (by omega)];simp,by rw[if_neg (by omega)];simp,λh=>by omega⟩);clear hm b1 E
  go_loopg [4,5] x0 (λgk v4 v5 wr=>Hid (TxI w s1 a1 n1 c1 x0 gk v4 v5 wr))
  case atStart=>exact I0
  case round=>
    clear I0;obtain⟨P,ao,n,cap,rfl,hm,hr,b1,E,hd,hb,hne⟩:=hrel.out;clear hrel;rcases zK gk with h0|h0
    · subst h0
      have hP:=hne rfl;rw[if_pos rfl,List.nil_append]at hd;have HLen:=hid (tx_len0 x0 P.length hb hx1.out);have hHI:=HI.out;have hdl:=hid (dec_len' x0 162 hx1.out);obtain rfl:n=0:=hm.zero.1 rfl;have HS:=hid (show w.heap.size+1<=wr.heap.size by have:=b1.lt;omega);have HR:=hid hr;clear hm hb hne hr;cases s1
      · have HT:Hid (((P.reverse.map (λ(l:List UInt8)=>(⟨l.toArray⟩:ByteArray))).map (λ(x:ByteArray)=>x.data.toList)).flatten=Lib.itoa z1):=hid (by
          rw[hHI,hd];simp[List.map_map,Function.comp_def])
        have HTl:=hid (show(Lib.itoa z1).length<=5186 by rw[hHI];have:=hdl.out;simp;omega);clear hHI hd hdl;have F1:=b1.c0;have F2:=b1.c1;have F3:=b1.f0;have F4:=b1.f1;have hr:=HR.out;obtain⟨ao4,cap4,rfl,h4,h5,h6⟩:=hr.shape;obtain⟨g4,rfl,hg1,hg2⟩:=h4 (by simpa using hP);have hlen4:(P.map qB).length=P.length:=zo
        rw[hlen4]at hr h5;rw[hlen4];have HREV:=hid (reverse_row wr (w.heap.size+1) g4 P.length cap4 P hr rfl (by have:=HLen.out;omega));clear hr h4 hlen4 HR;go_wp2_with fail;refine zG HREV.out ?_;rintro e w3 ⟨rfl,hb3,_,hc3⟩;have HC3:=hid hc3;have b1:=Below.bx hb3 ze b1;have E:=Below.ext E hb3 ze;clear F1 F2 F3 F4 HREV hc3;go_wp2_with fail;refine zG (text_join w3 g4 P.length cap4 (P.reverse.map (λ(l:List UInt8)=>(⟨l.toArray⟩:ByteArray))) (Lib.itoa z1) HC3.out (by have:=hb3.size;omega) zo h5 (by have:=HLen.out;omega) HT.out (by have:=HTl.out;omega)) ?_;exact tRwn_1
      · have HT:Hid ((((P++ [[45]]).reverse.map (λ(l:List UInt8)=>(⟨l.toArray⟩:ByteArray))).map (λ(x:ByteArray)=>x.data.toList)).flatten=Lib.itoa z1):=hid (by
          rw[hHI,hd];simp[List.map_map,Function.comp_def])
        have HTl:=hid (show(Lib.itoa z1).length<=5187 by rw[hHI];have:=hdl.out;simp;omega);clear hHI hd hdl;have F1:=b1.c0;have F2:=b1.c1;have F3:=b1.f0;have F4:=b1.f1;go_wp2_with (at_builtin;go_must (refine wpl_row rfl _ _ 53 9 rfl isStr (.string ⟨#[]⟩) 16 zc Tryz.infoStr rfl ⟨_,rfl⟩ (w.heap.size+1) _ _ rfl (HR.out.ext ((Ext.refl _).alloc _)) _ _ (.string ⟨#[45]⟩) rfl zo rfl ⟨_,rfl⟩ ju ju zaa ?_;intro v9 w9 hr9 hb9 hg9))
        have e9:Ext wr (wr.alloc (.cells #[.string ⟨#[45]⟩] 9)):=(Ext.refl _).alloc _;have b1:=Below.bx hb9 ze (b1.ext e9);have E:=Below.ext (E.trans e9) hb9 ze;have hr:RowOf 9 isStr w9 (w.heap.size+1) v9 ((P++ [[45]]).map qB):=by rw[List.map_append];exact hr9
        clear hr9 hg9 HR F1 F2 F3 F4 e9;obtain⟨ao4,cap4,rfl,h4,h5,h6⟩:=hr.shape;obtain⟨g4,rfl,hg1,hg2⟩:=h4 zo;have hlen4:((P++ [[45]]).map qB).length=P.length+1:=zo
        rw[hlen4]at hr h5;rw[hlen4];have HREV:=hid (reverse_row w9 (w.heap.size+1) g4 (P.length+1) cap4 (P++ [[45]]) hr zo (by have:=HLen.out;omega));clear hr h4 hlen4;refine zG HREV.out ?_;rintro e w3 ⟨rfl,hb3,_,hc3⟩;have HC3:=hid hc3;have b1:=Below.bx hb3 ze b1;have E:=Below.ext E hb3 ze;clear HREV hc3;go_wp2_with fail;refine zG (text_join w3 g4 (P.length+1) cap4 ((P++ [[45]]).reverse.map (λ(l:List UInt8)=>(⟨l.toArray⟩:ByteArray))) (Lib.itoa z1) HC3.out (by have:=hb3.size;omega) zo h5 (by have:=HLen.out;omega) HT.out (by have:=HTl.out;omega)) ?_;exact tRwn_1
    · have HLen:=hid (tx_len x0 gk P.length h0 hb hx1.out)
      have hn0:0<n:=by
        rcases zK n with h|h
        ·have:=hm.zero.2 h;omega
        ·exact h
      have hdn:decide ((0:Int)<(n:Int))=true:=jh
      obtain⟨q,hq⟩:∃q,q=gk/1000000000:=⟨_,rfl⟩;obtain⟨r,hr0⟩:∃r,r=gk%1000000000:=⟨_,rfl⟩;have hrl:r<1000000000:=by rw[hr0];exact Nat.mod_lt _ dcx
      have HD:=hid (divw_c wr ao n cap 1000000000 162 gk hm ze dcx dcx);rw[<-hq,<-hr0]at HD;have HP:=hid (λp hp=>tx_step x0 gk q r P h0 hq hr0 hd hb p hp);have hqk:=hid (show q<gk by omega);have HR:=hid hr;have B1:=hid b1;clear hd hb hne hq hr0 hm hr b1;generalize decide (0<n)=bb at*;go_wp2_with fail;refine zG HD.out ?_;rintro e w1 ⟨aq,nq,cq,rfl,e1,hq⟩;clear HD hdn;go_wp2_with fail;refine zG (Tryz.strconv_Itoa (r:Int) ze ze w1 ((ht.ext E).ext e1)) ?_;rintro e w2' ⟨rfl,kk,os,hw2⟩;have e2:Ext w1 w2':=hw2▸ext_grow w1 kk os;clear hw2;obtain⟨hi1,hi2,hi3⟩:=itoa_piece r hrl;rw[hi1];clear hi1;obtain⟨D,hD⟩:∃D,D=Lib.decDigits r:=⟨_,rfl⟩;rw[<-hD]at hi2 hi3 ⊢;obtain⟨B,hB⟩:∃B:ByteArray,B=⟨D.toArray⟩:=⟨_,rfl⟩;rw[<-hB];have hsz:B.size=D.length:=by rw[hB];simp[ByteArray.size]
      have HB:=hid hB;clear hB;have Hpad:=hid (show padk 9 r=List.replicate (9-D.length) 48++D by rw[hD];rfl);have HDr:=hid hD;clear hD;have hqn:=hq.zero;have E2:=(E.trans e1).trans e2;have HR:=hid ((HR.out.ext e1).ext e2);have B1:=hid ((B1.out.ext e1).ext e2);have hq:=hq.ext e2;have HS:=hid (show w.heap.size+1<=w2'.heap.size by have:=B1.out.lt;omega);by_cases hq0:q=0
      · obtain rfl:nq=0:=hqn.1 hq0
        clear hqn;have HQ:=hid hq0;clear hq0;go_wp2_with (at_builtin;go_must (refine wpl_row rfl _ _ 53 9 rfl isStr (.string ⟨#[]⟩) 16 zc Tryz.infoStr rfl ⟨_,rfl⟩ (w.heap.size+1) _ _ rfl (HR.out.ext ((Ext.refl _).alloc _)) _ _ (.string B) rfl zo rfl ⟨_,rfl⟩ ju ju zaa ?_;intro v9 w9 hr9 hb9 hg9))
        have e9:Ext w2' (w2'.alloc (.cells #[.string B] 9)):=(Ext.refl _).alloc _;have hp:=HP.out D (by rw[if_pos HQ.out];exact HDr.out);have I':=hid (show TxI w s1 a1 n1 c1 x0 q v9 (.slice aq 0 cq) w9 from⟨P++ [D],aq,0,cq,rfl,(hq.ext e9).gr (hg9 isStr.noWord),by rw[List.map_append];have h9:=hr9;rw[HB.out]at h9;exact h9,Below.bx hb9 ze (B1.out.ext e9),Below.ext (E2.trans e9) hb9 ze,hp.1,hp.2,λ_=>by simp⟩);clear hr9 hb9 hg9 hp e9 HR B1 hq
        go_roundg q
        case measure=>exact hqk.out
        case rel=>exact I'
      · have hnq:0<nq:=by
          rcases zK nq with h|h
          ·exact absurd (hqn.2 h) hq0
          ·exact h
        have hdq:decide ((0:Int)<(nq:Int))=true:=jh
        have HQ:=hid hq0;clear hqn hq0;have hw9:IntKind.i64.wrap ((9:Int)-(D.length:Int))=((9-D.length:Nat):Int):=zh
        have hw8:((9:Int)-(D.length:Int))=((9-D.length:Nat):Int):=ze
        generalize decide (0<nq)=bq at*;go_wp2_with fail;refine zG (Tryz.strings_Repeat ⟨#[48]⟩ (9-D.length) w2' ze (by simp[ByteArray.size];omega)) ?_;rintro e w3 ⟨rfl,e3⟩;have e3:Ext w2' w3:=e3;have E2:=E2.trans e3;have HR:=hid (HR.out.ext e3);have B1:=hid (B1.out.ext e3);have hq:=hq.ext e3;have HS:=hid (show w.heap.size+1<=w3.heap.size by have:=B1.out.lt;omega);obtain⟨A,hA⟩:∃A:ByteArray,A=⟨(Lib.repeatL (⟨#[48]⟩:ByteArray).data.toList (9-D.length)).toArray⟩:=⟨_,rfl⟩;rw[<-hA]
        have hZ2:A++B=⟨(padk 9 r).toArray⟩:=by
          rw[hA,HB.out,str_app,Hpad.out];have:=Lib.repeatL_replicate 48 1 (9-D.length);rw[Nat.mul_one]at this;rw[show(⟨#[48]⟩:ByteArray).data.toList=List.replicate 1 48 from rfl,this]
        have hAs:A.size<=9:=by
          rw[hA];have:=Lib.repeatL_length [48] (9-D.length);show(Lib.repeatL [48] (9-D.length)).toArray.size<=9;rw[List.size_toArray,this];simp
        have hAB:A.size+D.length<=9223372036854775807:=ze
        have hAB2:¬9223372036854775807<A.size+D.length:=ze
        have HZ:=hid hZ2;clear hA hw8 hw9 hdq hZ2;go_upto_region 12 with fail;obtain⟨Z,hZ⟩:∃Z,Z=A++B:=⟨_,rfl⟩;rw[<-hZ]at HZ ⊢;clear hZ;go_wp2_with (at_builtin;go_must (refine wpl_row rfl _ _ 53 9 rfl isStr (.string ⟨#[]⟩) 16 zc Tryz.infoStr rfl ⟨_,rfl⟩ (w.heap.size+1) _ _ rfl (HR.out.ext ((Ext.refl _).alloc _)) _ _ (.string Z) rfl zo rfl ⟨_,rfl⟩ ju ju zaa ?_;intro v9 w9 hr9 hb9 hg9))
        have e9:Ext w3 (w3.alloc (.cells #[.string Z] 9)):=(Ext.refl _).alloc _;have hp:=HP.out (padk 9 r) (by rw[if_neg HQ.out]);have I':=hid (show TxI w s1 a1 n1 c1 x0 q v9 (.slice aq nq cq) w9 from⟨P++ [padk 9 r],aq,nq,cq,rfl,(hq.ext e9).gr (hg9 isStr.noWord),by rw[List.map_append];have h9:=hr9;rw[HZ.out]at h9;exact h9,Below.bx hb9 ze (B1.out.ext e9),Below.ext (E2.trans e9) hb9 ze,hp.1,hp.2,λ_=>by simp⟩);clear hr9 hb9 hg9 hp e9 HR B1 hq
        go_roundg q
        case measure=>exact hqk.out
        case rel=>exact I'
theorem Text_zero(w:World)(a1:Option Addr)(c1:Nat):Calls prog 110 #[.agg #[.bool false,.slice a1 0 c1]] w (Ret w (IsT2 (IsV (qB [48])) (iV 0))):=by
  go_enter func110,ntmps110;go_wp2_with fail;exact zH (v:=.tuple #[.string ⟨#[48]⟩,.int .i64 0]) (by simp[results,results110,go_sem]) rfl ⟨_,rfl,(Ext.refl w).alloc _,_,_,rfl,rfl,rfl⟩
theorem Text_f{k1:Nat}{z1:Int}{x:Value}{w:World}(hx:IsI k1 z1 x w)(l1:k1<=162)(ht:Tab w):
    Calls prog 110 #[x] w (Ret w (IsT2 (IsV (qB (textS z1))) (iV (textE z1)))):=by
  obtain⟨s,a,n,c,rfl,h1⟩:=hx;by_cases hz:z1=0
  · have hn:n=0:=h1.zero_iff.1 hz
    subst hn
    have hs:s=false:=by
      obtain⟨m,_,h,_⟩:=h1;exact h rfl
    subst hs
    have h48:Lib.itoa 0= [48]:=by
      have h5:=Lib.itoa_nonneg 0;rw[zD dcx]at h5;exact h5
    rw[hz,show textS 0= [48]by rw[textS,h48,if_neg (by simp)],show textE 0=0 by rw[textE,h48,if_neg (by simp)]];exact Text_zero w a c
  ·exact Text_main w s a n c z1 (h1.mono l1) hz ht

section
variable {P:Program} {md:Region.Mode} {ops:Array Oper} {Q:Exit->Act->World->Prop}
theorem size_put(a:Act)(d:Option Tmp)(x:Value):(a.put d x).tmps.size=a.tmps.size:=by
  cases d <;> simp[Act.put]
theorem layL_old(v:Nat->Value)(t:Nat):∀(ds:List (Option Tmp)) (a:Act) (k:Nat),ds.contains (some t)=false->(xZ v a k ds).tmps[t]? =a.tmps[t]?
  | [],_,_,_=>rfl
  | d ::ds,a,k,h=>by
    simp only[List.contains_cons,Bool.or_eq_false_iff,zJ]at h;rw[xZ,layL_old v t ds _ (k+1) h.2];cases d with
    |none=>rfl
    | some u=>
      simp only[Act.put];rw[Array.getElem?_setIfInBounds_ne];intro he;exact h.1 (by rw[he])
theorem layL_at(v:Nat->Value)(t:Nat):∀(ds:List (Option Tmp)) (a:Act) (k j:Nat),ds[j]? =some (some t)->(ds.drop (j+1)).contains (some t)=false->t<a.tmps.size->(xZ v a k ds).tmps[t]? =some (v (k+j))
  | [],_,_,_,h,_,_=>by simp at h
  | d ::ds,a,k,0,h,hn,ht=>by
    simp only[List.getElem?_cons_zero,Option.some.injEq]at h;subst h;rw[xZ,layL_old v t ds _ (k+1) (by simpa using hn)];simp only[Act.put];rw[Array.getElem?_setIfInBounds_self_of_lt ht];rfl
  | d ::ds,a,k,j+1,h,hn,ht=>by
    rw[xZ,layL_at v t ds _ (k+1) j (by simpa using h) (by simpa using hn) (by rw[size_put];exact ht)]
    congr 2;omega
structure Fr (ds:List (Option Tmp)) (a0:Act) (v:Nat->Value) (a:Act):Prop where
  at_:∀j t,ds[j]? =some (some t)->(ds.drop (j+1)).contains (some t)=false->decide (t<a0.tmps.size)=true->a.tmps[t]? =some (v j)
  old:∀t,ds.contains (some t)=false->a.tmps[t]? =a0.tmps[t]?
theorem Fr.of(ds:List (Option Tmp))(a0:Act)(v:Nat->Value):Fr ds a0 v (xZ v a0 0 ds):=
  ⟨λj t h hn ht=>by have:=layL_at v t ds a0 0 j h hn (of_decide_eq_true ht);rwa [Nat.zero_add]at this,λt h=>layL_old v t ds a0 0 h⟩
theorem Fr.val{ds:List (Option Tmp)}{a0:Act}{v:Nat->Value}{a:Act}(h:Fr ds a0 v a)(j t:Nat)(x:Value)(hd:v j=x)(h1:ds[j]? =some (some t))(h2:(ds.drop (j+1)).contains (some t)=false)(h3:decide (t<a0.tmps.size)=true):a.tmps[t]?.getD undef=x:=by
  have:=h.at_ j t h1 h2 h3;simp[this,hd]
theorem Fr.lit{ds:List (Option Tmp)}{a0:Act}{v:Nat->Value}{a:Act}(h:Fr ds a0 v a)(t:Nat)(x:Value)(h1:ds.contains (some t)=false)(h2:a0.tmps[t]? =some x):a.tmps[t]?.getD undef=x:=by
  have:=(h.old t h1).trans h2;simp[this]
variable {ds:List (Option Tmp)} {a0:Act} {w0:World} {L:List (Value->World->Prop)} {boxes:List Nat} {i:Nat} {o:Oper}
def OpOk(P:Program)(md:Region.Mode)(ops:Array Oper)(Q:Exit->Act->World->Prop)(ds:List (Option Tmp))(a0:Act)(w0:World)(L:List (Value->World->Prop))(boxes:List Nat)(i:Nat)(o:Oper):Prop:=
  ∀ (v:Nat->Value) (a:Act) (w:World),Ext w0 w->(∀j,(ups md ops i).contains j=true->L.getD j (λ_ _=>True) (v j) w)->Fr ds a0 v a->
    ∀K:Act->World->Prop,Shut (∀x w',Ext w w'->L.getD i (λ_ _=>True) x w'->FreshIf (boxes.contains i) x w->K (a.put o.dst x) w')->Oper.wp P o a w K Q
theorem RgL.mk(hg:o.guard=none)(h:OpOk P md ops Q ds a0 w0 L boxes i o):RgL P md ops Q ds a0 w0 L boxes i o:=by
  intro v w hE hd K hK;rw[if_pos (by simp[Region.wanted,hg])];exact h v _ w hE hd (Fr.of ds a0 v) K hK
theorem Fr.yielded{v:Nat->Value}{a:Act}(h:Fr ds a0 v a)(g t:Nat)(b:Bool)(hv:v g=.bool b)(hdst:xG ops g=some t)(h1:ds[g]? =some (some t))(h2:(ds.drop (g+1)).contains (some t)=false)(h3:decide (t<a0.tmps.size)=true):yielded ops a.tmps g=some b:=by
  have:=h.at_ g t h1 h2 h3;unfold Go.yielded;unfold xG at hdst;rw[hdst,Option.bind_some,this,hv]
theorem RgL.mkG(g t:Nat)(b:Bool)(hg:o.guard=some (g,b))(hdst:xG ops g=some t)(h1:ds[g]? =some (some t))(h2:(ds.drop (g+1)).contains (some t)=false)(h3:decide (t<a0.tmps.size)=true)(hu:(ups md ops i).contains g=true)(hL:∀x w,L.getD g (λ_ _=>True) x w->x=.bool b)
    (h:OpOk P md ops Q ds a0 w0 L boxes i o):RgL P md ops Q ds a0 w0 L boxes i o:=by
  intro v w hE hd K hK;have hy:=(Fr.of ds a0 v).yielded (ops:=ops) g t b (hL _ _ (hd g hu)) hdst h1 h2 h3;rw[if_pos (by simp[Region.wanted,hg,hy])];exact h v _ w hE hd (Fr.of ds a0 v) K hK
theorem RgL.mkN(g t:Nat)(b:Bool)(hg:o.guard=some (g,!b))(hdst:xG ops g=some t)(h1:ds[g]? =some (some t))(h2:(ds.drop (g+1)).contains (some t)=false)(h3:decide (t<a0.tmps.size)=true)(hu:(ups md ops i).contains g=true)(hL:∀x w,L.getD g (λ_ _=>True) x w->x=.bool b)
    (hb:boxes.contains i=false) (hi:∀w,L.getD i (λ_ _=>True) undef w):RgL P md ops Q ds a0 w0 L boxes i o:=by
  intro v w hE hd K hK;have hy:=(Fr.of ds a0 v).yielded (ops:=ops) g t b (hL _ _ (hd g hu)) hdst h1 h2 h3;rw[if_neg (by cases b <;> simp[Region.wanted,hg,hy])];exact hK.out _ _ (Ext.refl _) (hi w) (FreshIf.no hb)
end
def NwB(w:World)(v:Value):Prop:=∀g cs e fz,v.ownBlock=some g->w.heap[g]? =some (.cells cs e fz)->∀u∈cs.toList,NoWord u
theorem NwB.nil(w:World):NwB w (.slice none 0 0):=λ_ _ _ _ h=>by cases h
theorem NwB.kept{w w':World}{v:Value}(h:NwB w v)(hg:∀g,v.ownBlock=some g->w'.heap[g]? =w.heap[g]?):NwB w' v:=λg cs e fz h1 h2=>h g cs e fz h1 ((hg g h1)▸h2)
theorem gr_of_grown{w w':World}{v:Value}(hg:w.grownBy w' v.ownBlock)(h:NwB w v):Gr w w':=by
  refine⟨hg.size,λp x hp=>?_⟩;by_cases hb:some p.block=v.ownBlock
  · exfalso
    have hp2:=hp;unfold World.cell? at hp
    split at hp
    · rename_i c e fz ho
      split at hp
      ·cases hp
      · have hm:(.int .u32 x:Value)∈c.toList:=by
          obtain⟨hlt,he⟩:=Array.getElem?_eq_some_iff.1 hp;rw[<-he];exact Array.getElem_mem_toList hlt
        exact h _ _ _ _ hb.symm ho _ hm x rfl
    ·cases hp
  ·exact hg.cell hp hb
theorem zero_nw{z:Array Value}(hz:∀u∈z.toList,NoWord u)(n:Nat):∀u∈(Builtin.zeroCells z n).toList,NoWord u:=by
  intro u hu;simp[Builtin.zeroCells]at hu;obtain⟨j,hj,rfl⟩:=hu
  have h0:0<z.size:=by
    rcases zK z.size with h|h;·rw[h]at hj;omega
    ·exact h
  rw[getElem!_pos z _ (Nat.mod_lt _ h0)];exact hz _ (Array.getElem_mem_toList _)
section
variable {P:Program} (w:World)
theorem run_append_nw(base:Nat)(t ty e:TypeId)(i:TypeInfo)(z:Value)(size bytes:Nat)(ht:P.underlying t=some (.slice e))(hi:P.info? e=some i)(hz:i.zero=some z)
    (hsize:i.size=size) (hby:i.bytes=bytes) (hzs:z.cells.size=size) (hsz:0<size) (hzn:∀u∈z.cells.toList,NoWord u)
    (v:Value) (n:Nat) (xs:List Value) (hown:w.ownsRow base e size v n xs) (hnw:NwB w v)
    (a:Addr) (m c:Nat) (news:List Value) (hl:news.length=m*size) (hnews:∀j u,news[j]? =some u->w.cell? (a.add j)=some u) (h1:∀u∈news,u.oneCell'=true) (hnn:∀u∈news,NoWord u)
    (h63:n+m<=maxLen) (hbytes:(n+m)*bytes<=140737488355328) (hbase:base<=w.heap.size):
    ∃v' w',(Builtin.append_ #[t,t] ty #[v,.slice (some a) m c]).run P w=.ok v' w'/\w'.ownsRow base e size v' (n+m) (xs++news)/\w.grownBy w' v.ownBlock/\(v'.ownBlock=v.ownBlock\/v'.ownBlock=some w.heap.size)/\NwB w' v':=by
  obtain⟨v',w',hr,h2,h3,h4,h5⟩:=run_append_own_at (P:=P) w base t ty e i z size bytes ht hi hz hsize hby hzs hsz v n xs hown a m c news hl hnews h1 h63 hbytes hbase;refine⟨v',w',hr,h2,h3,h5,?_⟩;subst hsize;subst hby;have hsmall:n+m<=9223372036854775807:=by simp only[maxLen]at h63;omega
  rcases hown.2 with⟨rfl,rfl⟩| ⟨g,cap,cur,rfl,hbg,hg,hnc,hcm,hcs,htake⟩
  · by_cases hm:m=0
    ·have:=(h4.2 ⟨rfl,hm⟩);subst this;exact NwB.nil _
    · have hr2:=run_append_nil (P:=P) w t ty e i z ht hi hz a m c news hl hnews ze ze (by have hb:=hbytes;simp only[Nat.zero_add]at hb;omega)
      rw[hr2]at hr;injection hr with e1 e2;subst e1;subst e2;intro g cs e' fz hb ho u hu;injection hb with hb;subst hb;rw[show(w.drew.alloc (.cells (news.toArray++Builtin.zeroCells z.cells (grownCap w m 0 e-m)) e)).heap[w.heap.size]? =some (.cells (news.toArray++Builtin.zeroCells z.cells (grownCap w m 0 e-m)) e)from heap_alloc_new w.drew _]at ho;injection ho with ho;injection ho with ho _ _;subst ho;rw[Array.toList_append,List.mem_append]at hu;rcases hu with hu|hu
      ·exact hnn u (by simpa using hu)
      ·exact zero_nw hzn _ u hu
  · have hcn:∀u∈cur.toList,NoWord u:=hnw g cur e (0,0) rfl hg
    by_cases hroom:n+m<=cap
    · have hfit:n*i.size+news.length<=cur.size:=by rw[hl,hcs,<-Nat.add_mul];exact Nat.mul_le_mul_right _ hroom
      have hr2:=run_append_room (P:=P) w t ty e i ht hi g n cap cur hg a m c news hl hnews h1 hroom hfit;rw[hr2]at hr;injection hr with e1 e2;subst e1;subst e2;intro g' cs e' fz hb ho u hu;injection hb with hb;subst hb;rw[setRow_heap w g cur _ e _ hg]at ho;injection ho with ho;injection ho with ho _ _;subst ho;simp only[List.mem_append]at hu;rcases hu with(hu|hu)|hu
      ·exact hcn u (List.mem_of_mem_take hu)
      ·exact hnn u hu
      ·exact hcn u (List.mem_of_mem_drop hu)
    · have holds:∀j u,xs[j]? =some u->w.cell? ((⟨g,0,none⟩:Addr).add j)=some u:=hown.cells (g:=g) rfl
      have hr2:=run_append_grow (P:=P) w t ty e i z ht hi hz ⟨g,0,none⟩ n cap xs hown.1 holds a m c news hl hnews ze ze (growslice_fits ze hbytes);rw[hr2]at hr;injection hr with e1 e2;subst e1;subst e2;intro g' cs e' fz hb ho u hu;injection hb with hb;subst hb;rw[show(w.drew.alloc (.cells (xs.toArray++news.toArray++Builtin.zeroCells z.cells (grownCap w (n+m) cap e-(n+m))) e)).heap[w.heap.size]? =some (.cells (xs.toArray++news.toArray++Builtin.zeroCells z.cells (grownCap w (n+m) cap e-(n+m))) e)from heap_alloc_new w.drew _]at ho;injection ho with ho;injection ho with ho _ _;subst ho;rw[Array.toList_append,Array.toList_append,List.mem_append,List.mem_append]at hu;rcases hu with(hu|hu)|hu
      · have hu:u∈xs:=by simpa using hu
        rw[<-htake]at hu;exact hcn u (List.mem_of_mem_take hu)
      ·exact hnn u (by simpa using hu)
      ·exact zero_nw hzn _ u hu
end
end Go.Proofs.YtenhciieboegbaaGreatDoor
