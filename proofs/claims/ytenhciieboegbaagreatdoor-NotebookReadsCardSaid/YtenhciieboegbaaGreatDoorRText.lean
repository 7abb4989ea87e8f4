/-
  The reference's Text: digits by division by ten, in place. Every integer of at most 162 words.
-/
import Derived.Test.YtenhciieboegbaaGreatDoorVld
import Derived.Test.YtenhciieboegbaaGreatDoorRwn
import Derived.Test.YtenhciieboegbaaGreatDoorInt1
namespace Go.Proofs.YtenhciieboegbaaGreatDoor
open Go Go.RowKit
open Go.Proofs.Tryz
theorem za0{P:Prop}(h:P:=by have:=hrg.out;exact hid ze):P:=h
theorem zz{P:Prop}(h:P:=by have:=HLen.out;rw[qR];omega):P:=h
theorem jf{P:Prop}(h:P:=by have:=HS.out;(try simp);(try omega)):P:=h
theorem jw{P:Prop}(h:P:=by(try simp);(try omega)):P:=h
theorem yr{P:Prop}(h:P:=by have h:=hI.out;simpa using h):P:=h
set_option maxRecDepth 100000
set_option maxHeartbeats 4000000
def Nb(v v':Value)(w w':World):Prop:=(∀b,b < w.heap.size ->(∀g n c,v =.slice (some ⟨g,0,none⟩) n c ->b≠g) ->w'.heap[b]? =w.heap[b]?)/\
  (∀g n c,v' =.slice (some ⟨g,0,none⟩) n c ->(∃n' c',v =.slice (some ⟨g,0,none⟩) n' c')\/w.heap.size <=g)/\w.heap.size <=w'.heap.size
theorem row_append_x{P:Program}(w:World)(t ty e:TypeId)(ok:Value ->Prop)(z:Value)(bytes:Nat)(hu:P.underlying t =some (.slice e))(hinfo:(P.info? e).map (λi =>(i.zero,i.size,i.bytes))=some (some z,1,bytes))(hz:z.cells = #[z])(hzo:ok z)
    (base:Nat) (v:Value) (xs:List Value) (hr:RowOf e ok w base v xs) (b c1:Nat) (u:Value) (hc:w.cell? ⟨b,0,none⟩=some u) (h1:u.oneCell' =true) (huo:ok u) (hlen:(xs.length + 1) * bytes <=140737488355328) (hl2:xs.length + 1 <=140737488355328) (hbase:base <=w.heap.size) :
    ∃v' w',(Builtin.append_ #[t,t] ty #[v,.slice (some ⟨b,0,none⟩) 1 c1]).run P w =.ok v' w'/\RowOf e ok w' base v' (xs ++ [u])/\Below base w w'/\ ((∀x,ok x ->NoWord x) ->Gr w w')/\Nb v v' w w':=by
  obtain⟨i,hi,hz0,hz1,hz2⟩ :=info_parts hinfo
  have hsrc:Src P i.size t (.slice (some ⟨b,0,none⟩) 1 c1) 1 [u] w:=
    Src.ofSlice w hu _ 1 c1 [u] (by rw[hz1];rfl) (λj y hj =>by
      cases j with
      |zero =>simp at hj;subst hj;simpa [Addr.add]using hc
      |succ j =>simp at hj) (λy hy =>by simp at hy;subst hy;exact h1)
  have grow:∀(ao:Option Addr) (n cap:Nat) (olds:List Value),n =xs.length ->olds =xs ->cap < n + 1 ->(Builtin.firstCells i.size n (.slice ao n cap)).run P w.drew =.ok olds.toArray w.drew ->
      ∃v' w',(Builtin.append_ #[t,t] ty #[.slice ao n cap,.slice (some ⟨b,0,none⟩) 1 c1]).run P w =.ok v' w'/\RowOf e ok w' base v' (xs ++ [u])/\Below base w w'/\ ((∀x,ok x ->NoWord x) ->Gr w w')/\Nb (.slice ao n cap) v' w w'\/¬(∀x∈xs,ok x) :=by
    intro ao n cap olds hn ho hcap hold
    subst hn ho
    by_cases hok:∀x∈olds,ok x
    · have hge:=grownCap_ge w (olds.length + 1) cap e
      have hle:=grownCap_le_maxLen w (olds.length + 1) cap e (by unfold maxLen;omega)
      have hrun:=run_append_grow_src w t t ty e i z hu hi hz0 ao olds.length cap olds hold (.slice (some ⟨b,0,none⟩) 1 c1) 1 [u] hsrc hcap ze (growslice_fits hcap (by rw[hz2];exact hlen))
      refine⟨_,_,.inl ⟨hrun,.inr ⟨w.heap.size,_,_,by rw[zQ];rfl,hbase,heap_alloc_new w.drew _,?_,?_,?_,?_,?_⟩,?_,?_,?_⟩⟩
      ·rw[zQ];simpa using hge
      ·unfold maxLen at hle;omega
      · rw[Array.size_append]
        simp only[List.size_toArray,zQ,List.length_cons,List.length_nil,size_zeroCells,hz]
        simp;omega
      ·rw[Array.toList_append];exact List.take_left
      · intro j y hj
        rw[hz]at hj
        have hmem:=List.mem_of_getElem? (by rw[Array.getElem?_toList];exact hj)
        rw[Array.toList_append,jL]at hmem
        rcases List.mem_append.1 hmem with h|h
        · have h9:y∈olds\/y =u:=by simpa using h
          rcases h9 with h9|h9
          ·exact hok y h9
          ·rw[h9];exact huo
        ·rw[(List.mem_replicate.1 h).2];exact hzo
      ·exact Below.mono ((Ext.refl w).drew.alloc _) hbase
      ·exact λ_ =>((Ext.refl w).drew.alloc _).gr
      ·exact⟨λb hb _ =>Below.block ((Ext.refl w).drew.alloc _) b hb,λg n c h => .inr (by simp only[Value.slice.injEq,Option.some.injEq,Addr.mk.injEq,and_true]at h;omega),Ext.size ((Ext.refl w).drew.alloc _)⟩
    ·exact⟨.slice none 0 0,w,.inr hok⟩
  rcases hr with⟨rfl,rfl⟩| ⟨g,cap,cur,rfl,h2,h3,h4,h5,h6,h7,h8⟩
  · obtain⟨v',w',h|h⟩ :=grow none 0 0 [] rfl rfl ze (run_firstCells_none w.drew i.size 0 0 0)
    ·exact⟨v',w',h⟩
    ·exact absurd (λ_ h =>by cases h) h
  · have hcells:∀j y,xs[j]? =some y ->w.cell? ⟨g,j,none⟩=some y:=λj y hj =>(RowOf.cell (e:=e) (ok:=ok) (base:=base) (.inr ⟨g,cap,cur,rfl,h2,h3,h4,h5,h6,h7,h8⟩) j y hj)
    have hxok:∀x∈xs,ok x:=λx hx =>by
      rw[<-h7]at hx
      obtain⟨j,hj⟩ :=List.mem_iff_getElem?.1 (List.mem_of_mem_take hx)
      exact h8 j x ja
    by_cases hroom:xs.length + 1 <=cap
    · have hfz:∀j,w.frozen? ⟨g,j,none⟩=false:=λj =>by simp only[World.frozen?];rw[h3];simp
      obtain⟨y0,hy0⟩:∃y,cur[xs.length]? =some y:=⟨cur[xs.length]'ze,by simp⟩
      have hyc:w.cell? ⟨g,xs.length,none⟩=some y0:=by simp only[World.cell?];rw[h3];simpa using hy0
      have hrun:=run_append_room_src w t t ty e i hu hi g 0 xs.length cap (.slice (some ⟨b,0,none⟩) 1 c1) 1 [u] hsrc hroom
        (fun j hj =>by
          have:j =0:=ja
          subst this;rw[hz1];simp[hyc]) (λj _ =>hfz _)
      rw[hz1]at hrun
      simp only[Nat.mul_one,Nat.zero_add,World.setCells]at hrun
      refine⟨_,_,hrun,.inr ⟨g,cap,cur.setIfInBounds xs.length u,by rw[zQ];rfl,h2,?_,by rw[zQ];simpa using hroom,h5,by simpa using h6,?_,?_⟩,?_,?_,?_⟩
      · simp only[World.setCell,Array.getElem?_modify,if_true]
        rw[h3];simp
      · rw[zQ,List.length_cons,List.length_nil,Nat.zero_add,Array.toList_setIfInBounds,List.take_add_one,List.take_set_of_le (zN _),h7]
        rw[List.getElem?_set_self (by simp;omega)];rfl
      · intro j y hj
        rw[Array.getElem?_setIfInBounds]at hj
        split at hj
        · split at hj
          ·cases hj;exact huo
          ·cases hj
        ·exact h8 j y hj
      ·exact Below.setCell (Below.refl base w) h2 u
      ·exact λhnw =>(Gr.refl w).set (p:=⟨g,xs.length,none⟩) hyc (hnw _ (h8 _ _ hy0)) u
      ·exact⟨λb _ hb =>Below.heap_setCell _ _ _ _ (hb g _ _ rfl),λg' n c h => .inl (by simp only[Value.slice.injEq,Option.some.injEq,Addr.mk.injEq,and_true]at h;exact⟨_,_,by rw[h.1]⟩),by simp[World.setCell]⟩
    · obtain⟨v',w',h|h⟩ :=grow (some ⟨g,0,none⟩) xs.length cap xs rfl rfl ze (run_firstCells_some w.drew i.size xs.length ⟨g,0,none⟩ xs.length cap xs (by rw[hz1,Nat.mul_one]) (λj y hj =>by
        have:=hcells j y hj
        by_cases hj0:j =0
        ·subst hj0;simpa [Addr.add]using this
        ·simpa [Addr.add,hj0]using this))
      ·exact⟨v',w',h⟩
      ·exact absurd hxok h
theorem wpl_row_x{P:Program}{w:World}{ops:Array Oper}{rest:List Oper}{o:Oper}{a:Act}{Q:Exit ->Act ->World ->Prop}(hgd:o.guard =none)(s x:Operand)(t e:TypeId)
    (ho:o.op =.call {callee:=.builtin .append,args:= #[s,x],argTypes:= #[t,t]}) (ok:Value ->Prop) (z:Value) (bytes:Nat) (hu:P.underlying t =some (.slice e)) (hinfo:(P.info? e).map (λi =>(i.zero,i.size,i.bytes))=some (some z,1,bytes)) (hz:z.cells = #[z]) (hzo:ok z)
    (base:Nat) (v:Value) (xs:List Value) (hs:a.eval s =v) (hr:RowOf e ok w base v xs) (b c1:Nat) (u:Value) (hx:a.eval x =.slice (some ⟨b,0,none⟩) 1 c1) (hc:w.cell? ⟨b,0,none⟩=some u) (h1:u.oneCell' =true) (huo:ok u) (hlen:(xs.length + 1) * bytes <=140737488355328) (hl2:xs.length + 1 <=140737488355328) (hbase:base <=w.heap.size)
    (hK:∀v' w',RowOf e ok w' base v' (xs ++ [u]) ->Below base w w' ->((∀x,ok x ->NoWord x) ->Gr w w') ->Nb v v' w w' ->wpList P ops Q rest (a.put o.dst v') w'):wpList P ops Q (o ::rest) a w:=by
  obtain⟨v',w',hrun,h2,h3,h4,h5⟩ :=row_append_x w t o.type e ok z bytes hu hinfo hz hzo base v xs hr b c1 u hc h1 huo hlen hl2 hbase
  refine wpList_plain hgd λK hK' =>?_
  unfold Oper.wp
  simp[execOp,ho,resolve,invoke,builtin,hs,hx,hrun,Result.andThen]
  exact hK' _ _ (hK v' w' h2 h3 h4 h5)
def TxD(xs ys:List Nat)(i r:Nat):Prop:=ys.length =xs.length/\ (∀j,ys.getD j 0 < 4294967296)/\ (∀j,j < i ->ys.getD j 0 =xs.getD j 0)/\qF (ys.drop i) * 10 + r =qF (xs.drop i)/\r < 10
theorem TxD.start{xs:List Nat}(hx:∀j,xs.getD j 0 < 4294967296):TxD xs xs xs.length 0:=⟨rfl,hx,λ_ _ =>rfl,by simp[qF],by omega⟩
theorem drop_val(xs:List Nat)(k:Nat)(h:k < xs.length):qF (xs.drop k)=xs.getD k 0 + 4294967296 * qF (xs.drop (k + 1)) :=by
  rw[List.drop_eq_getElem_cons h,qF]
  simp[List.getD,h]
theorem drop_set(ys:List Nat)(k y:Nat):(ys.set k y).drop (k + 1)=ys.drop (k + 1) :=by
  rw[List.drop_set_of_lt (by omega)]
theorem TxD.step{xs ys:List Nat}{k r:Nat}(h:TxD xs ys (k + 1) r)(hk:k < xs.length)(hx:∀j,xs.getD j 0 < 4294967296):
    ys.getD k 0 =xs.getD k 0/\TxD xs (ys.set k ((r * 4294967296 + xs.getD k 0) / 10)) k ((r * 4294967296 + xs.getD k 0) % 10) :=by
  obtain⟨h1,h2,h3,h4,h5⟩ :=h
  have hxk:=hx k
  refine⟨h3 k ze,by simpa using h1,λj =>?_,λj hj =>?_,?_,by omega⟩
  · rw[jH _ _ _ _ (by omega)];split
    ·omega
    ·exact h2 j
  ·rw[jH _ _ _ _ (by omega),if_neg (by omega)];exact h3 j ze
  · rw[drop_val _ k (by simp;omega),drop_set,jH _ _ _ _ (by omega),if_pos rfl,drop_val xs k hk,<-h4]
    generalize qF (ys.drop (k + 1))=Y
    omega
theorem TxD.fin{xs ys:List Nat}{r:Nat}(h:TxD xs ys 0 r):qF ys =qF xs / 10/\r =qF xs % 10:=by
  obtain⟨h1,h2,h3,h4,h5⟩ :=h
  simp only[List.drop_zero]at h4
  omega
theorem RowOf.take{e:TypeId}{ok:Value ->Prop}{w:World}{base g n cap:Nat}{xs:List Value}(h:RowOf e ok w base (.slice (some ⟨g,0,none⟩) n cap) xs)(k:Nat)(hk:k <=n):RowOf e ok w base (.slice (some ⟨g,0,none⟩) k cap) (xs.take k) :=by
  rcases h with⟨h,_⟩| ⟨g',cap',cur,h1,h2,h3,h4,h5,h6,h7,h8⟩
  ·cases h
  · simp only[Value.slice.injEq,Option.some.injEq,Addr.mk.injEq,and_true]at h1
    obtain⟨rfl,rfl,rfl⟩ :=h1
    have hl:(xs.take k).length =k:=jv
    refine .inr ⟨g,cap,cur,by rw[hl],h2,h3,by rw[hl];omega,h5,h6,?_,h8⟩
    rw[hl]
    have:xs.take k =(cur.toList.take xs.length).take k:=by rw[h7]
    rw[this,List.take_take,Nat.min_eq_left hk]
theorem Wd.uniq{w:World}{ao:Option Addr}{n cap:Nat}{xs ys:List Nat}(h:Wd w ao n cap xs)(k:Wd w ao n cap ys):xs =ys:=by
  apply List.ext_getElem (by rw[h.len,k.len])
  intro j hj hj2
  have hjn:j < n:=by rw[<-h.len];exact hj
  rcases h.shape with h0| ⟨b,off,rfl,_⟩
  ·omega
  · have h1:=h.cell j hjn
    have h2:=k.cell j hjn
    rw[h1]at h2
    have h3:((xs.getD j 0:Nat):Int)=((ys.getD j 0:Nat):Int) :=by injection h2 with h2;injection h2
    have h4:xs.getD j 0 =ys.getD j 0:=ze
    simpa [List.getD,hj,hj2]using h4
theorem trim_row{w:World}{base g n cap:Nat}{xs:List Nat}(h:Rw w base (.slice (some ⟨g,0,none⟩) n cap) xs):
    Calls prog 74 #[.slice (some ⟨g,0,none⟩) n cap] w λe w' =>∃ys,e =.returned (.slice (some ⟨g,0,none⟩) ys.length cap)/\w =w'/\Rw w base (.slice (some ⟨g,0,none⟩) ys.length cap) ys/\qF ys =qF xs/\ys.length <=n/\ (0 < ys.length ->0 < qF ys) :=by
  have hw:=h.1.wd h.2
  refine(rtrim_wd w _ n cap xs hw).mono ?_
  rintro e w' ⟨n',rfl,rfl,zs,hz,hle,htop,hv⟩
  have hxl:xs.length =n:=hw.len
  have ht:=hw.take n' hle
  have he:=Wd.uniq hz ht
  have hl:(xs.take n').length =n':=jv
  refine⟨xs.take n',by rw[hl],rfl,⟨?_,ht.lt⟩,by rw[<-he];exact hv,by rw[hl];exact hle,λh0 =>?_⟩
  · rw[hl]
    have:=h.1.take n' hle
    rwa [show(qL xs).take n' =qL (xs.take n')by simp[qL,List.map_take]]at this
  · rw [<-he]
    rw[hl]at h0
    rcases zK (qF zs)with h1|h1
    · exfalso
      have h2:=jR zs (by have:=hz.len;omega) (by rw[hz.len];exact htop h0)
      have:0 < 4294967296 ^ (zs.length - 1) :=Nat.pos_of_ne_zero zo
      omega
    ·exact h1
/-! ### Rows of bytes -/
def isU8(x:Value):Prop:=∃n:Nat,x =.int .u8 (n:Int)
def qY(D:List UInt8):List Value:=D.map (λb =>Value.int .u8 ((b.toNat:Nat):Int))
theorem qR(D:List UInt8):(qY D).length =D.length:=by simp[qY]
theorem bcells_snoc(D:List UInt8)(b:UInt8):qY D ++ [Value.int .u8 ((b.toNat:Nat):Int)]=qY (D ++ [b]) :=by simp[qY]
theorem bcells_get(D:List UInt8)(i:Nat)(h:i < D.length):(qY D)[i]? =some (.int .u8 ((D[i].toNat:Nat):Int)) :=by simp[qY,h]
theorem Tryz.infoU8:(prog.info? 5).map (λi =>(i.zero,i.size,i.bytes))=some (some (.int .u8 0),1,1) :=by kernel_rfl
theorem push_all(D:List UInt8)(r:ByteArray):(D.map (λb =>((b.toNat:Nat):Int))).foldl (λr n =>r.push (UInt8.ofNat n.toNat)) r =⟨r.data ++D.toArray⟩ :=by
  induction D generalizing r with
  |nil =>simp
  | cons b D ih =>
    rw[List.map_cons,List.foldl_cons,ih]
    apply ByteArray.ext
    simp[ByteArray.push]
theorem wpl_str{w:World}{ops:Array Oper}{rest:List Oper}{o:Oper}{a:Act}{Q:Exit ->Act ->World ->Prop}(hgd:o.guard =none)(x:Operand)(ho:o.op =Op.convert 52 9 x)
    (base:Nat) (v:Value) (D:List UInt8) (hx:a.eval x =v) (hr:RowOf 5 isU8 w base v (qY D)) (hD:D≠ []) (hK:wpList prog ops Q rest (a.put o.dst (.string ⟨D.toArray⟩)) w):wpList prog ops Q (o ::rest) a w:=by
  obtain⟨ao,cap,rfl,hg,_,_⟩ :=hr.shape
  obtain⟨g,rfl,_,_⟩ :=hg (λh =>hD (List.map_eq_nil_iff.1 h))
  have hrun:=run_convert_bytes_string (P:=prog) w 52 9 5 (some ⟨g,0,none⟩) (qY D).length cap zc zc zc
  have hl:=run_loadCells_list (P:=prog) (w:=w) ⟨g,0,none⟩ (qY D) (λj u hj =>by
    have:=hr.cell j u hj
    rw[Addr.add_lit,Nat.zero_add];exact this)
  rw[run_bytesToString w ⟨g,0,none⟩ _ cap (D.map (λb =>((b.toNat:Nat):Int))) (by rw[hl];simp[qY]),push_all]at hrun
  have he:(⟨ByteArray.empty.data ++D.toArray⟩:ByteArray)=⟨D.toArray⟩ :=by apply ByteArray.ext;simp
  rw[he]at hrun
  refine wpList_plain hgd λK hK' =>?_
  unfold Oper.wp
  simp[execOp,ho,hx,hrun,Result.andThen]
  exact hK' _ _ hK
def txt(v:Nat):List UInt8:=if v =0 then []else Lib.decDigits v
theorem txt_step(v:Nat)(h:0 < v):txt v =txt (v / 10) ++ [UInt8.ofNat (48 + v % 10)] :=by
  unfold txt
  rw[if_neg (by omega)]
  by_cases h10:v < 10
  ·rw[zD h10,if_pos (by omega),Nat.mod_eq_of_lt h10];rfl
  ·rw[dec_big h10,if_neg (by omega)]
theorem txt_len{v k:Nat}(h:v < 4294967296 ^ k):(txt v).length <=32 * k + 1:=by
  unfold txt;split
  ·simp
  ·exact dec_len' v k h
theorem Rw.same{w w':World}{base g n cap:Nat}{xs:List Nat}(h:Rw w base (.slice (some ⟨g,0,none⟩) n cap) xs)(he:w'.heap[g]? =w.heap[g]?):Rw w' base (.slice (some ⟨g,0,none⟩) n cap) xs:=by
  refine⟨?_,h.2⟩
  rcases h.1 with⟨h1,_⟩| ⟨b,c,cur,h1,h2,h3,h4⟩
  ·cases h1
  · simp only[Value.slice.injEq,Option.some.injEq,Addr.mk.injEq,and_true]at h1
    obtain⟨rfl,rfl,rfl⟩ :=h1
    exact .inr ⟨g,cap,cur,rfl,h2,he.trans h3,h4⟩
theorem RowOf.same{e:TypeId}{ok:Value ->Prop}{w w':World}{base:Nat}{v:Value}{xs:List Value}(h:RowOf e ok w base v xs)(he:∀g n c,v =.slice (some ⟨g,0,none⟩) n c ->g < w.heap.size ->w'.heap[g]? =w.heap[g]?):RowOf e ok w' base v xs:=by
  rcases h with h| ⟨b,c,cur,h1,h2,h3,h4⟩
  ·exact .inl h
  ·exact .inr ⟨b,c,cur,h1,h2,(he b _ _ h1 (heap_lt h3)).trans h3,h4⟩
theorem Rw.ge{w:World}{base g n cap:Nat}{xs:List Nat}(h:Rw w base (.slice (some ⟨g,0,none⟩) n cap) xs):base <=g/\g < w.heap.size:=by
  rcases h.1 with⟨h1,_⟩| ⟨b,c,cur,h1,h2,h3,_⟩
  ·cases h1
  · simp only[Value.slice.injEq,Option.some.injEq,Addr.mk.injEq,and_true]at h1
    rw[h1.1];exact⟨h2,heap_lt h3⟩
theorem Rw.base{w:World}{base base':Nat}{v:Value}{xs:List Nat}(h:Rw w base v xs)(hb:base' <=base):Rw w base' v xs:=by
  refine⟨?_,h.2⟩
  rcases h.1 with h1| ⟨b,c,cur,h1,h2,h3,h4⟩
  ·exact .inl h1
  ·exact .inr ⟨b,c,cur,h1,zO hb h2,h3,h4⟩
structure TxO (w:World) (s1:Bool) (a1:Option Addr) (n1 c1 x0:Nat) (gk:Nat) (D:List UInt8) (xs:List Nat) (v4 v5:Value) (wr:World):Prop where
  l:Rw wr (w.heap.size + 1) v5 xs
  lv:qF xs =gk
  lp:0 < xs.length ->0 < gk
  ll:xs.length <=162
  d:RowOf 5 isU8 wr (w.heap.size + 1) v4 (qY D)
  ne:∀g n c g' n' c',v4 =.slice (some ⟨g,0,none⟩) n c ->v5 =.slice (some ⟨g',0,none⟩) n' c' ->g≠g'
  t:txt x0 =txt gk ++D.reverse
  b:Bx wr w.heap.size s1 a1 n1 c1
  e:Ext w wr
def TxP(w:World)(gd L c:Nat)(Dd pre:List UInt8)(gk:Nat)(v8 v9:Value)(wr:World):Prop:=
  ∃ Ob:List UInt8,v9 =.int .i64 ((gk:Int) - 1)/\gk <=L/\Ob =pre ++ (Dd.drop gk).reverse/\RowOf 5 isU8 wr (w.heap.size + 1) v8 (qY Ob)/\RowOf 5 isU8 wr (w.heap.size + 1) (.slice (some ⟨gd,0,none⟩) L c) (qY Dd)/\
    (∀g n c',v8 =.slice (some ⟨g,0,none⟩) n c' ->g≠gd)/\gd < wr.heap.size/\Ext w wr
theorem RowOf.ge{e:TypeId}{ok:Value ->Prop}{w:World}{base g n cap:Nat}{xs:List Value}(h:RowOf e ok w base (.slice (some ⟨g,0,none⟩) n cap) xs):base <=g/\g < w.heap.size:=by
  rcases h with⟨h1,_⟩| ⟨b,c,cur,h1,h2,h3,_⟩
  ·cases h1
  · simp only[Value.slice.injEq,Option.some.injEq,Addr.mk.injEq,and_true]at h1
    rw[h1.1];exact⟨h2,heap_lt h3⟩
theorem text_end{z:Int}{m:Nat}{Dd Ob pre:List UInt8}(hI:Lib.itoa z =pre ++Lib.decDigits m)(hd:Lib.decDigits m =Dd.reverse)(ho:Ob =pre ++ (Dd.drop 0).reverse):
    (1300 < Ob.length ->textS z = []/\textE z =2)/\ (¬1300 < Ob.length ->textS z =Ob/\textE z =0) :=by
  have h:Lib.itoa z =Ob:=by rw[hI,hd,ho,List.drop_zero]
  unfold textS textE
  rw[h]
  exact⟨λh =>by rw[if_pos h,if_pos h];exact⟨rfl,rfl⟩,λh =>by rw[if_neg h,if_neg h];exact⟨rfl,rfl⟩⟩
theorem tRText_1{P:Prop}(h:P:=by
  have hObne:=hid (show Ob≠ []by rw[hob,List.drop_zero];intro h;have h2:=congrArg List.length h;have h3:=hDL.out;have h4:=hLp.out;rw[zQ,List.length_reverse,List.length_nil]at h2;omega)
  rw[show((0:Nat):Int) - 1 = -1 by omega]
  obtain⟨ao,co,rfl,_,_,_⟩ :=hro.shape
  have Hro:=hid hro
  have HE2:=hid he
  clear hro hrd hne hgd he hgl hob
  by_cases hbig:1300 < Ob.length
  · have h1:=hid (HT.out.1 hbig)
    have hb1:decide ((1300:Int) < ((qY Ob).length:Int))=true:=by rw[qR];simp;omega
    have hb2:(1300:Int) < ((qY Ob).length:Int) :=by rw[qR];omega
    clear HT Hro
    go_wp2_with fail
    exact zH (v:=.tuple #[.string ⟨#[]⟩,.int .i64 2]) (by simp[results,results39,go_sem]) rfl ⟨_,rfl,HE2.out,_,_,rfl,(by show _ =qB ts;rw[HTS.out,h1.out.1];rfl),(by show _ =Value.int .i64 te;rw[HTE.out,h1.out.2])⟩
  · have h1:=hid (HT.out.2 hbig)
    have hb1:decide ((1300:Int) < ((qY Ob).length:Int))=false:=by rw[qR];simp;omega
    have hb2:¬(1300:Int) < ((qY Ob).length:Int) :=by rw[qR];omega
    clear HT
    go_wp2_with (refine wpl_str rfl _ rfl (w.heap.size + 1) _ Ob rfl Hro.out hObne.out ?_)
    exact zH (v:=.tuple #[.string ⟨Ob.toArray⟩,.int .i64 0]) (by simp[results,results39,go_sem]) rfl ⟨_,rfl,HE2.out,_,_,rfl,(by show _ =qB ts;rw[HTS.out,h1.out.1];rfl),(by show _ =Value.int .i64 te;rw[HTE.out,h1.out.2])⟩
  ):P:=h
theorem tRText_2{P:Prop}(h:P:=by
  clear hr9 hb9 hg9 hn9 hn9' ea hsz Hro Hrd Hne HE2
  go_roundg j
  case measure =>exact hq.out
  case rel =>exact P'
  ):P:=h
theorem tRText_3{P:Prop}(h:P:=by
  have h1:=congrArg List.length hob
  have h2:=hDL.out
  have h3:=hLs.out
  simp at h1
  exact hid ze
  ):P:=h
theorem RText_f {k1:Nat}{z1:Int}{x:Value}{w:World}(hx:IsI k1 z1 x w)(l1:k1 <=162):
    Calls prog 39 #[x] w (Ret w (IsT2 (IsV (qB (textS z1))) (iV (textE z1)))) :=by
  obtain⟨s1,a1,n1,c1,rfl,h1⟩ :=hx
  obtain⟨W,hW,K0⟩:∃W,W =w.alloc (.cells #[.bool s1,.slice a1 n1 c1] 29)/\Kq w W [(w.heap.size, [.bool s1,.slice a1 n1 c1])] :=⟨_,rfl,by simpa using(Kq.start w).alloc [.bool s1,.slice a1 n1 c1] 29⟩
  have b2:=hid (K0.bx w.heap.size s1 a1 n1 c1 zo)
  have E:=hid K0.ext
  have hWs:=hid (show W.heap.size =w.heap.size + 1 by rw[hW];simp)
  obtain⟨m,⟨A,hw,hk,htop,hv⟩,hs,hz⟩ :=h1
  have hI:=hid (itoa_parts s1 m z1 hz (λh =>hs (by
    rcases zK n1 with h0|h0
    ·exact h0
    · exfalso
      have:=jR A (by rw[hw.len];exact h0) (by rw[hw.len];exact htop h0)
      have h2:0 < 4294967296 ^ (A.length - 1) :=Nat.pos_of_ne_zero zo
      omega)))
  have hm:m < 4294967296 ^ 162:=by
    rw[<-hv]
    have h2:=natVal_lt A hw.lt
    have h3:(4294967296:Nat) ^ A.length <=4294967296 ^ 162:=Nat.pow_le_pow_right dcx (by rw[hw.len];omega)
    exact Nat.lt_of_lt_of_le h2 h3
  have htl:=hid (txt_len hm)
  have hdl:=hid (dec_len' m 162 hm)
  have hpos:=hid (show 0 < A.length ->0 < m from λh0 =>by
    rw[hw.len]at h0
    have:=jR A (by rw[hw.len];exact h0) (by rw[hw.len];exact htop h0)
    have h2:0 < 4294967296 ^ (A.length - 1) :=Nat.pos_of_ne_zero zo
    omega)
  have hn200:decide (200 < n1)=false:=jv
  have hn201:¬(200:Int) < (n1:Int) :=ze
  have Hw:=hid (hw.ext K0.ext)
  have Hv:=hid hv
  have Hlen:=hid hw.len
  have hn1:n1 <=162:=ze
  obtain⟨te,hte⟩:∃t,t =textE z1:=⟨_,rfl⟩
  obtain⟨ts,hts⟩:∃t,t =textS z1:=⟨_,rfl⟩
  rw[<-hte,<-hts]
  have HTE:=hid hte
  have HTS:=hid hts
  clear K0 hw hk htop hv hs hz hm hte hts
  have F1:=b2.out.c0;have F2:=b2.out.c1;have F3:=b2.out.f0;have F4:=b2.out.f1
  go_enter func39,ntmps39
  go_upto_region 1 with fail
  rw[<-hW]
  clear hW
  go_upto_region 4 with fail
  obtain⟨W4,hW1⟩:∃W4,W4 =W.alloc (.cells #[] 5) :=⟨_,rfl⟩
  have e1:Ext W W4:=by rw[hW1];exact(Ext.refl W).alloc _
  have hs1:=hid (show W4.heap.size =W.heap.size + 1 by rw[hW1];simp)
  have hne1:¬w.heap.size =W4.heap.size:=by have:=hs1.out;have:=hWs.out;omega
  have hne2:¬W4.heap.size =w.heap.size:=by have:=hs1.out;have:=hWs.out;omega
  have hd0:RowOf 5 isU8 W4 (w.heap.size + 1) (.slice (some ⟨W.heap.size,0,none⟩) 0 0) (qY []) :=
    .inr ⟨W.heap.size,0,#[],rfl,by rw[hWs.out];omega,by rw[hW1];exact heap_alloc_new _ _,by simp[qY],by omega,rfl,by simp[qY],by simp⟩
  rw[<-hW1]
  clear hW1
  have Hw1:=hid (Hw.out.ext e1)
  have b3:=b2.out.ext e1
  clear F1 F2 F3 F4
  have F5:(W4.alloc (.cells #[] 97)).cell? ⟨w.heap.size,1,none⟩=some (.slice a1 n1 c1) :=(b3.ext ((Ext.refl W4).alloc _)).c1
  go_wp2_with (at_builtin;go_must (refine wpl_app rfl _ _ rfl W4.heap.size _ _ _ _ A rfl rfl (Hw1.out.ext ((Ext.refl _).alloc _)) ze (Rw.start W4 _ (zN _)) zo ?_;intro v5 w2 e2 hr))
  have e12:=((Ext.refl W4).alloc (.cells #[] 97)).trans e2
  have O0:=hid (show TxO w s1 a1 n1 c1 m m [] A (.slice (some ⟨W.heap.size,0,none⟩) 0 0) v5 w2 from
    ⟨hr.base (by have:=hWs.out;have:=hs1.out;omega),Hv.out,hpos.out,by rw[Hlen.out];exact hn1,hd0.ext e12,λg n c g' n' c' h h' =>by subst h';have:=hr.ge;simp only[Value.slice.injEq,Option.some.injEq,Addr.mk.injEq,and_true]at h;have:=hs1.out;omega,by simp,b3.ext e12,E.out.trans (e1.trans e12)⟩)
  obtain⟨al,cl,hv5,_⟩ :=hr.shape
  subst hv5
  clear hr hd0 e1 e12 e2 hs1 Hw1 b3 F5 Hw Hv b2
  go_loopg [4,5] m (λgk v4 v5 wr =>∃D xs ao cap,v5 =.slice ao xs.length cap/\Hid (TxO w s1 a1 n1 c1 m gk D xs v4 v5 wr))
  case atStart =>exact⟨_,_,_,_,rfl,O0⟩
  case round =>
    clear O0
    obtain⟨D,xs,al2,cap,rfl,O⟩ :=hrel
    obtain⟨wo,hwo⟩:∃wo,wo =wr:=⟨_,rfl⟩
    subst hwo
    obtain⟨G,hG⟩:∃G,G =gk:=⟨_,rfl⟩
    subst hG
    obtain⟨n,hn⟩:∃n,n =xs.length:=⟨_,rfl⟩
    have HN:=hid hn
    have hnl:n <=162:=by have:=O.out.ll;omega
    rw[<-hn]
    clear hn
    by_cases h0:0 < n
    · have hgk :=hid (O.out.lp (by have:=HN.out;omega))
      have J0:=hid (TxD.start O.out.l.2)
      rw[<-HN.out]at J0
      obtain⟨gl,rfl⟩:∃g,al2 =some ⟨g,0,none⟩ :=by
        obtain⟨a,c,hv,hg,_⟩ :=O.out.l.shape
        simp only[Value.slice.injEq]at hv
        obtain⟨rfl,_,rfl⟩ :=hv
        obtain⟨g,rfl,_⟩ :=hg (λh =>by have:=HN.out;rw[h]at this;simp at this;omega)
        exact⟨g,rfl⟩
      have hOl:=O.out.l
      rw[<-HN.out]at hOl
      have HOL:=hid hOl
      clear hOl
      go_upto_region 7 with fail
      go_wp2_with fail
      go_loopg [6,7] n (λgi v6 v7 w5 =>∃(ys:List Nat) (r:Nat),v6 =.int .u64 (r:Int)/\v7 =.int .i64 ((gi:Int) - 1)/\gi <=n/\Hid (TxD xs ys gi r/\Rw w5 (w.heap.size + 1) (.slice (some ⟨gl,0,none⟩) n cap) ys/\Upd gl wo w5))
      case atStart =>exact⟨_,_,rfl,by go_num,zN _,⟨J0,HOL.out,Upd.refl _ _⟩⟩
      case round =>
        clear J0
        obtain⟨ys,r,rfl,rfl,hgn,J⟩ :=hrel
        have hr10:=J.out.1.2.2.2.2
        rcases zK gk with hg|hg
        · subst hg
          have hf:=hid J.out.1.fin
          rw[show((0:Nat):Int) - 1 = -1 by omega]
          have hlt:=hid (show(txt m).length =(txt G).length + D.length by rw[O.out.t];simp)
          have HLen:Hid (D.length <=5185) :=by have h1:=hlt.out;have h2:=htl.out;exact hid ze
          have Hd:=hid (show RowOf 5 isU8 wr (w.heap.size + 1) u4 (qY D)from O.out.d.same (λg n' c' h hl =>J.out.2.2.2 g (O.out.ne g n' c' gl _ _ h rfl) hl))
          have Hl:=hid J.out.2.1
          have HU:=hid J.out.2.2
          have hgl:=hid (Rw.ge J.out.2.1)
          have HE:=hid (HU.out.ext O.out.e (by have:=hgl.out;omega))
          have HB:=hid (O.out.b.upd HU.out (by have:=hgl.out;omega))
          have HS:Hid (w.heap.size + 1 <=wr.heap.size) :=by have:=hgl.out;exact hid ze
          have HYL:=hid J.out.1.1
          have hG:=hid (show qF xs =G from O.out.lv)
          clear J
          go_wp2_with (at_builtin;go_must (refine wpl_row_x rfl _ _ 52 5 rfl isU8 (.int .u8 0) 1 zc Tryz.infoU8 rfl ⟨0,rfl⟩ (w.heap.size + 1) _ _ rfl (Hd.out.ext ((Ext.refl _).alloc _)) _ _ (.int .u8 ((48 + r:Nat):Int)) rfl jw rfl ⟨_,rfl⟩ zz zz jf ?_;intro v9 w9 hr9 hb9 hg9 hn9))
          have ea:=(Ext.refl wr).alloc (.cells #[.int .u8 (48 + (r:Int))] 5)
          have hn9':Nb u4 v9 (wr.alloc (.cells #[.int .u8 (48 + (r:Int))] 5)) w9:=hn9
          have hsz:=ea.size
          have hl9:=Rw.same (w':=w9) (Hl.out.ext ea) (hn9'.1 gl (by have:=hgl.out;omega) (λg n' c' h =>Ne.symm (O.out.ne g n' c' gl _ _ h rfl)))
          have hne9:=hid (show ∀g n' c',v9 =.slice (some ⟨g,0,none⟩) n' c' ->g≠gl from λg n' c' h =>by
            rcases hn9'.2.1 g n' c' h with⟨n2,c2,h2⟩|h2
            ·exact O.out.ne g n2 c2 gl _ _ h2 rfl
            ·have:=hgl.out;omega)
          have HB9:=hid (Below.bx hb9 ze (HB.out.ext ea))
          have HE9:=hid (Below.ext (HE.out.trans ea) hb9 ze)
          have hbyte:((UInt8.ofNat (48 + r)).toNat:Int)=((48 + r:Nat):Int) :=jv
          rw[<-hbyte,bcells_snoc]at hr9
          have HR9:=hid hr9
          have HL9:=hid hl9
          clear hr9 hb9 hg9 hn9 hn9' ea hsz hl9 hbyte HB HE Hd Hl HU
          refine zG (trim_row HL9.out) ?_
          rintro e w10 ⟨zs,rfl,rfl,hz,hzv,hzl,hzp⟩
          have hq:=hid (show G / 10 < G by have:=hgk.out;omega)
          have O':=hid (show TxO w s1 a1 n1 c1 m (G / 10) (D ++ [UInt8.ofNat (48 + r)]) zs v9 (.slice (some ⟨gl,0,none⟩) zs.length cap) w9 from
            ⟨hz,by rw[hzv,hf.out.1,hG.out],λh0 =>by have h1:=hzp h0;rw[hzv,hf.out.1,hG.out]at h1;exact h1,by omega,HR9.out,λg n' c' g' n2 c2 h h' =>by
              simp only[Value.slice.injEq,Option.some.injEq,Addr.mk.injEq,and_true]at h'
              rw[<-h'.1];exact hne9.out g n' c' h,
             by rw[O.out.t,txt_step G hgk.out,hf.out.2,hG.out];simp,HB9.out,HE9.out⟩)
          clear O HL9 HR9 hne9 HB9 HE9 hz hzv hzl hzp
          go_wp2_with fail
          go_roundg (G / 10)
          case measure =>exact hq.out
          case rel =>exact⟨_,_,_,_,rfl,O'⟩
        · obtain⟨k,rfl⟩:∃k,gk =k + 1:=⟨gk - 1,by omega⟩
          rw[show((k + 1:Nat):Int) - 1 =(k:Int)by omega]
          obtain⟨e1,hst⟩ :=J.out.1.step (by have:=HN.out;omega) O.out.l.2
          have hyl:=hid (show k < ys.length by have:=J.out.1.1;have:=HN.out;omega)
          have hcell:=J.out.2.1.cell k hyl.out
          have hfree:=J.out.2.1.free k
          rw[e1]at hcell
          have hxl:=O.out.l.2 k
          generalize xs.getD k 0 =x at *
          have hor:bits .or .u64 ((r:Int) * 4294967296) (x:Int)=((r * 4294967296 + x:Nat):Int) :=by
            have h:=u64_or_nat (r * 4294967296) x ze ze
            have h32:(2:Nat) ^ 32 =4294967296:=by decide
            rw[nat_join 32 (r * 4294967296) x (by rw[h32];omega) (by rw[h32];omega)]at h
            rw[<-h];simp
          obtain⟨T,hT⟩:∃T,T =r * 4294967296 + x:=⟨_,rfl⟩
          rw[<-hT]at hst hor
          have hTl:T < 42949672960:=ze
          obtain⟨u,hu⟩:∃u,u =T / 10:=⟨_,rfl⟩
          have hul:u < 4294967296:=ze
          have hu1:=hid (show(T:Int) / 10 =(u:Int)by omega)
          have hm1:=hid (show(T:Int) % 10 =((T % 10:Nat):Int)by omega)
          rw[<-hu]at hst
          have J':=hid (show TxD xs (ys.set k u) k (T % 10)/\Rw (wr.setCell ⟨gl,k,none⟩ (.int .u32 (u:Int))) (w.heap.size + 1) (.slice (some ⟨gl,0,none⟩) n cap) (ys.set k u)/\Upd gl wo (wr.setCell ⟨gl,k,none⟩ (.int .u32 (u:Int)))from
            ⟨hst,J.out.2.1.put k u hyl.out hul,J.out.2.2.trans (Upd.set gl k wr _)⟩)
          clear J hst e1 hT hu
          go_wp2_with fail
          go_roundg k
          case measure =>omega
          case rel =>exact⟨_,_,by rw[hm1.out],rfl,by omega,by rw[hu1.out];exact J'⟩
    · obtain rfl : n =0:=by omega
      have hG0:G =0:=by
        have h1:=O.out.lv
        rw[List.eq_nil_of_length_eq_zero HN.out.symm]at h1
        exact h1.symm
      have hT:=hid (show txt m =D.reverse by have h1:=O.out.t;rw[hG0]at h1;simpa [txt]using h1)
      have HB:=hid O.out.b
      have HE:=hid O.out.e
      have HDl:=hid (show D.length <=5185 by have h1:=congrArg List.length hT.out;have h2:=htl.out;rw[List.length_reverse]at h1;omega)
      obtain⟨ad,cd,rfl,had,_,_⟩ :=O.out.d.shape
      have HD:=hid O.out.d
      rw[qR]at HD ⊢
      clear O hG0
      have F1:=HB.out.c0;have F2:=HB.out.c1;have F3:=HB.out.f0;have F4:=HB.out.f1
      by_cases hD:D = []
      · subst hD
        have hm0:m =0:=by
          have h1:=hT.out
          unfold txt at h1
          split at h1
          ·assumption
          · exfalso
            have h2:=congrArg List.length h1
            rw[Lib.decDigits_length]at h2
            have:=Lib.nDigits_pos m
            simp at h2;omega
        have hdec:=hid (show Lib.decDigits m = [48].reverse by rw[hm0];decide +kernel)
        clear hm0 hT HD had HDl
        go_upto_region 17 with fail
        obtain⟨wt,hwt⟩:∃wt,wt =wo.alloc (.cells #[.int .u8 48] 5) :=⟨_,rfl⟩
        have et:Ext wo wt:=by rw[hwt];exact(Ext.refl wo).alloc _
        have HD1:=hid (show RowOf 5 isU8 wt (w.heap.size + 1) (.slice (some ⟨wo.heap.size,0,none⟩) 1 1) (qY [48])from
          .inr ⟨wo.heap.size,1,#[.int .u8 48],rfl,HB.out.lt,by rw[hwt];exact heap_alloc_new _ _,by simp[qY],by omega,rfl,by simp[qY],λj u hu =>by
            have:=List.mem_of_getElem? (by simpa using hu)
            simp only[List.mem_cons,List.not_mem_nil,or_false]at this
            exact⟨48,this⟩⟩)
        have HB1:=hid (HB.out.ext et)
        have HE1:=hid (HE.out.trans et)
        obtain⟨gd,hgd⟩:∃gd,gd =wo.heap.size:=⟨_,rfl⟩
        rw[<-hgd]at HD1 ⊢
        rw[<-hwt]
        clear hwt et hgd HB HE F1 F2 F3 F4
        have hDL:=hid (show([48]:List UInt8).length =1 from rfl)
        have hLs:=hid (show 1 <=5185 by omega)
        have hLp:=hid (show 0 < 1 by omega)
        have hLb:1 <=5185:=ze
        go_upto_region 18 with fail
        obtain⟨wu,hwu⟩:∃wu,wu =wt.alloc (.cells #[] 5) :=⟨_,rfl⟩
        have eu:Ext wt wu:=by rw[hwu];exact(Ext.refl wt).alloc _
        have Ho:=hid (show RowOf 5 isU8 wu (w.heap.size + 1) (.slice (some ⟨wt.heap.size,0,none⟩) 0 0) (qY [])from
          .inr ⟨wt.heap.size,0,#[],rfl,by have:=HD1.out.ge;omega,by rw[hwu];exact heap_alloc_new _ _,by simp[qY],by omega,rfl,by simp[qY],by simp⟩)
        have HDu:=hid (HD1.out.ext eu)
        have HEu:=hid (HE1.out.trans eu)
        have hgu:=hid HD1.out.ge
        have hwl:=hid (show wt.heap.size < wu.heap.size by rw[hwu];simp)
        have bu:=HB1.out.ext eu
        rw[<-hwu]
        obtain⟨go,hgo⟩:∃go,go =wt.heap.size:=⟨_,rfl⟩
        rw[<-hgo]at Ho hgu hwl ⊢
        clear hwu eu hgo
        have F1:=bu.c0;have F2:=bu.c1;have F3:=bu.f0;have F4:=bu.f1
        cases s1
        · have P0 :=hid (show TxP w gd 1 1 [48] [] 1 (.slice (some ⟨go,0,none⟩) 0 0) (.int .i64 ((1:Int) - 1)) wu from
            ⟨[],rfl,zN _,by rw[List.drop_of_length_le (Nat.le_of_eq hDL.out)];rfl,Ho.out,HDu.out,λg n c' h =>by simp only[Value.slice.injEq,Option.some.injEq,Addr.mk.injEq,and_true]at h;have:=hgu.out;omega,by have:=hgu.out;have:=hwl.out;omega,HEu.out⟩)
          clear Ho HDu HEu bu hgu hwl HB1 HE1 HD1
          go_upto_region 20 with fail
          clear F1 F2 F3 F4
          go_wp2_with fail
          go_loopg [8,9] 1 (λgk v8 v9 wr =>Hid (TxP w gd 1 1 [48] ([]:List UInt8) gk v8 v9 wr))
          case atStart =>exact P0
          case round =>
            clear P0
            obtain⟨Ob,rfl,hgl,hob,hro,hrd,hne,hgd,he⟩ :=hrel.out
            clear hrel
            have HLen:Hid (Ob.length <=5190) :=by
              exact tRText_3
            have hrg:=hid hrd.ge
            rcases zK gk with h0|h0
            · subst h0
              have HT:=hid (text_end (pre:=([]:List UInt8)) yr hdec.out hob)
              exact tRText_1
            · obtain⟨j,rfl⟩:∃j,gk =j + 1:=⟨gk - 1,by omega⟩
              rw[show((j + 1:Nat):Int) - 1 =(j:Int)by omega]
              have hjl:j < ([48]:List UInt8).length:=by have:=hDL.out;omega
              have hcell:=hrd.cell j _ (bcells_get [48] j hjl)
              obtain⟨x,hx⟩:∃x:UInt8,x =([48]:List UInt8)[j] :=⟨_,rfl⟩
              rw[<-hx]at hcell
              have hxl:x.toNat < 256:=x.toNat_lt
              have hnew:=hid (show Ob ++ [x]=([]:List UInt8) ++ (([48]:List UInt8).drop j).reverse by rw[hob,hx,List.drop_eq_getElem_cons hjl,List.reverse_cons,<-List.append_assoc])
              have hjL:(j:Int) < (1:Int) :=ze
              have hjN:j < 1:=ze
              have HS:Hid (w.heap.size + 1 <=wr.heap.size) :=za0
              have Hro:=hid hro
              have Hrd:=hid hrd
              have Hne:=hid hne
              have HE2:=hid he
              have hq:=hid (show j < j + 1 by omega)
              clear hro hrd hne he hob hx hjl
              go_wp2_with (at_builtin;go_must (refine wpl_row_x rfl _ _ 52 5 rfl isU8 (.int .u8 0) 1 zc Tryz.infoU8 rfl ⟨0,rfl⟩ (w.heap.size + 1) _ _ rfl (Hro.out.ext ((Ext.refl _).alloc _)) _ _ (.int .u8 ((x.toNat:Nat):Int)) rfl jw rfl ⟨_,rfl⟩ zz zz jf ?_;intro v9 w9 hr9 hb9 hg9 hn9))
              have ea:=(Ext.refl wr).alloc (.cells #[.int .u8 ((x.toNat:Nat):Int)] 5)
              have hn9':Nb u8 v9 (wr.alloc (.cells #[.int .u8 ((x.toNat:Nat):Int)] 5)) w9:=hn9
              have hsz:=ea.size
              rw[bcells_snoc]at hr9
              have P':=hid (show TxP w gd 1 1 [48] ([]:List UInt8) j v9 (.int .i64 ((j:Int) - 1)) w9 from
                ⟨_,rfl,by omega,hnew.out,hr9,(Hrd.out.ext ea).same (λg n c' h hl =>hn9'.1 g hl (λg2 n2 c2 h2 =>by have h3:=Hne.out g2 n2 c2 h2;simp only[Value.slice.injEq,Option.some.injEq,Addr.mk.injEq,and_true]at h;omega)),λg n c' h =>by
                  rcases hn9'.2.1 g n c' h with⟨n2,c2,h2⟩|h2
                  ·exact Hne.out g n2 c2 h2
                  ·have:=hrg.out;omega,by have:=hrg.out;have:=hn9'.2.2;omega,Below.ext (HE2.out.trans ea) hb9 ze⟩)
              exact tRText_2
        · have HS :Hid (w.heap.size + 1 <=wu.heap.size) :=by have:=hgu.out;have:=hwl.out;exact hid ze
          go_wp2_with (at_builtin;go_must (refine wpl_row_x rfl _ _ 52 5 rfl isU8 (.int .u8 0) 1 zc Tryz.infoU8 rfl ⟨0,rfl⟩ (w.heap.size + 1) _ _ rfl (Ho.out.ext ((Ext.refl _).alloc _)) _ _ (.int .u8 ((45:Nat):Int)) rfl jw rfl ⟨_,rfl⟩ (by simp[qY]) (by simp[qY]) jf ?_;intro v9 w9 hr9 hb9 hg9 hn9))
          have ea:=(Ext.refl wu).alloc (.cells #[.int .u8 45] 5)
          have hn9':Nb (.slice (some ⟨go,0,none⟩) 0 0) v9 (wu.alloc (.cells #[.int .u8 45] 5)) w9:=hn9
          have hsz:=ea.size
          have P0:=hid (show TxP w gd 1 1 [48] [45] 1 v9 (.int .i64 ((1:Int) - 1)) w9 from
            ⟨[45],rfl,zN _,by rw[List.drop_of_length_le (Nat.le_of_eq hDL.out)];rfl,hr9,(HDu.out.ext ea).same (λg n c' h hl =>hn9'.1 g hl (λg2 n2 c2 h2 =>by simp only[Value.slice.injEq,Option.some.injEq,Addr.mk.injEq,and_true]at h h2;have:=hgu.out;omega)),λg n c' h =>by
              rcases hn9'.2.1 g n c' h with⟨n2,c2,h2⟩|h2
              ·simp only[Value.slice.injEq,Option.some.injEq,Addr.mk.injEq,and_true]at h2;have:=hgu.out;omega
              ·have:=hgu.out;have:=hwl.out;omega,by have:=hgu.out;have:=hwl.out;have:=hn9'.2.2;omega,Below.ext (HEu.out.trans ea) hb9 ze⟩)
          clear Ho HDu HEu bu hgu hwl HB1 HE1 HD1 hr9 hb9 hg9 hn9 hn9' ea hsz HS F1 F2 F3 F4
          go_loopg [8,9] 1 (λgk v8 v9 wr =>Hid (TxP w gd 1 1 [48] ([45]:List UInt8) gk v8 v9 wr))
          case atStart =>exact P0
          case round =>
            clear P0
            obtain⟨Ob,rfl,hgl,hob,hro,hrd,hne,hgd,he⟩ :=hrel.out
            clear hrel
            have HLen:Hid (Ob.length <=5190) :=by
              exact tRText_3
            have hrg:=hid hrd.ge
            rcases zK gk with h0|h0
            · subst h0
              have HT:=hid (text_end (pre:=([45]:List UInt8)) yr hdec.out hob)
              exact tRText_1
            · obtain⟨j,rfl⟩:∃j,gk =j + 1:=⟨gk - 1,by omega⟩
              rw[show((j + 1:Nat):Int) - 1 =(j:Int)by omega]
              have hjl:j < ([48]:List UInt8).length:=by have:=hDL.out;omega
              have hcell:=hrd.cell j _ (bcells_get [48] j hjl)
              obtain⟨x,hx⟩:∃x:UInt8,x =([48]:List UInt8)[j] :=⟨_,rfl⟩
              rw[<-hx]at hcell
              have hxl:x.toNat < 256:=x.toNat_lt
              have hnew:=hid (show Ob ++ [x]=([45]:List UInt8) ++ (([48]:List UInt8).drop j).reverse by rw[hob,hx,List.drop_eq_getElem_cons hjl,List.reverse_cons,<-List.append_assoc])
              have hjL:(j:Int) < (1:Int) :=ze
              have hjN:j < 1:=ze
              have HS:Hid (w.heap.size + 1 <=wr.heap.size) :=za0
              have Hro:=hid hro
              have Hrd:=hid hrd
              have Hne:=hid hne
              have HE2:=hid he
              have hq:=hid (show j < j + 1 by omega)
              clear hro hrd hne he hob hx hjl
              go_wp2_with (at_builtin;go_must (refine wpl_row_x rfl _ _ 52 5 rfl isU8 (.int .u8 0) 1 zc Tryz.infoU8 rfl ⟨0,rfl⟩ (w.heap.size + 1) _ _ rfl (Hro.out.ext ((Ext.refl _).alloc _)) _ _ (.int .u8 ((x.toNat:Nat):Int)) rfl jw rfl ⟨_,rfl⟩ zz zz jf ?_;intro v9 w9 hr9 hb9 hg9 hn9))
              have ea:=(Ext.refl wr).alloc (.cells #[.int .u8 ((x.toNat:Nat):Int)] 5)
              have hn9':Nb u8 v9 (wr.alloc (.cells #[.int .u8 ((x.toNat:Nat):Int)] 5)) w9:=hn9
              have hsz:=ea.size
              rw[bcells_snoc]at hr9
              have P':=hid (show TxP w gd 1 1 [48] ([45]:List UInt8) j v9 (.int .i64 ((j:Int) - 1)) w9 from
                ⟨_,rfl,by omega,hnew.out,hr9,(Hrd.out.ext ea).same (λg n c' h hl =>hn9'.1 g hl (λg2 n2 c2 h2 =>by have h3:=Hne.out g2 n2 c2 h2;simp only[Value.slice.injEq,Option.some.injEq,Addr.mk.injEq,and_true]at h;omega)),λg n c' h =>by
                  rcases hn9'.2.1 g n c' h with⟨n2,c2,h2⟩|h2
                  ·exact Hne.out g n2 c2 h2
                  ·have:=hrg.out;omega,by have:=hrg.out;have:=hn9'.2.2;omega,Below.ext (HE2.out.trans ea) hb9 ze⟩)
              exact tRText_2
      · have hdec :=hid (show Lib.decDigits m =D.reverse by
          have h1:=hT.out
          unfold txt at h1
          split at h1
          ·exact absurd (List.reverse_eq_nil_iff.1 h1.symm) hD
          ·exact h1)
        obtain⟨gd,rfl,_,_⟩ :=had (λh =>hD (List.map_eq_nil_iff.1 h))
        obtain⟨L,hL⟩:∃L,L =D.length:=⟨_,rfl⟩
        rw[<-hL]at HD HDl ⊢
        have hDL:=hid hL.symm
        have hLs:=hid HDl.out
        have hLb:L <=5185:=HDl.out
        have hL0:0 < L:=by
          rw[hL];rcases zK D.length with h|h
          ·exact absurd (List.eq_nil_of_length_eq_zero h) hD
          ·exact h
        have hLp:=hid hL0
        have hLn:((L:Int) ==0)=false:=by rw[zJ];omega
        have HD1:=hid HD.out
        have HB1:=hid HB.out
        have HE1:=hid HE.out
        obtain⟨wt,hwt⟩:∃wt,wt =wo:=⟨_,rfl⟩
        subst hwt
        clear hT HD had HDl hL hD HB HE F1 F2 F3 F4
        go_upto_region 17 with fail
        go_upto_region 18 with fail
        obtain⟨wu,hwu⟩:∃wu,wu =wt.alloc (.cells #[] 5) :=⟨_,rfl⟩
        have eu:Ext wt wu:=by rw[hwu];exact(Ext.refl wt).alloc _
        have Ho:=hid (show RowOf 5 isU8 wu (w.heap.size + 1) (.slice (some ⟨wt.heap.size,0,none⟩) 0 0) (qY [])from
          .inr ⟨wt.heap.size,0,#[],rfl,by have:=HD1.out.ge;omega,by rw[hwu];exact heap_alloc_new _ _,by simp[qY],by omega,rfl,by simp[qY],by simp⟩)
        have HDu:=hid (HD1.out.ext eu)
        have HEu:=hid (HE1.out.trans eu)
        have hgu:=hid HD1.out.ge
        have hwl:=hid (show wt.heap.size < wu.heap.size by rw[hwu];simp)
        have bu:=HB1.out.ext eu
        rw[<-hwu]
        obtain⟨go,hgo⟩:∃go,go =wt.heap.size:=⟨_,rfl⟩
        rw[<-hgo]at Ho hgu hwl ⊢
        clear hwu eu hgo
        have F1:=bu.c0;have F2:=bu.c1;have F3:=bu.f0;have F4:=bu.f1
        cases s1
        · have P0 :=hid (show TxP w gd L cd D [] L (.slice (some ⟨go,0,none⟩) 0 0) (.int .i64 ((L:Int) - 1)) wu from
            ⟨[],rfl,zN _,by rw[List.drop_of_length_le (Nat.le_of_eq hDL.out)];rfl,Ho.out,HDu.out,λg n c' h =>by simp only[Value.slice.injEq,Option.some.injEq,Addr.mk.injEq,and_true]at h;have:=hgu.out;omega,by have:=hgu.out;have:=hwl.out;omega,HEu.out⟩)
          clear Ho HDu HEu bu hgu hwl HB1 HE1 HD1
          go_upto_region 20 with fail
          clear F1 F2 F3 F4
          go_wp2_with fail
          go_loopg [8,9] L (λgk v8 v9 wr =>Hid (TxP w gd L cd D ([]:List UInt8) gk v8 v9 wr))
          case atStart =>exact P0
          case round =>
            clear P0
            obtain⟨Ob,rfl,hgl,hob,hro,hrd,hne,hgd,he⟩ :=hrel.out
            clear hrel
            have HLen:Hid (Ob.length <=5190) :=by
              exact tRText_3
            have hrg:=hid hrd.ge
            rcases zK gk with h0|h0
            · subst h0
              have HT:=hid (text_end (pre:=([]:List UInt8)) yr hdec.out hob)
              exact tRText_1
            · obtain⟨j,rfl⟩:∃j,gk =j + 1:=⟨gk - 1,by omega⟩
              rw[show((j + 1:Nat):Int) - 1 =(j:Int)by omega]
              have hjl:j < (D:List UInt8).length:=by have:=hDL.out;omega
              have hcell:=hrd.cell j _ (bcells_get D j hjl)
              obtain⟨x,hx⟩:∃x:UInt8,x =(D:List UInt8)[j] :=⟨_,rfl⟩
              rw[<-hx]at hcell
              have hxl:x.toNat < 256:=x.toNat_lt
              have hnew:=hid (show Ob ++ [x]=([]:List UInt8) ++ ((D:List UInt8).drop j).reverse by rw[hob,hx,List.drop_eq_getElem_cons hjl,List.reverse_cons,<-List.append_assoc])
              have hjL:(j:Int) < (L:Int) :=ze
              have hjN:j < L:=ze
              have HS:Hid (w.heap.size + 1 <=wr.heap.size) :=za0
              have Hro:=hid hro
              have Hrd:=hid hrd
              have Hne:=hid hne
              have HE2:=hid he
              have hq:=hid (show j < j + 1 by omega)
              clear hro hrd hne he hob hx hjl
              go_wp2_with (at_builtin;go_must (refine wpl_row_x rfl _ _ 52 5 rfl isU8 (.int .u8 0) 1 zc Tryz.infoU8 rfl ⟨0,rfl⟩ (w.heap.size + 1) _ _ rfl (Hro.out.ext ((Ext.refl _).alloc _)) _ _ (.int .u8 ((x.toNat:Nat):Int)) rfl jw rfl ⟨_,rfl⟩ zz zz jf ?_;intro v9 w9 hr9 hb9 hg9 hn9))
              have ea:=(Ext.refl wr).alloc (.cells #[.int .u8 ((x.toNat:Nat):Int)] 5)
              have hn9':Nb u8 v9 (wr.alloc (.cells #[.int .u8 ((x.toNat:Nat):Int)] 5)) w9:=hn9
              have hsz:=ea.size
              rw[bcells_snoc]at hr9
              have P':=hid (show TxP w gd L cd D ([]:List UInt8) j v9 (.int .i64 ((j:Int) - 1)) w9 from
                ⟨_,rfl,by omega,hnew.out,hr9,(Hrd.out.ext ea).same (λg n c' h hl =>hn9'.1 g hl (λg2 n2 c2 h2 =>by have h3:=Hne.out g2 n2 c2 h2;simp only[Value.slice.injEq,Option.some.injEq,Addr.mk.injEq,and_true]at h;omega)),λg n c' h =>by
                  rcases hn9'.2.1 g n c' h with⟨n2,c2,h2⟩|h2
                  ·exact Hne.out g n2 c2 h2
                  ·have:=hrg.out;omega,by have:=hrg.out;have:=hn9'.2.2;omega,Below.ext (HE2.out.trans ea) hb9 ze⟩)
              exact tRText_2
        · have HS :Hid (w.heap.size + 1 <=wu.heap.size) :=by have:=hgu.out;have:=hwl.out;exact hid ze
          go_wp2_with (at_builtin;go_must (refine wpl_row_x rfl _ _ 52 5 rfl isU8 (.int .u8 0) 1 zc Tryz.infoU8 rfl ⟨0,rfl⟩ (w.heap.size + 1) _ _ rfl (Ho.out.ext ((Ext.refl _).alloc _)) _ _ (.int .u8 ((45:Nat):Int)) rfl jw rfl ⟨_,rfl⟩ (by simp[qY]) (by simp[qY]) jf ?_;intro v9 w9 hr9 hb9 hg9 hn9))
          have ea:=(Ext.refl wu).alloc (.cells #[.int .u8 45] 5)
          have hn9':Nb (.slice (some ⟨go,0,none⟩) 0 0) v9 (wu.alloc (.cells #[.int .u8 45] 5)) w9:=hn9
          have hsz:=ea.size
          have P0:=hid (show TxP w gd L cd D [45] L v9 (.int .i64 ((L:Int) - 1)) w9 from
            ⟨[45],rfl,zN _,by rw[List.drop_of_length_le (Nat.le_of_eq hDL.out)];rfl,hr9,(HDu.out.ext ea).same (λg n c' h hl =>hn9'.1 g hl (λg2 n2 c2 h2 =>by simp only[Value.slice.injEq,Option.some.injEq,Addr.mk.injEq,and_true]at h h2;have:=hgu.out;omega)),λg n c' h =>by
              rcases hn9'.2.1 g n c' h with⟨n2,c2,h2⟩|h2
              ·simp only[Value.slice.injEq,Option.some.injEq,Addr.mk.injEq,and_true]at h2;have:=hgu.out;omega
              ·have:=hgu.out;have:=hwl.out;omega,by have:=hgu.out;have:=hwl.out;have:=hn9'.2.2;omega,Below.ext (HEu.out.trans ea) hb9 ze⟩)
          clear Ho HDu HEu bu hgu hwl HB1 HE1 HD1 hr9 hb9 hg9 hn9 hn9' ea hsz HS F1 F2 F3 F4
          go_loopg [8,9] L (λgk v8 v9 wr =>Hid (TxP w gd L cd D ([45]:List UInt8) gk v8 v9 wr))
          case atStart =>exact P0
          case round =>
            clear P0
            obtain⟨Ob,rfl,hgl,hob,hro,hrd,hne,hgd,he⟩ :=hrel.out
            clear hrel
            have HLen:Hid (Ob.length <=5190) :=by
              exact tRText_3
            have hrg:=hid hrd.ge
            rcases zK gk with h0|h0
            · subst h0
              have HT:=hid (text_end (pre:=([45]:List UInt8)) yr hdec.out hob)
              exact tRText_1
            · obtain⟨j,rfl⟩:∃j,gk =j + 1:=⟨gk - 1,by omega⟩
              rw[show((j + 1:Nat):Int) - 1 =(j:Int)by omega]
              have hjl:j < (D:List UInt8).length:=by have:=hDL.out;omega
              have hcell:=hrd.cell j _ (bcells_get D j hjl)
              obtain⟨x,hx⟩:∃x:UInt8,x =(D:List UInt8)[j] :=⟨_,rfl⟩
              rw[<-hx]at hcell
              have hxl:x.toNat < 256:=x.toNat_lt
              have hnew:=hid (show Ob ++ [x]=([45]:List UInt8) ++ ((D:List UInt8).drop j).reverse by rw[hob,hx,List.drop_eq_getElem_cons hjl,List.reverse_cons,<-List.append_assoc])
              have hjL:(j:Int) < (L:Int) :=ze
              have hjN:j < L:=ze
              have HS:Hid (w.heap.size + 1 <=wr.heap.size) :=za0
              have Hro:=hid hro
              have Hrd:=hid hrd
              have Hne:=hid hne
              have HE2:=hid he
              have hq:=hid (show j < j + 1 by omega)
              clear hro hrd hne he hob hx hjl
              go_wp2_with (at_builtin;go_must (refine wpl_row_x rfl _ _ 52 5 rfl isU8 (.int .u8 0) 1 zc Tryz.infoU8 rfl ⟨0,rfl⟩ (w.heap.size + 1) _ _ rfl (Hro.out.ext ((Ext.refl _).alloc _)) _ _ (.int .u8 ((x.toNat:Nat):Int)) rfl jw rfl ⟨_,rfl⟩ zz zz jf ?_;intro v9 w9 hr9 hb9 hg9 hn9))
              have ea:=(Ext.refl wr).alloc (.cells #[.int .u8 ((x.toNat:Nat):Int)] 5)
              have hn9':Nb u8 v9 (wr.alloc (.cells #[.int .u8 ((x.toNat:Nat):Int)] 5)) w9:=hn9
              have hsz:=ea.size
              rw[bcells_snoc]at hr9
              have P':=hid (show TxP w gd L cd D ([45]:List UInt8) j v9 (.int .i64 ((j:Int) - 1)) w9 from
                ⟨_,rfl,by omega,hnew.out,hr9,(Hrd.out.ext ea).same (λg n c' h hl =>hn9'.1 g hl (λg2 n2 c2 h2 =>by have h3:=Hne.out g2 n2 c2 h2;simp only[Value.slice.injEq,Option.some.injEq,Addr.mk.injEq,and_true]at h;omega)),λg n c' h =>by
                  rcases hn9'.2.1 g n c' h with⟨n2,c2,h2⟩|h2
                  ·exact Hne.out g n2 c2 h2
                  ·have:=hrg.out;omega,by have:=hrg.out;have:=hn9'.2.2;omega,Below.ext (HE2.out.trans ea) hb9 ze⟩)
              exact tRText_2
end Go.Proofs.YtenhciieboegbaaGreatDoor
