/-
  The row parts: an array of three numbers of 16 bits as an argument.
-/
import Derived.Test.YtenhciieboegbaaGreatDoorNr1
namespace Go.Proofs.YtenhciieboegbaaGreatDoor
open Go Go.RowKit Go.ChangeShapes Go.WideShapes Go.ChangeAt Go.Joins
theorem wf_u16(n:Int)(h:(Lit.int .u16 n).wf=true):0<=n/\n<=65535:=by
  simp only[Lit.wf,Bool.and_eq_true,zS]at h;have h1:IntKind.min .u16=0:=rfl;have h2:IntKind.max .u16=65535:=rfl;rw[h1,h2]at h;exact h
section
variable {H:Type} {enc:TypeId×Value->H}
theorem okWide_arr3w{P:Program}{w:World}{r:Reach}{base:Nat}{t e:TypeId}{n:Nat}{v:Value}(ht:P.underlying t=some (.array n e))(h:Value.okWide P w r base t v):∃cs,v=.agg cs/\cs.size=P.cellsOf t:=by
  simp only[Value.okWide,ht]at h;obtain⟨cs,h1,h2,_⟩:=h;exact⟨cs,h1,h2⟩
set_option maxRecDepth 100000 in
theorem arr3w_arg{W:World}{b0:Nat}{r:Reach}{v:Value}{d:DataW H}{p:List MemPlace}(hv:Value.okWide Tryz.prog W r b0 51 v)(h:DataW.Trod enc Tryz.prog W 0 (λ_=>true) true 51 v d p):
    ∃n0 n1 n2:Nat,v=.agg #[.int .u16 (n0:Int),.int .u16 (n1:Int),.int .u16 (n2:Int)]/\n0<=65535/\n1<=65535/\n2<=65535/\p= []/\∀(W':World) (b:Nat) (sp:Nat->Bool) (held:Bool),DataW.Trod enc Tryz.prog W' b sp held 51 v d []:=by
  have ht:Tryz.prog.underlying 51=some (.array 3 50):=zc
  have hu:Tryz.prog.underlying 50=some (.int .u16):=zc
  have hC:Tryz.prog.cellsOf 51=3:=zc
  have hE:Tryz.prog.cellsOf 50=1:=zc
  have hel:∀(W':World) (b:Nat) (sp:Nat->Bool) (held:Bool) (a:Int),(Lit.int .u16 a).wf=true->DataW.trod enc Tryz.prog W' b sp held 1 50 [.int .u16 a]=some (.lit (.int .u16 a), []):=λW' b sp held a h=>by
    rw[DataW.trod_step];unfold DataW.trodStep;simp[hu,h]
  obtain⟨cs,rfl,hsz⟩:=okWide_arr3w ht hv;obtain⟨fuel,hf⟩:=h;obtain⟨cl⟩:=cs;have hl:cl.length=3:=by rw[hC]at hsz;simpa using hsz
  cases fuel with
  |zero=>simp[DataW.trod]at hf
  | succ m=>
    match cl,hl with
    | [v0,v1,v2],_=>
      rw[DataW.trod_step]at hf;unfold DataW.trodStep at hf;simp only[ht,Value.cells]at hf;rw[if_pos (by rw[hC];rfl)]at hf;simp only[Option.map_eq_some_iff]at hf;obtain⟨ys,hy,e1⟩:=hf;rw[show List.range 3= [0,1,2]from rfl]at hy;simp only[List.mapM_cons,List.mapM_nil,bind,Option.bind_eq_some_iff,pure,Option.some.injEq,hE]at hy;obtain⟨y0,k0,l1,⟨y1,k1,l2,⟨y2,k2,l3,rfl,rfl⟩,rfl⟩,rfl⟩:=hy;obtain⟨a0,e0,rfl,w0⟩:=DataW.trod_int hu k0;obtain⟨a1,e1',rfl,w1⟩:=DataW.trod_int hu k1;obtain⟨a2,e2,rfl,w2⟩:=DataW.trod_int hu k2;obtain rfl:v0=.int .u16 a0:=by simpa using e0
      obtain rfl:v1=.int .u16 a1:=by simpa using e1'
      obtain rfl:v2=.int .u16 a2:=by simpa using e2
      have y0:=wf_u16 _ w0;have y1:=wf_u16 _ w1;have y2:=wf_u16 _ w2;simp only[Prod.mk.injEq]at e1;obtain⟨rfl,rfl⟩:=e1;refine⟨a0.toNat,a1.toNat,a2.toNat,?_,by omega,by omega,by omega,by simp,λW' b sp held=>⟨2,?_⟩⟩
      ·rw[show((a0.toNat:Nat):Int)=a0 by omega,show((a1.toNat:Nat):Int)=a1 by omega,show((a2.toNat:Nat):Int)=a2 by omega]
      · rw[DataW.trod_step]
        unfold DataW.trodStep;simp only[ht,Value.cells];rw[if_pos (by rw[hC];rfl),show List.range 3= [0,1,2]from rfl];simp[hE,hel W' b sp held a0 w0,hel W' b sp held a1 w1,hel W' b sp held a2 w2]
end
end Go.Proofs.YtenhciieboegbaaGreatDoor
