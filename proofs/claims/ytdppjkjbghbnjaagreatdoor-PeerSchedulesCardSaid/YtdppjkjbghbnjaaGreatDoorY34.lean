import Derived.Lib.SmallJoins
import Derived.OpenShut
set_option maxHeartbeats 4000000
set_option maxRecDepth 100000
set_option linter.all false
namespace Go.Proofs.YtdppjkjbghbnjaaGreatDoor
open Go.ChangeShapes Go.WideShapes Go.ChangeAt Go.Joins
theorem rK{H:Type}{enc:TypeId × Value -> H}{P:Program}{w:World}{base:Nat}{spare:Nat -> Bool}{held:Bool}{r:Reach}{b0:Nat}{t e:TypeId}{v:Value}{d:DataW H}{p:List MemPlace}(hs:P.underlying t=some (.array 2 e))(hC:P.cellsOf t=2)(hce:P.cellsOf e=1)
  (hv:Value.okWide P w r b0 t v) (h:DataW.Trod enc P w base spare held t v d p) :
  ∃ (v0 v1:Value) (y0 y1:DataW H × List MemPlace) (n:Nat),v=.agg #[v0,v1] /\ d=.agg [y0.1,y1.1] /\ p=y0.2++y1.2 /\
   DataW.trod enc P w base spare held n e [v0]=some y0 /\ DataW.trod enc P w base spare held n e [v1]=some y1:=by
 simp only[Value.okWide,hs] at hv;obtain⟨cs,rfl,S4,_⟩:=hv;rw[hC] at S4;obtain⟨l⟩:=cs
 match l,S4 with
 | [c0,c1],_ =>
  obtain⟨fuel,hf⟩:=h;obtain⟨xs,m,rfl,hx,_,hlen,hi⟩:=DataW.trod_array hs hf
  match xs,hlen with
  | [y0,y1],_ =>
   simp only[Prod.mk.injEq] at hx;have i0:=hi 0 (by decide);have i1:=hi 1 (by decide);simp only[hce,Value.cells] at i0 i1;exact⟨c0,c1,y0,y1,m,rfl,by simpa using hx.1,by simpa using hx.2,by simpa using i0,by simpa using i1⟩
end Go.Proofs.YtdppjkjbghbnjaaGreatDoor
