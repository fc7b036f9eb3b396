import Derived.Test.YtjgfgdcaocbfhaaGreatH0
import Derived.Deep.Matrix
import Derived.ProofKit
import Derived.OpenShut
import Derived.ShutString
set_option linter.all false
set_option maxRecDepth 100000
set_option maxHeartbeats 0
namespace Go.Proofs.YtjgfgdcaocbfhaaGreat
open Go.ChangeShapes Go.WideShapes Go.ChangeAt Go.RowKit
variable {v:Value}
section
variable {H:Type} {enc:TypeId×Value→H} {P:Program} {W:World} {sp:Nat→Bool} {held:Bool} {r:Reach} {b0:Nat}
theorem mH{x:Int}(h:(Lit.int .i64 x).wf=true):aC x:=by simp[Lit.wf,IntKind.min,IntKind.max,IntKind.signed,IntKind.bits]at h;exact⟨by omega,by omega⟩
theorem tT{t:TypeId}{d:DataW H}{p:List MemPlace}(hu:P.underlying t=some (.int .i64))(hv:Value.okWide P W r b0 t v)(h:DataW.Trod enc P W 0 sp held t v d p):∃x,v=.int .i64 x∧aC x:=by obtain⟨x,hx,_,_,wx⟩:=open_int hu hv h;exact⟨x,hx,mH wx⟩
theorem fP{t e:TypeId}{d:DataW H}{p:List MemPlace}(q:Nat)(hq:W.heap.size≤q)(hu:P.underlying t=some (.slice e))(he:P.underlying e=some (.int .i64))(hc:P.cellsOf e=1)(hv:Value.okWide P W r b0 t v)(h:DataW.Trod enc P W 0 sp held t v d p):∃l,ao q W v l:=by
 obtain⟨a,len,cap,rfl⟩:=okWide_slice hu hv;obtain⟨fuel,hf⟩:=h;rcases open_ints hu he hc hf with ⟨hcs,_⟩|⟨x,l,c,zs,hcs,_,hl,hm,hz,_,hcell,hwz⟩
 ·simp[Value.cells]at hcs;obtain⟨rfl,rfl,rfl⟩:=hcs;exact⟨[],ao.nil _ _⟩
 ·simp[Value.cells]at hcs;obtain⟨rfl,rfl,rfl⟩:=hcs;have hlen:len≤zs.length:=by rw[hz];split<;>omega
  have hm':cap≤9223372036854775807:=hm;have hlk:(zs.take len).length=len:=by rw[zF];omega
  refine⟨zs.take len,some x,cap,by rw[hlk],by omega,hm',by omega,fun y hy=>mH (hwz y (wQ hy)),fun k y hy=>?_⟩;have hk:=(zY.1 hy).1;have hcx:=hcell k (by omega);have hc0:=hcell 0 (by omega);have hy':zs.getD k 0=y:=by rw[yB,if_pos (by omega)]at hy;simp[List.getD,hy]
  rw[hy']at hcx;obtain⟨xb,xo,xs⟩:=x;have hs:xs=none:=by
   have h0:(⟨xb,xo,xs⟩:Addr).add 0=⟨xb,xo,xs⟩:=rfl;rw[h0]at hc0;unfold World.cell? at hc0;cases xs with
   |none=>rfl
   |some s=>split at hc0<;>simp at hc0
  subst hs;rw[ik]at hcx;have:=bZ hcx;exact⟨xb,xo,rfl,by simp at this;omega,hcx⟩
theorem FK{b o:Nat}{s:Option Nat}(h:W.cell? ⟨b,o,s⟩=some v):s=none:=by
 unfold World.cell? at h;cases s with
 |none=>rfl
 |some s=>split at h<;>simp at h
end
end Go.Proofs.YtjgfgdcaocbfhaaGreat

