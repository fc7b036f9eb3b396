import Derived.Deep.Matrix
import Derived.ProofKit
import Derived.OpenShut
import Derived.ShutString
import Derived.LaidMore
import Derived.Test.YtpaidaphacoblaaGreatDoorK10
set_option linter.all false
set_option maxRecDepth 100000
set_option maxHeartbeats 0
namespace Go.Proofs.YtpaidaphacoblaaGreatDoor
open Go.Value renaming int→A
open Go.IntKind renaming i64→B
open Go.ChangeShapes Go.WideShapes Go.ChangeAt Go.RowKit
variable {t:TypeId}
section
variable {H:Type} {enc:TypeId×Value->H} {P:Program} {W:World} {sp:Nat->Bool} {held:Bool} {r:Reach} {b0:Nat}
theorem oO{x:Int}(h:(Lit.int .i64 x).wf=true):aU x:=by simp[Lit.wf,IntKind.min,IntKind.max,IntKind.signed,IntKind.bits]at h;exact⟨by omega,by omega⟩
theorem fm{v:Value}{d:DataW H}{p:List MemPlace}(hu:P.underlying t=some (.int .i64))(hv:Value.okWide P W r b0 t v)(h:DataW.Trod enc P W 0 sp held t v d p):∃x,v=A B x/\aU x:=by obtain⟨x,hx,_,_,wx⟩:=open_int hu hv h;exact⟨x,hx,oO wx⟩
theorem cE{e:TypeId}{v:Value}{d:DataW H}{p:List MemPlace}(q:Nat)(hq:W.heap.size<=q)(hu:P.underlying t=some (.slice e))(he:P.underlying e=some (.int .i64))(hc:P.cellsOf e=1)(hv:Value.okWide P W r b0 t v)(h:DataW.Trod enc P W 0 sp held t v d p):∃l,ak q W v l:=by
 obtain⟨a,len,cap,rfl⟩:=okWide_slice hu hv;obtain⟨fuel,hf⟩:=h;rcases open_ints hu he hc hf with ⟨hcs,_⟩|⟨x,l,c,zs,hcs,_,hl,hm,hz,_,hcell,hwz⟩
 ·simp[Value.cells]at hcs;obtain⟨rfl,rfl,rfl⟩:=hcs;exact⟨[],ak.nil _ _⟩
 ·simp[Value.cells]at hcs;obtain⟨rfl,rfl,rfl⟩:=hcs;have hlen:len<=zs.length:=by rw[hz];split<;>omega
  have hm':cap<=9223372036854775807:=hm;have hlk:(zs.take len).length=len:=by rw[yW];omega
  refine⟨zs.take len,some x,cap,by rw[hlk],by omega,hm',by omega,fun y hy=>oO (hwz y (uI hy)),fun k y hy=>?_⟩;have hk:=(zY.1 hy).1;have hcx:=hcell k (by omega);have hc0:=hcell 0 (by omega);have hy':zs.getD k 0=y:=by rw[yB,if_pos (by omega)]at hy;simp[List.getD,hy]
  rw[hy']at hcx;obtain⟨xb,xo,xs⟩:=x;have hs:xs=none:=by
   have h0:(⟨xb,xo,xs⟩:Addr).add 0=⟨xb,xo,xs⟩:=rfl;rw[h0]at hc0;unfold World.cell? at hc0;cases xs with
   |none=>rfl
   |some s=>split at hc0<;>simp at hc0
  subst hs;rw[fa]at hcx;have:=bK hcx;exact⟨xb,xo,rfl,by simp at this;omega,hcx⟩
end
def bQ : List (String × DataW Unit) := [("awardingbody/rscode.powers", Rows.laid_awardingbody_rscode_powers), ("awardingbody/rscode.logs", Rows.laid_awardingbody_rscode_logs)]
theorem Ls : Tryz.prog.globalNamed "awardingbody/rscode.powers" = some 0 := by kernel_rfl
theorem LC : Tryz.prog.globalNamed "awardingbody/rscode.logs" = some 1 := by kernel_rfl
theorem Lu:(Tryz.prog.globals[0]?).map (·.type)=some 232:=by kernel_rfl
theorem Lv:(Tryz.prog.globals[1]?).map (·.type)=some 261:=by kernel_rfl
theorem LK:Tryz.prog.underlying 232=some (.array 31 3):=by kernel_rfl
theorem LH:Tryz.prog.underlying 261=some (.array 32 3):=by kernel_rfl
theorem pI{H:Type}{enc:TypeId×Value->H}{W:World}{b0:Nat}{sp:Nat->Bool}{held:Bool}{fuel n:Nat}{cs:List Value}{ns:List Nat}{ps:List MemPlace}(hu:Tryz.prog.underlying t=some (.array n 3))(h:DataW.trod enc Tryz.prog W b0 sp held fuel t cs=some (.agg (ns.map fun (k:Nat)=>.lit (.int .i64 (k:Int))),ps)) :
  ∀k,k<n->cs[k]?=some (.int .i64 ((ns.getD k 0:Nat):Int)):=by
 obtain⟨xs,m,rfl,hx,hlen,hn,hel⟩:=DataW.trod_array hu h;have c1:Tryz.prog.cellsOf 3=1:=by kernel_rfl
 simp only[Prod.mk.injEq,DataW.agg.injEq]at hx;intro k hk;have h1:=hel k hk;rw[c1,wH]at h1;obtain⟨x,hxk⟩:∃x,xs[k]?=some x:=⟨_,zV (by omega)⟩
 rw[hxk]at h1;obtain⟨z,e1,e2,_⟩:=DataW.trod_int Tryz.underlying3 h1;have h2:(ns.map fun (k:Nat)=>DataW.lit (H:=H) (.int .i64 (k:Int)))[k]?=some x.1:=by rw[hx.1,zP,hxk];rfl
 rw[zP,yO]at h2;obtain⟨nn,h3,h4⟩:=h2;rw[e2]at h4;simp only[DataW.lit.injEq,Lit.int.injEq,true_and]at h4;have:(cs.drop k)[0]?=some (.int .i64 z):=by
  have h5:((cs.drop k).take 1)[0]?=some (.int .i64 z):=by rw[e1];rfl
  rw[yB,if_pos (by omega)]at h5;exact h5
 rw[vR,yQ]at this;rw[this,xU,h3,<-h4];rfl
theorem cY{W:World}(h:laidMetH Tryz.prog bQ W):cK W:=by rw[MakeChecks.laidMetH_plain _ _ _ (by kernel_rfl)]at h;obtain⟨ps,⟨g0,t0,cs0,f0,p0,q0,hg0,ht0,hv0,hd0,⟨g1,t1,cs1,f1,p1,q1,hg1,ht1,hv1,hd1,_,_⟩,_⟩,_,_⟩:=h;obtain rfl:=xF (Ls.symm.trans hg0);obtain rfl:=xF (LC.symm.trans hg1);obtain rfl:=xF (Lu.symm.trans ht0);obtain rfl:=xF (Lv.symm.trans ht1);have e0:(Rows.laid_awardingbody_rscode_powers:DataW Unit)=.agg (tC.map fun (k:Nat)=>.lit (.int .i64 (k:Int))):=rfl;have e1:(Rows.laid_awardingbody_rscode_logs:DataW Unit)=.agg (tc.map fun (k:Nat)=>.lit (.int .i64 (k:Int))):=rfl;rw[e0]at hd0;rw[e1]at hd1;exact⟨fun k hk=>by rw[World.var?_cell hg0 hv0 k,<-Array.getElem?_toList];exact pI LK hd0 k hk,fun k hk=>by rw[World.var?_cell hg1 hv1 k,<-Array.getElem?_toList];exact pI LH hd1 k hk⟩
theorem fA(os:Os)(args:Array Value):laidMetH Tryz.prog bQ ((World.doorLaid Tryz.prog 19 os).forCall (fun _ _=>0) ⟨#[],args,[]⟩).memory :=
 laidMetH_of_parts3 (fuel:=8) (laidMet_of_run' 8 (by kernel_rfl) (by kernel_rfl)) (by kernel_rfl) (by kernel_rfl)
end Go.Proofs.YtpaidaphacoblaaGreatDoor

