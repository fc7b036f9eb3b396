import Derived.Laws.EntriesVeiled
import Derived.Laws.CopyOwn
import Derived.StillTailTactics
import Derived.BigRegion
import Derived.Test.YtkaajgoeahahpaaGreatDoorK19
set_option linter.all false
set_option maxRecDepth 100000
set_option maxHeartbeats 0
namespace Go.Proofs.YtkaajgoeahahpaaGreatDoor
open Go.RowKit
section
variable {p:Nat} {w w' wx:World} {v:Value} {s:dl} {t:r6} {L:BL}
theorem aR.op(h:aR p w v s):∃(AP:Option Addr) (nP cP:Nat) (AB:Option Addr) (nB cB:Nat) (AX:Option Addr) (nX cX:Nat),v=.agg #[.int .i64 s.num,.slice AP nP cP,.slice AB nB cB,.slice AX nX cX]:=by obtain⟨vP,vB,vX,rfl,hP,hB,hX,-⟩:=h;obtain⟨AP,nP,cP,rfl,-⟩:=hP.open_;obtain⟨AB,nB,cB,rfl,-⟩:=hB.open_;obtain⟨AX,nX,cX,rfl,-⟩:=hX.open_;exact⟨_,_,_,_,_,_,_,_,_,rfl⟩
theorem aK.op(h:aK p w v t):∃(AS:Option Addr) (cS:Nat) (AG:Option Addr) (cG:Nat),v=.agg #[.slice AS t.sts.length cS,.slice AG t.pgs.length cG]:=by obtain⟨vS,vG,rfl,hS,hG⟩:=h;obtain⟨AS,nS,cS,rfl,-⟩:=hS.open_;obtain⟨AG,nG,cG,rfl,-⟩:=hG.open_;rw[hS.len,hG.len];exact⟨_,_,_,_,rfl⟩
structure LF (p:Nat) (w wx:World) (L:BL):Prop where
 fr:Fr p w wx L
 tb0:cK w
 p2:2<=p
theorem LF.tb(h:LF p w wx L):cK wx:=h.tb0.xt h.fr.xt h.p2
theorem LF.start(h:bz w p)(ht:cK w)(hp:2<=p):LF p w w []:=⟨Fr.start h,ht,hp⟩
theorem LF.step(h:LF p w wx L)(hx:XT p wx w')(ht:bz w' p):LF p w w' L:=⟨h.fr.step hx ht,h.tb0,h.p2⟩
theorem LF.ext(h:LF p w wx L)(hx:ab wx w'):LF p w w' L:=⟨h.fr.ext hx,h.tb0,h.p2⟩
theorem LF.push(h:LF p w wx L)(cs:Array Value)(t:TypeId){n:Nat}(hn:wx.heap.size=n):LF p w (wx.alloc (.cells cs t)) (L++[(n,cs,t)]):=⟨h.fr.push cs t hn,h.tb0,h.p2⟩
theorem LF.set{b:Nat}{cs:Array Value}{t:TypeId}(h:LF p w wx L)(k:Nat)(hk:L[k]?=some (b,cs,t))(i:Nat)(u:Value):LF p w (wx.setCell ⟨b,i,none⟩ u) (L.set k (b,cs.setIfInBounds i u,t)):=⟨h.fr.set k hk i u,h.tb0,h.p2⟩
theorem LF.grown(h:LF p w wx L){row:Option Nat}(hg:wx.grownBy w' row)(hr:∀(k:Nat) x,L[k]?=some x->row≠some x.1)(hb:∀k,row=some k->w.heap.size<=k):LF p w w' L:=⟨h.fr.grown hg hr hb,h.tb0,h.p2⟩
theorem LF.at_{b:Nat}{cs:Array Value}{t:TypeId}(h:LF p w wx L)(k:Nat)(hk:L[k]?=some (b,cs,t)):Bk wx b cs t:=h.fr.at_ k hk
theorem LF.take(h:LF p w wx L)(n:Nat):LF p w wx (L.take n):=⟨h.fr.take n,h.tb0,h.p2⟩
theorem LF.lt(h:LF p w wx L):p<wx.heap.size:=h.fr.lt
theorem LF.fin{w0:World}(h:LF w0.heap.size w wx L)(he:ab w0 w):ab w0 wx:=h.fr.xt.fresh he (zX _)
end
theorem Kw{a b c d:Value}(h:Value.agg #[a,b]=.agg #[c,d]):a=c/\b=d:=by injection h with h;injection h with h;injection h with h1 h2;injection h2 with h2;exact⟨h1,h2⟩
end Go.Proofs.YtkaajgoeahahpaaGreatDoor

