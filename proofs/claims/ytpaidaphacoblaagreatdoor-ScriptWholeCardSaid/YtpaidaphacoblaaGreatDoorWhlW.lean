import Derived.Maps.Own
import Derived.Maps.AppendAt
import Derived.Shelf.SlSortCmp.NoneTotal
import Derived.DeepKeys4
import Derived.Test.YtpaidaphacoblaaGreatDoorK25
set_option linter.all false
set_option maxRecDepth 100000
set_option maxHeartbeats 0
namespace Go.Proofs.YtpaidaphacoblaaGreatDoor
open Go.RowKit
theorem C3{s:dl}{L M:List aj}(h:ki s L)(hM:∀c,c∈M↔c∈L):(cQ s (ay M)).sts.length=L.length/\(cQ s (ay M)).pgs.length=L.length/\(∀x∈(cQ s (ay M)).sts,x.state=1) /\
  ∀q∈(cQ s (ay M)).pgs,(0<=q.cand/\q.cand<=9999)/\(0<=q.page/\q.page<32)/\q.cont=100*q.cand+q.page:=by
 have hc:=h.clean (M:=M) fun c hc=>(hM c).1 hc;refine⟨hc.len.1.trans (h.len hM),hc.len.2.trans (h.len hM),fun x hx=>?_,fun q hq=>?_⟩
 ·obtain⟨c,-,rfl⟩:=hc.mem_sts.1 hx;rfl
 ·obtain⟨c,hm,rfl⟩:=hc.mem_pgs.1 hq;have hcL:=(hM c).1 ((h.mem (M:=M) fun c hc=>(hM c).1 hc).1 hm);obtain⟨i,l,-,hl,hw,-⟩:=h.at_ hcL;have h2:=(h.labR hl hw).2;have h3:=ju.1 (Br h.ok (zW hl));simp only[h2];exact⟨⟨h3.2.2.2.1,h3.2.2.2.2⟩,h3.2.1,hw.cont⟩
end Go.Proofs.YtpaidaphacoblaaGreatDoor

