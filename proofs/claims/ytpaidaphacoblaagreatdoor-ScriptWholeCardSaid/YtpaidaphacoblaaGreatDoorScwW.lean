import Derived.Maps.Own
import Derived.Maps.AppendAt
import Derived.Shelf.SlSortCmp.NoneTotal
import Derived.DeepKeys4
import Derived.Test.YtpaidaphacoblaaGreatDoorK35
set_option linter.all false
set_option maxRecDepth 100000
set_option maxHeartbeats 0
namespace Go.Proofs.YtpaidaphacoblaaGreatDoor
open Go.RowKit
variable {d f:Int}
theorem QG{s:dl}{L M:List aj}{ld:Int}(h:ki s L)(hM:∀c,c∈M↔c∈L)(hv:j5 d f ld=true) :
  Na s (cQ s (ay M)) d f ld=0/\Ni s (cQ s (ay M)) d f ld=s.xp.map (Mk s (cQ s (ay M)) d f ld):=by
 have hb:gq s (cQ s (ay M))=true:=j7.2 (NU (iL.2 h.ok) sN);refine⟨?_,?_⟩
 ·unfold Na;rw[if_pos hb,if_pos hv]
 ·unfold Ni;rw[if_pos ⟨hb,hv⟩,h.acc hM]
theorem QR{s:dl}{L M:List aj}{ld:Int}(h:ki s L)(hM:∀c,c∈M↔c∈L){k:Nat}{xc xe xv:Int}(hk:s.xp[k]?=some ⟨xc,xe,xv⟩):∃(v:Nat) (q:je) (b:List (List Int)),xv=(v:Int)/\s.pap[v]?=some q/\s.bk[v]?=some b/\(0<=xc/\xc<=9999)/\b.length<=12 /\
  (s.xp.map (Mk s (cQ s (ay M)) d f ld))[k]?=some ⟨s.num*10000+xc,s.num,xc,xe,xv,(List.range b.length).map (fun g:Nat=>100*xc+(g:Int)),Mj s (cQ s (ay M)) d f ld ⟨xc,xe,xv⟩⟩ /\
  (Mj s (cQ s (ay M)) d f ld ⟨xc,xe,xv⟩).length=q.ps.length:=by
 have hx:=zW hk;have hb:=rL h.ok hx;obtain⟨q,b,h1,h2,h3,-⟩:=rT h.ok hb.2.2.1 hb.2.2.2.1;obtain⟨v,hv⟩:=zG hb.2.2.1;simp only at hv;subst hv;rw[yC]at h1 h2;have hn:F9 s (v:Int)=b.length:=uo (by rw[yC];exact h2);refine⟨v,q,b,rfl,h1,h2,⟨hb.1,hb.2.1⟩,(mR h3).2,?_,?_⟩
 ·rw[zP,hk];have hc:=h.cont hM hx;simp only[hn]at hc;simp only[Option.map_some,Mk,hn,hc]
 ·unfold Mj;simp only[yC,h1,h2];simp
theorem OU{l:Int}(h:3<=d/\d<=8/\1<=f/\f<=d/\1<=l/\l<=4):j5 d f l=true:=by unfold j5;exact decide_eq_true (by omega)
end Go.Proofs.YtpaidaphacoblaaGreatDoor

