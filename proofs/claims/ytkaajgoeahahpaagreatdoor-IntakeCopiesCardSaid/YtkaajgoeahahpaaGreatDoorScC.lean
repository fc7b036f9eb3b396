import Derived.Deep.OwnRows
import Derived.Laws.EntriesVeiled
import Derived.Laws.CopyOwn
import Derived.StillTailTactics
import Derived.BigRegion
import Derived.Lib.SlicesCompact
import Derived.Laws.Shifts
import Derived.Test.YtkaajgoeahahpaaGreatDoorK17
set_option linter.all false
set_option maxRecDepth 100000
set_option maxHeartbeats 0
namespace Go.Proofs.YtkaajgoeahahpaaGreatDoor
open Go.Value renaming int→B
open Go.IntKind renaming i64→C
open Go.RowKit
theorem rA.read{p b off n c k:Nat}{w wx:World}{l:List dF}(h:rA p w (.slice (some ⟨b,off,none⟩) n c) l)(hx:ab w wx)(hk:k<n) :
  ∃xs xq xt xa xb xc xd:Int,Hid (l[k]?=some ⟨⟨xs,xq⟩,xt,⟨xa,xb,xc,xd⟩⟩)/\dF.wf ⟨⟨xs,xq⟩,xt,⟨xa,xb,xc,xd⟩⟩/\wx.cell? ⟨b,off+k*7,none⟩=some (B C xs)/\wx.cell? ⟨b,off+k*7+1,none⟩=some (B C xq)/\wx.cell? ⟨b,off+k*7+2,none⟩=some (B C xt)/\wx.cell? ⟨b,off+k*7+3,none⟩=some (B C xa)/\wx.cell? ⟨b,off+k*7+4,none⟩=some (B C xb)/\wx.cell? ⟨b,off+k*7+5,none⟩=some (B C xc)/\wx.cell? ⟨b,off+k*7+6,none⟩=some (B C xd):=by
 obtain⟨cs,⟨⟨xs,xq⟩,xt,⟨xa,xb,xc,xd⟩⟩,-,hc0,⟨hcs,hw⟩,HX⟩:=(h.ext (cU.stab p) hx).cell_ hk;subst hcs;exact⟨xs,xq,xt,xa,xb,xc,xd,HX,hw,hc0 0 _ rfl,hc0 1 _ rfl,hc0 2 _ rfl,hc0 3 _ rfl,hc0 4 _ rfl,hc0 5 _ rfl,hc0 6 _ rfl⟩
theorem Ce.read{p b off n c k:Nat}{w wx:World}{l:List Pg}(h:Ce p w (.slice (some ⟨b,off,none⟩) n c) l)(hx:ab w wx)(hk:k<n) :
  ∃(xc xg xt xs xq:Int) (xch:List Int) (A:Option Addr) (m cc:Nat),Hid (l[k]?=some ⟨xc,xg,xt,xch,⟨xs,xq⟩⟩)/\Pg.wf ⟨xc,xg,xt,xch,⟨xs,xq⟩⟩/\ak p wx (.slice A m cc) xch/\wx.cell? ⟨b,off+k*6,none⟩=some (B C xc)/\wx.cell? ⟨b,off+k*6+1,none⟩=some (B C xg)/\wx.cell? ⟨b,off+k*6+2,none⟩=some (B C xt)/\wx.cell? ⟨b,off+k*6+3,none⟩=some (.slice A m cc)/\wx.cell? ⟨b,off+k*6+4,none⟩=some (B C xs)/\wx.cell? ⟨b,off+k*6+5,none⟩=some (B C xq):=by
 obtain⟨cs,⟨xc,xg,xt,xch,⟨xs,xq⟩⟩,-,hc0,⟨u,hcs,hI,hw⟩,HX⟩:=(h.ext (lO.stab p) hx).cell_ hk;obtain⟨A,m,cc,rfl,-⟩:=hI.open_;subst hcs;exact⟨xc,xg,xt,xs,xq,xch,A,m,cc,HX,hw,hI,hc0 0 _ rfl,hc0 1 _ rfl,hc0 2 _ rfl,hc0 3 _ rfl,hc0 4 _ rfl,hc0 5 _ rfl⟩
end Go.Proofs.YtkaajgoeahahpaaGreatDoor

