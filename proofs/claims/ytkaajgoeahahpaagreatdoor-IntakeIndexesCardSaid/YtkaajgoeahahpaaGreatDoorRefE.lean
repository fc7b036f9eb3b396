import Derived.Laws.Tables
import Derived.Lib.SliceRun
import Derived.Laws.CopyRow
import Derived.Shelf.Strings.BuilderK
import Derived.Shelf.Strings.Count
import Derived.Shelf.Strings.Repeat
import Derived.Test.YtkaajgoeahahpaaGreatDoorProg
import Derived.Lib.BufferRead
import Derived.Deep.OwnRows
import Derived.Laws.EntriesVeiled
import Derived.Laws.CopyOwn
import Derived.StillTailTactics
import Derived.BigRegion
import Derived.Deep.RegionLaw
import Derived.Test.YtkaajgoeahahpaaGreatDoorK3
import Derived.Test.YtkaajgoeahahpaaGreatDoorK4
set_option linter.all false
set_option maxRecDepth 100000
set_option maxHeartbeats 0
namespace Go.Proofs.YtkaajgoeahahpaaGreatDoor
open Go.Value renaming int→B
open Go.IntKind renaming i64→C
open Go.RowKit _root_.Go.Proofs.Tryz
theorem dN(t s q k ct ts tq lp lc lg lv:Int)(b:ByteArray)(A:Option Addr)(n cc:Nat)(w:World) :
  Calls prog 30 #[.agg #[B C t,B C s,B C q,B C k,.string b,B C ct,.slice A n cc,B C ts,B C tq,B C lp,B C lc,B C lg,B C lv]] w fun e w'=>e=.returned (.agg #[B C s,B C q])/\ab w w':=by
 go_enter func30,ntmps30
 go_wp2_with fail;exact bodyPost_ret (v:=.agg #[B C s,B C q]) (by simp[results,results30,go_sem]) rfl ⟨rfl,((zE _).alloc _).alloc _⟩
end Go.Proofs.YtkaajgoeahahpaaGreatDoor

