import Derived.Test.YtkaajgoeahahpaaGreatDoorK43
import Derived.Test.YtkaajgoeahahpaaGreatDoorInlW
set_option linter.all false
set_option maxRecDepth 100000
set_option maxHeartbeats 0
namespace Go.Proofs.YtkaajgoeahahpaaGreatDoor
open Go.Value renaming int→A
open Go.IntKind renaming i64→B
open Go.RowKit _root_.Go.Proofs.Tryz
theorem bM{o:Oper}{ev:Operand->Value}{x y:Operand}{w:World}{g:Nat}{cs:Array Value}{a0 a1 a2 a3 a5 a9 b0 b1 b2 b3 b4:Int}{a4:List UInt8}{a6:Option Addr}{a7 a8:Nat}(ho:o.op=.store 47 x y)(hx:ev x=.pointer (some ⟨g,0,none⟩))(hy:ev y=.agg #[A B a0,A B a1,A B a2,A B a3,.string (ba a4),A B a5,.slice a6 a7 a8,A B a9,A B b0,A B b1,A B b2,A B b3,A B b4])(hb:Bk w g cs 47)(hs:cs.size=13) :
  (execOp ev o).run prog w=.ok .skip (be w g 0 [A B a0,A B a1,A B a2,A B a3,.string (ba a4),A B a5,.slice a6 a7 a8,A B a9,A B b0,A B b1,A B b2,A B b3,A B b4]):=by
 have j0:=hb.cell (i:=0) (xG (by omega));have j1:=hb.cell (i:=1) (xG (by omega));have j2:=hb.cell (i:=2) (xG (by omega));have j3:=hb.cell (i:=3) (xG (by omega));have j4:=hb.cell (i:=4) (xG (by omega));have j5:=hb.cell (i:=5) (xG (by omega));have j6:=hb.cell (i:=6) (xG (by omega));have j7:=hb.cell (i:=7) (xG (by omega));have j8:=hb.cell (i:=8) (xG (by omega));have j9:=hb.cell (i:=9) (xG (by omega));have k0:=hb.cell (i:=10) (xG (by omega));have k1:=hb.cell (i:=11) (xG (by omega));have k2:=hb.cell (i:=12) (xG (by omega));have z0:=(hb).froz;have z1:=z0;have z2:=z0;have z3:=z0;have z4:=z0;have z5:=z0;have z6:=z0;have z7:=z0;have z8:=z0;have z9:=z0;have z10:=z0;have z11:=z0;have z12:=z0;unfold execOp;rw[ho];simp only[hx,hy];go_simp;rfl
theorem aD{P:Program}{ops:Array Oper}{o:Oper}{a:Act}{w w':World}{K:Act->World->Prop}{Q:Exit->Act->World->Prop}{E:Prop}(hgd:o.guard=none)(h:(execOp a.eval o).run P w=.ok .skip w')(hk:K (a.put o.dst undef) w') :
  if Region.wanted o (yielded ops a.tmps)=true then Oper.wp P o a w K Q else E:=by
 have hw:Region.wanted o (yielded ops a.tmps)=true:=by simp[Region.wanted,hgd]
 rw[if_pos hw];unfold Oper.wp;rw[h];exact hk
end Go.Proofs.YtkaajgoeahahpaaGreatDoor

