import Derived.Test.YtpaidaphacoblaaGreatDoorK0
set_option linter.all false
set_option maxRecDepth 100000
set_option maxHeartbeats 0
namespace Go.Proofs.YtpaidaphacoblaaGreatDoor
open Go.Value renaming int→A
open Go.IntKind renaming i64→B
open Go.RowKit _root_.Go.Proofs.Tryz
theorem ML(p:Nat)(x n:Int)(w:World)(h:bz w p)(hx:aU x)(hn:0<=n)(hn':n<=1000000000) :
  Calls prog 47 #[.pointer (some ⟨p,0,none⟩),A B x,A B n] w (iN p w fun v _=>∃y,v=A B y/\aU y/\(n=0->y=x)):=by
 have H:=zZ h;have HX0:=zZ hx;clear h hx;by_cases h0:n<1
 ·go_enter func47,ntmps47
  go_wp2
  go_ret
  exact⟨_,rfl,⟨x,rfl,HX0.out,fun _=>rfl⟩,H.out,XT.refl _ _⟩
 ·have h1:0<n:=by omega
  clear h0;go_enter func47,ntmps47
  go_wp2_with (go_at_call 24;refine (fe _ _ _ H.out (by omega) (by omega)).mono ?_;rintro e w1 ⟨v1,rfl,⟨b,rfl⟩,HT,HX⟩;cases b)
  ·go_wp2_with fail;go_ret
   exact⟨_,rfl,⟨x,rfl,HX0.out,fun _=>rfl⟩,HT,HX⟩
  ·go_wp2_with (go_at_call 86;refine (AU _ _ HT).mono ?_;rintro e w2 ⟨v2,rfl,⟨y,rfl,hy⟩,HT2,HX2⟩);go_ret
   exact⟨_,rfl,⟨y,rfl,hy,fun h=>absurd h (by omega)⟩,HT2,HX.trans HX2⟩
def Rl(n:Int)(v:Value):Prop:=∃d f l,v=.agg #[A B d,A B f,A B l]/\aU d/\aU f/\aU l/\(n=0->3<=d/\d<=8/\1<=f/\f<=d/\1<=l/\l<=4)
theorem Mx(p:Nat)(n:Int)(w:World)(h:bz w p)(hn:0<=n)(hn':n<=1000000000) :
  Calls prog 12 #[.pointer (some ⟨p,0,none⟩),A B n] w (iN p w fun v _=>Rl n v):=by
 have hlt:=h.lt;have HT0:=zZ (h.ext ((zE _).alloc (.cells #[A B 0,A B 0,A B 0] 53)));clear h;go_enter func12,ntmps12
 go_wp2_with fail;refine (az p _ _ _ HT0.out (by omega) (by omega) (by omega) (by omega)).mono ?_;rintro e w1 ⟨v1,rfl,⟨d,rfl,hd1,hd2⟩,HT1,HX1⟩;go_wp2_with fail;refine (ML p _ _ _ HT1 ⟨by omega,by omega⟩ hn hn').mono ?_;rintro e w2 ⟨v2,rfl,⟨d',rfl,hd',hdd⟩,HT2,HX2⟩;have HDD:=zZ hdd;clear hdd;go_wp2_with fail;refine (az p _ _ _ HT2 (by omega) (by omega) (by omega) (by omega)).mono ?_;rintro e w3 ⟨v3,rfl,⟨f,rfl,hf1,hf2⟩,HT3,HX3⟩;go_wp2_with fail;refine (ML p _ _ _ HT3 ⟨by omega,by omega⟩ hn hn').mono ?_;rintro e w4 ⟨v4,rfl,⟨f',rfl,hf',hff⟩,HT4,HX4⟩;have HFF:=zZ hff;clear hff;go_wp2_with fail;refine (az p _ _ _ HT4 (by omega) (by omega) (by omega) (by omega)).mono ?_;rintro e w5 ⟨v5,rfl,⟨l,rfl,hl1,hl2⟩,HT5,HX5⟩;go_wp2_with fail;refine (ML p _ _ _ HT5 ⟨by omega,by omega⟩ hn hn').mono ?_;rintro e w6 ⟨v6,rfl,⟨l',rfl,hl',hll⟩,HT6,HX6⟩;have HLL:=zZ hll;clear hll;have HX:=zZ (((((HX1.trans HX2).trans HX3).trans HX4).trans HX5).trans HX6);have hbk:=HX.out.blk (heap_alloc_new w _) (show w.heap.size≠p by omega);have c0:=ac hbk (i:=0) rfl;have c1:=ac hbk (i:=1) rfl;have c2:=ac hbk (i:=2) rfl;have f0:=ae hbk 0;have f1:=ae hbk 1;have f2:=ae hbk 2;have HBK:=zZ hbk;clear hbk;go_wp2_with fail;refine bodyPost_ret (v:=.agg #[A B d',A B f',A B l']) (by simp[results,results12,go_sem,c0,c1,c2]) rfl ⟨_,rfl,⟨d',f',l',rfl,hd',hf',hl',fun h=>?_⟩,?_,?_⟩
 ·have:=HDD.out h;have:=HFF.out h;have:=HLL.out h;omega
 ·exact ((HT6.setNew hlt _).setNew hlt _).setNew hlt _
 ·exact (((((XT.refl _ _).alloc _).trans HX.out).setNew (zX _) _).setNew (zX _) _).setNew (zX _) _
end Go.Proofs.YtpaidaphacoblaaGreatDoor

