import Derived.Test.YtjgfgdcaocbfhaaGreatH14
set_option linter.all false
set_option maxRecDepth 100000
set_option maxHeartbeats 0
namespace Go.Proofs.YtjgfgdcaocbfhaaGreat
open Go.Value renaming int→A
open Go.IntKind renaming i64→B
open Go.RowKit _root_.Go.Proofs.Tryz
theorem lZ(p:Nat)(x n:Int)(w:World)(h:bt w p)(hx:aC x)(hn:0≤n)(hn':n≤1000000000) :
  Calls prog 37 #[.pointer (some ⟨p,0,none⟩),A B x,A B n] w (fX p w fun v _=>∃y,v=A B y∧aC y∧(n=0→y=x)):=by
 have H:=zZ h;have HX0:=zZ hx;clear h hx;by_cases h0:n<1
 ·go_enter func37,ntmps37
  go_wp2
  go_ret
  exact⟨_,rfl,⟨x,rfl,HX0.out,fun _=>rfl⟩,H.out,XT.refl _ _⟩
 ·have h1:0<n:=by omega
  clear h0;go_enter func37,ntmps37
  go_wp2_with (go_at_call 31;refine (dR _ _ _ H.out (by omega) (by omega)).mono ?_;rintro e w1 ⟨v1,rfl,⟨b,rfl⟩,HT,HX⟩;cases b)
  ·go_wp2_with fail;go_ret
   exact⟨_,rfl,⟨x,rfl,HX0.out,fun _=>rfl⟩,HT,HX⟩
  ·go_wp2_with (go_at_call 75;refine (oJ _ _ HT).mono ?_;rintro e w2 ⟨v2,rfl,⟨y,rfl,hy⟩,HT2,HX2⟩);go_ret
   exact⟨_,rfl,⟨y,rfl,hy,fun h=>absurd h (by omega)⟩,HT2,HX.trans HX2⟩
def Iy(n:Int)(v:Value):Prop:=∃d f l,v=.agg #[A B d,A B f,A B l]∧aC d∧aC f∧aC l∧(n=0→3≤d∧d≤8∧1≤f∧f≤d∧1≤l∧l≤4)
theorem kg(p:Nat)(n:Int)(w:World)(h:bt w p)(hn:0≤n)(hn':n≤1000000000) :
  Calls prog 14 #[.pointer (some ⟨p,0,none⟩),A B n] w (fX p w fun v _=>Iy n v):=by
 have hlt:=h.lt;have HT0:=zZ (h.ext ((zE _).alloc (.cells #[A B 0,A B 0,A B 0] 46)));clear h;go_enter func14,ntmps14
 go_wp2_with fail;refine (am p _ _ _ HT0.out (by omega) (by omega) (by omega) (by omega)).mono ?_;rintro e w1 ⟨v1,rfl,⟨d,rfl,hd1,hd2⟩,HT1,HX1⟩;go_wp2_with fail;refine (lZ p _ _ _ HT1 ⟨by omega,by omega⟩ hn hn').mono ?_;rintro e w2 ⟨v2,rfl,⟨d',rfl,hd',hdd⟩,HT2,HX2⟩;have HDD:=zZ hdd;clear hdd;go_wp2_with fail;refine (am p _ _ _ HT2 (by omega) (by omega) (by omega) (by omega)).mono ?_;rintro e w3 ⟨v3,rfl,⟨f,rfl,hf1,hf2⟩,HT3,HX3⟩;go_wp2_with fail;refine (lZ p _ _ _ HT3 ⟨by omega,by omega⟩ hn hn').mono ?_;rintro e w4 ⟨v4,rfl,⟨f',rfl,hf',hff⟩,HT4,HX4⟩;have HFF:=zZ hff;clear hff;go_wp2_with fail;refine (am p _ _ _ HT4 (by omega) (by omega) (by omega) (by omega)).mono ?_;rintro e w5 ⟨v5,rfl,⟨l,rfl,hl1,hl2⟩,HT5,HX5⟩;go_wp2_with fail;refine (lZ p _ _ _ HT5 ⟨by omega,by omega⟩ hn hn').mono ?_;rintro e w6 ⟨v6,rfl,⟨l',rfl,hl',hll⟩,HT6,HX6⟩;have HLL:=zZ hll;clear hll;have HX:=zZ (((((HX1.trans HX2).trans HX3).trans HX4).trans HX5).trans HX6);have hbk:=HX.out.blk (heap_alloc_new w _) (show w.heap.size≠p by omega);have c0:=ak hbk (i:=0) rfl;have c1:=ak hbk (i:=1) rfl;have c2:=ak hbk (i:=2) rfl;have f0:=ax hbk 0;have f1:=ax hbk 1;have f2:=ax hbk 2;have HBK:=zZ hbk;clear hbk;go_wp2_with fail;refine bodyPost_ret (v:=.agg #[A B d',A B f',A B l']) (by simp[results,results14,go_sem,c0,c1,c2]) rfl ⟨_,rfl,⟨d',f',l',rfl,hd',hf',hl',fun h=>?_⟩,?_,?_⟩
 ·have:=HDD.out h;have:=HFF.out h;have:=HLL.out h;omega
 ·exact ((HT6.setNew hlt _).setNew hlt _).setNew hlt _
 ·exact (((((XT.refl _ _).alloc _).trans HX.out).setNew (zX _) _).setNew (zX _) _).setNew (zX _) _
def uP(b:UInt8)(how:Int):UInt8:=if how=1 then 63 else if b=48 then 49 else 48
def qk(l:List UInt8)(k:Int)(how:Int):List UInt8:=if 0≤k∧k<l.length then l.set k.toNat (uP (l.getD k.toNat 0) how) else l
theorem DO(l:List UInt8)(k how:Int):(qk l k how).length=l.length:=by unfold qk;split<;>simp
theorem FT{l:List UInt8}{k:Nat}{x:UInt8}(how:Int)(h:l[k]?=some x):qk l (k:Int) how=l.take k++[uP x how]++l.drop (k+1):=by have hk:=(zY.1 h).1;unfold qk;rw[if_pos (by omega),yR,yD,h,Option.getD_some,List.set_eq_take_append_cons_drop,if_pos hk];simp
theorem uR{l:List UInt8}{k:Int}(how:Int)(h:¬(0≤k∧k<l.length)):qk l k how=l:=by unfold qk;rw[if_neg h]
theorem sd{s:ByteArray}{k:Nat}(hk:k<s.size)(b:UInt8):bl (s.extract 0 k++⟨#[b]⟩++s.extract (k+1) s.size)=(bl s).take k++[b]++(bl s).drop (k+1):=by rw[mc,mc,uv,lu];rfl
theorem wu(s:ByteArray)(at_ how:Int)(w:World)(hs:s.size≤1000000) :
  Calls prog 118 #[.string s,A B at_,A B how] w fun e w'=>∃t,e=.returned (.string t)∧bl t=qk (bl s) at_ how∧ab w w':=by
 by_cases h0:0≤at_
 ·obtain⟨k,rfl⟩:=zG h0;clear h0;by_cases hk:k<s.size
  ·have HC:Bx (qk (bl s) (k:Int) how=(bl s).take k++[uP s[k] how]++(bl s).drop (k+1)):=⟨FT how (qK hk)⟩
   have e1:IntKind.i64.wrap ((k:Int)+1)=(k:Int)+1:=yQ _ (by omega);have e2:((k:Int)+1).toNat=k+1:=by omega
   have s1:(s.extract 0 k).size≤1000000:=by rw[←aU,uv,zF,aU];omega
   have s2:(s.extract (k+1) s.size).size≤1000000:=by rw[←aU,lu,xS,aU];omega
   have d1:decide ((k:Int)<0)=false:=by simp
   have d2:decide ((s.size:Int)≤(k:Int))=false:=by simp;omega
   have d3:(0:Int)≤(k:Int)+1:=by omega
   have d4:(k:Int)+1≤(s.size:Int):=by omega
   by_cases hh:how=1
   ·subst hh;have HB:Bx (uP s[k] 1=63):=⟨rfl⟩
    by_cases h48:(s[k].toNat:Int)=48
    ·go_enter func118,ntmps118
     go_wp2_with fail;go_quiet (fail)
     go_wp2_with fail;go_ret
     exact⟨_,rfl,by rw[sd hk,HC.out,HB.out],(zE _).drewN _⟩
    ·go_enter func118,ntmps118
     go_wp2_with fail;go_quiet (fail)
     go_wp2_with fail;go_ret
     exact⟨_,rfl,by rw[sd hk,HC.out,HB.out],(zE _).drewN _⟩
   ·have q1:(how==1)=false:=beq_eq_false_iff_ne.2 hh;by_cases h48:(s[k].toNat:Int)=48
    ·have HB:Bx (uP s[k] how=49):=⟨by unfold uP;rw[if_neg hh,if_pos (UInt8.toNat_inj.1 (show s[k].toNat=(48:UInt8).toNat by simp;omega))]⟩
     clear hh;go_enter func118,ntmps118
     go_wp2_with fail;go_quiet (fail)
     go_wp2_with fail;go_ret
     exact⟨_,rfl,by rw[sd hk,HC.out,HB.out],(zE _).drewN _⟩
    ·have HB:Bx (uP s[k] how=48):=⟨by unfold uP;rw[if_neg hh,if_neg (fun e=>h48 (by rw[e];rfl))]⟩
     clear hh;go_enter func118,ntmps118
     go_wp2_with fail;go_quiet (fail)
     go_wp2_with fail;go_ret
     exact⟨_,rfl,by rw[sd hk,HC.out,HB.out],(zE _).drewN _⟩
  ·have HC:Bx (qk (bl s) (k:Int) how=bl s):=⟨uR how (by rw[aU];omega)⟩
   have d1:decide ((k:Int)<0)=false:=by simp
   have d2:decide ((s.size:Int)≤(k:Int))=true:=by simp;omega
   go_enter func118,ntmps118
   go_wp2_with fail;go_ret
   exact⟨_,rfl,HC.out.symm,zE _⟩
 ·have HC:Bx (qk (bl s) at_ how=bl s):=⟨uR how (by rw[aU];omega)⟩
  have d1:decide (at_<0)=true:=by simp;omega
  go_enter func118,ntmps118
  go_wp2_with fail;go_ret
  exact⟨_,rfl,HC.out.symm,zE _⟩
theorem ym(p:Nat)(s:ByteArray)(most:Int)(w:World)(h:bt w p)(hs:s.size≤1000)(hm:0≤most)(hm':most≤1000) :
  Calls prog 94 #[.pointer (some ⟨p,0,none⟩),.string s,A B most] w (fX p w fun v _=>∃t,v=.string t∧t.size≤s.size∧s.size≤t.size):=by
 have H:Bx (bt w p):=⟨h⟩
 clear h;go_enter func94,ntmps94
 go_wp2_with fail;refine (am p _ _ _ H.out (by omega) (by omega) (by omega) (by omega)).mono ?_;rintro e w1 ⟨v1,rfl,⟨r,rfl,hr1,hr2⟩,HT1,HX1⟩;obtain⟨r,rfl⟩:=zG hr1;have HB1:Bx (bt w1 p∧XT p w w1):=⟨⟨HT1,HX1⟩⟩
 clear HT1 HX1;go_wp2_with fail;go_loopw [1,7] (fun v i wr=>∃(k:Nat) (t:ByteArray),i=A B k∧k≤r∧v=.string t∧t.size≤s.size∧s.size≤t.size∧Bx (bt wr p∧XT p w wr)) (fun _ i _=>(intOf i).toNat)
 case atStart=>exact⟨r,s,rfl,zX _,rfl,zX _,zX _,HB1⟩
 case round =>
  obtain⟨k,t,rfl,hk,rfl,ht1,ht2,HB⟩:=hrel;clear HB1;by_cases hk0:0<k
  ·go_wp2_with fail;refine (au p _ _ HB.out.1 (by omega)).mono ?_;rintro e w2 ⟨v2,rfl,⟨a,rfl,ha1,ha2⟩,HT2,HX2⟩;go_wp2_with fail;refine (au p 2 _ HT2 (by omega)).mono ?_;rintro e w3 ⟨v3,rfl,⟨b,rfl,hb1,hb2⟩,HT3,HX3⟩;go_wp2_with fail;refine (wu t a b _ (by omega)).mono ?_;rintro e w4 ⟨t4,rfl,ht4,hx4⟩;have hz:t4.size=t.size:=by rw[←aU,ht4,DO,aU]
   have hz1:t4.size≤s.size:=by omega
   have hz2:s.size≤t4.size:=by omega
   have HB4:Bx (bt w4 p∧XT p w w4):=⟨⟨HT3.ext hx4,((HB.out.2.trans HX2).trans HX3).ext hx4⟩⟩
   clear hz ht4 hx4 HT3 HX3 HT2 HX2 HB;go_wp2_with fail;go_roundw
   case rel=>exact⟨k-1,t4,by congr;omega,by omega,rfl,hz1,hz2,HB4⟩
   case measure=>simp[intOf];omega
  ·obtain rfl:k=0:=by omega
   go_wp2_with fail;go_ret
   exact⟨_,rfl,⟨t,rfl,ht1,ht2⟩,HB.out.1,HB.out.2⟩
end Go.Proofs.YtjgfgdcaocbfhaaGreat

