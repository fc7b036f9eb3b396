import Derived.Test.YtjgfgdcaocbfhaaGreatGf
import Derived.Laws.BitsAllLaws
import Derived.Laws.Tables
import Derived.Test.YtjgfgdcaocbfhaaGreatH4
set_option linter.all false
set_option maxRecDepth 100000
set_option maxHeartbeats 0
namespace Go.Proofs.YtjgfgdcaocbfhaaGreat
open Go.Value renaming int→A
open Go.IntKind renaming i64→B
open Go.RowKit
def lX(a:Int):Bool:=decide (0≤a)&&decide (a<32)
def mj(a b:Int):Int:=if lX a&&lX b then (qm a.toNat b.toNat:Int) else 0
def Ce(a:Int):Int:=if lX a&&decide (a≠0) then ((Df.getD ((31-Hq.getD a.toNat 0)%31) 0:Nat):Int) else 0
def Ds(n:Int):Int:=((Df.getD (n%31).toNat 0:Nat):Int)
theorem nj(a b:Nat)(ha:a<32)(hb:b<32):mj a b=(qm a b:Int):=by unfold mj lX;rw[if_pos (by simp;omega)];simp
open _root_.Go.Proofs.Tryz
theorem dD(a:Int)(w:World)(h1:-9223372036854775808≤a)(h2:a≤9223372036854775807) :
  Calls prog 116 #[A B a] w fun e w'=>e=.returned (.bool (lX a))∧w=w':=by
 by_cases c1:0≤a
 ·by_cases c2:a<32
  ·go_enter func116,ntmps116
   go_wp2
   go_ret
   exact⟨aa (by simp[lX,c1,c2]),rfl⟩
  ·go_enter func116,ntmps116
   go_wp2
   go_ret
   exact⟨aa (by simp[lX,c1,c2]),rfl⟩
 ·go_enter func116,ntmps116
  go_wp2
  go_ret
  exact⟨aa (by unfold lX;rw[decide_eq_false (by omega)];rfl),rfl⟩
def r1(a b:Nat):Nat→Nat
 |0=>0
 |k+1=>if b/2 ^ k%2=1 then r1 a b k ^^^ (a*2 ^ k) else r1 a b k
def r2(o:Nat):Nat→Nat
 |0=>o
 |m+1=>if r2 o m/2 ^ (8-m)%2=1 then r2 o m ^^^ (37*2 ^ (3-m)) else r2 o m
theorem Hz:∀(a b:Fin 32) (k:Fin 6),r1 a.val b.val k.val<512:=by decide +kernel
theorem Ig:∀(o:Fin 512) (k:Fin 5),r2 o.val k.val<512:=by decide +kernel
theorem IJ:∀(a b:Fin 32),r2 (r1 a.val b.val 5) 4=qm a.val b.val:=by decide +kernel
theorem kZ(n:Nat)(h:n<9223372036854775808):IntKind.i64.wrap (n:Int)=(n:Int):=yQ _ (by omega)
theorem qX(x:Nat)(h:x<9223372036854775808):bits .and .i64 (x:Int) 1=((x%2:Nat):Int):=by
 have e:(BitVec.ofInt 64 (x:Int)).toNat=x:=by rw[BitVec.toNat_ofInt];omega
 show IntKind.i64.wrap ((BitVec.ofInt 64 (x:Int) &&& BitVec.ofInt 64 1).toNat:Int)=_
 rw[BitVec.toNat_and,e];have:(BitVec.ofInt 64 1).toNat=1:=by decide
 rw[this,Nat.and_one_is_mod];exact kZ _ (by omega)
theorem tZ(x y:Nat)(h:x<4294967296)(h':y<4294967296):bits .xor .i64 (x:Int) (y:Int)=((x ^^^ y:Nat):Int):=by
 have e:∀z:Nat,z<4294967296→(BitVec.ofInt 64 (z:Int)).toNat=z:=fun z hz=>by rw[BitVec.toNat_ofInt];omega
 show IntKind.i64.wrap ((BitVec.ofInt 64 (x:Int) ^^^ BitVec.ofInt 64 (y:Int)).toNat:Int)=_
 rw[BitVec.toNat_xor,e x h,e y h'];have:=Nat.xor_lt_two_pow (n:=32) h h';exact kZ _ (by omega)
theorem lE(b d:Nat)(z:Int)(hz:z=((b/d:Nat):Int))(hb:b<1024)(h:(bits .and .i64 z 1==1)=true):b/d%2=1:=by have:=Nat.div_le_self b d;rw[hz,qX _ (by omega),beq_iff_eq]at h;omega
theorem lx(b d:Nat)(z:Int)(hz:z=((b/d:Nat):Int))(hb:b<1024)(h:(bits .and .i64 z 1==1)=false):¬b/d%2=1:=by have:=Nat.div_le_self b d;rw[hz,qX _ (by omega)]at h;intro e;rw[e]at h;cases h
theorem lI(x y:Nat)(z:Int)(hz:z=(y:Int))(h:x<4294967296)(h':y<4294967296):bits .xor .i64 (x:Int) z=((x ^^^ y:Nat):Int):=by rw[hz];exact tZ x y h h'
theorem Bz(a b:Nat)(w:World)(ha:a<32)(hb:b<32) :
  Calls prog 143 #[A B (a:Int),A B (b:Int)] w fun e w'=>e=.returned (A B (mj a b))∧w'=w:=by
 have ca:lX (a:Int)=true:=by simp[lX];omega
 have cb:lX (b:Int)=true:=by simp[lX];omega
 have H1:=zZ (fun k (hk:k<6)=>Hz ⟨a,ha⟩ ⟨b,hb⟩ ⟨k,hk⟩);simp only at H1;go_enter func143,ntmps143
 go_wp2_with fail;refine (dD (a:Int) _ (by omega) (by omega)).mono ?_;rintro e w1 ⟨rfl,rfl⟩;rw[ca];go_wp2_with fail;refine (dD (b:Int) _ (by omega) (by omega)).mono ?_;rintro e w1 ⟨rfl,rfl⟩;rw[cb];go_wp2_with fail;go_loopw [5,6] (fun o i wr=>∃(k y:Nat),k≤5∧i=A B k∧o=A B y∧y<512∧Hid (y=r1 a b k)∧wr=w) (fun _ i _=>5-(intOf i).toNat)
 case atStart=>exact⟨0,0,by omega,rfl,rfl,by omega,rfl,rfl⟩
 case round =>
  obtain⟨k,y,hk,rfl,rfl,hy,HY,rfl⟩:=hrel;have h6:k=0∨k=1∨k=2∨k=3∨k=4∨k=5:=by omega
  rcases h6 with rfl|rfl|rfl|rfl|rfl|rfl
  ·go_wp2_with fail
   ·rename_i h
    have hc:=lE b 1 _ (by omega) (by omega) h;have e:r1 a b 1=y ^^^ (a*1):=by rw[HY.out];show (if _ then _ else _)=_;rw[if_pos hc]
    exact⟨⟨1,r1 a b 1,by omega,rfl,congrArg (Value.int .i64) (by rw[e];exact lI _ _ _ (by omega) (by omega) (by omega)),H1.out 1 (by omega),rfl,trivial⟩,by decide⟩
   ·rename_i h
    have hc:=lx b 1 _ (by omega) (by omega) h;have e:r1 a b 1=y:=by rw[HY.out];show (if _ then _ else _)=_;rw[if_neg hc]
    exact⟨⟨1,r1 a b 1,by omega,rfl,congrArg (Value.int .i64) (by rw[e]),H1.out 1 (by omega),rfl,trivial⟩,by decide⟩
  ·go_wp2_with fail
   ·rename_i h
    have hc:=lE b 2 _ (by omega) (by omega) h;have e:r1 a b 2=y ^^^ (a*2):=by rw[HY.out];show (if _ then _ else _)=_;rw[if_pos hc]
    exact⟨⟨2,r1 a b 2,by omega,rfl,congrArg (Value.int .i64) (by rw[e];exact lI _ _ _ (by omega) (by omega) (by omega)),H1.out 2 (by omega),rfl,trivial⟩,by decide⟩
   ·rename_i h
    have hc:=lx b 2 _ (by omega) (by omega) h;have e:r1 a b 2=y:=by rw[HY.out];show (if _ then _ else _)=_;rw[if_neg hc]
    exact⟨⟨2,r1 a b 2,by omega,rfl,congrArg (Value.int .i64) (by rw[e]),H1.out 2 (by omega),rfl,trivial⟩,by decide⟩
  ·go_wp2_with fail
   ·rename_i h
    have hc:=lE b 4 _ (by omega) (by omega) h;have e:r1 a b 3=y ^^^ (a*4):=by rw[HY.out];show (if _ then _ else _)=_;rw[if_pos hc]
    exact⟨⟨3,r1 a b 3,by omega,rfl,congrArg (Value.int .i64) (by rw[e];exact lI _ _ _ (by omega) (by omega) (by omega)),H1.out 3 (by omega),rfl,trivial⟩,by decide⟩
   ·rename_i h
    have hc:=lx b 4 _ (by omega) (by omega) h;have e:r1 a b 3=y:=by rw[HY.out];show (if _ then _ else _)=_;rw[if_neg hc]
    exact⟨⟨3,r1 a b 3,by omega,rfl,congrArg (Value.int .i64) (by rw[e]),H1.out 3 (by omega),rfl,trivial⟩,by decide⟩
  ·go_wp2_with fail
   ·rename_i h
    have hc:=lE b 8 _ (by omega) (by omega) h;have e:r1 a b 4=y ^^^ (a*8):=by rw[HY.out];show (if _ then _ else _)=_;rw[if_pos hc]
    exact⟨⟨4,r1 a b 4,by omega,rfl,congrArg (Value.int .i64) (by rw[e];exact lI _ _ _ (by omega) (by omega) (by omega)),H1.out 4 (by omega),rfl,trivial⟩,by decide⟩
   ·rename_i h
    have hc:=lx b 8 _ (by omega) (by omega) h;have e:r1 a b 4=y:=by rw[HY.out];show (if _ then _ else _)=_;rw[if_neg hc]
    exact⟨⟨4,r1 a b 4,by omega,rfl,congrArg (Value.int .i64) (by rw[e]),H1.out 4 (by omega),rfl,trivial⟩,by decide⟩
  ·go_wp2_with fail
   ·rename_i h
    have hc:=lE b 16 _ (by omega) (by omega) h;have e:r1 a b 5=y ^^^ (a*16):=by rw[HY.out];show (if _ then _ else _)=_;rw[if_pos hc]
    exact⟨⟨5,r1 a b 5,by omega,rfl,congrArg (Value.int .i64) (by rw[e];exact lI _ _ _ (by omega) (by omega) (by omega)),H1.out 5 (by omega),rfl,trivial⟩,by decide⟩
   ·rename_i h
    have hc:=lx b 16 _ (by omega) (by omega) h;have e:r1 a b 5=y:=by rw[HY.out];show (if _ then _ else _)=_;rw[if_neg hc]
    exact⟨⟨5,r1 a b 5,by omega,rfl,congrArg (Value.int .i64) (by rw[e]),H1.out 5 (by omega),rfl,trivial⟩,by decide⟩
  ·have HX:=HY;generalize hx:y=x at HX;have hx5:x<512:=by omega
   have H2:=zZ (fun k (hk:k<5)=>Ig ⟨x,hx5⟩ ⟨k,hk⟩);simp only at H2;subst hx;obtain⟨x,hx⟩:=nm y;rw[←hx]at H2 HX;have HXY:=zZ hx;clear hx HY hx5 hk;go_wp2_with fail;go_loopw [5,7] (fun o i wr'=>∃(m y:Nat),m≤4∧i=A B (8-(m:Int))∧o=A B y∧y<512∧Hid (y=r2 x m)∧wr'=wr) (fun _ i _=>(intOf i).toNat)
   case atStart=>exact⟨0,y,by omega,rfl,rfl,by omega,HXY.out.symm,rfl⟩
   case round =>
    clear hy HXY;obtain⟨m,y,hk,rfl,rfl,hy,HY,rfl⟩:=hrel;have h6:m=0∨m=1∨m=2∨m=3∨m=4:=by omega
    rcases h6 with rfl|rfl|rfl|rfl|rfl
    ·go_wp2_with fail
     ·rename_i h
      have hc:=lE y 256 _ (by omega) (by omega) h;have e:r2 x 1=y ^^^ 296:=by rw[HY.out]at hc⊢;show (if _ then _ else _)=_;rw[if_pos hc]
      exact⟨⟨1,r2 x 1,by omega,rfl,congrArg (Value.int .i64) (by rw[e];exact lI _ _ _ (by omega) (by omega) (by omega)),H2.out 1 (by omega),rfl,trivial⟩,by decide⟩
     ·rename_i h
      have hc:=lx y 256 _ (by omega) (by omega) h;have e:r2 x 1=y:=by rw[HY.out]at hc⊢;show (if _ then _ else _)=_;rw[if_neg hc]
      exact⟨⟨1,r2 x 1,by omega,rfl,congrArg (Value.int .i64) (by rw[e]),H2.out 1 (by omega),rfl,trivial⟩,by decide⟩
    ·go_wp2_with fail
     ·rename_i h
      have hc:=lE y 128 _ (by omega) (by omega) h;have e:r2 x 2=y ^^^ 148:=by rw[HY.out]at hc⊢;show (if _ then _ else _)=_;rw[if_pos hc]
      exact⟨⟨2,r2 x 2,by omega,rfl,congrArg (Value.int .i64) (by rw[e];exact lI _ _ _ (by omega) (by omega) (by omega)),H2.out 2 (by omega),rfl,trivial⟩,by decide⟩
     ·rename_i h
      have hc:=lx y 128 _ (by omega) (by omega) h;have e:r2 x 2=y:=by rw[HY.out]at hc⊢;show (if _ then _ else _)=_;rw[if_neg hc]
      exact⟨⟨2,r2 x 2,by omega,rfl,congrArg (Value.int .i64) (by rw[e]),H2.out 2 (by omega),rfl,trivial⟩,by decide⟩
    ·go_wp2_with fail
     ·rename_i h
      have hc:=lE y 64 _ (by omega) (by omega) h;have e:r2 x 3=y ^^^ 74:=by rw[HY.out]at hc⊢;show (if _ then _ else _)=_;rw[if_pos hc]
      exact⟨⟨3,r2 x 3,by omega,rfl,congrArg (Value.int .i64) (by rw[e];exact lI _ _ _ (by omega) (by omega) (by omega)),H2.out 3 (by omega),rfl,trivial⟩,by decide⟩
     ·rename_i h
      have hc:=lx y 64 _ (by omega) (by omega) h;have e:r2 x 3=y:=by rw[HY.out]at hc⊢;show (if _ then _ else _)=_;rw[if_neg hc]
      exact⟨⟨3,r2 x 3,by omega,rfl,congrArg (Value.int .i64) (by rw[e]),H2.out 3 (by omega),rfl,trivial⟩,by decide⟩
    ·go_wp2_with fail
     ·rename_i h
      have hc:=lE y 32 _ (by omega) (by omega) h;have e:r2 x 4=y ^^^ 37:=by rw[HY.out]at hc⊢;show (if _ then _ else _)=_;rw[if_pos hc]
      exact⟨⟨4,r2 x 4,by omega,rfl,congrArg (Value.int .i64) (by rw[e];exact lI _ _ _ (by omega) (by omega) (by omega)),H2.out 4 (by omega),rfl,trivial⟩,by decide⟩
     ·rename_i h
      have hc:=lx y 32 _ (by omega) (by omega) h;have e:r2 x 4=y:=by rw[HY.out]at hc⊢;show (if _ then _ else _)=_;rw[if_neg hc]
      exact⟨⟨4,r2 x 4,by omega,rfl,congrArg (Value.int .i64) (by rw[e]),H2.out 4 (by omega),rfl,trivial⟩,by decide⟩
    ·go_wp2_with fail;go_ret
     exact⟨ah (by rw[HY.out,HX.out,IJ ⟨a,ha⟩ ⟨b,hb⟩,nj a b ha hb]),rfl⟩
theorem tc(a b:Int)(w:World)(h1:-9223372036854775808≤a)(h2:a≤9223372036854775807)(h3:-9223372036854775808≤b)(h4:b≤9223372036854775807) :
  Calls prog 143 #[A B a,A B b] w fun e w'=>e=.returned (A B (mj a b))∧w'=w:=by
 rcases yF (lX a) with ca|ca
 ·rcases yF (lX b) with cb|cb
  ·unfold lX at ca cb;simp only[yY,decide_eq_true_eq]at ca cb;obtain⟨x,rfl⟩:=zG ca.1;obtain⟨y,rfl⟩:=zG cb.1;exact Bz x y w (by omega) (by omega)
  ·have HZ:Hid (mj a b=0):=by show _=_;unfold mj;rw[cb];simp
   go_enter func143,ntmps143
   go_wp2_with fail;refine (dD a _ (by omega) (by omega)).mono ?_;rintro e w1 ⟨rfl,rfl⟩;rw[ca];go_wp2_with fail;refine (dD b _ (by omega) (by omega)).mono ?_;rintro e w1 ⟨rfl,rfl⟩;rw[cb];go_wp2_with fail;go_ret
   exact⟨ah HZ.out.symm,rfl⟩
 ·have HZ:Hid (mj a b=0):=by show _=_;unfold mj;rw[ca];simp
  go_enter func143,ntmps143
  go_wp2_with (go_at_call 116;refine (dD a _ (by omega) (by omega)).mono ?_;rintro e w1 ⟨rfl,rfl⟩;rw[ca]);go_ret
  exact⟨ah HZ.out.symm,rfl⟩
theorem la{P:Program}{ops:Array Oper}{rest:List Oper}{o:Oper}{a:Act}{w:World}{Q:Exit→Act→World→Prop}(hg:o.guard=none)(t:TypeId)(parts:Array (Nat×Operand))(ho:o.op=.build t parts)(cells:Array Value)(hb:P.built t (parts.map fun (i,x)=>(i,a.eval x)).toList=some cells)(h:wpList P ops Q rest (a.put o.dst (.agg cells)) w):wpList P ops Q (o::rest) a w :=
 wpList_build hg t parts ho (by rw[hb];rfl) (by rw[hb];exact h)
theorem Cb{P:Program}(w:World)(t:TypeId)(z cells:Array Value)(ho:z.size=cells.size)(h1:cells.all (·.oneCell')=true) :
  ∃W,(storeCells ⟨w.heap.size,0,none⟩ cells.toList).run P (w.alloc (.cells z t))=.ok () W∧W.heap[w.heap.size]?=some (.cells cells t (0,0))∧ab w W:=by
 have hg:(w.alloc (.cells z t)).heap[w.heap.size]?=some (.cells z t (0,0)):=heap_alloc_new w _;have hs:=run_storeCells_from (P:=P) w.heap.size t cells.toList 0 z (w.alloc (.cells z t)) hg (by simp;omega) (fun v hv=>(Array.all_eq_true_iff_forall_mem.1 h1) v (by simpa using hv));have e:(z.toList.take 0++cells.toList).toArray=cells:=by simp
 rw[e]at hs;refine⟨_,hs,setRow_heap _ _ _ _ _ _ hg,?_⟩;have h:=(zE w).alloc (.cells z t);exact⟨h.os,h.tape,h.output,by simp,fun k hk=>by rw[setRow_other _ _ _ _ (by omega)];exact h.block k hk⟩
theorem DG:∀(a b:Fin 32),qm a.val b.val=1→((b.val:Nat):Int)=Ce (a.val:Int):=by decide +kernel
theorem GX:∀(a:Fin 32),(∀b:Fin 32,qm a.val b.val≠1)→Ce (a.val:Int)=0:=by decide +kernel
theorem BY(a:Nat):qm a 0=0:=by unfold qm;split<;>simp
theorem rT(a:Int)(w:World)(h1:-9223372036854775808≤a)(h2:a≤9223372036854775807) :
  Calls prog 142 #[A B a] w fun e w'=>e=.returned (A B (Ce a))∧w'=w:=by
 go_enter func142,ntmps142
 go_wp2_with fail;go_loopw [3] (fun i wr=>∃(k:Nat),1≤k∧k≤32∧i=A B k∧Hid (∀j:Nat,1≤j→j<k→mj a j≠1)∧wr=w) (fun i _=>32-(intOf i).toNat)
 case atStart=>exact⟨1,by omega,by omega,rfl,fun j h1 h2=>by omega,rfl⟩
 case round =>
  obtain⟨k,hk1,hk,rfl,HK,rfl⟩:=hrel;by_cases h5:k<32
  ·by_cases c:mj a k=1
   ·have e1:(mj a k==1)=true:=by simp[c]
    have HC:=zZ c;clear c;go_wp2_with (go_at_call 143;refine (tc a k _ (by omega) (by omega) (by omega) (by omega)).mono ?_;rintro e w1 ⟨rfl,rfl⟩);go_ret
    refine⟨ah ?_,rfl⟩;have h:=HC.out;have hm:(lX a&&lX k)=true:=by
     unfold mj at h;split at h
     ·assumption
     ·cases h
    have ea:lX a=true:=by simp only[yY]at hm;exact hm.1
    unfold lX at ea;simp only[yY,decide_eq_true_eq]at ea;obtain⟨x,rfl⟩:=zG ea.1;rw[nj x k (by omega) h5]at h;exact DG ⟨x,by omega⟩ ⟨k,h5⟩ (by simp only;omega)
   ·have e1:(mj a k==1)=false:=by simp[c]
    have HC:=zZ c;clear c;go_wp2_with (go_at_call 143;refine (tc a k _ (by omega) (by omega) (by omega) (by omega)).mono ?_;rintro e w1 ⟨rfl,rfl⟩);go_roundw
    case rel =>
     refine⟨k+1,by omega,by omega,by go_num,fun j h1 h2=>?_,trivial⟩;by_cases e:j=k
     ·subst e;exact HC.out
     ·exact HK.out j h1 (by omega)
    case measure=>simp[intOf];omega
  ·obtain rfl:k=32:=by omega
   go_wp2_with fail;go_ret
   refine⟨ah ?_,rfl⟩;rcases yF (lX a) with ca|ca
   ·unfold lX at ca;simp only[yY,decide_eq_true_eq]at ca;obtain⟨x,rfl⟩:=zG ca.1;refine (GX ⟨x,by omega⟩ fun b hb=>?_).symm;by_cases e:b.val=0
    ·rw[e,BY]at hb;cases hb
    ·refine HK.out b.val (by omega) b.isLt ?_;rw[nj x b.val (by omega) b.isLt];simp only at hb;rw[hb];rfl
   ·unfold Ce;rw[ca];rfl
theorem vN(n:Int)(w:World)(h1:-9223372036854775808≤n)(h2:n≤9223372036854775807) :
  Calls prog 140 #[A B n] w fun e w'=>e=.returned (A B (Ds n))∧ab w w':=by
 have h0:0≤n%31:=Int.emod_nonneg _ (by decide);have h31:n%31<31:=Int.emod_lt_of_pos _ (by decide);have hb1:-31<n.tmod 31:=Int.lt_tmod_of_pos n (by decide);have hb2:n.tmod 31<31:=Int.tmod_lt_of_pos n (by decide);have HE:Hid (n.tmod 31=n%31∨n.tmod 31+31=n%31):=by
  have:=@Int.tmod_eq_emod n 31;show _∨_
  split at this<;>omega
 obtain⟨k,hk⟩:∃k:Nat,n%31=k:=⟨(n%31).toNat,by omega⟩
 have hk31:k<31:=by omega
 have HP:Hid (((Df.getD k 0:Nat):Int)=Ds n):=by
  show _=_
  unfold Ds;rw[hk];rfl
 obtain⟨pc,hpc⟩:=nm ((Df.map fun (n:Nat)=>Value.int .i64 (n:Int)).toArray);have hps:pc.size=31:=by rw[hpc];rfl
 have hp1:pc.all (·.oneCell')=true:=by rw[hpc];decide +kernel
 have hpk:pc[k]?=some (A B ((Df.getD k 0:Nat):Int)):=by rw[hpc,List.getElem?_toArray,zL,yD,zW (show k<Df.length from hk31)];rfl
 have hzv:∀w,(zeroValue 219).run prog w=.ok (.agg (List.replicate 31 (Value.int .i64 0)).toArray) w:=fun _=>by kernel_rfl
 obtain⟨z,hz⟩:=nm ((List.replicate 31 (Value.int .i64 0)).toArray);rw[←hz]at hzv;have hzs:z.size=31:=by rw[hz];simp
 have HPC:=zZ hpc;clear hz hpc;obtain⟨W,hst,hWb,hWE⟩:=Cb (P:=prog) w 219 z pc (by omega) hp1;have HW:=zZ hWE;have hck:=ak hWb hpk;clear hWE hWb;by_cases c:n.tmod 31<0
 ·have e1:n.tmod 31+31=(k:Int):=by have:=HE.out;omega
  clear hk h0 h31;go_enter func140,ntmps140
  go_upto_region 4 with (fail)
  refine wp_region_lit ?_;refine la rfl 219 _ rfl pc (by rw[HPC.out];kernel_rfl) ?_;go_wp2_with fail;go_ret
  exact⟨ah HP.out,HW.out⟩
 ·have e1:n.tmod 31=(k:Int):=by have:=HE.out;omega
  clear hk h0 h31;go_enter func140,ntmps140
  go_upto_region 4 with (fail)
  refine wp_region_lit ?_;refine la rfl 219 _ rfl pc (by rw[HPC.out];kernel_rfl) ?_;go_wp2_with fail;go_ret
  exact⟨ah HP.out,HW.out⟩
end Go.Proofs.YtjgfgdcaocbfhaaGreat

namespace Go.Proofs.YtjgfgdcaocbfhaaGreat
open Go.Value renaming int→A
open Go.IntKind renaming i64→B
namespace F
variable {k p r u wd:Nat}
def fQ(f:Nat→F):Nat→F|0=>0|k+1=>fQ f k+f k
theorem iR{f g:Nat→F}(h:∀c,c<k→f c=g c):fQ f k=fQ g k:=by
 induction k with
 |zero=>rfl
 |succ k ih=>show _+_=_+_;rw[ih fun c hc=>h c (by omega),h k (by omega)]
theorem tN(f g:Nat→F)(k:Nat):fQ (fun c=>f c+g c) k=fQ f k+fQ g k:=by
 induction k with
 |zero=>show (0:F)=0+0;rw[add_zero]
 |succ k ih=>show fQ _ k+(f k+g k)=(fQ f k+f k)+(fQ g k+g k);rw[ih];ac_rfl
theorem tW(a:F)(f:Nat→F)(k:Nat):fQ (fun c=>a*f c) k=a*fQ f k:=by
 induction k with
 |zero=>show (0:F)=a*0;rw[dZ]
 |succ k ih=>show fQ _ k+_=a*(fQ f k+f k);rw[ih,nI]
theorem mb{f:Nat→F}(h:∀c,c<k→f c=0):fQ f k=0:=by
 induction k with
 |zero=>rfl
 |succ k ih=>show fQ f k+f k=0;rw[ih fun c hc=>h c (by omega),h k (by omega),add_zero]
theorem jy{f:Nat→F}{i:Nat}(hi:i<k)(h:∀c,c<k→c≠i→f c=0):fQ f k=f i:=by
 induction k with
 |zero=>omega
 |succ k ih =>
  show fQ f k+f k=f i
  by_cases e:i=k
  ·subst e;rw[mb fun c hc=>h c (by omega) (by omega),zero_add]
  ·rw[ih (by omega) fun c hc hne=>h c (by omega) hne,h k (by omega) (Ne.symm e),add_zero]
theorem Dk{f:Nat→F}{i j:Nat}(hi:i<k)(hj:j<k)(hij:i≠j)(h:∀c,c<k→c≠i→c≠j→f c=0):fQ f k=f i+f j:=by
 have e:fQ f k=fQ (fun c=>(if c=i then f c else 0)+(if c=i then 0 else f c)) k:=iR fun c _=>by split<;>simp[add_zero,zero_add]
 rw[e,tN,jy hi (fun c _ hne=>if_neg hne),jy (i:=j) hj (fun c hc hne=>by
  split
  ·rfl
  ·rename_i h';exact h c hc h' hne),if_pos rfl,if_neg (Ne.symm hij)]
def sH(M:Nat→Nat→F)(r:Nat)(X:Nat→F)(wd:Nat):F:=fQ (fun c=>M r c*X c) wd
def Sol(M:Nat→Nat→F)(X:Nat→F)(wd:Nat):Prop:=∀r,r<6→sH M r X wd=0
def swapM(M:Nat→Nat→F)(k p:Nat):Nat→Nat→F:=fun r c=>if r=k then M p c else if r=p then M k c else M r c
def scaleM(M:Nat→Nat→F)(k:Nat)(s:F):Nat→Nat→F:=fun r c=>if r=k then M r c*s else M r c
def redM(M:Nat→Nat→F)(k:Nat):Nat→Nat→F:=fun r c=>if r=k then M r c else M r c+M r k*M k c
def stepM(M:Nat→Nat→F)(k p:Nat):Nat→Nat→F:=redM (scaleM (swapM M k p) k (M p k).inv) k
def Unit6(M:Nat→Nat→F)(k:Nat):Prop:=∀r c,r<6→c<k→M r c=if r=c then 1 else 0
theorem EV{M:Nat→Nat→F}{X:Nat→F}(hk:k<6)(hp:p<6):Sol (swapM M k p) X wd↔Sol M X wd:=by
 have hd:∀r,sH (swapM M k p) r X wd=if r=k then sH M p X wd else if r=p then sH M k X wd else sH M r X wd:=fun r=>by
  unfold sH swapM;split
  ·rfl
  ·split<;>rfl
 constructor
 ·intro h r hr;by_cases e:r=k
  ·subst e;have:=h p hp;rw[hd]at this;by_cases e2:p=r
   ·subst e2;rw[if_pos rfl]at this;exact this
   ·rw[if_neg e2,if_pos rfl]at this;exact this
  ·by_cases e2:r=p
   ·subst e2;have:=h k hk;rw[hd,if_pos rfl]at this;exact this
   ·have:=h r hr;rw[hd,if_neg e,if_neg e2]at this;exact this
 ·intro h r hr;rw[hd];split
  ·exact h p hp
  ·split
   ·exact h k hk
   ·exact h r hr
theorem Ca{M:Nat→Nat→F}{X:Nat→F}{s:F}(hs:s≠0):Sol (scaleM M k s) X wd↔Sol M X wd:=by
 have hd:∀r,sH (scaleM M k s) r X wd=if r=k then s*sH M r X wd else sH M r X wd:=fun r=>by
  unfold sH scaleM;split
  ·rw[←tW];exact iR fun c _=>by ac_rfl
  ·rfl
 constructor
 ·intro h r hr;have:=h r hr;rw[hd]at this;split at this
  ·exact (jn _ _ this).resolve_left hs
  ·exact this
 ·intro h r hr;rw[hd,h r hr];split
  ·rw[dZ]
  ·rfl
theorem Gk{M:Nat→Nat→F}{X:Nat→F}(hk:k<6):Sol (redM M k) X wd↔Sol M X wd:=by
 have hd:∀r,sH (redM M k) r X wd=if r=k then sH M r X wd else sH M r X wd+M r k*sH M k X wd:=fun r=>by
  unfold sH redM;split
  ·rfl
  ·rw[←tW,←tN];exact iR fun c _=>by rw[add_mul,mG]
 constructor
 ·intro h r hr;have h1:=h r hr;rw[hd]at h1;have h2:=h k hk;rw[hd,if_pos rfl]at h2;split at h1
  ·exact h1
  ·rw[h2,dZ,add_zero]at h1;exact h1
 ·intro h r hr;rw[hd,h r hr,h k hk,dZ,add_zero];split<;>rfl
theorem Hc{a:F}(h:a≠0):a.inv≠0:=fun e=>by have:=By a h;rw[e,dZ]at this;exact absurd this (by decide +kernel)
theorem sol_step{M:Nat→Nat→F}{X:Nat→F}(hk:k<6)(hp:p<6)(hn:M p k≠0):Sol (stepM M k p) X wd↔Sol M X wd :=
 (Gk hk).trans ((Ca (Hc hn)).trans (EV hk hp))
theorem unit_step{M:Nat→Nat→F}(h:Unit6 M k)(hk:k<6)(hp:p<6)(hkp:k≤p)(hn:M p k≠0):Unit6 (stepM M k p) (k+1):=by
 have hs:∀r c,r<6→c<k→swapM M k p r c=if r=c then 1 else 0:=by
  intro r c hr hc;unfold swapM;split
  ·rename_i e;rw[h p c hp hc,if_neg (by omega),if_neg (by omega)]
  ·split
   ·rw[h k c hk hc,if_neg (by omega),if_neg (by omega)]
   ·exact h r c hr hc
 have hz:∀c,c<k→scaleM (swapM M k p) k (M p k).inv k c=0:=by intro c hc;unfold scaleM;rw[if_pos rfl,hs k c hk hc,if_neg (by omega),zero_mul]
 have hkk:scaleM (swapM M k p) k (M p k).inv k k=1:=by unfold scaleM swapM;rw[if_pos rfl,if_pos rfl,By _ hn]
 intro r c hr hc;unfold stepM redM;rcases zV c k with hck|hck
 ·rw[hz c hck,dZ,add_zero];have:scaleM (swapM M k p) k (M p k).inv r c=if r=c then 1 else 0:=by
   by_cases e:r=k
   ·subst e;rw[hz c hck,if_neg (by omega)]
   ·unfold scaleM;rw[if_neg e];exact hs r c hr hck
  rw[this];split<;>rfl
 ·obtain rfl:c=k:=by omega
  split
  ·rename_i e;subst e;rw[hkk]
  ·rename_i e;rw[hkk,mul_one,et]
theorem pivot_ex{M:Nat→Nat→F}(hu:k<u)(hu6:u≤6)(h:Unit6 M k)(ind:∀X,Sol M X (u+1)→X u=0→∀c,c<u→X c=0):∃p,k≤p∧p<6∧M p k≠0:=by
 rcases Classical.em (∃p,k≤p∧p<6∧M p k≠0) with h0|hno
 ·exact h0
 ·exfalso;have hz:∀p,k≤p→p<6→M p k=0:=fun p h1 h2=>Classical.byContradiction fun hne=>hno ⟨p,h1,h2,hne⟩;have:=ind (fun c=>if c<k then M c k else if c=k then 1 else 0) (fun r hr=>by
   unfold sH;rcases zV r k with hrk|hrk
   ·rw[Dk (i:=r) (j:=k) (by omega) (by omega) (by omega)]
    ·simp only[if_pos hrk,Nat.lt_irrefl,if_false,if_true,h r r hr hrk,one_mul,mul_one,et]
    ·intro c hc h1 h2;by_cases e:c<k
     ·rw[h r c hr e,if_neg (by omega),zero_mul]
     ·simp only[if_neg e,if_neg h2,dZ]
   ·refine mb fun c hc=>?_;by_cases e:c<k
    ·rw[h r c hr e,if_neg (by omega),zero_mul]
    ·by_cases e2:c=k
     ·subst e2;rw[hz r hrk hr,zero_mul]
     ·simp only[if_neg e,if_neg e2,dZ]) (by simp only[if_neg (show ¬u<k by omega),if_neg (show u≠k by omega)]) k hu
  simp only[Nat.lt_irrefl,if_false,if_true]at this;exact absurd this (by decide +kernel)
theorem oK{M:Nat→Nat→F}(h:Unit6 M u)(hu:u≤6)(hr:r<6)(X:Nat→F)(h1:X u=1):sH M r X (u+1)=(if r<u then X r else 0)+M r u:=by
 show fQ (fun c=>M r c*X c) u+M r u*X u=_
 rw[h1,mul_one];congr 1
 split
 ·rename_i e
  rw[jy e]
  ·rw[h r r hr e,if_pos rfl,one_mul]
  ·intro c hc hne;rw[h r c hr hc,if_neg (Ne.symm hne),zero_mul]
 ·rename_i e
  exact mb fun c hc=>by rw[h r c hr hc,if_neg (by omega),zero_mul]
theorem tD{M:Nat→Nat→F}(h:Unit6 M u)(hu:u≤6)(X:Nat→F)(h1:X u=1):Sol M X (u+1)↔(∀c,c<u→X c=M c u)∧(∀r,u≤r→r<6→M r u=0):=by
 constructor
 ·intro hs;refine⟨fun c hc=>?_,fun r h2 h3=>?_⟩
  ·have:=hs c (by omega);rw[oK h hu (by omega) X h1,if_pos hc]at this;exact jR this
  ·have:=hs r h3;rw[oK h hu h3 X h1,if_neg (by omega),zero_add]at this;exact this
 ·intro⟨ha,hb⟩ r hr;rw[oK h hu hr X h1];split
  ·rename_i e;rw[ha r e,et]
  ·rename_i e;rw[hb r (by omega) hr,add_zero]
def rowI(M:Nat→Nat→F)(wd r:Nat):List Int:=(List.range wd).map fun c=>((M r c).n:Int)
def matI(M:Nat→Nat→F)(wd:Nat):List (List Int):=(List.range 6).map (rowI M wd)
def upd(M:Nat→Nat→F)(r c:Nat)(y:F):Nat→Nat→F:=fun r' c'=>if r'=r∧c'=c then y else M r' c'
theorem rowI_len(M:Nat→Nat→F)(wd r:Nat):(rowI M wd r).length=wd:=by simp[rowI]
theorem matI_len(M:Nat→Nat→F)(wd:Nat):(matI M wd).length=6:=by simp[matI]
theorem matI_at{M:Nat→Nat→F}(h:r<6):(matI M wd)[r]?=some (rowI M wd r):=by unfold matI;rw[zL,xH h];rfl
theorem rowI_at{M:Nat→Nat→F}{c:Nat}(h:c<wd):(rowI M wd r)[c]?=some ((M r c).n:Int):=by unfold rowI;rw[zL,xH h];rfl
def scaleTo(M:Nat→Nat→F)(k:Nat)(s:F)(c:Nat):Nat→Nat→F:=fun r' c'=>if r'=k∧c'<c then M r' c'*s else M r' c'
theorem scaleTo_zero(M:Nat→Nat→F)(k:Nat)(s:F):scaleTo M k s 0=M:=by funext r c;simp[scaleTo]
theorem scaleTo_succ(M:Nat→Nat→F)(k:Nat)(s:F)(c:Nat):upd (scaleTo M k s c) k c (M k c*s)=scaleTo M k s (c+1):=by
 funext r' c'
 unfold upd scaleTo;by_cases e:r'=k∧c'=c
 ·obtain⟨rfl,rfl⟩:=e;simp
 ·rw[if_neg e];by_cases e2:r'=k∧c'<c
  ·rw[if_pos e2,if_pos ⟨e2.1,by omega⟩]
  ·rw[if_neg e2,if_neg (fun h=>e2 ⟨h.1,by have:c'≠c:=fun h'=>e ⟨h.1,h'⟩;omega⟩)]
def redTo(M:Nat→Nat→F)(k r c:Nat):Nat→Nat→F:=fun r' c'=>if r'≠k∧(r'<r∨r'=r∧c'<c) then M r' c'+M r' k*M k c' else M r' c'
theorem redTo_zero(M:Nat→Nat→F)(k:Nat):redTo M k 0 0=M:=by funext r c;simp[redTo]
theorem redTo_succ(M:Nat→Nat→F)(k r c:Nat)(h:r≠k):upd (redTo M k r c) r c (M r c+M r k*M k c)=redTo M k r (c+1):=by
 funext r' c'
 unfold upd redTo;by_cases e:r'=r∧c'=c
 ·obtain⟨rfl,rfl⟩:=e;rw[if_pos ⟨rfl,rfl⟩,if_pos ⟨h,.inr ⟨rfl,by omega⟩⟩]
 ·rw[if_neg e];by_cases e2:r'≠k∧(r'<r∨r'=r∧c'<c)
  ·rw[if_pos e2,if_pos ⟨e2.1,by omega⟩]
  ·rw[if_neg e2,if_neg (fun h'=>e2 ⟨h'.1,by
    rcases h'.2 with h2|h2
    ·exact .inl h2
    ·refine .inr ⟨h2.1,?_⟩;have:c'≠c:=fun h3=>e ⟨h2.1,h3⟩;omega⟩)]
end F
namespace F
def gM(g rest:List F)(c:F):List F:=List.zipWith (fun r h=>r+(c+rest.headD 0)*h) (rest.tail++[0]) g
theorem D6(x f:F):∀(a b:List F),a.length=b.length→ev x (List.zipWith (fun r h=>r+f*h) a b)=ev x a+f*ev x b
 |[],[],_=>by simp[ev,dZ,add_zero]
 |r::a,h::b,hl=>by
  have hl':a.length=b.length:=by simpa using hl
  simp only[List.zipWith_cons_cons,ev,D6 x f a b hl',List.length_zipWith,hl',Nat.min_self,add_mul,nI];ac_rfl
theorem tA{g rest:List F}(c:F)(h1:rest.length=6)(h2:g.length=6):(gM g rest c).length=6:=by unfold gM;simp[h1,h2]
theorem yi{g rest:List F}{x:F}(c:F)(h1:rest.length=6)(h2:g.length=6)(hg:ev x g=pwr x 6):ev x (gM g rest c)=ev x rest*x+c*pwr x 6:=by
 match rest,h1 with
 |r0::t,h1 =>
  have ht:t.length=5:=by simpa using h1
  unfold gM;simp only[List.tail_cons,List.headD_cons];rw[D6 x _ _ _ (by simp[ht,h2]),hg,ev_app];simp only[List.length_singleton,ev,List.length_nil,zero_mul,add_zero,ht,pwr_one,add_mul];have:pwr x 6=pwr x 5*x:=rfl;rw[this];rw[show ev x t*x+(c*(pwr x 5*x)+r0*(pwr x 5*x))=r0*pwr x 5*x+ev x t*x+c*(pwr x 5*x) by ac_rfl]
def encRest(g data:List F):List F:=data.foldl (gM g) (List.replicate 6 0)
theorem oV{g:List F}{x:F}(h2:g.length=6)(hg:ev x g=pwr x 6):∀(d rest:List F),rest.length=6→(d.foldl (gM g) rest).length=6∧ev x (d.foldl (gM g) rest)=ev x rest*pwr x d.length+ev x d*pwr x 6
 |[],rest,h=>⟨h,by show ev x rest=ev x rest*1+0*_;rw[mul_one,zero_mul,add_zero]⟩
 |c::d,rest,h=>by
  obtain⟨h3,h4⟩:=oV h2 hg d (gM g rest c) (tA c h h2);refine⟨h3,?_⟩;rw[List.foldl_cons,h4,yi c h h2 hg];simp only[ev,xT,pwr,add_mul];ac_rfl
def genL:List F:=[mk 17 (by decide),mk 26 (by decide),mk 30 (by decide),mk 27 (by decide),mk 30 (by decide),mk 24 (by decide)]
theorem CI:∀j:Fin 6,ev (gp (j.val+1)) genL=pwr (gp (j.val+1)) 6:=by decide +kernel
theorem enc_code(d:List F):Code (d++encRest genL d)∧(encRest genL d).length=6:=by
 have h:∀j,1≤j→j≤6→ev (gp j) genL=pwr (gp j) 6:=fun j h1 h2=>by have:=CI ⟨j-1,by omega⟩;simpa[Nat.sub_add_cancel h1] using this
 refine⟨fun j h1 h2=>?_,(oV rfl (h 1 (by omega) (by omega)) d _ (by simp)).1⟩;obtain⟨h3,h4⟩:=oV (g:=genL) (x:=gp j) rfl (h j h1 h2) d (List.replicate 6 0) (by simp);rw[ev_app];unfold encRest;rw[h3,h4,FD,zero_mul,zero_add,et]
theorem E9(x v:F):∀(w:List F) (i:Nat),i<w.length→ev x (w.set i v)=ev x w+(w.getD i 0+v)*pwr x (w.length-1-i)
 |[],i,h=>by simp at h
 |c::w,0,h=>by
  simp only[List.set_cons_zero,ev,List.getD_cons_zero,xT,Nat.add_sub_cancel,Nat.sub_zero,add_mul];rw[show c*pwr x w.length+ev x w+(c*pwr x w.length+v*pwr x w.length)=(c*pwr x w.length+c*pwr x w.length)+(v*pwr x w.length+ev x w) by ac_rfl,et,zero_add]
 |c::w,i+1,h=>by
  have hi:i<w.length:=by simpa using h
  simp only[List.set_cons_succ,ev,List.getD_cons_succ,xT,xO,E9 x v w i hi];rw[show w.length+1-1-(i+1)=w.length-1-i by omega];ac_rfl
theorem FF(a b:List (F×F))(j:Nat):mX (a++b) j=mX a j+mX b j:=by
 induction a with
 |nil=>simp[mX,zero_add]
 |cons p a ih=>obtain⟨c,x⟩:=p;simp only[List.cons_append,mX,ih];ac_rfl
theorem BE(f:Nat→F×F)(j u:Nat):mX ((List.range u).map f) j=fQ (fun c=>(f c).1*pwr (f c).2 j) u:=by
 induction u with
 |zero=>rfl
 |succ u ih =>
  rw[yC,yN,FF,ih];show _+(((f u).1*pwr (f u).2 j)+0)=_+_
  rw[add_zero]
def addAt(w:List F):List Nat→List F→List F
 |p::ps,x::xs=>addAt (w.set p (w.getD p 0+x)) ps xs
 |_,_=>w
theorem addAt_len:∀(ps:List Nat) (xs w:List F),(addAt w ps xs).length=w.length
 |p::ps,x::xs,w=>by simp[addAt,addAt_len ps xs]
 |[],_,w=>by simp[addAt]
 |_::_,[],w=>by simp[addAt]
theorem addAt_off{i:Nat}:∀(ps:List Nat) (xs w:List F),i ∉ ps→(addAt w ps xs)[i]?=w[i]?
 |p::ps,x::xs,w,h=>by
  simp only[yG,not_or]at h;simp only[addAt];rw[addAt_off ps xs _ h.2,xP (Ne.symm h.1)]
 |[],_,w,_=>by simp[addAt]
 |_::_,[],w,_=>by simp[addAt]
theorem ui(j:Nat):∀(ps:List Nat) (xs w:List F),(∀p∈ps,p<w.length)→ps.length=xs.length→ev (gp j) (addAt w ps xs)=ev (gp j) w+mX (xs.zip (ps.map fun p=>gp (w.length-1-p))) j
 |p::ps,x::xs,w,h,hl=>by
  have hp:=h p wU;simp only[addAt];rw[ui j ps xs _ (fun q hq=>by rw[xO];exact h q (wV _ hq)) (by simpa using hl),E9 _ _ _ _ hp,xO];simp only[xI,List.zip_cons_cons,mX,←add_assoc,et,zero_add,vy];rw[Nat.mul_comm j (w.length-1-p)]
 |[],[],w,_,_=>by simp[addAt,mX,add_zero]
def Off(w c:List F)(ps:List Nat):Prop:=c.length=w.length∧∀i,i ∉ ps→c[i]?=w[i]?
theorem Off.addAt(w:List F)(ps:List Nat)(xs:List F):Off w (addAt w ps xs) ps:=⟨addAt_len ps xs w,fun _ hi=>addAt_off ps xs w hi⟩
theorem getD_eq{w:List F}{i:Nat}(h:i<w.length):w[i]?=some (w.getD i 0):=by rw[yD,zW h];rfl
theorem D2:∀(ps:List Nat) (w c:List F),Off w c ps→ps.Nodup→(∀p∈ps,p<w.length)→c=F.addAt w ps (ps.map fun p=>w.getD p 0+c.getD p 0)
 |[],w,c,h,_,_=>by
  simp only[List.map_nil,F.addAt];exact wT fun i=>h.2 i (by simp)
 |p::ps,w,c,h,hn,hlt=>by
  have hp:=hlt p wU;rw[List.nodup_cons]at hn;simp only[xI,F.addAt,wm];have ho:Off (w.set p (c.getD p 0)) c ps:=by
   refine⟨by rw[xO];exact h.1,fun i hi=>?_⟩;by_cases e:p=i
   ·subst e;rw[xL hp];exact getD_eq (by rw[h.1];exact hp)
   ·rw[xP e];exact h.2 i (fun hm=>by rcases yG.1 hm with e2|e2;exact e e2.symm;exact hi e2)
  have:=D2 ps _ c ho hn.2 (fun q hq=>by rw[xO];exact hlt q (wV _ hq));refine this.trans (congrArg (F.addAt _ ps) (wD fun q hq=>?_));have hne:p≠q:=fun e=>hn.1 (e▸hq);congr 1
  rw[yD,xP hne,yD]
def sysM(w:List F)(ps:List Nat):Nat→Nat→F:=fun r c=>if c<ps.length then gp ((r+1)*(w.length-1-ps.getD c 0)) else ev (gp (r+1)) w
theorem rQ{w:List F}{ps:List Nat}(r:Nat)(X:Nat→F):sH (sysM w ps) r X (ps.length+1)=mX ((List.range ps.length).map fun c=>(X c,gp (w.length-1-ps.getD c 0))) (r+1)+ev (gp (r+1)) w*X ps.length:=by
 show fQ _ ps.length+_=_
 rw[BE];congr 1
 ·refine iR fun c hc=>?_;simp only[sysM,if_pos hc,vy];rw[mul_comm]
 ·simp only[sysM,Nat.lt_irrefl,if_false]
theorem sys_ind{w:List F}{ps:List Nat}(hn:w.length≤31)(hd:ps.Nodup)(hlt:∀p∈ps,p<w.length)(h6:ps.length≤6)(X:Nat→F)(hs:Sol (sysM w ps) X (ps.length+1))(h0:X ps.length=0):∀c,c<ps.length→X c=0:=by
 intro c hc;have hm:((List.range ps.length).map fun c=>(X c,gp (w.length-1-ps.getD c 0))).map Prod.snd=ps.map fun p=>gp (w.length-1-p):=by
  apply wT;intro i;rcases zV i ps.length with hi|hi
  ·simp[xH hi,zW hi]
  ·rw[yH (by simpa using hi),yH (by simpa using hi)]
 refine sY ps.length ((List.range ps.length).map fun c=>(X c,gp (w.length-1-ps.getD c 0))) (by simp) ?_ ?_ ?_ (X c,gp (w.length-1-ps.getD c 0)) (zJ.2 ⟨c,zB.2 hc,rfl⟩)
 ·rw[hm];have:∀(l:List Nat),l.Nodup→(∀p∈l,p<w.length)→(l.map fun p=>gp (w.length-1-p)).Nodup:=by
   intro l;induction l with
   |nil=>intro _ _;simp
   |cons q l ih =>
    intro h1 h2;rw[List.nodup_cons]at h1;rw[xI,List.nodup_cons];refine⟨fun hm=>?_,ih h1.2 fun p hp=>h2 p (wV _ hp)⟩;obtain⟨p,hp,e⟩:=zJ.1 hm;have a:=h2 p (wV _ hp);have b:=h2 q wU;have:=EJ (by omega) (by omega) e;have e2:p=q:=by omega
    exact h1.1 (e2▸hp)
  exact this ps hd hlt
 ·intro p hp;obtain⟨i,_,rfl⟩:=zJ.1 hp;exact GC _
 ·intro j h1 h2;have:=hs (j-1) (by omega);rw[rQ,h0,dZ,add_zero,Nat.sub_add_cancel h1]at this;exact this
theorem CY(X:Nat→F)(f:Nat→F)(ps:List Nat):((List.range ps.length).map X).zip (ps.map f)=(List.range ps.length).map fun c=>(X c,f (ps.getD c 0)):=by
 apply wT;intro i;rcases zV i ps.length with hi|hi
 ·simp[List.getElem?_zip_eq_some,xH hi,zW hi]
 ·rw[yH (by simpa using hi),yH (by simpa using hi)]
theorem tQ{w:List F}{ps:List Nat}(hlt:∀p∈ps,p<w.length)(X:Nat→F)(h1:X ps.length=1):Sol (sysM w ps) X (ps.length+1)↔Code (F.addAt w ps ((List.range ps.length).map X)):=by
 have h:∀j,ev (gp j) (F.addAt w ps ((List.range ps.length).map X))=ev (gp j) w+mX ((List.range ps.length).map fun c=>(X c,gp (w.length-1-ps.getD c 0))) j:=fun j=>by rw[ui j ps _ w hlt (by simp),CY X (fun p=>gp (w.length-1-p))]
 constructor
 ·intro hs j h2 h3;have:=hs (j-1) (by omega);rw[rQ,h1,mul_one,Nat.sub_add_cancel h2]at this;rw[h,add_comm];exact this
 ·intro hc r hr;have:=hc (r+1) (by omega) (by omega);rw[h]at this;rw[rQ,h1,mul_one,add_comm];exact this
theorem sys_end{w:List F}{ps:List Nat}{M:Nat→Nat→F}(hn:w.length≤31)(hd:ps.Nodup)(hlt:∀p∈ps,p<w.length)(h6:ps.length≤6)(hu:Unit6 M ps.length)(hM:∀X,Sol M X (ps.length+1)↔Sol (sysM w ps) X (ps.length+1)) :
  ((∀r,ps.length≤r→r<6→M r ps.length=0)→Code (F.addAt w ps ((List.range ps.length).map fun c=>M c ps.length))) ∧
  (∀c,Off w c ps→Code c→(∀r,ps.length≤r→r<6→M r ps.length=0)∧c=F.addAt w ps ((List.range ps.length).map fun c=>M c ps.length)):=by
 constructor
 ·intro hb;have h:=(tQ hlt (fun c=>if c<ps.length then M c ps.length else 1) (by simp)).1 ((hM _).1 ((tD hu h6 _ (by simp)).2 ⟨fun c hc=>by simp[hc],hb⟩));have e:(List.range ps.length).map (fun c=>if c<ps.length then M c ps.length else 1)=(List.range ps.length).map fun c=>M c ps.length:=wD fun c hc=>by rw[if_pos (zB.1 hc)]
  rw[e]at h;exact h
 ·intro c ho hc;have hcw:=D2 ps w c ho hd hlt;have e:(ps.map fun p=>w.getD p 0+c.getD p 0)=(List.range ps.length).map (fun i=>if i<ps.length then w.getD (ps.getD i 0) 0+c.getD (ps.getD i 0) 0 else 1):=by
   apply wT;intro i;rcases zV i ps.length with hi|hi
   ·simp[xH hi,zW hi,hi]
   ·rw[yH (by simpa using hi),yH (by simpa using hi)]
  rw[e]at hcw;rw[hcw]at hc;have hs:=(hM _).2 ((tQ hlt (fun i=>if i<ps.length then w.getD (ps.getD i 0) 0+c.getD (ps.getD i 0) 0 else 1) (by simp)).2 hc);obtain⟨h1,h2⟩:=(tD hu h6 _ (by simp)).1 hs;refine⟨h2,?_⟩;rw[hcw];congr 1
  exact wD fun i hi=>h1 i (zB.1 hi)
end F
end Go.Proofs.YtjgfgdcaocbfhaaGreat

namespace Go.Proofs.YtjgfgdcaocbfhaaGreat
open Go.Value renaming int→A
open Go.IntKind renaming i64→B
open Go.RowKit _root_.Go.Proofs.Tryz
variable {l:List Int}
def wI(l:List F):List Int:=l.map fun c=>(c.n:Int)
theorem dv(l:List F):(wI l).length=l.length:=by simp[wI]
theorem xl(a b:F)(w:World) :
  Calls prog 143 #[A B (a.n:Int),A B (b.n:Int)] w fun e w'=>e=.returned (A B ((a*b).n:Int))∧w'=w:=by
 have h:=Bz a.n b.n w a.lt b.lt;rw[nj _ _ a.lt b.lt,←F.n_mul]at h;exact h
theorem DS(m:Nat):Ds (m:Int)=((F.gp m).n:Int):=by rw[F.n_gp];unfold Ds;rw[show ((m:Int)%31).toNat=m%31 by omega]
theorem uk(m:Nat)(w:World)(h:m≤1000000) :
  Calls prog 140 #[A B (m:Int)] w fun e w'=>e=.returned (A B ((F.gp m).n:Int))∧ab w w':=by
 have:=vN m w (by omega) (by omega);rw[DS]at this;exact this
theorem G6(a:F):Ce (a.n:Int)=(a.inv.n:Int):=by
 have:=a.lt;unfold Ce lX;rw[F.n_inv];by_cases h:a.n=0
 ·rw[if_neg (by simp[h]),if_pos h];rfl
 ·rw[if_pos (by simp;omega),if_neg h];simp
theorem vK(a:F)(w:World) :
  Calls prog 142 #[A B (a.n:Int)] w fun e w'=>e=.returned (A B (a.inv.n:Int))∧w'=w:=by
 have ha:=a.lt;have:=rT a.n w (by omega) (by omega);rw[G6]at this;exact this
theorem Gy(a b:F):bits .xor .i64 (a.n:Int) (b.n:Int)=((a+b).n:Int):=by have ha:=a.lt;have hb:=b.lt;rw[tZ _ _ (by omega) (by omega),F.n_add]
def mW(wd:List F)(i:Nat):F:=F.ev (F.gp (i+1)) wd
def GU(f x:Int):Bool:=decide (x<f)||decide (32≤x)
def dt(f:Int)(l:List Int):Bool:=decide (7≤l.length)&&(decide (l.length≤15)&&!l.any (GU f))
def ff(l:List Int):List F:=l.map fun x=>F.mk (x.toNat%32) (xD _ (by decide))
theorem cE(l:List Int):(ff l).length=l.length:=by simp[ff]
theorem DI(h:∀x∈l,0≤x∧x<32):wI (ff l)=l:=by
 unfold wI ff;rw[List.map_map];refine (wD (g:=id) fun x hx=>?_).trans (List.map_id l);have:=h x hx;show ((x.toNat%32:Nat):Int)=x
 omega
theorem wi(l:List F):ff (wI l)=l:=by
 unfold wI ff;rw[List.map_map];refine (wD (g:=id) fun x _=>F.ext ?_).trans (List.map_id l);have:=x.lt;show ((x.n:Int)).toNat%32=x.n
 omega
theorem ei{f:Int}(h:dt f l=true):7≤l.length∧l.length≤15∧∀x∈l,f≤x∧x<32:=by unfold dt at h;simp only[yY,decide_eq_true_eq,wC,wL]at h;refine⟨h.1,h.2.1,fun x hx=>?_⟩;have:=h.2.2 x hx;unfold GU at this;simp only[Bool.or_eq_true,decide_eq_true_eq]at this;omega
theorem pQ{f:Int}(h1:7≤l.length)(h2:l.length≤15)(h:∀x∈l,f≤x∧x<32):dt f l=true:=by unfold dt;simp only[yY,decide_eq_true_eq,wC,wL];refine⟨h1,h2,fun x hx=>?_⟩;have:=h x hx;unfold GU;simp only[Bool.or_eq_true,decide_eq_true_eq];omega
def gk(l:List Int):Bool:=dt 0 l&&(mW (ff l) 0==0&&(mW (ff l) 1==0&&(mW (ff l) 2==0&&(mW (ff l) 3==0&&(mW (ff l) 4==0&&mW (ff l) 5==0)))))
theorem Cq(a:F):((a.n:Int)==0)=(a==0):=by
 by_cases h:a=0
 ·subst h;simp[F.n_zero]
 ·have:a.n≠0:=fun e=>h (F.ext e);rw[beq_eq_false_iff_ne.2 h,beq_eq_false_iff_ne.2 (by omega)]
theorem pd(wd:List F):(mW wd 0==0&&(mW wd 1==0&&(mW wd 2==0&&(mW wd 3==0&&(mW wd 4==0&&mW wd 5==0)))))=true↔F.Code wd:=by
 simp only[yY,beq_iff_eq];constructor
 ·rintro⟨h0,h1,h2,h3,h4,h5⟩ j j1 j2;have:j=1∨j=2∨j=3∨j=4∨j=5∨j=6:=by omega
  rcases this with rfl|rfl|rfl|rfl|rfl|rfl
  ·exact h0
  ·exact h1
  ·exact h2
  ·exact h3
  ·exact h4
  ·exact h5
 ·intro h;exact⟨h 1 (by omega) (by omega),h 2 (by omega) (by omega),h 3 (by omega) (by omega),h 4 (by omega) (by omega),h 5 (by omega) (by omega),h 6 (by omega) (by omega)⟩
theorem sU{wd:List F}(h7:7≤wd.length)(h15:wd.length≤15):gk (wI wd)=true↔F.Code wd:=by
 unfold gk;have hw:dt 0 (wI wd)=true:=pQ (by rw[dv];exact h7) (by rw[dv];exact h15) (by intro x hx;unfold wI at hx;obtain⟨c,_,rfl⟩:=zJ.1 hx;have:=c.lt;omega)
 rw[hw,wi,yU];exact pd wd
end Go.Proofs.YtjgfgdcaocbfhaaGreat

