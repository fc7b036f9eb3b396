import Derived.Test.YtjgfgdcaocbfhaaGreatH9
import Derived.Lib.SliceRun
import Derived.Laws.CopyRow
import Derived.Shelf.Strings.BuilderK
import Derived.Shelf.Strings.Count
import Derived.Shelf.Strings.Repeat
import Derived.Test.YtjgfgdcaocbfhaaGreatProg
import Derived.Lib.BufferRead
set_option linter.all false
set_option maxRecDepth 100000
set_option maxHeartbeats 0
namespace Go.Proofs.YtjgfgdcaocbfhaaGreat
open Go.Value renaming int→A,slice→C
open Go.IntKind renaming i64→B
open Go.RowKit
variable {base c g n:Nat} {w:World}
def gD(base:Nat)(w:World)(v:Value)(l:List F):Prop:=w.ownsRow base 3 1 v l.length ((wI l).map (Value.int .i64))
theorem pH(l:List F):∀x∈wI l,aC x:=by intro x hx;unfold wI at hx;obtain⟨c,_,rfl⟩:=zJ.1 hx;have:=c.lt;constructor<;>omega
theorem gD.put{l:List F}(h:gD base w (C (some ⟨g,0,none⟩) n c) l)(hn:l.length=n)(j:Nat)(y:F) :
  gD base (w.setCell ⟨g,j,none⟩ (A B (y.n:Int))) (C (some ⟨g,0,none⟩) n c) (l.set j y):=by
 subst hn;have:=(World.ownsRow.stored h j (A B (y.n:Int))).1;unfold gD;rw[xO];unfold wI at this⊢;rw[List.map_set,List.map_set];exact this
theorem gD.cell{k:Nat}{l:List F}{x:F}(h:gD base w (C (some ⟨g,0,none⟩) n c) l)(hn:l.length=n)(hx:l[k]?=some x):w.cell? ⟨g,k,none⟩=some (A B (x.n:Int)):=by subst hn;have hk:=(zY.1 hx).1;rw[World.ownsRow.cellAt h k (by omega)];unfold wI;rw[zL,zL,hx];rfl
theorem gD.froz{l:List F}(h:gD base w (C (some ⟨g,0,none⟩) n c) l)(hn:l.length=n)(k:Nat):w.frozen? ⟨g,k,none⟩=false:=by subst hn;exact World.ownsRow.frozenAt h k
theorem gD.ext{w':World}{v:Value}{l:List F}(h:gD base w v l)(hx:ab w w'):gD base w' v l:=ac h hx
def jf(l:List Int):Bool:=decide (1≤l.length)&&(decide (l.length≤9)&&!l.any fun x=>!lX x)
theorem pE{l:List Int}(h:jf l=true):1≤l.length∧l.length≤9∧∀x∈l,0≤x∧x<32:=by unfold jf at h;simp only[yY,decide_eq_true_eq,wC,wL]at h;refine⟨h.1,h.2.1,fun x hx=>?_⟩;have:=h.2.2 x hx;unfold lX at this;simp at this;omega
theorem uM{l:List Int}(h1:1≤l.length)(h2:l.length≤9)(h:∀x∈l,0≤x∧x<32):jf l=true:=by unfold jf;simp only[yY,decide_eq_true_eq,wC,wL];refine⟨h1,h2,fun x hx=>?_⟩;have:=h x hx;unfold lX;simp;omega
def sl(d:List F):List F:=d++F.encRest F.genL d
def pp(l:List Int):List Int:=if jf l then wI (sl (ff l)) else []
def tx(l:List Int):Int:=if jf l then 0 else 2
theorem tP(d:List F):(sl d).length=d.length+6:=by unfold sl;rw[zI,(F.enc_code d).2]
theorem Cn(d:List F):F.Code (sl d):=(F.enc_code d).1
theorem kP{base' e size:Nat}{v:Value}{xs:List Value}(h:w.ownsRow base e size v n xs)(hb:base'≤base):w.ownsRow base' e size v n xs:=by
 rcases h with ⟨h1,h2|⟨g,cap,cur,hv,hg,r⟩⟩
 ·exact⟨h1,.inl h2⟩
 ·exact⟨h1,.inr ⟨g,cap,cur,hv,yL hb hg,r⟩⟩
end Go.Proofs.YtjgfgdcaocbfhaaGreat

namespace Go.Proofs.YtjgfgdcaocbfhaaGreat
open Go.Value renaming int→A,slice→C
open Go.IntKind renaming i64→B
variable {p:Nat} {s:List UInt8}
def fO(l:List Int)(k:Nat):List Nat:=(List.range k).filter fun i=>l.getD i 0==-1
def mr(l:List Int)(k:Nat):List Nat:=(List.range k).filter fun i=>!(l.getD i 0==-1)
section
variable {l:List Int} {k:Nat} {x:Int}
theorem jC(h:l[k]?=some x):l.getD k 0=x:=by rw[yD,h];rfl
theorem DR(h:l[k]?=some x)(e:x=-1):fO l (k+1)=fO l k++[k]:=by unfold fO;rw[yC,yJ];simp only[wS,List.filter_nil,jC h,e];rfl
theorem Da(h:l[k]?=some x)(e:x≠-1):fO l (k+1)=fO l k:=by unfold fO;rw[yC,yJ];simp[wS,h,e]
theorem tk(h:l[k]?=some x)(e:x≠-1):mr l (k+1)=mr l k++[k]:=by unfold mr;rw[yC,yJ];simp[wS,h,e]
theorem CW(h:l[k]?=some x)(e:x=-1):mr l (k+1)=mr l k:=by unfold mr;rw[yC,yJ];simp[wS,h,e]
theorem DJ(l:List Int)(k:Nat):(fO l k).length≤k:=by unfold fO;have:=xC (fun i=>l.getD i 0==-1) (List.range k);simpa using this
theorem Ak(h:p∈fO l k):p<k:=by unfold fO at h;exact zB.1 (xY.1 h).1
theorem mC:p∈fO l k↔p<k∧l.getD p 0=-1:=by unfold fO;simp[xY]
theorem py:p∈mr l k↔p<k∧l.getD p 0≠-1:=by unfold mr;simp[xY]
theorem mN(l:List Int)(k:Nat):(fO l k++mr l k).Nodup:=by rw[List.nodup_append];refine⟨List.nodup_range.filter _,List.nodup_range.filter _,fun a ha b hb e=>?_⟩;subst e;exact (py.1 hb).2 (mC.1 ha).2
end
def gt(l:List Int)(c:List F):List Nat:=(mr l l.length).filter fun i=>!((ff l).getD i 0==c.getD i 0)
structure vM (l:List Int) (c:List F) (e:Nat):Prop where
 len:c.length=l.length
 code:F.Code c
 err:(gt l c).length=e
 near:2*e+(fO l l.length).length≤6
theorem ml{α:Type}[DecidableEq α]:∀(a b:List α),a.Nodup→(∀x∈a,x∈b)→a.length≤b.length
 |[],b,_,_=>yK _
 |x::a,b,h,hs=>by
  rw[List.nodup_cons]at h;have hx:=hs x wU;have:=ml a (b.erase x) h.2 (fun y hy=>(List.mem_erase_of_ne (fun (e:y=x)=>h.1 (e▸hy))).2 (hs y (wV _ hy)));rw[List.length_erase_of_mem hx]at this;have:=List.length_pos_of_mem hx;simp;omega
theorem ry:∀(a b:List F),a.length=b.length→(F.diffs a b).length=((List.range a.length).filter fun i=>!(a.getD i 0==b.getD i 0)).length
 |[],[],_=>rfl
 |c::a,d::b,h=>by
  have ih:=ry a b (by simpa using h);rw[xT,List.range_succ_eq_map,wS,List.filter_map];unfold F.diffs;by_cases e:c=d
  ·rw[if_pos e];simp only[List.getD_cons_zero,e,beq_self_eq_true,Bool.not_true,Bool.false_eq_true,if_false,zM];rw[ih];rfl
  ·rw[if_neg e];simp only[List.getD_cons_zero,beq_eq_false_iff_ne.2 e,Bool.not_false,if_true,xT,zM];rw[ih];rfl
theorem EB{a b:List F}{ps:List Nat}(h:a.length=b.length)(hp:∀i,i<a.length→a.getD i 0≠b.getD i 0→i∈ps):(F.diffs a b).length≤ps.length:=by rw[ry a b h];refine ml _ _ (List.nodup_range.filter _) fun i hi=>?_;rw[xY,zB]at hi;exact hp i hi.1 (by simpa using hi.2)
theorem Cu{l:List Int}{c c':List F}{e e':Nat}(h15:l.length≤31)(h:vM l c e)(h':vM l c' e'):c=c'∧e=e':=by
 have hc:c=c':=by
  refine F.code_apart h.code h'.code (h.len.trans h'.len.symm) (by rw[h.len];exact h15) ?_;refine yL (EB (ps:=fO l l.length++gt l c++gt l c') (h.len.trans h'.len.symm) fun i hi hne=>?_) ?_
  ·rw[h.len]at hi;rcases Classical.em (l.getD i 0=-1) with h1|h1
   ·exact wB _ (wB _ (mC.2 ⟨hi,h1⟩))
   ·rcases Classical.em ((ff l).getD i 0=c.getD i 0) with h2|h2
    ·refine List.mem_append_right _ (xY.2 ⟨py.2 ⟨hi,h1⟩,?_⟩);rw[h2];simpa using hne
    ·exact wB _ (List.mem_append_right _ (xY.2 ⟨py.2 ⟨hi,h1⟩,by simpa using h2⟩))
  ·have:=h.near;have:=h'.near;have:=h.err;have:=h'.err
   simp only[zI];omega
 subst hc;exact⟨rfl,h.err.symm.trans h'.err⟩
theorem BW{l:List Int}{c:List F}(hl:c.length=l.length):F.Off (ff l) c (fO l l.length++gt l c):=by
 refine⟨by rw[cE];exact hl,fun i hi=>?_⟩;rcases zV i l.length with h|h
 ·have h1:l.getD i 0≠-1:=fun e=>hi (wB _ (mC.2 ⟨h,e⟩));have h2:(ff l).getD i 0=c.getD i 0:=Classical.byContradiction fun e=>hi (List.mem_append_right _ (xY.2 ⟨py.2 ⟨h,h1⟩,by simpa using e⟩));rw[F.getD_eq (w:=c) (by omega),F.getD_eq (w:=ff l) (by rw[cE];exact h),h2]
 ·rw[yH (by omega),yH (by rw[cE];exact h)]
theorem qY(l:List Int)(c:List F):(gt l c).Sublist (mr l l.length):=List.filter_sublist
theorem oW:∀(ps:List Nat) (xs w:List F) (p:Nat) (x:F),ps.length=xs.length→F.addAt w (ps++[p]) (xs++[x])=(F.addAt w ps xs).set p ((F.addAt w ps xs).getD p 0+x)
 |[],[],w,p,x,_=>rfl
 |q::ps,y::xs,w,p,x,h=>by
  simp only[List.cons_append,F.addAt];exact oW ps xs _ p x (by simpa using h)
def rG(n i:Nat):UInt8:=if n/2 ^ i%2=1 then 49 else 48
def mY(n:Nat):List UInt8:=[rG n 4,rG n 3,rG n 2,rG n 1,rG n 0]
theorem uN(n:Nat):(mY n).length=5:=rfl
def yw(c:List F):List UInt8:=c.flatMap fun x=>mY x.n
def lq(c:List F):List UInt8:=List.replicate 7 49++yw c++List.replicate 7 48
theorem sV(c:List F):(yw c).length=5*c.length:=by
 induction c with
 |nil=>rfl
 |cons x c ih=>unfold yw at *;rw[List.flatMap_cons,zI,ih,uN,xT];omega
theorem CX(c:List F)(x:F):yw (c++[x])=yw c++mY x.n:=by unfold yw;simp
theorem BZ{c:List F}(h:c.length=12):(lq c).length=74:=by unfold lq;rw[zI,zI,sV,h];rfl
def ji(b:UInt8):Bool:=b==48||(b==49||b==63)
def bA(s:List UInt8):Bool:=decide (s.length=74)&&s.all ji
theorem Ea{b:UInt8}:ji b=true↔b=48∨b=49∨b=63:=by unfold ji;simp
theorem jJ:bA s=true↔s.length=74∧∀b∈s,b=48∨b=49∨b=63:=by unfold bA;simp[Ea]
def dM(s:List UInt8)(b e:UInt8):Bool:=decide (4≤(s.take 7).count b)&&decide (4≤(s.drop 67).count e)
def j9(s:List UInt8):List UInt8:=if bA s then (if dM s 49 48 then s else if dM s 48 49 then s.reverse else []) else []
def jh(s:List UInt8):Int:=if bA s then (if dM s 49 48 then 0 else if dM s 48 49 then 0 else 26) else 7
theorem BF(s:List UInt8):bA s.reverse=bA s:=by unfold bA;rw[List.length_reverse,List.all_reverse]
theorem Db(h:jh s=0):bA (j9 s)=true:=by
 unfold jh at h;unfold j9;rcases yF (bA s) with hs|hs
 ·rw[hs]at h⊢;simp only[if_true]at h⊢;split
  ·exact hs
  ·split
   ·rw[BF];exact hs
   ·rename_i h1 h2
    rw[if_neg h1,if_neg h2]at h;omega
 ·rw[hs]at h;simp at h
def CP(b:List UInt8):Nat:=b.foldl (fun n x=>2*n+(x.toNat-48)) 0
def mE(b:List UInt8):Int:=if 63∈b then -1 else (CP b:Int)
def iM(s:List UInt8)(i:Nat):List UInt8:=(s.drop (7+5*i)).take 5
def dl(s:List UInt8):List Int:=(List.range 12).map fun i=>mE (iM s i)
theorem iu(s:List UInt8):(dl s).length=12:=by simp[dl]
theorem DZ(s:List UInt8){i:Nat}(h:i<12):(dl s)[i]?=some (mE (iM s i)):=by unfold dl;rw[zL,xH h];rfl
theorem Iv:∀a b c d e:Bool,CP [if a then 49 else 48,if b then 49 else 48,if c then 49 else 48,if d then 49 else 48,if e then 49 else 48]<32:=by decide
theorem Dh{b:List UInt8}(hl:b.length=5)(h:∀x∈b,x=48∨x=49∨x=63):-1≤mE b∧mE b<32:=by
 unfold mE;by_cases h63:63∈b
 ·rw[if_pos h63];omega
 ·rw[if_neg h63];have hb:∀x∈b,∃y:Bool,x=if y then 49 else 48:=fun x hx=>by
   rcases h x hx with e|e|e
   ·exact⟨false,by rw[e];rfl⟩
   ·exact⟨true,by rw[e];rfl⟩
   ·subst e;exact absurd hx h63
  match b,hl with
  |[x1,x2,x3,x4,x5],_ =>
   obtain⟨y1,rfl⟩:=hb x1 (by simp);obtain⟨y2,rfl⟩:=hb x2 (by simp);obtain⟨y3,rfl⟩:=hb x3 (by simp);obtain⟨y4,rfl⟩:=hb x4 (by simp);obtain⟨y5,rfl⟩:=hb x5 (by simp);have:=Iv y1 y2 y3 y4 y5;omega
theorem te(h:s.length=74){i:Nat}(hi:i<12):(iM s i).length=5:=by unfold iM;rw[zF,xS,h];omega
theorem pP(h:bA s=true):dt (-1) (dl s)=true:=by obtain⟨h1,h2⟩:=jJ.1 h;refine pQ (by rw[iu];omega) (by rw[iu];omega) fun x hx=>?_;unfold dl at hx;obtain⟨i,hi,rfl⟩:=zJ.1 hx;exact Dh (te h1 (zB.1 hi)) fun y hy=>h2 y (wE (wQ hy))
end Go.Proofs.YtjgfgdcaocbfhaaGreat

namespace Go.Proofs.YtjgfgdcaocbfhaaGreat
open Go.Value renaming int→A,slice→C
open Go.IntKind renaming i64→B
open Go.RowKit _root_.Go.Proofs.Tryz
variable {l s:List UInt8} {k n:Nat}
theorem zu{x:UInt8}(h:l[k]?=some x):(l.take (k+1)).all ji=((l.take k).all ji&&ji x):=by rw[ag h];simp
theorem tE(h:s.length≠74):bA s=false:=by unfold bA;rw[decide_eq_false h];rfl
theorem ze(h:s.length=74):bA s=s.all ji:=by unfold bA;rw[decide_eq_true h];rfl
theorem Cp{x:UInt8}(h:l[k]?=some x)(hx:ji x=false):l.all ji=false:=by rw[xR];exact⟨x,zU h,by rw[hx];simp⟩
theorem Et(x:UInt8):ji x=decide (x.toNat=48∨x.toNat=49∨x.toNat=63):=by
 unfold ji;have e:∀n:Nat,n<256→(x==UInt8.ofNat n)=decide (x.toNat=n):=fun n hn=>by rw[←If hn];by_cases h:x.toNat=n<;>simp[h];omega
 have e1:=e 48 (by omega);have e2:=e 49 (by omega);have e3:=e 63 (by omega);rw[show (48:UInt8)=UInt8.ofNat 48 from rfl,show (49:UInt8)=UInt8.ofNat 49 from rfl,show (63:UInt8)=UInt8.ofNat 63 from rfl,e1,e2,e3];simp
theorem dh(s:ByteArray)(w:World) :
  Calls prog 148 #[.string s] w fun e w'=>e=.returned (.bool (bA (bl s)))∧w=w':=by
 by_cases h:s.size=74
 ·have e1:((s.size:Int)!=74)=false:=by rw[h];rfl
  have HF:=zZ (ze ((aU s).trans h));have HL:=zZ ((aU s).trans h);have h74:74≤s.size:=by omega
  have h75:s.size≤74:=by omega
  clear h;go_enter func148,ntmps148
  go_wp2_with fail;go_loop [3] (fun i=>∃k:Nat,k≤74∧i=A B k∧Hid (((bl s).take k).all ji=true)) (fun i=>74-(intOf i).toNat)
  case atStart=>exact⟨0,by omega,rfl,rfl⟩
  case round =>
   obtain⟨k,hk,rfl,HK⟩:=hrel;by_cases hlt:k<74
   ·have hks:k<s.size:=by omega
    have HX:=zZ (qK hks);have HO:=zZ (Et s[k]);have step:ji s[k]=true→Hid (((bl s).take (k+1)).all ji=true):=fun h=>by
     show _=_
     rw[zu HX.out,HK.out,h];rfl
    by_cases a1:(s[k].toNat:Int)=48
    ·have hok:Hid (ji s[k]=true):=by show _=_;rw[HO.out];simp;omega
     have HS:=zZ (step hok.out);clear step HX HO hok;go_wp2_with fail;go_round
     case rel=>exact⟨k+1,by omega,by go_num,HS.out⟩
     case measure=>simp[intOf];omega
    by_cases a2:(s[k].toNat:Int)=49
    ·have hok:Hid (ji s[k]=true):=by show _=_;rw[HO.out];simp;omega
     have HS:=zZ (step hok.out);clear step HX HO hok a1;go_wp2_with fail;go_round
     case rel=>exact⟨k+1,by omega,by go_num,HS.out⟩
     case measure=>simp[intOf];omega
    by_cases a3:(s[k].toNat:Int)=63
    ·have hok:Hid (ji s[k]=true):=by show _=_;rw[HO.out];simp;omega
     have HS:=zZ (step hok.out);clear step HX HO hok a1 a2;go_wp2_with fail;go_round
     case rel=>exact⟨k+1,by omega,by go_num,HS.out⟩
     case measure=>simp[intOf];omega
    have hok:Hid (ji s[k]=false):=by show _=_;rw[HO.out];simp;omega
    have HS:=zZ (Cp HX.out hok.out);have q1:((s[k].toNat:Int)!=48)=true:=bne_iff_ne.2 a1;have q2:((s[k].toNat:Int)!=49)=true:=bne_iff_ne.2 a2;have q3:((s[k].toNat:Int)!=63)=true:=bne_iff_ne.2 a3;clear step HX HO hok;go_wp2_with fail;go_ret
    exact⟨aa (by rw[HF.out,HS.out]),rfl⟩
   ·obtain rfl:k=74:=by omega
    rw[aD HL.out]at HK;go_wp2_with fail;go_ret
    exact⟨aa (by rw[HF.out];exact HK.out.symm),rfl⟩
 ·have e1:((s.size:Int)!=74)=true:=by simp;omega
  have HF:=zZ (tE (s:=bl s) (by rw[aU];exact h));clear h;go_enter func148,ntmps148
  go_wp2_with fail;go_ret
  exact⟨aa HF.out.symm,rfl⟩
theorem Tryz.infoU8:(prog.info? 5).map (fun i=>(i.zero,i.size,i.bytes))=some (some (.int .u8 0),1,1):=by kernel_rfl
theorem C8{α:Type}{l:List α}{x:α}(h:l[k]?=some x):(l.drop k)=x::l.drop (k+1):=by obtain⟨hk,rfl⟩:=zY.1 h;exact List.drop_eq_getElem_cons hk
theorem DE{x:UInt8}(h:l[k]?=some x):(l.drop (k+1)).reverse++[x]=(l.drop k).reverse:=by rw[C8 h,List.reverse_cons]
theorem C3(w:World){base:Nat}{v:Value}(h:w.ownsRow base 5 1 v n (Lib.byteCells l))(hn:n≤1000000) :
  ∃t,(convert 180 9 v).run prog w=.ok (.string t) w∧bl t=l:=by
 have hn1:n=l.length:=by have:=h.1;rw[Lib.byteCells_length]at this;omega
 rcases h.2 with ⟨rfl,hnil⟩|⟨g,cap,cur,rfl,hg,hh,hnc,hcm,hcs,htk⟩
 ·obtain rfl:l=[]:=yO (by omega);exact⟨⟨#[]⟩,Lib.run_convert_nil_bytes w _ _ 5 0 underlying180 underlying5 underlying9,rfl⟩
 ·subst hn1;refine⟨⟨l.toArray⟩,?_,Hp l⟩;exact run_convert_bytes_back w _ _ 5 ⟨g,0,none⟩ cap l underlying180 underlying5 underlying9 (fun j hj=>Lib.bytes_of_row hh (by simpa using htk) j hj)
theorem mz(s:ByteArray)(w:World)(hs:s.size≤1000000) :
  Calls prog 93 #[.string s] w fun e w'=>∃t,e=.returned (.string t)∧bl t=(bl s).reverse∧ab w w':=by
 have HL:=zZ (aU s);obtain⟨i0,hi0,hz0,hz1,hz2⟩:=info_parts Tryz.infoU8;go_enter func93,ntmps93
 go_wp2_with fail;go_loopw [3,4] (fun v i wr=>∃k:Nat,k≤s.size∧i=A B ((k:Int)-1)∧Hid (wr.ownsRow w.heap.size 5 1 v (s.size-k) (Lib.byteCells ((bl s).drop k).reverse))∧Hid (ab w wr)) (fun _ i _=>((intOf i)+1).toNat)
 case atStart=>exact⟨s.size,zX _,rfl,by show World.ownsRow _ _ _ _ _ _ _;rw[List.drop_of_length_le (by rw[HL.out];exact zX _),Nat.sub_self];exact yW _ _ _ _,zE _⟩
 case round =>
  obtain⟨k,hk,rfl,HO,HE⟩:=hrel;have hsz:=HE.out.size;by_cases h0:0<k
  ·obtain⟨j,rfl⟩:∃j,k=j+1:=⟨k-1,by omega⟩
   have hj:j<s.size:=by omega
   have HX:=zZ (qK hj);have e1:(((j+1:Nat):Int)-1)=(j:Int):=by omega
   rw[e1];clear e1;go_wp2_with (at_builtin;refine al _ rfl (.tmp 12) (.tmp 16) 180 rfl w.heap.size 5 i0 _ 1 underlying180 hi0 hz0 hz1 hz2 rfl _ _ _ rfl (HO.out.alloc _) _ _ rfl (ak (heap_alloc_new _ _) rfl) rfl (by omega) (by omega) (by simp;omega) ?_;intro v' w' hown hg);go_roundw
   case rel =>
    refine⟨j,by omega,rfl,?_,?_⟩
    ·show World.ownsRow _ _ _ _ _ _ _
     rw[←DE HX.out,Lib.byteCells_append,show s.size-j=s.size-(j+1)+1 by omega];exact hown
    ·exact ab.grown (HE.out.alloc _) hg (fun q hq=>ar HO.out q hq)
   case measure=>simp[intOf]
  ·obtain rfl:k=0:=by omega
   obtain⟨t,ht,hb⟩:=C3 wr HO.out (by omega);have HT:=zZ hb;clear hb;go_wp2_with fail;go_ret
   exact⟨_,rfl,by rw[HT.out,List.drop_zero],HE.out⟩
theorem yh{x c:UInt8}(h:l[k]?=some x):(l.take (k+1)).count c=(l.take k).count c+(if x=c then 1 else 0):=by rw[ag h,List.count_append,List.count_singleton];by_cases hx:x=c<;>simp[hx]
theorem CT(s:ByteArray)(c:UInt8)(w:World)(hs:s.size≤1000000) :
  Calls prog 149 #[.string s,.int .u8 (c.toNat:Int)] w fun e w'=>e=.returned (A B ((bl s).count c:Int))∧w=w':=by
 have HL:=zZ (aU s);go_enter func149,ntmps149
 go_wp2_with fail;go_loop [5,6] (fun n i=>∃k m:Nat,k≤s.size∧i=A B k∧n=A B m∧m≤k∧Hid (((bl s).take k).count c=m)) (fun _ i=>s.size-(intOf i).toNat)
 case atStart=>exact⟨0,0,yK _,rfl,rfl,zX _,rfl⟩
 case round =>
  obtain⟨k,m,hk,rfl,rfl,hm,HK⟩:=hrel;by_cases hlt:k<s.size
  ·have HS:=zZ (yh (c:=c) (qK hlt));by_cases a1:s[k]=c
   ·rw[if_pos a1]at HS;rw[HK.out]at HS;have e1:((s[k].toNat:Int)==(c.toNat:Int))=true:=by rw[a1];simp
    have e2:s[k].toNat=c.toNat:=by rw[a1]
    clear a1;go_wp2_with fail;go_round
    case rel=>exact⟨k+1,m+1,by omega,by go_num,by go_num,by omega,HS.out⟩
    case measure=>simp[intOf];omega
   ·rw[if_neg a1]at HS;rw[HK.out]at HS;have e2:¬s[k].toNat=c.toNat:=fun e=>a1 (UInt8.toNat_inj.1 e);have e1:((s[k].toNat:Int)==(c.toNat:Int))=false:=beq_eq_false_iff_ne.2 (by omega);clear a1;go_wp2_with fail;go_round
    case rel=>exact⟨k+1,m,by omega,by go_num,rfl,by omega,HS.out⟩
    case measure=>simp[intOf];omega
  ·obtain rfl:k=s.size:=by omega
   rw[aD HL.out]at HK;go_wp2_with fail;go_ret
   exact⟨ah (by rw[HK.out]),rfl⟩
theorem ks(s:ByteArray)(c:UInt8)(w:World)(n:Nat)(h:(bl s).count c=n)(hs:s.size≤1000000) :
  Calls prog 149 #[.string s,.int .u8 (c.toNat:Int)] w fun e w'=>e=.returned (A B (n:Int))∧w=w':=by
 subst h;exact CT s c w hs
theorem qn(s:ByteArray)(w:World)(n:Nat)(h:(bl s).count 48=n)(hs:s.size≤1000000) :
  Calls prog 149 #[.string s,.int .u8 48] w fun e w'=>e=.returned (A B (n:Int))∧w=w':=ks s 48 w n h hs
theorem px(s:ByteArray)(w:World)(n:Nat)(h:(bl s).count 49=n)(hs:s.size≤1000000) :
  Calls prog 149 #[.string s,.int .u8 49] w fun e w'=>e=.returned (A B (n:Int))∧w=w':=ks s 49 w n h hs
theorem Ix(s:ByteArray)(w:World)(n:Nat)(h:(bl s).count 63=n)(hs:s.size≤1000000) :
  Calls prog 149 #[.string s,.int .u8 63] w fun e w'=>e=.returned (A B (n:Int))∧w=w':=ks s 63 w n h hs
theorem Ag{b e:UInt8}{m:Nat}(h1:(s.take 7).count b=n)(h2:(s.drop 67).count e=m):dM s b e=(decide (4≤n)&&decide (4≤m)):=by unfold dM;rw[h1,h2]
def G9(s:List UInt8)(w:World)(e:Ending)(w':World):Prop:=∃t k,e=.returned (.tuple #[.string t,A B k])∧k=jh s∧bl t=j9 s∧ab w w'
theorem Ft(h:bA s=false):j9 s=[]∧jh s=7:=by unfold j9 jh;rw[h];exact⟨rfl,rfl⟩
theorem GH(h:bA s=true)(h1:dM s 49 48=true):j9 s=s∧jh s=0:=by unfold j9 jh;rw[h,h1];exact⟨rfl,rfl⟩
theorem un(h:bA s=true)(h1:dM s 49 48=false)(h2:dM s 48 49=true):j9 s=s.reverse∧jh s=0:=by unfold j9 jh;rw[h,h1,h2];exact⟨rfl,rfl⟩
theorem kT(h:bA s=true)(h1:dM s 49 48=false)(h2:dM s 48 49=false):j9 s=[]∧jh s=26:=by unfold j9 jh;rw[h,h1,h2];exact⟨rfl,rfl⟩
structure IH (s:ByteArray) (n1 m1 n2 m2:Nat):Prop where
 n1:(bl (s.extract 0 7)).count 49=n1
 m1:(bl (s.extract 67 s.size)).count 48=m1
 n2:(bl (s.extract 0 7)).count 48=n2
 m2:(bl (s.extract 67 s.size)).count 49=m2
 e7:(s.extract 0 7).size≤1000000
 e67:(s.extract 67 s.size).size≤1000000
theorem rH(s:ByteArray)(w:World):Calls prog 121 #[.string s] w (G9 (bl s) w):=by
 rcases yF (bA (bl s)) with hb|hb
 ·have hs:s.size=74:=by rw[←aU];exact (jJ.1 hb).1
  have h74:74≤s.size:=by omega
  have h75:s.size≤74:=by omega
  obtain⟨n1,hn1⟩:∃n,((bl s).take 7).count 49=n:=⟨_,rfl⟩
  obtain⟨m1,hm1⟩:∃n,((bl s).drop 67).count 48=n:=⟨_,rfl⟩
  obtain⟨n2,hn2⟩:∃n,((bl s).take 7).count 48=n:=⟨_,rfl⟩
  obtain⟨m2,hm2⟩:∃n,((bl s).drop 67).count 49=n:=⟨_,rfl⟩
  have HM1:=zZ (Ag hn1 hm1);have HM2:=zZ (Ag hn2 hm2);have HC:IH s n1 m1 n2 m2:=⟨by rw[uv];exact hn1,by rw[lu];exact hm1,by rw[uv];exact hn2,by rw[lu];exact hm2,by rw[←aU,uv,zF,aU];omega,by rw[←aU,lu,xS,aU];omega⟩
  clear hs hn1 hm1 hn2 hm2;by_cases c1:4≤n1
  ·by_cases c2:4≤m1
   ·have g1:dM (bl s) 49 48=true:=by rw[HM1.out];simp;omega
    obtain⟨u1,u2⟩:=GH hb g1;have U1:=zZ u1;have U2:=zZ u2;clear u1 u2 g1 HM1 HM2;go_enter func121,ntmps121
    go_wp2_with fail;refine (dh _ _).mono ?_;rintro r w1 ⟨rfl,rfl⟩;rw[hb];go_wp2_with fail;refine (px _ _ n1 HC.n1 HC.e7).mono ?_;rintro r w1 ⟨rfl,rfl⟩;go_wp2_with fail;refine (qn _ _ m1 HC.m1 HC.e67).mono ?_;rintro r w1 ⟨rfl,rfl⟩;go_wp2_with fail;go_ret2
    exact⟨s,0,rfl,U2.out.symm,U1.out.symm,zE _⟩
   ·by_cases c3:4≤n2
    ·by_cases c4:4≤m2
     ·have g1:dM (bl s) 49 48=false:=by rw[HM1.out];simp;omega
      have g2:dM (bl s) 48 49=true:=by rw[HM2.out];simp;omega
      obtain⟨u1,u2⟩:=un hb g1 g2;have U1:=zZ u1;have U2:=zZ u2;clear u1 u2 g1 HM1 HM2 g2;go_enter func121,ntmps121
      go_wp2_with fail;refine (dh _ _).mono ?_;rintro r w1 ⟨rfl,rfl⟩;rw[hb];go_wp2_with fail;refine (px _ _ n1 HC.n1 HC.e7).mono ?_;rintro r w1 ⟨rfl,rfl⟩;go_wp2_with fail;refine (qn _ _ m1 HC.m1 HC.e67).mono ?_;rintro r w1 ⟨rfl,rfl⟩;go_wp2_with fail;refine (qn _ _ n2 HC.n2 HC.e7).mono ?_;rintro r w1 ⟨rfl,rfl⟩;go_wp2_with fail;refine (px _ _ m2 HC.m2 HC.e67).mono ?_;rintro r w1 ⟨rfl,rfl⟩;go_wp2_with fail;refine (mz s _ (by omega)).mono ?_;rintro r w1 ⟨t,rfl,ht,hx⟩;have HT:=zZ ht;have HX:=zZ hx;clear ht hx;go_wp2_with fail;go_ret2
      exact⟨t,0,rfl,U2.out.symm,by rw[U1.out,HT.out],HX.out⟩
     ·have g1:dM (bl s) 49 48=false:=by rw[HM1.out];simp;omega
      have g2:dM (bl s) 48 49=false:=by rw[HM2.out];simp;omega
      obtain⟨u1,u2⟩:=kT hb g1 g2;have U1:=zZ u1;have U2:=zZ u2;clear u1 u2 g1 HM1 HM2 g2;go_enter func121,ntmps121
      go_wp2_with fail;refine (dh _ _).mono ?_;rintro r w1 ⟨rfl,rfl⟩;rw[hb];go_wp2_with fail;refine (px _ _ n1 HC.n1 HC.e7).mono ?_;rintro r w1 ⟨rfl,rfl⟩;go_wp2_with fail;refine (qn _ _ m1 HC.m1 HC.e67).mono ?_;rintro r w1 ⟨rfl,rfl⟩;go_wp2_with fail;refine (qn _ _ n2 HC.n2 HC.e7).mono ?_;rintro r w1 ⟨rfl,rfl⟩;go_wp2_with fail;refine (px _ _ m2 HC.m2 HC.e67).mono ?_;rintro r w1 ⟨rfl,rfl⟩;go_wp2_with fail;go_ret2
      exact⟨_,_,rfl,U2.out.symm,by rw[U1.out];rfl,zE _⟩
    ·have g1:dM (bl s) 49 48=false:=by rw[HM1.out];simp;omega
     have g2:dM (bl s) 48 49=false:=by rw[HM2.out];simp;omega
     obtain⟨u1,u2⟩:=kT hb g1 g2;have U1:=zZ u1;have U2:=zZ u2;clear u1 u2 g1 HM1 HM2 g2;go_enter func121,ntmps121
     go_wp2_with fail;refine (dh _ _).mono ?_;rintro r w1 ⟨rfl,rfl⟩;rw[hb];go_wp2_with fail;refine (px _ _ n1 HC.n1 HC.e7).mono ?_;rintro r w1 ⟨rfl,rfl⟩;go_wp2_with fail;refine (qn _ _ m1 HC.m1 HC.e67).mono ?_;rintro r w1 ⟨rfl,rfl⟩;go_wp2_with fail;refine (qn _ _ n2 HC.n2 HC.e7).mono ?_;rintro r w1 ⟨rfl,rfl⟩;go_wp2_with fail;go_ret2
     exact⟨_,_,rfl,U2.out.symm,by rw[U1.out];rfl,zE _⟩
  ·by_cases c3:4≤n2
   ·by_cases c4:4≤m2
    ·have g1:dM (bl s) 49 48=false:=by rw[HM1.out];simp;omega
     have g2:dM (bl s) 48 49=true:=by rw[HM2.out];simp;omega
     obtain⟨u1,u2⟩:=un hb g1 g2;have U1:=zZ u1;have U2:=zZ u2;clear u1 u2 g1 HM1 HM2 g2;go_enter func121,ntmps121
     go_wp2_with fail;refine (dh _ _).mono ?_;rintro r w1 ⟨rfl,rfl⟩;rw[hb];go_wp2_with fail;refine (px _ _ n1 HC.n1 HC.e7).mono ?_;rintro r w1 ⟨rfl,rfl⟩;go_wp2_with fail;refine (qn _ _ n2 HC.n2 HC.e7).mono ?_;rintro r w1 ⟨rfl,rfl⟩;go_wp2_with fail;refine (px _ _ m2 HC.m2 HC.e67).mono ?_;rintro r w1 ⟨rfl,rfl⟩;go_wp2_with fail;refine (mz s _ (by omega)).mono ?_;rintro r w1 ⟨t,rfl,ht,hx⟩;have HT:=zZ ht;have HX:=zZ hx;clear ht hx;go_wp2_with fail;go_ret2
     exact⟨t,0,rfl,U2.out.symm,by rw[U1.out,HT.out],HX.out⟩
    ·have g1:dM (bl s) 49 48=false:=by rw[HM1.out];simp;omega
     have g2:dM (bl s) 48 49=false:=by rw[HM2.out];simp;omega
     obtain⟨u1,u2⟩:=kT hb g1 g2;have U1:=zZ u1;have U2:=zZ u2;clear u1 u2 g1 HM1 HM2 g2;go_enter func121,ntmps121
     go_wp2_with fail;refine (dh _ _).mono ?_;rintro r w1 ⟨rfl,rfl⟩;rw[hb];go_wp2_with fail;refine (px _ _ n1 HC.n1 HC.e7).mono ?_;rintro r w1 ⟨rfl,rfl⟩;go_wp2_with fail;refine (qn _ _ n2 HC.n2 HC.e7).mono ?_;rintro r w1 ⟨rfl,rfl⟩;go_wp2_with fail;refine (px _ _ m2 HC.m2 HC.e67).mono ?_;rintro r w1 ⟨rfl,rfl⟩;go_wp2_with fail;go_ret2
     exact⟨_,_,rfl,U2.out.symm,by rw[U1.out];rfl,zE _⟩
   ·have g1:dM (bl s) 49 48=false:=by rw[HM1.out];simp;omega
    have g2:dM (bl s) 48 49=false:=by rw[HM2.out];simp;omega
    obtain⟨u1,u2⟩:=kT hb g1 g2;have U1:=zZ u1;have U2:=zZ u2;clear u1 u2 g1 HM1 HM2 g2;go_enter func121,ntmps121
    go_wp2_with fail;refine (dh _ _).mono ?_;rintro r w1 ⟨rfl,rfl⟩;rw[hb];go_wp2_with fail;refine (px _ _ n1 HC.n1 HC.e7).mono ?_;rintro r w1 ⟨rfl,rfl⟩;go_wp2_with fail;refine (qn _ _ n2 HC.n2 HC.e7).mono ?_;rintro r w1 ⟨rfl,rfl⟩;go_wp2_with fail;go_ret2
    exact⟨_,_,rfl,U2.out.symm,by rw[U1.out];rfl,zE _⟩
 ·obtain⟨u1,u2⟩:=Ft hb;have U1:=zZ u1;have U2:=zZ u2;clear u1 u2;go_enter func121,ntmps121
  go_wp2_with fail;refine (dh _ _).mono ?_;rintro r w1 ⟨rfl,rfl⟩;rw[hb];go_wp2_with fail;go_ret2
  exact⟨_,_,rfl,U2.out.symm,by rw[U1.out];rfl,zE _⟩
structure Iw (base g:Nat) (tS tI:TypeId) (w:World) (M:Nat→Nat→F) (wd:Nat) (b cu:Nat→Nat) (hd:Array Value):Prop where
 head:w.heap[g]?=some (.cells hd tS (0,0))
 hdAt:∀r,r<6→hd[r]?=some (C (some ⟨b r,0,none⟩) wd (cu r))
 row:∀r,r<6→∃cur:Array Value,w.heap[b r]?=some (.cells cur tI (0,0))∧∀c,c<wd→cur[c]?=some (A B ((M r c).n:Int))
 inj:∀r s,r<6→s<6→b r=b s→r=s
 gne:∀r,r<6→b r≠g
 bge:∀r,r<6→base≤b r
 gge:base≤g
 cap:∀r,r<6→wd≤cu r∧cu r≤9223372036854775807
def eT(base g:Nat)(tS tI:TypeId)(w:World)(M:Nat→Nat→F)(wd:Nat):Prop:=∃b cu hd,Iw base g tS tI w M wd b cu hd
section
variable {base g wd:Nat} {tS tI:TypeId} {w w':World} {M N:Nat→Nat→F}
theorem eT.keep(h:eT base g tS tI w M wd)(e:∀k,base≤k→k<w.heap.size→w'.heap[k]?=w.heap[k]?):eT base g tS tI w' M wd:=by obtain⟨b,cu,hd,h⟩:=h;refine⟨b,cu,hd,⟨(e g h.gge (bK h.head)).trans h.head,h.hdAt,fun r hr=>?_,h.inj,h.gne,h.bge,h.gge,h.cap⟩⟩;obtain⟨cur,h1,h2⟩:=h.row r hr;exact⟨cur,(e _ (h.bge r hr) (bK h1)).trans h1,h2⟩
theorem eT.ext(h:eT base g tS tI w M wd)(e:ab w w'):eT base g tS tI w' M wd:=h.keep fun k _ hk=>e.block k hk
theorem eT.xt{p:Nat}(h:eT base g tS tI w M wd)(e:XT p w w')(hp:p<base):eT base g tS tI w' M wd:=h.keep fun k hb hk=>e.block k hk (fun e=>by injection e;omega)
theorem eT.congr(h:eT base g tS tI w M wd)(e:∀r c,r<6→c<wd→M r c=N r c):eT base g tS tI w N wd:=by obtain⟨b,cu,hd,h⟩:=h;refine⟨b,cu,hd,⟨h.head,h.hdAt,fun r hr=>?_,h.inj,h.gne,h.bge,h.gge,h.cap⟩⟩;obtain⟨cur,h1,h2⟩:=h.row r hr;exact⟨cur,h1,fun c hc=>by rw[←e r c hr hc];exact h2 c hc⟩
theorem eT.at_(h:eT base g tS tI w M wd){r:Nat}(hr:r<6) :
  ∃b cu,w.cell? ⟨g,r,none⟩=some (C (some ⟨b,0,none⟩) wd cu)∧wd≤cu∧cu≤9223372036854775807∧base≤b∧b≠g ∧
   (∀c,c<wd→w.cell? ⟨b,c,none⟩=some (A B ((M r c).n:Int)))∧(∀c,w.frozen? ⟨b,c,none⟩=false) ∧
   (∀(w':World) (c:Nat) (y:F),ab w w'→eT base g tS tI (w'.setCell ⟨b,c,none⟩ (A B (y.n:Int))) (F.upd M r c y) wd∧Below base w (w'.setCell ⟨b,c,none⟩ (A B (y.n:Int)))):=by
 obtain⟨b,cu,hd,h⟩:=h;obtain⟨cur,h1,h2⟩:=h.row r hr;refine⟨b r,cu r,ak h.head (h.hdAt r hr),(h.cap r hr).1,(h.cap r hr).2,h.bge r hr,h.gne r hr,fun c hc=>ak h1 (h2 c hc),fun c=>ax h1 c,fun w' c y e=>⟨⟨b,cu,hd,⟨?_,h.hdAt,fun s hs=>?_,h.inj,h.gne,h.bge,h.gge,h.cap⟩⟩,?_⟩⟩
 ·rw[xE _ _ _ _ (by simpa using (h.gne r hr).symm)];exact e.blk h.head
 ·by_cases es:s=r
  ·subst es;refine⟨_,dS (e.blk h1) _,fun c' hc'=>?_⟩;rw[wZ];unfold F.upd;by_cases ec:c=c'
   ·subst ec;have:c<cur.size:=by have:=h2 c hc';exact (Array.getElem?_eq_some_iff.1 this).1
    rw[if_pos rfl,if_pos this,if_pos ⟨rfl,rfl⟩]
   ·rw[if_neg ec,if_neg (fun h=>ec h.2.symm)];exact h2 c' hc'
  ·obtain⟨cur',h3,h4⟩:=h.row s hs;have hb:b s≠b r:=fun e=>es (h.inj s r hs hr e);refine⟨cur',?_,fun c' hc'=>?_⟩
   ·rw[xE _ _ _ _ (by simpa using hb)];exact e.blk h3
   ·unfold F.upd;rw[if_neg (fun h=>es h.1)];exact h4 c' hc'
 ·have hlt:base≤w.heap.size:=yL (h.bge r hr) (Nat.le_of_lt (bK h1));exact Below.setCell (Below.mono e hlt) (h.bge r hr) _
theorem eT.frozAt(h:eT base g tS tI w M wd){r b cu:Nat}(hr:r<6)(hc:w.cell? ⟨g,r,none⟩=some (C (some ⟨b,0,none⟩) n cu))(c:Nat):w.frozen? ⟨b,c,none⟩=false:=by obtain⟨b',cu',h0,_,_,_,_,_,h4,_⟩:=h.at_ hr;rw[hc]at h0;injection h0 with h0;injection h0 with h1;injection h1 with h1;injection h1 with h1;subst h1;exact h4 c
theorem eT.swap(h:eT base g tS tI w M wd){p:Nat}(hk:k<6)(hp:p<6) :
  ∃bk ck bp cp,w.cell? ⟨g,k,none⟩=some (C (some ⟨bk,0,none⟩) wd ck)∧w.cell? ⟨g,p,none⟩=some (C (some ⟨bp,0,none⟩) wd cp)∧w.frozen? ⟨g,k,none⟩=false∧w.frozen? ⟨g,p,none⟩=false ∧
   ∀w':World,ab w w'→eT base g tS tI ((w'.setCell ⟨g,k,none⟩ (C (some ⟨bp,0,none⟩) wd cp)).setCell ⟨g,p,none⟩ (C (some ⟨bk,0,none⟩) wd ck)) (F.swapM M k p) wd ∧
    Below base w ((w'.setCell ⟨g,k,none⟩ (C (some ⟨bp,0,none⟩) wd cp)).setCell ⟨g,p,none⟩ (C (some ⟨bk,0,none⟩) wd ck)):=by
 obtain⟨b,cu,hd,h⟩:=h;have hsz:∀r,r<6→r<hd.size:=fun r hr=>(Array.getElem?_eq_some_iff.1 (h.hdAt r hr)).1;refine⟨b k,cu k,b p,cu p,ak h.head (h.hdAt k hk),ak h.head (h.hdAt p hp),ax h.head k,ax h.head p,fun w' e=>⟨?_,?_⟩⟩
 ·refine⟨fun r=>if r=k then b p else if r=p then b k else b r,fun r=>if r=k then cu p else if r=p then cu k else cu r,_,⟨dS (dS (e.blk h.head) _) _,fun r hr=>?_,fun r hr=>?_,fun r s hr hs he=>?_,fun r hr=>?_,fun r hr=>?_,h.gge,fun r hr=>?_⟩⟩
  ·rw[wZ,wZ,wH];by_cases e1:p=r
   ·subst e1;rw[if_pos rfl,if_pos (hsz p hp)];by_cases e2:p=k
    ·subst e2;simp
    ·simp[e2]
   ·rw[if_neg e1];by_cases e2:k=r
    ·subst e2;rw[if_pos rfl,if_pos (hsz k hk)];simp
    ·rw[if_neg e2,h.hdAt r hr];simp[Ne.symm e1,Ne.symm e2]
  ·have hkeep:∀s,s<6→((w'.setCell ⟨g,k,none⟩ (C (some ⟨b p,0,none⟩) wd (cu p))).setCell ⟨g,p,none⟩ (C (some ⟨b k,0,none⟩) wd (cu k))).heap[b s]?=w.heap[b s]?:=fun s hs=>by
    rw[xE _ _ _ _ (by simpa using h.gne s hs),xE _ _ _ _ (by simpa using h.gne s hs)];obtain⟨cur,h1,_⟩:=h.row s hs;exact e.block _ (bK h1)
   unfold F.swapM;by_cases e1:r=k
   ·simp only[if_pos e1];rw[hkeep p hp];exact h.row p hp
   ·by_cases e2:r=p
    ·simp only[if_neg e1,if_pos e2];rw[hkeep k hk];exact h.row k hk
    ·simp only[if_neg e1,if_neg e2];rw[hkeep r hr];exact h.row r hr
  ·have hi:=h.inj;split at he
   ·split at he
    ·omega
    ·split at he
     ·have:=hi _ _ hp hk he;omega
     ·have:=hi _ _ hp hs he;omega
   ·split at he
    ·split at he
     ·have:=hi _ _ hk hp he;omega
     ·split at he
      ·omega
      ·have:=hi _ _ hk hs he;omega
    ·split at he
     ·have:=hi _ _ hr hp he;omega
     ·split at he
      ·have:=hi _ _ hr hk he;omega
      ·exact hi _ _ hr hs he
  ·split
   ·exact h.gne p hp
   ·split
    ·exact h.gne k hk
    ·exact h.gne r hr
  ·split
   ·exact h.bge p hp
   ·split
    ·exact h.bge k hk
    ·exact h.bge r hr
  ·split
   ·exact h.cap p hp
   ·split
    ·exact h.cap k hk
    ·exact h.cap r hr
 ·have hlt:base≤w.heap.size:=yL h.gge (Nat.le_of_lt (bK h.head));exact Below.setCell (Below.setCell (Below.mono e hlt) h.gge _) h.gge _
end
theorem ab.below_trans{base:Nat}{w0 w w':World}(h:ab w0 w)(hb:w0.heap.size≤base)(k:Below base w w'):ab w0 w':=Below.trans h (Below.mono k hb)
end Go.Proofs.YtjgfgdcaocbfhaaGreat

