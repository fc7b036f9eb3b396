import Derived.Test.YtjgfgdcaocbfhaaGreatH6
import Derived.Lib.SliceRun
import Derived.Laws.CopyRow
set_option linter.all false
set_option maxRecDepth 100000
set_option maxHeartbeats 0
namespace Go.Proofs.YtjgfgdcaocbfhaaGreat
open Go.RowKit _root_.Go.Proofs.Tryz
variable {l:List Int} {base c g n:Nat} {w:World}
def wI(l:List F):List Int:=l.map fun c=>(c.n:Int)
theorem dv(l:List F):(wI l).length=l.length:=by simp[wI]
theorem xl(a b:F)(w:World) :
  Calls prog 143 #[.int .i64 (a.n:Int),.int .i64 (b.n:Int)] w fun e w'=>e=.returned (.int .i64 ((a*b).n:Int))∧w'=w:=by
 have h:=Bz a.n b.n w a.lt b.lt;rw[nj _ _ a.lt b.lt,←F.n_mul]at h;exact h
theorem DS(m:Nat):Ds (m:Int)=((F.gp m).n:Int):=by rw[F.n_gp];unfold Ds;rw[show ((m:Int)%31).toNat=m%31 by omega]
theorem uk(m:Nat)(w:World)(h:m≤1000000) :
  Calls prog 140 #[.int .i64 (m:Int)] w fun e w'=>e=.returned (.int .i64 ((F.gp m).n:Int))∧ab w w':=by
 have:=vN m w (by omega) (by omega);rw[DS]at this;exact this
theorem G6(a:F):Ce (a.n:Int)=(a.inv.n:Int):=by
 have:=a.lt;unfold Ce lX;rw[F.n_inv];by_cases h:a.n=0
 ·rw[if_neg (by simp[h]),if_pos h];rfl
 ·rw[if_pos (by simp;omega),if_neg h];simp
theorem vK(a:F)(w:World) :
  Calls prog 142 #[.int .i64 (a.n:Int)] w fun e w'=>e=.returned (.int .i64 (a.inv.n:Int))∧w'=w:=by
 have ha:=a.lt;have:=rT a.n w (by omega) (by omega);rw[G6]at this;exact this
theorem Gy(a b:F):bits .xor .i64 (a.n:Int) (b.n:Int)=((a+b).n:Int):=by have ha:=a.lt;have hb:=b.lt;rw[tZ _ _ (by omega) (by omega),F.n_add]
def mW(wd:List F)(i:Nat):F:=F.ev (F.gp (i+1)) wd
def GU(f x:Int):Bool:=decide (x<f)||decide (32≤x)
def dt(f:Int)(l:List Int):Bool:=decide (7≤l.length)&&(decide (l.length≤15)&&!l.any (GU f))
def ff(l:List Int):List F:=l.map fun x=>F.mk (x.toNat%32) (xD _ (by decide))
theorem cE(l:List Int):(ff l).length=l.length:=by simp[ff]
theorem DI(h:∀x∈l,0≤x∧x<32):wI (ff l)=l:=by
 unfold wI ff;rw[List.map_map];refine (wD (g:=id) fun x hx=>?_).trans (List.map_id l);have:=h x hx;show ((x.toNat%32:Nat):Int)=x
 omega
theorem wi(l:List F):ff (wI l)=l:=by
 unfold wI ff;rw[List.map_map];refine (wD (g:=id) fun x _=>F.ext ?_).trans (List.map_id l);have:=x.lt;show ((x.n:Int)).toNat%32=x.n
 omega
theorem ei{f:Int}(h:dt f l=true):7≤l.length∧l.length≤15∧∀x∈l,f≤x∧x<32:=by unfold dt at h;simp only[yY,decide_eq_true_eq,wC,wL]at h;refine⟨h.1,h.2.1,fun x hx=>?_⟩;have:=h.2.2 x hx;unfold GU at this;simp only[Bool.or_eq_true,decide_eq_true_eq]at this;omega
theorem pQ{f:Int}(h1:7≤l.length)(h2:l.length≤15)(h:∀x∈l,f≤x∧x<32):dt f l=true:=by unfold dt;simp only[yY,decide_eq_true_eq,wC,wL];refine⟨h1,h2,fun x hx=>?_⟩;have:=h x hx;unfold GU;simp only[Bool.or_eq_true,decide_eq_true_eq];omega
def gk(l:List Int):Bool:=dt 0 l&&(mW (ff l) 0==0&&(mW (ff l) 1==0&&(mW (ff l) 2==0&&(mW (ff l) 3==0&&(mW (ff l) 4==0&&mW (ff l) 5==0)))))
theorem Cq(a:F):((a.n:Int)==0)=(a==0):=by
 by_cases h:a=0
 ·subst h;simp[F.n_zero]
 ·have:a.n≠0:=fun e=>h (F.ext e);rw[beq_eq_false_iff_ne.2 h,beq_eq_false_iff_ne.2 (by omega)]
theorem pd(wd:List F):(mW wd 0==0&&(mW wd 1==0&&(mW wd 2==0&&(mW wd 3==0&&(mW wd 4==0&&mW wd 5==0)))))=true↔F.Code wd:=by
 simp only[yY,beq_iff_eq];constructor
 ·rintro⟨h0,h1,h2,h3,h4,h5⟩ j j1 j2;have:j=1∨j=2∨j=3∨j=4∨j=5∨j=6:=by omega
  rcases this with rfl|rfl|rfl|rfl|rfl|rfl
  ·exact h0
  ·exact h1
  ·exact h2
  ·exact h3
  ·exact h4
  ·exact h5
 ·intro h;exact⟨h 1 (by omega) (by omega),h 2 (by omega) (by omega),h 3 (by omega) (by omega),h 4 (by omega) (by omega),h 5 (by omega) (by omega),h 6 (by omega) (by omega)⟩
theorem sU{wd:List F}(h7:7≤wd.length)(h15:wd.length≤15):gk (wI wd)=true↔F.Code wd:=by
 unfold gk;have hw:dt 0 (wI wd)=true:=pQ (by rw[dv];exact h7) (by rw[dv];exact h15) (by intro x hx;unfold wI at hx;obtain⟨c,_,rfl⟩:=zJ.1 hx;have:=c.lt;omega)
 rw[hw,wi,yU];exact pd wd
def gD(base:Nat)(w:World)(v:Value)(l:List F):Prop:=w.ownsRow base 3 1 v l.length ((wI l).map (Value.int .i64))
theorem pH(l:List F):∀x∈wI l,aC x:=by intro x hx;unfold wI at hx;obtain⟨c,_,rfl⟩:=zJ.1 hx;have:=c.lt;constructor<;>omega
theorem gD.put{l:List F}(h:gD base w (.slice (some ⟨g,0,none⟩) n c) l)(hn:l.length=n)(j:Nat)(y:F) :
  gD base (w.setCell ⟨g,j,none⟩ (.int .i64 (y.n:Int))) (.slice (some ⟨g,0,none⟩) n c) (l.set j y):=by
 subst hn;have:=(World.ownsRow.stored h j (.int .i64 (y.n:Int))).1;unfold gD;rw[xO];unfold wI at this⊢;rw[List.map_set,List.map_set];exact this
theorem gD.cell{k:Nat}{l:List F}{x:F}(h:gD base w (.slice (some ⟨g,0,none⟩) n c) l)(hn:l.length=n)(hx:l[k]?=some x):w.cell? ⟨g,k,none⟩=some (.int .i64 (x.n:Int)):=by subst hn;have hk:=(zY.1 hx).1;rw[World.ownsRow.cellAt h k (by omega)];unfold wI;rw[zL,zL,hx];rfl
theorem gD.froz{l:List F}(h:gD base w (.slice (some ⟨g,0,none⟩) n c) l)(hn:l.length=n)(k:Nat):w.frozen? ⟨g,k,none⟩=false:=by subst hn;exact World.ownsRow.frozenAt h k
theorem gD.ext{w':World}{v:Value}{l:List F}(h:gD base w v l)(hx:ab w w'):gD base w' v l:=ac h hx
def jf(l:List Int):Bool:=decide (1≤l.length)&&(decide (l.length≤9)&&!l.any fun x=>!lX x)
theorem pE(h:jf l=true):1≤l.length∧l.length≤9∧∀x∈l,0≤x∧x<32:=by unfold jf at h;simp only[yY,decide_eq_true_eq,wC,wL]at h;refine⟨h.1,h.2.1,fun x hx=>?_⟩;have:=h.2.2 x hx;unfold lX at this;simp at this;omega
theorem uM(h1:1≤l.length)(h2:l.length≤9)(h:∀x∈l,0≤x∧x<32):jf l=true:=by unfold jf;simp only[yY,decide_eq_true_eq,wC,wL];refine⟨h1,h2,fun x hx=>?_⟩;have:=h x hx;unfold lX;simp;omega
def sl(d:List F):List F:=d++F.encRest F.genL d
def pp(l:List Int):List Int:=if jf l then wI (sl (ff l)) else []
def tx(l:List Int):Int:=if jf l then 0 else 2
theorem tP(d:List F):(sl d).length=d.length+6:=by unfold sl;rw[zI,(F.enc_code d).2]
theorem Cn(d:List F):F.Code (sl d):=(F.enc_code d).1
theorem kP{base' e size:Nat}{v:Value}{xs:List Value}(h:w.ownsRow base e size v n xs)(hb:base'≤base):w.ownsRow base' e size v n xs:=by
 rcases h with ⟨h1,h2|⟨g,cap,cur,hv,hg,r⟩⟩
 ·exact⟨h1,.inl h2⟩
 ·exact⟨h1,.inr ⟨g,cap,cur,hv,yL hb hg,r⟩⟩
end Go.Proofs.YtjgfgdcaocbfhaaGreat

namespace Go.Proofs.YtjgfgdcaocbfhaaGreat
variable {p:Nat} {s:List UInt8}
def fO(l:List Int)(k:Nat):List Nat:=(List.range k).filter fun i=>l.getD i 0==-1
def mr(l:List Int)(k:Nat):List Nat:=(List.range k).filter fun i=>!(l.getD i 0==-1)
section
variable {l:List Int} {k:Nat} {x:Int}
theorem jC(h:l[k]?=some x):l.getD k 0=x:=by rw[yD,h];rfl
theorem DR(h:l[k]?=some x)(e:x=-1):fO l (k+1)=fO l k++[k]:=by unfold fO;rw[yC,yJ];simp only[wS,List.filter_nil,jC h,e];rfl
theorem Da(h:l[k]?=some x)(e:x≠-1):fO l (k+1)=fO l k:=by unfold fO;rw[yC,yJ];simp[wS,h,e]
theorem tk(h:l[k]?=some x)(e:x≠-1):mr l (k+1)=mr l k++[k]:=by unfold mr;rw[yC,yJ];simp[wS,h,e]
theorem CW(h:l[k]?=some x)(e:x=-1):mr l (k+1)=mr l k:=by unfold mr;rw[yC,yJ];simp[wS,h,e]
theorem DJ(l:List Int)(k:Nat):(fO l k).length≤k:=by unfold fO;have:=xC (fun i=>l.getD i 0==-1) (List.range k);simpa using this
theorem Ak(h:p∈fO l k):p<k:=by unfold fO at h;exact zB.1 (xY.1 h).1
theorem mC:p∈fO l k↔p<k∧l.getD p 0=-1:=by unfold fO;simp[xY]
theorem py:p∈mr l k↔p<k∧l.getD p 0≠-1:=by unfold mr;simp[xY]
theorem mN(l:List Int)(k:Nat):(fO l k++mr l k).Nodup:=by rw[List.nodup_append];refine⟨List.nodup_range.filter _,List.nodup_range.filter _,fun a ha b hb e=>?_⟩;subst e;exact (py.1 hb).2 (mC.1 ha).2
end
def gt(l:List Int)(c:List F):List Nat:=(mr l l.length).filter fun i=>!((ff l).getD i 0==c.getD i 0)
structure vM (l:List Int) (c:List F) (e:Nat):Prop where
 len:c.length=l.length
 code:F.Code c
 err:(gt l c).length=e
 near:2*e+(fO l l.length).length≤6
theorem ml{α:Type}[DecidableEq α]:∀(a b:List α),a.Nodup→(∀x∈a,x∈b)→a.length≤b.length
 |[],b,_,_=>yK _
 |x::a,b,h,hs=>by
  rw[List.nodup_cons]at h;have hx:=hs x wU;have:=ml a (b.erase x) h.2 (fun y hy=>(List.mem_erase_of_ne (fun (e:y=x)=>h.1 (e▸hy))).2 (hs y (wV _ hy)));rw[List.length_erase_of_mem hx]at this;have:=List.length_pos_of_mem hx;simp;omega
theorem ry:∀(a b:List F),a.length=b.length→(F.diffs a b).length=((List.range a.length).filter fun i=>!(a.getD i 0==b.getD i 0)).length
 |[],[],_=>rfl
 |c::a,d::b,h=>by
  have ih:=ry a b (by simpa using h);rw[xT,List.range_succ_eq_map,wS,List.filter_map];unfold F.diffs;by_cases e:c=d
  ·rw[if_pos e];simp only[List.getD_cons_zero,e,beq_self_eq_true,Bool.not_true,Bool.false_eq_true,if_false,zM];rw[ih];rfl
  ·rw[if_neg e];simp only[List.getD_cons_zero,beq_eq_false_iff_ne.2 e,Bool.not_false,if_true,xT,zM];rw[ih];rfl
theorem EB{a b:List F}{ps:List Nat}(h:a.length=b.length)(hp:∀i,i<a.length→a.getD i 0≠b.getD i 0→i∈ps):(F.diffs a b).length≤ps.length:=by rw[ry a b h];refine ml _ _ (List.nodup_range.filter _) fun i hi=>?_;rw[xY,zB]at hi;exact hp i hi.1 (by simpa using hi.2)
theorem Cu{l:List Int}{c c':List F}{e e':Nat}(h15:l.length≤31)(h:vM l c e)(h':vM l c' e'):c=c'∧e=e':=by
 have hc:c=c':=by
  refine F.code_apart h.code h'.code (h.len.trans h'.len.symm) (by rw[h.len];exact h15) ?_;refine yL (EB (ps:=fO l l.length++gt l c++gt l c') (h.len.trans h'.len.symm) fun i hi hne=>?_) ?_
  ·rw[h.len]at hi;rcases Classical.em (l.getD i 0=-1) with h1|h1
   ·exact wB _ (wB _ (mC.2 ⟨hi,h1⟩))
   ·rcases Classical.em ((ff l).getD i 0=c.getD i 0) with h2|h2
    ·refine List.mem_append_right _ (xY.2 ⟨py.2 ⟨hi,h1⟩,?_⟩);rw[h2];simpa using hne
    ·exact wB _ (List.mem_append_right _ (xY.2 ⟨py.2 ⟨hi,h1⟩,by simpa using h2⟩))
  ·have:=h.near;have:=h'.near;have:=h.err;have:=h'.err
   simp only[zI];omega
 subst hc;exact⟨rfl,h.err.symm.trans h'.err⟩
theorem BW{l:List Int}{c:List F}(hl:c.length=l.length):F.Off (ff l) c (fO l l.length++gt l c):=by
 refine⟨by rw[cE];exact hl,fun i hi=>?_⟩;rcases zV i l.length with h|h
 ·have h1:l.getD i 0≠-1:=fun e=>hi (wB _ (mC.2 ⟨h,e⟩));have h2:(ff l).getD i 0=c.getD i 0:=Classical.byContradiction fun e=>hi (List.mem_append_right _ (xY.2 ⟨py.2 ⟨h,h1⟩,by simpa using e⟩));rw[F.getD_eq (w:=c) (by omega),F.getD_eq (w:=ff l) (by rw[cE];exact h),h2]
 ·rw[yH (by omega),yH (by rw[cE];exact h)]
theorem qY(l:List Int)(c:List F):(gt l c).Sublist (mr l l.length):=List.filter_sublist
theorem oW:∀(ps:List Nat) (xs w:List F) (p:Nat) (x:F),ps.length=xs.length→F.addAt w (ps++[p]) (xs++[x])=(F.addAt w ps xs).set p ((F.addAt w ps xs).getD p 0+x)
 |[],[],w,p,x,_=>rfl
 |q::ps,y::xs,w,p,x,h=>by
  simp only[List.cons_append,F.addAt];exact oW ps xs _ p x (by simpa using h)
def rG(n i:Nat):UInt8:=if n/2 ^ i%2=1 then 49 else 48
def mY(n:Nat):List UInt8:=[rG n 4,rG n 3,rG n 2,rG n 1,rG n 0]
theorem uN(n:Nat):(mY n).length=5:=rfl
def yw(c:List F):List UInt8:=c.flatMap fun x=>mY x.n
def lq(c:List F):List UInt8:=List.replicate 7 49++yw c++List.replicate 7 48
theorem sV(c:List F):(yw c).length=5*c.length:=by
 induction c with
 |nil=>rfl
 |cons x c ih=>unfold yw at *;rw[List.flatMap_cons,zI,ih,uN,xT];omega
theorem CX(c:List F)(x:F):yw (c++[x])=yw c++mY x.n:=by unfold yw;simp
theorem BZ{c:List F}(h:c.length=12):(lq c).length=74:=by unfold lq;rw[zI,zI,sV,h];rfl
def ji(b:UInt8):Bool:=b==48||(b==49||b==63)
def bA(s:List UInt8):Bool:=decide (s.length=74)&&s.all ji
theorem Ea{b:UInt8}:ji b=true↔b=48∨b=49∨b=63:=by unfold ji;simp
theorem jJ:bA s=true↔s.length=74∧∀b∈s,b=48∨b=49∨b=63:=by unfold bA;simp[Ea]
def dM(s:List UInt8)(b e:UInt8):Bool:=decide (4≤(s.take 7).count b)&&decide (4≤(s.drop 67).count e)
def j9(s:List UInt8):List UInt8:=if bA s then (if dM s 49 48 then s else if dM s 48 49 then s.reverse else []) else []
def jh(s:List UInt8):Int:=if bA s then (if dM s 49 48 then 0 else if dM s 48 49 then 0 else 26) else 7
theorem BF(s:List UInt8):bA s.reverse=bA s:=by unfold bA;rw[List.length_reverse,List.all_reverse]
theorem Db(h:jh s=0):bA (j9 s)=true:=by
 unfold jh at h;unfold j9;rcases yF (bA s) with hs|hs
 ·rw[hs]at h⊢;simp only[if_true]at h⊢;split
  ·exact hs
  ·split
   ·rw[BF];exact hs
   ·rename_i h1 h2
    rw[if_neg h1,if_neg h2]at h;omega
 ·rw[hs]at h;simp at h
def CP(b:List UInt8):Nat:=b.foldl (fun n x=>2*n+(x.toNat-48)) 0
def mE(b:List UInt8):Int:=if 63∈b then -1 else (CP b:Int)
def iM(s:List UInt8)(i:Nat):List UInt8:=(s.drop (7+5*i)).take 5
def dl(s:List UInt8):List Int:=(List.range 12).map fun i=>mE (iM s i)
theorem iu(s:List UInt8):(dl s).length=12:=by simp[dl]
theorem DZ(s:List UInt8){i:Nat}(h:i<12):(dl s)[i]?=some (mE (iM s i)):=by unfold dl;rw[zL,xH h];rfl
theorem Iv:∀a b c d e:Bool,CP [if a then 49 else 48,if b then 49 else 48,if c then 49 else 48,if d then 49 else 48,if e then 49 else 48]<32:=by decide
theorem Dh{b:List UInt8}(hl:b.length=5)(h:∀x∈b,x=48∨x=49∨x=63):-1≤mE b∧mE b<32:=by
 unfold mE;by_cases h63:63∈b
 ·rw[if_pos h63];omega
 ·rw[if_neg h63];have hb:∀x∈b,∃y:Bool,x=if y then 49 else 48:=fun x hx=>by
   rcases h x hx with e|e|e
   ·exact⟨false,by rw[e];rfl⟩
   ·exact⟨true,by rw[e];rfl⟩
   ·subst e;exact absurd hx h63
  match b,hl with
  |[x1,x2,x3,x4,x5],_ =>
   obtain⟨y1,rfl⟩:=hb x1 (by simp);obtain⟨y2,rfl⟩:=hb x2 (by simp);obtain⟨y3,rfl⟩:=hb x3 (by simp);obtain⟨y4,rfl⟩:=hb x4 (by simp);obtain⟨y5,rfl⟩:=hb x5 (by simp);have:=Iv y1 y2 y3 y4 y5;omega
theorem te(h:s.length=74){i:Nat}(hi:i<12):(iM s i).length=5:=by unfold iM;rw[zF,xS,h];omega
theorem pP(h:bA s=true):dt (-1) (dl s)=true:=by obtain⟨h1,h2⟩:=jJ.1 h;refine pQ (by rw[iu];omega) (by rw[iu];omega) fun x hx=>?_;unfold dl at hx;obtain⟨i,hi,rfl⟩:=zJ.1 hx;exact Dh (te h1 (zB.1 hi)) fun y hy=>h2 y (wE (wQ hy))
end Go.Proofs.YtjgfgdcaocbfhaaGreat

namespace Go.Proofs.YtjgfgdcaocbfhaaGreat
open Go.RowKit _root_.Go.Proofs.Tryz
theorem zu{l:List UInt8}{k:Nat}{x:UInt8}(h:l[k]?=some x):(l.take (k+1)).all ji=((l.take k).all ji&&ji x):=by rw[ag h];simp
theorem tE{s:List UInt8}(h:s.length≠74):bA s=false:=by unfold bA;rw[decide_eq_false h];rfl
theorem ze{s:List UInt8}(h:s.length=74):bA s=s.all ji:=by unfold bA;rw[decide_eq_true h];rfl
theorem Cp{l:List UInt8}{k:Nat}{x:UInt8}(h:l[k]?=some x)(hx:ji x=false):l.all ji=false:=by rw[xR];exact⟨x,zU h,by rw[hx];simp⟩
theorem Et(x:UInt8):ji x=decide (x.toNat=48∨x.toNat=49∨x.toNat=63):=by
 unfold ji;have e:∀n:Nat,n<256→(x==UInt8.ofNat n)=decide (x.toNat=n):=fun n hn=>by rw[←If hn];by_cases h:x.toNat=n<;>simp[h];omega
 have e1:=e 48 (by omega);have e2:=e 49 (by omega);have e3:=e 63 (by omega);rw[show (48:UInt8)=UInt8.ofNat 48 from rfl,show (49:UInt8)=UInt8.ofNat 49 from rfl,show (63:UInt8)=UInt8.ofNat 63 from rfl,e1,e2,e3];simp
theorem dh(s:ByteArray)(w:World) :
  Calls prog 148 #[.string s] w fun e w'=>e=.returned (.bool (bA (bl s)))∧w=w':=by
 by_cases h:s.size=74
 ·have e1:((s.size:Int)!=74)=false:=by rw[h];rfl
  have HF:=zZ (ze ((aU s).trans h));have HL:=zZ ((aU s).trans h);have h74:74≤s.size:=by omega
  have h75:s.size≤74:=by omega
  clear h;go_enter func148,ntmps148
  go_wp2_with fail;go_loop [3] (fun i=>∃k:Nat,k≤74∧i=.int .i64 k∧Hid (((bl s).take k).all ji=true)) (fun i=>74-(intOf i).toNat)
  case atStart=>exact⟨0,by omega,rfl,rfl⟩
  case round =>
   obtain⟨k,hk,rfl,HK⟩:=hrel;by_cases hlt:k<74
   ·have hks:k<s.size:=by omega
    have HX:=zZ (qK hks);have HO:=zZ (Et s[k]);have step:ji s[k]=true→Hid (((bl s).take (k+1)).all ji=true):=fun h=>by
     show _=_
     rw[zu HX.out,HK.out,h];rfl
    by_cases a1:(s[k].toNat:Int)=48
    ·have hok:Hid (ji s[k]=true):=by show _=_;rw[HO.out];simp;omega
     have HS:=zZ (step hok.out);clear step HX HO hok;go_wp2_with fail;go_round
     case rel=>exact⟨k+1,by omega,by go_num,HS.out⟩
     case measure=>simp[intOf];omega
    by_cases a2:(s[k].toNat:Int)=49
    ·have hok:Hid (ji s[k]=true):=by show _=_;rw[HO.out];simp;omega
     have HS:=zZ (step hok.out);clear step HX HO hok a1;go_wp2_with fail;go_round
     case rel=>exact⟨k+1,by omega,by go_num,HS.out⟩
     case measure=>simp[intOf];omega
    by_cases a3:(s[k].toNat:Int)=63
    ·have hok:Hid (ji s[k]=true):=by show _=_;rw[HO.out];simp;omega
     have HS:=zZ (step hok.out);clear step HX HO hok a1 a2;go_wp2_with fail;go_round
     case rel=>exact⟨k+1,by omega,by go_num,HS.out⟩
     case measure=>simp[intOf];omega
    have hok:Hid (ji s[k]=false):=by show _=_;rw[HO.out];simp;omega
    have HS:=zZ (Cp HX.out hok.out);have q1:((s[k].toNat:Int)!=48)=true:=bne_iff_ne.2 a1;have q2:((s[k].toNat:Int)!=49)=true:=bne_iff_ne.2 a2;have q3:((s[k].toNat:Int)!=63)=true:=bne_iff_ne.2 a3;clear step HX HO hok;go_wp2_with fail;go_ret
    exact⟨aa (by rw[HF.out,HS.out]),rfl⟩
   ·obtain rfl:k=74:=by omega
    rw[aD HL.out]at HK;go_wp2_with fail;go_ret
    exact⟨aa (by rw[HF.out];exact HK.out.symm),rfl⟩
 ·have e1:((s.size:Int)!=74)=true:=by simp;omega
  have HF:=zZ (tE (s:=bl s) (by rw[aU];exact h));clear h;go_enter func148,ntmps148
  go_wp2_with fail;go_ret
  exact⟨aa HF.out.symm,rfl⟩
end Go.Proofs.YtjgfgdcaocbfhaaGreat

