import Derived.Test.YtpaidaphacoblaaGreatDoorK11
import Derived.Laws.CopyRow
set_option linter.all false
set_option maxRecDepth 100000
set_option maxHeartbeats 0
namespace Go.Proofs.YtpaidaphacoblaaGreatDoor
open Go.RowKit
variable {base c g n:Nat} {w:World} {v:Value}
def eT(base:Nat)(w:World)(v:Value)(l:List F):Prop:=w.ownsRow base 3 1 v l.length ((wI l).map (Value.int .i64))
theorem jQ(l:List F):∀x∈wI l,aU x:=by intro x hx;unfold wI at hx;obtain⟨c,_,rfl⟩:=zF.1 hx;have:=c.lt;constructor<;>omega
theorem eT.isI{p:Nat}{l:List F}(h:eT base w v l)(hp:p<base)(hl:l.length<=1000000):ak p w v (wI l) :=
 ak.of_own (e:=3) (n:=l.length) h hp (jQ l) (by rw[aT];omega)
theorem eT.put{l:List F}(h:eT base w (.slice (some ⟨g,0,none⟩) n c) l)(hn:l.length=n)(j:Nat)(y:F) :
  eT base (w.setCell ⟨g,j,none⟩ (.int .i64 (y.n:Int))) (.slice (some ⟨g,0,none⟩) n c) (l.set j y):=by
 subst hn;have:=(World.ownsRow.stored h j (.int .i64 (y.n:Int))).1;unfold eT;rw[yF];unfold wI at this⊢;rw[wX,wX];exact this
theorem eT.cell{k:Nat}{l:List F}{x:F}(h:eT base w (.slice (some ⟨g,0,none⟩) n c) l)(hn:l.length=n)(hx:l[k]?=some x):w.cell? ⟨g,k,none⟩=some (.int .i64 (x.n:Int)):=by subst hn;have hk:=(zY.1 hx).1;rw[World.ownsRow.cellAt h k (by omega)];unfold wI;rw[zP,zP,hx];rfl
theorem eT.froz{l:List F}(h:eT base w (.slice (some ⟨g,0,none⟩) n c) l)(hn:l.length=n)(k:Nat):w.frozen? ⟨g,k,none⟩=false:=by subst hn;exact World.ownsRow.frozenAt h k
theorem eT.ext{w':World}{l:List F}(h:eT base w v l)(hx:ab w w'):eT base w' v l:=ao h hx
def eV(l:List Int):Bool:=decide (1<=l.length)&&(decide (l.length<=9)&&!l.any fun x=>!iU x)
theorem nE{l:List Int}(h:eV l=true):1<=l.length/\l.length<=9/\∀x∈l,0<=x/\x<32:=by unfold eV at h;simp only[yT,decide_eq_true_eq,uY,wO]at h;refine⟨h.1,h.2.1,fun x hx=>?_⟩;have:=h.2.2 x hx;unfold iU at this;simp at this;omega
theorem BO{l:List Int}(h1:1<=l.length)(h2:l.length<=9)(h:∀x∈l,0<=x/\x<32):eV l=true:=by unfold eV;simp only[yT,decide_eq_true_eq,uY,wO];refine⟨h1,h2,fun x hx=>?_⟩;have:=h x hx;unfold iU;simp;omega
def pQ(d:List F):List F:=d++F.encRest F.genL d
def jI(l:List Int):List Int:=if eV l then wI (pQ (bv l)) else []
def mZ(l:List Int):Int:=if eV l then 0 else 2
theorem BR(d:List F):(pQ d).length=d.length+6:=by unfold pQ;rw[yU,(F.enc_code d).2]
theorem sO(d:List F):F.Code (pQ d):=(F.enc_code d).1
theorem gM{base' e size:Nat}{xs:List Value}(h:w.ownsRow base e size v n xs)(hb:base'<=base):w.ownsRow base' e size v n xs:=by
 rcases h with ⟨h1,h2|⟨g,cap,cur,hv,hg,r⟩⟩
 ·exact⟨h1,.inl h2⟩
 ·exact⟨h1,.inr ⟨g,cap,cur,hv,yR hb hg,r⟩⟩
end Go.Proofs.YtpaidaphacoblaaGreatDoor

namespace Go.Proofs.YtpaidaphacoblaaGreatDoor
variable {i p:Nat} {l:List Int} {s:List UInt8}
def dY(l:List Int)(k:Nat):List Nat:=(List.range k).filter fun i=>l.getD i 0==-1
def gm(l:List Int)(k:Nat):List Nat:=(List.range k).filter fun i=>!(l.getD i 0==-1)
section
variable {l:List Int} {k:Nat} {x:Int}
theorem k7(h:l[k]?=some x):l.getD k 0=x:=by rw[xU,h];rfl
theorem BW(h:l[k]?=some x)(e:x=-1):dY l (k+1)=dY l k++[k]:=by unfold dY;rw[xP,xM];simp only[vJ,List.filter_nil,k7 h,e];rfl
theorem tf(h:l[k]?=some x)(e:x≠-1):dY l (k+1)=dY l k:=by unfold dY;rw[xP,xM];simp[vJ,h,e]
theorem qJ(h:l[k]?=some x)(e:x≠-1):gm l (k+1)=gm l k++[k]:=by unfold gm;rw[xP,xM];simp[vJ,h,e]
theorem tv(h:l[k]?=some x)(e:x=-1):gm l (k+1)=gm l k:=by unfold gm;rw[xP,xM];simp[vJ,h,e]
theorem BK(l:List Int)(k:Nat):(dY l k).length<=k:=by unfold dY;have:=uP (fun i=>l.getD i 0==-1) (List.range k);simpa using this
theorem Gj(l:List Int)(k:Nat):(gm l k).length<=k:=by unfold gm;have:=uP (fun i=>!(l.getD i 0==-1)) (List.range k);simpa using this
theorem pZ(h:p∈dY l k):p<k:=by unfold dY at h;exact yX.1 (xR.1 h).1
theorem uz(h:p∈gm l k):p<k:=by unfold gm at h;exact yX.1 (xR.1 h).1
theorem kW:p∈dY l k↔p<k/\l.getD p 0=-1:=by unfold dY;simp[xR]
theorem oK:p∈gm l k↔p<k/\l.getD p 0≠-1:=by unfold gm;simp[xR]
theorem iY(l:List Int)(k:Nat):(dY l k++gm l k).Nodup:=by rw[uO];refine⟨List.nodup_range.filter _,List.nodup_range.filter _,fun a ha b hb e=>?_⟩;subst e;exact (oK.1 hb).2 (kW.1 ha).2
end
def fj(l:List Int)(c:List F):List Nat:=(gm l l.length).filter fun i=>!((bv l).getD i 0==c.getD i 0)
structure pn (l:List Int) (c:List F) (e:Nat):Prop where
 len:c.length=l.length
 code:F.Code c
 err:(fj l c).length=e
 near:2*e+(dY l l.length).length<=6
theorem lE{α:Type}[DecidableEq α]:∀(a b:List α),a.Nodup->(∀x∈a,x∈b)->a.length<=b.length
 |[],b,_,_=>xL _
 |x::a,b,h,hs=>by
  rw[uQ]at h;have hx:=hs x vM;have:=lE a (b.erase x) h.2 (fun y hy=>(List.mem_erase_of_ne (fun (e:y=x)=>h.1 (e▸hy))).2 (hs y (vN _ hy)));rw[List.length_erase_of_mem hx]at this;have:=List.length_pos_of_mem hx;simp;omega
theorem tJ:∀(a b:List F),a.length=b.length->(F.diffs a b).length=((List.range a.length).filter fun i=>!(a.getD i 0==b.getD i 0)).length
 |[],[],_=>rfl
 |c::a,d::b,h=>by
  have ih:=tJ a b (by simpa using h);rw[xQ,List.range_succ_eq_map,vJ,List.filter_map];unfold F.diffs;by_cases e:c=d
  ·rw[if_pos e];simp only[List.getD_cons_zero,e,beq_self_eq_true,Bool.not_true,Bool.false_eq_true,if_false,zJ];rw[ih];rfl
  ·rw[if_neg e];simp only[List.getD_cons_zero,beq_eq_false_iff_ne.2 e,Bool.not_false,if_true,xQ,zJ];rw[ih];rfl
theorem GD{a b:List F}{ps:List Nat}(h:a.length=b.length)(hp:∀i,i<a.length->a.getD i 0≠b.getD i 0->i∈ps):(F.diffs a b).length<=ps.length:=by rw[tJ a b h];refine lE _ _ (List.nodup_range.filter _) fun i hi=>?_;rw[xR,yX]at hi;exact hp i hi.1 (by simpa using hi.2)
theorem Ez{c c':List F}{e e':Nat}(h15:l.length<=31)(h:pn l c e)(h':pn l c' e'):c=c'/\e=e':=by
 have hc:c=c':=by
  refine F.code_apart h.code h'.code (h.len.trans h'.len.symm) (by rw[h.len];exact h15) ?_;refine yR (GD (ps:=dY l l.length++fj l c++fj l c') (h.len.trans h'.len.symm) fun i hi hne=>?_) ?_
  ·rw[h.len]at hi;rcases Classical.em (l.getD i 0=-1) with h1|h1
   ·exact xH _ (xH _ (kW.2 ⟨hi,h1⟩))
   ·rcases Classical.em ((bv l).getD i 0=c.getD i 0) with h2|h2
    ·refine List.mem_append_right _ (xR.2 ⟨oK.2 ⟨hi,h1⟩,?_⟩);rw[h2];simpa using hne
    ·exact xH _ (List.mem_append_right _ (xR.2 ⟨oK.2 ⟨hi,h1⟩,by simpa using h2⟩))
  ·have:=h.near;have:=h'.near;have:=h.err;have:=h'.err
   simp only[yU];omega
 subst hc;exact⟨rfl,h.err.symm.trans h'.err⟩
theorem oE{c:List F}(hl:c.length=l.length):F.Off (bv l) c (dY l l.length++fj l c):=by
 refine⟨by rw[bt];exact hl,fun i hi=>?_⟩;rcases zU i l.length with h|h
 ·have h1:l.getD i 0≠-1:=fun e=>hi (xH _ (kW.2 ⟨h,e⟩));have h2:(bv l).getD i 0=c.getD i 0:=Classical.byContradiction fun e=>hi (List.mem_append_right _ (xR.2 ⟨oK.2 ⟨h,h1⟩,by simpa using e⟩));rw[F.getD_eq (w:=c) (by omega),F.getD_eq (w:=bv l) (by rw[bt];exact h),h2]
 ·rw[zC (by omega),zC (by rw[bt];exact h)]
theorem jp(l:List Int)(c:List F):(fj l c).Sublist (gm l l.length):=List.filter_sublist
theorem CR{S:List Nat}{c:List F}{wrong:Nat}(hS:S.Sublist (gm l l.length))(hl:S.length=wrong)(ho:F.Off (bv l) c (dY l l.length++S))(hc:F.Code c)(h6:2*wrong+(dY l l.length).length<=6)(hno:∀s,s<wrong->∀S,S.Sublist (gm l l.length)->S.length=s->∀c,F.Off (bv l) c (dY l l.length++S)->¬F.Code c):pn l c wrong:=by
 have hlen:c.length=l.length:=by rw[ho.1,bt]
 have hle:(fj l c).length<=S.length:=by
  refine lE _ _ ((uO.1 (iY l l.length)).2.1.sublist (jp l c)) fun i hi=>?_;obtain⟨h1,h2⟩:=xR.1 hi;obtain⟨h3,h4⟩:=oK.1 h1;refine Classical.byContradiction fun hns=>?_;have h5:=ho.2 i (fun hm=>by
   rcases zM.1 hm with h|h
   ·exact h4 (kW.1 h).2
   ·exact hns h)
  rw[F.getD_eq (w:=c) (by omega),F.getD_eq (w:=bv l) (by rw[bt];exact h3)]at h5;injection h5 with h5;rw[h5]at h2;simp at h2
 refine⟨hlen,hc,?_,h6⟩;rcases zU (fj l c).length wrong with hlt|hge
 ·exact absurd hc (hno _ hlt _ (jp l c) rfl c (oE hlen))
 ·omega
theorem Fz{wrong:Nat}(h6:6<2*wrong+(dY l l.length).length)(hno:∀s,s<wrong->∀S,S.Sublist (gm l l.length)->S.length=s->∀c,F.Off (bv l) c (dY l l.length++S)->¬F.Code c):∀c e,¬pn l c e:=by
 intro c e h;have:=h.near;exact hno e (by omega) (fj l c) (jp l c) h.err c (oE h.len) h.code
theorem mB:∀(ps:List Nat) (xs w:List F) (p:Nat) (x:F),ps.length=xs.length->F.addAt w (ps++[p]) (xs++[x])=(F.addAt w ps xs).set p ((F.addAt w ps xs).getD p 0+x)
 |[],[],w,p,x,_=>rfl
 |q::ps,y::xs,w,p,x,h=>by
  simp only[List.cons_append,F.addAt];exact mB ps xs _ p x (by simpa using h)
def fg(l:List Int)(k:Nat):List Int:=wI (bv (l.take k))++l.drop k
theorem zi(l:List Int):fg l 0=l:=by simp[fg,wI,bv]
theorem CZ(l:List Int):fg l l.length=wI (bv l):=by simp[fg]
theorem Cx(l:List Int)(k:Nat)(h:k<=l.length):(fg l k).length=l.length:=by simp[fg,wI,bv];omega
theorem Ct{k:Nat}(h:l[k]?=some (-1)):(fg l k).set k 0=fg l (k+1):=by
 have hk:=(zY.1 h).1;unfold fg;rw[vO _ _ (by simp[wI,bv];omega)];have e1:(wI (bv (l.take k))).length=k:=by simp[wI,bv];omega
 rw[e1,vH,vZ hk,M5,tZ hk];have e2:l[k]=-1:=(zY.1 h).2;have e3:bv (l.take k++[l[k]])=bv (l.take k)++[0]:=by rw[e2];simp[bv];rfl
 rw[e3,tV];simp[wI,F.n_zero]
theorem zu{k:Nat}{x:Int}(h:l[k]?=some x)(h1:0<=x)(h2:x<32):fg l k=fg l (k+1):=by
 have hk:=(zY.1 h).1;unfold fg;rw[vZ hk,tZ hk];have e2:l[k]=x:=(zY.1 h).2;have e3:bv (l.take k++[l[k]])=bv (l.take k)++bv [x]:=by rw[e2];simp[bv]
 rw[e3,tV,e2,ww (l:=[x]) (by simpa using ⟨h1,h2⟩)];simp
def nT(n i:Nat):UInt8:=if n/2 ^ i%2=1 then 49 else 48
def fR(n:Nat):List UInt8:=[nT n 4,nT n 3,nT n 2,nT n 1,nT n 0]
theorem nN(n:Nat):(fR n).length=5:=rfl
def mj(c:List F):List UInt8:=c.flatMap fun x=>fR x.n
def eH(c:List F):List UInt8:=List.replicate 7 49++mj c++List.replicate 7 48
theorem mW(c:List F):(mj c).length=5*c.length:=by
 induction c with
 |nil=>rfl
 |cons x c ih=>unfold mj at *;rw[List.flatMap_cons,yU,ih,nN,xQ];omega
theorem EJ(c:List F)(x:F):mj (c++[x])=mj c++fR x.n:=by unfold mj;simp
theorem ph{c:List F}(h:c.length=12):(eH c).length=74:=by unfold eH;rw[yU,yU,mW,h];rfl
def gU(b:UInt8):Bool:=b==48||(b==49||b==63)
def bd(s:List UInt8):Bool:=decide (s.length=74)&&s.all gU
theorem Jf(x:F):∀b∈fR x.n,b=48\/b=49:=by intro b hb;unfold fR nT at hb;simp only[yM,wL,or_false]at hb;rcases hb with rfl|rfl|rfl|rfl|rfl<;>(split<;>simp)
theorem IP(c:List F):∀b∈mj c,b=48\/b=49:=by intro b hb;unfold mj at hb;obtain⟨x,_,hx⟩:=List.mem_flatMap.1 hb;exact Jf x b hx
theorem Hh(c:List F):∀b∈eH c,b=48\/b=49:=by
 intro b hb;unfold eH at hb;rcases zM.1 hb with h|h
 ·rcases zM.1 h with h|h
  ·exact .inr (uX h)
  ·exact IP c b h
 ·exact .inl (uX h)
theorem Ga{b:UInt8}:gU b=true↔b=48\/b=49\/b=63:=by unfold gU;simp
theorem gh:bd s=true↔s.length=74/\∀b∈s,b=48\/b=49\/b=63:=by unfold bd;simp[Ga]
theorem CP{c:List F}(h:c.length=12):bd (eH c)=true :=
 gh.2 ⟨ph h,fun b hb=>(Hh c b hb).imp id .inl⟩
def du(s:List UInt8)(b e:UInt8):Bool:=decide (4<=(s.take 7).count b)&&decide (4<=(s.drop 67).count e)
theorem E3(c:List F):(eH c).take 7=List.replicate 7 49:=by unfold eH;rw[xY];rfl
theorem EQ{c:List F}(h:c.length=12):(eH c).drop 67=List.replicate 7 48:=by unfold eH;rw[List.drop_left' (by rw[yU,mW,h];rfl)]
theorem ET{c:List F}(h:c.length=12):du (eH c) 49 48=true:=by unfold du;rw[E3,EQ h];decide
def jmq(s:List UInt8):List UInt8:=if bd s then (if du s 49 48 then s else if du s 48 49 then s.reverse else []) else []
def iM(s:List UInt8):Int:=if bd s then (if du s 49 48 then 0 else if du s 48 49 then 0 else 26) else 7
theorem Ey(s:List UInt8):bd s.reverse=bd s:=by unfold bd;rw[List.length_reverse,List.all_reverse]
theorem tA(h:iM s=0):bd (jmq s)=true:=by
 unfold iM at h;unfold jmq;rcases yS (bd s) with hs|hs
 ·rw[hs]at h⊢;simp only[if_true]at h⊢;split
  ·exact hs
  ·split
   ·rw[Ey];exact hs
   ·rename_i h1 h2
    rw[if_neg h1,if_neg h2]at h;omega
 ·rw[hs]at h;simp at h
def E8(b:List UInt8):Nat:=b.foldl (fun n x=>2*n+(x.toNat-48)) 0
def jj(b:List UInt8):Int:=if 63∈b then -1 else (E8 b:Int)
def ft(s:List UInt8)(i:Nat):List UInt8:=(s.drop (7+5*i)).take 5
def bY(s:List UInt8):List Int:=(List.range 12).map fun i=>jj (ft s i)
theorem dc(s:List UInt8):(bY s).length=12:=by simp[bY]
theorem yy(s:List UInt8)(h:i<12):(bY s)[i]?=some (jj (ft s i)):=by unfold bY;rw[zP,wJ h];rfl
theorem EC:∀x:F,jj (fR x.n)=(x.n:Int):=by decide +kernel
theorem Bc:∀(c:List F) (i:Nat) (x:F),c[i]?=some x->(mj c).drop (5*i)=fR x.n++mj (c.drop (i+1))
 |y::c,0,x,h=>by
  simp at h;subst h;rfl
 |y::c,i+1,x,h=>by
  have ih:=Bc c i x (by simpa using h);have e:mj (y::c)=fR y.n++mj c:=by unfold mj;rw[List.flatMap_cons]
  rw[e,show 5*(i+1)=5+5*i by omega,<-List.drop_drop,List.drop_left' (nN _),ih];rfl
theorem G1{c:List F}(h:c.length=12)(hi:i<12):ft (eH c) i=fR (c.getD i 0).n:=by have hx:c[i]?=some (c.getD i 0):=F.getD_eq (by omega);unfold ft eH;rw[xY,<-List.drop_drop,List.drop_left' (by simp),List.drop_append_of_le_length (by rw[mW,h];omega),Bc c i _ hx,xY,List.take_left' (nN _)]
theorem EA{c:List F}(h:c.length=12):bY (eH c)=wI c:=by
 apply xW;intro i;rcases zU i 12 with hi|hi
 ·rw[yy _ hi,G1 h hi,EC];unfold wI;rw[zP,F.getD_eq (w:=c) (by omega)];rfl
 ·rw[zC (by rw[dc];exact hi),zC (by rw[aT,h];exact hi)]
theorem LD:∀a b c d e:Bool,E8 [if a then 49 else 48,if b then 49 else 48,if c then 49 else 48,if d then 49 else 48,if e then 49 else 48]<32:=by decide
theorem F4{b:List UInt8}(hl:b.length=5)(h:∀x∈b,x=48\/x=49\/x=63):-1<=jj b/\jj b<32:=by
 unfold jj;by_cases h63:63∈b
 ·rw[if_pos h63];omega
 ·rw[if_neg h63];have hb:∀x∈b,∃y:Bool,x=if y then 49 else 48:=fun x hx=>by
   rcases h x hx with e|e|e
   ·exact⟨false,by rw[e];rfl⟩
   ·exact⟨true,by rw[e];rfl⟩
   ·subst e;exact absurd hx h63
  match b,hl with
  |[x1,x2,x3,x4,x5],_ =>
   obtain⟨y1,rfl⟩:=hb x1 (by simp);obtain⟨y2,rfl⟩:=hb x2 (by simp);obtain⟨y3,rfl⟩:=hb x3 (by simp);obtain⟨y4,rfl⟩:=hb x4 (by simp);obtain⟨y5,rfl⟩:=hb x5 (by simp);have:=LD y1 y2 y3 y4 y5;omega
theorem rf(h:s.length=74)(hi:i<12):(ft s i).length=5:=by unfold ft;rw[yW,wD,h];omega
theorem mE(h:bd s=true):cD (-1) (bY s)=true:=by obtain⟨h1,h2⟩:=gh.1 h;refine mO (by rw[dc];omega) (by rw[dc];omega) fun x hx=>?_;unfold bY at hx;obtain⟨i,hi,rfl⟩:=zF.1 hx;exact F4 (rf h1 (yX.1 hi)) fun y hy=>h2 y (List.mem_of_mem_drop (uI hy))
end Go.Proofs.YtpaidaphacoblaaGreatDoor

namespace Go.Proofs.YtpaidaphacoblaaGreatDoor
open Go.RowKit _root_.Go.Proofs.Tryz
theorem rS{l:List UInt8}{k:Nat}{x:UInt8}(h:l[k]?=some x):(l.take (k+1)).all gU=((l.take k).all gU&&gU x):=by rw[ax h];simp
theorem pu{s:List UInt8}(h:s.length≠74):bd s=false:=by unfold bd;rw[decide_eq_false h];rfl
theorem rC{s:List UInt8}(h:s.length=74):bd s=s.all gU:=by unfold bd;rw[decide_eq_true h];rfl
theorem tE{l:List UInt8}{k:Nat}{x:UInt8}(h:l[k]?=some x)(hx:gU x=false):l.all gU=false:=by rw[wT];exact⟨x,zW h,by rw[hx];simp⟩
theorem zy(x:UInt8):gU x=decide (x.toNat=48\/x.toNat=49\/x.toNat=63):=by
 unfold gU;have e:∀n:Nat,n<256->(x==UInt8.ofNat n)=decide (x.toNat=n):=fun n hn=>by rw[<-K1 hn];by_cases h:x.toNat=n<;>simp[h];omega
 have e1:=e 48 (by omega);have e2:=e 49 (by omega);have e3:=e 63 (by omega);rw[show (48:UInt8)=UInt8.ofNat 48 from rfl,show (49:UInt8)=UInt8.ofNat 49 from rfl,show (63:UInt8)=UInt8.ofNat 63 from rfl,e1,e2,e3];simp
theorem fk(s:ByteArray)(w:World) :
  Calls prog 141 #[.string s] w fun e w'=>e=.returned (.bool (bd (bl s)))/\w=w':=by
 by_cases h:s.size=74
 ·have e1:((s.size:Int)!=74)=false:=by rw[h];rfl
  have HF:=zZ (rC ((aO s).trans h));have HL:=zZ ((aO s).trans h);have h74:74<=s.size:=by omega
  have h75:s.size<=74:=by omega
  clear h;go_enter func141,ntmps141
  go_wp2_with fail;go_loop [3,7] (fun _ i=>∃k:Nat,k<=74/\i=.int .i64 k/\Hid (((bl s).take k).all gU=true)) (fun _ i=>74-(intOf i).toNat)
  case atStart=>exact⟨0,by omega,rfl,rfl⟩
  case round =>
   obtain⟨k,hk,rfl,HK⟩:=hrel;by_cases hlt:k<74
   ·have hks:k<s.size:=by omega
    have HX:=zZ (nJ hks);have HO:=zZ (zy s[k]);have step:gU s[k]=true->Hid (((bl s).take (k+1)).all gU=true):=fun h=>by
     show _=_
     rw[rS HX.out,HK.out,h];rfl
    by_cases a1:(s[k].toNat:Int)=48
    ·have hok:Hid (gU s[k]=true):=by show _=_;rw[HO.out];simp;omega
     have HS:=zZ (step hok.out);clear step HX HO hok;go_wp2_with fail;go_round
     case rel=>exact⟨k+1,by omega,by go_num,HS.out⟩
     case measure=>simp[intOf];omega
    by_cases a2:(s[k].toNat:Int)=49
    ·have hok:Hid (gU s[k]=true):=by show _=_;rw[HO.out];simp;omega
     have HS:=zZ (step hok.out);clear step HX HO hok a1;go_wp2_with fail;go_round
     case rel=>exact⟨k+1,by omega,by go_num,HS.out⟩
     case measure=>simp[intOf];omega
    by_cases a3:(s[k].toNat:Int)=63
    ·have hok:Hid (gU s[k]=true):=by show _=_;rw[HO.out];simp;omega
     have HS:=zZ (step hok.out);clear step HX HO hok a1 a2;go_wp2_with fail;go_round
     case rel=>exact⟨k+1,by omega,by go_num,HS.out⟩
     case measure=>simp[intOf];omega
    have hok:Hid (gU s[k]=false):=by show _=_;rw[HO.out];simp;omega
    have HS:=zZ (tE HX.out hok.out);have q1:((s[k].toNat:Int)!=48)=true:=bne_iff_ne.2 a1;have q2:((s[k].toNat:Int)!=49)=true:=bne_iff_ne.2 a2;have q3:((s[k].toNat:Int)!=63)=true:=bne_iff_ne.2 a3;clear step HX HO hok;go_wp2_with fail;go_ret
    exact⟨aa (by rw[HF.out,HS.out]),rfl⟩
   ·obtain rfl:k=74:=by omega
    rw[bh HL.out]at HK;go_wp2_with fail;go_ret
    exact⟨aa (by rw[HF.out];exact HK.out.symm),rfl⟩
 ·have e1:((s.size:Int)!=74)=true:=by simp;omega
  have HF:=zZ (pu (s:=bl s) (by rw[aO];exact h));clear h;go_enter func141,ntmps141
  go_wp2_with fail;go_ret
  exact⟨aa HF.out.symm,rfl⟩
end Go.Proofs.YtpaidaphacoblaaGreatDoor

