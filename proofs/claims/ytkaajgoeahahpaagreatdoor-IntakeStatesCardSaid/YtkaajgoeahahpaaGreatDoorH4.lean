import Derived.Test.YtkaajgoeahahpaaGreatDoorH3
import Derived.Shelf.Strings.BuilderK
import Derived.Shelf.Strings.Count
import Derived.Shelf.Strings.Repeat
import Derived.Test.YtkaajgoeahahpaaGreatDoorProg
import Derived.Lib.BufferRead
set_option linter.all false
set_option maxRecDepth 100000
set_option maxHeartbeats 0
namespace Go.Proofs.YtkaajgoeahahpaaGreatDoor
open Go.Value renaming int→A,slice→D
open Go.IntKind renaming i64→C
variable {i p:Nat} {l:List Int} {s:List UInt8}
def dY(l:List Int)(k:Nat):List Nat:=(List.range k).filter fun i=>l.getD i 0==-1
def gm(l:List Int)(k:Nat):List Nat:=(List.range k).filter fun i=>!(l.getD i 0==-1)
section
variable {l:List Int} {k:Nat} {x:Int}
theorem k7(h:l[k]?=some x):l.getD k 0=x:=by rw[xU,h];rfl
theorem BW(h:l[k]?=some x)(e:x=-1):dY l (k+1)=dY l k++[k]:=by unfold dY;rw[xP,xM];simp only[vJ,List.filter_nil,k7 h,e];rfl
theorem tf(h:l[k]?=some x)(e:x≠-1):dY l (k+1)=dY l k:=by unfold dY;rw[xP,xM];simp[vJ,h,e]
theorem qJ(h:l[k]?=some x)(e:x≠-1):gm l (k+1)=gm l k++[k]:=by unfold gm;rw[xP,xM];simp[vJ,h,e]
theorem tv(h:l[k]?=some x)(e:x=-1):gm l (k+1)=gm l k:=by unfold gm;rw[xP,xM];simp[vJ,h,e]
theorem BK(l:List Int)(k:Nat):(dY l k).length<=k:=by unfold dY;have:=uP (fun i=>l.getD i 0==-1) (List.range k);simpa using this
theorem Gj(l:List Int)(k:Nat):(gm l k).length<=k:=by unfold gm;have:=uP (fun i=>!(l.getD i 0==-1)) (List.range k);simpa using this
theorem pZ(h:p∈dY l k):p<k:=by unfold dY at h;exact yX.1 (xR.1 h).1
theorem uz(h:p∈gm l k):p<k:=by unfold gm at h;exact yX.1 (xR.1 h).1
theorem kW:p∈dY l k↔p<k/\l.getD p 0=-1:=by unfold dY;simp[xR]
theorem oK:p∈gm l k↔p<k/\l.getD p 0≠-1:=by unfold gm;simp[xR]
theorem iY(l:List Int)(k:Nat):(dY l k++gm l k).Nodup:=by rw[uO];refine⟨List.nodup_range.filter _,List.nodup_range.filter _,fun a ha b hb e=>?_⟩;subst e;exact (oK.1 hb).2 (kW.1 ha).2
end
def fj(l:List Int)(c:List F):List Nat:=(gm l l.length).filter fun i=>!((bv l).getD i 0==c.getD i 0)
structure pn (l:List Int) (c:List F) (e:Nat):Prop where
 len:c.length=l.length
 code:F.Code c
 err:(fj l c).length=e
 near:2*e+(dY l l.length).length<=6
theorem lE{α:Type}[DecidableEq α]:∀(a b:List α),a.Nodup->(∀x∈a,x∈b)->a.length<=b.length
 |[],b,_,_=>xL _
 |x::a,b,h,hs=>by
  rw[uQ]at h;have hx:=hs x vM;have:=lE a (b.erase x) h.2 (fun y hy=>(List.mem_erase_of_ne (fun (e:y=x)=>h.1 (e▸hy))).2 (hs y (vN _ hy)));rw[List.length_erase_of_mem hx]at this;have:=List.length_pos_of_mem hx;simp;omega
theorem tJ:∀(a b:List F),a.length=b.length->(F.diffs a b).length=((List.range a.length).filter fun i=>!(a.getD i 0==b.getD i 0)).length
 |[],[],_=>rfl
 |c::a,d::b,h=>by
  have ih:=tJ a b (by simpa using h);rw[xQ,List.range_succ_eq_map,vJ,List.filter_map];unfold F.diffs;by_cases e:c=d
  ·rw[if_pos e];simp only[List.getD_cons_zero,e,beq_self_eq_true,Bool.not_true,Bool.false_eq_true,if_false,zJ];rw[ih];rfl
  ·rw[if_neg e];simp only[List.getD_cons_zero,beq_eq_false_iff_ne.2 e,Bool.not_false,if_true,xQ,zJ];rw[ih];rfl
theorem GD{a b:List F}{ps:List Nat}(h:a.length=b.length)(hp:∀i,i<a.length->a.getD i 0≠b.getD i 0->i∈ps):(F.diffs a b).length<=ps.length:=by rw[tJ a b h];refine lE _ _ (List.nodup_range.filter _) fun i hi=>?_;rw[xR,yX]at hi;exact hp i hi.1 (by simpa using hi.2)
theorem Ez{c c':List F}{e e':Nat}(h15:l.length<=31)(h:pn l c e)(h':pn l c' e'):c=c'/\e=e':=by
 have hc:c=c':=by
  refine F.code_apart h.code h'.code (h.len.trans h'.len.symm) (by rw[h.len];exact h15) ?_;refine yR (GD (ps:=dY l l.length++fj l c++fj l c') (h.len.trans h'.len.symm) fun i hi hne=>?_) ?_
  ·rw[h.len]at hi;rcases Classical.em (l.getD i 0=-1) with h1|h1
   ·exact xH _ (xH _ (kW.2 ⟨hi,h1⟩))
   ·rcases Classical.em ((bv l).getD i 0=c.getD i 0) with h2|h2
    ·refine List.mem_append_right _ (xR.2 ⟨oK.2 ⟨hi,h1⟩,?_⟩);rw[h2];simpa using hne
    ·exact xH _ (List.mem_append_right _ (xR.2 ⟨oK.2 ⟨hi,h1⟩,by simpa using h2⟩))
  ·have:=h.near;have:=h'.near;have:=h.err;have:=h'.err
   simp only[yU];omega
 subst hc;exact⟨rfl,h.err.symm.trans h'.err⟩
theorem oE{c:List F}(hl:c.length=l.length):F.Off (bv l) c (dY l l.length++fj l c):=by
 refine⟨by rw[bt];exact hl,fun i hi=>?_⟩;rcases zU i l.length with h|h
 ·have h1:l.getD i 0≠-1:=fun e=>hi (xH _ (kW.2 ⟨h,e⟩));have h2:(bv l).getD i 0=c.getD i 0:=Classical.byContradiction fun e=>hi (List.mem_append_right _ (xR.2 ⟨oK.2 ⟨h,h1⟩,by simpa using e⟩));rw[F.getD_eq (w:=c) (by omega),F.getD_eq (w:=bv l) (by rw[bt];exact h),h2]
 ·rw[zC (by omega),zC (by rw[bt];exact h)]
theorem jp(l:List Int)(c:List F):(fj l c).Sublist (gm l l.length):=List.filter_sublist
theorem CR{S:List Nat}{c:List F}{wrong:Nat}(hS:S.Sublist (gm l l.length))(hl:S.length=wrong)(ho:F.Off (bv l) c (dY l l.length++S))(hc:F.Code c)(h6:2*wrong+(dY l l.length).length<=6)(hno:∀s,s<wrong->∀S,S.Sublist (gm l l.length)->S.length=s->∀c,F.Off (bv l) c (dY l l.length++S)->¬F.Code c):pn l c wrong:=by
 have hlen:c.length=l.length:=by rw[ho.1,bt]
 have hle:(fj l c).length<=S.length:=by
  refine lE _ _ ((uO.1 (iY l l.length)).2.1.sublist (jp l c)) fun i hi=>?_;obtain⟨h1,h2⟩:=xR.1 hi;obtain⟨h3,h4⟩:=oK.1 h1;refine Classical.byContradiction fun hns=>?_;have h5:=ho.2 i (fun hm=>by
   rcases zM.1 hm with h|h
   ·exact h4 (kW.1 h).2
   ·exact hns h)
  rw[F.getD_eq (w:=c) (by omega),F.getD_eq (w:=bv l) (by rw[bt];exact h3)]at h5;injection h5 with h5;rw[h5]at h2;simp at h2
 refine⟨hlen,hc,?_,h6⟩;rcases zU (fj l c).length wrong with hlt|hge
 ·exact absurd hc (hno _ hlt _ (jp l c) rfl c (oE hlen))
 ·omega
theorem Fz{wrong:Nat}(h6:6<2*wrong+(dY l l.length).length)(hno:∀s,s<wrong->∀S,S.Sublist (gm l l.length)->S.length=s->∀c,F.Off (bv l) c (dY l l.length++S)->¬F.Code c):∀c e,¬pn l c e:=by
 intro c e h;have:=h.near;exact hno e (by omega) (fj l c) (jp l c) h.err c (oE h.len) h.code
theorem mB:∀(ps:List Nat) (xs w:List F) (p:Nat) (x:F),ps.length=xs.length->F.addAt w (ps++[p]) (xs++[x])=(F.addAt w ps xs).set p ((F.addAt w ps xs).getD p 0+x)
 |[],[],w,p,x,_=>rfl
 |q::ps,y::xs,w,p,x,h=>by
  simp only[List.cons_append,F.addAt];exact mB ps xs _ p x (by simpa using h)
def fg(l:List Int)(k:Nat):List Int:=wI (bv (l.take k))++l.drop k
theorem zi(l:List Int):fg l 0=l:=by simp[fg,wI,bv]
theorem CZ(l:List Int):fg l l.length=wI (bv l):=by simp[fg]
theorem Cx(l:List Int)(k:Nat)(h:k<=l.length):(fg l k).length=l.length:=by simp[fg,wI,bv];omega
theorem Ct{k:Nat}(h:l[k]?=some (-1)):(fg l k).set k 0=fg l (k+1):=by
 have hk:=(zY.1 h).1;unfold fg;rw[vO _ _ (by simp[wI,bv];omega)];have e1:(wI (bv (l.take k))).length=k:=by simp[wI,bv];omega
 rw[e1,vH,vZ hk,vA,tZ hk];have e2:l[k]=-1:=(zY.1 h).2;have e3:bv (l.take k++[l[k]])=bv (l.take k)++[0]:=by rw[e2];simp[bv];rfl
 rw[e3,tV];simp[wI,F.n_zero]
theorem zu{k:Nat}{x:Int}(h:l[k]?=some x)(h1:0<=x)(h2:x<32):fg l k=fg l (k+1):=by
 have hk:=(zY.1 h).1;unfold fg;rw[vZ hk,tZ hk];have e2:l[k]=x:=(zY.1 h).2;have e3:bv (l.take k++[l[k]])=bv (l.take k)++bv [x]:=by rw[e2];simp[bv]
 rw[e3,tV,e2,ww (l:=[x]) (by simpa using ⟨h1,h2⟩)];simp
def nT(n i:Nat):UInt8:=if n/2 ^ i%2=1 then 49 else 48
def fR(n:Nat):List UInt8:=[nT n 4,nT n 3,nT n 2,nT n 1,nT n 0]
theorem nN(n:Nat):(fR n).length=5:=rfl
def mj(c:List F):List UInt8:=c.flatMap fun x=>fR x.n
def eH(c:List F):List UInt8:=List.replicate 7 49++mj c++List.replicate 7 48
theorem mW(c:List F):(mj c).length=5*c.length:=by
 induction c with
 |nil=>rfl
 |cons x c ih=>unfold mj at *;rw[List.flatMap_cons,yU,ih,nN,xQ];omega
theorem EJ(c:List F)(x:F):mj (c++[x])=mj c++fR x.n:=by unfold mj;simp
theorem ph{c:List F}(h:c.length=12):(eH c).length=74:=by unfold eH;rw[yU,yU,mW,h];rfl
def gU(b:UInt8):Bool:=b==48||(b==49||b==63)
def bd(s:List UInt8):Bool:=decide (s.length=74)&&s.all gU
theorem Jf(x:F):∀b∈fR x.n,b=48\/b=49:=by intro b hb;unfold fR nT at hb;simp only[yM,wL,or_false]at hb;rcases hb with rfl|rfl|rfl|rfl|rfl<;>(split<;>simp)
theorem IP(c:List F):∀b∈mj c,b=48\/b=49:=by intro b hb;unfold mj at hb;obtain⟨x,_,hx⟩:=List.mem_flatMap.1 hb;exact Jf x b hx
theorem Hh(c:List F):∀b∈eH c,b=48\/b=49:=by
 intro b hb;unfold eH at hb;rcases zM.1 hb with h|h
 ·rcases zM.1 h with h|h
  ·exact .inr (uX h)
  ·exact IP c b h
 ·exact .inl (uX h)
theorem Ga{b:UInt8}:gU b=true↔b=48\/b=49\/b=63:=by unfold gU;simp
theorem gh:bd s=true↔s.length=74/\∀b∈s,b=48\/b=49\/b=63:=by unfold bd;simp[Ga]
theorem CP{c:List F}(h:c.length=12):bd (eH c)=true :=
 gh.2 ⟨ph h,fun b hb=>(Hh c b hb).imp id .inl⟩
def du(s:List UInt8)(b e:UInt8):Bool:=decide (4<=(s.take 7).count b)&&decide (4<=(s.drop 67).count e)
theorem E3(c:List F):(eH c).take 7=List.replicate 7 49:=by unfold eH;rw[xY];rfl
theorem EQ{c:List F}(h:c.length=12):(eH c).drop 67=List.replicate 7 48:=by unfold eH;rw[List.drop_left' (by rw[yU,mW,h];rfl)]
theorem ET{c:List F}(h:c.length=12):du (eH c) 49 48=true:=by unfold du;rw[E3,EQ h];decide
def jm(s:List UInt8):List UInt8:=if bd s then (if du s 49 48 then s else if du s 48 49 then s.reverse else []) else []
def iM(s:List UInt8):Int:=if bd s then (if du s 49 48 then 0 else if du s 48 49 then 0 else 26) else 7
theorem Ey(s:List UInt8):bd s.reverse=bd s:=by unfold bd;rw[List.length_reverse,List.all_reverse]
theorem tA(h:iM s=0):bd (jm s)=true:=by
 unfold iM at h;unfold jm;rcases yS (bd s) with hs|hs
 ·rw[hs]at h⊢;simp only[if_true]at h⊢;split
  ·exact hs
  ·split
   ·rw[Ey];exact hs
   ·rename_i h1 h2
    rw[if_neg h1,if_neg h2]at h;omega
 ·rw[hs]at h;simp at h
def E8(b:List UInt8):Nat:=b.foldl (fun n x=>2*n+(x.toNat-48)) 0
def jj(b:List UInt8):Int:=if 63∈b then -1 else (E8 b:Int)
def ft(s:List UInt8)(i:Nat):List UInt8:=(s.drop (7+5*i)).take 5
def bY(s:List UInt8):List Int:=(List.range 12).map fun i=>jj (ft s i)
theorem dc(s:List UInt8):(bY s).length=12:=by simp[bY]
theorem yy(s:List UInt8)(h:i<12):(bY s)[i]?=some (jj (ft s i)):=by unfold bY;rw[zP,wJ h];rfl
theorem EC:∀x:F,jj (fR x.n)=(x.n:Int):=by decide +kernel
theorem Bc:∀(c:List F) (i:Nat) (x:F),c[i]?=some x->(mj c).drop (5*i)=fR x.n++mj (c.drop (i+1))
 |y::c,0,x,h=>by
  simp at h;subst h;rfl
 |y::c,i+1,x,h=>by
  have ih:=Bc c i x (by simpa using h);have e:mj (y::c)=fR y.n++mj c:=by unfold mj;rw[List.flatMap_cons]
  rw[e,show 5*(i+1)=5+5*i by omega,<-List.drop_drop,List.drop_left' (nN _),ih];rfl
theorem G1{c:List F}(h:c.length=12)(hi:i<12):ft (eH c) i=fR (c.getD i 0).n:=by have hx:c[i]?=some (c.getD i 0):=F.getD_eq (by omega);unfold ft eH;rw[xY,<-List.drop_drop,List.drop_left' (by simp),List.drop_append_of_le_length (by rw[mW,h];omega),Bc c i _ hx,xY,List.take_left' (nN _)]
theorem EA{c:List F}(h:c.length=12):bY (eH c)=wI c:=by
 apply xW;intro i;rcases zU i 12 with hi|hi
 ·rw[yy _ hi,G1 h hi,EC];unfold wI;rw[zP,F.getD_eq (w:=c) (by omega)];rfl
 ·rw[zC (by rw[dc];exact hi),zC (by rw[aT,h];exact hi)]
theorem LD:∀a b c d e:Bool,E8 [if a then 49 else 48,if b then 49 else 48,if c then 49 else 48,if d then 49 else 48,if e then 49 else 48]<32:=by decide
theorem F4{b:List UInt8}(hl:b.length=5)(h:∀x∈b,x=48\/x=49\/x=63):-1<=jj b/\jj b<32:=by
 unfold jj;by_cases h63:63∈b
 ·rw[if_pos h63];omega
 ·rw[if_neg h63];have hb:∀x∈b,∃y:Bool,x=if y then 49 else 48:=fun x hx=>by
   rcases h x hx with e|e|e
   ·exact⟨false,by rw[e];rfl⟩
   ·exact⟨true,by rw[e];rfl⟩
   ·subst e;exact absurd hx h63
  match b,hl with
  |[x1,x2,x3,x4,x5],_ =>
   obtain⟨y1,rfl⟩:=hb x1 (by simp);obtain⟨y2,rfl⟩:=hb x2 (by simp);obtain⟨y3,rfl⟩:=hb x3 (by simp);obtain⟨y4,rfl⟩:=hb x4 (by simp);obtain⟨y5,rfl⟩:=hb x5 (by simp);have:=LD y1 y2 y3 y4 y5;omega
theorem rf(h:s.length=74)(hi:i<12):(ft s i).length=5:=by unfold ft;rw[yW,wD,h];omega
theorem mE(h:bd s=true):cD (-1) (bY s)=true:=by obtain⟨h1,h2⟩:=gh.1 h;refine mO (by rw[dc];omega) (by rw[dc];omega) fun x hx=>?_;unfold bY at hx;obtain⟨i,hi,rfl⟩:=zF.1 hx;exact F4 (rf h1 (yX.1 hi)) fun y hy=>h2 y (List.mem_of_mem_drop (uI hy))
end Go.Proofs.YtkaajgoeahahpaaGreatDoor

namespace Go.Proofs.YtkaajgoeahahpaaGreatDoor
open Go.Value renaming int→A,slice→D
open Go.IntKind renaming i64→C
open Go.RowKit _root_.Go.Proofs.Tryz
theorem rS{l:List UInt8}{k:Nat}{x:UInt8}(h:l[k]?=some x):(l.take (k+1)).all gU=((l.take k).all gU&&gU x):=by rw[ax h];simp
theorem pu{s:List UInt8}(h:s.length≠74):bd s=false:=by unfold bd;rw[decide_eq_false h];rfl
theorem rC{s:List UInt8}(h:s.length=74):bd s=s.all gU:=by unfold bd;rw[decide_eq_true h];rfl
theorem tE{l:List UInt8}{k:Nat}{x:UInt8}(h:l[k]?=some x)(hx:gU x=false):l.all gU=false:=by rw[wT];exact⟨x,zW h,by rw[hx];simp⟩
theorem zy(x:UInt8):gU x=decide (x.toNat=48\/x.toNat=49\/x.toNat=63):=by
 unfold gU;have e:∀n:Nat,n<256->(x==UInt8.ofNat n)=decide (x.toNat=n):=fun n hn=>by rw[<-K1 hn];by_cases h:x.toNat=n<;>simp[h];omega
 have e1:=e 48 (by omega);have e2:=e 49 (by omega);have e3:=e 63 (by omega);rw[show (48:UInt8)=UInt8.ofNat 48 from rfl,show (49:UInt8)=UInt8.ofNat 49 from rfl,show (63:UInt8)=UInt8.ofNat 63 from rfl,e1,e2,e3];simp
theorem fk(s:ByteArray)(w:World) :
  Calls prog 144 #[.string s] w fun e w'=>e=.returned (.bool (bd (bl s)))/\w=w':=by
 by_cases h:s.size=74
 ·have e1:((s.size:Int)!=74)=false:=by rw[h];rfl
  have HF:=zZ (rC ((aO s).trans h));have HL:=zZ ((aO s).trans h);have h74:74<=s.size:=by omega
  have h75:s.size<=74:=by omega
  clear h;go_enter func144,ntmps144
  go_wp2_with fail;go_loop [3,7] (fun _ i=>∃k:Nat,k<=74/\i=A C k/\Hid (((bl s).take k).all gU=true)) (fun _ i=>74-(intOf i).toNat)
  case atStart=>exact⟨0,by omega,rfl,rfl⟩
  case round =>
   obtain⟨k,hk,rfl,HK⟩:=hrel;by_cases hlt:k<74
   ·have hks:k<s.size:=by omega
    have HX:=zZ (nJ hks);have HO:=zZ (zy s[k]);have step:gU s[k]=true->Hid (((bl s).take (k+1)).all gU=true):=fun h=>by
     show _=_
     rw[rS HX.out,HK.out,h];rfl
    by_cases a1:(s[k].toNat:Int)=48
    ·have hok:Hid (gU s[k]=true):=by show _=_;rw[HO.out];simp;omega
     have HS:=zZ (step hok.out);clear step HX HO hok;go_wp2_with fail;go_round
     case rel=>exact⟨k+1,by omega,by go_num,HS.out⟩
     case measure=>simp[intOf];omega
    by_cases a2:(s[k].toNat:Int)=49
    ·have hok:Hid (gU s[k]=true):=by show _=_;rw[HO.out];simp;omega
     have HS:=zZ (step hok.out);clear step HX HO hok a1;go_wp2_with fail;go_round
     case rel=>exact⟨k+1,by omega,by go_num,HS.out⟩
     case measure=>simp[intOf];omega
    by_cases a3:(s[k].toNat:Int)=63
    ·have hok:Hid (gU s[k]=true):=by show _=_;rw[HO.out];simp;omega
     have HS:=zZ (step hok.out);clear step HX HO hok a1 a2;go_wp2_with fail;go_round
     case rel=>exact⟨k+1,by omega,by go_num,HS.out⟩
     case measure=>simp[intOf];omega
    have hok:Hid (gU s[k]=false):=by show _=_;rw[HO.out];simp;omega
    have HS:=zZ (tE HX.out hok.out);have q1:((s[k].toNat:Int)!=48)=true:=bne_iff_ne.2 a1;have q2:((s[k].toNat:Int)!=49)=true:=bne_iff_ne.2 a2;have q3:((s[k].toNat:Int)!=63)=true:=bne_iff_ne.2 a3;clear step HX HO hok;go_wp2_with fail;go_ret
    exact⟨aa (by rw[HF.out,HS.out]),rfl⟩
   ·obtain rfl:k=74:=by omega
    rw[bh HL.out]at HK;go_wp2_with fail;go_ret
    exact⟨aa (by rw[HF.out];exact HK.out.symm),rfl⟩
 ·have e1:((s.size:Int)!=74)=true:=by simp;omega
  have HF:=zZ (pu (s:=bl s) (by rw[aO];exact h));clear h;go_enter func144,ntmps144
  go_wp2_with fail;go_ret
  exact⟨aa HF.out.symm,rfl⟩
theorem dx(s:ByteArray)(w:World) :
  Calls prog 151 #[.string s] w fun e w'=>e=.returned (.bool (bd (bl s)))/\w=w':=by
 by_cases h:s.size=74
 ·have e1:((s.size:Int)!=74)=false:=by rw[h];rfl
  have HF:=zZ (rC ((aO s).trans h));have HL:=zZ ((aO s).trans h);have h74:74<=s.size:=by omega
  have h75:s.size<=74:=by omega
  clear h;go_enter func151,ntmps151
  go_wp2_with fail;go_loop [3] (fun i=>∃k:Nat,k<=74/\i=A C k/\Hid (((bl s).take k).all gU=true)) (fun i=>74-(intOf i).toNat)
  case atStart=>exact⟨0,by omega,rfl,rfl⟩
  case round =>
   obtain⟨k,hk,rfl,HK⟩:=hrel;by_cases hlt:k<74
   ·have hks:k<s.size:=by omega
    have HX:=zZ (nJ hks);have HO:=zZ (zy s[k]);have step:gU s[k]=true->Hid (((bl s).take (k+1)).all gU=true):=fun h=>by
     show _=_
     rw[rS HX.out,HK.out,h];rfl
    by_cases a1:(s[k].toNat:Int)=48
    ·have hok:Hid (gU s[k]=true):=by show _=_;rw[HO.out];simp;omega
     have HS:=zZ (step hok.out);clear step HX HO hok;go_wp2_with fail;go_round
     case rel=>exact⟨k+1,by omega,by go_num,HS.out⟩
     case measure=>simp[intOf];omega
    by_cases a2:(s[k].toNat:Int)=49
    ·have hok:Hid (gU s[k]=true):=by show _=_;rw[HO.out];simp;omega
     have HS:=zZ (step hok.out);clear step HX HO hok a1;go_wp2_with fail;go_round
     case rel=>exact⟨k+1,by omega,by go_num,HS.out⟩
     case measure=>simp[intOf];omega
    by_cases a3:(s[k].toNat:Int)=63
    ·have hok:Hid (gU s[k]=true):=by show _=_;rw[HO.out];simp;omega
     have HS:=zZ (step hok.out);clear step HX HO hok a1 a2;go_wp2_with fail;go_round
     case rel=>exact⟨k+1,by omega,by go_num,HS.out⟩
     case measure=>simp[intOf];omega
    have hok:Hid (gU s[k]=false):=by show _=_;rw[HO.out];simp;omega
    have HS:=zZ (tE HX.out hok.out);have q1:((s[k].toNat:Int)!=48)=true:=bne_iff_ne.2 a1;have q2:((s[k].toNat:Int)!=49)=true:=bne_iff_ne.2 a2;have q3:((s[k].toNat:Int)!=63)=true:=bne_iff_ne.2 a3;clear step HX HO hok;go_wp2_with fail;go_ret
    exact⟨aa (by rw[HF.out,HS.out]),rfl⟩
   ·obtain rfl:k=74:=by omega
    rw[bh HL.out]at HK;go_wp2_with fail;go_ret
    exact⟨aa (by rw[HF.out];exact HK.out.symm),rfl⟩
 ·have e1:((s.size:Int)!=74)=true:=by simp;omega
  have HF:=zZ (pu (s:=bl s) (by rw[aO];exact h));clear h;go_enter func151,ntmps151
  go_wp2_with fail;go_ret
  exact⟨aa HF.out.symm,rfl⟩
end Go.Proofs.YtkaajgoeahahpaaGreatDoor

namespace Go.Proofs.YtkaajgoeahahpaaGreatDoor
open Go.Value renaming int→A,slice→D
open Go.IntKind renaming i64→C
open Go.Shelf Go.RowKit
def K7:Go.Shelf.Ren:=⟨fun|105=>93|212=>131|99=>132|165=>133|166=>92|170=>134|169=>95|263=>180|264=>181|206=>182|240=>130|241=>183|276=>179|277=>204|167=>94|n=>n,fun|9=>9|3=>3|4=>4|20=>20|0=>0|46=>163|109=>171|5=>5|72=>139|76=>142|51=>203|146=>215|53=>205|148=>217|70=>136|37=>137|75=>141|127=>175|164=>213|80=>145|n=>n,fun|n=>n⟩
theorem Kp:Go.Proofs.Lays.n105 Tryz.prog K7:={
 mixed:=by kernel_rfl
 f99:=Tryz.func132.trans (congrArg some (by kernel_rfl))
 f105:=Tryz.func93.trans (congrArg some (by kernel_rfl))
 f165:=Tryz.func133.trans (congrArg some (by kernel_rfl))
 f166:=Tryz.func92.trans (congrArg some (by kernel_rfl))
 f169:=Tryz.func95.trans (congrArg some (by kernel_rfl))
 f170:=Tryz.func134.trans (congrArg some (by kernel_rfl))
 f206:=Tryz.func182.trans (congrArg some (by kernel_rfl))
 f212:=Tryz.func131.trans (congrArg some (by kernel_rfl))
 f240:=Tryz.func130.trans (congrArg some (by kernel_rfl))
 f241:=Tryz.func183.trans (congrArg some (by kernel_rfl))
 f263:=Tryz.func180.trans (congrArg some (by kernel_rfl))
 f264:=Tryz.func181.trans (congrArg some (by kernel_rfl))
 f276:=Tryz.func179.trans (congrArg some (by kernel_rfl))
 f277:=Tryz.func204.trans (congrArg some (by kernel_rfl))
 t0:=Tryz.underlying0
 a0:=Tryz.isAgg0
 z0:=Tryz.sizeOf0
 v0:=Tryz.zeroValue0
 t3:=Tryz.underlying3
 a3:=Tryz.isAgg3
 z3:=Tryz.sizeOf3
 v3:=Tryz.zeroValue3
 t4:=Tryz.underlying4
 a4:=Tryz.isAgg4
 z4:=Tryz.sizeOf4
 v4:=Tryz.zeroValue4
 t5:=Tryz.underlying5
 a5:=Tryz.isAgg5
 z5:=Tryz.sizeOf5
 v5:=Tryz.zeroValue5
 t9:=Tryz.underlying9
 a9:=Tryz.isAgg9
 z9:=Tryz.sizeOf9
 v9:=Tryz.zeroValue9
 t20:=Tryz.underlying20
 a20:=Tryz.isAgg20
 z20:=Tryz.sizeOf20
 v20:=Tryz.zeroValue20
 t37:=Tryz.underlying137
 a37:=Tryz.isAgg137
 z37:=Tryz.sizeOf137
 v37:=Tryz.zeroValue137
 t46:=Tryz.underlying163
 a46:=Tryz.isAgg163
 z46:=Tryz.sizeOf163
 v46:=Tryz.zeroValue163
 t51:=Tryz.underlying203
 a51:=Tryz.isAgg203
 z51:=Tryz.sizeOf203
 v51:=Tryz.zeroValue203
 t53:=Tryz.underlying205
 a53:=Tryz.isAgg205
 z53:=Tryz.sizeOf205
 v53:=Tryz.zeroValue205
 t70:=Tryz.underlying136
 a70:=Tryz.isAgg136
 z70:=Tryz.sizeOf136
 v70:=Tryz.zeroValue136
 t72:=Tryz.underlying139
 a72:=Tryz.isAgg139
 z72:=Tryz.sizeOf139
 v72:=Tryz.zeroValue139
 t75:=Tryz.underlying141
 a75:=Tryz.isAgg141
 z75:=Tryz.sizeOf141
 v75:=Tryz.zeroValue141
 t76:=Tryz.underlying142
 a76:=Tryz.isAgg142
 z76:=Tryz.sizeOf142
 v76:=Tryz.zeroValue142
 t109:=Tryz.underlying171
 a109:=Tryz.isAgg171
 z109:=Tryz.sizeOf171
 v109:=Tryz.zeroValue171
 t127:=Tryz.underlying175
 a127:=Tryz.isAgg175
 z127:=Tryz.sizeOf175
 v127:=Tryz.zeroValue175
 t146:=Tryz.underlying215
 a146:=Tryz.isAgg215
 z146:=Tryz.sizeOf215
 v146:=Tryz.zeroValue215
 t148:=Tryz.underlying217
 a148:=Tryz.isAgg217
 z148:=Tryz.sizeOf217
 v148:=Tryz.zeroValue217
 t164:=Tryz.underlying213
 a164:=Tryz.isAgg213
 z164:=Tryz.sizeOf213
 v164:=Tryz.zeroValue213 }
theorem KD:Go.Proofs.Lays.n166 Tryz.prog K7:={
 mixed:=by kernel_rfl
 f166:=Tryz.func92.trans (congrArg some (by kernel_rfl))
 f240:=Tryz.func130.trans (congrArg some (by kernel_rfl))
 f276:=Tryz.func179.trans (congrArg some (by kernel_rfl))
 t0:=Tryz.underlying0
 a0:=Tryz.isAgg0
 z0:=Tryz.sizeOf0
 v0:=Tryz.zeroValue0
 t3:=Tryz.underlying3
 a3:=Tryz.isAgg3
 z3:=Tryz.sizeOf3
 v3:=Tryz.zeroValue3
 t4:=Tryz.underlying4
 a4:=Tryz.isAgg4
 z4:=Tryz.sizeOf4
 v4:=Tryz.zeroValue4
 t9:=Tryz.underlying9
 a9:=Tryz.isAgg9
 z9:=Tryz.sizeOf9
 v9:=Tryz.zeroValue9
 t20:=Tryz.underlying20
 a20:=Tryz.isAgg20
 z20:=Tryz.sizeOf20
 v20:=Tryz.zeroValue20
 t37:=Tryz.underlying137
 a37:=Tryz.isAgg137
 z37:=Tryz.sizeOf137
 v37:=Tryz.zeroValue137
 t70:=Tryz.underlying136
 a70:=Tryz.isAgg136
 z70:=Tryz.sizeOf136
 v70:=Tryz.zeroValue136
 t72:=Tryz.underlying139
 a72:=Tryz.isAgg139
 z72:=Tryz.sizeOf139
 v72:=Tryz.zeroValue139
 t75:=Tryz.underlying141
 a75:=Tryz.isAgg141
 z75:=Tryz.sizeOf141
 v75:=Tryz.zeroValue141
 t164:=Tryz.underlying213
 a164:=Tryz.isAgg213
 z164:=Tryz.sizeOf213
 v164:=Tryz.zeroValue213 }
theorem KT:Go.Proofs.Lays.n167 Tryz.prog K7:={
 mixed:=by kernel_rfl
 f167:=Tryz.func94.trans (congrArg some (by kernel_rfl))
 f240:=Tryz.func130.trans (congrArg some (by kernel_rfl))
 f276:=Tryz.func179.trans (congrArg some (by kernel_rfl))
 t0:=Tryz.underlying0
 a0:=Tryz.isAgg0
 z0:=Tryz.sizeOf0
 v0:=Tryz.zeroValue0
 t4:=Tryz.underlying4
 a4:=Tryz.isAgg4
 z4:=Tryz.sizeOf4
 v4:=Tryz.zeroValue4
 t5:=Tryz.underlying5
 a5:=Tryz.isAgg5
 z5:=Tryz.sizeOf5
 v5:=Tryz.zeroValue5
 t9:=Tryz.underlying9
 a9:=Tryz.isAgg9
 z9:=Tryz.sizeOf9
 v9:=Tryz.zeroValue9
 t20:=Tryz.underlying20
 a20:=Tryz.isAgg20
 z20:=Tryz.sizeOf20
 v20:=Tryz.zeroValue20
 t37:=Tryz.underlying137
 a37:=Tryz.isAgg137
 z37:=Tryz.sizeOf137
 v37:=Tryz.zeroValue137
 t70:=Tryz.underlying136
 a70:=Tryz.isAgg136
 z70:=Tryz.sizeOf136
 v70:=Tryz.zeroValue136
 t72:=Tryz.underlying139
 a72:=Tryz.isAgg139
 z72:=Tryz.sizeOf139
 v72:=Tryz.zeroValue139
 t75:=Tryz.underlying141
 a75:=Tryz.isAgg141
 z75:=Tryz.sizeOf141
 v75:=Tryz.zeroValue141
 t164:=Tryz.underlying213
 a164:=Tryz.isAgg213
 z164:=Tryz.sizeOf213
 v164:=Tryz.zeroValue213 }
theorem KU:Go.Proofs.Lays.n169 Tryz.prog K7:={
 mixed:=by kernel_rfl
 f169:=Tryz.func95.trans (congrArg some (by kernel_rfl))
 t0:=Tryz.underlying0
 a0:=Tryz.isAgg0
 z0:=Tryz.sizeOf0
 v0:=Tryz.zeroValue0
 t3:=Tryz.underlying3
 a3:=Tryz.isAgg3
 z3:=Tryz.sizeOf3
 v3:=Tryz.zeroValue3
 t9:=Tryz.underlying9
 a9:=Tryz.isAgg9
 z9:=Tryz.sizeOf9
 v9:=Tryz.zeroValue9
 t37:=Tryz.underlying137
 a37:=Tryz.isAgg137
 z37:=Tryz.sizeOf137
 v37:=Tryz.zeroValue137
 t70:=Tryz.underlying136
 a70:=Tryz.isAgg136
 z70:=Tryz.sizeOf136
 v70:=Tryz.zeroValue136
 t72:=Tryz.underlying139
 a72:=Tryz.isAgg139
 z72:=Tryz.sizeOf139
 v72:=Tryz.zeroValue139
 t127:=Tryz.underlying175
 a127:=Tryz.isAgg175
 z127:=Tryz.sizeOf175
 v127:=Tryz.zeroValue175 }
theorem Lp:Builder.Extra Tryz.prog K7:={
 sizeBuilder:=by kernel_rfl
 liesBuilder:=by kernel_rfl
 t5:=Tryz.underlying5
 a5:=Tryz.isAgg5
 z5:=Tryz.sizeOf5
 v5:=Tryz.zeroValue5
 infoByte:=by kernel_rfl
 cellsByte:=by kernel_rfl
 sizeByte:=by kernel_rfl
 neB5:=by decide }
def LI:Go.Shelf.Ren:=⟨fun|138=>193|195=>213|218=>214|143=>215|219=>222|217=>224|225=>225|224=>226|267=>227|266=>228|314=>229|n=>n,fun|9=>9|3=>3|4=>4|5=>5|0=>0|46=>163|146=>215|51=>203|n=>n,fun|1=>2|n=>n⟩
theorem KL:Go.Proofs.Lays.n138 Tryz.prog LI:={
 mixed:=by kernel_rfl
 f138:=Tryz.func193.trans (congrArg some (by kernel_rfl))
 f143:=Tryz.func215.trans (congrArg some (by kernel_rfl))
 f195:=Tryz.func213.trans (congrArg some (by kernel_rfl))
 f217:=Tryz.func224.trans (congrArg some (by kernel_rfl))
 f218:=Tryz.func214.trans (congrArg some (by kernel_rfl))
 f219:=Tryz.func222.trans (congrArg some (by kernel_rfl))
 f224:=Tryz.func226.trans (congrArg some (by kernel_rfl))
 f225:=Tryz.func225.trans (congrArg some (by kernel_rfl))
 f266:=Tryz.func228.trans (congrArg some (by kernel_rfl))
 f267:=Tryz.func227.trans (congrArg some (by kernel_rfl))
 f314:=Tryz.func229.trans (congrArg some (by kernel_rfl))
 t0:=Tryz.underlying0
 a0:=Tryz.isAgg0
 z0:=Tryz.sizeOf0
 v0:=Tryz.zeroValue0
 t3:=Tryz.underlying3
 a3:=Tryz.isAgg3
 z3:=Tryz.sizeOf3
 v3:=Tryz.zeroValue3
 t4:=Tryz.underlying4
 a4:=Tryz.isAgg4
 z4:=Tryz.sizeOf4
 v4:=Tryz.zeroValue4
 t5:=Tryz.underlying5
 a5:=Tryz.isAgg5
 z5:=Tryz.sizeOf5
 v5:=Tryz.zeroValue5
 t9:=Tryz.underlying9
 a9:=Tryz.isAgg9
 z9:=Tryz.sizeOf9
 v9:=Tryz.zeroValue9
 t46:=Tryz.underlying163
 a46:=Tryz.isAgg163
 z46:=Tryz.sizeOf163
 v46:=Tryz.zeroValue163
 t51:=Tryz.underlying203
 a51:=Tryz.isAgg203
 z51:=Tryz.sizeOf203
 v51:=Tryz.zeroValue203
 t146:=Tryz.underlying215
 a146:=Tryz.isAgg215
 z146:=Tryz.sizeOf215
 v146:=Tryz.zeroValue215
 g1:=by kernel_rfl }
theorem rt(B b:Nat)(bs:List Value)(c:Int)(w:World)(h:Lib.IsBuilderF 139 5 B b bs w)(hlen:bs.length+1<=140737488355328)(hBw:B<=w.heap.size) :
  Calls Tryz.prog 94 #[.pointer (some ⟨b,0,none⟩),.int .u8 c] w fun e w'=>e=.returned .nilIface/\(Lib.BuilderAtF 139 5 B b (.pointer (some ⟨b,0,none⟩)) (bs++[.int .u8 c]) w'/\Below B w w'/\Lib.OthersKept 5 (some b) w w') :=
 Any.Builder_WriteByte_k KT Lp B b bs c w h hlen hBw
theorem ue(B b:Nat)(bs:List Value)(s:ByteArray)(w:World)(h:Lib.IsBuilderF 139 5 B b bs w)(hlen:bs.length+s.size<=140737488355328)(hBw:B<=w.heap.size) :
  Calls Tryz.prog 92 #[.pointer (some ⟨b,0,none⟩),.string s] w fun e w'=>e=.returned (.tuple #[A C s.size,.nilIface])/\(Lib.BuilderAtF 139 5 B b (.pointer (some ⟨b,0,none⟩)) (bs++Lib.strCells s) w'/\Below B w w'/\Lib.OthersKept 5 (some b) w w') :=
 Any.Builder_WriteString_k KD Lp B b bs s w h hlen hBw
theorem Ea(B b:Nat)(l:List UInt8)(w:World)(h:Lib.IsBuilderF 139 5 B b (Lib.byteCells l) w)(hBw:B<=w.heap.size) :
  Calls Tryz.prog 95 #[.pointer (some ⟨b,0,none⟩)] w fun e w'=>e=.returned (.string ⟨l.toArray⟩)/\(Lib.IsBuilderF 139 5 B b (Lib.byteCells l) w'/\Below B w w'/\Lib.OthersKept 5 (some b) w w') :=
 Any.Builder_String_any_k KU Lp B b l w h hBw
theorem II(s:ByteArray)(c:Nat)(w:World)(hc:c<=9223372036854775807)(hlen:s.size*c<=140737488355328) :
  Calls Tryz.prog 93 #[.string s,A C c] w fun e w'=>e=.returned (.string ⟨(Lib.repeatL s.data.toList c).toArray⟩)/\Below w.heap.size w w' :=
 Any.strings_Repeat Kp Lp s c w hc hlen
theorem Kh(s:ByteArray)(c:UInt8)(w:World) :
  Calls Tryz.prog 193 #[.string s,.string ⟨#[c]⟩] w fun e w'=>e=.returned (A C (Lib.countByte s.data.toList c))/\w=w' :=
 (Any.strings_Count_one KL s c w).mono fun _ _ ⟨he,hw⟩=>⟨he,hw.symm⟩
end Go.Proofs.YtkaajgoeahahpaaGreatDoor

namespace Go.Proofs.YtkaajgoeahahpaaGreatDoor
open Go.Value renaming int→A,slice→D
open Go.IntKind renaming i64→C
open Go.RowKit _root_.Go.Proofs.Tryz
variable {fuel k n:Nat} {l s:List UInt8} {v:Value} {listed:Array Bool}
theorem Tryz.infoU8:(prog.info? 5).map (fun i=>(i.zero,i.size,i.bytes))=some (some (.int .u8 0),1,1):=by kernel_rfl
theorem Fg{α:Type}{l:List α}{x:α}(h:l[k]?=some x):(l.drop k)=x::l.drop (k+1):=by obtain⟨hk,rfl⟩:=zY.1 h;exact vZ hk
theorem zd{x:UInt8}(h:l[k]?=some x):(l.drop (k+1)).reverse++[x]=(l.drop k).reverse:=by rw[Fg h,List.reverse_cons]
theorem GF(s:ByteArray)(w:World)(hs:s.size<=140737488351232) :
  Calls prog 146 #[.string s] w fun e w'=>∃t,e=.returned (.string t)/\bl t=(bl s).reverse/\ab w w':=by
 have HL:=zZ (aO s);go_enter func146,ntmps146
 go_wp2_with fail;go_loopw [4] (fun i wr=>∃k:Nat,k<=s.size/\i=A C ((k:Int)-1)/\Hid (Lib.IsBuilderF 139 5 w.heap.size w.heap.size (Lib.byteCells ((bl s).drop k).reverse) wr)/\Hid (ab w wr)) (fun i _=>((intOf i)+1).toNat)
 case atStart=>exact⟨s.size,zX _,rfl,by show Lib.IsBuilderF _ _ _ _ _ _;rw[uF (by rw[HL.out];exact zX _)];exact Lib.IsBuilderF.of (Lib.fresh_isBuilder _ _ w),(zE _).alloc _⟩
 case round =>
  obtain⟨k,hk,rfl,HB,HE⟩:=hrel;have hsz:=HE.out.size;by_cases h0:0<k
  ·obtain⟨j,rfl⟩:∃j,k=j+1:=⟨k-1,by omega⟩
   have hj:j<s.size:=by omega
   have HX:=zZ (nJ hj);have e1:(((j+1:Nat):Int)-1)=(j:Int):=by omega
   rw[e1];clear e1;go_wp2_with fail;refine (rt w.heap.size w.heap.size _ _ _ HB.out (by rw[Lib.byteCells_length,List.length_reverse,wD,HL.out];omega) hsz).mono ?_;rintro e w1 ⟨rfl,h1,b1,k1⟩;have HB1:Hid (Lib.IsBuilderF 139 5 w.heap.size w.heap.size (Lib.byteCells ((bl s).drop j).reverse) w1):=by
    show Lib.IsBuilderF _ _ _ _ _ _
    rw[<-zd HX.out,Lib.byteCells_append];exact Or.inr h1
   have HE1:Hid (ab w w1):=xD HE.out b1;clear h1 b1 k1 HB HE;go_wp2_with fail;go_roundw
   case rel=>exact⟨j,by omega,rfl,HB1,HE1⟩
   case measure=>simp[intOf]
  ·obtain rfl:k=0:=by omega
   go_wp2_with fail;refine (Ea w.heap.size w.heap.size _ _ HB.out hsz).mono ?_;rintro e w1 ⟨rfl,h1,b1,k1⟩;clear h1 k1;go_wp2_with fail;go_ret
   exact⟨_,rfl,by rw[Dz],xD HE.out b1⟩
theorem Fl(w:World){base:Nat}(h:w.ownsRow base 5 1 v n (Lib.byteCells l))(hn:n<=1000000) :
  ∃t,(convert 137 9 v).run prog w=.ok (.string t) w/\bl t=l:=by
 have hn1:n=l.length:=by have:=h.1;rw[Lib.byteCells_length]at this;omega
 rcases h.2 with ⟨rfl,hnil⟩|⟨g,cap,cur,rfl,hg,hh,hnc,hcm,hcs,htk⟩
 ·obtain rfl:l=[]:=xZ (by omega);exact⟨⟨#[]⟩,Lib.run_convert_nil_bytes w _ _ 5 0 underlying137 underlying5 underlying9,rfl⟩
 ·subst hn1;refine⟨⟨l.toArray⟩,?_,Dz l⟩;exact run_convert_bytes_back w _ _ 5 ⟨g,0,none⟩ cap l underlying137 underlying5 underlying9 (fun j hj=>Lib.bytes_of_row hh (by simpa using htk) j hj)
theorem pk(s:ByteArray)(w:World)(hs:s.size<=1000000) :
  Calls prog 65 #[.string s] w fun e w'=>∃t,e=.returned (.string t)/\bl t=(bl s).reverse/\ab w w':=by
 have HL:=zZ (aO s);obtain⟨i0,hi0,hz0,hz1,hz2⟩:=info_parts Tryz.infoU8;go_enter func65,ntmps65
 go_wp2_with fail;go_loopw [3,4] (fun v i wr=>∃k:Nat,k<=s.size/\i=A C ((k:Int)-1)/\Hid (wr.ownsRow w.heap.size 5 1 v (s.size-k) (Lib.byteCells ((bl s).drop k).reverse))/\Hid (ab w wr)) (fun _ i _=>((intOf i)+1).toNat)
 case atStart=>exact⟨s.size,zX _,rfl,by show World.ownsRow _ _ _ _ _ _ _;rw[uF (by rw[HL.out];exact zX _),vH];exact yZ _ _ _ _,zE _⟩
 case round =>
  obtain⟨k,hk,rfl,HO,HE⟩:=hrel;have hsz:=HE.out.size;by_cases h0:0<k
  ·obtain⟨j,rfl⟩:∃j,k=j+1:=⟨k-1,by omega⟩
   have hj:j<s.size:=by omega
   have HX:=zZ (nJ hj);have e1:(((j+1:Nat):Int)-1)=(j:Int):=by omega
   rw[e1];clear e1;go_wp2_with (at_builtin;refine aF _ rfl (.tmp 12) (.tmp 16) 137 rfl w.heap.size 5 i0 _ 1 underlying137 hi0 hz0 hz1 hz2 rfl _ _ _ rfl (HO.out.alloc _) _ _ rfl (ac (heap_alloc_new _ _) rfl) rfl (by omega) (by omega) (by simp;omega) ?_;intro v' w' hown hg);go_roundw
   case rel =>
    refine⟨j,by omega,rfl,?_,?_⟩
    ·show World.ownsRow _ _ _ _ _ _ _
     rw[<-zd HX.out,Lib.byteCells_append,show s.size-j=s.size-(j+1)+1 by omega];exact hown
    ·exact ab.grown (HE.out.alloc _) hg (fun q hq=>aq HO.out q hq)
   case measure=>simp[intOf]
  ·obtain rfl:k=0:=by omega
   obtain⟨t,ht,hb⟩:=Fl wr HO.out (by omega);have HT:=zZ hb;clear hb;go_wp2_with fail;go_ret
   exact⟨_,rfl,by rw[HT.out,uZ],HE.out⟩
theorem Dm{x c:UInt8}(h:l[k]?=some x):(l.take (k+1)).count c=(l.take k).count c+(if x=c then 1 else 0):=by rw[ax h,List.count_append,List.count_singleton];by_cases hx:x=c<;>simp[hx]
theorem mz(s:ByteArray)(c:UInt8)(w:World)(n:Nat)(h:(bl s).count c=n) :
  Calls prog 193 #[.string s,.string ⟨#[c]⟩] w fun e w'=>e=.returned (A C (n:Int))/\w=w':=by
 subst h;exact Kh s c w
theorem Fk(s:ByteArray)(c:UInt8)(w:World)(hs:s.size<=1000000) :
  Calls prog 152 #[.string s,.int .u8 (c.toNat:Int)] w fun e w'=>e=.returned (A C ((bl s).count c:Int))/\w=w':=by
 have HL:=zZ (aO s);go_enter func152,ntmps152
 go_wp2_with fail;go_loop [5,6] (fun n i=>∃k m:Nat,k<=s.size/\i=A C k/\n=A C m/\m<=k/\Hid (((bl s).take k).count c=m)) (fun _ i=>s.size-(intOf i).toNat)
 case atStart=>exact⟨0,0,xL _,rfl,rfl,zX _,rfl⟩
 case round =>
  obtain⟨k,m,hk,rfl,rfl,hm,HK⟩:=hrel;by_cases hlt:k<s.size
  ·have HS:=zZ (Dm (c:=c) (nJ hlt));by_cases a1:s[k]=c
   ·rw[if_pos a1]at HS;rw[HK.out]at HS;have e1:((s[k].toNat:Int)==(c.toNat:Int))=true:=by rw[a1];simp
    have e2:s[k].toNat=c.toNat:=by rw[a1]
    clear a1;go_wp2_with fail;go_round
    case rel=>exact⟨k+1,m+1,by omega,by go_num,by go_num,by omega,HS.out⟩
    case measure=>simp[intOf];omega
   ·rw[if_neg a1]at HS;rw[HK.out]at HS;have e2:¬s[k].toNat=c.toNat:=fun e=>a1 (UInt8.toNat_inj.1 e);have e1:((s[k].toNat:Int)==(c.toNat:Int))=false:=beq_eq_false_iff_ne.2 (by omega);clear a1;go_wp2_with fail;go_round
    case rel=>exact⟨k+1,m,by omega,by go_num,rfl,by omega,HS.out⟩
    case measure=>simp[intOf];omega
  ·obtain rfl:k=s.size:=by omega
   rw[bh HL.out]at HK;go_wp2_with fail;go_ret
   exact⟨ag (by rw[HK.out]),rfl⟩
theorem mb(s:ByteArray)(c:UInt8)(w:World)(n:Nat)(h:(bl s).count c=n)(hs:s.size<=1000000) :
  Calls prog 152 #[.string s,.int .u8 (c.toNat:Int)] w fun e w'=>e=.returned (A C (n:Int))/\w=w':=by
 subst h;exact Fk s c w hs
theorem sa(s:ByteArray)(w:World)(n:Nat)(h:(bl s).count 48=n)(hs:s.size<=1000000) :
  Calls prog 152 #[.string s,.int .u8 48] w fun e w'=>e=.returned (A C (n:Int))/\w=w':=mb s 48 w n h hs
theorem qN(s:ByteArray)(w:World)(n:Nat)(h:(bl s).count 49=n)(hs:s.size<=1000000) :
  Calls prog 152 #[.string s,.int .u8 49] w fun e w'=>e=.returned (A C (n:Int))/\w=w':=mb s 49 w n h hs
theorem Lw(s:ByteArray)(w:World)(n:Nat)(h:(bl s).count 63=n)(hs:s.size<=1000000) :
  Calls prog 152 #[.string s,.int .u8 63] w fun e w'=>e=.returned (A C (n:Int))/\w=w':=mb s 63 w n h hs
theorem wt{b e:UInt8}{m:Nat}(h1:(s.take 7).count b=n)(h2:(s.drop 67).count e=m):du s b e=(decide (4<=n)&&decide (4<=m)):=by unfold du;rw[h1,h2]
theorem iE(s:ByteArray)(b e:UInt8)(w:World)(hs:s.size=74) :
  Calls prog 145 #[.string s,.string ⟨#[b]⟩,.string ⟨#[e]⟩] w fun r w'=>r=.returned (.bool (du (bl s) b e))/\w=w':=by
 have h74:74<=s.size:=by omega
 have h75:s.size<=74:=by omega
 obtain⟨n,hn⟩:∃n,((bl s).take 7).count b=n:=⟨_,rfl⟩
 obtain⟨m,hm⟩:∃m,((bl s).drop 67).count e=m:=⟨_,rfl⟩
 have HM:=zZ (wt hn hm);have H1:Hid ((bl (s.extract 0 7)).count b=n):=by show _=_;rw[sJ];exact hn
 have H2:Hid ((bl (s.extract 67 s.size)).count e=m):=by show _=_;rw[lF];exact hm
 clear hs hn hm;by_cases h4:4<=n
 ·go_enter func145,ntmps145
  go_wp2_with fail;refine (mz _ b _ n H1.out).mono ?_;rintro r w1 ⟨rfl,rfl⟩;go_wp2_with fail;refine (mz _ e _ m H2.out).mono ?_;rintro r w1 ⟨rfl,rfl⟩;go_wp2_with fail;go_ret
  exact⟨aa (by rw[HM.out];simp[h4];omega),rfl⟩
 ·go_enter func145,ntmps145
  go_wp2_with fail;refine (mz _ b _ n H1.out).mono ?_;rintro r w1 ⟨rfl,rfl⟩;go_wp2_with fail;go_ret
  exact⟨aa (by rw[HM.out];simp[h4]),rfl⟩
def Gb(s:List UInt8)(w:World)(e:Ending)(w':World):Prop:=∃t k,e=.returned (.tuple #[.string t,A C k])/\k=iM s/\bl t=jm s/\ab w w'
theorem Dx(h:bd s=false):jm s=[]/\iM s=7:=by unfold jm iM;rw[h];exact⟨rfl,rfl⟩
theorem CE(h:bd s=true)(h1:du s 49 48=true):jm s=s/\iM s=0:=by unfold jm iM;rw[h,h1];exact⟨rfl,rfl⟩
theorem rz(h:bd s=true)(h1:du s 49 48=false)(h2:du s 48 49=true):jm s=s.reverse/\iM s=0:=by unfold jm iM;rw[h,h1,h2];exact⟨rfl,rfl⟩
theorem kQ(h:bd s=true)(h1:du s 49 48=false)(h2:du s 48 49=false):jm s=[]/\iM s=26:=by unfold jm iM;rw[h,h1,h2];exact⟨rfl,rfl⟩
theorem BX(s:ByteArray)(w:World):Calls prog 105 #[.string s] w (Gb (bl s) w):=by
 rcases yS (bd (bl s)) with hb|hb
 ·have hs:s.size=74:=by rw[<-aO];exact (gh.1 hb).1
  rcases yS (du (bl s) 49 48) with h1|h1
  ·obtain⟨u1,u2⟩:=CE hb h1;have U1:=zZ u1;have U2:=zZ u2;have HS:=zZ hs;clear u1 u2 hs;go_enter func105,ntmps105
   go_wp2_with fail;refine (fk _ _).mono ?_;rintro r w1 ⟨rfl,rfl⟩;rw[hb];go_wp2_with fail;refine (iE _ 49 48 _ HS.out).mono ?_;rintro r w1 ⟨rfl,rfl⟩;rw[h1];go_wp2_with fail;go_ret2
   exact⟨s,0,rfl,U2.out.symm,U1.out.symm,zE _⟩
  rcases yS (du (bl s) 48 49) with h2|h2
  ·obtain⟨u1,u2⟩:=rz hb h1 h2;have U1:=zZ u1;have U2:=zZ u2;have HS:=zZ hs;clear u1 u2 hs;go_enter func105,ntmps105
   go_wp2_with fail;refine (fk _ _).mono ?_;rintro r w1 ⟨rfl,rfl⟩;rw[hb];go_wp2_with fail;refine (iE _ 49 48 _ HS.out).mono ?_;rintro r w1 ⟨rfl,rfl⟩;rw[h1];go_wp2_with fail;refine (iE _ 48 49 _ HS.out).mono ?_;rintro r w1 ⟨rfl,rfl⟩;rw[h2];go_wp2_with fail;refine (GF s _ (by rw[HS.out];omega)).mono ?_;rintro r w1 ⟨t,rfl,ht,hx⟩;have HT:=zZ ht;have HX:=zZ hx;clear ht hx;go_wp2_with fail;go_ret2
   exact⟨t,0,rfl,U2.out.symm,by rw[U1.out,HT.out],HX.out⟩
  ·obtain⟨u1,u2⟩:=kQ hb h1 h2;have U1:=zZ u1;have U2:=zZ u2;have HS:=zZ hs;clear u1 u2 hs;go_enter func105,ntmps105
   go_wp2_with fail;refine (fk _ _).mono ?_;rintro r w1 ⟨rfl,rfl⟩;rw[hb];go_wp2_with fail;refine (iE _ 49 48 _ HS.out).mono ?_;rintro r w1 ⟨rfl,rfl⟩;rw[h1];go_wp2_with fail;refine (iE _ 48 49 _ HS.out).mono ?_;rintro r w1 ⟨rfl,rfl⟩;rw[h2];go_wp2_with fail;go_ret2
   exact⟨_,_,rfl,U2.out.symm,by rw[U1.out];rfl,zE _⟩
 ·obtain⟨u1,u2⟩:=Dx hb;have U1:=zZ u1;have U2:=zZ u2;clear u1 u2;go_enter func105,ntmps105
  go_wp2_with fail;refine (fk _ _).mono ?_;rintro r w1 ⟨rfl,rfl⟩;rw[hb];go_wp2_with fail;go_ret2
  exact⟨_,_,rfl,U2.out.symm,by rw[U1.out];rfl,zE _⟩
structure Ly (s:ByteArray) (n1 m1 n2 m2:Nat):Prop where
 n1:(bl (s.extract 0 7)).count 49=n1
 m1:(bl (s.extract 67 s.size)).count 48=m1
 n2:(bl (s.extract 0 7)).count 48=n2
 m2:(bl (s.extract 67 s.size)).count 49=m2
 e7:(s.extract 0 7).size<=1000000
 e67:(s.extract 67 s.size).size<=1000000
theorem tW(s:ByteArray)(w:World):Calls prog 108 #[.string s] w (Gb (bl s) w):=by
 rcases yS (bd (bl s)) with hb|hb
 ·have hs:s.size=74:=by rw[<-aO];exact (gh.1 hb).1
  have h74:74<=s.size:=by omega
  have h75:s.size<=74:=by omega
  obtain⟨n1,hn1⟩:∃n,((bl s).take 7).count 49=n:=⟨_,rfl⟩
  obtain⟨m1,hm1⟩:∃n,((bl s).drop 67).count 48=n:=⟨_,rfl⟩
  obtain⟨n2,hn2⟩:∃n,((bl s).take 7).count 48=n:=⟨_,rfl⟩
  obtain⟨m2,hm2⟩:∃n,((bl s).drop 67).count 49=n:=⟨_,rfl⟩
  have HM1:=zZ (wt hn1 hm1);have HM2:=zZ (wt hn2 hm2);have HC:Ly s n1 m1 n2 m2:=⟨by rw[sJ];exact hn1,by rw[lF];exact hm1,by rw[sJ];exact hn2,by rw[lF];exact hm2,by rw[<-aO,sJ,yW,aO];omega,by rw[<-aO,lF,wD,aO];omega⟩
  clear hs hn1 hm1 hn2 hm2;by_cases c1:4<=n1
  ·by_cases c2:4<=m1
   ·have g1:du (bl s) 49 48=true:=by rw[HM1.out];simp;omega
    obtain⟨u1,u2⟩:=CE hb g1;have U1:=zZ u1;have U2:=zZ u2;clear u1 u2 g1 HM1 HM2;go_enter func108,ntmps108
    go_wp2_with fail;refine (dx _ _).mono ?_;rintro r w1 ⟨rfl,rfl⟩;rw[hb];go_wp2_with fail;refine (qN _ _ n1 HC.n1 HC.e7).mono ?_;rintro r w1 ⟨rfl,rfl⟩;go_wp2_with fail;refine (sa _ _ m1 HC.m1 HC.e67).mono ?_;rintro r w1 ⟨rfl,rfl⟩;go_wp2_with fail;go_ret2
    exact⟨s,0,rfl,U2.out.symm,U1.out.symm,zE _⟩
   ·by_cases c3:4<=n2
    ·by_cases c4:4<=m2
     ·have g1:du (bl s) 49 48=false:=by rw[HM1.out];simp;omega
      have g2:du (bl s) 48 49=true:=by rw[HM2.out];simp;omega
      obtain⟨u1,u2⟩:=rz hb g1 g2;have U1:=zZ u1;have U2:=zZ u2;clear u1 u2 g1 HM1 HM2 g2;go_enter func108,ntmps108
      go_wp2_with fail;refine (dx _ _).mono ?_;rintro r w1 ⟨rfl,rfl⟩;rw[hb];go_wp2_with fail;refine (qN _ _ n1 HC.n1 HC.e7).mono ?_;rintro r w1 ⟨rfl,rfl⟩;go_wp2_with fail;refine (sa _ _ m1 HC.m1 HC.e67).mono ?_;rintro r w1 ⟨rfl,rfl⟩;go_wp2_with fail;refine (sa _ _ n2 HC.n2 HC.e7).mono ?_;rintro r w1 ⟨rfl,rfl⟩;go_wp2_with fail;refine (qN _ _ m2 HC.m2 HC.e67).mono ?_;rintro r w1 ⟨rfl,rfl⟩;go_wp2_with fail;refine (pk s _ (by omega)).mono ?_;rintro r w1 ⟨t,rfl,ht,hx⟩;have HT:=zZ ht;have HX:=zZ hx;clear ht hx;go_wp2_with fail;go_ret2
      exact⟨t,0,rfl,U2.out.symm,by rw[U1.out,HT.out],HX.out⟩
     ·have g1:du (bl s) 49 48=false:=by rw[HM1.out];simp;omega
      have g2:du (bl s) 48 49=false:=by rw[HM2.out];simp;omega
      obtain⟨u1,u2⟩:=kQ hb g1 g2;have U1:=zZ u1;have U2:=zZ u2;clear u1 u2 g1 HM1 HM2 g2;go_enter func108,ntmps108
      go_wp2_with fail;refine (dx _ _).mono ?_;rintro r w1 ⟨rfl,rfl⟩;rw[hb];go_wp2_with fail;refine (qN _ _ n1 HC.n1 HC.e7).mono ?_;rintro r w1 ⟨rfl,rfl⟩;go_wp2_with fail;refine (sa _ _ m1 HC.m1 HC.e67).mono ?_;rintro r w1 ⟨rfl,rfl⟩;go_wp2_with fail;refine (sa _ _ n2 HC.n2 HC.e7).mono ?_;rintro r w1 ⟨rfl,rfl⟩;go_wp2_with fail;refine (qN _ _ m2 HC.m2 HC.e67).mono ?_;rintro r w1 ⟨rfl,rfl⟩;go_wp2_with fail;go_ret2
      exact⟨_,_,rfl,U2.out.symm,by rw[U1.out];rfl,zE _⟩
    ·have g1:du (bl s) 49 48=false:=by rw[HM1.out];simp;omega
     have g2:du (bl s) 48 49=false:=by rw[HM2.out];simp;omega
     obtain⟨u1,u2⟩:=kQ hb g1 g2;have U1:=zZ u1;have U2:=zZ u2;clear u1 u2 g1 HM1 HM2 g2;go_enter func108,ntmps108
     go_wp2_with fail;refine (dx _ _).mono ?_;rintro r w1 ⟨rfl,rfl⟩;rw[hb];go_wp2_with fail;refine (qN _ _ n1 HC.n1 HC.e7).mono ?_;rintro r w1 ⟨rfl,rfl⟩;go_wp2_with fail;refine (sa _ _ m1 HC.m1 HC.e67).mono ?_;rintro r w1 ⟨rfl,rfl⟩;go_wp2_with fail;refine (sa _ _ n2 HC.n2 HC.e7).mono ?_;rintro r w1 ⟨rfl,rfl⟩;go_wp2_with fail;go_ret2
     exact⟨_,_,rfl,U2.out.symm,by rw[U1.out];rfl,zE _⟩
  ·by_cases c3:4<=n2
   ·by_cases c4:4<=m2
    ·have g1:du (bl s) 49 48=false:=by rw[HM1.out];simp;omega
     have g2:du (bl s) 48 49=true:=by rw[HM2.out];simp;omega
     obtain⟨u1,u2⟩:=rz hb g1 g2;have U1:=zZ u1;have U2:=zZ u2;clear u1 u2 g1 HM1 HM2 g2;go_enter func108,ntmps108
     go_wp2_with fail;refine (dx _ _).mono ?_;rintro r w1 ⟨rfl,rfl⟩;rw[hb];go_wp2_with fail;refine (qN _ _ n1 HC.n1 HC.e7).mono ?_;rintro r w1 ⟨rfl,rfl⟩;go_wp2_with fail;refine (sa _ _ n2 HC.n2 HC.e7).mono ?_;rintro r w1 ⟨rfl,rfl⟩;go_wp2_with fail;refine (qN _ _ m2 HC.m2 HC.e67).mono ?_;rintro r w1 ⟨rfl,rfl⟩;go_wp2_with fail;refine (pk s _ (by omega)).mono ?_;rintro r w1 ⟨t,rfl,ht,hx⟩;have HT:=zZ ht;have HX:=zZ hx;clear ht hx;go_wp2_with fail;go_ret2
     exact⟨t,0,rfl,U2.out.symm,by rw[U1.out,HT.out],HX.out⟩
    ·have g1:du (bl s) 49 48=false:=by rw[HM1.out];simp;omega
     have g2:du (bl s) 48 49=false:=by rw[HM2.out];simp;omega
     obtain⟨u1,u2⟩:=kQ hb g1 g2;have U1:=zZ u1;have U2:=zZ u2;clear u1 u2 g1 HM1 HM2 g2;go_enter func108,ntmps108
     go_wp2_with fail;refine (dx _ _).mono ?_;rintro r w1 ⟨rfl,rfl⟩;rw[hb];go_wp2_with fail;refine (qN _ _ n1 HC.n1 HC.e7).mono ?_;rintro r w1 ⟨rfl,rfl⟩;go_wp2_with fail;refine (sa _ _ n2 HC.n2 HC.e7).mono ?_;rintro r w1 ⟨rfl,rfl⟩;go_wp2_with fail;refine (qN _ _ m2 HC.m2 HC.e67).mono ?_;rintro r w1 ⟨rfl,rfl⟩;go_wp2_with fail;go_ret2
     exact⟨_,_,rfl,U2.out.symm,by rw[U1.out];rfl,zE _⟩
   ·have g1:du (bl s) 49 48=false:=by rw[HM1.out];simp;omega
    have g2:du (bl s) 48 49=false:=by rw[HM2.out];simp;omega
    obtain⟨u1,u2⟩:=kQ hb g1 g2;have U1:=zZ u1;have U2:=zZ u2;clear u1 u2 g1 HM1 HM2 g2;go_enter func108,ntmps108
    go_wp2_with fail;refine (dx _ _).mono ?_;rintro r w1 ⟨rfl,rfl⟩;rw[hb];go_wp2_with fail;refine (qN _ _ n1 HC.n1 HC.e7).mono ?_;rintro r w1 ⟨rfl,rfl⟩;go_wp2_with fail;refine (sa _ _ n2 HC.n2 HC.e7).mono ?_;rintro r w1 ⟨rfl,rfl⟩;go_wp2_with fail;go_ret2
    exact⟨_,_,rfl,U2.out.symm,by rw[U1.out];rfl,zE _⟩
 ·obtain⟨u1,u2⟩:=Dx hb;have U1:=zZ u1;have U2:=zZ u2;clear u1 u2;go_enter func108,ntmps108
  go_wp2_with fail;refine (dx _ _).mono ?_;rintro r w1 ⟨rfl,rfl⟩;rw[hb];go_wp2_with fail;go_ret2
  exact⟨_,_,rfl,U2.out.symm,by rw[U1.out];rfl,zE _⟩
structure LE (base g:Nat) (tS tI:TypeId) (w:World) (M:Nat->Nat->F) (wd:Nat) (b cu:Nat->Nat) (hd:Array Value):Prop where
 head:w.heap[g]?=some (.cells hd tS (0,0))
 hdAt:∀r,r<6->hd[r]?=some (D (some ⟨b r,0,none⟩) wd (cu r))
 row:∀r,r<6->∃cur:Array Value,w.heap[b r]?=some (.cells cur tI (0,0))/\∀c,c<wd->cur[c]?=some (A C ((M r c).n:Int))
 inj:∀r s,r<6->s<6->b r=b s->r=s
 gne:∀r,r<6->b r≠g
 bge:∀r,r<6->base<=b r
 gge:base<=g
 cap:∀r,r<6->wd<=cu r/\cu r<=9223372036854775807
def dQ(base g:Nat)(tS tI:TypeId)(w:World)(M:Nat->Nat->F)(wd:Nat):Prop:=∃b cu hd,LE base g tS tI w M wd b cu hd
section
variable {base g wd:Nat} {tS tI:TypeId} {w w':World} {M N:Nat->Nat->F}
theorem dQ.keep(h:dQ base g tS tI w M wd)(e:∀k,base<=k->k<w.heap.size->w'.heap[k]?=w.heap[k]?):dQ base g tS tI w' M wd:=by obtain⟨b,cu,hd,h⟩:=h;refine⟨b,cu,hd,⟨(e g h.gge (al h.head)).trans h.head,h.hdAt,fun r hr=>?_,h.inj,h.gne,h.bge,h.gge,h.cap⟩⟩;obtain⟨cur,h1,h2⟩:=h.row r hr;exact⟨cur,(e _ (h.bge r hr) (al h1)).trans h1,h2⟩
theorem dQ.ext(h:dQ base g tS tI w M wd)(e:ab w w'):dQ base g tS tI w' M wd:=h.keep fun k _ hk=>e.block k hk
theorem dQ.xt{p:Nat}(h:dQ base g tS tI w M wd)(e:XT p w w')(hp:p<base):dQ base g tS tI w' M wd:=h.keep fun k hb hk=>e.block k hk (fun e=>by injection e;omega)
theorem dQ.congr(h:dQ base g tS tI w M wd)(e:∀r c,r<6->c<wd->M r c=N r c):dQ base g tS tI w N wd:=by obtain⟨b,cu,hd,h⟩:=h;refine⟨b,cu,hd,⟨h.head,h.hdAt,fun r hr=>?_,h.inj,h.gne,h.bge,h.gge,h.cap⟩⟩;obtain⟨cur,h1,h2⟩:=h.row r hr;exact⟨cur,h1,fun c hc=>by rw[<-e r c hr hc];exact h2 c hc⟩
theorem dQ.at_(h:dQ base g tS tI w M wd){r:Nat}(hr:r<6) :
  ∃b cu,w.cell? ⟨g,r,none⟩=some (D (some ⟨b,0,none⟩) wd cu)/\wd<=cu/\cu<=9223372036854775807/\base<=b/\b≠g /\
   (∀c,c<wd->w.cell? ⟨b,c,none⟩=some (A C ((M r c).n:Int)))/\(∀c,w.frozen? ⟨b,c,none⟩=false) /\
   (∀(w':World) (c:Nat) (y:F),ab w w'->dQ base g tS tI (w'.setCell ⟨b,c,none⟩ (A C (y.n:Int))) (F.upd M r c y) wd/\Below base w (w'.setCell ⟨b,c,none⟩ (A C (y.n:Int)))):=by
 obtain⟨b,cu,hd,h⟩:=h;obtain⟨cur,h1,h2⟩:=h.row r hr;refine⟨b r,cu r,ac h.head (h.hdAt r hr),(h.cap r hr).1,(h.cap r hr).2,h.bge r hr,h.gne r hr,fun c hc=>ac h1 (h2 c hc),fun c=>ae h1 c,fun w' c y e=>⟨⟨b,cu,hd,⟨?_,h.hdAt,fun s hs=>?_,h.inj,h.gne,h.bge,h.gge,h.cap⟩⟩,?_⟩⟩
 ·rw[yP _ _ _ _ (by simpa using (h.gne r hr).symm)];exact e.blk h.head
 ·by_cases es:s=r
  ·subst es;refine⟨_,bn (e.blk h1) _,fun c' hc'=>?_⟩;rw[vV];unfold F.upd;by_cases ec:c=c'
   ·subst ec;have:c<cur.size:=by have:=h2 c hc';exact (Array.getElem?_eq_some_iff.1 this).1
    rw[if_pos rfl,if_pos this,if_pos ⟨rfl,rfl⟩]
   ·rw[if_neg ec,if_neg (fun h=>ec h.2.symm)];exact h2 c' hc'
  ·obtain⟨cur',h3,h4⟩:=h.row s hs;have hb:b s≠b r:=fun e=>es (h.inj s r hs hr e);refine⟨cur',?_,fun c' hc'=>?_⟩
   ·rw[yP _ _ _ _ (by simpa using hb)];exact e.blk h3
   ·unfold F.upd;rw[if_neg (fun h=>es h.1)];exact h4 c' hc'
 ·have hlt:base<=w.heap.size:=yR (h.bge r hr) (Nat.le_of_lt (al h1));exact Below.setCell (Below.mono e hlt) (h.bge r hr) _
theorem dQ.frozAt(h:dQ base g tS tI w M wd){r b cu:Nat}(hr:r<6)(hc:w.cell? ⟨g,r,none⟩=some (D (some ⟨b,0,none⟩) n cu))(c:Nat):w.frozen? ⟨b,c,none⟩=false:=by obtain⟨b',cu',h0,_,_,_,_,_,h4,_⟩:=h.at_ hr;rw[hc]at h0;injection h0 with h0;injection h0 with h1;injection h1 with h1;injection h1 with h1;subst h1;exact h4 c
theorem dQ.swap(h:dQ base g tS tI w M wd){p:Nat}(hk:k<6)(hp:p<6) :
  ∃bk ck bp cp,w.cell? ⟨g,k,none⟩=some (D (some ⟨bk,0,none⟩) wd ck)/\w.cell? ⟨g,p,none⟩=some (D (some ⟨bp,0,none⟩) wd cp)/\w.frozen? ⟨g,k,none⟩=false/\w.frozen? ⟨g,p,none⟩=false /\
   ∀w':World,ab w w'->dQ base g tS tI ((w'.setCell ⟨g,k,none⟩ (D (some ⟨bp,0,none⟩) wd cp)).setCell ⟨g,p,none⟩ (D (some ⟨bk,0,none⟩) wd ck)) (F.swapM M k p) wd /\
    Below base w ((w'.setCell ⟨g,k,none⟩ (D (some ⟨bp,0,none⟩) wd cp)).setCell ⟨g,p,none⟩ (D (some ⟨bk,0,none⟩) wd ck)):=by
 obtain⟨b,cu,hd,h⟩:=h;have hsz:∀r,r<6->r<hd.size:=fun r hr=>(Array.getElem?_eq_some_iff.1 (h.hdAt r hr)).1;refine⟨b k,cu k,b p,cu p,ac h.head (h.hdAt k hk),ac h.head (h.hdAt p hp),ae h.head k,ae h.head p,fun w' e=>⟨?_,?_⟩⟩
 ·refine⟨fun r=>if r=k then b p else if r=p then b k else b r,fun r=>if r=k then cu p else if r=p then cu k else cu r,_,⟨bn (bn (e.blk h.head) _) _,fun r hr=>?_,fun r hr=>?_,fun r s hr hs he=>?_,fun r hr=>?_,fun r hr=>?_,h.gge,fun r hr=>?_⟩⟩
  ·rw[vV,vV,uN];by_cases e1:p=r
   ·subst e1;rw[if_pos rfl,if_pos (hsz p hp)];by_cases e2:p=k
    ·subst e2;simp
    ·simp[e2]
   ·rw[if_neg e1];by_cases e2:k=r
    ·subst e2;rw[if_pos rfl,if_pos (hsz k hk)];simp
    ·rw[if_neg e2,h.hdAt r hr];simp[Ne.symm e1,Ne.symm e2]
  ·have hkeep:∀s,s<6->((w'.setCell ⟨g,k,none⟩ (D (some ⟨b p,0,none⟩) wd (cu p))).setCell ⟨g,p,none⟩ (D (some ⟨b k,0,none⟩) wd (cu k))).heap[b s]?=w.heap[b s]?:=fun s hs=>by
    rw[yP _ _ _ _ (by simpa using h.gne s hs),yP _ _ _ _ (by simpa using h.gne s hs)];obtain⟨cur,h1,_⟩:=h.row s hs;exact e.block _ (al h1)
   unfold F.swapM;by_cases e1:r=k
   ·simp only[if_pos e1];rw[hkeep p hp];exact h.row p hp
   ·by_cases e2:r=p
    ·simp only[if_neg e1,if_pos e2];rw[hkeep k hk];exact h.row k hk
    ·simp only[if_neg e1,if_neg e2];rw[hkeep r hr];exact h.row r hr
  ·have hi:=h.inj;split at he
   ·split at he
    ·omega
    ·split at he
     ·have:=hi _ _ hp hk he;omega
     ·have:=hi _ _ hp hs he;omega
   ·split at he
    ·split at he
     ·have:=hi _ _ hk hp he;omega
     ·split at he
      ·omega
      ·have:=hi _ _ hk hs he;omega
    ·split at he
     ·have:=hi _ _ hr hp he;omega
     ·split at he
      ·have:=hi _ _ hr hk he;omega
      ·exact hi _ _ hr hs he
  ·split
   ·exact h.gne p hp
   ·split
    ·exact h.gne k hk
    ·exact h.gne r hr
  ·split
   ·exact h.bge p hp
   ·split
    ·exact h.bge k hk
    ·exact h.bge r hr
  ·split
   ·exact h.cap p hp
   ·split
    ·exact h.cap k hk
    ·exact h.cap r hr
 ·have hlt:base<=w.heap.size:=yR h.gge (Nat.le_of_lt (al h.head));exact Below.setCell (Below.setCell (Below.mono e hlt) h.gge _) h.gge _
end
theorem ab.below_trans{base:Nat}{w0 w w':World}(h:ab w0 w)(hb:w0.heap.size<=base)(k:Below base w w'):ab w0 w':=xD h (Below.mono k hb)
section
variable {P:Program} {ops:Array Oper} {Q:Exit->Act->World->Prop} {md:Region.Mode} {S:World->Prop} {k:Nat}
def fM(P:Program)(md:Region.Mode)(ops:Array Oper)(Q:Exit->Act->World->Prop)(S:World->Prop)(k:Nat):Nat->Array Bool->Act->World->Prop
 |0,listed,a,w=>Region.ready md ops listed=[]/\Q .normal a w
 |fuel+1,listed,a,w =>
  (Region.ready md ops listed=[]->Q .normal a w) /\
  ∀i∈Region.ready md ops listed,wpOp P ops Q i (fun a' w'=>((listed.setIfInBounds i true).getD k false=false->S w')/\fM P md ops Q S k fuel (listed.setIfInBounds i true) a' w') a w
theorem qU:∀(fuel:Nat) (listed:Array Bool) (a:Act) (w:World),fM P md ops Q S k fuel listed a w->wpAny P md ops Q fuel listed a w
 |0,_,_,_,h=>h
 |fuel+1,_,_,_,h=>⟨h.1,fun i hi=>wpOp_mono (fun a' w' h'=>qU fuel _ a' w' h'.2) (h.2 i hi)⟩
theorem bO{j:Nat}(h:j≠k):(listed.setIfInBounds j true).getD k false=listed.getD k false:=by simp[vV,h]
theorem jc{j:Nat}(h:(listed.setIfInBounds j true).getD k false=false):listed.getD k false=false:=by
 by_cases e:j=k
 ·subst e;rcases zU j listed.size with h'|h'
  ·simp[h']at h
  ·simp[wY h']
 ·rw[bO e]at h;exact h
theorem sl{i:Nat}{oi:Oper}(hi:ops[i]?=some oi)(hsel:∀(j:Nat) (o:Oper) cs b,ops[j]?=some o->o.op≠.select cs b)(hQ:∀c a w,Q (.panic c) (a.put oi.dst v) w->Q (.panic c) a w)(hik:i≠k)(hkw:∀ok,ops[k]?=some ok->∃e∈ok.after,Region.binds md e=true/\e.on=i) :
  ∀(fuel:Nat) (listed:Array Bool) (a:Act) (w:World),
   (∀j oj,ops[j]?=some oj->j≠i->listed.getD j true=false->(∀e∈oj.after,Region.binds md e=true->e.on≠i)->oi.apart ops oj=true) ->
   i∈Region.ready md ops listed->YieldsIf P ops S oi v a->listed.getD k false=false->(listed.getD k false=false->S w) ->
   fM P md ops Q S k fuel (listed.setIfInBounds i true) (a.put oi.dst v) w->fM P md ops Q S k (fuel+1) listed a w:=by
 intro fuel;induction fuel with
 |zero =>
  intro listed a w _ hr hy hu hS H;refine⟨fun h=>(by rw[h]at hr;cases hr),fun j hj=>?_⟩;by_cases hji:j=i
  ·subst hji;exact hy.wpOp hi (hS hu) ⟨fun h=>hS (jc h),H⟩
  ·have:=ready_mono hj hji;rw[H.1]at this;cases this
 |succ fuel ih =>
  intro listed a w hfree hr hy hu hS H;refine⟨fun h=>(by rw[h]at hr;cases hr),fun j hj=>?_⟩;by_cases hji:j=i
  ·subst hji;exact hy.wpOp hi (hS hu) ⟨fun h=>hS (jc h),H⟩
  ·have hh:=H.2 j (ready_mono hj hji);obtain⟨hjun,oj,hoj,hall⟩:=mem_ready.1 hj;have hnot:∀e∈oj.after,Region.binds md e=true->e.on≠i:=fun e he hb heq=>by
    have h1:=hall e he hb;have h0:=(mem_ready.1 hr).1;rw[heq]at h1;rcases zU i listed.size with h'|h'
    ·simp[h']at h0 h1;rw[h0]at h1;cases h1
    ·simp[wY h']at h1
   have hjk:j≠k:=fun e=>by subst e;obtain⟨x,hx,hb,ho⟩:=hkw oj hoj;exact hnot x hx hb ho
   have h2:=wpOp_putIf hoj (hfree j oj hoj hji hjun hnot) (fun cs b=>hsel i oi cs b hi) (fun cs b=>hsel j oj cs b hoj) hQ hy hh;have hfree':∀m om,ops[m]?=some om->m≠i->(listed.setIfInBounds j true).getD m true=false ->
     (∀e∈om.after,Region.binds md e=true->e.on≠i)->oi.apart ops om=true:=fun m om hm hmi hun hno=>by
    refine hfree m om hm hmi ?_ hno;by_cases hjm:j=m
    ·subst hjm;exact hjun
    ·rw[getD_set_ne true hjm]at hun;exact hun
   have hcomm:∀l:Array Bool,(l.setIfInBounds i true).setIfInBounds j true=(l.setIfInBounds j true).setIfInBounds i true:=fun l=>Array.setIfInBounds_comm _ _ (Ne.symm hji);refine wpOp_mono (fun a' w' h3=>⟨fun h=>h3.2.1 ?_,ih (listed.setIfInBounds j true) a' w' hfree' (ready_mono hr (Ne.symm hji)) h3.1 (by rw[bO hjk];exact hu) (fun h=>h3.2.1 ?_) ?_⟩) h2
   ·rw[<-hcomm];exact h3.2.2
   ·rw[hcomm];exact (bO hik).trans h
   ·rw[hcomm];exact (bO hik).trans h
theorem sn{i:Nat}{oi:Oper}(hi:ops[i]?=some oi)(hsel:∀(j:Nat) (o:Oper) cs b,ops[j]?=some o->o.op≠.select cs b)(hQ:∀c a w,Q (.panic c) (a.put oi.dst v) w->Q (.panic c) a w)(hik:i≠k) :
  ∀(fuel:Nat) (listed:Array Bool) (a:Act) (w:World),
   (∀j oj,ops[j]?=some oj->j≠i->listed.getD j true=false->(∀e∈oj.after,Region.binds md e=true->e.on≠i)->oi.apart ops oj=true) ->
   i∈Region.ready md ops listed->YieldsIf P ops (fun _=>True) oi v a->(listed.getD k false=false->S w) ->
   fM P md ops Q S k fuel (listed.setIfInBounds i true) (a.put oi.dst v) w->fM P md ops Q S k (fuel+1) listed a w:=by
 intro fuel;induction fuel with
 |zero =>
  intro listed a w _ hr hy hS H;refine⟨fun h=>(by rw[h]at hr;cases hr),fun j hj=>?_⟩;by_cases hji:j=i
  ·subst hji;exact hy.wpOp hi trivial ⟨fun h=>hS (jc h),H⟩
  ·have:=ready_mono hj hji;rw[H.1]at this;cases this
 |succ fuel ih =>
  intro listed a w hfree hr hy hS H;refine⟨fun h=>(by rw[h]at hr;cases hr),fun j hj=>?_⟩;by_cases hji:j=i
  ·subst hji;exact hy.wpOp hi trivial ⟨fun h=>hS (jc h),H⟩
  ·have hh:=H.2 j (ready_mono hj hji);obtain⟨hjun,oj,hoj,hall⟩:=mem_ready.1 hj;have hnot:∀e∈oj.after,Region.binds md e=true->e.on≠i:=fun e he hb heq=>by
    have h1:=hall e he hb;have h0:=(mem_ready.1 hr).1;rw[heq]at h1;rcases zU i listed.size with h'|h'
    ·simp[h']at h0 h1;rw[h0]at h1;cases h1
    ·simp[wY h']at h1
   have h2:=wpOp_putIf hoj (hfree j oj hoj hji hjun hnot) (fun cs b=>hsel i oi cs b hi) (fun cs b=>hsel j oj cs b hoj) hQ hy hh;have hfree':∀m om,ops[m]?=some om->m≠i->(listed.setIfInBounds j true).getD m true=false ->
     (∀e∈om.after,Region.binds md e=true->e.on≠i)->oi.apart ops om=true:=fun m om hm hmi hun hno=>by
    refine hfree m om hm hmi ?_ hno;by_cases hjm:j=m
    ·subst hjm;exact hjun
    ·rw[getD_set_ne true hjm]at hun;exact hun
   have hcomm:∀l:Array Bool,(l.setIfInBounds i true).setIfInBounds j true=(l.setIfInBounds j true).setIfInBounds i true:=fun l=>Array.setIfInBounds_comm _ _ (Ne.symm hji);refine wpOp_mono (fun a' w' h3=>⟨fun h=>h3.2.1 ?_,ih (listed.setIfInBounds j true) a' w' hfree' (ready_mono hr (Ne.symm hji)) h3.1 (fun h=>h3.2.1 ?_) ?_⟩) h2
   ·rw[<-hcomm];exact h3.2.2
   ·rw[hcomm];exact (bO hik).trans h
   ·rw[hcomm];exact (bO hik).trans h
theorem pz(i:Nat)(d:Option Tmp){oi:Oper}{a:Act}{w:World}(hi:ops[i]?=some oi)(hd:oi.dst=d)(hs:Region.noSelect ops=true)(hf:Region.free md ops listed i=true)(hr:(Region.ready md ops listed).contains i=true)(hik:i≠k)(hkw:rU md ops k i=true)(hu:listed.getD k false=false)(hQ:∀c a w,Q (.panic c) (a.put d v) w->Q (.panic c) a w)(hw:Region.wanted oi (yielded ops a.tmps)=true)(hy:∀w,S w->(execOp a.eval oi).run P w=.ok (.value v) w)(hS:S w)(h:fM P md ops Q S k fuel (listed.setIfInBounds i true) (a.put d v) w):fM P md ops Q S k (fuel+1) listed a w:=by
 subst hd;exact sl hi (uE hs) hQ hik (jP hkw) fuel listed a w (Region.free_spec hi hf) (by simpa using hr) (.inl ⟨hw,hy⟩) hu (fun _=>hS) h
theorem bD(i:Nat)(d:Option Tmp){oi:Oper}{a:Act}{w:World}(hi:ops[i]?=some oi)(hd:oi.dst=d)(hs:Region.noSelect ops=true)(hf:Region.free md ops listed i=true)(hr:(Region.ready md ops listed).contains i=true)(hik:i≠k)(hQ:∀c a w,Q (.panic c) (a.put d v) w->Q (.panic c) a w)(hw:Region.wanted oi (yielded ops a.tmps)=true)(hy:∀w,(execOp a.eval oi).run P w=.ok (.value v) w)(hS:listed.getD k false=false->S w)(h:fM P md ops Q S k fuel (listed.setIfInBounds i true) (a.put d v) w):fM P md ops Q S k (fuel+1) listed a w:=by
 subst hd;exact sn hi (uE hs) hQ hik fuel listed a w (Region.free_spec hi hf) (by simpa using hr) (.inl ⟨hw,fun w _=>hy w⟩) hS h
theorem qQ(i:Nat){o:Oper}{a:Act}{w:World}(hr:Region.ready md ops listed=[i])(ho:ops[i]?=some o)(h:∀K':Act->World->Prop,Shut (∀a w,((listed.setIfInBounds i true).getD k false=false->S w)->fM P md ops Q S k fuel (listed.setIfInBounds i true) a w->K' a w)->if Region.wanted o (yielded ops a.tmps)=true then Oper.wp P o a w K' Q else K' (a.put o.dst undef) w) :
  fM P md ops Q S k (fuel+1) listed a w:=by
 refine⟨fun h0=>(by rw[hr]at h0;cases h0),fun j hj=>?_⟩;rw[hr]at hj;obtain rfl:j=i:=by simpa using hj
 exact wpOp_step ho (fun K' hK=>h K' (fun a w hS hW=>hK a w ⟨hS,hW⟩))
theorem AD{listed:Array Bool}{a:Act}{w:World}(hr:Region.ready md ops listed=[])(h:Q .normal a w) :
  ∀fuel,fM P md ops Q S k fuel listed a w
 |0=>⟨hr,h⟩
 |_+1=>⟨fun _=>h,by rw[hr];simp⟩
theorem Bn(k:Nat)(S:World->Prop){id:Nat}{a:Act}{w:World}(hm:P.follows .mixedOrders=true)(h:fM P .any ops Q S k ops.size (Array.replicate ops.size false) a w.drew):(Code.region id ops true).wp P Q a w :=
 wp_region_any hm (qU _ _ _ _ h)
theorem fh{b:Bool}{X:Prop}(h:b=true):b=false->X:=fun h'=>by rw[h]at h';cases h'
end
end Go.Proofs.YtkaajgoeahahpaaGreatDoor

