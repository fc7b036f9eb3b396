import Derived.Test.YtkaajgoeahahpaaGreatDoorK3
import Derived.Test.YtkaajgoeahahpaaGreatDoorK15
set_option linter.all false
set_option maxRecDepth 100000
set_option maxHeartbeats 0
namespace Go.Proofs.YtkaajgoeahahpaaGreatDoor
open Go.RowKit
variable {cls l out:List Int} {i k:Nat} {x:Int}
def fE(x:Int):Bool:=decide (0<=x/\x<=9)
theorem Ak{p:Int->Bool}(h:l[k]?=some x):(l.take (k+1)).all p=((l.take k).all p&&p x):=by rw[ax h];simp
def Cl(p:Int->Bool)(l:List Int):Int:=if l.any p then (l.findIdx p:Int) else -1
theorem Im{p:Int->Bool}{x:Int}(h:l[k]?=some x)(hp:p x=true)(hn:(l.take k).all (fun x=>!p x)=true):(k:Int)=Cl p l:=by
 obtain⟨hk,rfl⟩:=zY.1 h;have:l.any p=true:=wZ.2 ⟨_,xC hk,hp⟩;rw[Cl,if_pos this];congr 1
 symm
 rw[List.findIdx_eq hk];refine⟨hp,fun j hj=>?_⟩;have:=xS.1 hn l[j] (by rw[List.mem_take_iff_getElem];exact⟨j,by omega,rfl⟩);simpa using this
theorem E5{p:Int->Bool}(hn:l.all (fun x=>!p x)=true):-1=Cl p l:=by rw[Cl,if_neg];rw[wZ];rintro⟨x,hx,hp⟩;have:=xS.1 hn x hx;simp[hp]at this
theorem Hc(p:Int->Bool)(l:List Int):decide (0<=Cl p l)=l.any p:=by unfold Cl;split<;>simp_all
theorem IG(p:Int->Bool)(l:List Int):(!l.any (fun x=>!p x))=l.all p:=by induction l<;>simp_all
open Classical in
noncomputable def dR(s:List UInt8):Option cJ:=if h:∃l:cJ,∃n,iZ s l.p l.c l.g l.v n 0 then some h.choose else none
theorem mA{s:List UInt8}{p c g v n:Int}(h:iZ s p c g v n 0):dR s=some ⟨p,c,g,v⟩:=by
 have hx:∃l:cJ,∃n,iZ s l.p l.c l.g l.v n 0:=⟨⟨p,c,g,v⟩,n,h⟩
 unfold dR;rw[dif_pos hx];obtain⟨m,hm⟩:=hx.choose_spec;have:=tm hm h;rw[show hx.choose=⟨p,c,g,v⟩ from (cJ.eq_iff _ _).2 ⟨this.1,this.2.1,this.2.2.1,this.2.2.2.1⟩]
theorem mJ{s:List UInt8}{p c g v n k:Int}(h:iZ s p c g v n k)(hk:k≠0):dR s=none:=by unfold dR;rw[dif_neg];rintro⟨l,m,hm⟩;exact hk (tm h hm).2.2.2.2.2
def fH(id:gT)(c:aj):Bool:=(decide (c.kind=2)||decide (c.kind=3))&&decide (c.tgt=id)
def dm(id:gT)(c:aj):Bool:=decide (c.kind=1)&&decide (c.id=id)
noncomputable def iI(at_ last:Option aj):cJ×Int:=match at_ with
 |none=>(cJ.zero,4)
 |some a=>match last with
  |some d=>if d.kind=3 then (cJ.zero,6) else (d.lab,0)
  |none=>match dR a.str with
   |some x=>(x,0)
   |none=>(cJ.zero,4)
noncomputable def aQ(l:List aj)(id:gT):cJ×Int:=iI (l.find? (dm id)) ((l.filter (fH id)).getLast?)
def fo(l:List fv)(c:Int):Option fv:=l.find? fun x=>decide (x.cand=c)
noncomputable def bH(s:dl)(lab:cJ)(ch:List Int):Bool:=match fo s.xp lab.c with
 |some x=>decide (lab.p=s.num)&&(decide (x.var=lab.v)&&(match s.pap[lab.v.toNat]?,s.bk[lab.v.toNat]? with
  |some q,some b=>decide (0<=lab.g/\lab.g<(b.length:Int))&&(decide (ch.length=(dr q.code q.var q.ps b lab.g).length)&&ch.all fE)
  |_,_=>false))
 |none=>false
structure dH where
 cap:aj
 lab:cJ
 st:Int
 fit:Bool
noncomputable def aM(s:dl)(l:List aj)(c:aj):dH :=
 if c.kind=1 then ⟨c,(aQ l c.id).1,if (aQ l c.id).2=0 then (if bH s (aQ l c.id).1 c.ch then 0 else 5) else (aQ l c.id).2,decide ((aQ l c.id).2=0)&&bH s (aQ l c.id).1 c.ch⟩
 else ⟨c,cJ.zero,0,false⟩
noncomputable def af(s:dl)(l:List aj):List dH:=l.map (aM s l)
def dB(x y:dH):Bool:=y.fit&&decide (y.lab=x.lab)
def en(x y:dH):Bool:=!(decide (y.cap.cont=x.cap.cont)&&decide (y.cap.ch=x.cap.ch))
def dL(l:List dH)(i:Nat)(x:dH):Int:=if (l.any fun y=>dB x y&&en x y) then 3 else if (l.take i).any (dB x) then 2 else 1
def cR(l:List dH)(i:Nat)(x:dH):Int:=if x.fit then dL l i x else x.st
def lN(l:List dH)(i:Nat)(x:dH):dF:=⟨x.cap.id,cR l i x,x.lab⟩
def Gs(x:dH):Pg:=⟨x.lab.c,x.lab.g,x.cap.cont,x.cap.ch,x.cap.id⟩
def ry(l:List dH)(i:Nat):Option dF:=(l[i]?).bind fun x=>if x.cap.kind=1 then some (lN l i x) else none
def pg1(l:List dH)(i:Nat):Option Pg:=(l[i]?).bind fun x=>if x.cap.kind=1/\cR l i x=1 then some (Gs x) else none
def aZ(l:List dH)(k:Nat):List dF:=(List.range k).filterMap (ry l)
def bW(l:List dH)(k:Nat):List Pg:=(List.range k).filterMap (pg1 l)
def bU(a b:dF):Bool:=et a.scan b.scan
def dW(a b:Pg):Bool:=decide (a.cand<b.cand\/(a.cand=b.cand/\a.page<b.page))
noncomputable def cQ(s:dl)(l:List aj):r6:=⟨bE bU (aZ (af s l) l.length),bE dW (bW (af s l) l.length)⟩
theorem wm:xj bU:=⟨fun a=>qo.irr a.scan,fun a b c=>qo.tr a.scan b.scan c.scan⟩
theorem Kn:xj dW:=⟨fun a=>by unfold dW;simp,fun a b c h1 h2=>by unfold dW at *;simp only[decide_eq_true_eq]at *;omega⟩
section
variable {s:dl} {l:List aj} {a b:cJ} {ch ch':List Int}
theorem ii:bH s a ch=true↔∃x q bk,fo s.xp a.c=some x/\a.p=s.num/\x.var=a.v/\s.pap[a.v.toNat]?=some q/\s.bk[a.v.toNat]?=some bk/\0<=a.g/\a.g<(bk.length:Int)/\ch.length=(dr q.code q.var q.ps bk a.g).length/\ch.all fE=true:=by
 unfold bH;cases h1:fo s.xp a.c with
 |none=>simp
 |some x =>
  cases h2:s.pap[a.v.toNat]? with
  |none=>simp
  |some q =>
   cases h3:s.bk[a.v.toNat]? with
   |none=>simp
   |some bk=>simp[and_assoc]
theorem BT(h:bH s a ch=true)(h':bH s b ch'=true)(hc:a.c=b.c)(hg:a.g=b.g):a=b:=by obtain⟨x,q,bk,h1,h2,h3,-⟩:=ii.1 h;obtain⟨x',q',bk',h1',h2',h3',-⟩:=ii.1 h';rw[hc,h1']at h1;injection h1 with h1;subst h1;exact (cJ.eq_iff a b).2 ⟨by omega,hc,hg,by omega⟩
theorem jw:(af s l).length=l.length:=by simp[af]
theorem lL{c:aj}(h:l[i]?=some c):(af s l)[i]?=some (aM s l c):=by simp[af,h]
theorem ff(s:dl)(l:List aj)(c:aj):(aM s l c).cap=c:=by unfold aM;split<;>rfl
theorem de{x:dH}(h:(af s l)[i]?=some x):l[i]?=some x.cap/\x=aM s l x.cap:=by unfold af at h;rw[zP,yO]at h;obtain⟨c,hc,rfl⟩:=h;rw[ff];exact⟨hc,rfl⟩
theorem lK{c:aj}(h:(aM s l c).fit=true):c.kind=1/\bH s (aM s l c).lab c.ch=true/\(aM s l c).st=0/\aQ l c.id=((aM s l c).lab,0):=by
 unfold aM at h⊢;split at h
 ·rename_i hk
  rw[if_pos hk];simp only[yT,decide_eq_true_eq]at h;refine⟨hk,h.2,?_,?_⟩
  ·simp only;rw[if_pos h.1,if_pos h.2]
  ·exact Prod.ext rfl h.1
 ·cases h
theorem ku(l:List aj)(id:gT):(aQ l id).2=0\/(aQ l id).2=4\/(aQ l id).2=6:=by
 unfold aQ iI;split
 ·exact .inr (.inl rfl)
 ·split
  ·split
   ·exact .inr (.inr rfl)
   ·exact .inl rfl
  ·split
   ·exact .inl rfl
   ·exact .inr (.inl rfl)
theorem Ho{c:aj}(hk:c.kind=1)(h:(aM s l c).fit=false):(aM s l c).st=4\/(aM s l c).st=5\/(aM s l c).st=6:=by
 unfold aM at h⊢;rw[if_pos hk]at h⊢;simp only[Bool.and_eq_false_iff,decide_eq_false_iff_not]at h⊢;rcases ku l c.id with e|e|e
 ·rw[if_pos e];rcases h with h|h
  ·exact absurd e h
  ·rw[h];simp
 ·rw[e];simp
 ·rw[e];simp
theorem sw(R:List dH)(i:Nat)(x:dH):dL R i x=1\/dL R i x=2\/dL R i x=3:=by
 unfold dL;split
 ·exact .inr (.inr rfl)
 ·split
  ·exact .inr (.inl rfl)
  ·exact .inl rfl
theorem ro{x:dH}(h:(af s l)[i]?=some x)(hu:cR (af s l) i x=1):x.fit=true/\x.cap.kind=1/\dL (af s l) i x=1:=by
 obtain⟨_,hx⟩:=de h;cases hf:x.fit with
 |true =>
  refine⟨rfl,?_,by unfold cR at hu;rwa [if_pos hf]at hu⟩;rw[hx]at hf;exact (lK hf).1
 |false =>
  unfold cR at hu;rw[hf]at hu;simp only[Bool.false_eq_true,if_false]at hu;by_cases hk:x.cap.kind=1
  ·have:=Ho (s:=s) (l:=l) hk (by rw[<-hx];exact hf);rw[<-hx]at this;omega
  ·rw[hx]at hu;unfold aM at hu;rw[if_neg hk]at hu;cases hu
theorem Cy{R:List dH}{x:dH}(h:dL R i x=1):(R.take i).any (dB x)=false:=by
 unfold dL at h;split at h
 ·omega
 ·split at h
  ·omega
  ·rename_i h2;simpa using h2
theorem CN{x y:dH}(hx:(af s l)[i]?=some x)(hy:(af s l)[k]?=some y)(hik:i<k)(hux:cR (af s l) i x=1)(huy:cR (af s l) k y=1):¬(x.lab.c=y.lab.c/\x.lab.g=y.lab.g):=by
 rintro⟨h1,h2⟩;obtain⟨fx,kx,jx⟩:=ro hx hux;obtain⟨fy,ky,jy⟩:=ro hy huy;have ex:=(de hx).2;have ey:=(de hy).2;have gx:=(lK (s:=s) (l:=l) (c:=x.cap) (by rw[<-ex];exact fx)).2.1;have gy:=(lK (s:=s) (l:=l) (c:=y.cap) (by rw[<-ey];exact fy)).2.1;rw[<-ex]at gx;rw[<-ey]at gy;have hl:=BT gx gy h1 h2;have:=Cy jy;rw[wO]at this;refine this x ?_ ?_
 ·have:((af s l).take k)[i]?=some x:=by rw[yB,if_pos hik];exact hx
  exact zW this
 ·unfold dB;rw[fx,hl];simp
end
theorem ik{α β:Type}{f:Nat->Option β}:(List.range (k+1)).filterMap f=(List.range k).filterMap f++(f k).toList:=by rw[xP,List.filterMap_append];cases h:f k<;>simp[h]
theorem kC(R:List dH)(k:Nat):aZ R (k+1)=aZ R k++(ry R k).toList:=ik (α:=Nat)
theorem jO(R:List dH)(k:Nat):bW R (k+1)=bW R k++(pg1 R k).toList:=ik (α:=Nat)
theorem qu{α:Type}{f:Nat->Option α}{R:α->α->Prop}:∀n,(∀i k a b,i<k->k<n->f i=some a->f k=some b->R a b)->((List.range n).filterMap f).Pairwise R
 |0,_=>xE
 |n+1,h=>by
  rw[ik (α:=Nat),xJ];refine⟨qu n fun i k a b hik hk=>h i k a b hik (by omega),?_,fun a ha b hb=>?_⟩
  ·cases f n with
   |none=>exact xE
   |some y=>exact wR _ _
  ·obtain⟨i,hi,ha⟩:=List.mem_filterMap.1 ha;have hb':f n=some b:=by simpa using hb
   exact h i n a b (yX.1 hi) (by omega) ha hb'
theorem Ds{R:List dH}{x:dF}(h:ry R i=some x):∃y,R[i]?=some y/\y.cap.kind=1/\x=lN R i y:=by
 unfold ry at h;rw[Option.bind_eq_some_iff]at h;obtain⟨y,hy,h⟩:=h;split at h
 ·injection h with h;exact⟨y,hy,‹_›,h.symm⟩
 ·cases h
theorem Hi{R:List dH}{x:Pg}(h:pg1 R i=some x):∃y,R[i]?=some y/\y.cap.kind=1/\cR R i y=1/\x=Gs y:=by
 unfold pg1 at h;rw[Option.bind_eq_some_iff]at h;obtain⟨y,hy,h⟩:=h;split at h
 ·rename_i hk;injection h with h;exact⟨y,hy,hk.1,hk.2,h.symm⟩
 ·cases h
def FB(l:List aj):Prop:=l.Pairwise fun a b=>a.id≠b.id
theorem kO{l:List aj}(h:FB l){a b:aj}(ha:l[i]?=some a)(hb:l[k]?=some b)(hik:i<k):a.id≠b.id:=by obtain⟨h1,rfl⟩:=zY.1 ha;obtain⟨h2,rfl⟩:=zY.1 hb;exact xX.1 h i k h1 h2 hik
theorem KR{a b:Pg}(h:¬(a.cand=b.cand/\a.page=b.page)):dW a b=true\/dW b a=true:=by unfold dW;simp only[decide_eq_true_eq];omega
section
variable {s:dl} {l:List aj}
theorem Ed(h:FB l):(aZ (af s l) l.length).Pairwise fun a b=>bU a b=true\/bU b a=true:=by refine qu _ fun i k a b hik hk ha hb=>?_;obtain⟨x,hx,_,rfl⟩:=Ds ha;obtain⟨y,hy,_,rfl⟩:=Ds hb;exact Jo (kO h (de hx).1 (de hy).1 hik)
theorem KM:(bW (af s l) l.length).Pairwise fun a b=>dW a b=true\/dW b a=true:=by refine qu _ fun i k a b hik hk ha hb=>?_;obtain⟨x,hx,_,hux,rfl⟩:=Hi ha;obtain⟨y,hy,_,huy,rfl⟩:=Hi hb;exact KR (CN hx hy hik hux huy)
theorem GT(h:FB l):iT bU (cQ s l).sts:=sY wm (Ed h)
theorem jv:iT dW (cQ s l).pgs:=sY Kn KM
theorem pp{sts:List dF}{pgs:List Pg}(h1:iT bU sts)(h2:iT dW pgs)(p1:sts.Perm (aZ (af s l) l.length))(p2:pgs.Perm (bW (af s l) l.length)):cQ s l=⟨sts,pgs⟩:=by unfold cQ;rw[qz wm h1 p1,qz Kn h2 p2]
theorem mem_sts{x:dF}:x∈(cQ s l).sts↔∃(i:Nat) (y:dH),(af s l)[i]?=some y/\y.cap.kind=1/\x=lN (af s l) i y:=by
 unfold cQ;simp only;rw[(fX _).mem_iff];unfold aZ;rw[List.mem_filterMap];constructor
 ·rintro⟨i,_,hi⟩;obtain⟨y,h1,h2,h3⟩:=Ds hi;exact⟨i,y,h1,h2,h3⟩
 ·rintro⟨i,y,h1,h2,rfl⟩;refine⟨i,yX.2 ?_,by unfold ry;rw[h1];simp[h2]⟩;have:=(zY.1 h1).1;rwa [jw]at this
theorem mem_pgs{x:Pg}:x∈(cQ s l).pgs↔∃(i:Nat) (y:dH),(af s l)[i]?=some y/\y.cap.kind=1/\cR (af s l) i y=1/\x=Gs y:=by
 unfold cQ;simp only;rw[(fX _).mem_iff];unfold bW;rw[List.mem_filterMap];constructor
 ·rintro⟨i,_,hi⟩;obtain⟨y,h1,h2,h3,h4⟩:=Hi hi;exact⟨i,y,h1,h2,h3,h4⟩
 ·rintro⟨i,y,h1,h2,h3,rfl⟩;refine⟨i,yX.2 ?_,by unfold pg1;rw[h1];simp[h2,h3]⟩;have:=(zY.1 h1).1;rwa [jw]at this
theorem ID:(cQ s l).sts.length=(aZ (af s l) l.length).length:=(fX _).length_eq
theorem Ec:(cQ s l).pgs.length=(bW (af s l) l.length).length:=(fX _).length_eq
end
def jk:av:=⟨1,3,0,0,0,0⟩
def kg:dl:=⟨0,[⟨0,0,[jk]⟩],[[[],[0],[],[]]],[⟨5,1,0⟩]⟩
theorem zz:jH 0 0 [jk] [[],[0],[],[]]=true:=by
 refine qh ⟨by decide,by decide,by decide,fun l h=>by simp at h;first|exact h|exact h.symm,?_⟩;simp only[eh,oW,nf,nA,jk];refine⟨⟨⟨by decide,fun i y hi=>by simp at hi⟩,by decide⟩,⟨⟨by decide,fun i y hi hy=>?_⟩,by decide⟩,⟨⟨by decide,fun i y hi=>by simp at hi⟩,by decide⟩,⟨⟨by decide,fun i y hi=>by simp at hi⟩,by decide⟩,by decide⟩;obtain rfl:i=0:=by simp at hi;exact hi
 simp at hy;simp[<-hy]
theorem K9:dU kg:=by
 refine⟨by decide,by decide,rfl,fun i hi=>?_,fun x hx=>?_,fun i hi=>?_⟩
 ·obtain rfl:i=0:=by simp[kg]at hi;omega
  show (fD 0 0 [jk]&&(decide ((0:Int)=0)&&(decide ((0:Int)=((0:Nat):Int))&&jH 0 0 [jk] [[],[0],[],[]])))=true
  rw[zz];rfl
 ·obtain rfl:x=⟨5,1,0⟩:=by simpa[kg] using hx
  rfl
 ·simp[kg]at hi
theorem JC{j:Nat}(hj:j<4):bH kg ⟨0,5,(j:Int),0⟩ []=true:=by
 refine ii.2 ⟨⟨5,1,0⟩,⟨0,0,[jk]⟩,[[],[0],[],[]],rfl,rfl,rfl,rfl,rfl,by simp only;omega,by simp only[xQ,List.length_nil];omega,?_,rfl⟩;simp only;rcases (by omega:j=0\/j=1\/j=2\/j=3) with rfl|rfl|rfl|rfl
 ·rw[gn zz (pg:=[]) rfl];rfl
 ·rw[gn zz (pg:=[0]) rfl];rfl
 ·rw[gn zz (pg:=[]) rfl];rfl
 ·rw[gn zz (pg:=[]) rfl];rfl
def bg(a b:Int):Int:=if a<b then -1 else if a>b then 1 else 0
def me(a b:bN):Int:=if bg a.t b.t≠0 then bg a.t b.t else if bg a.s b.s≠0 then bg a.s b.s else bg a.q b.q
theorem bJ(a b:Int):(a<b/\bg a b=-1)\/(a=b/\bg a b=0)\/(b<a/\bg a b=1):=by
 unfold bg;split
 ·exact .inl ⟨‹_›,rfl⟩
 ·split
  ·exact .inr (.inr ⟨‹_›,rfl⟩)
  ·exact .inr (.inl ⟨by omega,rfl⟩)
theorem mn(a b:bN):(gY a b=true/\me a b=-1)\/(a=b/\me a b=0)\/(gY b a=true/\me a b=1):=by
 unfold me gY;simp only[decide_eq_true_eq];rw[bN.eq_iff];rcases bJ a.t b.t with ⟨h1,h2⟩|⟨h1,h2⟩|⟨h1,h2⟩
 ·rw[h2];exact .inl ⟨by omega,rfl⟩
 ·rw[h2];rcases bJ a.s b.s with ⟨k1,k2⟩|⟨k1,k2⟩|⟨k1,k2⟩
  ·rw[k2];exact .inl ⟨by omega,rfl⟩
  ·rw[k2];rcases bJ a.q b.q with ⟨m1,m2⟩|⟨m1,m2⟩|⟨m1,m2⟩
   ·rw[m2];exact .inl ⟨by omega,rfl⟩
   ·rw[m2];exact .inr (.inl ⟨by omega,rfl⟩)
   ·rw[m2];exact .inr (.inr ⟨by omega,rfl⟩)
  ·rw[k2];exact .inr (.inr ⟨by omega,rfl⟩)
 ·rw[h2];exact .inr (.inr ⟨by omega,rfl⟩)
theorem GU(a b:bN):decide (0<me a b)=gY b a:=by
 rcases mn a b with ⟨h1,h2⟩|⟨h1,h2⟩|⟨h1,h2⟩
 ·rw[h2,eF.asym h1];rfl
 ·rw[h2,h1,eF.irr];rfl
 ·rw[h2,h1];rfl
def iz(a b:bN)(x y:Int):Bool:=decide (a.s=b.s/\a.q=b.q/\(a.t≠b.t\/x≠y))
def Gg(l:List bN)(cls:List Int)(i k:Nat):Bool:=match l[i]?,l[k]?,cls[i]?,cls[k]? with
 |some a,some b,some x,some y=>dT b&&(iz a b x y||(decide (k<i)&&decide (b=a)))
 |_,_,_,_=>false
def iR(l:List bN)(cls:List Int)(i:Nat):Bool:=match l[i]? with
 |some a=>dT a&&(List.range l.length).all fun k=>!Gg l cls i k
 |none=>false
theorem jU{l:List bN}{a b:bN}{y:Int}(h1:l[i]?=some a)(h2:l[k]?=some b)(h3:cls[i]?=some x)(h4:cls[k]?=some y):Gg l cls i k=(dT b&&(iz a b x y||(decide (k<i)&&decide (b=a)))):=by unfold Gg;rw[h1,h2,h3,h4]
theorem gR{l:List bN}{a:bN}(h:l[i]?=some a):iR l cls i=true↔dT a=true/\∀k,k<l.length->Gg l cls i k=false:=by unfold iR;rw[h];simp only[yT,xS,yX,uY]
theorem IV{l:List bN}{a:bN}(h:l[i]?=some a)(hv:dT a=false):iR l cls i=false:=by unfold iR;rw[h];simp[hv]
theorem DH{l:List bN}{a:bN}(h:l[i]?=some a)(hk:k<l.length)(hv:Gg l cls i k=true):iR l cls i=false:=by
 cases e:iR l cls i with
 |false=>rfl
 |true=>have:=((gR h).1 e).2 k hk;rw[hv]at this;cases this
def tz(l:List bN)(a b:Int):Bool:=match l[a.toNat]?,l[b.toNat]? with
 |some x,some y=>gY x y
 |_,_=>false
theorem IN(l:List bN):xj (tz l):=by
 refine⟨fun a=>?_,fun a b c h1 h2=>?_⟩
 ·unfold tz;cases l[a.toNat]? with
  |none=>rfl
  |some x=>exact eF.irr x
 ·unfold tz at *
  cases ha:l[a.toNat]? with
  |none=>rw[ha]at h1;cases h1
  |some x =>
   cases hb:l[b.toNat]? with
   |none=>rw[ha,hb]at h1;cases h1
   |some y =>
    cases hc:l[c.toNat]? with
    |none=>rw[hb,hc]at h2;cases h2
    |some z =>
     rw[ha,hb]at h1;rw[hb,hc]at h2;exact eF.tr x y z h1 h2
theorem pi{l:List bN}{a b:bN}(h1:l[i]?=some a)(h2:l[k]?=some b):tz l (i:Int) (k:Int)=gY a b:=by unfold tz;rw[yC,yC,h1,h2]
theorem GN{l:List bN}(hl:cls.length=l.length){a b:bN}(h1:l[i]?=some a)(h2:l[k]?=some b)(hi:iR l cls i=true)(hk:iR l cls k=true)(hne:i≠k):a.s≠b.s\/a.q≠b.q:=by
 have key:∀{i k:Nat} {a b:bN},l[i]?=some a->l[k]?=some b->iR l cls i=true->iR l cls k=true->k<i->a.s≠b.s\/a.q≠b.q:=by intro i k a b h1 h2 hi hk hlt;have hki:=(zY.1 h2).1;have hii:=(zY.1 h1).1;have hx:cls[i]?=some (cls[i]'(by omega)):=zV _;have hy:cls[k]?=some (cls[k]'(by omega)):=zV _;have h3:=((gR h1).1 hi).2 k hki;have h4:=((gR h2).1 hk).1;rw[jU h1 h2 hx hy,h4,yK,vU]at h3;have h5:=h3.1;have h6:=h3.2;rw[decide_eq_true hlt,yK,decide_eq_false_iff_not,bN.eq_iff]at h6;unfold iz at h5;rw[decide_eq_false_iff_not]at h5;omega
 rcases zU k i with h|h
 ·exact key h1 h2 hi hk h
 ·have:=key h2 h1 hk hi (by omega);omega
def kh(l:List bN)(cls:List Int)(k:Nat):List Int:=((List.range k).filter (iR l cls)).map fun i:Nat=>(i:Int)
theorem E9{l:List bN}(h:iR l cls k=true):kh l cls (k+1)=kh l cls k++[(k:Int)]:=by unfold kh;rw[xP,xM,yG,uC h];rfl
theorem Gr{l:List bN}(h:iR l cls k=false):kh l cls (k+1)=kh l cls k:=by unfold kh;rw[xP,xM,yG,uB (by simp[h])];simp
theorem Fe{l:List bN}:x∈kh l cls k↔∃i:Nat,x=i/\i<k/\iR l cls i=true:=by
 unfold kh;rw[zF];constructor
 ·rintro⟨i,hi,rfl⟩;obtain⟨h1,h2⟩:=xR.1 hi;exact⟨i,rfl,yX.1 h1,h2⟩
 ·rintro⟨i,rfl,h1,h2⟩;exact⟨i,xR.2 ⟨yX.2 h1,h2⟩,rfl⟩
structure eQ (l:List bN) (cls:List Int) (k:Nat) (out:List Int):Prop where
 asc:iT (tz l) out
 perm:out.Perm (kh l cls k)
theorem eQ.nil(l:List bN)(cls:List Int):eQ l cls 0 []:=⟨xE,wN _⟩
theorem eQ.skip{l:List bN}(h:eQ l cls k out)(hc:iR l cls k=false):eQ l cls (k+1) out:=⟨h.asc,by rw[Gr hc];exact h.perm⟩
theorem eQ.mem{l:List bN}(h:eQ l cls k out):x∈out↔∃i:Nat,x=i/\i<k/\iR l cls i=true:=by rw[h.perm.mem_iff,Fe]
theorem eQ.put{l:List bN}{r:Nat}(h:eQ l cls k out)(hl:cls.length=l.length)(hk:k<l.length)(hc:iR l cls k=true)(hr:r<=out.length)(h1:∀x,out[r]?=some x->tz l (k:Int) x=true)(h2:∀x,r≠0->out[r-1]?=some x->tz l (k:Int) x=false):eQ l cls (k+1) (out.take r++[(k:Int)]++out.drop r):=by
 have O:=IN l;have tot:∀x∈out,tz l x (k:Int)=true\/tz l (k:Int) x=true:=by intro x hx;obtain⟨i,rfl,hik,hci⟩:=h.mem.1 hx;have e1:l[i]?=some (l[i]'(by omega)):=zV _;have e2:l[k]?=some (l[k]'hk):=zV _;rw[pi e1 e2,pi e2 e1];exact uu (GN hl e1 e2 hci hc (by omega))
 have before:∀x∈out.take r,tz l x (k:Int)=true:=by
  intro x hx;have hr0:r≠0:=by rintro rfl;simp at hx
  have e:out[r-1]?=some (out[r-1]'(by omega)):=zV _;have hlast:=h2 _ hr0 e;have hlast':tz l (out[r-1]'(by omega)) (k:Int)=true:=by
   rcases tot _ (zW e) with h|h
   ·exact h
   ·rw[hlast]at h;cases h
  obtain⟨j,hj⟩:=zH hx;rw[yB]at hj;split at hj
  ·rename_i hjr
   by_cases ej:j=r-1
   ·subst ej;rw[e]at hj;injection hj with hj;subst hj;exact hlast'
   ·exact O.tr _ _ _ (h.asc.at_ hj e (by omega)) hlast'
  ·cases hj
 have after:∀x∈out.drop r,tz l (k:Int) x=true:=by
  intro x hx;obtain⟨j,hj⟩:=zH hx;rw[vR]at hj;have hlt:=(zY.1 hj).1;have e:out[r]?=some (out[r]'(by omega)):=zV _;have h0:=h1 _ e;by_cases ej:j=0
  ·subst ej;rw[yQ,e]at hj;injection hj with hj;subst hj;exact h0
  ·exact O.tr _ _ _ h0 (h.asc.at_ e hj (by omega))
 refine⟨?_,?_⟩
 ·unfold iT;rw[xY,xJ];refine⟨h.asc.take r,?_,?_⟩
  ·rw[List.singleton_append,xK];exact⟨after,h.asc.drop r⟩
  ·intro a ha b hb;rcases zM.1 hb with hb|hb
   ·obtain rfl:b=(k:Int):=by simpa using hb
    exact before a ha
   ·exact O.tr _ _ _ (before a ha) (after b hb)
 ·rw[E9 hc];have h3:(out.take r++[(k:Int)]++out.drop r).Perm (out.take r++out.drop r++[(k:Int)]):=by
   rw[xY,xY];exact List.Perm.append_left _ List.perm_append_comm
  rw[List.take_append_drop]at h3;exact h3.trans (h.perm.append_right _)
end Go.Proofs.YtkaajgoeahahpaaGreatDoor

