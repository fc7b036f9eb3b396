import Derived.Test.YtpaidaphacoblaaGreatDoorK24
set_option linter.all false
set_option maxRecDepth 100000
set_option maxHeartbeats 0
namespace Go.Proofs.YtpaidaphacoblaaGreatDoor
open Go.RowKit
variable {cs:List Int} {i:Int} {n:Nat}
def Qs(g:Nat×Nat):List lY:=(List.range g.2).map fun k:Nat=>⟨(g.1:Int),(k:Int)⟩
def j3(G:List (Nat×Nat)):List lY:=(G.map Qs).flatten
theorem gz(g:Nat×Nat):(Qs g).length=g.2:=by simp[Qs]
theorem dS(g:Nat×Nat)(G:List (Nat×Nat)):j3 (g::G)=Qs g++j3 G:=rfl
theorem MJ{g:Nat×Nat}{q:lY}(h:q∈Qs g):q.part=g.1:=by obtain⟨k,_,rfl⟩:=zF.1 h;rfl
theorem Nj{G:List (Nat×Nat)}{q:lY}(h:q∈j3 G):∃g∈G,q.part=g.1:=by obtain⟨l,hl,hq⟩:=List.mem_flatten.1 h;obtain⟨g,hg,rfl⟩:=zF.1 hl;exact⟨g,hg,MJ hq⟩
def KW(ps:List av)(pg:List Int):List (Nat×Nat):=pg.filterMap fun x=>match ps[x.toNat]? with
 |some q=>if q.kind=2 then some (x.toNat,q.opts.toNat) else none
 |none=>none
def uq:List (Nat×Nat)->List Int->List (List Int)
 |[],_=>[]
 |g::G,cs=>cs.take g.2::uq G (cs.drop g.2)
def NL(J:List Int->Int):List (Nat×Nat)->List Int->List Int->List Int
 |[],_,acc=>acc
 |g::G,cs,acc=>NL J G (cs.drop g.2) (acc.set g.1 (J (cs.take g.2)))
def gE(fs:List lY)(cs:List Int)(i:Int):List Int:=(fs.zip cs).filterMap fun x=>if x.1.part=i then some x.2 else none
def Q8(n:Nat)(G:List (Nat×Nat)):Prop:=G.Pairwise (fun a b=>a.1<b.1)/\∀g∈G,g.1<n/\2<=g.2/\g.2<=5
theorem Oq{fs:List lY}(hl:fs.length=cs.length)(h:∀q∈fs,q.part=i):gE fs cs i=cs:=by
 induction fs generalizing cs with
 |nil=>simp[gE,xZ hl.symm]
 |cons q fs ih =>
  cases cs with
  |nil=>simp at hl
  |cons c cs =>
   have:=ih (cs:=cs) (by simpa using hl) (fun q hq=>h q (by simp[hq]));unfold gE at *
   simp[h q (by simp),this]
theorem BG{fs:List lY}(h:∀q∈fs,q.part≠i):gE fs cs i=[]:=by unfold gE;rw[List.filterMap_eq_nil_iff];intro x hx;have:=h x.1 (List.of_mem_zip hx).1;simp[this]
theorem Oa{a b:List lY}(h:a.length<=cs.length):gE (a++b) cs i=gE a (cs.take a.length) i++gE b (cs.drop a.length) i:=by
 unfold gE;conv=>lhs;rw[<-List.take_append_drop a.length cs]
 rw[List.zip_append (by simp;omega),List.filterMap_append]
section
variable {J:List Int->Int}
theorem Qc(G:List (Nat×Nat))(cs acc:List Int)(i:Nat)(hp:G.Pairwise (fun a b=>a.1<b.1))(hb:∀g∈G,g.1<acc.length/\2<=g.2)(hl:(j3 G).length=cs.length) :
  (NL J G cs acc)[i]?=if gE (j3 G) cs (i:Int)=[] then acc[i]? else some (J (gE (j3 G) cs (i:Int))):=by
 induction G generalizing cs acc with
 |nil=>simp[NL,j3,gE]
 |cons g G ih =>
  have hl':(j3 G).length=(cs.drop g.2).length:=by rw[dS,yU,gz]at hl;rw[wD];omega
  have hlg:g.2<=cs.length:=by rw[dS,yU,gz]at hl;omega
  rw[NL,ih (cs.drop g.2) (acc.set g.1 (J (cs.take g.2))) (xK.1 hp).2 (fun x hx=>by have:=hb x (by simp[hx]);simpa using this) hl'];rw[dS,Oa (by rw[gz];exact hlg),gz];by_cases hi:i=g.1
  ·subst hi;have h1:gE (Qs g) (cs.take g.2) (g.1:Int)=cs.take g.2:=Oq (by rw[gz,yW];omega) (fun q hq=>MJ hq);have h2:gE (j3 G) (cs.drop g.2) (g.1:Int)=[]:=BG (fun q hq=>by
    obtain⟨x,hx,e⟩:=Nj hq;have:=(xK.1 hp).1 x hx;omega)
   rw[h1,h2,xN];have hne:cs.take g.2≠[]:=by intro e;have h3:=congrArg List.length e;rw[yW,List.length_nil]at h3;have:=(hb g (by simp)).2;omega
   rw[if_pos rfl,if_neg hne,wU (hb g (by simp)).1]
  ·have h1:gE (Qs g) (cs.take g.2) (i:Int)=[]:=BG (fun q hq=>by rw[MJ hq];omega);rw[h1,List.nil_append,wW (Ne.symm hi)]
end
def NP(J:List Int->Int)(n:Nat)(fs:List lY)(cs:List Int):List Int:=(List.range n).map fun i:Nat=>if gE fs cs (i:Int)=[] then -1 else J (gE fs cs (i:Int))
theorem Qp{J:List Int->Int}{G:List (Nat×Nat)}(hg:Q8 n G)(hl:(j3 G).length=cs.length):NL J G cs (List.replicate n (-1))=NP J n (j3 G) cs:=by
 apply xW;intro i;rw[Qc G cs _ i hg.1 (fun g h=>by have:=hg.2 g h;simp;omega) hl];unfold NP;rcases zU i n with hi|hi
 ·simp only[zP,wJ hi,Option.map_some];split<;>simp[hi]
 ·rw[zC (by simpa using hi),zC (by simpa using hi)];rw[if_pos];refine BG (fun q hq=>?_);obtain⟨g,hgm,e⟩:=Nj hq;have:=(hg.2 g hgm).1;omega
theorem P0{fs:List lY}{a:Nat}{g:Nat×Nat}{G:List (Nat×Nat)}(h:fs.drop a=j3 (g::G)):KS fs a (a+g.2) (g.1:Int):=by
 intro k q hk hk' hq;have:(fs.drop a)[k-a]?=some q:=by rw[vR];rw[show a+(k-a)=k by omega];exact hq
 rw[h,dS,yY (by rw[gz];omega)]at this;exact MJ (zW this)
theorem N4{fs:List lY}(hl:fs.length=cs.length):∀(G:List (Nat×Nat)) (a:Nat),G.Pairwise (fun a b=>a.1<b.1)->(∀g∈G,2<=g.2)->fs.drop a=j3 G->a<=fs.length ->
  (∀q,0<a->fs[a-1]?=some q->∀g∈G,q.part<g.1)->j4 fs cs cs.length=j4 fs cs a++uq G (cs.drop a):=by
 intro G;induction G with
 |nil =>
  intro a _ _ hd ha _;have:a=cs.length:=by have:=congrArg List.length hd;simp[j3]at this;omega
  subst this;simp[uq]
 |cons g G ih =>
  intro a hp h2 hd ha hprev;have hg2:=h2 g (by simp);have hlen:a+g.2<=fs.length:=by have:=congrArg List.length hd;rw[dS,yU,gz,wD]at this;omega
  have hs:=P0 hd;have hnew:KF fs a:=by
   rcases vE a with h0|h0
   ·exact .inl h0
   ·refine .inr fun x y hx hy=>?_;have h1:=hs a x (zX _) (by omega) hx;have h2:=hprev y h0 hy g (by simp);omega
  have hr:=MC (fs:=fs) (cs:=cs) (by omega) hnew (show a<a+g.2 by omega) (hs.runs hlen);have hd':fs.drop (a+g.2)=j3 G:=by rw[<-List.drop_drop,hd,dS,List.drop_append,List.drop_eq_nil_of_le (by rw[gz];omega),gz];simp
  rw[ih (a+g.2) (xK.1 hp).2 (fun x hx=>h2 x (by simp[hx])) hd' hlen (fun q _ hq x hx=>?_),hr,uq,xY,List.drop_drop]
  ·congr 2
   rw[List.singleton_append];congr 1
   rw[List.drop_take];congr 1
   omega
  ·have:=hs (a+g.2-1) q (by omega) (by omega) hq;have:=(xK.1 hp).1 x hx;omega
theorem PN{fs:List lY}{G:List (Nat×Nat)}(hl:fs.length=cs.length)(hp:G.Pairwise (fun a b=>a.1<b.1))(h2:∀g∈G,2<=g.2)(hd:fs=j3 G):j4 fs cs cs.length=uq G cs:=by have:=N4 hl G 0 hp h2 (by simpa using hd) (by omega) (fun q h=>by omega);simpa[j4] using this
theorem NY(ps:List av)(pg:List Int)(h0:∀x∈pg,0<=x):dO ps pg=j3 (KW ps pg):=by
 induction pg with
 |nil=>rfl
 |cons x pg ih =>
  have hx:=h0 x (by simp);have e:dO ps (x::pg)=jA ps x++dO ps pg:=rfl;rw[e,ih (fun y hy=>h0 y (by simp[hy]))];unfold KW;rw[List.filterMap_cons];unfold jA;cases hq:ps[x.toNat]? with
  |none=>simp
  |some q =>
   by_cases hk:q.kind=2
   ·simp only[hk,if_true];rw[dS];congr 1
    unfold Qs;simp only;rw[show ((x.toNat:Nat):Int)=x by omega]
   ·simp[hk]
theorem Pd{code var:Int}{ps:List av}{pgs:List (List Int)}{i:Nat}{pg:List Int}(h:jH code var ps pgs=true)(hp:pgs[i]?=some pg):Q8 ps.length (KW ps pg)/\∀x∈pg,0<=x:=by
 have hpp:=jL h hp;have hb:=J0 h;obtain⟨hv,_,_,_,hok⟩:=hb;have key:∀(l:List (List Int)) (nx i:Nat) (pg:List Int),eh (ps.map db) nx l->l[i]?=some pg->∃a,oW (ps.map db) a pg:=by
  intro l;induction l with
  |nil=>intro nx i pg _ h;simp at h
  |cons p l ih =>
   intro nx i pg ho h;cases i with
   |zero=>simp at h;subst h;exact⟨nx,ho.1⟩
   |succ i=>exact ih _ i pg ho.2 (by simpa using h)
 obtain⟨a,ha⟩:=key pgs 0 i pg hok hp;have hasc:pg.Pairwise (fun x y=>x<y):=by rw[xX];intro k m hk hm hkm;have e1:=ha.1.2 k _ hk (zV hk);have e2:=ha.1.2 m _ hm (zV hm);omega
 have h0:∀x∈pg,0<=x:=by intro x hx;obtain⟨k,hk⟩:=zH hx;obtain⟨j,q,rfl,_⟩:=hpp.2 k x hk;omega
 refine⟨⟨?_,?_⟩,h0⟩
 ·unfold KW;rw[List.pairwise_filterMap];refine hasc.imp_of_mem ?_;intro x y hx hy hxy g hg g' hg';have:=h0 x hx;split at hg
  ·split at hg
   ·injection hg with hg;subst hg;split at hg'
    ·split at hg'
     ·injection hg' with hg';subst hg';simp only;omega
     ·cases hg'
    ·cases hg'
   ·cases hg
  ·cases hg
 ·intro g hg;unfold KW at hg;obtain⟨x,hx,hg⟩:=List.mem_filterMap.1 hg;obtain⟨k,hk⟩:=zH hx;obtain⟨j,q,rfl,hj,_,hvq⟩:=hpp.2 k x hk;simp only[yC,hj]at hg;split at hg
  ·rename_i hk2
   injection hg with hg;subst hg;have:=k8 hvq;have:=(zY.1 hj).1;simp only;omega
  ·cases hg
theorem Nt(d f ld:Int)(l:List Int):-2<=gJ d f ld l/\gJ d f ld l<=5:=by
 unfold gJ;split
 ·omega
 ·rename_i h
  have h5:l.length<=5:=by
   rcases zU 5 l.length with h'|h'
   ·exact absurd (.inr (.inr (.inl h'))) h
   ·exact h'
  have hm:0<=Ny l/\Ny l<=5:=by unfold Ny;have:=Qn l l.length;omega
  split
  ·omega
  ·split
   ·split<;>omega
   ·split<;>omega
noncomputable def d9(code var:Int)(ps:List av)(pgs:List (List Int))(d f ld page:Int)(cs:List Int):List Int :=
 if j5 d f ld=true/\jH code var ps pgs=true/\0<=page/\page<pgs.length/\cs.length=(dr code var ps pgs page).length/\cs.all fE=true then NP (gJ d f ld) ps.length (dr code var ps pgs page) cs else []
noncomputable def Mg(code var:Int)(ps:List av)(pgs:List (List Int))(d f ld page:Int)(cs:List Int):Int :=
 if ¬(j5 d f ld=true/\jH code var ps pgs=true) then 1 else if ¬(0<=page/\page<pgs.length) then 4 else if cs.length≠(dr code var ps pgs page).length then 22 else if cs.all fE=false then 2 else 0
section
variable {code var:Int} {ps:List av} {pgs:List (List Int)} {d f ld page:Int} {cs:List Int}
theorem Q2(h:¬(j5 d f ld=true/\jH code var ps pgs=true)):[]=d9 code var ps pgs d f ld page cs/\1=Mg code var ps pgs d f ld page cs:=by
 constructor
 ·unfold d9;rw[if_neg (fun x=>h ⟨x.1,x.2.1⟩)]
 ·unfold Mg;rw[if_pos h]
theorem QO(h:j5 d f ld=true/\jH code var ps pgs=true)(h2:¬(0<=page/\page<pgs.length)):[]=d9 code var ps pgs d f ld page cs/\4=Mg code var ps pgs d f ld page cs:=by
 constructor
 ·unfold d9;rw[if_neg (fun x=>h2 ⟨x.2.2.1,x.2.2.2.1⟩)]
 ·unfold Mg;rw[if_neg (fun x=>x h),if_pos h2]
theorem QJ(h:j5 d f ld=true/\jH code var ps pgs=true)(h2:0<=page/\page<pgs.length)(h3:cs.length≠(dr code var ps pgs page).length):[]=d9 code var ps pgs d f ld page cs/\22=Mg code var ps pgs d f ld page cs:=by
 constructor
 ·unfold d9;rw[if_neg (fun x=>h3 x.2.2.2.2.1)]
 ·unfold Mg;rw[if_neg (fun x=>x h),if_neg (fun x=>x h2),if_pos h3]
theorem Q5(h:j5 d f ld=true/\jH code var ps pgs=true)(h2:0<=page/\page<pgs.length)(h3:cs.length=(dr code var ps pgs page).length)(h4:cs.all fE=false):[]=d9 code var ps pgs d f ld page cs/\2=Mg code var ps pgs d f ld page cs:=by
 constructor
 ·unfold d9;rw[if_neg (fun x=>by rw[x.2.2.2.2.2]at h4;cases h4)]
 ·unfold Mg;rw[if_neg (fun x=>x h),if_neg (fun x=>x h2),if_neg (fun x=>x h3),if_pos h4]
theorem PO(h:j5 d f ld=true/\jH code var ps pgs=true)(h2:0<=page/\page<pgs.length)(h3:cs.length=(dr code var ps pgs page).length)(h4:cs.all fE=true):NP (gJ d f ld) ps.length (dr code var ps pgs page) cs=d9 code var ps pgs d f ld page cs/\0=Mg code var ps pgs d f ld page cs:=by
 constructor
 ·unfold d9;rw[if_pos ⟨h.1,h.2,h2.1,h2.2,h3,h4⟩]
 ·unfold Mg;rw[if_neg (fun x=>x h),if_neg (fun x=>x h2),if_neg (fun x=>x h3),if_neg (by simp[h4])]
theorem N3(fs:List lY)(n:Nat)(cs:List Int):∀x∈NP (gJ d f ld) n fs cs,aU x:=by intro x hx;obtain⟨i,_,rfl⟩:=zF.1 hx;have:=Nt d f ld (gE fs cs (i:Int));split<;>exact⟨by omega,by omega⟩
end
def QF{α:Type}(f:α->Bool)(l:List α):Int:=if l.any f then (l.findIdx f:Int) else -1
section
variable {α:Type} {f:α->Bool} {l:List α} {k:Nat} {x:α}
theorem P8(h:l[k]?=some x)(hp:f x=true)(hn:∀j y,j<k->l[j]?=some y->f y=false):(k:Int)=QF f l:=by
 obtain⟨hk,rfl⟩:=zY.1 h;have:l.any f=true:=wZ.2 ⟨_,xC hk,hp⟩;rw[QF,if_pos this];congr 1
 symm
 rw[List.findIdx_eq hk];exact⟨hp,fun j hj=>hn j _ hj (zV (by omega))⟩
end
def N7(x:Int)(l:List Int):Bool:=l.any fun y=>decide (y=x)
def kF(pgs:List (List Int))(x:Int):Int:=QF (N7 x) pgs
def Le(x:dF):Bool:=decide (1<=x.state/\x.state<=6)
def Kr(x:dF):Bool:=decide (x.state=1)
def J8{α:Type}(lt:α->α->Bool)(l:List α)(i:Nat):Bool:=match l[i]?,l[i+1]? with
 |some a,some b=>lt a b
 |_,_=>true
def kE(l:List dF)(k:Nat):Nat:=((l.take k).filter Kr).length
def Lm(l:List dF):Nat:=(l.filter Kr).length
def Lr(l:List dF)(i:Nat):Bool:=match l[i]? with
 |some x=>Le x&&(match i with
  |0=>true
  |k+1=>J8 bU l k)
 |none=>true
def wE(l:List dF):Bool:=(List.range l.length).all (Lr l)
def Ku(l:List dF)(id:gT):Option dF:=l.find? fun x=>decide (x.scan=id)
noncomputable def JV(s:dl)(sts:List dF)(q:Pg):Bool:=match fo s.xp q.cand,Ku sts q.scan with
 |some x,some y=>decide (y.state=1)&&(decide (y.lab=⟨s.num,q.cand,q.page,x.var⟩)&&bH s ⟨s.num,q.cand,q.page,x.var⟩ q.ch)
 |_,_=>false
noncomputable def LG(s:dl)(sts:List dF)(l:List Pg)(i:Nat):Bool:=match l[i]? with
 |some x=>(match i with
  |0=>true
  |k+1=>J8 dW l k)&&JV s sts x
 |none=>true
noncomputable def gq(s:dl)(i:r6):Bool :=
 decide (aC s=0)&&(wE i.sts&&(decide (Lm i.sts=i.pgs.length)&&(List.range i.pgs.length).all (LG s i.sts i.pgs)))
def dG(l:List Pg)(c g:Int):Option Pg:=l.find? fun x=>decide (x.cand=c)&&decide (x.page=g)
def Nd(c:Int)(x:dF):Bool:=decide (x.state=3)&&decide (x.lab.c=c)
def Mq(a b:Int):Bool:=decide (a<b)
theorem Oz:xj Mq:=⟨fun a=>by unfold Mq;simp,fun a b c h1 h2=>by unfold Mq at *;simp only[decide_eq_true_eq]at *;omega⟩
def lb(l:List dF)(c:Int):List Int:=CS Mq ((l.filter (Nd c)).map fun x=>x.lab.g)
def a8(l:List Pg)(c:Int)(k:Nat):List Int:=(List.range k).filterMap fun g:Nat=>if (dG l c (g:Int)).isSome then none else some (g:Int)
structure P6 where
 cand:Int
 state:Int
 pgs:List Int
def F9(s:dl)(v:Int):Nat:=((s.bk[v.toNat]?).getD []).length
def gt(s:dl)(i:r6)(x:fv):P6 :=
 if lb i.sts x.cand≠[] then ⟨x.cand,3,lb i.sts x.cand⟩
 else if a8 i.pgs x.cand (F9 s x.var)=[] then ⟨x.cand,1,[]⟩
 else if (a8 i.pgs x.cand (F9 s x.var)).length=F9 s x.var then ⟨x.cand,4,[]⟩
 else ⟨x.cand,2,a8 i.pgs x.cand (F9 s x.var)⟩
structure Np where
 num:Int
 pap:Int
 cand:Int
 cen:Int
 var:Int
 pgs:List Int
 ans:List Int
noncomputable def Mj(s:dl)(i:r6)(d f ld:Int)(x:fv):List Int:=match s.pap[x.var.toNat]?,s.bk[x.var.toNat]? with
 |some q,some b=>(List.range q.ps.length).map fun k=>match q.ps[k]? with
  |some r=>if r.kind=2 then (match dG i.pgs x.cand (kF b (k:Int)) with
   |some pg=>(d9 q.code q.var q.ps b d f ld (kF b (k:Int)) pg.ch).getD k 0
   |none=>(d9 q.code q.var q.ps b d f ld (kF b (k:Int)) []).getD k 0) else -1
  |none=>-1
 |_,_=>[]
def j6(i:r6)(c:Int)(n:Nat):List Int:=(List.range n).map fun g:Nat=>((dG i.pgs c (g:Int)).map Pg.cont).getD 0
noncomputable def Mk(s:dl)(i:r6)(d f ld:Int)(x:fv):Np :=
 ⟨s.num*10000+x.cand,s.num,x.cand,x.cen,x.var,j6 i x.cand (F9 s x.var),Mj s i d f ld x⟩
def cj(s:dl)(i:r6)(x:fv):Bool:=decide ((gt s i x).state=1)
noncomputable def ut(s:dl)(i:r6)(d f ld:Int):List Np:=(s.xp.filter (cj s i)).map (Mk s i d f ld)
def un(l:List dF)(k:Int):Int:=((l.filter fun x=>decide (x.state=k)).length:Int)
def NB(l:List dF):List Int:=[(l.length:Int),un l 1,un l 2,un l 3,un l 4,un l 5,un l 6]
def j8(s:dl)(i:r6)(l:List Np)(k:Nat):Bool:=match l[k]? with
 |some c=>(match k with
  |0=>true
  |j+1=>J8 (fun a b:Np=>decide (a.num<b.num)) l j)&&(match fo s.xp c.cand with
   |some x=>decide (c.num=s.num*10000+x.cand)&&(decide (c.pap=s.num)&&(decide (c.cen=x.cen)&&(decide (c.var=x.var)&&(decide (c.pgs.length=F9 s x.var) &&
     (List.range c.pgs.length).all fun g=>match dG i.pgs x.cand (g:Int),c.pgs[g]? with
      |some q,some y=>decide (q.cont=y)
      |_,_=>false))))
   |none=>false)
 |none=>true
noncomputable def d7(s:dl)(i:r6)(l:List Np):Bool:=gq s i&&(List.range l.length).all (j8 s i l)
theorem j9{f:Nat->Bool}(h:∀i,i<n->f i=true):(List.range n).all f=true:=xS.2 fun i hi=>h i (yX.1 hi)
theorem hJ{f:Nat->Bool}{k:Nat}(hk:k<n)(h:f k=false):(List.range n).all f=false:=by rw[wT];exact⟨k,yX.2 hk,by rw[h];simp⟩
theorem Ml{f:Nat->Bool}(h:(List.range n).all f=true){i:Nat}(hi:i<n):f i=true:=xS.1 h i (yX.2 hi)
section
variable {s:dl} {i:r6}
structure KY (s:dl) (i:r6):Prop where
 chk:aC s=0
 sts:∀k,k<i.sts.length->Lr i.sts k=true
 used:Lm i.sts=i.pgs.length
 pgs:∀k,k<i.pgs.length->LG s i.sts i.pgs k=true
theorem j7:gq s i=true↔KY s i:=by
 unfold gq wE;simp only[yT,decide_eq_true_eq];constructor
 ·rintro⟨h1,h2,h3,h4⟩;exact⟨h1,fun k hk=>Ml h2 hk,h3,fun k hk=>Ml h4 hk⟩
 ·intro h;exact⟨h.chk,j9 h.sts,h.used,j9 h.pgs⟩
theorem CQ(h:∀k,k<i.sts.length->Lr i.sts k=true):iT bU i.sts:=by refine pA wm fun k x y hx hy=>?_;have:=h (k+1) (zY.1 hy).1;unfold Lr at this;rw[hy]at this;simp only[yT]at this;have h2:=this.2;unfold J8 at h2;rw[hx,hy]at h2;exact h2
theorem KY.asc(h:KY s i):iT bU i.sts:=CQ h.sts
theorem KY.ascP(h:KY s i):iT dW i.pgs:=by refine pA Kn fun k x y hx hy=>?_;have:=h.pgs (k+1) (zY.1 hy).1;unfold LG at this;rw[hy]at this;simp only[yT]at this;have h2:=this.1;unfold J8 at h2;rw[hx,hy]at h2;exact h2
theorem KY.page(h:KY s i){q:Pg}(hq:q∈i.pgs):JV s i.sts q=true:=by obtain⟨k,hk⟩:=zH hq;have:=h.pgs k (zY.1 hk).1;unfold LG at this;rw[hk]at this;simp only[yT]at this;exact this.2
theorem PQ(h1:aC s=0)(h2:iT bU i.sts)(h3:∀x∈i.sts,1<=x.state/\x.state<=6)(h4:Lm i.sts=i.pgs.length)(h5:iT dW i.pgs)(h6:∀q∈i.pgs,JV s i.sts q=true):KY s i:=by
 refine⟨h1,fun k hk=>?_,h4,fun k hk=>?_⟩
 ·have e:i.sts[k]?=some i.sts[k]:=zV hk;unfold Lr;rw[e];have:=h3 _ (xC hk);simp only[yT];refine⟨by unfold Le;simpa using this,?_⟩;cases k with
  |zero=>rfl
  |succ k =>
   have e':i.sts[k]?=some i.sts[k]:=zV (by omega);simp only;unfold J8;rw[e',e];exact h2.at_ e' e (by omega)
 ·have e:i.pgs[k]?=some i.pgs[k]:=zV hk;unfold LG;rw[e];simp only[yT];refine⟨?_,h6 _ (xC hk)⟩;cases k with
  |zero=>rfl
  |succ k =>
   have e':i.pgs[k]?=some i.pgs[k]:=zV (by omega);simp only;unfold J8;rw[e',e];exact h5.at_ e' e (by omega)
theorem Om{l:List dF}(h:iT bU l){x:dF}(hx:x∈l):Ku l x.scan=some x:=by obtain⟨k,hk⟩:=zH hx;unfold Ku;refine ja hk (by simp) fun j y hj hy=>?_;have:=h.at_ hy hk hj;refine decide_eq_false fun e=>?_;unfold bU at this;rw[e,qo.irr]at this;cases this
theorem My{l:List Pg}{c g:Int}{x:Pg}(h:dG l c g=some x):x∈l/\x.cand=c/\x.page=g:=by unfold dG at h;have:=List.find?_some h;simp only[yT,decide_eq_true_eq]at this;exact⟨List.mem_of_find?_eq_some h,this⟩
theorem O9{l:List Pg}(h:iT dW l){x:Pg}(hx:x∈l):dG l x.cand x.page=some x:=by obtain⟨k,hk⟩:=zH hx;unfold dG;refine ja hk (by simp) fun j y hj hy=>?_;have:=h.at_ hy hk hj;unfold dW at this;simp only[decide_eq_true_eq]at this;simp only[Bool.and_eq_false_iff,decide_eq_false_iff_not];omega
theorem qR{l:List fv}{c:Int}{x:fv}(h:fo l c=some x):x∈l/\x.cand=c:=by unfold fo at h;exact⟨List.mem_of_find?_eq_some h,by simpa using List.find?_some h⟩
def vr(a b:fv):Bool:=decide (a.cand<b.cand)
theorem Ka:xj vr:=⟨fun a=>by unfold vr;simp,fun a b c h1 h2=>by unfold vr at *;simp only[decide_eq_true_eq]at *;omega⟩
theorem dU.asc_(h:dU s):iT vr s.xp:=by refine pA Ka fun k x y hx hy=>?_;have:=h.asc k (zY.1 hy).1;unfold lW at this;rw[hx,hy]at this;exact this
theorem Em(h:iT vr s.xp){x:fv}(hx:x∈s.xp):fo s.xp x.cand=some x:=by obtain⟨k,hk⟩:=zH hx;unfold fo;refine ja hk (by simp) fun j y hj hy=>?_;have:=h.at_ hy hk hj;refine decide_eq_false fun e=>?_;unfold vr at this;simp only[decide_eq_true_eq]at this;omega
theorem NU{C:List aj}(hs:aC s=0)(hC:FB C):KY s (cQ s C):=by
 refine PQ hs (GT hC) (fun x hx=>Pt hx) N5 jv fun q hq=>?_;obtain⟨k,y,hy,hk,hu,rfl⟩:=mem_pgs.1 hq;have hm:lN (af s C) k y∈(cQ s C).sts:=mem_sts.2 ⟨k,y,hy,hk,rfl⟩;have hst:=Om (GT hC) hm;have hf:=(ro hy hu).1;have he:=(de hy).2;have h2:bH s y.lab y.cap.ch=true:=by have:=(lK (s:=s) (l:=C) (c:=y.cap) (by rw[<-he];exact hf)).2.1;rw[<-he]at this;exact this
 obtain⟨x,pq,bk,h3,h4,h5,-⟩:=ii.1 h2;unfold JV;have e1:fo s.xp (Gs y).cand=some x:=h3;have e2:Ku (cQ s C).sts (Gs y).scan=some (lN (af s C) k y):=hst;rw[e1,e2];have hl:y.lab=⟨s.num,(Gs y).cand,(Gs y).page,x.var⟩:=(cJ.eq_iff _ _).2 ⟨h4,rfl,rfl,h5.symm⟩;simp only;rw[<-hl];have:(lN (af s C) k y).state=1:=hu;rw[this,show (lN (af s C) k y).lab=y.lab from rfl,show (Gs y).ch=y.cap.ch from rfl,h2];simp
theorem KY.pg_in(h:KY s i){q:Pg}(hq:q∈i.pgs):∃x p b,fo s.xp q.cand=some x/\s.pap[x.var.toNat]?=some p/\s.bk[x.var.toNat]?=some b/\0<=q.page/\q.page<(b.length:Int)/\q.ch.length=(dr p.code p.var p.ps b q.page).length/\q.ch.all fE=true:=by
 have:=h.page hq;unfold JV at this;cases h1:fo s.xp q.cand with
 |none=>rw[h1]at this;cases this
 |some x =>
  rw[h1]at this;cases h2:Ku i.sts q.scan with
  |none=>rw[h2]at this;cases this
  |some y =>
   rw[h2]at this;simp only[yT,decide_eq_true_eq]at this;obtain⟨x',p,b,h3,h4,h5,h6,h7,h8,h9,h10,h11⟩:=ii.1 this.2.2;exact⟨x,p,b,rfl,h6,h7,h8,h9,h10,h11⟩
end
def iH(s:dl):List cJ:=s.xp.flatMap fun x=>(List.range (F9 s x.var)).map fun g:Nat=>⟨s.num,x.cand,(g:Int),x.var⟩
structure KWw (s:dl) (i:Nat) (l:cJ) (c:aj):Prop where
 kind:c.kind=1
 src:c.st.s=1
 seq:c.st.q=(i:Int)
 time:0<=c.st.t/\c.st.t<=24
 str:c.str=eH (mH l.p l.c l.g l.v)
 cont:c.cont=100*l.c+l.g
 len:∀q b,s.pap[l.v.toNat]?=some q->s.bk[l.v.toNat]?=some b->c.ch.length=(dr q.code q.var q.ps b l.g).length
 val:c.ch.all fE=true
def nO(s:dl)(ls:List cJ)(L:List aj):Prop:=L.length=ls.length/\∀(i:Nat) c l,L[i]?=some c->ls[i]?=some l->KWw s i l c
theorem nO.nil(s:dl):nO s [] []:=⟨rfl,fun i c l h=>by cases h⟩
theorem nO.snoc{s:dl}{ls:List cJ}{L:List aj}{c:aj}{l:cJ}(h:nO s ls L)(hc:KWw s L.length l c):nO s (ls++[l]) (L++[c]):=by
 refine⟨by simp[h.1],fun i d m hd hm=>?_⟩;rcases zU i L.length with hi|hi
 ·rw[yY hi]at hd;rw[yY (by rw[<-h.1];exact hi)]at hm;exact h.2 i d m hd hm
 ·rw[yL hi]at hd;rw[yL (by rw[<-h.1];exact hi)]at hm;have hj:i-L.length=0:=by
   have:=(zY.1 hd).1;simp at this;omega
  rw[hj]at hd;rw[<-h.1,hj]at hm;simp at hd hm;subst hd;subst hm;rw[show i=L.length by omega];exact hc
structure ki (s:dl) (L:List aj):Prop where
 ok:dU s
 cap:nO s (iH s) L
section
variable {s:dl} {L:List aj}
theorem rT(h:dU s){v:Int}(h0:0<=v)(h1:v<(s.pap.length:Int)):∃q b,s.pap[v.toNat]?=some q/\s.bk[v.toNat]?=some b/\jH q.code q.var q.ps b=true/\fD q.code q.var q.ps=true/\q.code=s.num/\q.var=v:=by
 have hv:v.toNat<s.pap.length:=by omega
 have:=h.pap _ hv;have e1:s.pap[v.toNat]?=some s.pap[v.toNat]:=zV hv;have hv':v.toNat<s.bk.length:=by rw[h.bks];exact hv
 have e2:s.bk[v.toNat]?=some s.bk[v.toNat]:=zV hv';unfold jK at this;rw[e1,e2]at this;simp only[yT,decide_eq_true_eq]at this;exact⟨_,_,e1,e2,this.2.2.2,this.1,this.2.1,by omega⟩
theorem rL(h:dU s){x:fv}(hx:x∈s.xp):0<=x.cand/\x.cand<=9999/\0<=x.var/\x.var<(s.pap.length:Int)/\1<=x.cen/\x.cen<=99:=by have:=h.xps x hx;unfold ud at this;simp only[decide_eq_true_eq]at this;omega
theorem uo{v:Int}{b:List (List Int)}(h:s.bk[v.toNat]?=some b):F9 s v=b.length:=by unfold F9;rw[h];rfl
theorem rK{l:cJ}:l∈iH s↔∃x∈s.xp,∃g:Nat,g<F9 s x.var/\l=⟨s.num,x.cand,(g:Int),x.var⟩:=by
 unfold iH;rw[List.mem_flatMap];constructor
 ·rintro⟨x,hx,hl⟩;obtain⟨g,hg,rfl⟩:=zF.1 hl;exact⟨x,hx,g,yX.1 hg,rfl⟩
 ·rintro⟨x,hx,g,hg,rfl⟩;exact⟨x,hx,zF.2 ⟨g,yX.2 hg,rfl⟩⟩
theorem mR{code var:Int}{ps:List av}{b:List (List Int)}(h:jH code var ps b=true):4<=b.length/\b.length<=12:=by
 obtain⟨hv,h1,h2,h3,h4⟩:=J0 h;refine⟨?_,h1⟩;cases b with
 |nil =>
  have h5:0=(ps.map db).length:=h4;have h6:=(mD hv).2.2.2.2.1;rw[zJ]at h5;omega
 |cons a l=>simp only[xQ]at h2⊢;omega
theorem Br(h:dU s){l:cJ}(hl:l∈iH s):dj l.p l.c l.g l.v=true:=by obtain⟨x,hx,g,hg,rfl⟩:=rK.1 hl;have hb:=rL h hx;obtain⟨q,b,h1,h2,h3,-⟩:=rT h hb.2.2.1 hb.2.2.2.1;have:=(mR h3).2;rw[uo h2]at hg;have:=h.num;have:=h.len;exact ju.2 ⟨by simp only;omega,by simp only;omega,by simp only;omega,by simp only;omega⟩
theorem GH(h:dU s):(iH s).Pairwise fun a b=>¬(a.c=b.c/\a.g=b.g):=by
 unfold iH;rw[List.pairwise_flatMap];constructor
 ·intro x _;rw[uK];refine (List.pairwise_lt_range).imp fun {a b} hab=>?_;simp only;omega
 ·refine (h.asc_).imp fun {x y} hxy=>?_;unfold vr at hxy;simp only[decide_eq_true_eq]at hxy;intro a ha b hb;obtain⟨g,_,rfl⟩:=zF.1 ha;obtain⟨g',_,rfl⟩:=zF.1 hb;simp only;omega
theorem Gz(h:dU s):(iH s).length<=720:=by
 unfold iH;rw[List.length_flatMap];have key:∀xs:List fv,(∀x∈xs,x∈s.xp)->(xs.map fun x=>((List.range (F9 s x.var)).map fun g:Nat=>(⟨s.num,x.cand,(g:Int),x.var⟩:cJ)).length).sum<=12*xs.length:=by
  intro xs;induction xs with
  |nil=>intro _;simp
  |cons x xs ih =>
   intro hx;have h1:=ih fun y hy=>hx y (by simp[hy]);have hb:=rL h (hx x (by simp));obtain⟨q,b,_,h2,h3,-⟩:=rT h hb.2.2.1 hb.2.2.2.1;have:=(mR h3).2;rw[wK,List.sum_cons,zJ,wQ,uo h2];simp only[xQ];omega
 have:=key s.xp fun _ h=>h;have:=h.len;omega
theorem ki.at_(h:ki s L){c:aj}(hc:c∈L):∃(i:Nat) (l:cJ),L[i]?=some c/\(iH s)[i]?=some l/\KWw s i l c/\i<720:=by obtain⟨i,hi⟩:=zH hc;have hlt:=(zY.1 hi).1;rw[h.cap.1]at hlt;have:=Gz h.ok;exact⟨i,_,hi,zV hlt,h.cap.2 i c _ hi (zV hlt),by omega⟩
theorem ki.of_slot(h:ki s L){l:cJ}(hl:l∈iH s):∃(i:Nat) (c:aj),L[i]?=some c/\(iH s)[i]?=some l/\KWw s i l c:=by obtain⟨i,hi⟩:=zH hl;have hlt:=(zY.1 hi).1;rw[<-h.cap.1]at hlt;exact⟨i,_,zV hlt,hi,h.cap.2 i _ l (zV hlt) hi⟩
theorem ki.valid(h:ki s L):∀c∈L,dT c.st=true:=by intro c hc;obtain⟨i,l,_,_,hw,hi⟩:=h.at_ hc;have:=hw.time;have:=hw.src;have:=hw.seq;unfold dT;simp only[decide_eq_true_eq];omega
theorem ki.ids(h:ki s L):∀c∈L,∀d∈L,c.id=d.id->c=d:=by
 intro c hc d hd he;obtain⟨i,l,hi,_,hw,_⟩:=h.at_ hc;obtain⟨k,m,hk,_,hv,_⟩:=h.at_ hd;have:i=k:=by have h1:=hw.seq;have h2:=hv.seq;have h3:=((gT.eq_iff _ _).1 he).2;unfold aj.id at h3;simp only at h3;omega
 subst this;rw[hi]at hk;injection hk
theorem ki.labR(h:ki s L){i:Nat}{l:cJ}{c:aj}(hl:(iH s)[i]?=some l)(hw:KWw s i l c):dR c.str=some l/\Go.Proofs.YtpaidaphacoblaaGreatDoor.labR c=l:=by have h1:=Bi (Br h.ok (zW hl));rw[<-hw.str]at h1;exact⟨h1,by unfold Go.Proofs.YtpaidaphacoblaaGreatDoor.labR;rw[h1];rfl⟩
theorem ki.fits(h:ki s L){i:Nat}{l:cJ}{c:aj}(hl:(iH s)[i]?=some l)(hw:KWw s i l c):bH s l c.ch=true:=by obtain⟨x,hx,g,hg,rfl⟩:=rK.1 (zW hl);have hb:=rL h.ok hx;obtain⟨q,b,h1,h2,h3,-⟩:=rT h.ok hb.2.2.1 hb.2.2.2.1;refine ii.2 ⟨x,q,b,Em h.ok.asc_ hx,rfl,rfl,h1,h2,by simp only;omega,?_,hw.len q b h1 h2,hw.val⟩;rw[uo h2]at hg;simp only;omega
theorem ki.one(h:ki s L):∀c∈L,c.kind=1/\dR c.str=some (Go.Proofs.YtpaidaphacoblaaGreatDoor.labR c)/\bH s (Go.Proofs.YtpaidaphacoblaaGreatDoor.labR c) c.ch=true:=by intro c hc;obtain⟨i,l,_,hl,hw,_⟩:=h.at_ hc;obtain⟨h1,h2⟩:=h.labR hl hw;rw[h2];exact⟨hw.kind,h1,h.fits hl hw⟩
theorem ki.inj(h:ki s L):∀c∈L,∀d∈L,Go.Proofs.YtpaidaphacoblaaGreatDoor.labR c=Go.Proofs.YtpaidaphacoblaaGreatDoor.labR d->c=d:=by
 intro c hc d hd he;obtain⟨i,l,hi,hl,hw,_⟩:=h.at_ hc;obtain⟨k,m,hk,hm,hv,_⟩:=h.at_ hd;rw[(h.labR hl hw).2,(h.labR hm hv).2]at he;subst he;have hp:=GH h.ok;have:i=k:=by
  obtain⟨a1,a2⟩:=zY.1 hl;obtain⟨b1,b2⟩:=zY.1 hm;rcases xO i k with e|e|e
  ·have:=xX.1 hp i k a1 b1 e;rw[a2,b2]at this;exact absurd ⟨rfl,rfl⟩ this
  ·exact e
  ·have:=xX.1 hp k i b1 a1 e;rw[a2,b2]at this;exact absurd ⟨rfl,rfl⟩ this
 subst this;rw[hi]at hk;injection hk
theorem ki.clean(h:ki s L){M:List aj}(hM:∀c∈M,c∈L):iJ s (ay M) :=
 Ax (fun c hc=>h.valid c (hM c hc)) (fun c hc d hd=>h.ids c (hM c hc) d (hM d hd)) (fun c hc=>h.one c (hM c hc)) (fun c hc d hd=>h.inj c (hM c hc) d (hM d hd))
theorem ki.mem(h:ki s L){M:List aj}(hM:∀c∈M,c∈L){c:aj}:c∈ay M↔c∈M :=
 kj (fun c hc=>h.valid c (hM c hc)) (fun c hc d hd=>h.ids c (hM c hc) d (hM d hd))
theorem ki.nodup(h:ki s L):L.Nodup:=by refine xX.2 fun i k hi hk hik e=>?_;have h1:L[i]?=some L[i]:=zV hi;have h2:L[k]?=some L[k]:=zV hk;have a:=(h.cap.2 i _ _ h1 (zV (by rw[<-h.cap.1];exact hi))).seq;have b:=(h.cap.2 k _ _ h2 (zV (by rw[<-h.cap.1];exact hk))).seq;rw[e]at a;omega
theorem ki.len(h:ki s L){M:List aj}(hM:∀c,c∈M↔c∈L):(ay M).length=L.length:=sz h.nodup hM h.valid h.ids
end
end Go.Proofs.YtpaidaphacoblaaGreatDoor

