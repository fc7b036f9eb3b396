import Derived.Test.YtkaajgoeahahpaaGreatDoorK27
set_option linter.all false
set_option maxRecDepth 100000
set_option maxHeartbeats 0
namespace Go.Proofs.YtkaajgoeahahpaaGreatDoor
open Go.RowKit
section
variable {α:Type} {f:α->Bool} {l:List α} {k:Nat} {x:α}
def qT(f:α->Bool)(l:List α)(k:Nat):Prop:=∀j y,j<k->l[j]?=some y->f y=false
theorem qT.zero(f:α->Bool)(l:List α):qT f l 0:=fun j y hj=>by omega
theorem qT.succ(h:qT f l k)(hx:l[k]?=some x)(hp:f x=false):qT f l (k+1):=by
 intro j y hj hy;by_cases e:j=k
 ·subst e;rw[hx]at hy;rw[<-xF hy];exact hp
 ·exact h j y (by omega) hy
end
def Le(x:dF):Bool:=decide (1<=x.state/\x.state<=6)
def Kr(x:dF):Bool:=decide (x.state=1)
def J8{α:Type}(lt:α->α->Bool)(l:List α)(i:Nat):Bool:=match l[i]?,l[i+1]? with
 |some a,some b=>lt a b
 |_,_=>true
def Lm(l:List dF):Nat:=(l.filter Kr).length
def Lr(l:List dF)(i:Nat):Bool:=match l[i]? with
 |some x=>Le x&&(match i with
  |0=>true
  |k+1=>J8 bU l k)
 |none=>true
def Ku(l:List dF)(id:gT):Option dF:=l.find? fun x=>decide (x.scan=id)
noncomputable def JV(s:dl)(sts:List dF)(q:Pg):Bool:=match fo s.xp q.cand,Ku sts q.scan with
 |some x,some y=>decide (y.state=1)&&(decide (y.lab=⟨s.num,q.cand,q.page,x.var⟩)&&bH s ⟨s.num,q.cand,q.page,x.var⟩ q.ch)
 |_,_=>false
noncomputable def LG(s:dl)(sts:List dF)(l:List Pg)(i:Nat):Bool:=match l[i]? with
 |some x=>(match i with
  |0=>true
  |k+1=>J8 dW l k)&&JV s sts x
 |none=>true
def F9(s:dl)(v:Int):Nat:=((s.bk[v.toNat]?).getD []).length
section
variable {s:dl} {i:r6}
structure KY (s:dl) (i:r6):Prop where
 chk:aC s=0
 sts:∀k,k<i.sts.length->Lr i.sts k=true
 used:Lm i.sts=i.pgs.length
 pgs:∀k,k<i.pgs.length->LG s i.sts i.pgs k=true
theorem CQ(h:∀k,k<i.sts.length->Lr i.sts k=true):iT bU i.sts:=by refine pA wm fun k x y hx hy=>?_;have:=h (k+1) (zY.1 hy).1;unfold Lr at this;rw[hy]at this;simp only[yT]at this;have h2:=this.2;unfold J8 at h2;rw[hx,hy]at h2;exact h2
theorem KY.asc(h:KY s i):iT bU i.sts:=CQ h.sts
theorem KY.page(h:KY s i){q:Pg}(hq:q∈i.pgs):JV s i.sts q=true:=by obtain⟨k,hk⟩:=zH hq;have:=h.pgs k (zY.1 hk).1;unfold LG at this;rw[hk]at this;simp only[yT]at this;exact this.2
theorem KY.st(h:KY s i){x:dF}(hq:x∈i.sts):1<=x.state/\x.state<=6:=by obtain⟨k,hk⟩:=zH hq;have:=h.sts k (zY.1 hk).1;unfold Lr at this;rw[hk]at this;simp only[yT]at this;have:=this.1;unfold Le at this;simpa using this
theorem qR{l:List fv}{c:Int}{x:fv}(h:fo l c=some x):x∈l/\x.cand=c:=by unfold fo at h;exact⟨List.mem_of_find?_eq_some h,by simpa using List.find?_some h⟩
def vr(a b:fv):Bool:=decide (a.cand<b.cand)
theorem Ka:xj vr:=⟨fun a=>by unfold vr;simp,fun a b c h1 h2=>by unfold vr at *;simp only[decide_eq_true_eq]at *;omega⟩
theorem dU.asc_(h:dU s):iT vr s.xp:=by refine pA Ka fun k x y hx hy=>?_;have:=h.asc k (zY.1 hy).1;unfold lW at this;rw[hx,hy]at this;exact this
theorem Em(h:iT vr s.xp){x:fv}(hx:x∈s.xp):fo s.xp x.cand=some x:=by obtain⟨k,hk⟩:=zH hx;unfold fo;refine ja hk (by simp) fun j y hj hy=>?_;have:=h.at_ hy hk hj;refine decide_eq_false fun e=>?_;unfold vr at this;simp only[decide_eq_true_eq]at this;omega
end
def iH(s:dl):List cJ:=s.xp.flatMap fun x=>(List.range (F9 s x.var)).map fun g:Nat=>⟨s.num,x.cand,(g:Int),x.var⟩
structure KW (s:dl) (i:Nat) (l:cJ) (c:aj):Prop where
 kind:c.kind=1
 src:c.st.s=1
 seq:c.st.q=(i:Int)
 time:0<=c.st.t/\c.st.t<=24
 str:c.str=eH (mH l.p l.c l.g l.v)
 cont:c.cont=100*l.c+l.g
 len:∀q b,s.pap[l.v.toNat]?=some q->s.bk[l.v.toNat]?=some b->c.ch.length=(dr q.code q.var q.ps b l.g).length
 val:c.ch.all fE=true
def nO(s:dl)(ls:List cJ)(L:List aj):Prop:=L.length=ls.length/\∀(i:Nat) c l,L[i]?=some c->ls[i]?=some l->KW s i l c
theorem nO.nil(s:dl):nO s [] []:=⟨rfl,fun i c l h=>by cases h⟩
theorem nO.snoc{s:dl}{ls:List cJ}{L:List aj}{c:aj}{l:cJ}(h:nO s ls L)(hc:KW s L.length l c):nO s (ls++[l]) (L++[c]):=by
 refine⟨by simp[h.1],fun i d m hd hm=>?_⟩;rcases zU i L.length with hi|hi
 ·rw[yY hi]at hd;rw[yY (by rw[<-h.1];exact hi)]at hm;exact h.2 i d m hd hm
 ·rw[yL hi]at hd;rw[yL (by rw[<-h.1];exact hi)]at hm;have hj:i-L.length=0:=by
   have:=(zY.1 hd).1;simp at this;omega
  rw[hj]at hd;rw[<-h.1,hj]at hm;simp at hd hm;subst hd;subst hm;rw[show i=L.length by omega];exact hc
structure ki (s:dl) (L:List aj):Prop where
 ok:dU s
 cap:nO s (iH s) L
section
variable {s:dl} {L:List aj}
theorem rT(h:dU s){v:Int}(h0:0<=v)(h1:v<(s.pap.length:Int)):∃q b,s.pap[v.toNat]?=some q/\s.bk[v.toNat]?=some b/\jH q.code q.var q.ps b=true/\fD q.code q.var q.ps=true/\q.code=s.num/\q.var=v:=by
 have hv:v.toNat<s.pap.length:=by omega
 have:=h.pap _ hv;have e1:s.pap[v.toNat]?=some s.pap[v.toNat]:=zV hv;have hv':v.toNat<s.bk.length:=by rw[h.bks];exact hv
 have e2:s.bk[v.toNat]?=some s.bk[v.toNat]:=zV hv';unfold jK at this;rw[e1,e2]at this;simp only[yT,decide_eq_true_eq]at this;exact⟨_,_,e1,e2,this.2.2.2,this.1,this.2.1,by omega⟩
theorem rL(h:dU s){x:fv}(hx:x∈s.xp):0<=x.cand/\x.cand<=9999/\0<=x.var/\x.var<(s.pap.length:Int)/\1<=x.cen/\x.cen<=99:=by have:=h.xps x hx;unfold ud at this;simp only[decide_eq_true_eq]at this;omega
theorem uo{v:Int}{b:List (List Int)}(h:s.bk[v.toNat]?=some b):F9 s v=b.length:=by unfold F9;rw[h];rfl
theorem rK{l:cJ}:l∈iH s↔∃x∈s.xp,∃g:Nat,g<F9 s x.var/\l=⟨s.num,x.cand,(g:Int),x.var⟩:=by
 unfold iH;rw[List.mem_flatMap];constructor
 ·rintro⟨x,hx,hl⟩;obtain⟨g,hg,rfl⟩:=zF.1 hl;exact⟨x,hx,g,yX.1 hg,rfl⟩
 ·rintro⟨x,hx,g,hg,rfl⟩;exact⟨x,hx,zF.2 ⟨g,yX.2 hg,rfl⟩⟩
theorem mR{code var:Int}{ps:List av}{b:List (List Int)}(h:jH code var ps b=true):4<=b.length/\b.length<=12:=by
 obtain⟨hv,h1,h2,h3,h4⟩:=J0 h;refine⟨?_,h1⟩;cases b with
 |nil =>
  have h5:0=(ps.map db).length:=h4;have h6:=(mD hv).2.2.2.2.1;rw[zJ]at h5;omega
 |cons a l=>simp only[xQ]at h2⊢;omega
theorem Br(h:dU s){l:cJ}(hl:l∈iH s):dj l.p l.c l.g l.v=true:=by obtain⟨x,hx,g,hg,rfl⟩:=rK.1 hl;have hb:=rL h hx;obtain⟨q,b,h1,h2,h3,-⟩:=rT h hb.2.2.1 hb.2.2.2.1;have:=(mR h3).2;rw[uo h2]at hg;have:=h.num;have:=h.len;exact ju.2 ⟨by simp only;omega,by simp only;omega,by simp only;omega,by simp only;omega⟩
theorem GH(h:dU s):(iH s).Pairwise fun a b=>¬(a.c=b.c/\a.g=b.g):=by
 unfold iH;rw[List.pairwise_flatMap];constructor
 ·intro x _;rw[uK];refine (List.pairwise_lt_range).imp fun {a b} hab=>?_;simp only;omega
 ·refine (h.asc_).imp fun {x y} hxy=>?_;unfold vr at hxy;simp only[decide_eq_true_eq]at hxy;intro a ha b hb;obtain⟨g,_,rfl⟩:=zF.1 ha;obtain⟨g',_,rfl⟩:=zF.1 hb;simp only;omega
theorem Gz(h:dU s):(iH s).length<=720:=by
 unfold iH;rw[List.length_flatMap];have key:∀xs:List fv,(∀x∈xs,x∈s.xp)->(xs.map fun x=>((List.range (F9 s x.var)).map fun g:Nat=>(⟨s.num,x.cand,(g:Int),x.var⟩:cJ)).length).sum<=12*xs.length:=by
  intro xs;induction xs with
  |nil=>intro _;simp
  |cons x xs ih =>
   intro hx;have h1:=ih fun y hy=>hx y (by simp[hy]);have hb:=rL h (hx x (by simp));obtain⟨q,b,_,h2,h3,-⟩:=rT h hb.2.2.1 hb.2.2.2.1;have:=(mR h3).2;rw[wK,List.sum_cons,zJ,wQ,uo h2];simp only[xQ];omega
 have:=key s.xp fun _ h=>h;have:=h.len;omega
theorem ki.at_(h:ki s L){c:aj}(hc:c∈L):∃(i:Nat) (l:cJ),L[i]?=some c/\(iH s)[i]?=some l/\KW s i l c/\i<720:=by obtain⟨i,hi⟩:=zH hc;have hlt:=(zY.1 hi).1;rw[h.cap.1]at hlt;have:=Gz h.ok;exact⟨i,_,hi,zV hlt,h.cap.2 i c _ hi (zV hlt),by omega⟩
theorem ki.valid(h:ki s L):∀c∈L,dT c.st=true:=by intro c hc;obtain⟨i,l,_,_,hw,hi⟩:=h.at_ hc;have:=hw.time;have:=hw.src;have:=hw.seq;unfold dT;simp only[decide_eq_true_eq];omega
theorem ki.ids(h:ki s L):∀c∈L,∀d∈L,c.id=d.id->c=d:=by
 intro c hc d hd he;obtain⟨i,l,hi,_,hw,_⟩:=h.at_ hc;obtain⟨k,m,hk,_,hv,_⟩:=h.at_ hd;have:i=k:=by have h1:=hw.seq;have h2:=hv.seq;have h3:=((gT.eq_iff _ _).1 he).2;unfold aj.id at h3;simp only at h3;omega
 subst this;rw[hi]at hk;injection hk
theorem ki.labR(h:ki s L){i:Nat}{l:cJ}{c:aj}(hl:(iH s)[i]?=some l)(hw:KW s i l c):dR c.str=some l/\Go.Proofs.YtkaajgoeahahpaaGreatDoor.labR c=l:=by have h1:=Bi (Br h.ok (zW hl));rw[<-hw.str]at h1;exact⟨h1,by unfold Go.Proofs.YtkaajgoeahahpaaGreatDoor.labR;rw[h1];rfl⟩
theorem ki.fits(h:ki s L){i:Nat}{l:cJ}{c:aj}(hl:(iH s)[i]?=some l)(hw:KW s i l c):bH s l c.ch=true:=by obtain⟨x,hx,g,hg,rfl⟩:=rK.1 (zW hl);have hb:=rL h.ok hx;obtain⟨q,b,h1,h2,h3,-⟩:=rT h.ok hb.2.2.1 hb.2.2.2.1;refine ii.2 ⟨x,q,b,Em h.ok.asc_ hx,rfl,rfl,h1,h2,by simp only;omega,?_,hw.len q b h1 h2,hw.val⟩;rw[uo h2]at hg;simp only;omega
theorem ki.one(h:ki s L):∀c∈L,c.kind=1/\dR c.str=some (Go.Proofs.YtkaajgoeahahpaaGreatDoor.labR c)/\bH s (Go.Proofs.YtkaajgoeahahpaaGreatDoor.labR c) c.ch=true:=by intro c hc;obtain⟨i,l,_,hl,hw,_⟩:=h.at_ hc;obtain⟨h1,h2⟩:=h.labR hl hw;rw[h2];exact⟨hw.kind,h1,h.fits hl hw⟩
theorem ki.inj(h:ki s L):∀c∈L,∀d∈L,Go.Proofs.YtkaajgoeahahpaaGreatDoor.labR c=Go.Proofs.YtkaajgoeahahpaaGreatDoor.labR d->c=d:=by
 intro c hc d hd he;obtain⟨i,l,hi,hl,hw,_⟩:=h.at_ hc;obtain⟨k,m,hk,hm,hv,_⟩:=h.at_ hd;rw[(h.labR hl hw).2,(h.labR hm hv).2]at he;subst he;have hp:=GH h.ok;have:i=k:=by
  obtain⟨a1,a2⟩:=zY.1 hl;obtain⟨b1,b2⟩:=zY.1 hm;rcases xO i k with e|e|e
  ·have:=xX.1 hp i k a1 b1 e;rw[a2,b2]at this;exact absurd ⟨rfl,rfl⟩ this
  ·exact e
  ·have:=xX.1 hp k i b1 a1 e;rw[a2,b2]at this;exact absurd ⟨rfl,rfl⟩ this
 subst this;rw[hi]at hk;injection hk
theorem ki.clean(h:ki s L){M:List aj}(hM:∀c∈M,c∈L):iJ s (ay M) :=
 Ax (fun c hc=>h.valid c (hM c hc)) (fun c hc d hd=>h.ids c (hM c hc) d (hM d hd)) (fun c hc=>h.one c (hM c hc)) (fun c hc d hd=>h.inj c (hM c hc) d (hM d hd))
theorem ki.mem(h:ki s L){M:List aj}(hM:∀c∈M,c∈L){c:aj}:c∈ay M↔c∈M :=
 kj (fun c hc=>h.valid c (hM c hc)) (fun c hc d hd=>h.ids c (hM c hc) d (hM d hd))
theorem ki.nodup(h:ki s L):L.Nodup:=by refine xX.2 fun i k hi hk hik e=>?_;have h1:L[i]?=some L[i]:=zV hi;have h2:L[k]?=some L[k]:=zV hk;have a:=(h.cap.2 i _ _ h1 (zV (by rw[<-h.cap.1];exact hi))).seq;have b:=(h.cap.2 k _ _ h2 (zV (by rw[<-h.cap.1];exact hk))).seq;rw[e]at a;omega
theorem ki.len(h:ki s L){M:List aj}(hM:∀c,c∈M↔c∈L):(ay M).length=L.length:=sz h.nodup hM h.valid h.ids
end
end Go.Proofs.YtkaajgoeahahpaaGreatDoor

