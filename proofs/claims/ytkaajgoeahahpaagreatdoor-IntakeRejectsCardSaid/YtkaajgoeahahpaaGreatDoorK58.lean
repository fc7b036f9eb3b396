import Derived.Test.YtkaajgoeahahpaaGreatDoorSplitA
import Derived.Test.YtkaajgoeahahpaaGreatDoorIdxL
import Derived.Test.YtkaajgoeahahpaaGreatDoorK57
set_option linter.all false
set_option maxRecDepth 100000
set_option maxHeartbeats 0
namespace Go.Proofs.YtkaajgoeahahpaaGreatDoor
open Go.RowKit
variable {i kk:Nat}
def L9(E:List aj)(id:gT):Prop:=∃e∈E,e.tgt=id
section
variable {s:dl} {C E:List aj} {c:aj}
theorem ny(h3:∀e∈E,e.kind=3){id:gT}:∀e∈E,dm id e=false:=fun e he=>by unfold dm;rw[h3 e he];rfl
theorem ux(hC:FB C)(h3:∀e∈E,e.kind=3)(hc:c∈C)(hk:c.kind=1)(hJ:L9 E c.id):aM s (C++E) c=⟨c,cJ.zero,6,false⟩:=by
 have hl:aQ (C++E) c.id=(cJ.zero,6):=by
  obtain⟨e,he,ht⟩:=hJ;have hne:E.filter (fH c.id)≠[]:=by intro hh;rw[List.filter_eq_nil_iff]at hh;exact hh e he (by unfold fH;rw[h3 e he,ht];simp)
  obtain⟨d,hd⟩:∃d,(E.filter (fH c.id)).getLast?=some d:=Option.ne_none_iff_exists'.1 (fun hh=>hne (List.getLast?_eq_none_iff.1 hh));rw[De (ny h3) hd,o6 hC hc hk];have hdm:=(xR.1 (List.mem_of_getLast? hd)).1;unfold iI;simp[h3 d hdm]
 unfold aM;rw[if_pos hk,hl];simp
theorem i5(h3:∀e∈E,e.kind=3)(hJ:¬L9 E c.id):aM s (C++E) c=aM s C c:=by
 have:aQ (C++E) c.id=aQ C c.id:=CU (ny h3) fun e he=>by unfold fH;rw[decide_eq_false (fun ht=>hJ ⟨e,he,ht⟩)];simp
 unfold aM;rw[this]
theorem zL(h3:∀e∈E,e.kind=3){e:aj}(he:e∈E):aM s (C++E) e=⟨e,cJ.zero,0,false⟩:=by unfold aM;rw[if_neg (by rw[h3 e he];omega)]
structure bf (s:dl) (C E:List aj) (aI:cJ) (c0:aj):Prop where
 ids:FB C
 k3:∀e∈E,e.kind=3
 jud:∀c∈C,c.kind=1->(L9 E c.id↔(aM s C c).fit=true/\(aM s C c).lab=aI/\c≠c0)
 mem:c0∈C
 fit:(aM s C c0).fit=true
 lab:(aM s C c0).lab=aI
variable {aI:cJ} {c0:aj}
theorem bf.keep(h:bf s C E aI c0):aM s (C++E) c0=aM s C c0:=i5 h.k3 fun hJ=>((h.jud c0 h.mem (lK h.fit).1).1 hJ).2.2 rfl
theorem bf.fit_row(h:bf s C E aI c0){x:dH}(hx:(af s (C++E))[i]?=some x)(hf:x.fit=true) :
  (af s C)[i]?=some x/\x.cap∈C/\(x.lab=aI->x.cap=c0):=by
 obtain⟨h1,h2⟩:=de hx;rcases zU i C.length with hi|hi
 ·rw[yY hi]at h1;have hm:=zW h1;have hk:x.cap.kind=1:=by rw[h2]at hf;exact (lK hf).1
  by_cases hJ:L9 E x.cap.id
  ·rw[ux h.ids h.k3 hm hk hJ]at h2;rw[h2]at hf;cases hf
  ·have e:=i5 (s:=s) (C:=C) h.k3 hJ;rw[e]at h2;refine⟨by have:=lL (s:=s) h1;rw[<-h2]at this;exact this,hm,fun hl=>?_⟩;rcases Classical.em (x.cap=c0) with e1|e1
   ·exact e1
   ·exact absurd ((h.jud _ hm hk).2 ⟨by rw[<-h2];exact hf,by rw[<-h2];exact hl,e1⟩) hJ
 ·rw[yL hi]at h1;rw[zL h.k3 (zW h1)]at h2;rw[h2]at hf;cases hf
theorem bf.row_fit(h:bf s C E aI c0){x:dH}(hx:(af s C)[i]?=some x)(hk:x.cap.kind=1)(hn:x.fit=true->x.lab=aI->x.cap=c0):(af s (C++E))[i]?=some x:=by
 obtain⟨h1,h2⟩:=de hx;have hm:=zW h1;have hi:=(zY.1 h1).1;have hJ:¬L9 E x.cap.id:=fun hJ=>by obtain⟨a,b,d⟩:=(h.jud _ hm hk).1 hJ;rw[<-h2]at a b;exact d (hn a b)
 have h1':(C++E)[i]?=some x.cap:=by rw[yY hi];exact h1
 have:=lL (s:=s) h1';rw[i5 h.k3 hJ,<-h2]at this;exact this
theorem bf.state_other(h:bf s C E aI c0){x:dH}(hx:(af s C)[i]?=some x)(hl:x.fit=true->x.lab≠aI):cR (af s (C++E)) i x=cR (af s C) i x:=by
 cases hf:x.fit with
 |false=>unfold cR;rw[hf];rfl
 |true =>
  have hl':=hl hf;have key:∀{k:Nat} {y:dH},dB x y=true->((af s (C++E))[k]?=some y↔(af s C)[k]?=some y):=fun {k y} hs=>by
   unfold dB at hs;simp only[yT,decide_eq_true_eq]at hs;constructor
   ·intro hy;exact (h.fit_row hy hs.1).1
   ·intro hy;refine h.row_fit hy ?_ fun _ hl2=>absurd (hs.2.symm.trans hl2) hl';have:=(de hy).2;rw[this]at hs;exact (lK hs.1).1
  refine wg (fun y hs=>?_) (fun y hs=>?_)
  ·constructor
   ·intro hy;obtain⟨k,hk⟩:=zH hy;exact zW ((key hs).1 hk)
   ·intro hy;obtain⟨k,hk⟩:=zH hy;exact zW ((key hs).2 hk)
  ·constructor
   ·intro hy;obtain⟨k,hk⟩:=zH hy;rw[yB]at hk;split at hk
    ·rename_i hki
     refine zW (i:=k) ?_;rw[yB,if_pos hki];exact (key hs).1 hk
    ·cases hk
   ·intro hy;obtain⟨k,hk⟩:=zH hy;rw[yB]at hk;split at hk
    ·rename_i hki
     refine zW (i:=k) ?_;rw[yB,if_pos hki];exact (key hs).2 hk
    ·cases hk
theorem bf.state_keep(h:bf s C E aI c0){x:dH}(hx:(af s (C++E))[i]?=some x)(hc:x.cap=c0):cR (af s (C++E)) i x=1/\x.lab=aI/\x.fit=true:=by
 obtain⟨h1,h2⟩:=de hx;rw[hc,h.keep]at h2;have hf:x.fit=true:=by rw[h2];exact h.fit
 have hl:x.lab=aI:=by rw[h2];exact h.lab
 refine⟨?_,hl,hf⟩;have only:∀(k:Nat) y,(af s (C++E))[k]?=some y->dB x y=true->y=x:=by intro k y hy hs;unfold dB at hs;simp only[yT,decide_eq_true_eq]at hs;have:=(h.fit_row hy hs.1).2.2 (hs.2.trans hl);have h3:=(de hy).2;rw[this,h.keep,<-h2]at h3;exact h3
 unfold cR;rw[if_pos hf];unfold dL;rw[if_neg,if_neg]
 ·simp only[Bool.not_eq_true,wO];intro y hy;obtain⟨k,hk⟩:=zH hy;rw[yB]at hk;split at hk
  ·rename_i hki
   cases hs:dB x y with
   |false=>simp
   |true =>
    have he:=only k y hk hs;subst he;have e1:=(h.fit_row hk hf).1;have e2:=(h.fit_row hx hf).1;have:=kO h.ids (de e1).1 (de e2).1 hki;exact absurd rfl this
  ·cases hk
 ·simp only[Bool.not_eq_true,wO,yT,not_and];intro y hy hs;obtain⟨k,hk⟩:=zH hy;rw[only k y hk hs];unfold en;simp
theorem bf.pages(h:bf s C E aI c0)(hcf:∀(i:Nat) x,(af s C)[i]?=some x->x.fit=true->x.lab=aI->cR (af s C) i x=3){q:Pg} :
  q∈(cQ s (C++E)).pgs↔q∈(cQ s C).pgs\/q=Gs (aM s C c0):=by
 rw[mem_pgs,mem_pgs];constructor
 ·rintro⟨i,y,hy,hk,hu,rfl⟩;have hf:=(ro hy hu).1;obtain⟨h1,h2,h3⟩:=h.fit_row hy hf;by_cases hl:y.lab=aI
  ·refine .inr ?_;have h4:=(de hy).2;rw[h3 hl,h.keep]at h4;rw[<-h4]
  ·refine .inl ⟨i,y,h1,hk,?_,rfl⟩;rw[<-h.state_other h1 fun _=>hl];exact hu
 ·rintro (⟨i,y,hy,hk,hu,rfl⟩|rfl)
  ·have hl:y.fit=true->y.lab≠aI:=fun hf hl=>by have:=hcf i y hy hf hl;omega
   exact⟨i,y,h.row_fit hy hk fun hf hl'=>absurd hl' (hl hf),hk,by rw[h.state_other hy hl];exact hu,rfl⟩
  ·obtain⟨i,hi⟩:=zH h.mem;have hk:(aM s C c0).cap.kind=1:=by rw[ff];exact (lK h.fit).1
   have:=h.row_fit (lL (s:=s) hi) hk fun _ _=>ff _ _ _;exact⟨i,_,this,hk,(h.state_keep this (ff _ _ _)).1,rfl⟩
theorem bf.st_keep(h:bf s C E aI c0):(⟨c0.id,1,aI⟩:dF)∈(cQ s (C++E)).sts:=by
 obtain⟨i,hi⟩:=zH h.mem;have hk:(aM s C c0).cap.kind=1:=by rw[ff];exact (lK h.fit).1
 have hr:=h.row_fit (lL (s:=s) hi) hk fun _ _=>ff _ _ _;refine mem_sts.2 ⟨i,_,hr,hk,?_⟩;unfold lN;rw[(h.state_keep hr (ff _ _ _)).1,h.lab,ff]
theorem bf.st_rej(h:bf s C E aI c0){c:aj}(hc:c∈C)(hk:c.kind=1)(hJ:L9 E c.id):(⟨c.id,6,cJ.zero⟩:dF)∈(cQ s (C++E)).sts:=by
 obtain⟨i,hi⟩:=zH hc;have h1':(C++E)[i]?=some c:=by rw[yY (zY.1 hi).1];exact hi
 have hr:=lL (s:=s) h1';rw[ux h.ids h.k3 hc hk hJ]at hr;exact mem_sts.2 ⟨i,_,hr,hk,rfl⟩
end
section
variable {s:dl} {l:List aj}
theorem LT{x:Pg}:x∈(cQ s l).pgs↔∃(i:Nat) (y:dH),(af s l)[i]?=some y/\y.cap.kind=1/\cR (af s l) i y=1/\x=Gs y:=by
 unfold cQ;simp only;rw[(fX _).mem_iff];unfold bW;rw[List.mem_filterMap];constructor
 ·rintro⟨i,_,hi⟩;obtain⟨y,h1,h2,h3,h4⟩:=Hi hi;exact⟨i,y,h1,h2,h3,h4⟩
 ·rintro⟨i,y,h1,h2,h3,rfl⟩;refine⟨i,yX.2 ?_,by unfold pg1;rw[h1];simp[h2,h3]⟩;have:=(zY.1 h1).1;rwa [jw]at this
theorem LS(h:FB l){c:aj}(hc:l[i]?=some c){q:Pg}(hq:q∈(cQ s l).pgs)(hs:q.scan=c.id):q=Gs (aM s l c)/\cR (af s l) i (aM s l c)=1:=by
 obtain⟨k,y,hy,-,hu,rfl⟩:=LT.1 hq;obtain⟨h1,h2⟩:=de hy;have hi:k=i:=by
  rcases xO k i with hlt|heq|hlt
  ·exact absurd hs (kO h h1 hc hlt)
  ·exact heq
  ·exact absurd hs.symm (kO h hc h1 hlt)
 subst hi;rw[hc]at h1;injection h1 with h1;rw[<-h1]at h2
 rw[<-h2];exact⟨rfl,hu⟩
end
def t7(a:List dF)(x:dF):List dF:=if x.state=3/\(a=[]\/some x.lab=a.head?.map dF.lab) then a++[x] else a
def bI(l:List dF):List dF:=l.foldl t7 []
theorem o0(l:List dF)(x:dF):bI (l++[x])=t7 (bI l) x:=by unfold bI;rw[uR];rfl
theorem C1(l:List dF):(bI l=[]/\∀x∈l,x.state≠3)\/∃lab,(bI l).head?.map dF.lab=some lab/\(∀x,x∈bI l↔x∈l/\x.state=3/\x.lab=lab)/\(bI l).Sublist l:=by
 refine ic (P:=fun l=>(bI l=[]/\∀x∈l,x.state≠3)\/∃lab,(bI l).head?.map dF.lab=some lab/\(∀x,x∈bI l↔x∈l/\x.state=3/\x.lab=lab)/\(bI l).Sublist l) (.inl ⟨rfl,fun x h=>by simp at h⟩) (fun l x ih=>?_) l;rw[o0];rcases ih with ⟨h1,h2⟩|⟨lab,h1,h2,h3⟩
 ·by_cases hx:x.state=3
  ·refine .inr ⟨x.lab,?_,fun y=>?_,?_⟩
   ·simp[t7,h1,hx]
   ·simp only[t7,h1,hx,true_or,and_self,if_true,List.nil_append,uJ,zM];constructor
    ·rintro rfl;exact⟨.inr rfl,hx,rfl⟩
    ·rintro⟨h|h,h3,-⟩
     ·exact absurd h3 (h2 y h)
     ·exact h
   ·simp[t7,h1,hx]
  ·refine .inl ⟨?_,fun y hy=>?_⟩
   ·simp[t7,h1,hx]
   ·rcases zM.1 hy with h|h
    ·exact h2 y h
    ·rw[show y=x by simpa using h];exact hx
 ·have hne:bI l≠[]:=fun e=>by rw[e]at h1;cases h1
  by_cases hx:x.state=3/\x.lab=lab
  ·have e:t7 (bI l) x=bI l++[x]:=by unfold t7;rw[if_pos ⟨hx.1,.inr (by rw[h1,hx.2])⟩]
   refine .inr ⟨lab,?_,fun y=>?_,?_⟩
   ·rw[e];cases hh:bI l with
    |nil=>exact absurd hh hne
    |cons a t=>rw[hh]at h1;simpa using h1
   ·rw[e,zM,h2 y,zM];constructor
    ·rintro (⟨h,h'⟩|h)
     ·exact⟨.inl h,h'⟩
     ·rw[show y=x by simpa using h];exact⟨.inr (by simp),hx⟩
    ·rintro⟨h|h,h'⟩
     ·exact .inl ⟨h,h'⟩
     ·exact .inr h
   ·rw[e];exact h3.append (List.Sublist.refl _)
  ·have e:t7 (bI l) x=bI l:=by
    unfold t7;refine if_neg fun⟨h,h'⟩=>?_;rcases h' with h'|h'
    ·exact hne h'
    ·rw[h1]at h';injection h' with h';exact hx ⟨h,h'⟩
   refine .inr ⟨lab,by rw[e];exact h1,fun y=>?_,by rw[e];exact h3.trans (List.sublist_append_left _ _)⟩;rw[e,h2 y,zM];constructor
   ·rintro⟨h,h'⟩;exact⟨.inl h,h'⟩
   ·rintro⟨h|h,h'⟩
    ·exact⟨h,h'⟩
    ·rw[show y=x by simpa using h]at h';exact absurd h' hx
def i4(a:dF)(i:Nat):aj:=⟨⟨1000000,50,(i:Int)⟩,3,[],0,[],a.scan,cJ.zero⟩
def aL(A:List dF)(kk k:Nat):List aj:=(List.range k).filterMap fun i=>if i=kk then none else (A[i]?).map fun a=>i4 a i
theorem x7(A:List dF)(kk:Nat):aL A kk 0=[]:=rfl
theorem eX{A:List dF}{k:Nat}{a:dF}(h:A[k]?=some a):aL A kk (k+1)=if k=kk then aL A kk k else aL A kk k++[i4 a k]:=by
 unfold aL;rw[xP,List.filterMap_append];by_cases hk:k=kk
 ·simp[hk]
 ·simp[hk,h]
theorem bL{A:List dF}{e:aj}:e∈aL A kk A.length↔∃i a,A[i]?=some a/\i≠kk/\e=i4 a i:=by
 unfold aL;rw[List.mem_filterMap];constructor
 ·rintro⟨i,hi,h⟩;split at h
  ·cases h
  ·next hk =>
   rw[yO]at h;obtain⟨a,ha,rfl⟩:=h;exact⟨i,a,ha,hk,rfl⟩
 ·rintro⟨i,a,ha,hk,rfl⟩;exact⟨i,yX.2 (zY.1 ha).1,by rw[if_neg hk,ha];rfl⟩
theorem tL(A:List dF)(kk:Nat):∀k,k<=A.length->iT rV (aL A kk k)/\∀e∈aL A kk k,e.st.q<(k:Int)/\e.st.t=1000000/\e.st.s=50
 |0,_=>⟨xE,fun e h=>by simp[aL]at h⟩
 |k+1,hk=>by
  obtain⟨h1,h2⟩:=tL A kk k (by omega);rw[eX (zV (by omega:k<A.length))];split
  ·exact⟨h1,fun e he=>by obtain⟨a,b⟩:=h2 e he;exact⟨by omega,b⟩⟩
  ·refine⟨iT.snoc h1 fun z hz=>?_,fun e he=>?_⟩
   ·obtain⟨a,b,c⟩:=h2 z hz;unfold rV gY;exact decide_eq_true (Or.inr ⟨b,Or.inr ⟨c,a⟩⟩)
   ·rcases zM.1 he with he|he
    ·obtain⟨a,b⟩:=h2 e he;exact⟨by omega,b⟩
    ·rw[show e=_ by simpa using he];exact⟨by show (k:Int)<_;omega,rfl,rfl⟩
section
variable {s:dl} {l:List aj}
theorem x8(hS:∀c∈l,JF c.st){A:List dF}(hA:A.length<=9999):ay (l++aL A kk A.length)=ay l++aL A kk A.length:=by
 obtain⟨h1,h2⟩:=tL A kk A.length (zX _);refine Cp h1 (fun e he=>?_) (fun e he c hc hid=>?_) (fun e he e' he' hid=>?_) (fun c hc hv e he=>?_)
 ·obtain⟨i,a,ha,-,rfl⟩:=bL.1 he;have:=(zY.1 ha).1;refine decide_eq_true ?_;simp only[i4];omega
 ·have h3:=(h2 e he).2.2;exact (hS c hc).2.2.1 (by have:=congrArg gT.s hid;simp only[aj.id]at this;omega)
 ·obtain⟨i,a,ha,-,rfl⟩:=bL.1 he;obtain⟨i',a',ha',-,rfl⟩:=bL.1 he';have h3:(i:Int)=i':=congrArg gT.q hid;obtain rfl:i=i':=by omega
  rw[ha]at ha';injection ha' with ha';rw[ha']
 ·obtain⟨i,a,ha,-,rfl⟩:=bL.1 he;exact L4 (q:=(i:Int)) (hS c hc) hv (by decide:(4:Int)<=50)
theorem cI{x:dF}(hx:x∈(cQ s l).sts)(h3:x.state=3):∃(i:Nat) (c:aj),l[i]?=some c/\c.kind=1/\(aM s l c).fit=true/\cR (af s l) i (aM s l c)=3/\x=⟨c.id,3,(aM s l c).lab⟩:=by
 obtain⟨i,y,hy,hk,rfl⟩:=mem_sts.1 hx;obtain⟨h1,h2⟩:=de hy;have h4:cR (af s l) i y=3:=h3;have hf:y.fit=true:=by
  rcases hb:y.fit with _|_
  ·have h5:y.st=3:=by unfold cR at h4;rw[hb]at h4;exact h4
   rw[h2]at hb h5;rcases Ho hk hb with h|h|h<;>omega
  ·rfl
 refine⟨i,y.cap,h1,hk,by rw[<-h2];exact hf,by rw[<-h2];exact h4,?_⟩;rw[<-h2];unfold lN;rw[h4]
theorem sI{c:aj}(hc:l[i]?=some c)(hk:c.kind=1)(h:cR (af s l) i (aM s l c)=3):(⟨c.id,3,(aM s l c).lab⟩:dF)∈(cQ s l).sts :=
 mem_sts.2 ⟨i,_,lL hc,by rw[ff];exact hk,by unfold lN;rw[h,ff]⟩
theorem L0(hS:∀c∈l,JF c.st)(hl:(bI (cQ s (ay l)).sts).length<=9999)(hne:bI (cQ s (ay l)).sts≠[]):∃aI,2<=(bI (cQ s (ay l)).sts).length/\(∀a∈bI (cQ s (ay l)).sts,a.lab=aI) /\
  ∀kk ak,(bI (cQ s (ay l)).sts)[kk]?=some ak ->
   (cQ s (ay (l++aL (bI (cQ s (ay l)).sts) kk (bI (cQ s (ay l)).sts).length))).pgs.length=(cQ s (ay l)).pgs.length+1 /\
   (∀(i:Nat) a,(bI (cQ s (ay l)).sts)[i]?=some a->tU (cQ s (ay (l++aL (bI (cQ s (ay l)).sts) kk (bI (cQ s (ay l)).sts).length))).sts a.scan=some ⟨a.scan,if i=kk then 1 else 6,if i=kk then aI else cJ.zero⟩) /\
   (cQ s (ay (l++aL (bI (cQ s (ay l)).sts) kk (bI (cQ s (ay l)).sts).length))).pgs.filter (fun q=>!decide (q.scan=ak.scan))=(cQ s (ay l)).pgs:=by
 obtain⟨C,hC⟩:=nm (ay l);have hid:FB C:=by rw[hC];exact sN
 have hcan:∀kk,ay (l++aL (bI (cQ s (ay l)).sts) kk (bI (cQ s (ay l)).sts).length)=C++aL (bI (cQ s (ay l)).sts) kk (bI (cQ s (ay l)).sts).length:=fun kk=>by rw[hC];exact x8 hS hl
 have hid2:∀kk,FB (C++aL (bI (cQ s (ay l)).sts) kk (bI (cQ s (ay l)).sts).length):=fun kk=>by rw[<-hcan kk];exact sN
 simp only[hcan];rw[<-hC]at hne hid2⊢;clear hcan hC hl;obtain⟨A,hA⟩:=nm (bI (cQ s C).sts);rw[<-hA]at hne hid2⊢;rcases C1 (cQ s C).sts with ⟨h1,-⟩|⟨aI,-,hm,hsub⟩
 ·exact absurd (hA.trans h1) hne
 rw[<-hA]at hm hsub;have hasc:iT bU A:=(GT hid).sub hsub;have hone:∀(i k:Nat) a b,A[i]?=some a->A[k]?=some b->a.scan=b.scan->i=k:=fun i k a b ha hb he=>by
  rcases xO i k with h|h|h
  ·have:=hasc.at_ ha hb h;simp[bU,he,et]at this
  ·exact h
  ·have:=hasc.at_ hb ha h;simp[bU,he,et]at this
 have hcap:∀c∈C,∀d∈C,c.id=d.id->c=d:=fun c hc d hd he=>KK hid hc hd he;refine⟨aI,?_,fun a ha=>((hm a).1 ha).2.2,fun kk ak hak=>?_⟩
 ·obtain⟨a,ha⟩:=List.exists_mem_of_ne_nil _ hne;obtain⟨h1,h2,h3⟩:=(hm a).1 ha;obtain⟨i,c,hc,hk,hf,hst,rfl⟩:=cI h1 h2;obtain⟨y,hy,hs1,hs2⟩:=i6 hf hst;obtain⟨k,hyk⟩:=zH hy;obtain⟨h4,h5⟩:=de hyk;have hyf:y.fit=true/\y.lab=(aM s C c).lab:=by simpa[dB] using hs1
  have hky:=(lK (by rw[<-h5];exact hyf.1:(aM s C y.cap).fit=true)).1;have hs3:=k9 (k:=k) (lL hc) hf hyf.1 hyf.2 hst;rw[h5]at hs3;have hb:=sI h4 hky hs3;have hb2:(⟨y.cap.id,3,(aM s C y.cap).lab⟩:dF)∈A:=(hm _).2 ⟨hb,rfl,by rw[<-h5,hyf.2];exact h3⟩;have hne2:(⟨c.id,3,(aM s C c).lab⟩:dF)≠⟨y.cap.id,3,(aM s C y.cap).lab⟩:=fun e=>by have h6:=hcap c (zW hc) y.cap (zW h4) (by injection e);rw[h5,<-h6]at hs2;simp[en]at hs2
  match A,ha,hb2 with
  |[x],ha,hb2=>exact absurd ((uJ.1 ha).trans (uJ.1 hb2).symm) hne2
  |x::y::t,_,_=>simp
 ·obtain⟨h1,h2,h3⟩:=(hm ak).1 (zW hak);obtain⟨i0,c0,hc0,hk0,hf0,hst0,rfl⟩:=cI h1 h2;have hlab:(aM s C c0).lab=aI:=h3;have hR:bf s C (aL A kk A.length) aI c0:=by
   refine⟨hid,fun e he=>?_,fun c hc hk=>⟨?_,?_⟩,zW hc0,hf0,hlab⟩
   ·obtain⟨i,a,-,-,rfl⟩:=bL.1 he;rfl
   ·rintro⟨e,he,ht⟩;obtain⟨i,a,ha,hik,rfl⟩:=bL.1 he;obtain⟨g1,g2,g3⟩:=(hm a).1 (zW ha);obtain⟨i1,c1,hc1,hk1,hf1,hst1,rfl⟩:=cI g1 g2;have h6:c1=c:=hcap c1 (zW hc1) c hc ht;subst h6;refine⟨hf1,g3,fun e=>?_⟩;subst e;exact hik (hone _ _ _ _ ha hak rfl)
   ·rintro⟨g1,g2,g3⟩;obtain⟨i1,hc1⟩:=zH hc;have hst1:=k9 (k:=i1) (lL hc0) hf0 g1 (g2.trans hlab.symm) hst0;have hb2:(⟨c.id,3,(aM s C c).lab⟩:dF)∈A:=(hm _).2 ⟨sI hc1 hk hst1,rfl,g2⟩;obtain⟨i,hi⟩:=zH hb2;refine⟨i4 ⟨c.id,3,(aM s C c).lab⟩ i,bL.2 ⟨i,_,hi,fun e=>?_,rfl⟩,rfl⟩;subst e;rw[hi]at hak;injection hak with hak;exact g3 (hcap c hc c0 (zW hc0) (by injection hak))
  have hcf:∀(i:Nat) x,(af s C)[i]?=some x->x.fit=true->x.lab=aI->cR (af s C) i x=3:=fun i x hx hf hlb=>k9 (lL hc0) hf0 hf (hlb.trans hlab.symm) hst0;have hno:∀q∈(cQ s C).pgs,q.scan≠c0.id:=fun q hq he=>by have:=(LS hid hc0 hq he).2;rw[hst0]at this;cases this
  have hnew:Gs (aM s C c0)∈(cQ s (C++aL A kk A.length)).pgs:=(hR.pages hcf).2 (.inr rfl);have hns:(Gs (aM s C c0)).scan=c0.id:=by simp[Gs,ff]
  have hfl:(cQ s (C++aL A kk A.length)).pgs.filter (fun q=>!decide (q.scan=c0.id))=(cQ s C).pgs:=by
   refine IB Kn (jv.sub List.filter_sublist) jv fun q=>?_;rw[xR,hR.pages hcf];constructor
   ·rintro⟨h|rfl,h'⟩
    ·exact h
    ·rw[hns]at h';simp at h'
   ·intro h;exact⟨.inl h,by simpa using hno q h⟩
  refine⟨?_,fun i a ha=>?_,hfl⟩
  ·have h7:=DI _ _ (iT.nodup Kn (jv (s:=s) (l:=C++aL A kk A.length))) hnew;rw[<-h7,<-hfl];congr 1
   refine congrArg List.length (List.filter_congr fun q hq=>?_);rcases (hR.pages hcf).1 hq with h|rfl
   ·have h8:=hno q h;have h9:q≠Gs (aM s C c0):=fun e=>h8 (by rw[e];exact hns);simp[h8,h9]
   ·simp[hns]
  ·by_cases hik:i=kk
   ·subst hik;rw[ha]at hak;injection hak with hak;subst hak
    rw[if_pos rfl,if_pos rfl];exact sG (x:=⟨c0.id,1,aI⟩) (hid2 i) hR.st_keep
   ·rw[if_neg hik,if_neg hik];obtain⟨g1,g2,g3⟩:=(hm a).1 (zW ha);obtain⟨i1,c1,hc1,hk1,hf1,hst1,rfl⟩:=cI g1 g2;have hJ:L9 (aL A kk A.length) c1.id:=⟨i4 ⟨c1.id,3,(aM s C c1).lab⟩ i,bL.2 ⟨i,_,ha,hik,rfl⟩,rfl⟩
    exact sG (x:=⟨c1.id,6,cJ.zero⟩) (hid2 kk) (hR.st_rej (zW hc1) hk1 hJ)
end
theorem nL(A:List dF)(kk k:Nat):(aL A kk k).length<=k:=by unfold aL;exact yR (uV _ _) (by simp)
theorem C4{α:Type}{Q:α->Bool}{L:List α}{y:α}(h:L[i]?=some y)(hq:Q y=true):(L.filter Q)[((L.take i).filter Q).length]?=some y:=by
 obtain⟨hi,he⟩:=zY.1 h;have h1:L=L.take i++y::L.drop (i+1):=by rw[<-he,List.getElem_cons_drop,List.take_append_drop]
 have h2:L.filter Q=(L.take i).filter Q++y::(L.drop (i+1)).filter Q:=by
  conv=>lhs;rw[h1]
  rw[xM,uC hq]
 rw[h2,yL (zX _),vH];rfl
theorem mm{α:Type}{Q:α->Bool}{L:List α}{y:α}(h:L[i]?=some y):(L.take (i+1)).filter Q=(L.take i).filter Q++if Q y=true then [y] else []:=by rw[List.take_add_one,h,xM];cases hq:Q y<;>simp[hq]
theorem L5{a:List dF}{x:dF}(h:x.state≠3):t7 a x=a:=if_neg fun h'=>h h'.1
theorem uS{x:dF}(h:x.state=3):t7 [] x=[x]:=if_pos ⟨h,.inl rfl⟩
theorem Ac{a:List dF}{x z:dF}(h:x.state=3)(hz:a[0]?=some z)(hl:x.lab=z.lab):t7 a x=a++[x]:=if_pos ⟨h,.inr (by rw[List.head?_eq_getElem?,hz,hl];rfl)⟩
theorem zI{a:List dF}{x z:dF}(hz:a[0]?=some z)(hl:x.lab≠z.lab):t7 a x=a:=if_neg fun⟨_,h⟩=>by
 rcases h with rfl|h
 ·simp at hz
 ·rw[List.head?_eq_getElem?,hz]at h;injection h with h;exact hl h
end Go.Proofs.YtkaajgoeahahpaaGreatDoor

