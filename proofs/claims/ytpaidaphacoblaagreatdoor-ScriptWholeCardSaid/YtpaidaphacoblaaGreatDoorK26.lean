import Derived.Test.YtpaidaphacoblaaGreatDoorK25
import Derived.Shelf.SortG.Plain
import Derived.Shelf.SortG.SortNone
import Derived.Shelf.SlicesG.CompactI
import Derived.Lib.SlicesCompact
set_option linter.all false
set_option maxRecDepth 100000
set_option maxHeartbeats 0
namespace Go.Proofs.YtpaidaphacoblaaGreatDoor
open Go.RowKit
section
variable {s:dl} {L M:List aj}
theorem NV{α:Type}[DecidableEq α]{lt:α->α->Bool}{l:List α}(h:l=[]):CS lt l=[]:=by rw[h];rfl
theorem ki.conf(h:ki s L)(hM:∀c∈M,c∈L)(c:Int):lb (cQ s (ay M)).sts c=[]:=by refine NV ?_;rw[List.map_eq_nil_iff,List.filter_eq_nil_iff];intro x hx;obtain⟨d,_,rfl⟩:=(h.clean hM).mem_sts.1 hx;unfold Nd;simp
theorem ki.page(h:ki s L)(hM:∀c∈M,c∈L){i:Nat}{l:cJ}{c:aj}(hl:(iH s)[i]?=some l)(hi:L[i]?=some c)(hc:c∈M):dG (cQ s (ay M)).pgs l.c l.g=some ⟨l.c,l.g,c.cont,c.ch,c.id⟩:=by have hw:=h.cap.2 i c l hi hl;have hr:=(h.labR hl hw).2;have hm:(⟨l.c,l.g,c.cont,c.ch,c.id⟩:Pg)∈(cQ s (ay M)).pgs:=(h.clean hM).mem_pgs.2 ⟨c,(h.mem hM).2 hc,by rw[hr]⟩;exact O9 jv hm
theorem ki.no_page(h:ki s L)(hM:∀c∈M,c∈L){i:Nat}{l:cJ}{c:aj}(hl:(iH s)[i]?=some l)(hi:L[i]?=some c)(hc:c ∉ M):dG (cQ s (ay M)).pgs l.c l.g=none:=by
 cases hp:dG (cQ s (ay M)).pgs l.c l.g with
 |none=>rfl
 |some q =>
  obtain⟨h1,h2,h3⟩:=My hp;obtain⟨d,hd,rfl⟩:=(h.clean hM).mem_pgs.1 h1;have hd':=(h.mem hM).1 hd;obtain⟨k,m,hk,hm,hv,_⟩:=h.at_ (hM d hd');have hr:=(h.labR hm hv).2;have hw:=h.cap.2 i c l hi hl;have hr':=(h.labR hl hw).2;simp only[hr]at h2 h3;have hlm:l=m:=by have e1:=zW hl;have e2:=zW hm;obtain⟨x,hx,g,hg,rfl⟩:=rK.1 e1;obtain⟨x',hx',g',hg',rfl⟩:=rK.1 e2;have f1:=Em h.ok.asc_ hx;have f2:=Em h.ok.asc_ hx';simp only at h2 h3;rw[h2,f1]at f2;injection f2 with f2;subst f2;exact (cJ.eq_iff _ _).2 ⟨rfl,rfl,h3.symm,rfl⟩
  have:c=d:=h.inj c (zW hi) d (hM d hd') (by rw[hr,hr',hlm]);subst this;exact absurd hd' hc
theorem OA{x:fv}(hx:x∈s.xp){g:Nat}(hg:g<F9 s x.var):(⟨s.num,x.cand,(g:Int),x.var⟩:cJ)∈iH s:=rK.2 ⟨x,hx,g,hg,rfl⟩
theorem ki.page_x(h:ki s L)(hM:∀c,c∈M↔c∈L){x:fv}(hx:x∈s.xp){g:Nat}(hg:g<F9 s x.var):∃ch id,dG (cQ s (ay M)).pgs x.cand (g:Int)=some ⟨x.cand,g,100*x.cand+g,ch,id⟩:=by obtain⟨i,c,hi,hl,hw⟩:=h.of_slot (OA hx hg);have:=h.page (M:=M) (fun c hc=>(hM c).1 hc) hl hi ((hM c).2 (zW hi));rw[hw.cont]at this;exact⟨_,_,this⟩
theorem Nh{l:List Pg}{c:Int}{n:Nat}(h:∀g:Nat,g<n->(dG l c (g:Int)).isSome=true):a8 l c n=[]:=by unfold a8;rw[List.filterMap_eq_nil_iff];intro g hg;rw[h g (yX.1 hg)];rfl
theorem NR{l:List Pg}{c:Int}:∀{n k:Nat},k<n->(∀g:Nat,g<n->(dG l c (g:Int)).isSome=!decide (g=k))->a8 l c n=[(k:Int)]
 |0,k,hk,_=>by omega
 |n+1,k,hk,h=>by
  unfold a8;rw[ik (α:=Nat)];by_cases e:k=n
  ·subst e;have:a8 l c k=[]:=Nh fun g hg=>by rw[h g (by omega),decide_eq_false (by omega)];rfl
   unfold a8 at this;rw[this,h k (by omega)];simp
  ·have:=NR (l:=l) (c:=c) (n:=n) (k:=k) (by omega) fun g hg=>h g (by omega);unfold a8 at this;rw[this,h n (by omega),decide_eq_false (by omega)];simp
theorem NS{i:r6}{x:fv}(h1:lb i.sts x.cand=[])(h2:a8 i.pgs x.cand (F9 s x.var)=[]):gt s i x=⟨x.cand,1,[]⟩:=by unfold gt;rw[if_neg (by rw[h1];simp),if_pos h2]
theorem ki.scs(h:ki s L)(hM:∀c,c∈M↔c∈L){x:fv}(hx:x∈s.xp):gt s (cQ s (ay M)) x=⟨x.cand,1,[]⟩:=by refine NS (h.conf (fun c hc=>(hM c).1 hc) _) (Nh fun g hg=>?_);obtain⟨ch,id,hp⟩:=h.page_x hM hx hg;rw[hp];rfl
theorem ki.acc(h:ki s L)(hM:∀c,c∈M↔c∈L)(d f ld:Int):ut s (cQ s (ay M)) d f ld=s.xp.map (Mk s (cQ s (ay M)) d f ld):=by unfold ut;rw[List.filter_eq_self.2];intro x hx;unfold cj;rw[h.scs hM hx];rfl
theorem ki.cont(h:ki s L)(hM:∀c,c∈M↔c∈L){x:fv}(hx:x∈s.xp):j6 (cQ s (ay M)) x.cand (F9 s x.var)=(List.range (F9 s x.var)).map fun g:Nat=>100*x.cand+(g:Int):=by unfold j6;refine vK fun g hg=>?_;obtain⟨ch,id,hp⟩:=h.page_x hM hx (yX.1 hg);rw[hp];rfl
theorem ki.scs_miss(h:ki s L){k:Nat}{l0:cJ}{c0:aj}(hk:L[k]?=some c0)(hl:(iH s)[k]?=some l0){x:fv}(hx:x∈s.xp) :
  gt s (cQ s (ay (L.take k++L.drop (k+1)))) x=if x.cand=l0.c then ⟨x.cand,2,[l0.g]⟩ else ⟨x.cand,1,[]⟩:=by
 have hM:∀c∈L.take k++L.drop (k+1),c∈L:=fun c hc=>by
  rcases zM.1 hc with hc|hc
  ·exact uI hc
  ·exact List.mem_of_mem_drop hc
 have hmem:∀(i:Nat) c,L[i]?=some c->i≠k->c∈L.take k++L.drop (k+1):=fun i c hi hik=>by
  rw[zM];rcases zU i k with e|e
  ·refine .inl (zW (i:=i) ?_);rw[yB,if_pos e];exact hi
  ·refine .inr (zW (i:=i-(k+1)) ?_);rw[vR,show k+1+(i-(k+1))=i by omega];exact hi
 have hnot:c0 ∉ L.take k++L.drop (k+1):=fun hc=>by
  have hn:=h.nodup;have e:L=L.take k++c0::L.drop (k+1):=by obtain⟨h1,h2⟩:=zY.1 hk;rw[<-h2,List.getElem_cons_drop,List.take_append_drop]
  rw[e]at hn;have:=(List.perm_middle.nodup_iff).1 hn;exact (uQ.1 this).1 hc
 obtain⟨y,hy,g0,hg0,rfl⟩:=rK.1 (zW hl);have hconf:=h.conf hM x.cand;have hp:∀g:Nat,g<F9 s x.var->(dG (cQ s (ay (L.take k++L.drop (k+1)))).pgs x.cand (g:Int)).isSome=!(decide (x.cand=y.cand)&&decide (g=g0)):=by
  intro g hg;obtain⟨i,c,hi,hli,hw⟩:=h.of_slot (OA hx hg);by_cases e:i=k
  ·subst e;rw[hl]at hli;injection hli with hli;have h1:=((cJ.eq_iff _ _).1 hli).2;simp only at h1;rw[hk]at hi;injection hi with hi;subst hi;have:=h.no_page hM hl hk hnot;simp only at this;rw[<-h1.1,show (g:Int)=(g0:Int) from h1.2.1.symm,this];simp;omega
  ·have:=h.page hM hli hi (hmem i c hi e);simp only at this;rw[this];have hne:¬(x.cand=y.cand/\g=g0):=by
    rintro⟨e1,e2⟩;have hp:=GH h.ok;obtain⟨a1,a2⟩:=zY.1 hl;obtain⟨b1,b2⟩:=zY.1 hli;rcases xO i k with e3|e3|e3
    ·have:=xX.1 hp i k b1 a1 e3;rw[a2,b2]at this;exact this ⟨e1,by simp only;omega⟩
    ·exact e e3
    ·have:=xX.1 hp k i a1 b1 e3;rw[a2,b2]at this;exact this ⟨e1.symm,by simp only;omega⟩
   simp;omega
 by_cases e:x.cand=y.cand
 ·rw[if_pos e];have hxy:x=y:=by
   have f1:=Em h.ok.asc_ hx;have f2:=Em h.ok.asc_ hy;rw[e,f2]at f1;injection f1 with f1;exact f1.symm
  subst hxy;have hm:=NR (l:=(cQ s (ay (L.take k++L.drop (k+1)))).pgs) (c:=x.cand) hg0 (fun g hg=>by rw[hp g hg];simp);have hb:=rL h.ok hx;obtain⟨q,b,h1,h2,h3,-⟩:=rT h.ok hb.2.2.1 hb.2.2.2.1;have h4:=(mR h3).1;unfold gt;rw[if_neg (by rw[hconf];simp),if_neg (by rw[hm];simp),if_neg (by rw[hm,uo h2];simp;omega),hm]
 ·rw[if_neg e];refine NS hconf (Nh fun g hg=>?_);rw[hp g hg,decide_eq_false e];rfl
end
end Go.Proofs.YtpaidaphacoblaaGreatDoor

namespace Go.Proofs.YtpaidaphacoblaaGreatDoor
open Go.Shelf Go.Proofs
def NI:Go.Shelf.Ren:=⟨fun|53=>121|64=>72|63=>156|78=>111|79=>112|70=>176|71=>177|72=>178|73=>179|74=>180|75=>181|59=>182|76=>183|77=>184|88=>199|89=>149|90=>150|91=>200|92=>201|68=>73|96=>207|n=>n,fun|22=>22|23=>3|3=>3|51=>147|0=>0|67=>185|69=>187|4=>4|61=>179|60=>178|44=>141|5=>5|9=>9|75=>217|79=>221|83=>244|84=>245|n=>n,fun|n=>n⟩
theorem OH:Go.Proofs.SlLaysN.n53 Tryz.prog NI:={
 mixed:=by kernel_rfl
 f53:=⟨Tryz.f121.name,by decide,Tryz.func121.trans (congrArg some (by kernel_rfl))⟩
 f59:=⟨Tryz.f182.name,by decide,Tryz.func182.trans (congrArg some (by kernel_rfl))⟩
 f63:=⟨Tryz.f156.name,by decide,Tryz.func156.trans (congrArg some (by kernel_rfl))⟩
 f64:=Tryz.func72.trans (congrArg some (by kernel_rfl))
 f68:=⟨Tryz.f73.name,by decide,Tryz.func73.trans (congrArg some (by kernel_rfl))⟩
 f70:=⟨Tryz.f176.name,by decide,Tryz.func176.trans (congrArg some (by kernel_rfl))⟩
 f71:=⟨Tryz.f177.name,by decide,Tryz.func177.trans (congrArg some (by kernel_rfl))⟩
 f72:=⟨Tryz.f178.name,by decide,Tryz.func178.trans (congrArg some (by kernel_rfl))⟩
 f73:=⟨Tryz.f179.name,by decide,Tryz.func179.trans (congrArg some (by kernel_rfl))⟩
 f74:=⟨Tryz.f180.name,by decide,Tryz.func180.trans (congrArg some (by kernel_rfl))⟩
 f75:=⟨Tryz.f181.name,by decide,Tryz.func181.trans (congrArg some (by kernel_rfl))⟩
 f76:=⟨Tryz.f183.name,by decide,Tryz.func183.trans (congrArg some (by kernel_rfl))⟩
 f77:=⟨Tryz.f184.name,by decide,Tryz.func184.trans (congrArg some (by kernel_rfl))⟩
 f78:=Tryz.func111.trans (congrArg some (by kernel_rfl))
 f79:=Tryz.func112.trans (congrArg some (by kernel_rfl))
 f88:=⟨Tryz.f199.name,by decide,Tryz.func199.trans (congrArg some (by kernel_rfl))⟩
 f89:=Tryz.func149.trans (congrArg some (by kernel_rfl))
 f90:=Tryz.func150.trans (congrArg some (by kernel_rfl))
 f91:=⟨Tryz.f200.name,by decide,Tryz.func200.trans (congrArg some (by kernel_rfl))⟩
 f92:=⟨Tryz.f201.name,by decide,Tryz.func201.trans (congrArg some (by kernel_rfl))⟩
 f96:=⟨Tryz.f207.name,by decide,Tryz.func207.trans (congrArg some (by kernel_rfl))⟩
 t0:=Tryz.underlying0
 a0:=Tryz.isAgg0
 z0:=Tryz.sizeOf0
 v0:=Tryz.zeroValue0
 t3:=Tryz.underlying3
 a3:=Tryz.isAgg3
 z3:=Tryz.sizeOf3
 v3:=Tryz.zeroValue3
 t4:=Tryz.underlying4
 a4:=Tryz.isAgg4
 z4:=Tryz.sizeOf4
 v4:=Tryz.zeroValue4
 t5:=Tryz.underlying5
 a5:=Tryz.isAgg5
 z5:=Tryz.sizeOf5
 v5:=Tryz.zeroValue5
 t9:=Tryz.underlying9
 a9:=Tryz.isAgg9
 z9:=Tryz.sizeOf9
 v9:=Tryz.zeroValue9
 t22:=Tryz.underlying22
 a22:=Tryz.isAgg22
 z22:=Tryz.sizeOf22
 v22:=Tryz.zeroValue22
 t23:=Tryz.underlying3
 a23:=Tryz.isAgg3
 z23:=Tryz.sizeOf3
 v23:=Tryz.zeroValue3
 t44:=Tryz.underlying141
 a44:=Tryz.isAgg141
 z44:=Tryz.sizeOf141
 v44:=Tryz.zeroValue141
 t51:=Tryz.underlying147
 a51:=Tryz.isAgg147
 z51:=Tryz.sizeOf147
 v51:=Tryz.zeroValue147
 t60:=Tryz.underlying178
 a60:=Tryz.isAgg178
 z60:=Tryz.sizeOf178
 v60:=Tryz.zeroValue178
 t61:=Tryz.underlying179
 a61:=Tryz.isAgg179
 z61:=Tryz.sizeOf179
 v61:=Tryz.zeroValue179
 t67:=Tryz.underlying185
 a67:=Tryz.isAgg185
 z67:=Tryz.sizeOf185
 v67:=Tryz.zeroValue185
 t69:=Tryz.underlying187
 a69:=Tryz.isAgg187
 z69:=Tryz.sizeOf187
 v69:=Tryz.zeroValue187
 t75:=Tryz.underlying217
 a75:=Tryz.isAgg217
 z75:=Tryz.sizeOf217
 v75:=Tryz.zeroValue217
 t79:=Tryz.underlying221
 a79:=Tryz.isAgg221
 z79:=Tryz.sizeOf221
 v79:=Tryz.zeroValue221
 t83:=Tryz.underlying244
 a83:=Tryz.isAgg244
 z83:=Tryz.sizeOf244
 v83:=Tryz.zeroValue244
 t84:=Tryz.underlying245
 a84:=Tryz.isAgg245
 z84:=Tryz.sizeOf245
 v84:=Tryz.zeroValue245 }
def Nf:Go.Shelf.Ren:=⟨fun|43=>122|n=>n,fun|22=>22|23=>3|3=>3|4=>4|0=>0|n=>n,fun|n=>n⟩
theorem Nm:Go.Proofs.SlLaysN.n43 Tryz.prog Nf:={
 mixed:=by kernel_rfl
 f43:=⟨Tryz.f122.name,by decide,Tryz.func122.trans (congrArg some (by kernel_rfl))⟩
 t0:=Tryz.underlying0
 a0:=Tryz.isAgg0
 z0:=Tryz.sizeOf0
 v0:=Tryz.zeroValue0
 t3:=Tryz.underlying3
 a3:=Tryz.isAgg3
 z3:=Tryz.sizeOf3
 v3:=Tryz.zeroValue3
 t4:=Tryz.underlying4
 a4:=Tryz.isAgg4
 z4:=Tryz.sizeOf4
 v4:=Tryz.zeroValue4
 t22:=Tryz.underlying22
 a22:=Tryz.isAgg22
 z22:=Tryz.sizeOf22
 v22:=Tryz.zeroValue22
 t23:=Tryz.underlying3
 a23:=Tryz.isAgg3
 z23:=Tryz.sizeOf3
 v23:=Tryz.zeroValue3
 i23:=by kernel_rfl }
end Go.Proofs.YtpaidaphacoblaaGreatDoor

namespace Go.Proofs.YtpaidaphacoblaaGreatDoor
open Go.RowKit
theorem MV(d:Array Int)(hs:∀a b,a<=b->b<d.size->d[a]! <= d[b]!):∀m,m<=d.size->iT Mq (Lib.compactUpTo d m)/\(∀z,z∈Lib.compactUpTo d m↔∃j,j<m/\d[j]! = z)
 |0,_=>⟨xE,fun z=>by simp[Lib.compactUpTo]⟩
 |m+1,hm=>by
  obtain⟨h1,h2⟩:=MV d hs m (by omega);rw[Lib.compactUpTo_succ];cases hk:Lib.keeps d m with
  |true =>
   rw[if_pos rfl];have hk':m=0\/d[m]! ≠ d[m-1]! := by unfold Lib.keeps at hk;exact of_decide_eq_true hk
   refine⟨h1.snoc fun z hz=>?_,fun z=>?_⟩
   ·obtain⟨j,hj,rfl⟩:=(h2 z).1 hz;unfold Mq;simp only[decide_eq_true_eq];rcases hk' with e|e
    ·omega
    ·have a:=hs j (m-1) (by omega) (by omega);have b:=hs (m-1) m (by omega) (by omega);omega
   ·rw[zM,h2];constructor
    ·rintro (⟨j,hj,e⟩|e)
     ·exact⟨j,by omega,e⟩
     ·exact⟨m,by omega,(uJ.1 e).symm⟩
    ·rintro⟨j,hj,e⟩;rcases zU j m with h|h
     ·exact .inl ⟨j,h,e⟩
     ·obtain rfl:j=m:=by omega
      exact .inr (by rw[e];exact uJ.2 rfl)
  |false =>
   have hk':¬(m=0\/d[m]! ≠ d[m-1]!):=by unfold Lib.keeps at hk;exact of_decide_eq_false hk
   rw[if_neg (by simp),xN];refine⟨h1,fun z=>?_⟩;rw[h2];constructor
   ·rintro⟨j,hj,e⟩;exact⟨j,by omega,e⟩
   ·rintro⟨j,hj,e⟩;rcases zU j m with h|h
    ·exact⟨j,h,e⟩
    ·obtain rfl:j=m:=by omega
     refine⟨j-1,by omega,?_⟩;rw[<-e];exact (Decidable.not_not.1 fun h=>hk' (.inr h)).symm
theorem Nz(l:List Int):Lib.compact (l.mergeSort fun x y=>decide (x<=y))=CS Mq l:=by
 have hp:(l.mergeSort fun x y=>decide (x<=y)).Perm l:=List.mergeSort_perm l _;have hs:(l.mergeSort fun x y=>decide (x<=y)).Pairwise fun x y=>decide (x<=y)=true:=List.pairwise_mergeSort (fun a b c h1 h2=>by simp only[decide_eq_true_eq]at *;omega) (fun a b=>by simp;omega) l;obtain⟨zs,hz⟩:=nm (l.mergeSort fun x y=>decide (x<=y));rw[<-hz]at hp hs⊢;have hd:∀a b,a<=b->b<zs.toArray.size->zs.toArray[a]! <= zs.toArray[b]! := by
  intro a b hab hb;have hb':b<zs.length:=by simpa using hb
  rcases zU a b with h|h
  ·have:=xX.1 hs a b (by omega) hb' h;simp only[decide_eq_true_eq]at this;rw[getElem!_pos zs.toArray a (by simp;omega),getElem!_pos zs.toArray b hb];simpa using this
  ·obtain rfl:a=b:=by omega
   exact Int.le_refl _
 have h:=MV zs.toArray hd zs.toArray.size (zX _);unfold Lib.compact;have e:zs.length=zs.toArray.size:=by simp
 rw[e];refine (OZ Oz h.1 fun z=>?_).symm;rw[h.2,<-hp.mem_iff];constructor
 ·rintro⟨j,hj,rfl⟩;rw[getElem!_pos zs.toArray j hj];simp
 ·intro hm;obtain⟨j,hj,e⟩:=List.mem_iff_getElem.1 hm;exact⟨j,by simpa using hj,by rw[getElem!_pos zs.toArray j (by simpa using hj)];simpa using e⟩
def tF{α:Type}(xs:List α)(cf:α->Int)(i:Nat)(b:Bool):Prop:=i<=xs.length/\(b=true->∃x,xs[i]?=some x/\cf x=0)/\(b=false->∀x∈xs,cf x≠0)
structure Ae {α:Type} (xs:List α) (cf:α->Int):Prop where
 lo:∀(a b:Nat) x y,a<b->xs[a]?=some x->xs[b]?=some y->cf y<=0->cf x<0
 hi:∀(a b:Nat) x y,a<b->xs[a]?=some x->xs[b]?=some y->0<=cf x->0<cf y
theorem Jh{α:Type}{lt:α->α->Bool}{xs:List α}{cf:α->Int}(h:iT lt xs)(h1:∀x y,lt x y=true->cf y<=0->cf x<0)(h2:∀x y,lt x y=true->0<=cf x->0<cf y):Ae xs cf :=
 ⟨fun _ _ x y hab hx hy=>h1 x y (h.at_ hx hy hab),fun _ _ x y hab hx hy=>h2 x y (h.at_ hx hy hab)⟩
structure C9 {α:Type} (xs:List α) (cf:α->Int) (lo hi:Nat):Prop where
 le:lo<=hi
 len:hi<=xs.length
 low:∀(t:Nat) x,t<lo->xs[t]?=some x->cf x<0
 high:∀(t:Nat) x,hi<=t->xs[t]?=some x->0<=cf x
section
variable {α:Type} {xs:List α} {cf:α->Int} {lo hi h:Nat} {x:α}
theorem C9.start(xs:List α)(cf:α->Int):C9 xs cf 0 xs.length:=⟨by omega,by omega,fun t x ht=>by omega,fun t x ht hx=>by have:=(zY.1 hx).1;omega⟩
theorem C9.up(b:C9 xs cf lo hi)(m:Ae xs cf)(h1:h<hi)(hx:xs[h]?=some x)(hc:cf x<0):C9 xs cf (h+1) hi :=
 ⟨h1,b.len,fun t y ht hy=>by
  rcases zU t h with k|k
  ·exact m.lo t h y x k hy hx (by omega)
  ·obtain rfl:t=h:=by omega
   rw[hx]at hy;injection hy with hy;subst hy;exact hc,b.high⟩
theorem C9.down(b:C9 xs cf lo hi)(m:Ae xs cf)(h1:lo<=h)(h2:h<hi)(hx:xs[h]?=some x)(hc:0<=cf x):C9 xs cf lo h :=
 ⟨h1,by have:=b.len;omega,b.low,fun t y ht hy=>by
  rcases zU h t with k|k
  ·have:=m.hi h t x y k hx hy hc;omega
  ·obtain rfl:t=h:=by omega
   rw[hx]at hy;injection hy with hy;subst hy;exact hc⟩
theorem C9.hit(b:C9 xs cf lo lo)(hx:xs[lo]?=some x)(hc:cf x=0):tF xs cf lo true:=⟨b.len,fun _=>⟨x,hx,hc⟩,fun h=>by cases h⟩
theorem C9.miss(b:C9 xs cf lo lo)(m:Ae xs cf)(hx:∀y,xs[lo]?=some y->cf y≠0):tF xs cf lo false:=by
 refine⟨b.len,(fun h=>by cases h),fun _ y hy=>?_⟩;obtain⟨t,ht⟩:=zH hy;rcases xO t lo with k|k|k
 ·have:=b.low t y k ht;omega
 ·subst k;exact hx y ht
 ·obtain⟨z,hz⟩:∃z,xs[lo]?=some z:=⟨_,zV (by have:=(zY.1 ht).1;omega)⟩
  have h1:=b.high lo z (zX _) hz;have:=m.hi lo t z y k hz ht h1;omega
theorem tF.find{f:α->Bool}{b:Bool}{i:Nat}(h:tF xs cf i b)(m:Ae xs cf)(hf:∀x∈xs,f x=true↔cf x=0):(b=true->∃x,xs[i]?=some x/\xs.find? f=some x)/\(b=false->xs.find? f=none):=by
 refine⟨fun hb=>?_,fun hb=>?_⟩
 ·obtain⟨x,hx,hc⟩:=h.2.1 hb;refine⟨x,hx,ja hx ((hf x (zW hx)).2 hc) fun j y hj hy=>?_⟩;have:=m.lo j i y x hj hy hx (by omega);cases e:f y with
  |false=>rfl
  |true=>have:=(hf y (zW hy)).1 e;omega
 ·refine mP fun j y hy=>?_;have:=h.2.2 hb y (zW hy);cases e:f y with
  |false=>rfl
  |true=>exact absurd ((hf y (zW hy)).1 e) this
end
end Go.Proofs.YtpaidaphacoblaaGreatDoor

