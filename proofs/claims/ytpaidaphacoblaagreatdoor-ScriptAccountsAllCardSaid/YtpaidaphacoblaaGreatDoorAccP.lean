import Derived.Test.YtpaidaphacoblaaGreatDoorK25
set_option linter.all false
set_option maxRecDepth 100000
set_option maxHeartbeats 0
namespace Go.Proofs.YtpaidaphacoblaaGreatDoor
open Go.RowKit
def sL(l:List Pg)(c:Int):Nat:=(l.filter fun q=>decide (q.cand=c)).length
theorem QE{xs:List fv}{c:Int}(hp:xs.Pairwise fun a b=>a.cand≠b.cand)(h:∃x∈xs,x.cand=c):(xs.map fun x=>if c=x.cand then 1 else 0).sum=1:=by
 induction xs with
 |nil=>obtain⟨x,hx,_⟩:=h;simp at hx
 |cons y xs ih =>
  have h1:=xK.1 hp;rw[wK,List.sum_cons];by_cases e:c=y.cand
  ·rw[if_pos e];have:(xs.map fun x=>if c=x.cand then 1 else 0).sum=0:=by
    have:∀ys:List fv,(∀x∈ys,x.cand≠c)->(ys.map fun x=>if c=x.cand then 1 else 0).sum=0:=by
     intro ys;induction ys with
     |nil=>intro _;rfl
     |cons z ys ih2 =>
      intro hz;rw[wK,List.sum_cons,if_neg (fun e=>hz z (by simp) e.symm),ih2 fun x hx=>hz x (by simp[hx])]
    exact this xs fun x hx e2=>h1.1 x hx (by rw[e2,<-e])
   omega
  ·rw[if_neg e,yV];refine ih h1.2 ?_;obtain⟨x,hx,hc⟩:=h;rcases yM.1 hx with rfl|hx
   ·exact absurd hc.symm e
   ·exact⟨x,hx,hc⟩
theorem OI{α:Type}(f g:α->Nat):∀l:List α,(l.map fun x=>f x+g x).sum=(l.map f).sum+(l.map g).sum
 |[]=>rfl
 |a::l=>by simp only[wK,List.sum_cons];rw[OI f g l];omega
theorem OM{xs:List fv}(hp:xs.Pairwise fun a b=>a.cand≠b.cand):∀l:List Pg,(∀q∈l,∃x∈xs,x.cand=q.cand)->(xs.map fun x=>sL l x.cand).sum=l.length
 |[],_=>by
  have:∀ys:List fv,(ys.map fun x=>sL [] x.cand).sum=0:=by
   intro ys;induction ys with
   |nil=>rfl
   |cons y ys ih=>rw[wK,List.sum_cons,ih];rfl
  exact this xs
 |q::l,h=>by
  have e:(fun x:fv=>sL (q::l) x.cand)=fun x=>(if q.cand=x.cand then 1 else 0)+sL l x.cand:=by
   funext x
   unfold sL;by_cases e:q.cand=x.cand
   ·rw[if_pos e,uC (by simp[e]),xQ];omega
   ·rw[if_neg e,uB (by simp[e])];omega
  rw[e,OI,QE hp (h q (by simp)),OM hp l fun q' hq'=>h q' (by simp[hq'])];simp only[xQ];omega
section
variable {s:dl} {i:r6}
theorem dU.cands(h:dU s):s.xp.Pairwise fun a b=>a.cand≠b.cand:=h.asc_.imp fun {a b} hab=>by unfold vr at hab;simp only[decide_eq_true_eq]at hab;omega
theorem KY.sum(h:KY s i):(s.xp.map fun x=>sL i.pgs x.cand).sum=i.pgs.length:=by refine OM (iL.1 h.chk).cands _ fun q hq=>?_;obtain⟨x,_,_,h1,_⟩:=h.pg_in hq;exact⟨x,qR h1⟩
theorem KY.full(h:KY s i){x:fv}(hx:x∈s.xp)(hm:a8 i.pgs x.cand (F9 s x.var)=[]):sL i.pgs x.cand=F9 s x.var:=by
 have hok:=iL.1 h.chk;have hA:iT Mq ((i.pgs.filter fun q=>decide (q.cand=x.cand)).map Pg.page):=by unfold iT;rw[uK];refine (h.ascP.sub List.filter_sublist).imp_of_mem fun {a b} ha hb hab=>?_;have h1:=(xR.1 ha).2;have h2:=(xR.1 hb).2;unfold dW at hab;unfold Mq;simp only[decide_eq_true_eq]at *;omega
 have hR:iT Mq ((List.range (F9 s x.var)).map fun g:Nat=>(g:Int)):=by unfold iT;rw[uK];refine List.pairwise_lt_range.imp fun {a b} hab=>?_;unfold Mq;simp only[decide_eq_true_eq];omega
 have e:=IB Oz hA hR fun z=>by
  constructor
  ·intro hz;obtain⟨q,hq,rfl⟩:=zF.1 hz;obtain⟨h1,h2⟩:=xR.1 hq;simp only[decide_eq_true_eq]at h2;obtain⟨y,p,b,h3,h4,h5,h6,h7,-⟩:=h.pg_in h1;rw[h2,Em hok.asc_ hx]at h3;injection h3 with h3;subst h3;rw[uo h5];exact zF.2 ⟨q.page.toNat,yX.2 (by omega),by omega⟩
  ·intro hz;obtain⟨g,hg,rfl⟩:=zF.1 hz;have:(dG i.pgs x.cand (g:Int)).isSome=true:=by
    cases hp:(dG i.pgs x.cand (g:Int)).isSome with
    |true=>rfl
    |false =>
     unfold a8 at hm;rw[List.filterMap_eq_nil_iff]at hm;have:=hm g hg;rw[hp]at this;cases this
   obtain⟨q,hq⟩:=Option.isSome_iff_exists.1 this;obtain⟨h1,h2,h3⟩:=My hq;exact zF.2 ⟨q,xR.2 ⟨h1,by simp[h2]⟩,h3⟩
 have:=congrArg List.length e;rw[zJ,zJ,wQ]at this;exact this
theorem scs_miss{x:fv}(h:cj s i x=true):a8 i.pgs x.cand (F9 s x.var)=[]:=by
 unfold cj at h;simp only[decide_eq_true_eq]at h;unfold gt at h;split at h
 ·simp at h
 ·split at h
  ·assumption
  ·split at h<;>simp at h
def NM(s:dl)(i:r6)(x:fv):Nat:=if cj s i x then F9 s x.var else sL i.pgs x.cand
theorem KY.add(h:KY s i):(s.xp.map (NM s i)).sum=i.pgs.length:=by
 rw[<-h.sum];congr 1
 refine vK fun x hx=>?_;unfold NM;split
 ·rename_i hd
  exact (h.full hx (scs_miss hd)).symm
 ·rfl
end
end Go.Proofs.YtpaidaphacoblaaGreatDoor

