import Derived.Test.YtkaajgoeahahpaaGreatDoorK50
set_option linter.all false
set_option maxRecDepth 100000
set_option maxHeartbeats 0
namespace Go.Proofs.YtkaajgoeahahpaaGreatDoor
open Go.RowKit
section
variable {s:dl} {L:List aj} {j:Nat} {c:aj} {str:List UInt8}
theorem ki.idsL(h:ki s L):FB L:=by refine (h.nodup).imp_of_mem fun {a b} ha hb hne he=>hne (h.ids a ha b hb he)
theorem ki.cleanL(h:ki s L):iJ s L:=⟨h.idsL,h.one,h.inj⟩
def gX(L:List aj)(j:Nat)(c:aj)(str:List UInt8):List aj:=L.set j { c with str:=str }
theorem ie(h:ki s L)(hj:L[j]?=some c){x:aj}:x∈gX L j c str↔x={ c with str:=str }\/(x∈L/\x≠c):=by
 have hl:=(zY.1 hj).1;constructor
 ·intro hx;obtain⟨i,hi⟩:=zH hx;unfold gX at hi;rw[yD]at hi;split at hi
  ·injection hi with hi;exact .inl hi.symm
  ·next hne =>
   refine .inr ⟨zW hi,fun e=>?_⟩;subst e;exact hne ((List.getElem?_inj hl h.nodup).1 (hj.trans hi.symm))
 ·rintro (rfl|⟨hx,hne⟩)
  ·exact zW (i:=j) (by unfold gX;rw[yD,if_pos rfl,if_pos hl])
  ·obtain⟨i,hi⟩:=zH hx;refine zW (i:=i) ?_;unfold gX;rw[yD,if_neg (fun e=>?_),hi];subst e;rw[hj]at hi;injection hi with hi;exact hne hi.symm
theorem th(h:ki s L)(hj:L[j]?=some c):∀x∈gX L j c str,dT x.st=true:=fun x hx=>by
 rcases (ie h hj).1 hx with rfl|⟨hx,-⟩
 ·exact h.valid c (zW hj)
 ·exact h.valid x hx
theorem DY(h:ki s L)(hj:L[j]?=some c):∀x∈gX L j c str,∀y∈gX L j c str,x.id=y.id->x=y:=fun x hx y hy he=>by
 have hc:=zW hj;rcases (ie h hj).1 hx with rfl|⟨hx,hne⟩<;>rcases (ie h hj).1 hy with rfl|⟨hy,hne'⟩
 ·rfl
 ·exact absurd (h.ids y hy c hc he.symm) hne'
 ·exact absurd (h.ids x hx c hc he) hne
 ·exact h.ids x hx y hy he
theorem ED(h:ki s L)(hj:L[j]?=some c):(gX L j c str).Nodup:=by
 have hl:=(zY.1 hj).1;have e:(gX L j c str).map aj.id=L.map aj.id:=by
  unfold gX;rw[wX];refine xW fun i=>?_;rw[yD];split
  ·next h=>subst h;rw[zJ,if_pos hl,zP,hj];rfl
  ·rfl
 have h1:(L.map aj.id).Pairwise (·≠·):=uK.2 h.idsL;rw[<-e]at h1;exact (uK.1 h1).imp fun hne he=>hne (by rw[he])
theorem jt(h:ki s L)(hj:L[j]?=some c){x:aj}:x∈ay (gX L j c str)↔x∈gX L j c str:=kj (th h hj) (DY h hj)
theorem DZ(h:ki s L)(hj:L[j]?=some c):(ay (gX L j c str)).length=L.length:=by rw[sz (ED h hj) (fun _=>Iff.rfl) (th h hj) (DY h hj)];simp[gX]
theorem DX(h:ki s L)(hj:L[j]?=some c)(hn:dR str=none):DG s (ay (gX L j c str)) { c with str:=str } (labR c) labR:=by
 have hc:=zW hj;refine⟨sN,(jt h hj).2 ((ie h hj).2 (.inl rfl)),fun x hx=>?_,hn,(h.one c hc).2.2,fun x hx y hy hx2 hy2 he=>?_⟩
 ·rcases (ie h hj).1 ((jt h hj).1 hx) with rfl|⟨hx,hne⟩
  ·exact⟨(h.one c hc).1,fun e=>absurd rfl e⟩
  ·exact⟨(h.one x hx).1,fun _=>⟨(h.one x hx).2.1,(h.one x hx).2.2,fun e=>hne (h.inj x hx c hc e)⟩⟩
 ·rcases (ie h hj).1 ((jt h hj).1 hx) with e|⟨hx,-⟩
  ·exact absurd e hx2
  ·rcases (ie h hj).1 ((jt h hj).1 hy) with e|⟨hy,-⟩
   ·exact absurd e hy2
   ·exact h.inj x hx y hy he
noncomputable def mL(c:aj):aj:=⟨⟨5000,0,0⟩,2,[],0,[],c.id,labR c⟩
theorem rx(h:ki s L)(hj:L[j]?=some c):ay (gX L j c str++[mL c])=ay (gX L j c str)++[mL c]:=by
 have hbd:∀x∈gX L j c str,x.st.s=1/\x.st.t<=24:=fun x hx=>by
  rcases (ie h hj).1 hx with rfl|⟨hx,-⟩
  ·obtain⟨_,_,_,_,hw,_⟩:=h.at_ (zW hj);exact⟨hw.src,hw.time.2⟩
  ·obtain⟨_,_,_,_,hw,_⟩:=h.at_ hx;exact⟨hw.src,hw.time.2⟩
 refine Cp (wR _ _) (fun e he=>?_) (fun e he x hx hid=>?_) (fun e he e' he' _=>?_) (fun x hx _ e he=>?_)
 ·obtain rfl:e=mL c:=by simpa using he
  exact (by decide:dT ⟨5000,0,0⟩=true)
 ·obtain rfl:e=mL c:=by simpa using he
  have:=congrArg gT.s hid;have h1:=(hbd x hx).1;simp[mL,aj.id]at this;omega
 ·rw[show e=mL c by simpa using he,show e'=mL c by simpa using he']
 ·obtain rfl:e=mL c:=by simpa using he
  have h1:=(hbd x hx).2;exact decide_eq_true (.inl (show x.st.t<5000 by omega))
theorem Fj(h:ki s L)(hj:L[j]?=some c)(hn:dR str=none):pr s (ay (gX L j c str)) { c with str:=str } (labR c) labR (mL c) :=
 { DX h hj hn with
  ke:=rfl,tgt:=rfl,labE:=rfl
  new:=fun x hx hid=>by
   have hs:x.st.s=1:=by
    rcases (ie h hj).1 ((jt h hj).1 hx) with rfl|⟨hx,-⟩
    ·obtain⟨_,_,_,_,hw,_⟩:=h.at_ (zW hj);exact hw.src
    ·obtain⟨_,_,_,_,hw,_⟩:=h.at_ hx;exact hw.src
   have:=congrArg gT.s hid;simp[mL,aj.id]at this;omega }
theorem sG{C:List aj}{x:dF}(h:FB C)(hm:x∈(cQ s C).sts):tU (cQ s C).sts x.scan=some x:=by
 obtain⟨k,hk⟩:=zH hm;have ha:=GT (s:=s) h;refine G7 hk (by simp) fun i y hi hy=>?_;have hy:y.scan=x.scan:=by simpa using hy
 rcases xO i k with hlt|heq|hlt
 ·have:=ha.at_ hi hk hlt;simp[bU,hy,et]at this
 ·exact heq
 ·have:=ha.at_ hk hi hlt;simp[bU,hy,et]at this
theorem Jl(h:ki s L)(hj:L[j]?=some c)(hn:str.length≠74) :
  aQ L c.id=(labR c,0)/\tU (cQ s (ay (gX L j c str))).sts c.id=some ⟨c.id,4,cJ.zero⟩/\(cQ s (ay (gX L j c str))).pgs.length+1=L.length /\
  tU (cQ s (ay (gX L j c str++[mL c]))).sts c.id=some ⟨c.id,1,labR c⟩/\(cQ s (ay (gX L j c str++[mL c]))).pgs.length=L.length:=by
 have hr:=IH hn;have hS:=DX h hj hr;have hT:=Fj h hj hr;refine⟨h.cleanL.label (zW hj),sG hS.ids hS.state,?_,?_,?_⟩
 ·rw[hS.len];exact DZ h hj
 ·rw[rx h hj];exact sG hT.ids' hT.state'
 ·rw[rx h hj,hT.len'];exact DZ h hj
end
end Go.Proofs.YtkaajgoeahahpaaGreatDoor

