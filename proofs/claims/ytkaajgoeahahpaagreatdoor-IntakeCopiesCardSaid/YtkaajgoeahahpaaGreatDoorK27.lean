import Derived.Test.YtkaajgoeahahpaaGreatDoorK16
set_option linter.all false
set_option maxRecDepth 100000
set_option maxHeartbeats 0
namespace Go.Proofs.YtkaajgoeahahpaaGreatDoor
open Go.RowKit
variable {c g p v:Int}
theorem E0(p c g v:Int):(mH p c g v).take 6=bv (gK p c g v):=by unfold mH pQ;rw[List.take_left' (by rw[bt];rfl)]
theorem o8(h:dj p c g v=true)(i:Nat)(x:Int)(hx:(gK p c g v)[i]?=some x):dz (bv (gK p c g v)) i=x:=by have h1:(wI (bv (gK p c g v))).getD i 0=dz (bv (gK p c g v)) i:=Cn _ _;rw[DB h,xU,hx]at h1;exact h1.symm
theorem EU(h:dj p c g v=true):iZ (eH (mH p c g v)) p c g v 0 0:=by
 have hl:=kK p c g v;obtain⟨u1,u2⟩:=CE (CP hl) (ET hl);refine⟨fun e=>absurd u2 e,fun _=>⟨bv (gK p c g v),0,0,?_,fun e=>absurd rfl e,fun _=>?_⟩⟩
 ·rw[u1,EA hl];refine⟨fun e=>?_,fun _=>.inl ⟨mH p c g v,0,Fv (Fu _ _ _ _),?_,rfl,rfl⟩⟩
  ·rw[E7 (by omega) (by omega)]at e;cases e
  ·rw[aT,hl,<-E0]
 ·have hb:=ju.1 h;have h0:=o8 h 0 _ rfl;have h1:=o8 h 1 _ rfl;have h2:=o8 h 2 _ rfl;have h3:=o8 h 3 _ rfl;have h4:=o8 h 4 _ rfl;have h5:=o8 h 5 _ rfl;have hc:fK (bv (gK p c g v))=c:=by unfold fK;rw[h1,h2,h3];omega
  rw[hc,h0,h4,h5];exact⟨fun e=>by omega,fun _=>⟨rfl,rfl,rfl,rfl,rfl,rfl⟩⟩
theorem Bi(h:dj p c g v=true):dR (eH (mH p c g v))=some ⟨p,c,g,v⟩:=mA (EU h)
theorem IH{s:List UInt8}(h:s.length≠74):dR s=none:=by
 have h1:bd s=false:=by unfold bd;rw[decide_eq_false h];rfl
 have h2:iM s=7:=by unfold iM;rw[h1];rfl
 exact mJ (p:=0) (c:=0) (g:=0) (v:=0) (n:=0) (k:=7) ⟨fun _=>⟨rfl,rfl,rfl,rfl,rfl,h2.symm⟩,fun h=>by omega⟩ (by omega)
noncomputable def labR(c:aj):cJ:=(dR c.str).getD cJ.zero
structure iJ (s:dl) (C:List aj):Prop where
 ids:FB C
 one:∀c∈C,c.kind=1/\dR c.str=some (labR c)/\bH s (labR c) c.ch=true
 inj:∀c∈C,∀d∈C,labR c=labR d->c=d
theorem KK{C:List aj}(h:FB C){c d:aj}(hc:c∈C)(hd:d∈C)(he:c.id=d.id):c=d:=by
 obtain⟨i,hi⟩:=zH hc;obtain⟨k,hk⟩:=zH hd;rcases xO i k with e|e|e
 ·exact absurd he (kO h hi hk e)
 ·subst e;rw[hi]at hk;injection hk
 ·exact absurd he.symm (kO h hk hi e)
theorem o6{C:List aj}(h:FB C){c:aj}(hc:c∈C)(hk:c.kind=1):C.find? (dm c.id)=some c:=by obtain⟨i,hi⟩:=zH hc;refine ja hi (by unfold dm;simp[hk]) fun j d hj hd=>?_;have:=kO h hd hi hj;unfold dm;simp[this]
section
variable {s:dl} {C:List aj}
theorem iJ.label(h:iJ s C){c:aj}(hc:c∈C):aQ C c.id=(labR c,0):=by
 have h1:=h.one c hc;unfold aQ;rw[o6 h.ids hc h1.1];have:C.filter (fH c.id)=[]:=by rw[List.filter_eq_nil_iff];intro d hd;have:=(h.one d hd).1;unfold fH;simp[this]
 rw[this];unfold iI;simp[h1.2.1]
theorem iJ.scn(h:iJ s C){c:aj}(hc:c∈C):aM s C c=⟨c,labR c,0,true⟩:=by have h1:=h.one c hc;unfold aM;rw[if_pos h1.1,h.label hc];simp[h1.2.2]
theorem iJ.row(h:iJ s C){i:Nat}{x:dH}(hx:(af s C)[i]?=some x):x.cap∈C/\x=⟨x.cap,labR x.cap,0,true⟩:=by obtain⟨h1,h2⟩:=de hx;have hm:=zW h1;refine⟨hm,?_⟩;rw[h.scn hm]at h2;exact h2
theorem iJ.state(h:iJ s C){i:Nat}{x:dH}(hx:(af s C)[i]?=some x):cR (af s C) i x=1:=by
 obtain⟨hm,he⟩:=h.row hx;have hlab:x.lab=labR x.cap:=by rw[he]
 have hsame:∀(k:Nat) y,(af s C)[k]?=some y->dB x y=true->k=i:=by
  intro k y hy hs;obtain⟨hmy,hey⟩:=h.row hy;have hlaby:y.lab=labR y.cap:=by rw[hey]
  unfold dB at hs;simp only[yT,decide_eq_true_eq]at hs;have hcc:=h.inj _ hmy _ hm (by rw[<-hlaby,<-hlab];exact hs.2);have e1:=(de hy).1;have e2:=(de hx).1;rw[hcc]at e1;rcases xO i k with e|e|e
  ·exact absurd rfl (kO h.ids e2 e1 e)
  ·exact e.symm
  ·exact absurd rfl (kO h.ids e1 e2 e)
 unfold cR;rw[show x.fit=true by rw[he],if_pos rfl];unfold dL;rw[if_neg,if_neg]
 ·simp only[Bool.not_eq_true,wO];intro y hy;obtain⟨k,hk⟩:=zH hy;rw[yB]at hk;split at hk
  ·rename_i hki
   cases hs:dB x y with
   |false=>simp
   |true=>have:=hsame k y hk hs;omega
  ·cases hk
 ·simp only[Bool.not_eq_true,wO,yT,not_and];intro y hy hs;obtain⟨k,hk⟩:=zH hy;obtain rfl:=hsame k y hk hs;rw[hx]at hk;injection hk with hk;subst hk;unfold en;simp
theorem iJ.mem_sts(h:iJ s C){x:dF}:x∈(cQ s C).sts↔∃c∈C,x=⟨c.id,1,labR c⟩:=by
 rw[Go.Proofs.YtkaajgoeahahpaaGreatDoor.mem_sts];constructor
 ·rintro⟨i,y,hy,hk,rfl⟩;obtain⟨hm,he⟩:=h.row hy;refine⟨y.cap,hm,?_⟩;unfold lN;rw[h.state hy];rw[show y.lab=labR y.cap by rw[he]]
 ·rintro⟨c,hc,rfl⟩;obtain⟨i,hi⟩:=zH hc;have hr:=lL (s:=s) hi;refine⟨i,_,hr,by rw[ff];exact (h.one c hc).1,?_⟩;unfold lN;rw[h.state hr,h.scn hc]
theorem iJ.mem_pgs(h:iJ s C){x:Pg}:x∈(cQ s C).pgs↔∃c∈C,x=⟨(labR c).c,(labR c).g,c.cont,c.ch,c.id⟩:=by
 rw[Go.Proofs.YtkaajgoeahahpaaGreatDoor.mem_pgs];constructor
 ·rintro⟨i,y,hy,hk,hu,rfl⟩;obtain⟨hm,he⟩:=h.row hy;refine⟨y.cap,hm,?_⟩;unfold Gs;rw[show y.lab=labR y.cap by rw[he]]
 ·rintro⟨c,hc,rfl⟩;obtain⟨i,hi⟩:=zH hc;have hr:=lL (s:=s) hi;refine⟨i,_,hr,by rw[ff];exact (h.one c hc).1,h.state hr,?_⟩;unfold Gs;rw[h.scn hc]
theorem iJ.len_to(h:iJ s C):∀k,k<=C.length->(aZ (af s C) k).length=k/\(bW (af s C) k).length=k
 |0,_=>⟨rfl,rfl⟩
 |k+1,hk=>by
  obtain⟨h1,h2⟩:=h.len_to k (by omega);have hc:C[k]?=some C[k]:=zV (by omega);have hr:=lL (s:=s) hc;have hs:=h.state hr;have hk1:(aM s C C[k]).cap.kind=1:=by rw[ff];exact (h.one _ (xC _)).1
  have e1:ry (af s C) k=some (lN (af s C) k (aM s C C[k])):=by unfold ry;rw[hr];simp only[uL];rw[if_pos hk1]
  have e2:pg1 (af s C) k=some (Gs (aM s C C[k])):=by unfold pg1;rw[hr];simp only[uL];rw[if_pos ⟨hk1,hs⟩]
  rw[kC,jO,e1,e2,yU,yU,h1,h2];exact⟨rfl,rfl⟩
theorem iJ.len(h:iJ s C):(cQ s C).sts.length=C.length/\(cQ s C).pgs.length=C.length:=by rw[ID,Ec];exact h.len_to _ (zX _)
theorem kj{L:List aj}(hv:∀c∈L,dT c.st=true)(hi:∀c∈L,∀d∈L,c.id=d.id->c=d){c:aj}:c∈ay L↔c∈L:=by rw[gf];refine⟨fun h=>h.1,fun h=>⟨h,eu.2 ⟨hv c h,fun d hd _ he=>hi d hd c h he⟩⟩⟩
theorem Ax{L:List aj}(hv:∀c∈L,dT c.st=true)(hi:∀c∈L,∀d∈L,c.id=d.id->c=d)(h1:∀c∈L,c.kind=1/\dR c.str=some (labR c)/\bH s (labR c) c.ch=true)(h2:∀c∈L,∀d∈L,labR c=labR d->c=d):iJ s (ay L) :=
 ⟨sN,fun c hc=>h1 c ((kj hv hi).1 hc),fun c hc d hd=>h2 c ((kj hv hi).1 hc) d ((kj hv hi).1 hd)⟩
theorem sz{L M:List aj}(hn:L.Nodup)(hm:∀c,c∈M↔c∈L)(hv:∀c∈L,dT c.st=true)(hi:∀c∈L,∀d∈L,c.id=d.id->c=d):(ay M).length=L.length:=by rw[sD hm];exact ((List.perm_ext_iff_of_nodup ((jE L).nodup qk) hn).2 fun c=>kj hv hi).length_eq
end
end Go.Proofs.YtkaajgoeahahpaaGreatDoor

