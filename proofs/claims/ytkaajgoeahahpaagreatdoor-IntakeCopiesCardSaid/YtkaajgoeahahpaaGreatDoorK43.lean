import Derived.Test.YtkaajgoeahahpaaGreatDoorInkG
set_option linter.all false
set_option maxRecDepth 100000
set_option maxHeartbeats 0
namespace Go.Proofs.YtkaajgoeahahpaaGreatDoor
open Go.Value renaming int→B
open Go.IntKind renaming i64→C
open Go.RowKit
variable {p:Nat} {w:World} {v:Value}
theorem bj.re{α:Type}{q size:Nat}{R R':World->List Value->α->Prop}{xs:List α}(h:bj p size R w v xs)(hq:w.heap.size<=q)(hsz:0<size)(hR:∀cs x,R w cs x->R' w cs x):bj q size R' w v xs:=by obtain⟨A,c,hv,h1,h2,h4⟩:=h;refine⟨A,c,hv,h1,h2,fun k x hx=>?_⟩;obtain⟨b,off,cs,ha,hb,hcl,hcell,hr⟩:=h4 k x hx;have:=bK (hcell 0 cs[0] (zV (by omega)));simp at this;exact⟨b,off,cs,ha,by omega,hcl,hcell,hR _ _ hr⟩
section
variable {p q:Nat} {w:World} {v:Value}
theorem oc.re{l:List (List Int)}(h:oc p w v l)(hq:w.heap.size<=q):oc q w v l:=bj.re h hq (by decide) fun cs x=>by rintro⟨u,rfl,hi⟩;exact⟨u,rfl,hi.re hq⟩
theorem oa.re{l:List av}(h:oa p w v l)(hq:w.heap.size<=q):oa q w v l:=bj.re h hq (by decide) fun cs x hr=>hr
theorem aR.re{s:dl}(h:aR p w v s)(hq:w.heap.size<=q):aR q w v s:=by
 obtain⟨vP,vB,vX,h0,h1,h2,h3,h4⟩:=h;refine⟨vP,vB,vX,h0,bj.re h1 hq (by decide) fun cs x=>?_,bj.re h2 hq (by decide) fun cs x=>?_,bj.re h3 hq (by decide) fun cs x hr=>hr,h4⟩
 ·rintro⟨u,rfl,a,b,c⟩;exact⟨u,rfl,oa.re a hq,b,c⟩
 ·rintro⟨u,rfl,a⟩;exact⟨u,rfl,oc.re a hq⟩
theorem aK.re{t:r6}(h:aK p w v t)(hq:w.heap.size<=q):aK q w v t:=by obtain⟨vS,vG,h0,h1,h2⟩:=h;refine⟨vS,vG,h0,bj.re h1 hq (by decide) fun cs x hr=>hr,bj.re h2 hq (by decide) fun cs x=>?_⟩;rintro⟨u,rfl,a,b⟩;exact⟨u,rfl,a.re hq,b⟩
end
section
variable {w wx:World} {L:BL}
theorem aA.swap{a b:Nat×Array Value×TypeId}(h:aA w wx (L++[a,b])):aA w wx (L++[b,a]):=by
 have key:∀k x,(L++[b,a])[k]?=some x->∃j,(L++[a,b])[j]?=some x/\(k<L.length->j=k)/\(k=L.length->j=L.length+1)/\(k=L.length+1->j=L.length)/\k<L.length+2:=by
  intro k x hx;have hk:=(zY.1 hx).1;simp at hk;rcases zU k L.length with h1|h1
  ·rw[yY h1]at hx;exact⟨k,by rw[yY h1];exact hx,fun _=>rfl,by omega,by omega,by omega⟩
  ·rw[yL h1]at hx;rcases Nat.eq_or_lt_of_le h1 with h2|h2
   ·subst h2;refine⟨L.length+1,?_,by omega,by omega,by omega,by omega⟩;rw[yL (by omega)];simpa using hx
   ·obtain rfl:k=L.length+1:=by omega
    refine⟨L.length,?_,by omega,by omega,by omega,by omega⟩;rw[yL (by omega)];simpa using hx
 refine⟨h.xt,⟨fun k b' cs t hk=>?_,fun i j x y hi hj hij=>?_⟩⟩
 ·obtain⟨j,hj,-⟩:=key k _ hk;exact h.bl.bk j b' cs t hj
 ·obtain⟨i',hi',a1,a2,a3,a4⟩:=key i _ hi;obtain⟨j',hj',b1,b2,b3,b4⟩:=key j _ hj;refine h.bl.df i' j' x y hi' hj' ?_;rcases xO i L.length with c|c|c<;>rcases xO j L.length with d|d|d
  ·have:=a1 c;have:=b1 d;omega
  ·have:=a1 c;have:=b2 d;omega
  ·have:=a1 c;have:=b3 (by omega);omega
  ·have:=a2 c;have:=b1 d;omega
  ·omega
  ·have:=a2 c;have:=b3 (by omega);omega
  ·have:=a3 (by omega);have:=b1 d;omega
  ·have:=a3 (by omega);have:=b2 d;omega
  ·omega
theorem aA.add{g:Nat}{cur:Array Value}{t:TypeId}(h:aA w wx L)(hb:Bk wx g cur t)(hg:w.heap.size<=g)(hn:∀(k:Nat) x,L[k]?=some x->x.1≠g):aA w wx (L++[(g,cur,t)]):=by
 refine⟨h.xt,⟨fun k b' cs t' hk=>?_,fun i j x y hi hj hij=>?_⟩⟩
 ·rcases zU k L.length with h1|h1
  ·rw[yY h1]at hk;exact h.bl.bk k b' cs t' hk
  ·have h2:=(zY.1 hk).1;simp at h2;obtain rfl:k=L.length:=by omega
   simp at hk;obtain⟨rfl,rfl,rfl⟩:=hk;exact⟨hg,hb⟩
 ·have e1:=(zY.1 hi).1;have e2:=(zY.1 hj).1;simp at e1 e2;rcases zU i L.length with h1|h1
  ·rw[yY h1]at hi;rcases zU j L.length with h2|h2
   ·rw[yY h2]at hj;exact h.bl.df i j x y hi hj hij
   ·obtain rfl:j=L.length:=by omega
    simp at hj;subst hj;exact hn i x hi
  ·obtain rfl:i=L.length:=by omega
   simp at hi;subst hi;rcases zU j L.length with h2|h2
   ·rw[yY h2]at hj;exact fun e=>hn j y hj e.symm
   ·omega
end
structure Lz (cur:Array Value) (n cap:Nat) (l:List Int):Prop where
 size:cur.size=cap
 le:n<=cap
 mx:cap<=maxLen
 len:l.length=n
 eq:cur.toList.take n=l.map (Value.int .i64)
section
variable {w:World} {b g n cap:Nat} {cur:Array Value} {l:List Int}
theorem Lz.put(h:Lz cur n cap l){i:Nat}(hi:i<n)(v:Int):Lz (cur.setIfInBounds i (B C v)) n cap (l.set i v):=by refine⟨by simp[h.size],h.le,h.mx,by simp[h.len],?_⟩;rw[tY,List.take_set,h.eq,wX]
end
section
variable {P:Program} {ops:Array Oper} {Q:Exit->Act->World->Prop} {md:Region.Mode} {S:World->Prop} {k:Nat}
theorem gZ(i j l:Nat){o o' o2:Oper}{fuel:Nat}{listed:Array Bool}{a:Act}{w:World}(hr:Region.ready md ops listed=[i,j,l])(ho:ops[i]?=some o)(ho':ops[j]?=some o')(ho2:ops[l]?=some o2)(h:∀K':Act->World->Prop,Shut (∀a w,(i≠k->S w)->cM P md ops Q S k fuel (listed.setIfInBounds i true) a w->K' a w)->if Region.wanted o (yielded ops a.tmps)=true then Oper.wp P o a w K' Q else K' (a.put o.dst undef) w)(h':∀K':Act->World->Prop,Shut (∀a w,(j≠k->S w)->cM P md ops Q S k fuel (listed.setIfInBounds j true) a w->K' a w)->if Region.wanted o' (yielded ops a.tmps)=true then Oper.wp P o' a w K' Q else K' (a.put o'.dst undef) w)(h2:∀K':Act->World->Prop,Shut (∀a w,(l≠k->S w)->cM P md ops Q S k fuel (listed.setIfInBounds l true) a w->K' a w)->if Region.wanted o2 (yielded ops a.tmps)=true then Oper.wp P o2 a w K' Q else K' (a.put o2.dst undef) w) :
  cM P md ops Q S k (fuel+1) listed a w:=by
 refine⟨fun h0=>(by rw[hr]at h0;cases h0),fun m hm=>?_⟩;rw[hr]at hm;rcases yM.1 hm with rfl|hm
 ·exact wpOp_step ho (fun K' hK=>h K' (fun a w hS hW=>hK a w ⟨hS,hW⟩))
 ·rcases yM.1 hm with rfl|hm
  ·exact wpOp_step ho' (fun K' hK=>h' K' (fun a w hS hW=>hK a w ⟨hS,hW⟩))
  ·obtain rfl:m=l:=by simpa using hm
   exact wpOp_step ho2 (fun K' hK=>h2 K' (fun a w hS hW=>hK a w ⟨hS,hW⟩))
end
theorem eA:aC kg=0:=iL.2 K9
theorem eO(l:List aj):rM kg l=cQ kg (ay l):=by unfold rM;rw[if_pos eA]
def Kz(str:List UInt8):List Value:=[B C 1,B C 1,B C 0,B C 1,.string (ba str),B C 5,.slice none 0 0,B C 0,B C 0,B C 0,B C 0,B C 0,B C 0]
def Ki(str:List UInt8)(ct:Int):List Value:=[B C 2,B C 1,B C 1,B C 1,.string (ba str),B C ct,.slice none 0 0,B C 0,B C 0,B C 0,B C 0,B C 0,B C 0]
theorem gv(w:World)(str:List UInt8)(ct:Int)(hp:p<w.heap.size)(hs:str.length<=1000)(hc:aU ct) :
  au p (w.alloc (.cells (Ki str ct++Kz str).toArray 47)) (.slice (some ⟨w.heap.size,0,none⟩) 2 2) [iD str ct,ip str]:=by
 have h0:aU 0:=⟨by decide,by decide⟩
 have h1:aU 1:=⟨by decide,by decide⟩
 have h2:aU 2:=⟨by decide,by decide⟩
 have h5:aU 5:=⟨by decide,by decide⟩
 refine bj.of_own (e:=47) (base:=w.heap.size) [Ki str ct,Kz str] (fun cs hcs=>?_) (by decide) rfl (li (xs:=Ki str ct++Kz str) (Bk.new _ _ _) rfl (zX _) (by omega)) hp fun k cs x hc' hx=>?_
 ·simp only[yM,wL,or_false]at hcs;rcases hcs with rfl|rfl<;>rfl
 ·rcases (show k=0\/k=1 by have:=(zY.1 hx).1;simp at this;omega) with rfl|rfl<;>(simp at hc' hx;subst hc';subst hx)
  ·exact⟨.slice none 0 0,rfl,ak.nil _ _,⟨h2,h1,h1⟩,h1,hs,hc,⟨h0,h0⟩,⟨h0,h0,h0,h0⟩,by simp[iD]⟩
  ·exact⟨.slice none 0 0,rfl,ak.nil _ _,⟨h1,h1,h0⟩,h1,hs,h5,⟨h0,h0⟩,⟨h0,h0,h0,h0⟩,by simp[ip]⟩
theorem au.re{p q:Nat}{w:World}{v:Value}{l:List aj}(h:au p w v l)(hq:w.heap.size<=q):au q w v l :=
 bj.re h hq (by decide) fun cs x=>by rintro⟨u,rfl,a,b⟩;exact⟨u,rfl,ak.re a hq,b⟩
def ta(w0 wx:World)(s6 s7:Value)(t:r6):Prop:=∃gI vS vG,s6=.pointer (some ⟨gI,0,none⟩)/\s7=B C 0/\aA w0 wx [(gI,#[vS,vG],59)]/\aK gI wx (.agg #[vS,vG]) t
theorem ta.mk'{w0:World}{g:Nat}{u0 u1 vS vG:Value}{t:r6}(hA:aA w0 w [(g,#[u0,u1],59)])(hI:aK g w (.agg #[vS,vG]) t):ta w0 (be w g 0 [vS,vG]) (.pointer (some ⟨g,0,none⟩)) (B C 0) t :=
 ⟨g,vS,vG,rfl,rfl,hA.setAll 0 rfl [vS,vG] rfl,hI.xt (((XT.refl g w).setCell rfl _).setCell rfl _)⟩
theorem Hy{x0 x1:dF}(h:rA p w v [x0,x1]):∃b off c,v=.slice (some ⟨b,off,none⟩) 2 c/\w.cell? ⟨b,off+2,none⟩=some (B C x0.state)/\w.cell? ⟨b,off+7+2,none⟩=some (B C x1.state):=by
 obtain⟨A,n,c,rfl,-⟩:=h.open_;obtain rfl:n=2:=h.len.symm;obtain⟨b,off,cs,x,rfl,-,hc,⟨hcs,-⟩,hx⟩:=h.at_ (k:=0) (by omega);obtain rfl:x0=x:=by have:=hx.out;simpa using this
 subst hcs;obtain⟨cs,x,-,hc1,⟨hcs,-⟩,hx⟩:=h.cell_ (k:=1) (by omega);obtain rfl:x1=x:=by have:=hx.out;simpa using this
 subst hcs;have h0:=hc 2 _ rfl;have h1:=hc1 2 _ rfl;simp only[vQ,Nat.one_mul,yQ]at h0 h1;exact⟨b,off,c,rfl,h0,h1⟩
theorem Es{y:Pg}(h:Ce p w v [y]):∃b off c,v=.slice (some ⟨b,off,none⟩) 1 c/\w.cell? ⟨b,off+2,none⟩=some (B C y.cont):=by
 obtain⟨A,n,c,rfl,-⟩:=h.open_;obtain rfl:n=1:=h.len.symm;obtain⟨b,off,cs,x,rfl,-,hc,⟨u,hcs,-,-⟩,hx⟩:=h.at_ (k:=0) (by omega);obtain rfl:y=x:=by have:=hx.out;simpa using this
 subst hcs;have h0:=hc 2 _ rfl;simp only[vQ,yQ]at h0;exact⟨b,off,c,rfl,h0⟩
theorem Jk(h:Ce p w v []):∃A c,v=.slice A 0 c:=by obtain⟨A,n,c,rfl,-⟩:=h.open_;obtain rfl:n=0:=h.len.symm;exact⟨A,c,rfl⟩
end Go.Proofs.YtkaajgoeahahpaaGreatDoor

