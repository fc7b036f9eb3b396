import Derived.Test.YtkaajgoeahahpaaGreatDoorH18
set_option linter.all false
set_option maxRecDepth 100000
set_option maxHeartbeats 0
namespace Go.Proofs.YtkaajgoeahahpaaGreatDoor
open Go.Value renaming int→B,slice→D
open Go.IntKind renaming i64→C
open Go.RowKit
variable {i k p q:Nat} {w w':World} {v:Value} {num:Int}
theorem bj.re{α:Type}{size:Nat}{R R':World->List Value->α->Prop}{xs:List α}(h:bj p size R w v xs)(hq:w.heap.size<=q)(hsz:0<size)(hR:∀cs x,R w cs x->R' w cs x):bj q size R' w v xs:=by obtain⟨A,c,hv,h1,h2,h4⟩:=h;refine⟨A,c,hv,h1,h2,fun k x hx=>?_⟩;obtain⟨b,off,cs,ha,hb,hcl,hcell,hr⟩:=h4 k x hx;have:=bK (hcell 0 cs[0] (zV (by omega)));simp at this;exact⟨b,off,cs,ha,by omega,hcl,hcell,hR _ _ hr⟩
section
variable {p q:Nat} {w:World} {v:Value}
theorem oc.re{l:List (List Int)}(h:oc p w v l)(hq:w.heap.size<=q):oc q w v l:=bj.re h hq (by decide) fun cs x=>by rintro⟨u,rfl,hi⟩;exact⟨u,rfl,hi.re hq⟩
theorem oa.re{l:List av}(h:oa p w v l)(hq:w.heap.size<=q):oa q w v l:=bj.re h hq (by decide) fun cs x hr=>hr
theorem aR.re{s:dl}(h:aR p w v s)(hq:w.heap.size<=q):aR q w v s:=by
 obtain⟨vP,vB,vX,h0,h1,h2,h3,h4⟩:=h;refine⟨vP,vB,vX,h0,bj.re h1 hq (by decide) fun cs x=>?_,bj.re h2 hq (by decide) fun cs x=>?_,bj.re h3 hq (by decide) fun cs x hr=>hr,h4⟩
 ·rintro⟨u,rfl,a,b,c⟩;exact⟨u,rfl,oa.re a hq,b,c⟩
 ·rintro⟨u,rfl,a⟩;exact⟨u,rfl,oc.re a hq⟩
theorem aK.re{t:r6}(h:aK p w v t)(hq:w.heap.size<=q):aK q w v t:=by obtain⟨vS,vG,h0,h1,h2⟩:=h;refine⟨vS,vG,h0,bj.re h1 hq (by decide) fun cs x hr=>hr,bj.re h2 hq (by decide) fun cs x=>?_⟩;rintro⟨u,rfl,a,b⟩;exact⟨u,rfl,a.re hq,b⟩
end
section
variable {w wx:World} {L:BL}
theorem aA.swap{a b:Nat×Array Value×TypeId}(h:aA w wx (L++[a,b])):aA w wx (L++[b,a]):=by
 have key:∀k x,(L++[b,a])[k]?=some x->∃j,(L++[a,b])[j]?=some x/\(k<L.length->j=k)/\(k=L.length->j=L.length+1)/\(k=L.length+1->j=L.length)/\k<L.length+2:=by
  intro k x hx;have hk:=(zY.1 hx).1;simp at hk;rcases zU k L.length with h1|h1
  ·rw[yY h1]at hx;exact⟨k,by rw[yY h1];exact hx,fun _=>rfl,by omega,by omega,by omega⟩
  ·rw[yL h1]at hx;rcases Nat.eq_or_lt_of_le h1 with h2|h2
   ·subst h2;refine⟨L.length+1,?_,by omega,by omega,by omega,by omega⟩;rw[yL (by omega)];simpa using hx
   ·obtain rfl:k=L.length+1:=by omega
    refine⟨L.length,?_,by omega,by omega,by omega,by omega⟩;rw[yL (by omega)];simpa using hx
 refine⟨h.xt,⟨fun k b' cs t hk=>?_,fun i j x y hi hj hij=>?_⟩⟩
 ·obtain⟨j,hj,-⟩:=key k _ hk;exact h.bl.bk j b' cs t hj
 ·obtain⟨i',hi',a1,a2,a3,a4⟩:=key i _ hi;obtain⟨j',hj',b1,b2,b3,b4⟩:=key j _ hj;refine h.bl.df i' j' x y hi' hj' ?_;rcases xO i L.length with c|c|c<;>rcases xO j L.length with d|d|d
  ·have:=a1 c;have:=b1 d;omega
  ·have:=a1 c;have:=b2 d;omega
  ·have:=a1 c;have:=b3 (by omega);omega
  ·have:=a2 c;have:=b1 d;omega
  ·omega
  ·have:=a2 c;have:=b3 (by omega);omega
  ·have:=a3 (by omega);have:=b1 d;omega
  ·have:=a3 (by omega);have:=b2 d;omega
  ·omega
theorem aA.add{g:Nat}{cur:Array Value}{t:TypeId}(h:aA w wx L)(hb:Bk wx g cur t)(hg:w.heap.size<=g)(hn:∀(k:Nat) x,L[k]?=some x->x.1≠g):aA w wx (L++[(g,cur,t)]):=by
 refine⟨h.xt,⟨fun k b' cs t' hk=>?_,fun i j x y hi hj hij=>?_⟩⟩
 ·rcases zU k L.length with h1|h1
  ·rw[yY h1]at hk;exact h.bl.bk k b' cs t' hk
  ·have h2:=(zY.1 hk).1;simp at h2;obtain rfl:k=L.length:=by omega
   simp at hk;obtain⟨rfl,rfl,rfl⟩:=hk;exact⟨hg,hb⟩
 ·have e1:=(zY.1 hi).1;have e2:=(zY.1 hj).1;simp at e1 e2;rcases zU i L.length with h1|h1
  ·rw[yY h1]at hi;rcases zU j L.length with h2|h2
   ·rw[yY h2]at hj;exact h.bl.df i j x y hi hj hij
   ·obtain rfl:j=L.length:=by omega
    simp at hj;subst hj;exact hn i x hi
  ·obtain rfl:i=L.length:=by omega
   simp at hi;subst hi;rcases zU j L.length with h2|h2
   ·rw[yY h2]at hj;exact fun e=>hn j y hj e.symm
   ·omega
end
structure Lz (cur:Array Value) (n cap:Nat) (l:List Int):Prop where
 size:cur.size=cap
 le:n<=cap
 mx:cap<=maxLen
 len:l.length=n
 eq:cur.toList.take n=l.map (Value.int .i64)
section
variable {w:World} {b g n cap:Nat} {cur:Array Value} {l:List Int}
theorem Lz.put(h:Lz cur n cap l)(hi:i<n)(v:Int):Lz (cur.setIfInBounds i (B C v)) n cap (l.set i v):=by refine⟨by simp[h.size],h.le,h.mx,by simp[h.len],?_⟩;rw[tY,List.take_set,h.eq,wX]
end
section
variable {P:Program} {ops:Array Oper} {Q:Exit->Act->World->Prop} {md:Region.Mode} {S:World->Prop} {k:Nat}
theorem gZ(i j l:Nat){o o' o2:Oper}{fuel:Nat}{listed:Array Bool}{a:Act}{w:World}(hr:Region.ready md ops listed=[i,j,l])(ho:ops[i]?=some o)(ho':ops[j]?=some o')(ho2:ops[l]?=some o2)(h:∀K':Act->World->Prop,Shut (∀a w,(i≠k->S w)->cM P md ops Q S k fuel (listed.setIfInBounds i true) a w->K' a w)->if Region.wanted o (yielded ops a.tmps)=true then Oper.wp P o a w K' Q else K' (a.put o.dst undef) w)(h':∀K':Act->World->Prop,Shut (∀a w,(j≠k->S w)->cM P md ops Q S k fuel (listed.setIfInBounds j true) a w->K' a w)->if Region.wanted o' (yielded ops a.tmps)=true then Oper.wp P o' a w K' Q else K' (a.put o'.dst undef) w)(h2:∀K':Act->World->Prop,Shut (∀a w,(l≠k->S w)->cM P md ops Q S k fuel (listed.setIfInBounds l true) a w->K' a w)->if Region.wanted o2 (yielded ops a.tmps)=true then Oper.wp P o2 a w K' Q else K' (a.put o2.dst undef) w) :
  cM P md ops Q S k (fuel+1) listed a w:=by
 refine⟨fun h0=>(by rw[hr]at h0;cases h0),fun m hm=>?_⟩;rw[hr]at hm;rcases yM.1 hm with rfl|hm
 ·exact wpOp_step ho (fun K' hK=>h K' (fun a w hS hW=>hK a w ⟨hS,hW⟩))
 ·rcases yM.1 hm with rfl|hm
  ·exact wpOp_step ho' (fun K' hK=>h' K' (fun a w hS hW=>hK a w ⟨hS,hW⟩))
  ·obtain rfl:m=l:=by simpa using hm
   exact wpOp_step ho2 (fun K' hK=>h2 K' (fun a w hS hW=>hK a w ⟨hS,hW⟩))
end
theorem eA:aC kg=0:=iL.2 K9
theorem eO(l:List aj):rM kg l=cQ kg (ay l):=by unfold rM;rw[if_pos eA]
def Kz(str:List UInt8):List Value:=[B C 1,B C 1,B C 0,B C 1,.string (ba str),B C 5,D none 0 0,B C 0,B C 0,B C 0,B C 0,B C 0,B C 0]
def Ki(str:List UInt8)(ct:Int):List Value:=[B C 2,B C 1,B C 1,B C 1,.string (ba str),B C ct,D none 0 0,B C 0,B C 0,B C 0,B C 0,B C 0,B C 0]
theorem gv(w:World)(str:List UInt8)(ct:Int)(hp:p<w.heap.size)(hs:str.length<=1000)(hc:aU ct) :
  au p (w.alloc (.cells (Ki str ct++Kz str).toArray 47)) (D (some ⟨w.heap.size,0,none⟩) 2 2) [iD str ct,ip str]:=by
 have h0:aU 0:=⟨by decide,by decide⟩
 have h1:aU 1:=⟨by decide,by decide⟩
 have h2:aU 2:=⟨by decide,by decide⟩
 have h5:aU 5:=⟨by decide,by decide⟩
 refine bj.of_own (e:=47) (base:=w.heap.size) [Ki str ct,Kz str] (fun cs hcs=>?_) (by decide) rfl (li (xs:=Ki str ct++Kz str) (Bk.new _ _ _) rfl (zX _) (by omega)) hp fun k cs x hc' hx=>?_
 ·simp only[yM,wL,or_false]at hcs;rcases hcs with rfl|rfl<;>rfl
 ·rcases (show k=0\/k=1 by have:=(zY.1 hx).1;simp at this;omega) with rfl|rfl<;>(simp at hc' hx;subst hc';subst hx)
  ·exact⟨D none 0 0,rfl,ak.nil _ _,⟨h2,h1,h1⟩,h1,hs,hc,⟨h0,h0⟩,⟨h0,h0,h0,h0⟩,by simp[iD]⟩
  ·exact⟨D none 0 0,rfl,ak.nil _ _,⟨h1,h1,h0⟩,h1,hs,h5,⟨h0,h0⟩,⟨h0,h0,h0,h0⟩,by simp[ip]⟩
theorem au.re{p q:Nat}{w:World}{v:Value}{l:List aj}(h:au p w v l)(hq:w.heap.size<=q):au q w v l :=
 bj.re h hq (by decide) fun cs x=>by rintro⟨u,rfl,a,b⟩;exact⟨u,rfl,ak.re a hq,b⟩
def ta(w0 wx:World)(s6 s7:Value)(t:r6):Prop:=∃gI vS vG,s6=.pointer (some ⟨gI,0,none⟩)/\s7=B C 0/\aA w0 wx [(gI,#[vS,vG],59)]/\aK gI wx (.agg #[vS,vG]) t
theorem ta.mk'{w0:World}{g:Nat}{u0 u1 vS vG:Value}{t:r6}(hA:aA w0 w [(g,#[u0,u1],59)])(hI:aK g w (.agg #[vS,vG]) t):ta w0 (be w g 0 [vS,vG]) (.pointer (some ⟨g,0,none⟩)) (B C 0) t :=
 ⟨g,vS,vG,rfl,rfl,hA.setAll 0 rfl [vS,vG] rfl,hI.xt (((XT.refl g w).setCell rfl _).setCell rfl _)⟩
theorem Hy{x0 x1:dF}(h:rA p w v [x0,x1]):∃b off c,v=D (some ⟨b,off,none⟩) 2 c/\w.cell? ⟨b,off+2,none⟩=some (B C x0.state)/\w.cell? ⟨b,off+7+2,none⟩=some (B C x1.state):=by
 obtain⟨A,n,c,rfl,-⟩:=h.open_;obtain rfl:n=2:=h.len.symm;obtain⟨b,off,cs,x,rfl,-,hc,⟨hcs,-⟩,hx⟩:=h.at_ (k:=0) (by omega);obtain rfl:x0=x:=by have:=hx.out;simpa using this
 subst hcs;obtain⟨cs,x,-,hc1,⟨hcs,-⟩,hx⟩:=h.cell_ (k:=1) (by omega);obtain rfl:x1=x:=by have:=hx.out;simpa using this
 subst hcs;have h0:=hc 2 _ rfl;have h1:=hc1 2 _ rfl;simp only[vQ,Nat.one_mul,yQ]at h0 h1;exact⟨b,off,c,rfl,h0,h1⟩
theorem Es{y:Pg}(h:Ce p w v [y]):∃b off c,v=D (some ⟨b,off,none⟩) 1 c/\w.cell? ⟨b,off+2,none⟩=some (B C y.cont):=by
 obtain⟨A,n,c,rfl,-⟩:=h.open_;obtain rfl:n=1:=h.len.symm;obtain⟨b,off,cs,x,rfl,-,hc,⟨u,hcs,-,-⟩,hx⟩:=h.at_ (k:=0) (by omega);obtain rfl:y=x:=by have:=hx.out;simpa using this
 subst hcs;have h0:=hc 2 _ rfl;simp only[vQ,yQ]at h0;exact⟨b,off,c,rfl,h0⟩
theorem Jk(h:Ce p w v []):∃A c,v=D A 0 c:=by obtain⟨A,n,c,rfl,-⟩:=h.open_;obtain rfl:n=0:=h.len.symm;exact⟨A,c,rfl⟩
open _root_.Go.Proofs.Tryz
theorem cN(w:World)(hT:cK w):Calls prog 20 #[] w fun e w'=>e=.returned (.bool true)/\ab w w':=by
 have HT0:=zZ hT;clear hT;go_enter func20,ntmps20
 go_wp2_with fail;refine (Gv 0 5 1 0 _ HT0.out).mono ?_;rintro e w1 ⟨ts,kk,rfl,rfl,hts,hx1⟩;rw[KI];obtain⟨str,hstr⟩:=nm (bl ts);have hts2:ts=ba str:=by rw[hstr,Bl]
 rw[<-hstr]at hts;subst hts2;have HRD:Bx (dR str=some aY):=⟨by rw[hts];exact Ju⟩
 have HSL:Bx (str.length<=1000):=⟨by rw[hts,ni ql];rw[ph (kK 0 5 1 0)];omega⟩
 have HX1:=zZ hx1;clear hstr hts hx1;go_upto_region 6 with (fail)
 obtain⟨ga,hga⟩:=nm w1.heap.size;obtain⟨w2,hw2⟩:=nm ((((w1.alloc (.cells #[B C 1,B C 1,B C 0,B C 1,.string (ba str),B C 5,D none 0 0,B C 0,B C 0,B C 0,B C 0,B C 0,B C 0] 47)).alloc (.cells #[B C 2,B C 1,B C 1,B C 1,.string (ba str),B C 5,D none 0 0,B C 0,B C 0,B C 0,B C 0,B C 0,B C 0] 47)).alloc (.cells #[B C 2,B C 1,B C 1,B C 1,.string (ba str),B C 6,D none 0 0,B C 0,B C 0,B C 0,B C 0,B C 0,B C 0] 47)):World);have HF2:Bx (aA w1 w2 [(ga,#[B C 1,B C 1,B C 0,B C 1,.string (ba str),B C 5,D none 0 0,B C 0,B C 0,B C 0,B C 0,B C 0,B C 0],47),(ga+1,#[B C 2,B C 1,B C 1,B C 1,.string (ba str),B C 5,D none 0 0,B C 0,B C 0,B C 0,B C 0,B C 0,B C 0],47),(ga+1+1,#[B C 2,B C 1,B C 1,B C 1,.string (ba str),B C 6,D none 0 0,B C 0,B C 0,B C 0,B C 0,B C 0,B C 0],47)]):=⟨by rw[hw2,hga];exact (((aA.start w1).push _ _ rfl).push _ _ (by simp)).push _ _ (by simp)⟩
 have HT:=bx (HT0.out.ext (HX1.out.trans HF2.out.xt));have HGA:Bx (ga<w2.heap.size):=⟨(HF2.out.at_ 0 rfl).lt⟩
 rw[<-hw2,<-hga];clear hw2 hga HT0;obtain⟨a0,a1,a2,a3,a4,a5,a6,a7,a8,a9,a10,a11,a12⟩:=(HF2.out.at_ 0 rfl).p13 rfl;obtain⟨b0,b1,b2,b3,b4,b5,b6,b7,b8,b9,b10,b11,b12⟩:=(HF2.out.at_ 1 rfl).p13 rfl;go_cut [6,7] (fun s6 s7 wx=>Bx (ta w2 wx s6 s7 ⟨[⟨⟨1,0⟩,1,aY⟩,⟨⟨1,1⟩,2,aY⟩],[⟨5,1,5,[],⟨1,0⟩⟩]⟩))
 case first =>
  refine zQ 99 fun wd kS=>?_;refine zS 2 [(1,25),(2,26)] kS ?_;iterate 2 refine zT ?_ (y:=by intro wk hk;obtain⟨_,_,_,_,_,_,_,_⟩:=zkc8 hk a0 a1 a2 a3 a4 a5 a6 a7;obtain⟨_,_,_,_,_,_,_,_⟩:=zkc8 hk a8 a9 a10 a11 a12 b0 b1 b2;obtain⟨_,_,_,_,_,_,_,_⟩:=zkc8 hk b3 b4 b5 b6 b7 b8 b9 b10;obtain⟨_,_⟩:=zkc2 hk b11 b12;go_simp;try with_reducible rfl)
  refine zN (gZ 0 3 8 (by kernel_rfl) rfl rfl rfl (fun K hK=>?_) (fun K hK=>?_) (fun K hK=>?_))
  ·skip
   go_simp;refine (dX _ (p:=ga) (zB HGA.out kS.size)).mono ?_;rintro e w21 ⟨v21,rfl,hs21,hx21⟩;have HS21:=zZ hs21;have k21:ab w2 w21:=kS.trans hx21;clear hs21 hx21;refine hK.out _ _ (fun _=>k21) ?_;clear hK K;try simp only[kA]
   refine an 3 8 (by kernel_rfl) rfl rfl (fun K hK=>?_) (fun K hK=>?_)
   ·skip
    go_simp;obtain⟨g22,hg22⟩:=nm w21.heap.size;obtain⟨w22,hw22⟩:=nm ((w21.alloc (.cells #[B C 2,B C 1,B C 1,B C 1,.string (ba str),B C 5,D none 0 0,B C 0,B C 0,B C 0,B C 0,B C 0,B C 0,B C 1,B C 1,B C 0,B C 1,.string (ba str),B C 5,D none 0 0,B C 0,B C 0,B C 0,B C 0,B C 0,B C 0] 47)):World);have hx22:ab w21 w22:=by rw[hw22];exact (zE _).alloc _
    have HC22:Bx (au ga w22 (D (some ⟨g22,0,none⟩) 2 2) [iD str 5,ip str]):=⟨by rw[hw22,hg22];exact gv _ _ _ (zB HGA.out k21.size) HSL.out ⟨by decide,by decide⟩⟩
    have HS22:=zZ (HS21.out.ext hx22);have k22:ab w2 w22:=k21.trans hx22;rw[<-hw22,<-hg22];clear hw22 hg22 hx22;refine hK.out _ _ (fun _=>k22) ?_;clear hK K;try simp only[kA]
    refine an 4 8 (by kernel_rfl) rfl rfl (fun K hK=>?_) (fun K hK=>?_)
    ·skip
     go_simp;refine (aW _ _ kg [iD str 5,ip str] _ (p:=ga) (zB HGA.out k22.size) (HT.out.ext k22) HS22.out HC22.out (by simp)).mono ?_;rintro e w23 ⟨⟨v23,rfl,hi23⟩,hx23⟩;rw[eO,iV HRD.out]at hi23;rw[eA];obtain⟨vS,vG,rfl,hs23,hG23⟩:=hi23;obtain⟨AS,nS,cS,rfl,-⟩:=hs23.open_;obtain⟨AG,nG,cG,rfl,-⟩:=hG23.open_;have HI23:Bx (aK ga w23 (.agg #[D AS nS cS,D AG nG cG]) ⟨[⟨⟨1,0⟩,1,aY⟩,⟨⟨1,1⟩,2,aY⟩],[⟨5,1,5,[],⟨1,0⟩⟩]⟩):=⟨⟨_,_,rfl,hs23,hG23⟩⟩
     have k23:ab w2 w23:=k22.trans hx23;clear hs23 hG23 hx23;refine hK.out _ _ (fun _=>k23) ?_;clear hK K;try simp only[kA]
     refine zS 3 [(5,23),(6,29),(7,30)] k23 ?_;iterate 3 refine zT ?_ (y:=by intro wk hk;obtain⟨_,_,_,_,_,_,_,_⟩:=zkc8 hk a0 a1 a2 a3 a4 a5 a6 a7;obtain⟨_,_,_,_,_,_,_,_⟩:=zkc8 hk a8 a9 a10 a11 a12 b0 b1 b2;obtain⟨_,_,_,_,_,_,_,_⟩:=zkc8 hk b3 b4 b5 b6 b7 b8 b9 b10;obtain⟨_,_⟩:=zkc2 hk b11 b12;go_simp;try with_reducible rfl)
     refine zN (zO 8 (fun K hK=>?_));go_simp;obtain⟨gA,hgA⟩:=nm w23.heap.size;obtain⟨w24,hw24⟩:=nm ((w23.alloc (.cells #[D none 0 0,D none 0 0] 59)):World);have hx24:ab w23 w24:=by rw[hw24];exact (zE _).alloc _
     have HA24:Bx (aA w2 w24 [(gA,#[D none 0 0,D none 0 0],59)]):=⟨by rw[hw24,hgA];exact ((aA.start w2).ext k23).push _ _ rfl⟩
     have HI24:=zZ ((aK.re HI23.out (q:=gA) (by omega)).ext hx24);have k24:ab w2 w24:=k23.trans hx24;rw[<-hw24,<-hgA];clear hw24 hgA hx24;refine hK.out _ _ (fun _=>k24) ?_;clear hK K;try simp only[kA]
     obtain⟨j0,j1⟩:=(HA24.out.at_ 0 rfl).p2 rfl;have f0:=(HA24.out.at_ 0 rfl).froz;have f1:=f0;refine zO 9 (fun K hK=>?_);go_simp;have hR:=ta.mk' HA24.out HI24.out;have hx9:=(HA24.out.setAll 0 rfl [D AS nS cS,D AG nG cG] rfl).xt;refine hK.out _ _ (fun _=>hx9) ?_;clear hK K;try simp only[kA]
     refine zO 10 (fun K hK=>?_);go_simp;refine hK.out _ _ (fun _=>hx9) ?_;clear hK K;try simp only[kA]
     refine zD ?_;go_wp2_with fail;go_meet
     exact⟨hR⟩
    ·skip
     go_simp;obtain⟨gA,hgA⟩:=nm w22.heap.size;obtain⟨w25,hw25⟩:=nm ((w22.alloc (.cells #[D none 0 0,D none 0 0] 59)):World);have hx25:ab w22 w25:=by rw[hw25];exact (zE _).alloc _
     have HA25:Bx (aA w2 w25 [(gA,#[D none 0 0,D none 0 0],59)]):=⟨by rw[hw25,hgA];exact ((aA.start w2).ext k22).push _ _ rfl⟩
     have HS25:=zZ ((aR.re HS22.out (q:=gA) (by omega)).ext hx25);have HC25:=zZ ((au.re HC22.out (q:=gA) (by omega)).ext (bR.stab _) hx25);have k25:ab w2 w25:=k22.trans hx25;rw[<-hw25,<-hgA];clear hw25 hgA hx25;refine hK.out _ _ (fun _=>k25) ?_;clear hK K;try simp only[kA]
     refine zO 4 (fun K hK=>?_);go_simp;refine (aW _ _ kg [iD str 5,ip str] _ (p:=gA) (HA25.out.at_ 0 rfl).lt (HT.out.ext k25) HS25.out HC25.out (by simp)).mono ?_;rintro e w26 ⟨⟨v26,rfl,hi26⟩,hx26⟩;rw[eO,iV HRD.out]at hi26;rw[eA];obtain⟨vS,vG,rfl,hs26,hG26⟩:=hi26;obtain⟨AS,nS,cS,rfl,-⟩:=hs26.open_;obtain⟨AG,nG,cG,rfl,-⟩:=hG26.open_;have HI26:Bx (aK gA w26 (.agg #[D AS nS cS,D AG nG cG]) ⟨[⟨⟨1,0⟩,1,aY⟩,⟨⟨1,1⟩,2,aY⟩],[⟨5,1,5,[],⟨1,0⟩⟩]⟩):=⟨⟨_,_,rfl,hs26,hG26⟩⟩
     have HA26:=zZ (HA25.out.ext hx26);have k26:ab w2 w26:=k25.trans hx26;clear hs26 hG26 hx26;refine hK.out _ _ (fun _=>k26) ?_;clear hK K;try simp only[kA]
     refine zS 3 [(5,23),(6,29),(7,30)] k26 ?_;iterate 3 refine zT ?_ (y:=by intro wk hk;obtain⟨_,_,_,_,_,_,_,_⟩:=zkc8 hk a0 a1 a2 a3 a4 a5 a6 a7;obtain⟨_,_,_,_,_,_,_,_⟩:=zkc8 hk a8 a9 a10 a11 a12 b0 b1 b2;obtain⟨_,_,_,_,_,_,_,_⟩:=zkc8 hk b3 b4 b5 b6 b7 b8 b9 b10;obtain⟨_,_⟩:=zkc2 hk b11 b12;go_simp;try with_reducible rfl)
     refine zN ?_;obtain⟨j0,j1⟩:=(HA26.out.at_ 0 rfl).p2 rfl;have f0:=(HA26.out.at_ 0 rfl).froz;have f1:=f0;refine zO 9 (fun K hK=>?_);go_simp;have hR:=ta.mk' HA26.out HI26.out;have hx9:=(HA26.out.setAll 0 rfl [D AS nS cS,D AG nG cG] rfl).xt;refine hK.out _ _ (fun _=>hx9) ?_;clear hK K;try simp only[kA]
     refine zO 10 (fun K hK=>?_);go_simp;refine hK.out _ _ (fun _=>hx9) ?_;clear hK K;try simp only[kA]
     refine zD ?_;go_wp2_with fail;go_meet
     exact⟨hR⟩
   ·skip
    go_simp;obtain⟨gA,hgA⟩:=nm w21.heap.size;obtain⟨w27,hw27⟩:=nm ((w21.alloc (.cells #[D none 0 0,D none 0 0] 59)):World);have hx27:ab w21 w27:=by rw[hw27];exact (zE _).alloc _
    have HA27:Bx (aA w2 w27 [(gA,#[D none 0 0,D none 0 0],59)]):=⟨by rw[hw27,hgA];exact ((aA.start w2).ext k21).push _ _ rfl⟩
    have HS27:=zZ ((aR.re HS21.out (q:=gA) (by omega)).ext hx27);have k27:ab w2 w27:=k21.trans hx27;rw[<-hw27,<-hgA];clear hw27 hgA hx27;refine hK.out _ _ (fun _=>k27) ?_;clear hK K;try simp only[kA]
    refine zO 3 (fun K hK=>?_);go_simp;obtain⟨g28,hg28⟩:=nm w27.heap.size;obtain⟨w28,hw28⟩:=nm ((w27.alloc (.cells #[B C 2,B C 1,B C 1,B C 1,.string (ba str),B C 5,D none 0 0,B C 0,B C 0,B C 0,B C 0,B C 0,B C 0,B C 1,B C 1,B C 0,B C 1,.string (ba str),B C 5,D none 0 0,B C 0,B C 0,B C 0,B C 0,B C 0,B C 0] 47)):World);have hx28:ab w27 w28:=by rw[hw28];exact (zE _).alloc _
    have HC28:Bx (au gA w28 (D (some ⟨g28,0,none⟩) 2 2) [iD str 5,ip str]):=⟨by rw[hw28,hg28];exact gv _ _ _ (HA27.out.at_ 0 rfl).lt HSL.out ⟨by decide,by decide⟩⟩
    have HS28:=zZ (HS27.out.ext hx28);have HA28:=zZ (HA27.out.ext hx28);have k28:ab w2 w28:=k27.trans hx28;rw[<-hw28,<-hg28];clear hw28 hg28 hx28;refine hK.out _ _ (fun _=>k28) ?_;clear hK K;try simp only[kA]
    refine zO 4 (fun K hK=>?_);go_simp;refine (aW _ _ kg [iD str 5,ip str] _ (p:=gA) (HA28.out.at_ 0 rfl).lt (HT.out.ext k28) HS28.out HC28.out (by simp)).mono ?_;rintro e w29 ⟨⟨v29,rfl,hi29⟩,hx29⟩;rw[eO,iV HRD.out]at hi29;rw[eA];obtain⟨vS,vG,rfl,hs29,hG29⟩:=hi29;obtain⟨AS,nS,cS,rfl,-⟩:=hs29.open_;obtain⟨AG,nG,cG,rfl,-⟩:=hG29.open_;have HI29:Bx (aK gA w29 (.agg #[D AS nS cS,D AG nG cG]) ⟨[⟨⟨1,0⟩,1,aY⟩,⟨⟨1,1⟩,2,aY⟩],[⟨5,1,5,[],⟨1,0⟩⟩]⟩):=⟨⟨_,_,rfl,hs29,hG29⟩⟩
    have HA29:=zZ (HA28.out.ext hx29);have k29:ab w2 w29:=k28.trans hx29;clear hs29 hG29 hx29;refine hK.out _ _ (fun _=>k29) ?_;clear hK K;try simp only[kA]
    refine zS 3 [(5,23),(6,29),(7,30)] k29 ?_;iterate 3 refine zT ?_ (y:=by intro wk hk;obtain⟨_,_,_,_,_,_,_,_⟩:=zkc8 hk a0 a1 a2 a3 a4 a5 a6 a7;obtain⟨_,_,_,_,_,_,_,_⟩:=zkc8 hk a8 a9 a10 a11 a12 b0 b1 b2;obtain⟨_,_,_,_,_,_,_,_⟩:=zkc8 hk b3 b4 b5 b6 b7 b8 b9 b10;obtain⟨_,_⟩:=zkc2 hk b11 b12;go_simp;try with_reducible rfl)
    refine zN ?_;obtain⟨j0,j1⟩:=(HA29.out.at_ 0 rfl).p2 rfl;have f0:=(HA29.out.at_ 0 rfl).froz;have f1:=f0;refine zO 9 (fun K hK=>?_);go_simp;have hR:=ta.mk' HA29.out HI29.out;have hx9:=(HA29.out.setAll 0 rfl [D AS nS cS,D AG nG cG] rfl).xt;refine hK.out _ _ (fun _=>hx9) ?_;clear hK K;try simp only[kA]
    refine zO 10 (fun K hK=>?_);go_simp;refine hK.out _ _ (fun _=>hx9) ?_;clear hK K;try simp only[kA]
    refine zD ?_;go_wp2_with fail;go_meet
    exact⟨hR⟩
  ·skip
   go_simp;obtain⟨g30,hg30⟩:=nm wd.heap.size;obtain⟨w30,hw30⟩:=nm ((wd.alloc (.cells #[B C 2,B C 1,B C 1,B C 1,.string (ba str),B C 5,D none 0 0,B C 0,B C 0,B C 0,B C 0,B C 0,B C 0,B C 1,B C 1,B C 0,B C 1,.string (ba str),B C 5,D none 0 0,B C 0,B C 0,B C 0,B C 0,B C 0,B C 0] 47)):World);have hx30:ab wd w30:=by rw[hw30];exact (zE _).alloc _
   have HC30:Bx (au ga w30 (D (some ⟨g30,0,none⟩) 2 2) [iD str 5,ip str]):=⟨by rw[hw30,hg30];exact gv _ _ _ (zB HGA.out kS.size) HSL.out ⟨by decide,by decide⟩⟩
   have k30:ab w2 w30:=kS.trans hx30;rw[<-hw30,<-hg30];clear hw30 hg30 hx30;refine hK.out _ _ (fun _=>k30) ?_;clear hK K;try simp only[kA]
   refine an 0 8 (by kernel_rfl) rfl rfl (fun K hK=>?_) (fun K hK=>?_)
   ·skip
    go_simp;refine (dX _ (p:=ga) (zB HGA.out k30.size)).mono ?_;rintro e w31 ⟨v31,rfl,hs31,hx31⟩;have HS31:=zZ hs31;have HC31:=zZ (HC30.out.ext (bR.stab _) hx31);have k31:ab w2 w31:=k30.trans hx31;clear hs31 hx31;refine hK.out _ _ (fun _=>k31) ?_;clear hK K;try simp only[kA]
    refine an 4 8 (by kernel_rfl) rfl rfl (fun K hK=>?_) (fun K hK=>?_)
    ·skip
     go_simp;refine (aW _ _ kg [iD str 5,ip str] _ (p:=ga) (zB HGA.out k31.size) (HT.out.ext k31) HS31.out HC31.out (by simp)).mono ?_;rintro e w32 ⟨⟨v32,rfl,hi32⟩,hx32⟩;rw[eO,iV HRD.out]at hi32;rw[eA];obtain⟨vS,vG,rfl,hs32,hG32⟩:=hi32;obtain⟨AS,nS,cS,rfl,-⟩:=hs32.open_;obtain⟨AG,nG,cG,rfl,-⟩:=hG32.open_;have HI32:Bx (aK ga w32 (.agg #[D AS nS cS,D AG nG cG]) ⟨[⟨⟨1,0⟩,1,aY⟩,⟨⟨1,1⟩,2,aY⟩],[⟨5,1,5,[],⟨1,0⟩⟩]⟩):=⟨⟨_,_,rfl,hs32,hG32⟩⟩
     have k32:ab w2 w32:=k31.trans hx32;clear hs32 hG32 hx32;refine hK.out _ _ (fun _=>k32) ?_;clear hK K;try simp only[kA]
     refine zS 3 [(5,23),(6,29),(7,30)] k32 ?_;iterate 3 refine zT ?_ (y:=by intro wk hk;obtain⟨_,_,_,_,_,_,_,_⟩:=zkc8 hk a0 a1 a2 a3 a4 a5 a6 a7;obtain⟨_,_,_,_,_,_,_,_⟩:=zkc8 hk a8 a9 a10 a11 a12 b0 b1 b2;obtain⟨_,_,_,_,_,_,_,_⟩:=zkc8 hk b3 b4 b5 b6 b7 b8 b9 b10;obtain⟨_,_⟩:=zkc2 hk b11 b12;go_simp;try with_reducible rfl)
     refine zN (zO 8 (fun K hK=>?_));go_simp;obtain⟨gA,hgA⟩:=nm w32.heap.size;obtain⟨w33,hw33⟩:=nm ((w32.alloc (.cells #[D none 0 0,D none 0 0] 59)):World);have hx33:ab w32 w33:=by rw[hw33];exact (zE _).alloc _
     have HA33:Bx (aA w2 w33 [(gA,#[D none 0 0,D none 0 0],59)]):=⟨by rw[hw33,hgA];exact ((aA.start w2).ext k32).push _ _ rfl⟩
     have HI33:=zZ ((aK.re HI32.out (q:=gA) (by omega)).ext hx33);have k33:ab w2 w33:=k32.trans hx33;rw[<-hw33,<-hgA];clear hw33 hgA hx33;refine hK.out _ _ (fun _=>k33) ?_;clear hK K;try simp only[kA]
     obtain⟨j0,j1⟩:=(HA33.out.at_ 0 rfl).p2 rfl;have f0:=(HA33.out.at_ 0 rfl).froz;have f1:=f0;refine zO 9 (fun K hK=>?_);go_simp;have hR:=ta.mk' HA33.out HI33.out;have hx9:=(HA33.out.setAll 0 rfl [D AS nS cS,D AG nG cG] rfl).xt;refine hK.out _ _ (fun _=>hx9) ?_;clear hK K;try simp only[kA]
     refine zO 10 (fun K hK=>?_);go_simp;refine hK.out _ _ (fun _=>hx9) ?_;clear hK K;try simp only[kA]
     refine zD ?_;go_wp2_with fail;go_meet
     exact⟨hR⟩
    ·skip
     go_simp;obtain⟨gA,hgA⟩:=nm w31.heap.size;obtain⟨w34,hw34⟩:=nm ((w31.alloc (.cells #[D none 0 0,D none 0 0] 59)):World);have hx34:ab w31 w34:=by rw[hw34];exact (zE _).alloc _
     have HA34:Bx (aA w2 w34 [(gA,#[D none 0 0,D none 0 0],59)]):=⟨by rw[hw34,hgA];exact ((aA.start w2).ext k31).push _ _ rfl⟩
     have HS34:=zZ ((aR.re HS31.out (q:=gA) (by omega)).ext hx34);have HC34:=zZ ((au.re HC31.out (q:=gA) (by omega)).ext (bR.stab _) hx34);have k34:ab w2 w34:=k31.trans hx34;rw[<-hw34,<-hgA];clear hw34 hgA hx34;refine hK.out _ _ (fun _=>k34) ?_;clear hK K;try simp only[kA]
     refine zO 4 (fun K hK=>?_);go_simp;refine (aW _ _ kg [iD str 5,ip str] _ (p:=gA) (HA34.out.at_ 0 rfl).lt (HT.out.ext k34) HS34.out HC34.out (by simp)).mono ?_;rintro e w35 ⟨⟨v35,rfl,hi35⟩,hx35⟩;rw[eO,iV HRD.out]at hi35;rw[eA];obtain⟨vS,vG,rfl,hs35,hG35⟩:=hi35;obtain⟨AS,nS,cS,rfl,-⟩:=hs35.open_;obtain⟨AG,nG,cG,rfl,-⟩:=hG35.open_;have HI35:Bx (aK gA w35 (.agg #[D AS nS cS,D AG nG cG]) ⟨[⟨⟨1,0⟩,1,aY⟩,⟨⟨1,1⟩,2,aY⟩],[⟨5,1,5,[],⟨1,0⟩⟩]⟩):=⟨⟨_,_,rfl,hs35,hG35⟩⟩
     have HA35:=zZ (HA34.out.ext hx35);have k35:ab w2 w35:=k34.trans hx35;clear hs35 hG35 hx35;refine hK.out _ _ (fun _=>k35) ?_;clear hK K;try simp only[kA]
     refine zS 3 [(5,23),(6,29),(7,30)] k35 ?_;iterate 3 refine zT ?_ (y:=by intro wk hk;obtain⟨_,_,_,_,_,_,_,_⟩:=zkc8 hk a0 a1 a2 a3 a4 a5 a6 a7;obtain⟨_,_,_,_,_,_,_,_⟩:=zkc8 hk a8 a9 a10 a11 a12 b0 b1 b2;obtain⟨_,_,_,_,_,_,_,_⟩:=zkc8 hk b3 b4 b5 b6 b7 b8 b9 b10;obtain⟨_,_⟩:=zkc2 hk b11 b12;go_simp;try with_reducible rfl)
     refine zN ?_;obtain⟨j0,j1⟩:=(HA35.out.at_ 0 rfl).p2 rfl;have f0:=(HA35.out.at_ 0 rfl).froz;have f1:=f0;refine zO 9 (fun K hK=>?_);go_simp;have hR:=ta.mk' HA35.out HI35.out;have hx9:=(HA35.out.setAll 0 rfl [D AS nS cS,D AG nG cG] rfl).xt;refine hK.out _ _ (fun _=>hx9) ?_;clear hK K;try simp only[kA]
     refine zO 10 (fun K hK=>?_);go_simp;refine hK.out _ _ (fun _=>hx9) ?_;clear hK K;try simp only[kA]
     refine zD ?_;go_wp2_with fail;go_meet
     exact⟨hR⟩
   ·skip
    go_simp;obtain⟨gA,hgA⟩:=nm w30.heap.size;obtain⟨w36,hw36⟩:=nm ((w30.alloc (.cells #[D none 0 0,D none 0 0] 59)):World);have hx36:ab w30 w36:=by rw[hw36];exact (zE _).alloc _
    have HA36:Bx (aA w2 w36 [(gA,#[D none 0 0,D none 0 0],59)]):=⟨by rw[hw36,hgA];exact ((aA.start w2).ext k30).push _ _ rfl⟩
    have HC36:=zZ ((au.re HC30.out (q:=gA) (by omega)).ext (bR.stab _) hx36);have k36:ab w2 w36:=k30.trans hx36;rw[<-hw36,<-hgA];clear hw36 hgA hx36;refine hK.out _ _ (fun _=>k36) ?_;clear hK K;try simp only[kA]
    refine zO 0 (fun K hK=>?_);go_simp;refine (dX _ (p:=gA) (HA36.out.at_ 0 rfl).lt).mono ?_;rintro e w37 ⟨v37,rfl,hs37,hx37⟩;have HS37:=zZ hs37;have HC37:=zZ (HC36.out.ext (bR.stab _) hx37);have HA37:=zZ (HA36.out.ext hx37);have k37:ab w2 w37:=k36.trans hx37;clear hs37 hx37;refine hK.out _ _ (fun _=>k37) ?_;clear hK K;try simp only[kA]
    refine zO 4 (fun K hK=>?_);go_simp;refine (aW _ _ kg [iD str 5,ip str] _ (p:=gA) (HA37.out.at_ 0 rfl).lt (HT.out.ext k37) HS37.out HC37.out (by simp)).mono ?_;rintro e w38 ⟨⟨v38,rfl,hi38⟩,hx38⟩;rw[eO,iV HRD.out]at hi38;rw[eA];obtain⟨vS,vG,rfl,hs38,hG38⟩:=hi38;obtain⟨AS,nS,cS,rfl,-⟩:=hs38.open_;obtain⟨AG,nG,cG,rfl,-⟩:=hG38.open_;have HI38:Bx (aK gA w38 (.agg #[D AS nS cS,D AG nG cG]) ⟨[⟨⟨1,0⟩,1,aY⟩,⟨⟨1,1⟩,2,aY⟩],[⟨5,1,5,[],⟨1,0⟩⟩]⟩):=⟨⟨_,_,rfl,hs38,hG38⟩⟩
    have HA38:=zZ (HA37.out.ext hx38);have k38:ab w2 w38:=k37.trans hx38;clear hs38 hG38 hx38;refine hK.out _ _ (fun _=>k38) ?_;clear hK K;try simp only[kA]
    refine zS 3 [(5,23),(6,29),(7,30)] k38 ?_;iterate 3 refine zT ?_ (y:=by intro wk hk;obtain⟨_,_,_,_,_,_,_,_⟩:=zkc8 hk a0 a1 a2 a3 a4 a5 a6 a7;obtain⟨_,_,_,_,_,_,_,_⟩:=zkc8 hk a8 a9 a10 a11 a12 b0 b1 b2;obtain⟨_,_,_,_,_,_,_,_⟩:=zkc8 hk b3 b4 b5 b6 b7 b8 b9 b10;obtain⟨_,_⟩:=zkc2 hk b11 b12;go_simp;try with_reducible rfl)
    refine zN ?_;obtain⟨j0,j1⟩:=(HA38.out.at_ 0 rfl).p2 rfl;have f0:=(HA38.out.at_ 0 rfl).froz;have f1:=f0;refine zO 9 (fun K hK=>?_);go_simp;have hR:=ta.mk' HA38.out HI38.out;have hx9:=(HA38.out.setAll 0 rfl [D AS nS cS,D AG nG cG] rfl).xt;refine hK.out _ _ (fun _=>hx9) ?_;clear hK K;try simp only[kA]
    refine zO 10 (fun K hK=>?_);go_simp;refine hK.out _ _ (fun _=>hx9) ?_;clear hK K;try simp only[kA]
    refine zD ?_;go_wp2_with fail;go_meet
    exact⟨hR⟩
  ·skip
   go_simp;obtain⟨gA,hgA⟩:=nm wd.heap.size;obtain⟨w39,hw39⟩:=nm ((wd.alloc (.cells #[D none 0 0,D none 0 0] 59)):World);have hx39:ab wd w39:=by rw[hw39];exact (zE _).alloc _
   have HA39:Bx (aA w2 w39 [(gA,#[D none 0 0,D none 0 0],59)]):=⟨by rw[hw39,hgA];exact ((aA.start w2).ext kS).push _ _ rfl⟩
   have k39:ab w2 w39:=kS.trans hx39;rw[<-hw39,<-hgA];clear hw39 hgA hx39;refine hK.out _ _ (fun _=>k39) ?_;clear hK K;try simp only[kA]
   refine an 0 3 (by kernel_rfl) rfl rfl (fun K hK=>?_) (fun K hK=>?_)
   ·skip
    go_simp;refine (dX _ (p:=gA) (HA39.out.at_ 0 rfl).lt).mono ?_;rintro e w40 ⟨v40,rfl,hs40,hx40⟩;have HS40:=zZ hs40;have HA40:=zZ (HA39.out.ext hx40);have k40:ab w2 w40:=k39.trans hx40;clear hs40 hx40;refine hK.out _ _ (fun _=>k40) ?_;clear hK K;try simp only[kA]
    refine zO 3 (fun K hK=>?_);go_simp;obtain⟨g41,hg41⟩:=nm w40.heap.size;obtain⟨w41,hw41⟩:=nm ((w40.alloc (.cells #[B C 2,B C 1,B C 1,B C 1,.string (ba str),B C 5,D none 0 0,B C 0,B C 0,B C 0,B C 0,B C 0,B C 0,B C 1,B C 1,B C 0,B C 1,.string (ba str),B C 5,D none 0 0,B C 0,B C 0,B C 0,B C 0,B C 0,B C 0] 47)):World);have hx41:ab w40 w41:=by rw[hw41];exact (zE _).alloc _
    have HC41:Bx (au gA w41 (D (some ⟨g41,0,none⟩) 2 2) [iD str 5,ip str]):=⟨by rw[hw41,hg41];exact gv _ _ _ (HA40.out.at_ 0 rfl).lt HSL.out ⟨by decide,by decide⟩⟩
    have HS41:=zZ (HS40.out.ext hx41);have HA41:=zZ (HA40.out.ext hx41);have k41:ab w2 w41:=k40.trans hx41;rw[<-hw41,<-hg41];clear hw41 hg41 hx41;refine hK.out _ _ (fun _=>k41) ?_;clear hK K;try simp only[kA]
    refine zO 4 (fun K hK=>?_);go_simp;refine (aW _ _ kg [iD str 5,ip str] _ (p:=gA) (HA41.out.at_ 0 rfl).lt (HT.out.ext k41) HS41.out HC41.out (by simp)).mono ?_;rintro e w42 ⟨⟨v42,rfl,hi42⟩,hx42⟩;rw[eO,iV HRD.out]at hi42;rw[eA];obtain⟨vS,vG,rfl,hs42,hG42⟩:=hi42;obtain⟨AS,nS,cS,rfl,-⟩:=hs42.open_;obtain⟨AG,nG,cG,rfl,-⟩:=hG42.open_;have HI42:Bx (aK gA w42 (.agg #[D AS nS cS,D AG nG cG]) ⟨[⟨⟨1,0⟩,1,aY⟩,⟨⟨1,1⟩,2,aY⟩],[⟨5,1,5,[],⟨1,0⟩⟩]⟩):=⟨⟨_,_,rfl,hs42,hG42⟩⟩
    have HA42:=zZ (HA41.out.ext hx42);have k42:ab w2 w42:=k41.trans hx42;clear hs42 hG42 hx42;refine hK.out _ _ (fun _=>k42) ?_;clear hK K;try simp only[kA]
    refine zS 3 [(5,23),(6,29),(7,30)] k42 ?_;iterate 3 refine zT ?_ (y:=by intro wk hk;obtain⟨_,_,_,_,_,_,_,_⟩:=zkc8 hk a0 a1 a2 a3 a4 a5 a6 a7;obtain⟨_,_,_,_,_,_,_,_⟩:=zkc8 hk a8 a9 a10 a11 a12 b0 b1 b2;obtain⟨_,_,_,_,_,_,_,_⟩:=zkc8 hk b3 b4 b5 b6 b7 b8 b9 b10;obtain⟨_,_⟩:=zkc2 hk b11 b12;go_simp;try with_reducible rfl)
    refine zN ?_;obtain⟨j0,j1⟩:=(HA42.out.at_ 0 rfl).p2 rfl;have f0:=(HA42.out.at_ 0 rfl).froz;have f1:=f0;refine zO 9 (fun K hK=>?_);go_simp;have hR:=ta.mk' HA42.out HI42.out;have hx9:=(HA42.out.setAll 0 rfl [D AS nS cS,D AG nG cG] rfl).xt;refine hK.out _ _ (fun _=>hx9) ?_;clear hK K;try simp only[kA]
    refine zO 10 (fun K hK=>?_);go_simp;refine hK.out _ _ (fun _=>hx9) ?_;clear hK K;try simp only[kA]
    refine zD ?_;go_wp2_with fail;go_meet
    exact⟨hR⟩
   ·skip
    go_simp;obtain⟨g43,hg43⟩:=nm w39.heap.size;obtain⟨w43,hw43⟩:=nm ((w39.alloc (.cells #[B C 2,B C 1,B C 1,B C 1,.string (ba str),B C 5,D none 0 0,B C 0,B C 0,B C 0,B C 0,B C 0,B C 0,B C 1,B C 1,B C 0,B C 1,.string (ba str),B C 5,D none 0 0,B C 0,B C 0,B C 0,B C 0,B C 0,B C 0] 47)):World);have hx43:ab w39 w43:=by rw[hw43];exact (zE _).alloc _
    have HC43:Bx (au gA w43 (D (some ⟨g43,0,none⟩) 2 2) [iD str 5,ip str]):=⟨by rw[hw43,hg43];exact gv _ _ _ (HA39.out.at_ 0 rfl).lt HSL.out ⟨by decide,by decide⟩⟩
    have HA43:=zZ (HA39.out.ext hx43);have k43:ab w2 w43:=k39.trans hx43;rw[<-hw43,<-hg43];clear hw43 hg43 hx43;refine hK.out _ _ (fun _=>k43) ?_;clear hK K;try simp only[kA]
    refine zO 0 (fun K hK=>?_);go_simp;refine (dX _ (p:=gA) (HA43.out.at_ 0 rfl).lt).mono ?_;rintro e w44 ⟨v44,rfl,hs44,hx44⟩;have HS44:=zZ hs44;have HC44:=zZ (HC43.out.ext (bR.stab _) hx44);have HA44:=zZ (HA43.out.ext hx44);have k44:ab w2 w44:=k43.trans hx44;clear hs44 hx44;refine hK.out _ _ (fun _=>k44) ?_;clear hK K;try simp only[kA]
    refine zO 4 (fun K hK=>?_);go_simp;refine (aW _ _ kg [iD str 5,ip str] _ (p:=gA) (HA44.out.at_ 0 rfl).lt (HT.out.ext k44) HS44.out HC44.out (by simp)).mono ?_;rintro e w45 ⟨⟨v45,rfl,hi45⟩,hx45⟩;rw[eO,iV HRD.out]at hi45;rw[eA];obtain⟨vS,vG,rfl,hs45,hG45⟩:=hi45;obtain⟨AS,nS,cS,rfl,-⟩:=hs45.open_;obtain⟨AG,nG,cG,rfl,-⟩:=hG45.open_;have HI45:Bx (aK gA w45 (.agg #[D AS nS cS,D AG nG cG]) ⟨[⟨⟨1,0⟩,1,aY⟩,⟨⟨1,1⟩,2,aY⟩],[⟨5,1,5,[],⟨1,0⟩⟩]⟩):=⟨⟨_,_,rfl,hs45,hG45⟩⟩
    have HA45:=zZ (HA44.out.ext hx45);have k45:ab w2 w45:=k44.trans hx45;clear hs45 hG45 hx45;refine hK.out _ _ (fun _=>k45) ?_;clear hK K;try simp only[kA]
    refine zS 3 [(5,23),(6,29),(7,30)] k45 ?_;iterate 3 refine zT ?_ (y:=by intro wk hk;obtain⟨_,_,_,_,_,_,_,_⟩:=zkc8 hk a0 a1 a2 a3 a4 a5 a6 a7;obtain⟨_,_,_,_,_,_,_,_⟩:=zkc8 hk a8 a9 a10 a11 a12 b0 b1 b2;obtain⟨_,_,_,_,_,_,_,_⟩:=zkc8 hk b3 b4 b5 b6 b7 b8 b9 b10;obtain⟨_,_⟩:=zkc2 hk b11 b12;go_simp;try with_reducible rfl)
    refine zN ?_;obtain⟨j0,j1⟩:=(HA45.out.at_ 0 rfl).p2 rfl;have f0:=(HA45.out.at_ 0 rfl).froz;have f1:=f0;refine zO 9 (fun K hK=>?_);go_simp;have hR:=ta.mk' HA45.out HI45.out;have hx9:=(HA45.out.setAll 0 rfl [D AS nS cS,D AG nG cG] rfl).xt;refine hK.out _ _ (fun _=>hx9) ?_;clear hK K;try simp only[kA]
    refine zO 10 (fun K hK=>?_);go_simp;refine hK.out _ _ (fun _=>hx9) ?_;clear hK K;try simp only[kA]
    refine zD ?_;go_wp2_with fail;go_meet
    exact⟨hR⟩
 case rest =>
 obtain⟨gI,vS,vG,rfl,rfl,hF3,hI3⟩:=hcut.out;obtain⟨w3,rfl⟩:=nm wc;have HF3:=zZ hF3;have HI3:=zZ hI3;have HF4:=zZ (HF2.out.ext hF3.xt);replace HT:Bx (cK w3):=⟨HT.out.ext hF3.xt⟩
 replace HGA:Bx (ga<w3.heap.size):=⟨(HF4.out.at_ 0 rfl).lt⟩
 clear hcut hF3 hI3 a0 a1 a2 a3 a4 a5 a6 a7 a8 a9 a10 a11 a12 b0 b1 b2 b3 b4 b5 b6 b7 b8 b9 b10 b11 b12;obtain⟨a0,a1,a2,a3,a4,a5,a6,a7,a8,a9,a10,a11,a12⟩:=(HF4.out.at_ 0 rfl).p13 rfl;obtain⟨b0,b1,b2,b3,b4,b5,b6,b7,b8,b9,b10,b11,b12⟩:=(HF4.out.at_ 2 rfl).p13 rfl;go_upto_region 7 with (fail)
 go_cut [8,9] (fun s8 s9 wx=>Bx (ta w3 wx s8 s9 ⟨[⟨⟨1,0⟩,3,aY⟩,⟨⟨1,1⟩,3,aY⟩],[]⟩))
 case first =>
  refine zQ 99 fun wd kS=>?_;refine zS 2 [(1,33),(2,34)] kS ?_;iterate 2 refine zT ?_ (y:=by intro wk hk;obtain⟨_,_,_,_,_,_,_,_⟩:=zkc8 hk a0 a1 a2 a3 a4 a5 a6 a7;obtain⟨_,_,_,_,_,_,_,_⟩:=zkc8 hk a8 a9 a10 a11 a12 b0 b1 b2;obtain⟨_,_,_,_,_,_,_,_⟩:=zkc8 hk b3 b4 b5 b6 b7 b8 b9 b10;obtain⟨_,_⟩:=zkc2 hk b11 b12;go_simp;try with_reducible rfl)
  refine zN (gZ 0 3 8 (by kernel_rfl) rfl rfl rfl (fun K hK=>?_) (fun K hK=>?_) (fun K hK=>?_))
  ·skip
   go_simp;refine (dX _ (p:=ga) (zB HGA.out kS.size)).mono ?_;rintro e w46 ⟨v46,rfl,hs46,hx46⟩;have HS46:=zZ hs46;have k46:ab w3 w46:=kS.trans hx46;clear hs46 hx46;refine hK.out _ _ (fun _=>k46) ?_;clear hK K;try simp only[kA]
   refine an 3 8 (by kernel_rfl) rfl rfl (fun K hK=>?_) (fun K hK=>?_)
   ·skip
    go_simp;obtain⟨g47,hg47⟩:=nm w46.heap.size;obtain⟨w47,hw47⟩:=nm ((w46.alloc (.cells #[B C 2,B C 1,B C 1,B C 1,.string (ba str),B C 6,D none 0 0,B C 0,B C 0,B C 0,B C 0,B C 0,B C 0,B C 1,B C 1,B C 0,B C 1,.string (ba str),B C 5,D none 0 0,B C 0,B C 0,B C 0,B C 0,B C 0,B C 0] 47)):World);have hx47:ab w46 w47:=by rw[hw47];exact (zE _).alloc _
    have HC47:Bx (au ga w47 (D (some ⟨g47,0,none⟩) 2 2) [iD str 6,ip str]):=⟨by rw[hw47,hg47];exact gv _ _ _ (zB HGA.out k46.size) HSL.out ⟨by decide,by decide⟩⟩
    have HS47:=zZ (HS46.out.ext hx47);have k47:ab w3 w47:=k46.trans hx47;rw[<-hw47,<-hg47];clear hw47 hg47 hx47;refine hK.out _ _ (fun _=>k47) ?_;clear hK K;try simp only[kA]
    refine an 4 8 (by kernel_rfl) rfl rfl (fun K hK=>?_) (fun K hK=>?_)
    ·skip
     go_simp;refine (aW _ _ kg [iD str 6,ip str] _ (p:=ga) (zB HGA.out k47.size) (HT.out.ext k47) HS47.out HC47.out (by simp)).mono ?_;rintro e w48 ⟨⟨v48,rfl,hi48⟩,hx48⟩;rw[eO,i7 HRD.out]at hi48;rw[eA];obtain⟨vS,vG,rfl,hs48,hG48⟩:=hi48;obtain⟨AS,nS,cS,rfl,-⟩:=hs48.open_;obtain⟨AG,nG,cG,rfl,-⟩:=hG48.open_;have HI48:Bx (aK ga w48 (.agg #[D AS nS cS,D AG nG cG]) ⟨[⟨⟨1,0⟩,3,aY⟩,⟨⟨1,1⟩,3,aY⟩],[]⟩):=⟨⟨_,_,rfl,hs48,hG48⟩⟩
     have k48:ab w3 w48:=k47.trans hx48;clear hs48 hG48 hx48;refine hK.out _ _ (fun _=>k48) ?_;clear hK K;try simp only[kA]
     refine zS 3 [(5,31),(6,37),(7,38)] k48 ?_;iterate 3 refine zT ?_ (y:=by intro wk hk;obtain⟨_,_,_,_,_,_,_,_⟩:=zkc8 hk a0 a1 a2 a3 a4 a5 a6 a7;obtain⟨_,_,_,_,_,_,_,_⟩:=zkc8 hk a8 a9 a10 a11 a12 b0 b1 b2;obtain⟨_,_,_,_,_,_,_,_⟩:=zkc8 hk b3 b4 b5 b6 b7 b8 b9 b10;obtain⟨_,_⟩:=zkc2 hk b11 b12;go_simp;try with_reducible rfl)
     refine zN (zO 8 (fun K hK=>?_));go_simp;obtain⟨gA,hgA⟩:=nm w48.heap.size;obtain⟨w49,hw49⟩:=nm ((w48.alloc (.cells #[D none 0 0,D none 0 0] 59)):World);have hx49:ab w48 w49:=by rw[hw49];exact (zE _).alloc _
     have HA49:Bx (aA w3 w49 [(gA,#[D none 0 0,D none 0 0],59)]):=⟨by rw[hw49,hgA];exact ((aA.start w3).ext k48).push _ _ rfl⟩
     have HI49:=zZ ((aK.re HI48.out (q:=gA) (by omega)).ext hx49);have k49:ab w3 w49:=k48.trans hx49;rw[<-hw49,<-hgA];clear hw49 hgA hx49;refine hK.out _ _ (fun _=>k49) ?_;clear hK K;try simp only[kA]
     obtain⟨j0,j1⟩:=(HA49.out.at_ 0 rfl).p2 rfl;have f0:=(HA49.out.at_ 0 rfl).froz;have f1:=f0;refine zO 9 (fun K hK=>?_);go_simp;have hR:=ta.mk' HA49.out HI49.out;have hx9:=(HA49.out.setAll 0 rfl [D AS nS cS,D AG nG cG] rfl).xt;refine hK.out _ _ (fun _=>hx9) ?_;clear hK K;try simp only[kA]
     refine zO 10 (fun K hK=>?_);go_simp;refine hK.out _ _ (fun _=>hx9) ?_;clear hK K;try simp only[kA]
     refine zD ?_;go_wp2_with fail;go_meet
     exact⟨hR⟩
    ·skip
     go_simp;obtain⟨gA,hgA⟩:=nm w47.heap.size;obtain⟨w50,hw50⟩:=nm ((w47.alloc (.cells #[D none 0 0,D none 0 0] 59)):World);have hx50:ab w47 w50:=by rw[hw50];exact (zE _).alloc _
     have HA50:Bx (aA w3 w50 [(gA,#[D none 0 0,D none 0 0],59)]):=⟨by rw[hw50,hgA];exact ((aA.start w3).ext k47).push _ _ rfl⟩
     have HS50:=zZ ((aR.re HS47.out (q:=gA) (by omega)).ext hx50);have HC50:=zZ ((au.re HC47.out (q:=gA) (by omega)).ext (bR.stab _) hx50);have k50:ab w3 w50:=k47.trans hx50;rw[<-hw50,<-hgA];clear hw50 hgA hx50;refine hK.out _ _ (fun _=>k50) ?_;clear hK K;try simp only[kA]
     refine zO 4 (fun K hK=>?_);go_simp;refine (aW _ _ kg [iD str 6,ip str] _ (p:=gA) (HA50.out.at_ 0 rfl).lt (HT.out.ext k50) HS50.out HC50.out (by simp)).mono ?_;rintro e w51 ⟨⟨v51,rfl,hi51⟩,hx51⟩;rw[eO,i7 HRD.out]at hi51;rw[eA];obtain⟨vS,vG,rfl,hs51,hG51⟩:=hi51;obtain⟨AS,nS,cS,rfl,-⟩:=hs51.open_;obtain⟨AG,nG,cG,rfl,-⟩:=hG51.open_;have HI51:Bx (aK gA w51 (.agg #[D AS nS cS,D AG nG cG]) ⟨[⟨⟨1,0⟩,3,aY⟩,⟨⟨1,1⟩,3,aY⟩],[]⟩):=⟨⟨_,_,rfl,hs51,hG51⟩⟩
     have HA51:=zZ (HA50.out.ext hx51);have k51:ab w3 w51:=k50.trans hx51;clear hs51 hG51 hx51;refine hK.out _ _ (fun _=>k51) ?_;clear hK K;try simp only[kA]
     refine zS 3 [(5,31),(6,37),(7,38)] k51 ?_;iterate 3 refine zT ?_ (y:=by intro wk hk;obtain⟨_,_,_,_,_,_,_,_⟩:=zkc8 hk a0 a1 a2 a3 a4 a5 a6 a7;obtain⟨_,_,_,_,_,_,_,_⟩:=zkc8 hk a8 a9 a10 a11 a12 b0 b1 b2;obtain⟨_,_,_,_,_,_,_,_⟩:=zkc8 hk b3 b4 b5 b6 b7 b8 b9 b10;obtain⟨_,_⟩:=zkc2 hk b11 b12;go_simp;try with_reducible rfl)
     refine zN ?_;obtain⟨j0,j1⟩:=(HA51.out.at_ 0 rfl).p2 rfl;have f0:=(HA51.out.at_ 0 rfl).froz;have f1:=f0;refine zO 9 (fun K hK=>?_);go_simp;have hR:=ta.mk' HA51.out HI51.out;have hx9:=(HA51.out.setAll 0 rfl [D AS nS cS,D AG nG cG] rfl).xt;refine hK.out _ _ (fun _=>hx9) ?_;clear hK K;try simp only[kA]
     refine zO 10 (fun K hK=>?_);go_simp;refine hK.out _ _ (fun _=>hx9) ?_;clear hK K;try simp only[kA]
     refine zD ?_;go_wp2_with fail;go_meet
     exact⟨hR⟩
   ·skip
    go_simp;obtain⟨gA,hgA⟩:=nm w46.heap.size;obtain⟨w52,hw52⟩:=nm ((w46.alloc (.cells #[D none 0 0,D none 0 0] 59)):World);have hx52:ab w46 w52:=by rw[hw52];exact (zE _).alloc _
    have HA52:Bx (aA w3 w52 [(gA,#[D none 0 0,D none 0 0],59)]):=⟨by rw[hw52,hgA];exact ((aA.start w3).ext k46).push _ _ rfl⟩
    have HS52:=zZ ((aR.re HS46.out (q:=gA) (by omega)).ext hx52);have k52:ab w3 w52:=k46.trans hx52;rw[<-hw52,<-hgA];clear hw52 hgA hx52;refine hK.out _ _ (fun _=>k52) ?_;clear hK K;try simp only[kA]
    refine zO 3 (fun K hK=>?_);go_simp;obtain⟨g53,hg53⟩:=nm w52.heap.size;obtain⟨w53,hw53⟩:=nm ((w52.alloc (.cells #[B C 2,B C 1,B C 1,B C 1,.string (ba str),B C 6,D none 0 0,B C 0,B C 0,B C 0,B C 0,B C 0,B C 0,B C 1,B C 1,B C 0,B C 1,.string (ba str),B C 5,D none 0 0,B C 0,B C 0,B C 0,B C 0,B C 0,B C 0] 47)):World);have hx53:ab w52 w53:=by rw[hw53];exact (zE _).alloc _
    have HC53:Bx (au gA w53 (D (some ⟨g53,0,none⟩) 2 2) [iD str 6,ip str]):=⟨by rw[hw53,hg53];exact gv _ _ _ (HA52.out.at_ 0 rfl).lt HSL.out ⟨by decide,by decide⟩⟩
    have HS53:=zZ (HS52.out.ext hx53);have HA53:=zZ (HA52.out.ext hx53);have k53:ab w3 w53:=k52.trans hx53;rw[<-hw53,<-hg53];clear hw53 hg53 hx53;refine hK.out _ _ (fun _=>k53) ?_;clear hK K;try simp only[kA]
    refine zO 4 (fun K hK=>?_);go_simp;refine (aW _ _ kg [iD str 6,ip str] _ (p:=gA) (HA53.out.at_ 0 rfl).lt (HT.out.ext k53) HS53.out HC53.out (by simp)).mono ?_;rintro e w54 ⟨⟨v54,rfl,hi54⟩,hx54⟩;rw[eO,i7 HRD.out]at hi54;rw[eA];obtain⟨vS,vG,rfl,hs54,hG54⟩:=hi54;obtain⟨AS,nS,cS,rfl,-⟩:=hs54.open_;obtain⟨AG,nG,cG,rfl,-⟩:=hG54.open_;have HI54:Bx (aK gA w54 (.agg #[D AS nS cS,D AG nG cG]) ⟨[⟨⟨1,0⟩,3,aY⟩,⟨⟨1,1⟩,3,aY⟩],[]⟩):=⟨⟨_,_,rfl,hs54,hG54⟩⟩
    have HA54:=zZ (HA53.out.ext hx54);have k54:ab w3 w54:=k53.trans hx54;clear hs54 hG54 hx54;refine hK.out _ _ (fun _=>k54) ?_;clear hK K;try simp only[kA]
    refine zS 3 [(5,31),(6,37),(7,38)] k54 ?_;iterate 3 refine zT ?_ (y:=by intro wk hk;obtain⟨_,_,_,_,_,_,_,_⟩:=zkc8 hk a0 a1 a2 a3 a4 a5 a6 a7;obtain⟨_,_,_,_,_,_,_,_⟩:=zkc8 hk a8 a9 a10 a11 a12 b0 b1 b2;obtain⟨_,_,_,_,_,_,_,_⟩:=zkc8 hk b3 b4 b5 b6 b7 b8 b9 b10;obtain⟨_,_⟩:=zkc2 hk b11 b12;go_simp;try with_reducible rfl)
    refine zN ?_;obtain⟨j0,j1⟩:=(HA54.out.at_ 0 rfl).p2 rfl;have f0:=(HA54.out.at_ 0 rfl).froz;have f1:=f0;refine zO 9 (fun K hK=>?_);go_simp;have hR:=ta.mk' HA54.out HI54.out;have hx9:=(HA54.out.setAll 0 rfl [D AS nS cS,D AG nG cG] rfl).xt;refine hK.out _ _ (fun _=>hx9) ?_;clear hK K;try simp only[kA]
    refine zO 10 (fun K hK=>?_);go_simp;refine hK.out _ _ (fun _=>hx9) ?_;clear hK K;try simp only[kA]
    refine zD ?_;go_wp2_with fail;go_meet
    exact⟨hR⟩
  ·skip
   go_simp;obtain⟨g55,hg55⟩:=nm wd.heap.size;obtain⟨w55,hw55⟩:=nm ((wd.alloc (.cells #[B C 2,B C 1,B C 1,B C 1,.string (ba str),B C 6,D none 0 0,B C 0,B C 0,B C 0,B C 0,B C 0,B C 0,B C 1,B C 1,B C 0,B C 1,.string (ba str),B C 5,D none 0 0,B C 0,B C 0,B C 0,B C 0,B C 0,B C 0] 47)):World);have hx55:ab wd w55:=by rw[hw55];exact (zE _).alloc _
   have HC55:Bx (au ga w55 (D (some ⟨g55,0,none⟩) 2 2) [iD str 6,ip str]):=⟨by rw[hw55,hg55];exact gv _ _ _ (zB HGA.out kS.size) HSL.out ⟨by decide,by decide⟩⟩
   have k55:ab w3 w55:=kS.trans hx55;rw[<-hw55,<-hg55];clear hw55 hg55 hx55;refine hK.out _ _ (fun _=>k55) ?_;clear hK K;try simp only[kA]
   refine an 0 8 (by kernel_rfl) rfl rfl (fun K hK=>?_) (fun K hK=>?_)
   ·skip
    go_simp;refine (dX _ (p:=ga) (zB HGA.out k55.size)).mono ?_;rintro e w56 ⟨v56,rfl,hs56,hx56⟩;have HS56:=zZ hs56;have HC56:=zZ (HC55.out.ext (bR.stab _) hx56);have k56:ab w3 w56:=k55.trans hx56;clear hs56 hx56;refine hK.out _ _ (fun _=>k56) ?_;clear hK K;try simp only[kA]
    refine an 4 8 (by kernel_rfl) rfl rfl (fun K hK=>?_) (fun K hK=>?_)
    ·skip
     go_simp;refine (aW _ _ kg [iD str 6,ip str] _ (p:=ga) (zB HGA.out k56.size) (HT.out.ext k56) HS56.out HC56.out (by simp)).mono ?_;rintro e w57 ⟨⟨v57,rfl,hi57⟩,hx57⟩;rw[eO,i7 HRD.out]at hi57;rw[eA];obtain⟨vS,vG,rfl,hs57,hG57⟩:=hi57;obtain⟨AS,nS,cS,rfl,-⟩:=hs57.open_;obtain⟨AG,nG,cG,rfl,-⟩:=hG57.open_;have HI57:Bx (aK ga w57 (.agg #[D AS nS cS,D AG nG cG]) ⟨[⟨⟨1,0⟩,3,aY⟩,⟨⟨1,1⟩,3,aY⟩],[]⟩):=⟨⟨_,_,rfl,hs57,hG57⟩⟩
     have k57:ab w3 w57:=k56.trans hx57;clear hs57 hG57 hx57;refine hK.out _ _ (fun _=>k57) ?_;clear hK K;try simp only[kA]
     refine zS 3 [(5,31),(6,37),(7,38)] k57 ?_;iterate 3 refine zT ?_ (y:=by intro wk hk;obtain⟨_,_,_,_,_,_,_,_⟩:=zkc8 hk a0 a1 a2 a3 a4 a5 a6 a7;obtain⟨_,_,_,_,_,_,_,_⟩:=zkc8 hk a8 a9 a10 a11 a12 b0 b1 b2;obtain⟨_,_,_,_,_,_,_,_⟩:=zkc8 hk b3 b4 b5 b6 b7 b8 b9 b10;obtain⟨_,_⟩:=zkc2 hk b11 b12;go_simp;try with_reducible rfl)
     refine zN (zO 8 (fun K hK=>?_));go_simp;obtain⟨gA,hgA⟩:=nm w57.heap.size;obtain⟨w58,hw58⟩:=nm ((w57.alloc (.cells #[D none 0 0,D none 0 0] 59)):World);have hx58:ab w57 w58:=by rw[hw58];exact (zE _).alloc _
     have HA58:Bx (aA w3 w58 [(gA,#[D none 0 0,D none 0 0],59)]):=⟨by rw[hw58,hgA];exact ((aA.start w3).ext k57).push _ _ rfl⟩
     have HI58:=zZ ((aK.re HI57.out (q:=gA) (by omega)).ext hx58);have k58:ab w3 w58:=k57.trans hx58;rw[<-hw58,<-hgA];clear hw58 hgA hx58;refine hK.out _ _ (fun _=>k58) ?_;clear hK K;try simp only[kA]
     obtain⟨j0,j1⟩:=(HA58.out.at_ 0 rfl).p2 rfl;have f0:=(HA58.out.at_ 0 rfl).froz;have f1:=f0;refine zO 9 (fun K hK=>?_);go_simp;have hR:=ta.mk' HA58.out HI58.out;have hx9:=(HA58.out.setAll 0 rfl [D AS nS cS,D AG nG cG] rfl).xt;refine hK.out _ _ (fun _=>hx9) ?_;clear hK K;try simp only[kA]
     refine zO 10 (fun K hK=>?_);go_simp;refine hK.out _ _ (fun _=>hx9) ?_;clear hK K;try simp only[kA]
     refine zD ?_;go_wp2_with fail;go_meet
     exact⟨hR⟩
    ·skip
     go_simp;obtain⟨gA,hgA⟩:=nm w56.heap.size;obtain⟨w59,hw59⟩:=nm ((w56.alloc (.cells #[D none 0 0,D none 0 0] 59)):World);have hx59:ab w56 w59:=by rw[hw59];exact (zE _).alloc _
     have HA59:Bx (aA w3 w59 [(gA,#[D none 0 0,D none 0 0],59)]):=⟨by rw[hw59,hgA];exact ((aA.start w3).ext k56).push _ _ rfl⟩
     have HS59:=zZ ((aR.re HS56.out (q:=gA) (by omega)).ext hx59);have HC59:=zZ ((au.re HC56.out (q:=gA) (by omega)).ext (bR.stab _) hx59);have k59:ab w3 w59:=k56.trans hx59;rw[<-hw59,<-hgA];clear hw59 hgA hx59;refine hK.out _ _ (fun _=>k59) ?_;clear hK K;try simp only[kA]
     refine zO 4 (fun K hK=>?_);go_simp;refine (aW _ _ kg [iD str 6,ip str] _ (p:=gA) (HA59.out.at_ 0 rfl).lt (HT.out.ext k59) HS59.out HC59.out (by simp)).mono ?_;rintro e w60 ⟨⟨v60,rfl,hi60⟩,hx60⟩;rw[eO,i7 HRD.out]at hi60;rw[eA];obtain⟨vS,vG,rfl,hs60,hG60⟩:=hi60;obtain⟨AS,nS,cS,rfl,-⟩:=hs60.open_;obtain⟨AG,nG,cG,rfl,-⟩:=hG60.open_;have HI60:Bx (aK gA w60 (.agg #[D AS nS cS,D AG nG cG]) ⟨[⟨⟨1,0⟩,3,aY⟩,⟨⟨1,1⟩,3,aY⟩],[]⟩):=⟨⟨_,_,rfl,hs60,hG60⟩⟩
     have HA60:=zZ (HA59.out.ext hx60);have k60:ab w3 w60:=k59.trans hx60;clear hs60 hG60 hx60;refine hK.out _ _ (fun _=>k60) ?_;clear hK K;try simp only[kA]
     refine zS 3 [(5,31),(6,37),(7,38)] k60 ?_;iterate 3 refine zT ?_ (y:=by intro wk hk;obtain⟨_,_,_,_,_,_,_,_⟩:=zkc8 hk a0 a1 a2 a3 a4 a5 a6 a7;obtain⟨_,_,_,_,_,_,_,_⟩:=zkc8 hk a8 a9 a10 a11 a12 b0 b1 b2;obtain⟨_,_,_,_,_,_,_,_⟩:=zkc8 hk b3 b4 b5 b6 b7 b8 b9 b10;obtain⟨_,_⟩:=zkc2 hk b11 b12;go_simp;try with_reducible rfl)
     refine zN ?_;obtain⟨j0,j1⟩:=(HA60.out.at_ 0 rfl).p2 rfl;have f0:=(HA60.out.at_ 0 rfl).froz;have f1:=f0;refine zO 9 (fun K hK=>?_);go_simp;have hR:=ta.mk' HA60.out HI60.out;have hx9:=(HA60.out.setAll 0 rfl [D AS nS cS,D AG nG cG] rfl).xt;refine hK.out _ _ (fun _=>hx9) ?_;clear hK K;try simp only[kA]
     refine zO 10 (fun K hK=>?_);go_simp;refine hK.out _ _ (fun _=>hx9) ?_;clear hK K;try simp only[kA]
     refine zD ?_;go_wp2_with fail;go_meet
     exact⟨hR⟩
   ·skip
    go_simp;obtain⟨gA,hgA⟩:=nm w55.heap.size;obtain⟨w61,hw61⟩:=nm ((w55.alloc (.cells #[D none 0 0,D none 0 0] 59)):World);have hx61:ab w55 w61:=by rw[hw61];exact (zE _).alloc _
    have HA61:Bx (aA w3 w61 [(gA,#[D none 0 0,D none 0 0],59)]):=⟨by rw[hw61,hgA];exact ((aA.start w3).ext k55).push _ _ rfl⟩
    have HC61:=zZ ((au.re HC55.out (q:=gA) (by omega)).ext (bR.stab _) hx61);have k61:ab w3 w61:=k55.trans hx61;rw[<-hw61,<-hgA];clear hw61 hgA hx61;refine hK.out _ _ (fun _=>k61) ?_;clear hK K;try simp only[kA]
    refine zO 0 (fun K hK=>?_);go_simp;refine (dX _ (p:=gA) (HA61.out.at_ 0 rfl).lt).mono ?_;rintro e w62 ⟨v62,rfl,hs62,hx62⟩;have HS62:=zZ hs62;have HC62:=zZ (HC61.out.ext (bR.stab _) hx62);have HA62:=zZ (HA61.out.ext hx62);have k62:ab w3 w62:=k61.trans hx62;clear hs62 hx62;refine hK.out _ _ (fun _=>k62) ?_;clear hK K;try simp only[kA]
    refine zO 4 (fun K hK=>?_);go_simp;refine (aW _ _ kg [iD str 6,ip str] _ (p:=gA) (HA62.out.at_ 0 rfl).lt (HT.out.ext k62) HS62.out HC62.out (by simp)).mono ?_;rintro e w63 ⟨⟨v63,rfl,hi63⟩,hx63⟩;rw[eO,i7 HRD.out]at hi63;rw[eA];obtain⟨vS,vG,rfl,hs63,hG63⟩:=hi63;obtain⟨AS,nS,cS,rfl,-⟩:=hs63.open_;obtain⟨AG,nG,cG,rfl,-⟩:=hG63.open_;have HI63:Bx (aK gA w63 (.agg #[D AS nS cS,D AG nG cG]) ⟨[⟨⟨1,0⟩,3,aY⟩,⟨⟨1,1⟩,3,aY⟩],[]⟩):=⟨⟨_,_,rfl,hs63,hG63⟩⟩
    have HA63:=zZ (HA62.out.ext hx63);have k63:ab w3 w63:=k62.trans hx63;clear hs63 hG63 hx63;refine hK.out _ _ (fun _=>k63) ?_;clear hK K;try simp only[kA]
    refine zS 3 [(5,31),(6,37),(7,38)] k63 ?_;iterate 3 refine zT ?_ (y:=by intro wk hk;obtain⟨_,_,_,_,_,_,_,_⟩:=zkc8 hk a0 a1 a2 a3 a4 a5 a6 a7;obtain⟨_,_,_,_,_,_,_,_⟩:=zkc8 hk a8 a9 a10 a11 a12 b0 b1 b2;obtain⟨_,_,_,_,_,_,_,_⟩:=zkc8 hk b3 b4 b5 b6 b7 b8 b9 b10;obtain⟨_,_⟩:=zkc2 hk b11 b12;go_simp;try with_reducible rfl)
    refine zN ?_;obtain⟨j0,j1⟩:=(HA63.out.at_ 0 rfl).p2 rfl;have f0:=(HA63.out.at_ 0 rfl).froz;have f1:=f0;refine zO 9 (fun K hK=>?_);go_simp;have hR:=ta.mk' HA63.out HI63.out;have hx9:=(HA63.out.setAll 0 rfl [D AS nS cS,D AG nG cG] rfl).xt;refine hK.out _ _ (fun _=>hx9) ?_;clear hK K;try simp only[kA]
    refine zO 10 (fun K hK=>?_);go_simp;refine hK.out _ _ (fun _=>hx9) ?_;clear hK K;try simp only[kA]
    refine zD ?_;go_wp2_with fail;go_meet
    exact⟨hR⟩
  ·skip
   go_simp;obtain⟨gA,hgA⟩:=nm wd.heap.size;obtain⟨w64,hw64⟩:=nm ((wd.alloc (.cells #[D none 0 0,D none 0 0] 59)):World);have hx64:ab wd w64:=by rw[hw64];exact (zE _).alloc _
   have HA64:Bx (aA w3 w64 [(gA,#[D none 0 0,D none 0 0],59)]):=⟨by rw[hw64,hgA];exact ((aA.start w3).ext kS).push _ _ rfl⟩
   have k64:ab w3 w64:=kS.trans hx64;rw[<-hw64,<-hgA];clear hw64 hgA hx64;refine hK.out _ _ (fun _=>k64) ?_;clear hK K;try simp only[kA]
   refine an 0 3 (by kernel_rfl) rfl rfl (fun K hK=>?_) (fun K hK=>?_)
   ·skip
    go_simp;refine (dX _ (p:=gA) (HA64.out.at_ 0 rfl).lt).mono ?_;rintro e w65 ⟨v65,rfl,hs65,hx65⟩;have HS65:=zZ hs65;have HA65:=zZ (HA64.out.ext hx65);have k65:ab w3 w65:=k64.trans hx65;clear hs65 hx65;refine hK.out _ _ (fun _=>k65) ?_;clear hK K;try simp only[kA]
    refine zO 3 (fun K hK=>?_);go_simp;obtain⟨g66,hg66⟩:=nm w65.heap.size;obtain⟨w66,hw66⟩:=nm ((w65.alloc (.cells #[B C 2,B C 1,B C 1,B C 1,.string (ba str),B C 6,D none 0 0,B C 0,B C 0,B C 0,B C 0,B C 0,B C 0,B C 1,B C 1,B C 0,B C 1,.string (ba str),B C 5,D none 0 0,B C 0,B C 0,B C 0,B C 0,B C 0,B C 0] 47)):World);have hx66:ab w65 w66:=by rw[hw66];exact (zE _).alloc _
    have HC66:Bx (au gA w66 (D (some ⟨g66,0,none⟩) 2 2) [iD str 6,ip str]):=⟨by rw[hw66,hg66];exact gv _ _ _ (HA65.out.at_ 0 rfl).lt HSL.out ⟨by decide,by decide⟩⟩
    have HS66:=zZ (HS65.out.ext hx66);have HA66:=zZ (HA65.out.ext hx66);have k66:ab w3 w66:=k65.trans hx66;rw[<-hw66,<-hg66];clear hw66 hg66 hx66;refine hK.out _ _ (fun _=>k66) ?_;clear hK K;try simp only[kA]
    refine zO 4 (fun K hK=>?_);go_simp;refine (aW _ _ kg [iD str 6,ip str] _ (p:=gA) (HA66.out.at_ 0 rfl).lt (HT.out.ext k66) HS66.out HC66.out (by simp)).mono ?_;rintro e w67 ⟨⟨v67,rfl,hi67⟩,hx67⟩;rw[eO,i7 HRD.out]at hi67;rw[eA];obtain⟨vS,vG,rfl,hs67,hG67⟩:=hi67;obtain⟨AS,nS,cS,rfl,-⟩:=hs67.open_;obtain⟨AG,nG,cG,rfl,-⟩:=hG67.open_;have HI67:Bx (aK gA w67 (.agg #[D AS nS cS,D AG nG cG]) ⟨[⟨⟨1,0⟩,3,aY⟩,⟨⟨1,1⟩,3,aY⟩],[]⟩):=⟨⟨_,_,rfl,hs67,hG67⟩⟩
    have HA67:=zZ (HA66.out.ext hx67);have k67:ab w3 w67:=k66.trans hx67;clear hs67 hG67 hx67;refine hK.out _ _ (fun _=>k67) ?_;clear hK K;try simp only[kA]
    refine zS 3 [(5,31),(6,37),(7,38)] k67 ?_;iterate 3 refine zT ?_ (y:=by intro wk hk;obtain⟨_,_,_,_,_,_,_,_⟩:=zkc8 hk a0 a1 a2 a3 a4 a5 a6 a7;obtain⟨_,_,_,_,_,_,_,_⟩:=zkc8 hk a8 a9 a10 a11 a12 b0 b1 b2;obtain⟨_,_,_,_,_,_,_,_⟩:=zkc8 hk b3 b4 b5 b6 b7 b8 b9 b10;obtain⟨_,_⟩:=zkc2 hk b11 b12;go_simp;try with_reducible rfl)
    refine zN ?_;obtain⟨j0,j1⟩:=(HA67.out.at_ 0 rfl).p2 rfl;have f0:=(HA67.out.at_ 0 rfl).froz;have f1:=f0;refine zO 9 (fun K hK=>?_);go_simp;have hR:=ta.mk' HA67.out HI67.out;have hx9:=(HA67.out.setAll 0 rfl [D AS nS cS,D AG nG cG] rfl).xt;refine hK.out _ _ (fun _=>hx9) ?_;clear hK K;try simp only[kA]
    refine zO 10 (fun K hK=>?_);go_simp;refine hK.out _ _ (fun _=>hx9) ?_;clear hK K;try simp only[kA]
    refine zD ?_;go_wp2_with fail;go_meet
    exact⟨hR⟩
   ·skip
    go_simp;obtain⟨g68,hg68⟩:=nm w64.heap.size;obtain⟨w68,hw68⟩:=nm ((w64.alloc (.cells #[B C 2,B C 1,B C 1,B C 1,.string (ba str),B C 6,D none 0 0,B C 0,B C 0,B C 0,B C 0,B C 0,B C 0,B C 1,B C 1,B C 0,B C 1,.string (ba str),B C 5,D none 0 0,B C 0,B C 0,B C 0,B C 0,B C 0,B C 0] 47)):World);have hx68:ab w64 w68:=by rw[hw68];exact (zE _).alloc _
    have HC68:Bx (au gA w68 (D (some ⟨g68,0,none⟩) 2 2) [iD str 6,ip str]):=⟨by rw[hw68,hg68];exact gv _ _ _ (HA64.out.at_ 0 rfl).lt HSL.out ⟨by decide,by decide⟩⟩
    have HA68:=zZ (HA64.out.ext hx68);have k68:ab w3 w68:=k64.trans hx68;rw[<-hw68,<-hg68];clear hw68 hg68 hx68;refine hK.out _ _ (fun _=>k68) ?_;clear hK K;try simp only[kA]
    refine zO 0 (fun K hK=>?_);go_simp;refine (dX _ (p:=gA) (HA68.out.at_ 0 rfl).lt).mono ?_;rintro e w69 ⟨v69,rfl,hs69,hx69⟩;have HS69:=zZ hs69;have HC69:=zZ (HC68.out.ext (bR.stab _) hx69);have HA69:=zZ (HA68.out.ext hx69);have k69:ab w3 w69:=k68.trans hx69;clear hs69 hx69;refine hK.out _ _ (fun _=>k69) ?_;clear hK K;try simp only[kA]
    refine zO 4 (fun K hK=>?_);go_simp;refine (aW _ _ kg [iD str 6,ip str] _ (p:=gA) (HA69.out.at_ 0 rfl).lt (HT.out.ext k69) HS69.out HC69.out (by simp)).mono ?_;rintro e w70 ⟨⟨v70,rfl,hi70⟩,hx70⟩;rw[eO,i7 HRD.out]at hi70;rw[eA];obtain⟨vS,vG,rfl,hs70,hG70⟩:=hi70;obtain⟨AS,nS,cS,rfl,-⟩:=hs70.open_;obtain⟨AG,nG,cG,rfl,-⟩:=hG70.open_;have HI70:Bx (aK gA w70 (.agg #[D AS nS cS,D AG nG cG]) ⟨[⟨⟨1,0⟩,3,aY⟩,⟨⟨1,1⟩,3,aY⟩],[]⟩):=⟨⟨_,_,rfl,hs70,hG70⟩⟩
    have HA70:=zZ (HA69.out.ext hx70);have k70:ab w3 w70:=k69.trans hx70;clear hs70 hG70 hx70;refine hK.out _ _ (fun _=>k70) ?_;clear hK K;try simp only[kA]
    refine zS 3 [(5,31),(6,37),(7,38)] k70 ?_;iterate 3 refine zT ?_ (y:=by intro wk hk;obtain⟨_,_,_,_,_,_,_,_⟩:=zkc8 hk a0 a1 a2 a3 a4 a5 a6 a7;obtain⟨_,_,_,_,_,_,_,_⟩:=zkc8 hk a8 a9 a10 a11 a12 b0 b1 b2;obtain⟨_,_,_,_,_,_,_,_⟩:=zkc8 hk b3 b4 b5 b6 b7 b8 b9 b10;obtain⟨_,_⟩:=zkc2 hk b11 b12;go_simp;try with_reducible rfl)
    refine zN ?_;obtain⟨j0,j1⟩:=(HA70.out.at_ 0 rfl).p2 rfl;have f0:=(HA70.out.at_ 0 rfl).froz;have f1:=f0;refine zO 9 (fun K hK=>?_);go_simp;have hR:=ta.mk' HA70.out HI70.out;have hx9:=(HA70.out.setAll 0 rfl [D AS nS cS,D AG nG cG] rfl).xt;refine hK.out _ _ (fun _=>hx9) ?_;clear hK K;try simp only[kA]
    refine zO 10 (fun K hK=>?_);go_simp;refine hK.out _ _ (fun _=>hx9) ?_;clear hK K;try simp only[kA]
    refine zD ?_;go_wp2_with fail;go_meet
    exact⟨hR⟩
 case rest =>
 obtain⟨gJ,vS2,vG2,rfl,rfl,hF5,hI5⟩:=hcut.out;clear hcut a0 a1 a2 a3 a4 a5 a6 a7 a8 a9 a10 a11 a12 b0 b1 b2 b3 b4 b5 b6 b7 b8 b9 b10 b11 b12;have HE:=zZ ((HX1.out.trans HF4.out.xt).trans hF5.xt);have HI6:=HI3.out.ext hF5.xt;obtain⟨_,_,e1,hs,hg⟩:=HI6;cases e1;obtain⟨bS,oS,cS,rfl,s0,s1⟩:=Hy hs;obtain⟨bG,oG,cG,rfl,p0⟩:=Es hg;obtain⟨_,_,e2,hs2,hg2⟩:=hI5;cases e2;obtain⟨bS2,oS2,cS2,rfl,s2,s3⟩:=Hy hs2;obtain⟨AG2,cG2,rfl⟩:=Jk hg2;obtain⟨i0,i1⟩:=((HF3.out.at_ 0 rfl).ext hF5.xt).p2 rfl;obtain⟨j0,j1⟩:=(hF5.at_ 0 rfl).p2 rfl;simp only at s0 s1 p0 s2 s3;clear hs hg hs2 hg2 hF5 HF2 HF3 HF4 HI3 HT HGA HRD HSL;go_wp2_with fail;go_ret
 exact⟨rfl,HE.out⟩
def fF(num:Int)(ys:List (je×Value))(bs:List (List (List Int)×Value)):Prop :=
 bs.length=ys.length/\∀(i:Nat) y,ys[i]?=some y->y.1.code=num/\y.1.var=(i:Int)/\fD num (i:Int) y.1.ps=true/\y.1.ps.length<=6/\∃b,bs[i]?=some b/\b.1=ai y.1.ps
theorem fF.nil(num:Int):fF num [] []:=⟨rfl,fun i y h=>by cases h⟩
theorem fF.snoc{ys:List (je×Value)}{bs:List (List (List Int)×Value)}{ps:List av}{u u':Value}(h:fF num ys bs)(hk:ys.length=k)(hv:fD num (k:Int) ps=true)(hl:ps.length<=6) :
  fF num (ys++[(⟨num,k,ps⟩,u)]) (bs++[(ai ps,u')]):=by
 refine⟨by simp[h.1],fun i y hy=>?_⟩;rcases zU i ys.length with hi|hi
 ·rw[yY hi]at hy;obtain⟨h1,h2,h3,h4,b,h5,h6⟩:=h.2 i y hy;exact⟨h1,h2,h3,h4,b,by rw[yY (by rw[h.1];exact hi)];exact h5,h6⟩
 ·rw[yL hi]at hy;have hj:i-ys.length=0:=by have:=(zY.1 hy).1;simp at this;omega
  rw[hj]at hy;simp at hy;subst hy;obtain rfl:i=k:=by omega
  exact⟨rfl,rfl,hv,hl,_,by rw[yL (by rw[h.1];omega),h.1,hj];rfl,rfl⟩
theorem Lk{ps:List av}(h:∀q∈ps,q.max<=12):sm ps<=12*ps.length:=by
 induction ps with
 |nil=>simp[sm]
 |cons a l ih =>
  have:=h a (by simp);have:=ih fun q hq=>h q (by simp[hq]);unfold sm at *
  simp only[wK,List.sum_cons,xQ];omega
theorem Hp{k:Int}{ps:List av}(hn:0<=num/\num<=31)(hk:0<=k/\k<4)(h1:1<=ps.length)(h6:ps.length<=6)(hq:∀q∈ps,lm q=true/\q.max<=12):fD num k ps=true:=by have:=Lk fun q h=>(hq q h).2;unfold fD;simp only[yT,decide_eq_true_eq,xS];exact⟨by omega,fun q h=>(hq q h).1,by omega⟩
theorem fF.wf{ys:List (je×Value)}{bs:List (List (List Int)×Value)}(h:fF num ys bs)(hn:0<=num/\num<=31)(h2:ys.length<=2):CK ys/\FI 2 bs:=by
 refine⟨⟨h2,fun y hy=>?_⟩,by rw[h.1];exact h2,fun b hb=>?_⟩
 ·obtain⟨i,hi⟩:=zH hy;obtain⟨h1,h3,h4,h5,-⟩:=h.2 i y hi;have hv:=mD h4;have:=(zY.1 hi).1;refine⟨by rw[h1];constructor<;>omega,by rw[h3];constructor<;>omega,h5,fun r hr=>JS (xS.1 hv.2.2.2.2.2.2.1 r hr)⟩
 ·obtain⟨i,hi⟩:=zH hb;have hlt:=(zY.1 hi).1;rw[h.1]at hlt;obtain⟨_,_,_,h5,b',h6,h7⟩:=h.2 i _ (zV hlt);rw[hi]at h6;injection h6 with h6;subst h6;rw[h7];have hb:=m7 (ys[i]'hlt).1.ps;exact⟨by omega,fun l hl=>⟨by have:=(hb.2 l hl).1;omega,fun x hx=>by have:=(hb.2 l hl).2 x hx;omega⟩⟩
theorem Ei:∀{ys:List (je×Value)} (h:0<ys.length),(ys.map gD).flatten[1]?=some (B C (ys[0]'h).1.var)
 |[],h=>by simp at h
 |y::t,_=>rfl
def kM(i k:Nat)(xs:List fv):Prop:=(∀x∈xs,0<=x.cand/\x.cand<(i:Int)/\1<=x.cen/\x.cen<=2/\0<=x.var/\x.var<(k:Int))/\xs.Pairwise (fun a b=>a.cand<b.cand)/\xs.length<=i
theorem kM.nil(k:Nat):kM 0 k []:=⟨fun x h=>by simp at h,xE,zX _⟩
theorem kM.skip{xs:List fv}(h:kM i k xs):kM (i+1) k xs:=⟨fun x hx=>by have:=h.1 x hx;omega,h.2.1,by have:=h.2.2;omega⟩
theorem kM.snoc{xs:List fv}{cen var:Int}(h:kM i k xs)(h1:1<=cen/\cen<=2)(h2:0<=var/\var<(k:Int)):kM (i+1) k (xs++[⟨i,cen,var⟩]):=by
 refine⟨fun x hx=>?_,xJ.2 ⟨h.2.1,wR _ _,fun a ha b hb=>?_⟩,by have:=h.2.2;simp;omega⟩
 ·rcases zM.1 hx with hx|hx
  ·have:=h.1 x hx;omega
  ·obtain rfl:x=⟨i,cen,var⟩:=by simpa using hx
   simp only;omega
 ·obtain rfl:b=⟨i,cen,var⟩:=by simpa using hb
  have:=h.1 a ha;simp only;omega
theorem kM.wf{xs:List fv}(h:kM 4 k xs)(hk:k<=2):Kv 4 xs:=⟨h.2.2,fun x hx=>by have:=h.1 x hx;omega⟩
theorem KQ{ys:List (je×Value)}{bs:List (List (List Int)×Value)}{xs:List fv}(hn:0<=num/\num<2)(h:fF num ys bs)(hl:ys.length=k)(hk:1<=k/\k<=2)(hx:kM 4 k xs):dU ⟨num,ys.map Prod.fst,bs.map Prod.fst,xs⟩:=by
 refine⟨by simp only;omega,by have:=hx.2.2;simp only[zJ];omega,by simp only[zJ];exact h.1,fun i hi=>?_,fun x hxm=>?_,fun i hi=>?_⟩
 ·simp only[zJ]at hi;have hy:ys[i]?=some ys[i]:=zV hi;obtain⟨h1,h2,h3,h4,b,h5,h6⟩:=h.2 i _ hy;unfold jK;simp only[zP,hy,h5,Option.map_some];have hb:=IL h3 (by have:=(m7 ys[i].1.ps).1;omega);rw[h1,h2,h3,h6,qh hb];simp
 ·have:=hx.1 x hxm;unfold ud;simp only[zJ,decide_eq_true_eq];omega
 ·unfold lW;simp only at hi⊢;have e1:xs[i]?=some xs[i]:=zV (by omega);have e2:xs[i+1]?=some xs[i+1]:=zV hi;rw[e1,e2];simp only[decide_eq_true_eq];exact xX.1 hx.2.1 i (i+1) (by omega) hi (by omega)
def LB(p:Nat)(w wx:World)(G:Nat)(n:Int):Prop:=∃(num:Int) (AP:Option Addr) (nP cP:Nat) (AB:Option Addr) (nB cB:Nat) (AX:Option Addr) (nX cX:Nat) (ys:List (je×Value)) (bs:List (List (List Int)×Value)) (xs:List fv),
 aH p w wx G num (D AP nP cP) (D AB nB cB) (D AX nX cX) (D AP nP cP) (D AB nB cB) (D AX nX cX) ys bs xs/\ma ⟨num,ys.map Prod.fst,bs.map Prod.fst,xs⟩/\(n=0->dU ⟨num,ys.map Prod.fst,bs.map Prod.fst,xs⟩)
theorem dp(p:Nat)(n:Int)(w:World)(h:bz w p)(hn:0<=n)(hn':n<=1000000000) :
  Calls prog 17 #[.pointer (some ⟨p,0,none⟩),.int .i64 n] w (iN p w fun v w'=>∃s,pT w' w.heap.size v s/\ma s/\(n=0->dU s)):=by
 have hlt:=h.lt;obtain⟨iP,hiP,hp0,hp1,hp2⟩:=info_parts Tryz.infoPap;obtain⟨iB,hiB,hb0,hb1,hb2⟩:=info_parts Tryz.infoBk;obtain⟨iX,hiX,hx0,hx1,hx2⟩:=info_parts Tryz.infoXp;have H:=zZ h;clear h;go_enter func17,ntmps17
 go_wp2_with fail;refine (am p 2 _ (H.out.ext ((zE _).alloc _)) (by omega)).mono ?_;rintro e w1 ⟨v1,rfl,⟨num,rfl,hn0,hn1⟩,HT1,HX1⟩;have hs1:w.heap.size<w1.heap.size:=by have:=HX1.size;simp at this;omega
 have HS0:Bx (aH p w (w1.alloc (.cells #[.int .i64 num,D none 0 0,D none 0 0,D none 0 0] 27)) w1.heap.size num (D none 0 0) (D none 0 0) (D none 0 0) (D none 0 0) (D none 0 0) (D none 0 0) [] [] []) :=
  ⟨⟨HT1.ext ((zE _).alloc _),((XT.refl _ _).alloc _).trans (HX1.alloc _),(((Bk.new w _ _).xt HX1 (by omega)).alloc _),Bk.new w1 _ _,hs1,da.nil,fun y hy=>by simp at hy,da.nil,fun y hy=>by simp at hy,da.nil⟩⟩
 clear HT1 HX1;go_wp2_with fail;generalize w1.heap.size=G at *
 go_loopw [6] (fun s6 wr=>∃(k:Nat) (AP AB:Option Addr) (cP cB:Nat) (ys:List (je×Value)) (bs:List (List (List Int)×Value)),s6=.int .i64 k/\k<=2/\Bx (aH p w wr G num (D AP k cP) (D AB k cB) (D none 0 0) (D AP k cP) (D AB k cB) (D none 0 0) ys bs []/\ys.length=k/\fF num ys bs)) (fun i _=>2-(intOf i).toNat)
 case atStart=>exact⟨0,none,none,0,0,[],[],rfl,by omega,⟨⟨HS0.out,rfl,fF.nil _⟩⟩⟩
 case round =>
  obtain⟨k,AP,AB,cP,cB,ys,bs,rfl,hk,HR⟩:=hrel;clear HS0;go_wp2_with fail;refine (az p 1 2 _ HR.out.1.tp (by omega) (by omega) (by omega) (by omega)).mono ?_;rintro e w2 ⟨v2,rfl,⟨r,rfl,hr1,hr2⟩,HT2,HX2⟩;have HS2:=bx (HR.out.1.step hlt HX2 HT2);have HG:Bx (ys.length=k/\fF num ys bs):=⟨HR.out.2⟩
  clear HR HT2 HX2;by_cases hkr:(k:Int)<r
  ·have hk1:k<=1:=by omega
   have g0:=HS2.out.bx.c 0 rfl;go_wp2_with fail;refine (Fm p num k _ HS2.out.tp).mono ?_;rintro e w3 ⟨v3,rfl,⟨pv,ps,rfl,hq,hl1,hl6,hv⟩,HT3,HX3⟩;have hs2:=HS2.out.bx.lt;have HS3:=bx (HS2.out.step hlt HX3 HT3);obtain⟨Aq,cq,rfl⟩:=hq.form;have HQ:Bx (dZ w.heap.size w3 (D Aq ps.length cq) ps):=⟨cd hq (by have:=HS2.out.hG;omega)⟩
   have HV:Bx (∀q∈ps,lm q=true/\q.max<=12):=⟨hv⟩
   clear HT3 HX3 hq hv g0;have hps:fD num (k:Int) ps=true:=Hp ⟨by omega,by omega⟩ ⟨by omega,by omega⟩ hl1 hl6 HV.out;have HPS:Bx (fD num (k:Int) ps=true/\ps.length<=6):=⟨⟨hps,hl6⟩⟩
   obtain⟨w4,hw4⟩:=nm (w3.alloc (.cells #[.int .i64 num,.int .i64 k,D Aq ps.length cq] 84));have hx4:ab w3 w4:=by rw[hw4];exact (zE _).alloc _
   have HS4:=bx (HS3.out.ext hlt hx4);have HB4:Bx (Bk w4 w3.heap.size #[.int .i64 num,.int .i64 k,D Aq ps.length cq] 84):=⟨by rw[hw4];exact Bk.new w3 _ _⟩
   have HQ4:Bx (dZ w.heap.size w4 (D Aq ps.length cq) ps):=⟨ao HQ.out hx4⟩
   have hp4:p<w4.heap.size:=by have:=HS4.out.bx.lt;have:=HS4.out.hG;omega
   have HPL:Bx (∀q,(Value.slice AP k cP).ownBlock=some q->q≠w3.heap.size):=⟨fun q e=>by have:=(HS3.out.oP.own.lt _ e).2;omega⟩
   have HGL:Bx (G<w3.heap.size):=⟨HS3.out.bx.lt⟩
   clear hps hl1 hx4 HS3 HQ;go_wp2_with fail;rw[<-hw4];clear hw4;refine (C8 num k _ ps _ (p:=p) hp4 (HQ4.out.isQ hlt (fun q hq=>JS (HV.out q hq).1))).mono ?_;rintro e w5 ⟨v',pgs,er,rfl,ho,hx5,hm1,hm2⟩;obtain⟨rfl,rfl⟩:=(hm2 HPS.out.1).2 (by have:=(m7 ps).1;omega);obtain⟨A',c',rfl⟩:=ho.form;obtain⟨w6,hw6⟩:=nm (w5.alloc (.cells #[D A' (ai ps).length c'] 79));have hx6:ab w4 w6:=by rw[hw6];exact hx5.alloc _
   have HS6:=bx (HS4.out.ext hlt hx6);have HB6:Bx (Bk w6 w3.heap.size #[.int .i64 num,.int .i64 k,D Aq ps.length cq] 84/\Bk w6 w5.heap.size #[D A' (ai ps).length c'] 79):=⟨HB4.out.ext hx6,by rw[hw6];exact Bk.new w5 _ _⟩
   have HO6:Bx (dZ w.heap.size w6 (D Aq ps.length cq) ps/\dn w.heap.size w6 (D A' (ai ps).length c') (ai ps)):=⟨ao HQ4.out hx6,by rw[hw6];exact (ho.re (by have:=HS4.out.bx.lt;have:=HS4.out.hG;omega)).ext ((zE _).alloc _)⟩
   have HPB:Bx ((Value.slice AP k cP).ownBlock≠some w3.heap.size/\(Value.slice AB k cB).ownBlock≠some w5.heap.size):=⟨⟨fun e=>HPL.out _ e rfl,fun e=>by have:=(HS4.out.oB.own.lt _ e).2;have:=hx5.size;omega⟩⟩
   have HPG:Bx (w3.heap.size≠G/\w5.heap.size≠G):=⟨⟨by have:=HGL.out;omega,by have:=HGL.out;have:=HS4.out.bx.lt;have:=hx5.size;omega⟩⟩
   clear hm1 hm2 ho hx5 hx6 HS4 HB4 HQ4;go_upto_region 7 with (fail)
   rw[<-hw6];clear hw6;obtain⟨B7,hB7⟩:=nm w3.heap.size;obtain⟨B8,hB8⟩:=nm w5.heap.size;rw[<-hB7,<-hB8]at HB6 HPB HPG;rw[<-hB7,<-hB8];clear hB7 hB8;have t6:w6.drew.cell? ⟨G,2,none⟩=some (D AB k cB)/\w6.drew.cell? ⟨B7,0,none⟩=some (.int .i64 num)/\w6.drew.cell? ⟨B7,1,none⟩=some (.int .i64 k)/\w6.drew.cell? ⟨B7,2,none⟩=some (D Aq ps.length cq)/\w6.drew.cell? ⟨B8,0,none⟩=some (D A' (ai ps).length c'):=⟨HS6.out.bx.c 2 rfl,HB6.out.1.c 0 rfl,HB6.out.1.c 1 rfl,HB6.out.1.c 2 rfl,HB6.out.2.c 0 rfl⟩
   have u6:w6.drew.cell? ⟨G,1,none⟩=some (D AP k cP):=HS6.out.bx.c 1 rfl;refine Ca (xw 11 (fun w'=>w'.cell? ⟨G,1,none⟩=some (D AP k cP)) 13 (fun w'=>w'.cell? ⟨G,2,none⟩=some (D AB k cB)/\w'.cell? ⟨B7,0,none⟩=some (.int .i64 num)/\w'.cell? ⟨B7,1,none⟩=some (.int .i64 k)/\w'.cell? ⟨B7,2,none⟩=some (D Aq ps.length cq)/\w'.cell? ⟨B8,0,none⟩=some (D A' (ai ps).length c'))) (by kernel_rfl) ?_;refine bT _ 13 0 (some 30) (v:=?kv1) rfl rfl (by kernel_rfl) (by kernel_rfl) (by kernel_rfl) (by kernel_rfl) (by kernel_rfl) (fun _ _ _ h=>h) (by rfl) (fun _ _ h hs=>hs.2 h) (xw.put (by decide) (by decide)) ?ky1 (⟨fun _=>u6,fun _=>t6⟩) ?kr1;case ky1=>((intro wk hk);(try dsimp only at hk);go_simp;try with_reducible rfl)
   try simp only[kA]
   refine bT _ 13 5 (some 35) (v:=?kv2) rfl rfl (by kernel_rfl) (by kernel_rfl) (by kernel_rfl) (by kernel_rfl) (by kernel_rfl) (fun _ _ _ h=>h) (by rfl) (fun _ _ h hs=>hs.2 h) (xw.put (by decide) (by decide)) ?ky2 (⟨fun _=>u6,fun _=>t6⟩) ?kr2;case ky2=>((intro wk hk);(try dsimp only at hk);go_simp;try with_reducible rfl)
   try simp only[kA]
   refine bT _ 13 2 (some 32) (v:=?kv3) rfl rfl (by kernel_rfl) (by kernel_rfl) (by kernel_rfl) (by kernel_rfl) (by kernel_rfl) (fun _ _ _ h=>h) (by rfl) (fun _ _ h hs=>hs.2 h) (xw.put (by decide) (by decide)) ?ky3 (⟨fun _=>u6,fun _=>t6⟩) ?kr3;case ky3=>((intro wk hk);(try dsimp only at hk);go_simp;try with_reducible rfl)
   try simp only[kA]
   refine bT _ 13 6 (some 36) (v:=?kv4) rfl rfl (by kernel_rfl) (by kernel_rfl) (by kernel_rfl) (by kernel_rfl) (by kernel_rfl) (fun _ _ _ h=>h) (by rfl) (fun _ _ h hs=>hs.2 h) (xw.put (by decide) (by decide)) ?ky4 (⟨fun _=>u6,fun _=>t6⟩) ?kr4;case ky4=>((intro wk hk);(try dsimp only at hk);go_simp;try with_reducible rfl)
   try simp only[kA]
   refine bT _ 13 7 (some 37) (v:=?kv5) rfl rfl (by kernel_rfl) (by kernel_rfl) (by kernel_rfl) (by kernel_rfl) (by kernel_rfl) (fun _ _ _ h=>h) (by rfl) (fun _ _ h hs=>hs.2 h) (xw.put (by decide) (by decide)) ?ky5 (⟨fun _=>u6,fun _=>t6⟩) ?kr5;case ky5=>((intro wk hk);(try dsimp only at hk);go_simp;try with_reducible rfl)
   try simp only[kA]
   refine bT _ 11 1 (some 31) (v:=?kv6) rfl rfl (by kernel_rfl) (by kernel_rfl) (by kernel_rfl) (by kernel_rfl) (by kernel_rfl) (fun _ _ _ h=>h) (by rfl) (fun _ _ h hs=>hs.1 h) (xw.put (by decide) (by decide)) ?ky6 (⟨fun _=>u6,fun _=>t6⟩) ?kr6;case ky6=>((intro wk hk);(try dsimp only at hk);go_simp;try with_reducible rfl)
   try simp only[kA]
   refine qD 3 8 (by kernel_rfl) rfl rfl (fun K hK=>?_) (fun K hK=>?_)
   ·go_simp;obtain⟨x1,hx1⟩:=nm ((w6.alloc (.cells #[.int .i64 num,.int .i64 k,D Aq ps.length cq] 84)).drew);rw[<-hx1];have ex1:ab w6 x1:=by rw[hx1];exact ((zE _).alloc _).drew
    have L1:Bx (Bk x1 w6.heap.size #[.int .i64 num,.int .i64 k,D Aq ps.length cq] 84):=⟨by rw[hx1];exact (Bk.new w6 _ _).ext ((zE _).drew)⟩
    clear hx1;have HSa1:=bx (HS6.out.ext hlt ex1);have HBa1:Bx (Bk x1 B7 #[.int .i64 num,.int .i64 k,D Aq ps.length cq] 84/\Bk x1 B8 #[D A' (ai ps).length c'] 79):=⟨⟨HB6.out.1.ext ex1,HB6.out.2.ext ex1⟩⟩
    have HOa1:Bx (dZ w.heap.size x1 (D Aq ps.length cq) ps/\dn w.heap.size x1 (D A' (ai ps).length c') (ai ps)):=⟨⟨ao HO6.out.1 ex1,HO6.out.2.ext ex1⟩⟩
    have T1:x1.cell? ⟨G,2,none⟩=some (D AB k cB)/\x1.cell? ⟨B7,0,none⟩=some (.int .i64 num)/\x1.cell? ⟨B7,1,none⟩=some (.int .i64 k)/\x1.cell? ⟨B7,2,none⟩=some (D Aq ps.length cq)/\x1.cell? ⟨B8,0,none⟩=some (D A' (ai ps).length c'):=⟨HSa1.out.bx.c 2 rfl,HBa1.out.1.c 0 rfl,HBa1.out.1.c 1 rfl,HBa1.out.1.c 2 rfl,HBa1.out.2.c 0 rfl⟩
    have U1:=HSa1.out.bx.c 1 rfl;refine hK.out _ _ (⟨fun _=>U1,fun _=>T1⟩) ?_;clear hK K;try simp only[kA]
    refine qD 4 8 (by kernel_rfl) rfl rfl (fun K hK=>?_) (fun K hK=>?_)
    ·refine step_append_lies _ (by rfl) _ _ _ (by rfl) w.heap.size 84 iP _ 3 40 underlying23 hiP hp0 hp1 hp2 rfl (by omega) (D AP k cP) k (ys.map gD).flatten (by rfl) (by have:=HSa1.out.oP.own;rw[HG.out.1]at this;exact this) ⟨w6.heap.size,0,none⟩ 1 1 (gD ((⟨num,k,ps⟩:je),Value.slice Aq ps.length cq)) (by rfl) (by rfl) (World.news_of_block L1.out) (by simp[Value.oneCell',gD]) (by omega) (by unfold maxLen;omega) (by omega) (by have:=HSa1.out.bx.lt;have:=HSa1.out.hG;omega) x1.heap.size rfl ?_;intro g2 c2 x2 hown2 hgrow2 _ hlt2;have HSa2:Bx (aH p w x2 G num (D AP k cP) (D AB k cB) (D none 0 0) (D (some ⟨g2,0,none⟩) (k+1) c2) (D AB k cB) (D none 0 0) (ys++[((⟨num,k,ps⟩:je),Value.slice Aq ps.length cq)]) bs []):=⟨HSa1.out.growP (y:=((⟨num,k,ps⟩:je),Value.slice Aq ps.length cq)) hlt hgrow2 (by rw[HG.out.1];exact hown2) HOa1.out.1⟩
     have HBa2:Bx (Bk x2 B7 #[.int .i64 num,.int .i64 k,D Aq ps.length cq] 84/\Bk x2 B8 #[D A' (ai ps).length c'] 79):=⟨⟨HBa1.out.1.grown hgrow2 HPB.out.1,eo HBa1.out.2 HSa1.out.oP.own (by decide) hgrow2⟩⟩
     have HOa2:Bx (dZ w.heap.size x2 (D Aq ps.length cq) ps/\dn w.heap.size x2 (D A' (ai ps).length c') (ai ps)):=⟨⟨cO HOa1.out.1 HSa1.out.oP.own (by decide) hgrow2,HOa1.out.2.apart HSa1.out.oP.own (by decide) (by decide) hgrow2⟩⟩
     clear hown2 hgrow2;have T2:x2.cell? ⟨G,2,none⟩=some (D AB k cB)/\x2.cell? ⟨B7,0,none⟩=some (.int .i64 num)/\x2.cell? ⟨B7,1,none⟩=some (.int .i64 k)/\x2.cell? ⟨B7,2,none⟩=some (D Aq ps.length cq)/\x2.cell? ⟨B8,0,none⟩=some (D A' (ai ps).length c'):=⟨HSa2.out.bx.c 2 rfl,HBa2.out.1.c 0 rfl,HBa2.out.1.c 1 rfl,HBa2.out.1.c 2 rfl,HBa2.out.2.c 0 rfl⟩
     have U2:=HSa2.out.bx.c 1 rfl;refine hK.out _ _ (⟨fun _=>U2,fun _=>T2⟩) ?_;clear hK K;try simp only[kA]
     refine bT _ 13 10 (some 40) (v:=?kv7) rfl rfl (by kernel_rfl) (by kernel_rfl) (by kernel_rfl) (by kernel_rfl) (by kernel_rfl) (fun _ _ _ h=>h) (by rfl) (fun _ _ h hs=>hs.2 h) (xw.put (by decide) (by decide)) ?ky7 (⟨fun _=>U2,fun _=>T2⟩) ?kr7;case ky7=>((intro wk hk);(try dsimp only at hk);go_simp;try with_reducible rfl)
     try simp only[kA]
     refine cn 8 (by kernel_rfl) rfl (fun K hK=>?_);go_simp;obtain⟨x3,hx3⟩:=nm ((x2.alloc (.cells #[D A' (ai ps).length c'] 79)));rw[<-hx3];have ex3:ab x2 x3:=by rw[hx3];exact (zE _).alloc _
     have L3:Bx (Bk x3 x2.heap.size #[D A' (ai ps).length c'] 79):=⟨by rw[hx3];exact Bk.new x2 _ _⟩
     clear hx3;have HSa3:=bx (HSa2.out.ext hlt ex3);have HBa3:Bx (Bk x3 B7 #[.int .i64 num,.int .i64 k,D Aq ps.length cq] 84/\Bk x3 B8 #[D A' (ai ps).length c'] 79):=⟨⟨HBa2.out.1.ext ex3,HBa2.out.2.ext ex3⟩⟩
     have HOa3:Bx (dZ w.heap.size x3 (D Aq ps.length cq) ps/\dn w.heap.size x3 (D A' (ai ps).length c') (ai ps)):=⟨⟨ao HOa2.out.1 ex3,HOa2.out.2.ext ex3⟩⟩
     have T3:x3.cell? ⟨G,2,none⟩=some (D AB k cB)/\x3.cell? ⟨B7,0,none⟩=some (.int .i64 num)/\x3.cell? ⟨B7,1,none⟩=some (.int .i64 k)/\x3.cell? ⟨B7,2,none⟩=some (D Aq ps.length cq)/\x3.cell? ⟨B8,0,none⟩=some (D A' (ai ps).length c'):=⟨HSa3.out.bx.c 2 rfl,HBa3.out.1.c 0 rfl,HBa3.out.1.c 1 rfl,HBa3.out.1.c 2 rfl,HBa3.out.2.c 0 rfl⟩
     have U3:=HSa3.out.bx.c 1 rfl;refine hK.out _ _ (⟨fun _=>U3,fun _=>T3⟩) ?_;clear hK K;try simp only[kA]
     refine cn 9 (by kernel_rfl) rfl (fun K hK=>?_);refine step_append_lies _ (by rfl) _ _ _ (by rfl) w.heap.size 79 iB _ 1 24 underlying24 hiB hb0 hb1 hb2 rfl (by omega) (D AB k cB) k (bs.map CW).flatten (by rfl) (by have:=HSa3.out.oB.own;rw[HG.out.2.1,HG.out.1]at this;exact this) ⟨x2.heap.size,0,none⟩ 1 1 (CW (ai ps,Value.slice A' (ai ps).length c')) (by rfl) (by rfl) (World.news_of_block L3.out) (by simp[Value.oneCell',CW]) (by omega) (by unfold maxLen;omega) (by omega) (by have:=HSa3.out.bx.lt;have:=HSa3.out.hG;omega) x3.heap.size rfl ?_;intro g4 c4 x4 hown4 hgrow4 _ hlt4;have HSa4:Bx (aH p w x4 G num (D AP k cP) (D AB k cB) (D none 0 0) (D (some ⟨g2,0,none⟩) (k+1) c2) (D (some ⟨g4,0,none⟩) (k+1) c4) (D none 0 0) (ys++[((⟨num,k,ps⟩:je),Value.slice Aq ps.length cq)]) (bs++[(ai ps,Value.slice A' (ai ps).length c')]) []):=⟨HSa3.out.growB (y:=(ai ps,Value.slice A' (ai ps).length c')) hlt hgrow4 (by rw[HG.out.2.1,HG.out.1];exact hown4) HOa3.out.2⟩
     have HBa4:Bx (Bk x4 B7 #[.int .i64 num,.int .i64 k,D Aq ps.length cq] 84/\Bk x4 B8 #[D A' (ai ps).length c'] 79):=⟨⟨eo HBa3.out.1 HSa3.out.oB.own (by decide) hgrow4,HBa3.out.2.grown hgrow4 HPB.out.2⟩⟩
     clear hown4 hgrow4;have T4:x4.cell? ⟨G,2,none⟩=some (D AB k cB)/\x4.cell? ⟨B7,0,none⟩=some (.int .i64 num)/\x4.cell? ⟨B7,1,none⟩=some (.int .i64 k)/\x4.cell? ⟨B7,2,none⟩=some (D Aq ps.length cq)/\x4.cell? ⟨B8,0,none⟩=some (D A' (ai ps).length c'):=⟨HSa4.out.bx.c 2 rfl,HBa4.out.1.c 0 rfl,HBa4.out.1.c 1 rfl,HBa4.out.1.c 2 rfl,HBa4.out.2.c 0 rfl⟩
     have U4:=HSa4.out.bx.c 1 rfl;refine hK.out _ _ (⟨fun _=>U4,fun _=>T4⟩) ?_;clear hK K;try simp only[kA]
     have f1:=HSa4.out.bx.froz 1;refine cn 11 (by kernel_rfl) rfl (fun K hK=>?_);go_simp;have HSs:Bx (aH p w (x4.setCell ⟨G,1,none⟩ (D (some ⟨g2,0,none⟩) (k+1) c2)) G num (D (some ⟨g2,0,none⟩) (k+1) c2) (D AB k cB) (D none 0 0) (D (some ⟨g2,0,none⟩) (k+1) c2) (D (some ⟨g4,0,none⟩) (k+1) c4) (D none 0 0) (ys++[((⟨num,k,ps⟩:je),Value.slice Aq ps.length cq)]) (bs++[(ai ps,Value.slice A' (ai ps).length c')]) []):=⟨HSa4.out.set hlt rfl⟩
     have HBs:Bx (Bk (x4.setCell ⟨G,1,none⟩ (D (some ⟨g2,0,none⟩) (k+1) c2)) B7 #[.int .i64 num,.int .i64 k,D Aq ps.length cq] 84/\Bk (x4.setCell ⟨G,1,none⟩ (D (some ⟨g2,0,none⟩) (k+1) c2)) B8 #[D A' (ai ps).length c'] 79):=⟨⟨HBa4.out.1.far HPG.out.1 _,HBa4.out.2.far HPG.out.2 _⟩⟩
     obtain⟨y1,hy1⟩:=nm (x4.setCell ⟨G,1,none⟩ (D (some ⟨g2,0,none⟩) (k+1) c2));rw[<-hy1]at HSs HBs⊢;clear hy1;have Ts:y1.cell? ⟨G,2,none⟩=some (D AB k cB)/\y1.cell? ⟨B7,0,none⟩=some (.int .i64 num)/\y1.cell? ⟨B7,1,none⟩=some (.int .i64 k)/\y1.cell? ⟨B7,2,none⟩=some (D Aq ps.length cq)/\y1.cell? ⟨B8,0,none⟩=some (D A' (ai ps).length c'):=⟨HSs.out.bx.c 2 rfl,HBs.out.1.c 0 rfl,HBs.out.1.c 1 rfl,HBs.out.1.c 2 rfl,HBs.out.2.c 0 rfl⟩
     refine hK.out _ _ (⟨fh (by kernel_rfl),fun _=>Ts⟩) ?_;clear hK K;try simp only[kA]
     refine bT _ 13 12 (some 41) (v:=?kv8) rfl rfl (by kernel_rfl) (by kernel_rfl) (by kernel_rfl) (by kernel_rfl) (by kernel_rfl) (fun _ _ _ h=>h) (by rfl) (fun _ _ h hs=>hs.2 h) (xw.put (by decide) (by decide)) ?ky8 (⟨fh (by kernel_rfl),fun _=>Ts⟩) ?kr8;case ky8=>((intro wk hk);(try dsimp only at hk);go_simp;try with_reducible rfl)
     try simp only[kA]
     have f3:=HSs.out.bx.froz 2;have d3:=Ts.1;refine cn 13 (by kernel_rfl) rfl (fun K hK=>?_);go_simp;refine hK.out _ _ (⟨fh (by kernel_rfl),fh (by kernel_rfl)⟩) ?_;clear hK K;refine kN (by kernel_rfl) ?_ _;have HSe:Bx (aH p w (y1.setCell ⟨G,2,none⟩ (D (some ⟨g4,0,none⟩) (k+1) c4)) G num (D (some ⟨g2,0,none⟩) (k+1) c2) (D (some ⟨g4,0,none⟩) (k+1) c4) (D none 0 0) (D (some ⟨g2,0,none⟩) (k+1) c2) (D (some ⟨g4,0,none⟩) (k+1) c4) (D none 0 0) (ys++[((⟨num,k,ps⟩:je),Value.slice Aq ps.length cq)]) (bs++[(ai ps,Value.slice A' (ai ps).length c')]) []):=⟨HSs.out.set hlt rfl⟩
     go_wp2_with fail;go_roundw
     case rel=>exact⟨k+1,_,_,_,_,_,_,by go_num,by omega,⟨⟨HSe.out,by simp[HG.out.1],fF.snoc HG.out.2 HG.out.1 HPS.out.1 HPS.out.2⟩⟩⟩
     case measure=>simp[intOf];omega
    ·go_simp;obtain⟨x2,hx2⟩:=nm ((x1.alloc (.cells #[D A' (ai ps).length c'] 79)));rw[<-hx2];have ex2:ab x1 x2:=by rw[hx2];exact (zE _).alloc _
     have L2:Bx (Bk x2 x1.heap.size #[D A' (ai ps).length c'] 79):=⟨by rw[hx2];exact Bk.new x1 _ _⟩
     clear hx2;have HSa2:=bx (HSa1.out.ext hlt ex2);have HBa2:Bx (Bk x2 B7 #[.int .i64 num,.int .i64 k,D Aq ps.length cq] 84/\Bk x2 B8 #[D A' (ai ps).length c'] 79):=⟨⟨HBa1.out.1.ext ex2,HBa1.out.2.ext ex2⟩⟩
     have HOa2:Bx (dZ w.heap.size x2 (D Aq ps.length cq) ps/\dn w.heap.size x2 (D A' (ai ps).length c') (ai ps)):=⟨⟨ao HOa1.out.1 ex2,HOa1.out.2.ext ex2⟩⟩
     have M2:=bx (L1.out.ext ex2);have T2:x2.cell? ⟨G,2,none⟩=some (D AB k cB)/\x2.cell? ⟨B7,0,none⟩=some (.int .i64 num)/\x2.cell? ⟨B7,1,none⟩=some (.int .i64 k)/\x2.cell? ⟨B7,2,none⟩=some (D Aq ps.length cq)/\x2.cell? ⟨B8,0,none⟩=some (D A' (ai ps).length c'):=⟨HSa2.out.bx.c 2 rfl,HBa2.out.1.c 0 rfl,HBa2.out.1.c 1 rfl,HBa2.out.1.c 2 rfl,HBa2.out.2.c 0 rfl⟩
     have U2:=HSa2.out.bx.c 1 rfl;refine hK.out _ _ (⟨fun _=>U2,fun _=>T2⟩) ?_;clear hK K;try simp only[kA]
     refine cn 4 (by kernel_rfl) rfl (fun K hK=>?_);refine step_append_lies _ (by rfl) _ _ _ (by rfl) w.heap.size 84 iP _ 3 40 underlying23 hiP hp0 hp1 hp2 rfl (by omega) (D AP k cP) k (ys.map gD).flatten (by rfl) (by have:=HSa2.out.oP.own;rw[HG.out.1]at this;exact this) ⟨w6.heap.size,0,none⟩ 1 1 (gD ((⟨num,k,ps⟩:je),Value.slice Aq ps.length cq)) (by rfl) (by rfl) (World.news_of_block M2.out) (by simp[Value.oneCell',gD]) (by omega) (by unfold maxLen;omega) (by omega) (by have:=HSa2.out.bx.lt;have:=HSa2.out.hG;omega) x2.heap.size rfl ?_;intro g3 c3 x3 hown3 hgrow3 _ hlt3;have HSa3:Bx (aH p w x3 G num (D AP k cP) (D AB k cB) (D none 0 0) (D (some ⟨g3,0,none⟩) (k+1) c3) (D AB k cB) (D none 0 0) (ys++[((⟨num,k,ps⟩:je),Value.slice Aq ps.length cq)]) bs []):=⟨HSa2.out.growP (y:=((⟨num,k,ps⟩:je),Value.slice Aq ps.length cq)) hlt hgrow3 (by rw[HG.out.1];exact hown3) HOa2.out.1⟩
     have HBa3:Bx (Bk x3 B7 #[.int .i64 num,.int .i64 k,D Aq ps.length cq] 84/\Bk x3 B8 #[D A' (ai ps).length c'] 79):=⟨⟨HBa2.out.1.grown hgrow3 HPB.out.1,eo HBa2.out.2 HSa2.out.oP.own (by decide) hgrow3⟩⟩
     have HOa3:Bx (dZ w.heap.size x3 (D Aq ps.length cq) ps/\dn w.heap.size x3 (D A' (ai ps).length c') (ai ps)):=⟨⟨cO HOa2.out.1 HSa2.out.oP.own (by decide) hgrow3,HOa2.out.2.apart HSa2.out.oP.own (by decide) (by decide) hgrow3⟩⟩
     have M3:Bx (Bk x3 x1.heap.size #[D A' (ai ps).length c'] 79):=⟨eo L2.out HSa2.out.oP.own (by decide) hgrow3⟩
     clear hown3 hgrow3;have T3:x3.cell? ⟨G,2,none⟩=some (D AB k cB)/\x3.cell? ⟨B7,0,none⟩=some (.int .i64 num)/\x3.cell? ⟨B7,1,none⟩=some (.int .i64 k)/\x3.cell? ⟨B7,2,none⟩=some (D Aq ps.length cq)/\x3.cell? ⟨B8,0,none⟩=some (D A' (ai ps).length c'):=⟨HSa3.out.bx.c 2 rfl,HBa3.out.1.c 0 rfl,HBa3.out.1.c 1 rfl,HBa3.out.1.c 2 rfl,HBa3.out.2.c 0 rfl⟩
     have U3:=HSa3.out.bx.c 1 rfl;refine hK.out _ _ (⟨fun _=>U3,fun _=>T3⟩) ?_;clear hK K;try simp only[kA]
     refine bT _ 13 10 (some 40) (v:=?kv9) rfl rfl (by kernel_rfl) (by kernel_rfl) (by kernel_rfl) (by kernel_rfl) (by kernel_rfl) (fun _ _ _ h=>h) (by rfl) (fun _ _ h hs=>hs.2 h) (xw.put (by decide) (by decide)) ?ky9 (⟨fun _=>U3,fun _=>T3⟩) ?kr9;case ky9=>((intro wk hk);(try dsimp only at hk);go_simp;try with_reducible rfl)
     try simp only[kA]
     refine cn 9 (by kernel_rfl) rfl (fun K hK=>?_);refine step_append_lies _ (by rfl) _ _ _ (by rfl) w.heap.size 79 iB _ 1 24 underlying24 hiB hb0 hb1 hb2 rfl (by omega) (D AB k cB) k (bs.map CW).flatten (by rfl) (by have:=HSa3.out.oB.own;rw[HG.out.2.1,HG.out.1]at this;exact this) ⟨x1.heap.size,0,none⟩ 1 1 (CW (ai ps,Value.slice A' (ai ps).length c')) (by rfl) (by rfl) (World.news_of_block M3.out) (by simp[Value.oneCell',CW]) (by omega) (by unfold maxLen;omega) (by omega) (by have:=HSa3.out.bx.lt;have:=HSa3.out.hG;omega) x3.heap.size rfl ?_;intro g4 c4 x4 hown4 hgrow4 _ hlt4;have HSa4:Bx (aH p w x4 G num (D AP k cP) (D AB k cB) (D none 0 0) (D (some ⟨g3,0,none⟩) (k+1) c3) (D (some ⟨g4,0,none⟩) (k+1) c4) (D none 0 0) (ys++[((⟨num,k,ps⟩:je),Value.slice Aq ps.length cq)]) (bs++[(ai ps,Value.slice A' (ai ps).length c')]) []):=⟨HSa3.out.growB (y:=(ai ps,Value.slice A' (ai ps).length c')) hlt hgrow4 (by rw[HG.out.2.1,HG.out.1];exact hown4) HOa3.out.2⟩
     have HBa4:Bx (Bk x4 B7 #[.int .i64 num,.int .i64 k,D Aq ps.length cq] 84/\Bk x4 B8 #[D A' (ai ps).length c'] 79):=⟨⟨eo HBa3.out.1 HSa3.out.oB.own (by decide) hgrow4,HBa3.out.2.grown hgrow4 HPB.out.2⟩⟩
     clear hown4 hgrow4;have T4:x4.cell? ⟨G,2,none⟩=some (D AB k cB)/\x4.cell? ⟨B7,0,none⟩=some (.int .i64 num)/\x4.cell? ⟨B7,1,none⟩=some (.int .i64 k)/\x4.cell? ⟨B7,2,none⟩=some (D Aq ps.length cq)/\x4.cell? ⟨B8,0,none⟩=some (D A' (ai ps).length c'):=⟨HSa4.out.bx.c 2 rfl,HBa4.out.1.c 0 rfl,HBa4.out.1.c 1 rfl,HBa4.out.1.c 2 rfl,HBa4.out.2.c 0 rfl⟩
     have U4:=HSa4.out.bx.c 1 rfl;refine hK.out _ _ (⟨fun _=>U4,fun _=>T4⟩) ?_;clear hK K;try simp only[kA]
     have f1:=HSa4.out.bx.froz 1;refine cn 11 (by kernel_rfl) rfl (fun K hK=>?_);go_simp;have HSs:Bx (aH p w (x4.setCell ⟨G,1,none⟩ (D (some ⟨g3,0,none⟩) (k+1) c3)) G num (D (some ⟨g3,0,none⟩) (k+1) c3) (D AB k cB) (D none 0 0) (D (some ⟨g3,0,none⟩) (k+1) c3) (D (some ⟨g4,0,none⟩) (k+1) c4) (D none 0 0) (ys++[((⟨num,k,ps⟩:je),Value.slice Aq ps.length cq)]) (bs++[(ai ps,Value.slice A' (ai ps).length c')]) []):=⟨HSa4.out.set hlt rfl⟩
     have HBs:Bx (Bk (x4.setCell ⟨G,1,none⟩ (D (some ⟨g3,0,none⟩) (k+1) c3)) B7 #[.int .i64 num,.int .i64 k,D Aq ps.length cq] 84/\Bk (x4.setCell ⟨G,1,none⟩ (D (some ⟨g3,0,none⟩) (k+1) c3)) B8 #[D A' (ai ps).length c'] 79):=⟨⟨HBa4.out.1.far HPG.out.1 _,HBa4.out.2.far HPG.out.2 _⟩⟩
     obtain⟨y1,hy1⟩:=nm (x4.setCell ⟨G,1,none⟩ (D (some ⟨g3,0,none⟩) (k+1) c3));rw[<-hy1]at HSs HBs⊢;clear hy1;have Ts:y1.cell? ⟨G,2,none⟩=some (D AB k cB)/\y1.cell? ⟨B7,0,none⟩=some (.int .i64 num)/\y1.cell? ⟨B7,1,none⟩=some (.int .i64 k)/\y1.cell? ⟨B7,2,none⟩=some (D Aq ps.length cq)/\y1.cell? ⟨B8,0,none⟩=some (D A' (ai ps).length c'):=⟨HSs.out.bx.c 2 rfl,HBs.out.1.c 0 rfl,HBs.out.1.c 1 rfl,HBs.out.1.c 2 rfl,HBs.out.2.c 0 rfl⟩
     refine hK.out _ _ (⟨fh (by kernel_rfl),fun _=>Ts⟩) ?_;clear hK K;try simp only[kA]
     refine bT _ 13 12 (some 41) (v:=?kv10) rfl rfl (by kernel_rfl) (by kernel_rfl) (by kernel_rfl) (by kernel_rfl) (by kernel_rfl) (fun _ _ _ h=>h) (by rfl) (fun _ _ h hs=>hs.2 h) (xw.put (by decide) (by decide)) ?ky10 (⟨fh (by kernel_rfl),fun _=>Ts⟩) ?kr10;case ky10=>((intro wk hk);(try dsimp only at hk);go_simp;try with_reducible rfl)
     try simp only[kA]
     have f3:=HSs.out.bx.froz 2;have d3:=Ts.1;refine cn 13 (by kernel_rfl) rfl (fun K hK=>?_);go_simp;refine hK.out _ _ (⟨fh (by kernel_rfl),fh (by kernel_rfl)⟩) ?_;clear hK K;refine kN (by kernel_rfl) ?_ _;have HSe:Bx (aH p w (y1.setCell ⟨G,2,none⟩ (D (some ⟨g4,0,none⟩) (k+1) c4)) G num (D (some ⟨g3,0,none⟩) (k+1) c3) (D (some ⟨g4,0,none⟩) (k+1) c4) (D none 0 0) (D (some ⟨g3,0,none⟩) (k+1) c3) (D (some ⟨g4,0,none⟩) (k+1) c4) (D none 0 0) (ys++[((⟨num,k,ps⟩:je),Value.slice Aq ps.length cq)]) (bs++[(ai ps,Value.slice A' (ai ps).length c')]) []):=⟨HSs.out.set hlt rfl⟩
     go_wp2_with fail;go_roundw
     case rel=>exact⟨k+1,_,_,_,_,_,_,by go_num,by omega,⟨⟨HSe.out,by simp[HG.out.1],fF.snoc HG.out.2 HG.out.1 HPS.out.1 HPS.out.2⟩⟩⟩
     case measure=>simp[intOf];omega
   ·go_simp;obtain⟨x1,hx1⟩:=nm ((w6.alloc (.cells #[D A' (ai ps).length c'] 79)).drew);rw[<-hx1];have ex1:ab w6 x1:=by rw[hx1];exact ((zE _).alloc _).drew
    have L1:Bx (Bk x1 w6.heap.size #[D A' (ai ps).length c'] 79):=⟨by rw[hx1];exact (Bk.new w6 _ _).ext ((zE _).drew)⟩
    clear hx1;have HSa1:=bx (HS6.out.ext hlt ex1);have HBa1:Bx (Bk x1 B7 #[.int .i64 num,.int .i64 k,D Aq ps.length cq] 84/\Bk x1 B8 #[D A' (ai ps).length c'] 79):=⟨⟨HB6.out.1.ext ex1,HB6.out.2.ext ex1⟩⟩
    have HOa1:Bx (dZ w.heap.size x1 (D Aq ps.length cq) ps/\dn w.heap.size x1 (D A' (ai ps).length c') (ai ps)):=⟨⟨ao HO6.out.1 ex1,HO6.out.2.ext ex1⟩⟩
    have T1:x1.cell? ⟨G,2,none⟩=some (D AB k cB)/\x1.cell? ⟨B7,0,none⟩=some (.int .i64 num)/\x1.cell? ⟨B7,1,none⟩=some (.int .i64 k)/\x1.cell? ⟨B7,2,none⟩=some (D Aq ps.length cq)/\x1.cell? ⟨B8,0,none⟩=some (D A' (ai ps).length c'):=⟨HSa1.out.bx.c 2 rfl,HBa1.out.1.c 0 rfl,HBa1.out.1.c 1 rfl,HBa1.out.1.c 2 rfl,HBa1.out.2.c 0 rfl⟩
    have U1:=HSa1.out.bx.c 1 rfl;refine hK.out _ _ (⟨fun _=>U1,fun _=>T1⟩) ?_;clear hK K;try simp only[kA]
    refine cn 3 (by kernel_rfl) rfl (fun K hK=>?_);go_simp;obtain⟨x2,hx2⟩:=nm ((x1.alloc (.cells #[.int .i64 num,.int .i64 k,D Aq ps.length cq] 84)));rw[<-hx2];have ex2:ab x1 x2:=by rw[hx2];exact (zE _).alloc _
    have L2:Bx (Bk x2 x1.heap.size #[.int .i64 num,.int .i64 k,D Aq ps.length cq] 84):=⟨by rw[hx2];exact Bk.new x1 _ _⟩
    clear hx2;have HSa2:=bx (HSa1.out.ext hlt ex2);have HBa2:Bx (Bk x2 B7 #[.int .i64 num,.int .i64 k,D Aq ps.length cq] 84/\Bk x2 B8 #[D A' (ai ps).length c'] 79):=⟨⟨HBa1.out.1.ext ex2,HBa1.out.2.ext ex2⟩⟩
    have HOa2:Bx (dZ w.heap.size x2 (D Aq ps.length cq) ps/\dn w.heap.size x2 (D A' (ai ps).length c') (ai ps)):=⟨⟨ao HOa1.out.1 ex2,HOa1.out.2.ext ex2⟩⟩
    have M2:=bx (L1.out.ext ex2);have T2:x2.cell? ⟨G,2,none⟩=some (D AB k cB)/\x2.cell? ⟨B7,0,none⟩=some (.int .i64 num)/\x2.cell? ⟨B7,1,none⟩=some (.int .i64 k)/\x2.cell? ⟨B7,2,none⟩=some (D Aq ps.length cq)/\x2.cell? ⟨B8,0,none⟩=some (D A' (ai ps).length c'):=⟨HSa2.out.bx.c 2 rfl,HBa2.out.1.c 0 rfl,HBa2.out.1.c 1 rfl,HBa2.out.1.c 2 rfl,HBa2.out.2.c 0 rfl⟩
    have U2:=HSa2.out.bx.c 1 rfl;refine hK.out _ _ (⟨fun _=>U2,fun _=>T2⟩) ?_;clear hK K;try simp only[kA]
    refine cn 4 (by kernel_rfl) rfl (fun K hK=>?_);refine step_append_lies _ (by rfl) _ _ _ (by rfl) w.heap.size 84 iP _ 3 40 underlying23 hiP hp0 hp1 hp2 rfl (by omega) (D AP k cP) k (ys.map gD).flatten (by rfl) (by have:=HSa2.out.oP.own;rw[HG.out.1]at this;exact this) ⟨x1.heap.size,0,none⟩ 1 1 (gD ((⟨num,k,ps⟩:je),Value.slice Aq ps.length cq)) (by rfl) (by rfl) (World.news_of_block L2.out) (by simp[Value.oneCell',gD]) (by omega) (by unfold maxLen;omega) (by omega) (by have:=HSa2.out.bx.lt;have:=HSa2.out.hG;omega) x2.heap.size rfl ?_;intro g3 c3 x3 hown3 hgrow3 _ hlt3;have HSa3:Bx (aH p w x3 G num (D AP k cP) (D AB k cB) (D none 0 0) (D (some ⟨g3,0,none⟩) (k+1) c3) (D AB k cB) (D none 0 0) (ys++[((⟨num,k,ps⟩:je),Value.slice Aq ps.length cq)]) bs []):=⟨HSa2.out.growP (y:=((⟨num,k,ps⟩:je),Value.slice Aq ps.length cq)) hlt hgrow3 (by rw[HG.out.1];exact hown3) HOa2.out.1⟩
    have HBa3:Bx (Bk x3 B7 #[.int .i64 num,.int .i64 k,D Aq ps.length cq] 84/\Bk x3 B8 #[D A' (ai ps).length c'] 79):=⟨⟨HBa2.out.1.grown hgrow3 HPB.out.1,eo HBa2.out.2 HSa2.out.oP.own (by decide) hgrow3⟩⟩
    have HOa3:Bx (dZ w.heap.size x3 (D Aq ps.length cq) ps/\dn w.heap.size x3 (D A' (ai ps).length c') (ai ps)):=⟨⟨cO HOa2.out.1 HSa2.out.oP.own (by decide) hgrow3,HOa2.out.2.apart HSa2.out.oP.own (by decide) (by decide) hgrow3⟩⟩
    have M3:Bx (Bk x3 w6.heap.size #[D A' (ai ps).length c'] 79):=⟨eo M2.out HSa2.out.oP.own (by decide) hgrow3⟩
    clear hown3 hgrow3;have T3:x3.cell? ⟨G,2,none⟩=some (D AB k cB)/\x3.cell? ⟨B7,0,none⟩=some (.int .i64 num)/\x3.cell? ⟨B7,1,none⟩=some (.int .i64 k)/\x3.cell? ⟨B7,2,none⟩=some (D Aq ps.length cq)/\x3.cell? ⟨B8,0,none⟩=some (D A' (ai ps).length c'):=⟨HSa3.out.bx.c 2 rfl,HBa3.out.1.c 0 rfl,HBa3.out.1.c 1 rfl,HBa3.out.1.c 2 rfl,HBa3.out.2.c 0 rfl⟩
    have U3:=HSa3.out.bx.c 1 rfl;refine hK.out _ _ (⟨fun _=>U3,fun _=>T3⟩) ?_;clear hK K;try simp only[kA]
    refine bT _ 13 10 (some 40) (v:=?kv11) rfl rfl (by kernel_rfl) (by kernel_rfl) (by kernel_rfl) (by kernel_rfl) (by kernel_rfl) (fun _ _ _ h=>h) (by rfl) (fun _ _ h hs=>hs.2 h) (xw.put (by decide) (by decide)) ?ky11 (⟨fun _=>U3,fun _=>T3⟩) ?kr11;case ky11=>((intro wk hk);(try dsimp only at hk);go_simp;try with_reducible rfl)
    try simp only[kA]
    refine cn 9 (by kernel_rfl) rfl (fun K hK=>?_);refine step_append_lies _ (by rfl) _ _ _ (by rfl) w.heap.size 79 iB _ 1 24 underlying24 hiB hb0 hb1 hb2 rfl (by omega) (D AB k cB) k (bs.map CW).flatten (by rfl) (by have:=HSa3.out.oB.own;rw[HG.out.2.1,HG.out.1]at this;exact this) ⟨w6.heap.size,0,none⟩ 1 1 (CW (ai ps,Value.slice A' (ai ps).length c')) (by rfl) (by rfl) (World.news_of_block M3.out) (by simp[Value.oneCell',CW]) (by omega) (by unfold maxLen;omega) (by omega) (by have:=HSa3.out.bx.lt;have:=HSa3.out.hG;omega) x3.heap.size rfl ?_;intro g4 c4 x4 hown4 hgrow4 _ hlt4;have HSa4:Bx (aH p w x4 G num (D AP k cP) (D AB k cB) (D none 0 0) (D (some ⟨g3,0,none⟩) (k+1) c3) (D (some ⟨g4,0,none⟩) (k+1) c4) (D none 0 0) (ys++[((⟨num,k,ps⟩:je),Value.slice Aq ps.length cq)]) (bs++[(ai ps,Value.slice A' (ai ps).length c')]) []):=⟨HSa3.out.growB (y:=(ai ps,Value.slice A' (ai ps).length c')) hlt hgrow4 (by rw[HG.out.2.1,HG.out.1];exact hown4) HOa3.out.2⟩
    have HBa4:Bx (Bk x4 B7 #[.int .i64 num,.int .i64 k,D Aq ps.length cq] 84/\Bk x4 B8 #[D A' (ai ps).length c'] 79):=⟨⟨eo HBa3.out.1 HSa3.out.oB.own (by decide) hgrow4,HBa3.out.2.grown hgrow4 HPB.out.2⟩⟩
    clear hown4 hgrow4;have T4:x4.cell? ⟨G,2,none⟩=some (D AB k cB)/\x4.cell? ⟨B7,0,none⟩=some (.int .i64 num)/\x4.cell? ⟨B7,1,none⟩=some (.int .i64 k)/\x4.cell? ⟨B7,2,none⟩=some (D Aq ps.length cq)/\x4.cell? ⟨B8,0,none⟩=some (D A' (ai ps).length c'):=⟨HSa4.out.bx.c 2 rfl,HBa4.out.1.c 0 rfl,HBa4.out.1.c 1 rfl,HBa4.out.1.c 2 rfl,HBa4.out.2.c 0 rfl⟩
    have U4:=HSa4.out.bx.c 1 rfl;refine hK.out _ _ (⟨fun _=>U4,fun _=>T4⟩) ?_;clear hK K;try simp only[kA]
    have f1:=HSa4.out.bx.froz 1;refine cn 11 (by kernel_rfl) rfl (fun K hK=>?_);go_simp;have HSs:Bx (aH p w (x4.setCell ⟨G,1,none⟩ (D (some ⟨g3,0,none⟩) (k+1) c3)) G num (D (some ⟨g3,0,none⟩) (k+1) c3) (D AB k cB) (D none 0 0) (D (some ⟨g3,0,none⟩) (k+1) c3) (D (some ⟨g4,0,none⟩) (k+1) c4) (D none 0 0) (ys++[((⟨num,k,ps⟩:je),Value.slice Aq ps.length cq)]) (bs++[(ai ps,Value.slice A' (ai ps).length c')]) []):=⟨HSa4.out.set hlt rfl⟩
    have HBs:Bx (Bk (x4.setCell ⟨G,1,none⟩ (D (some ⟨g3,0,none⟩) (k+1) c3)) B7 #[.int .i64 num,.int .i64 k,D Aq ps.length cq] 84/\Bk (x4.setCell ⟨G,1,none⟩ (D (some ⟨g3,0,none⟩) (k+1) c3)) B8 #[D A' (ai ps).length c'] 79):=⟨⟨HBa4.out.1.far HPG.out.1 _,HBa4.out.2.far HPG.out.2 _⟩⟩
    obtain⟨y1,hy1⟩:=nm (x4.setCell ⟨G,1,none⟩ (D (some ⟨g3,0,none⟩) (k+1) c3));rw[<-hy1]at HSs HBs⊢;clear hy1;have Ts:y1.cell? ⟨G,2,none⟩=some (D AB k cB)/\y1.cell? ⟨B7,0,none⟩=some (.int .i64 num)/\y1.cell? ⟨B7,1,none⟩=some (.int .i64 k)/\y1.cell? ⟨B7,2,none⟩=some (D Aq ps.length cq)/\y1.cell? ⟨B8,0,none⟩=some (D A' (ai ps).length c'):=⟨HSs.out.bx.c 2 rfl,HBs.out.1.c 0 rfl,HBs.out.1.c 1 rfl,HBs.out.1.c 2 rfl,HBs.out.2.c 0 rfl⟩
    refine hK.out _ _ (⟨fh (by kernel_rfl),fun _=>Ts⟩) ?_;clear hK K;try simp only[kA]
    refine bT _ 13 12 (some 41) (v:=?kv12) rfl rfl (by kernel_rfl) (by kernel_rfl) (by kernel_rfl) (by kernel_rfl) (by kernel_rfl) (fun _ _ _ h=>h) (by rfl) (fun _ _ h hs=>hs.2 h) (xw.put (by decide) (by decide)) ?ky12 (⟨fh (by kernel_rfl),fun _=>Ts⟩) ?kr12;case ky12=>((intro wk hk);(try dsimp only at hk);go_simp;try with_reducible rfl)
    try simp only[kA]
    have f3:=HSs.out.bx.froz 2;have d3:=Ts.1;refine cn 13 (by kernel_rfl) rfl (fun K hK=>?_);go_simp;refine hK.out _ _ (⟨fh (by kernel_rfl),fh (by kernel_rfl)⟩) ?_;clear hK K;refine kN (by kernel_rfl) ?_ _;have HSe:Bx (aH p w (y1.setCell ⟨G,2,none⟩ (D (some ⟨g4,0,none⟩) (k+1) c4)) G num (D (some ⟨g3,0,none⟩) (k+1) c3) (D (some ⟨g4,0,none⟩) (k+1) c4) (D none 0 0) (D (some ⟨g3,0,none⟩) (k+1) c3) (D (some ⟨g4,0,none⟩) (k+1) c4) (D none 0 0) (ys++[((⟨num,k,ps⟩:je),Value.slice Aq ps.length cq)]) (bs++[(ai ps,Value.slice A' (ai ps).length c')]) []):=⟨HSs.out.set hlt rfl⟩
    go_wp2_with fail;go_roundw
    case rel=>exact⟨k+1,_,_,_,_,_,_,by go_num,by omega,⟨⟨HSe.out,by simp[HG.out.1],fF.snoc HG.out.2 HG.out.1 HPS.out.1 HPS.out.2⟩⟩⟩
    case measure=>simp[intOf];omega
  ·
   have hk1:1<=k:=by omega
   have HX0:Bx (aH p w w2 G num (D AP k cP) (D AB k cB) (D none 0 0) (D AP k cP) (D AB k cB) (D none 0 0) ys bs []/\kM 0 k []):=⟨⟨HS2.out,kM.nil k⟩⟩
   clear HS2;go_wp2_with fail;clear hkr hr1 hr2;go_loopw [10] (fun s10 wr=>∃(i m:Nat) (AX:Option Addr) (cX:Nat) (xs:List fv),s10=.int .i64 i/\i<=4/\m<=i/\Bx (aH p w wr G num (D AP k cP) (D AB k cB) (D AX m cX) (D AP k cP) (D AB k cB) (D AX m cX) ys bs xs/\kM i k xs/\xs.length=m)) (fun i _=>4-(intOf i).toNat)
   case atStart=>exact⟨0,0,none,0,[],rfl,by omega,by omega,⟨⟨HX0.out.1,HX0.out.2,rfl⟩⟩⟩
   case round =>
    obtain⟨i,m,AX,cX,xs,rfl,hi,hm,HR⟩:=hrel;clear HX0;by_cases hi4:i<4
    ·go_wp2_with fail;refine (am p 4 _ HR.out.1.tp (by omega)).mono ?_;rintro e w3 ⟨v3,rfl,⟨r3,rfl,hr1,hr2⟩,HT3,HX3⟩;have HS3:=bx (HR.out.1.step hlt HX3 HT3);have HXO:Bx (kM i k xs/\xs.length=m):=⟨HR.out.2⟩
     clear HR HT3 HX3;by_cases hr0:0<r3
     ·have hS:w3.drew.cell? ⟨G,3,none⟩=some (D AX m cX)/\w3.drew.cell? ⟨G,1,none⟩=some (D AP k cP):=⟨HS3.out.bx.c 3 rfl,HS3.out.bx.c 1 rfl⟩
      go_upto_region 12 with (fail)
      refine zR 14 (fun w'=>w'.cell? ⟨G,3,none⟩=some (D AX m cX)/\w'.cell? ⟨G,1,none⟩=some (D AP k cP)) ?_;refine zS 8 [(0,49),(1,50),(2,51),(3,52),(5,54),(6,55),(7,56),(8,57)] hS ?_;iterate 8 refine zT ?_
      refine zN (zO 4 (fun K hK=>?_));go_simp;refine (az p 1 2 _ (HS3.out.tp.ext (zE _).drew) (by omega) (by omega) (by omega) (by omega)).mono ?_;rintro e w4 ⟨v4,rfl,⟨cen,rfl,hc1,hc2⟩,HT4,HX4⟩;have HS4:=bx (HS3.out.step hlt ((XT.drew (XT.refl _ _)).trans HX4) HT4);clear HT4 HX4 hS;have hS:w4.cell? ⟨G,3,none⟩=some (D AX m cX)/\w4.cell? ⟨G,1,none⟩=some (D AP k cP):=⟨HS4.out.bx.c 3 rfl,HS4.out.bx.c 1 rfl⟩
      refine hK.out _ _ (fun _=>hS) ?_;clear hK K;try simp only[kA]
      refine zO 9 (fun K hK=>?_);go_simp;refine (am p _ _ HS4.out.tp (by omega)).mono ?_;rintro e w5 ⟨v5,rfl,⟨var,rfl,hv1,hv2⟩,HT5,HX5⟩;have HS5:=bx (HS4.out.step hlt HX5 HT5);clear HT5 HX5 hS;have hS:w5.cell? ⟨G,3,none⟩=some (D AX m cX)/\w5.cell? ⟨G,1,none⟩=some (D AP k cP):=⟨HS5.out.bx.c 3 rfl,HS5.out.bx.c 1 rfl⟩
      refine hK.out _ _ (fun _=>hS) ?_;clear hK K;try simp only[kA]
      refine zS 1 [(10,59)] hS ?_;refine zT ?_;refine zN (zO 11 (fun K hK=>?_));go_simp;obtain⟨w6,hw6⟩:=nm (w5.alloc (.cells #[.int .i64 i,.int .i64 cen,.int .i64 var] 90));rw[<-hw6];have e6:ab w5 w6:=by rw[hw6];exact (zE _).alloc _
      have L6:Bx (Bk w6 w5.heap.size #[.int .i64 i,.int .i64 cen,.int .i64 var] 90):=⟨by rw[hw6];exact Bk.new w5 _ _⟩
      have HS6:=bx (HS5.out.ext hlt e6);clear hw6 e6 hS;have hS:w6.cell? ⟨G,3,none⟩=some (D AX m cX)/\w6.cell? ⟨G,1,none⟩=some (D AP k cP):=⟨HS6.out.bx.c 3 rfl,HS6.out.bx.c 1 rfl⟩
      refine hK.out _ _ (fun _=>hS) ?_;clear hK K;try simp only[kA]
      refine zO 12 (fun K hK=>?_);refine step_append_lies _ (by rfl) _ _ _ (by rfl) w.heap.size 90 iX _ 3 24 underlying25 hiX hx0 hx1 hx2 rfl (by omega) (D AX m cX) m (xs.map fv.cells).flatten (by rfl) (by have:=HS6.out.oX.own;rw[HXO.out.2]at this;exact this) ⟨w5.heap.size,0,none⟩ 1 1 (fv.cells ⟨i,cen,var⟩) (by rfl) (by rfl) (World.news_of_block L6.out) (by simp[Value.oneCell',fv.cells]) (by omega) (by unfold maxLen;omega) (by omega) (by have:=HS6.out.bx.lt;have:=HS6.out.hG;omega) w6.heap.size rfl ?_;intro g7 c7 w7 hown7 hgrow7 _ hlt7;have HS7:Bx (aH p w w7 G num (D AP k cP) (D AB k cB) (D AX m cX) (D AP k cP) (D AB k cB) (D (some ⟨g7,0,none⟩) (m+1) c7) ys bs (xs++[⟨i,cen,var⟩])):=⟨HS6.out.growX hlt hgrow7 (by rw[HXO.out.2];exact hown7)⟩
      clear hown7 hgrow7 hS;have hS:w7.cell? ⟨G,3,none⟩=some (D AX m cX)/\w7.cell? ⟨G,1,none⟩=some (D AP k cP):=⟨HS7.out.bx.c 3 rfl,HS7.out.bx.c 1 rfl⟩
      refine hK.out _ _ (fun _=>hS) ?_;clear hK K;try simp only[kA]
      refine zS 1 [(13,62)] hS ?_;refine zT ?_;refine zN ?_;have f3:=HS7.out.bx.froz 3;have d3:=hS.1;refine zO 14 (fun K hK=>?_);go_simp;refine hK.out _ _ (fun h=>absurd rfl h) ?_;clear hK K;refine zD ?_;have HS8:Bx (aH p w (w7.setCell ⟨G,3,none⟩ (D (some ⟨g7,0,none⟩) (m+1) c7)) G num (D AP k cP) (D AB k cB) (D (some ⟨g7,0,none⟩) (m+1) c7) (D AP k cP) (D AB k cB) (D (some ⟨g7,0,none⟩) (m+1) c7) ys bs (xs++[⟨i,cen,var⟩])):=⟨HS7.out.set hlt rfl⟩
      go_wp2_with fail;go_roundw
      case rel=>exact⟨i+1,m+1,_,_,_,by go_num,by omega,by omega,⟨⟨HS8.out,kM.snoc HXO.out.1 ⟨by omega,by omega⟩ ⟨by omega,by omega⟩,by simp[HXO.out.2]⟩⟩⟩
      case measure=>simp[intOf];omega
     ·go_wp2_with fail;go_roundw
      case rel=>exact⟨i+1,m,_,_,_,by go_num,by omega,by omega,⟨⟨HS3.out,kM.skip HXO.out.1,HXO.out.2⟩⟩⟩
      case measure=>simp[intOf];omega
    ·obtain rfl:i=4:=by omega
     have HW:Bx (CK ys/\FI 2 bs/\Kv 4 xs):=⟨⟨(HG.out.2.wf ⟨by omega,by omega⟩ (by have:=HG.out.1;omega)).1,(HG.out.2.wf ⟨by omega,by omega⟩ (by have:=HG.out.1;omega)).2,HR.out.2.1.wf (by omega)⟩⟩
     have HOK:Bx (dU ⟨num,ys.map Prod.fst,bs.map Prod.fst,xs⟩):=⟨KQ ⟨by omega,by omega⟩ HG.out.2 HG.out.1 ⟨by omega,by omega⟩ HR.out.2.1⟩
     have HXL:Bx (xs.length=m):=⟨HR.out.2.2⟩
     have HS9:Bx (aH p w wr G num (D AP k cP) (D AB k cB) (D AX m cX) (D AP k cP) (D AB k cB) (D AX m cX) ys bs xs):=⟨HR.out.1⟩
     clear HR;go_upto_region 13 with (fail)
     go_cut [69] (fun s69 wx=>∃b:Bool,s69=.bool b/\Bx ((b=true->0<n)/\aH p w wx G num (D AP k cP) (D AB k cB) (D AX m cX) (D AP k cP) (D AB k cB) (D AX m cX) ys bs xs))
     case first =>
      by_cases hnp:0<n
      ·go_wp2_with fail;refine (fe p n _ HS9.out.tp (by omega) (by omega)).mono ?_;rintro e w3 ⟨v3,rfl,⟨b,rfl⟩,HT3,HX3⟩;go_wp2_with fail;go_meet
       exact⟨b,rfl,⟨fun _=>hnp,HS9.out.step hlt HX3 HT3⟩⟩
      ·go_wp2_with fail;go_meet
       exact⟨false,rfl,⟨(fun h=>by cases h),HS9.out⟩⟩
     case rest =>
     obtain⟨b,rfl,HR3⟩:=hcut;clear HS9;have HS3:Bx (aH p w wc G num (D AP k cP) (D AB k cB) (D AX m cX) (D AP k cP) (D AB k cB) (D AX m cX) ys bs xs):=⟨HR3.out.2⟩
     have HN3:Bx (b=true->0<n):=⟨HR3.out.1⟩
     clear HR3;go_upto_if 69 with (fail)
     go_cut [] (fun wx=>Bx (LB p w wx G n))
     case first =>
      cases b with
      |false =>
       go_wp2_with fail;go_meet
       exact⟨⟨_,_,_,_,_,_,_,_,_,_,_,_,_,HS3.out,kB ⟨by omega,by omega⟩ HW.out.1 ⟨by have:=HW.out.2.1.1;omega,HW.out.2.1.2⟩ ⟨by have:=HW.out.2.2.1;omega,HW.out.2.2.2⟩,fun _=>HOK.out⟩⟩
      |true =>
       have hnp:0<n:=HN3.out rfl;go_wp2_with fail;refine (am p 5 _ HS3.out.tp (by omega)).mono ?_;rintro e w4 ⟨v4,rfl,⟨r4,rfl,hr1,hr2⟩,HT4,HX4⟩;have HS4:=bx (HS3.out.step hlt HX4 HT4);clear HS3 HT4 HX4;by_cases c0:r4=0
       ·subst c0;have k0:((0:Int)==0)=true:=rfl;go_wp2_with fail;refine (dt p _ [-1,0,1,31,32] _ (HS4.out.tp.ext ((zE _).alloc _)) (ak.lit _ _ (by have:=HS4.out.bx.lt;have:=HS4.out.hG;omega) (by decide) (by decide)) (by simp)).mono ?_;rintro e w5 ⟨v5,rfl,⟨x,rfl,hx⟩,HT5,HX5⟩;have hxb:-1<=x/\x<=32:=by simp at hx;omega
        have HS5:Bx (aH p w w5 G num (D AP k cP) (D AB k cB) (D AX m cX) (D AP k cP) (D AB k cB) (D AX m cX) ys bs xs):=⟨(HS4.out.ext hlt ((zE _).alloc _)).step hlt HX5 HT5⟩
        clear HS4 HT5 HX5 hx;have q0:=HS5.out.bx.c 0 rfl;have qf:=HS5.out.bx.froz 0;have HS6:Bx (aH p w (w5.setCell ⟨G,0,none⟩ (.int .i64 x)) G x (D AP k cP) (D AB k cB) (D AX m cX) (D AP k cP) (D AB k cB) (D AX m cX) ys bs xs):=⟨HS5.out.set hlt rfl⟩
        go_wp2_with fail;go_meet
        exact⟨⟨_,_,_,_,_,_,_,_,_,_,_,_,_,HS6.out,kB ⟨by omega,by omega⟩ HW.out.1 ⟨by have:=HW.out.2.1.1;omega,HW.out.2.1.2⟩ ⟨by have:=HW.out.2.2.1;omega,HW.out.2.2.2⟩,fun h=>by omega⟩⟩
       ·by_cases c1:r4=1
        ·skip
         have k0:(r4==0)=false:=beq_eq_false_iff_ne.2 c0;have k1:(r4==1)=true:=by rw[c1];rfl
         have q2:=HS4.out.bx.c 2 rfl;have qf:=HS4.out.bx.froz 2;go_wp2_with (at_builtin;refine cZ _ rfl (.tmp 82) (.tmp 84) 24 rfl w.heap.size 79 iB _ 1 24 underlying24 hiB hb0 hb1 hb2 rfl (by omega) (D AB k cB) k (bs.map CW).flatten rfl (by have:=(HS4.out.ext hlt ((zE _).alloc (.cells #[D none 0 0] 79))).oB.own;rw[HG.out.2.1,HG.out.1]at this;exact this) _ #[D none 0 0] _ rfl (heap_alloc_new _ _) rfl (by simp[Value.oneCell']) (by omega) (by omega) (by have:=HS4.out.bx.lt;have:=HS4.out.hG;simp;omega) ?_;intro v' w5 hown5 hg5;obtain⟨g',cap',rfl,_,_⟩:=di hown5 (by omega);have HS5:Bx (aH p w w5 G num (D AP k cP) (D AB k cB) (D AX m cX) (D AP k cP) (D (some ⟨g',0,none⟩) (k+1) cap') (D AX m cX) ys (bs++[([],D none 0 0)]) xs):=⟨(HS4.out.ext hlt ((zE _).alloc (.cells #[D none 0 0] 79))).growB (y:=([],D none 0 0)) hlt hg5 (by rw[HG.out.2.1,HG.out.1];exact hown5) (dn.nil _ _)⟩;have q3:=HS5.out.bx.c 2 rfl;have qf3:=HS5.out.bx.froz 2;have HS6:Bx (aH p w (w5.setCell ⟨G,2,none⟩ (D (some ⟨g',0,none⟩) (k+1) cap')) G num (D AP k cP) (D (some ⟨g',0,none⟩) (k+1) cap') (D AX m cX) (D AP k cP) (D (some ⟨g',0,none⟩) (k+1) cap') (D AX m cX) ys (bs++[([],D none 0 0)]) xs):=⟨HS5.out.set hlt rfl⟩;clear hown5 hg5;have g0:=HS6.out.bx.c 0 rfl;have g1:=HS6.out.bx.c 1 rfl;have g2:=HS6.out.bx.c 2 rfl;have g3:=HS6.out.bx.c 3 rfl;have z0:=HS6.out.r0.c 0 rfl;have z1:=HS6.out.r0.c 1 rfl;have z2:=HS6.out.r0.c 2 rfl;have z3:=HS6.out.r0.c 3 rfl;have f0:=HS6.out.r0.froz 0;have f1:=HS6.out.r0.froz 1;have f2:=HS6.out.r0.froz 2;have f3:=HS6.out.r0.froz 3);go_meet
         exact⟨⟨_,_,_,_,_,_,_,_,_,_,_,_,_,HS6.out,kB ⟨by omega,by omega⟩ HW.out.1 ⟨by have:=HW.out.2.1.1;simp;omega,fun b hb=>by rcases zM.1 hb with hb|hb;exact HW.out.2.1.2 b hb;obtain rfl:b=_:=(by simpa using hb);exact⟨by simp,fun l hl=>by simp at hl⟩⟩ ⟨by have:=HW.out.2.2.1;omega,HW.out.2.2.2⟩,fun h=>by omega⟩⟩
        ·by_cases c2:r4=2
         ·skip
          have k0:(r4==0)=false:=beq_eq_false_iff_ne.2 c0;have k1:(r4==1)=false:=beq_eq_false_iff_ne.2 c1;have k2:(r4==2)=true:=by rw[c2];rfl
          have hS:w4.drew.cell? ⟨G,3,none⟩=some (D AX m cX):=HS4.out.bx.c 3 rfl;go_upto_region 21 with (fail)
          refine zR 14 (fun w'=>w'.cell? ⟨G,3,none⟩=some (D AX m cX)) ?_;refine zS 5 [(0,89),(1,90),(2,91),(5,94),(8,97)] hS ?_;iterate 5 refine zT ?_
          refine zN (an 3 6 (by kernel_rfl) rfl rfl (fun K hK=>?_) (fun K hK=>?_))
          ·go_simp;obtain⟨w5,hw5⟩:=nm ((w4.alloc (.cells #[.int .i64 0,.int .i64 9999,.int .i64 10000,.int .i64 (-1)] 3)).drew);rw[<-hw5];have ew5:ab w4 w5:=by rw[hw5];exact ((zE _).alloc _).drew
           have I1:Bx (ak p w5 (D (some ⟨w4.heap.size,0,none⟩) 4 4) [0,9999,10000,-1]):=⟨by rw[hw5];exact (ak.lit [0,9999,10000,-1] _ (by have:=HS4.out.bx.lt;have:=HS4.out.hG;omega) (by decide) (by decide)).ext ((zE _).drew)⟩
           have HS5:=bx (HS4.out.ext hlt ew5);clear hw5 ew5 hS;have hS:w5.cell? ⟨G,3,none⟩=some (D AX m cX):=HS5.out.bx.c 3 rfl;refine hK.out _ _ (fun _=>hS) ?_;clear hK K;try simp only[kA]
           refine an 4 6 (by kernel_rfl) rfl rfl (fun K hK=>?_) (fun K hK=>?_)
           ·go_simp;refine (dt p _ [0,9999,10000,-1] _ HS5.out.tp I1.out (by simp)).mono ?_;rintro e w6 ⟨vv6,rfl,⟨ca,rfl,hca⟩,HTc,HXc⟩;have hcb:-1<=ca/\ca<=10000:=by simp at hca;omega
            clear hca;have HS6:=bx (HS5.out.step hlt HXc HTc);clear HTc HXc hS;have hS:w6.cell? ⟨G,3,none⟩=some (D AX m cX):=HS6.out.bx.c 3 rfl;refine hK.out _ _ (fun _=>hS) ?_;clear hK K;try simp only[kA]
            refine zO 6 (fun K hK=>?_);go_simp;obtain⟨w7,hw7⟩:=nm ((w6.alloc (.cells #[.int .i64 0,.int .i64 1,.int .i64 99,.int .i64 100] 3)));rw[<-hw7];have ew7:ab w6 w7:=by rw[hw7];exact (zE _).alloc _
            have I2:Bx (ak p w7 (D (some ⟨w6.heap.size,0,none⟩) 4 4) [0,1,99,100]):=⟨by rw[hw7];exact ak.lit [0,1,99,100] _ (by have:=HS6.out.bx.lt;have:=HS6.out.hG;omega) (by decide) (by decide)⟩
            have HS7:=bx (HS6.out.ext hlt ew7);clear hw7 ew7 hS;have hS:w7.cell? ⟨G,3,none⟩=some (D AX m cX):=HS7.out.bx.c 3 rfl;refine hK.out _ _ (fun _=>hS) ?_;clear hK K;try simp only[kA]
            refine zO 7 (fun K hK=>?_);go_simp;refine (dt p _ [0,1,99,100] _ HS7.out.tp I2.out (by simp)).mono ?_;rintro e w8 ⟨vv8,rfl,⟨ce,rfl,hce⟩,HTc,HXc⟩;have hcd:0<=ce/\ce<=100:=by simp at hce;omega
            clear hce;have HS8:=bx (HS7.out.step hlt HXc HTc);clear HTc HXc hS;have hS:w8.cell? ⟨G,3,none⟩=some (D AX m cX):=HS8.out.bx.c 3 rfl;refine hK.out _ _ (fun _=>hS) ?_;clear hK K;try simp only[kA]
            refine zO 9 (fun K hK=>?_);go_simp;refine (az p (-1) 2 _ HS8.out.tp (by omega) (by omega) (by omega) (by omega)).mono ?_;rintro e w9 ⟨vv9,rfl,⟨va,rfl,hv1,hv2⟩,HTc,HXc⟩;have HS9:=bx (HS8.out.step hlt HXc HTc);clear HTc HXc hS;have hS:w9.cell? ⟨G,3,none⟩=some (D AX m cX):=HS9.out.bx.c 3 rfl;refine hK.out _ _ (fun _=>hS) ?_;clear hK K;try simp only[kA]
            refine zS 1 [(10,99)] hS ?_;refine zT ?_;refine zN (zO 11 (fun K hK=>?_));go_simp;obtain⟨wa,hwa⟩:=nm (w9.alloc (.cells #[.int .i64 ca,.int .i64 ce,.int .i64 va] 90));rw[<-hwa];have ewa:ab w9 wa:=by rw[hwa];exact (zE _).alloc _
            have LX:Bx (Bk wa w9.heap.size #[.int .i64 ca,.int .i64 ce,.int .i64 va] 90):=⟨by rw[hwa];exact Bk.new w9 _ _⟩
            have HSa:=bx (HS9.out.ext hlt ewa);clear hwa ewa hS;have hS:wa.cell? ⟨G,3,none⟩=some (D AX m cX):=HSa.out.bx.c 3 rfl;refine hK.out _ _ (fun _=>hS) ?_;clear hK K;try simp only[kA]
            refine zO 12 (fun K hK=>?_);refine step_append_lies _ (by rfl) _ _ _ (by rfl) w.heap.size 90 iX _ 3 24 underlying25 hiX hx0 hx1 hx2 rfl (by omega) (D AX m cX) m (xs.map fv.cells).flatten (by rfl) (by have:=HSa.out.oX.own;rw[HXL.out]at this;exact this) ⟨w9.heap.size,0,none⟩ 1 1 (fv.cells ⟨ca,ce,va⟩) (by rfl) (by rfl) (World.news_of_block LX.out) (by simp[Value.oneCell',fv.cells]) (by omega) (by unfold maxLen;omega) (by omega) (by have:=HSa.out.bx.lt;have:=HSa.out.hG;omega) wa.heap.size rfl ?_;intro g9 c9 wb hown9 hgrow9 _ hlt9;have HSb:Bx (aH p w wb G num (D AP k cP) (D AB k cB) (D AX m cX) (D AP k cP) (D AB k cB) (D (some ⟨g9,0,none⟩) (m+1) c9) ys bs (xs++[⟨ca,ce,va⟩])):=⟨HSa.out.growX hlt hgrow9 (by rw[HXL.out];exact hown9)⟩
            clear hown9 hgrow9 hS;have hS:wb.cell? ⟨G,3,none⟩=some (D AX m cX):=HSb.out.bx.c 3 rfl;refine hK.out _ _ (fun _=>hS) ?_;clear hK K;try simp only[kA]
            refine zS 1 [(13,102)] hS ?_;refine zT ?_;refine zN ?_;have qf:=HSb.out.bx.froz 3;refine zO 14 (fun K hK=>?_);go_simp;refine hK.out _ _ (fun h=>absurd rfl h) ?_;clear hK K;refine zD ?_;have HSc:Bx (aH p w (wb.setCell ⟨G,3,none⟩ (D (some ⟨g9,0,none⟩) (m+1) c9)) G num (D AP k cP) (D AB k cB) (D (some ⟨g9,0,none⟩) (m+1) c9) (D AP k cP) (D AB k cB) (D (some ⟨g9,0,none⟩) (m+1) c9) ys bs (xs++[⟨ca,ce,va⟩])):=⟨HSb.out.set hlt rfl⟩
            go_wp2_with fail;go_meet
            exact⟨⟨_,_,_,_,_,_,_,_,_,_,_,_,_,HSc.out,kB ⟨by omega,by omega⟩ HW.out.1 ⟨by have:=HW.out.2.1.1;omega,HW.out.2.1.2⟩ ⟨by have:=HW.out.2.2.1;simp;omega,fun x hx=>by rcases zM.1 hx with hx|hx;exact HW.out.2.2.2 x hx;obtain rfl:x=_:=(by simpa using hx);simp only;omega⟩,fun h=>by omega⟩⟩
           ·go_simp;obtain⟨w6,hw6⟩:=nm ((w5.alloc (.cells #[.int .i64 0,.int .i64 1,.int .i64 99,.int .i64 100] 3)));rw[<-hw6];have ew6:ab w5 w6:=by rw[hw6];exact (zE _).alloc _
            have I2:Bx (ak p w6 (D (some ⟨w5.heap.size,0,none⟩) 4 4) [0,1,99,100]):=⟨by rw[hw6];exact ak.lit [0,1,99,100] _ (by have:=HS5.out.bx.lt;have:=HS5.out.hG;omega) (by decide) (by decide)⟩
            have HS6:=bx (HS5.out.ext hlt ew6);replace I1:Bx (ak p w6 (D (some ⟨w4.heap.size,0,none⟩) 4 4) [0,9999,10000,-1]):=⟨I1.out.ext ew6⟩
            clear hw6 ew6 hS;have hS:w6.cell? ⟨G,3,none⟩=some (D AX m cX):=HS6.out.bx.c 3 rfl;refine hK.out _ _ (fun _=>hS) ?_;clear hK K;try simp only[kA]
            refine zO 4 (fun K hK=>?_);go_simp;refine (dt p _ [0,9999,10000,-1] _ HS6.out.tp I1.out (by simp)).mono ?_;rintro e w7 ⟨vv7,rfl,⟨ca,rfl,hca⟩,HTc,HXc⟩;have hcb:-1<=ca/\ca<=10000:=by simp at hca;omega
            clear hca;have HS7:=bx (HS6.out.step hlt HXc HTc);replace I2:Bx (ak p w7 (D (some ⟨w5.heap.size,0,none⟩) 4 4) [0,1,99,100]):=⟨I2.out.xt HXc⟩
            clear HTc HXc hS;have hS:w7.cell? ⟨G,3,none⟩=some (D AX m cX):=HS7.out.bx.c 3 rfl;refine hK.out _ _ (fun _=>hS) ?_;clear hK K;try simp only[kA]
            refine zO 7 (fun K hK=>?_);go_simp;refine (dt p _ [0,1,99,100] _ HS7.out.tp I2.out (by simp)).mono ?_;rintro e w8 ⟨vv8,rfl,⟨ce,rfl,hce⟩,HTc,HXc⟩;have hcd:0<=ce/\ce<=100:=by simp at hce;omega
            clear hce;have HS8:=bx (HS7.out.step hlt HXc HTc);clear HTc HXc hS;have hS:w8.cell? ⟨G,3,none⟩=some (D AX m cX):=HS8.out.bx.c 3 rfl;refine hK.out _ _ (fun _=>hS) ?_;clear hK K;try simp only[kA]
            refine zO 9 (fun K hK=>?_);go_simp;refine (az p (-1) 2 _ HS8.out.tp (by omega) (by omega) (by omega) (by omega)).mono ?_;rintro e w9 ⟨vv9,rfl,⟨va,rfl,hv1,hv2⟩,HTc,HXc⟩;have HS9:=bx (HS8.out.step hlt HXc HTc);clear HTc HXc hS;have hS:w9.cell? ⟨G,3,none⟩=some (D AX m cX):=HS9.out.bx.c 3 rfl;refine hK.out _ _ (fun _=>hS) ?_;clear hK K;try simp only[kA]
            refine zS 1 [(10,99)] hS ?_;refine zT ?_;refine zN (zO 11 (fun K hK=>?_));go_simp;obtain⟨wa,hwa⟩:=nm (w9.alloc (.cells #[.int .i64 ca,.int .i64 ce,.int .i64 va] 90));rw[<-hwa];have ewa:ab w9 wa:=by rw[hwa];exact (zE _).alloc _
            have LX:Bx (Bk wa w9.heap.size #[.int .i64 ca,.int .i64 ce,.int .i64 va] 90):=⟨by rw[hwa];exact Bk.new w9 _ _⟩
            have HSa:=bx (HS9.out.ext hlt ewa);clear hwa ewa hS;have hS:wa.cell? ⟨G,3,none⟩=some (D AX m cX):=HSa.out.bx.c 3 rfl;refine hK.out _ _ (fun _=>hS) ?_;clear hK K;try simp only[kA]
            refine zO 12 (fun K hK=>?_);refine step_append_lies _ (by rfl) _ _ _ (by rfl) w.heap.size 90 iX _ 3 24 underlying25 hiX hx0 hx1 hx2 rfl (by omega) (D AX m cX) m (xs.map fv.cells).flatten (by rfl) (by have:=HSa.out.oX.own;rw[HXL.out]at this;exact this) ⟨w9.heap.size,0,none⟩ 1 1 (fv.cells ⟨ca,ce,va⟩) (by rfl) (by rfl) (World.news_of_block LX.out) (by simp[Value.oneCell',fv.cells]) (by omega) (by unfold maxLen;omega) (by omega) (by have:=HSa.out.bx.lt;have:=HSa.out.hG;omega) wa.heap.size rfl ?_;intro g9 c9 wb hown9 hgrow9 _ hlt9;have HSb:Bx (aH p w wb G num (D AP k cP) (D AB k cB) (D AX m cX) (D AP k cP) (D AB k cB) (D (some ⟨g9,0,none⟩) (m+1) c9) ys bs (xs++[⟨ca,ce,va⟩])):=⟨HSa.out.growX hlt hgrow9 (by rw[HXL.out];exact hown9)⟩
            clear hown9 hgrow9 hS;have hS:wb.cell? ⟨G,3,none⟩=some (D AX m cX):=HSb.out.bx.c 3 rfl;refine hK.out _ _ (fun _=>hS) ?_;clear hK K;try simp only[kA]
            refine zS 1 [(13,102)] hS ?_;refine zT ?_;refine zN ?_;have qf:=HSb.out.bx.froz 3;refine zO 14 (fun K hK=>?_);go_simp;refine hK.out _ _ (fun h=>absurd rfl h) ?_;clear hK K;refine zD ?_;have HSc:Bx (aH p w (wb.setCell ⟨G,3,none⟩ (D (some ⟨g9,0,none⟩) (m+1) c9)) G num (D AP k cP) (D AB k cB) (D (some ⟨g9,0,none⟩) (m+1) c9) (D AP k cP) (D AB k cB) (D (some ⟨g9,0,none⟩) (m+1) c9) ys bs (xs++[⟨ca,ce,va⟩])):=⟨HSb.out.set hlt rfl⟩
            go_wp2_with fail;go_meet
            exact⟨⟨_,_,_,_,_,_,_,_,_,_,_,_,_,HSc.out,kB ⟨by omega,by omega⟩ HW.out.1 ⟨by have:=HW.out.2.1.1;omega,HW.out.2.1.2⟩ ⟨by have:=HW.out.2.2.1;simp;omega,fun x hx=>by rcases zM.1 hx with hx|hx;exact HW.out.2.2.2 x hx;obtain rfl:x=_:=(by simpa using hx);simp only;omega⟩,fun h=>by omega⟩⟩
          ·go_simp;obtain⟨w5,hw5⟩:=nm ((w4.alloc (.cells #[.int .i64 0,.int .i64 1,.int .i64 99,.int .i64 100] 3)).drew);rw[<-hw5];have ew5:ab w4 w5:=by rw[hw5];exact ((zE _).alloc _).drew
           have I2:Bx (ak p w5 (D (some ⟨w4.heap.size,0,none⟩) 4 4) [0,1,99,100]):=⟨by rw[hw5];exact (ak.lit [0,1,99,100] _ (by have:=HS4.out.bx.lt;have:=HS4.out.hG;omega) (by decide) (by decide)).ext ((zE _).drew)⟩
           have HS5:=bx (HS4.out.ext hlt ew5);clear hw5 ew5 hS;have hS:w5.cell? ⟨G,3,none⟩=some (D AX m cX):=HS5.out.bx.c 3 rfl;refine hK.out _ _ (fun _=>hS) ?_;clear hK K;try simp only[kA]
           refine zO 3 (fun K hK=>?_);go_simp;obtain⟨w6,hw6⟩:=nm ((w5.alloc (.cells #[.int .i64 0,.int .i64 9999,.int .i64 10000,.int .i64 (-1)] 3)));rw[<-hw6];have ew6:ab w5 w6:=by rw[hw6];exact (zE _).alloc _
           have I1:Bx (ak p w6 (D (some ⟨w5.heap.size,0,none⟩) 4 4) [0,9999,10000,-1]):=⟨by rw[hw6];exact ak.lit [0,9999,10000,-1] _ (by have:=HS5.out.bx.lt;have:=HS5.out.hG;omega) (by decide) (by decide)⟩
           have HS6:=bx (HS5.out.ext hlt ew6);replace I2:Bx (ak p w6 (D (some ⟨w4.heap.size,0,none⟩) 4 4) [0,1,99,100]):=⟨I2.out.ext ew6⟩
           clear hw6 ew6 hS;have hS:w6.cell? ⟨G,3,none⟩=some (D AX m cX):=HS6.out.bx.c 3 rfl;refine hK.out _ _ (fun _=>hS) ?_;clear hK K;try simp only[kA]
           refine zO 4 (fun K hK=>?_);go_simp;refine (dt p _ [0,9999,10000,-1] _ HS6.out.tp I1.out (by simp)).mono ?_;rintro e w7 ⟨vv7,rfl,⟨ca,rfl,hca⟩,HTc,HXc⟩;have hcb:-1<=ca/\ca<=10000:=by simp at hca;omega
           clear hca;have HS7:=bx (HS6.out.step hlt HXc HTc);replace I2:Bx (ak p w7 (D (some ⟨w4.heap.size,0,none⟩) 4 4) [0,1,99,100]):=⟨I2.out.xt HXc⟩
           clear HTc HXc hS;have hS:w7.cell? ⟨G,3,none⟩=some (D AX m cX):=HS7.out.bx.c 3 rfl;refine hK.out _ _ (fun _=>hS) ?_;clear hK K;try simp only[kA]
           refine zO 7 (fun K hK=>?_);go_simp;refine (dt p _ [0,1,99,100] _ HS7.out.tp I2.out (by simp)).mono ?_;rintro e w8 ⟨vv8,rfl,⟨ce,rfl,hce⟩,HTc,HXc⟩;have hcd:0<=ce/\ce<=100:=by simp at hce;omega
           clear hce;have HS8:=bx (HS7.out.step hlt HXc HTc);clear HTc HXc hS;have hS:w8.cell? ⟨G,3,none⟩=some (D AX m cX):=HS8.out.bx.c 3 rfl;refine hK.out _ _ (fun _=>hS) ?_;clear hK K;try simp only[kA]
           refine zO 9 (fun K hK=>?_);go_simp;refine (az p (-1) 2 _ HS8.out.tp (by omega) (by omega) (by omega) (by omega)).mono ?_;rintro e w9 ⟨vv9,rfl,⟨va,rfl,hv1,hv2⟩,HTc,HXc⟩;have HS9:=bx (HS8.out.step hlt HXc HTc);clear HTc HXc hS;have hS:w9.cell? ⟨G,3,none⟩=some (D AX m cX):=HS9.out.bx.c 3 rfl;refine hK.out _ _ (fun _=>hS) ?_;clear hK K;try simp only[kA]
           refine zS 1 [(10,99)] hS ?_;refine zT ?_;refine zN (zO 11 (fun K hK=>?_));go_simp;obtain⟨wa,hwa⟩:=nm (w9.alloc (.cells #[.int .i64 ca,.int .i64 ce,.int .i64 va] 90));rw[<-hwa];have ewa:ab w9 wa:=by rw[hwa];exact (zE _).alloc _
           have LX:Bx (Bk wa w9.heap.size #[.int .i64 ca,.int .i64 ce,.int .i64 va] 90):=⟨by rw[hwa];exact Bk.new w9 _ _⟩
           have HSa:=bx (HS9.out.ext hlt ewa);clear hwa ewa hS;have hS:wa.cell? ⟨G,3,none⟩=some (D AX m cX):=HSa.out.bx.c 3 rfl;refine hK.out _ _ (fun _=>hS) ?_;clear hK K;try simp only[kA]
           refine zO 12 (fun K hK=>?_);refine step_append_lies _ (by rfl) _ _ _ (by rfl) w.heap.size 90 iX _ 3 24 underlying25 hiX hx0 hx1 hx2 rfl (by omega) (D AX m cX) m (xs.map fv.cells).flatten (by rfl) (by have:=HSa.out.oX.own;rw[HXL.out]at this;exact this) ⟨w9.heap.size,0,none⟩ 1 1 (fv.cells ⟨ca,ce,va⟩) (by rfl) (by rfl) (World.news_of_block LX.out) (by simp[Value.oneCell',fv.cells]) (by omega) (by unfold maxLen;omega) (by omega) (by have:=HSa.out.bx.lt;have:=HSa.out.hG;omega) wa.heap.size rfl ?_;intro g9 c9 wb hown9 hgrow9 _ hlt9;have HSb:Bx (aH p w wb G num (D AP k cP) (D AB k cB) (D AX m cX) (D AP k cP) (D AB k cB) (D (some ⟨g9,0,none⟩) (m+1) c9) ys bs (xs++[⟨ca,ce,va⟩])):=⟨HSa.out.growX hlt hgrow9 (by rw[HXL.out];exact hown9)⟩
           clear hown9 hgrow9 hS;have hS:wb.cell? ⟨G,3,none⟩=some (D AX m cX):=HSb.out.bx.c 3 rfl;refine hK.out _ _ (fun _=>hS) ?_;clear hK K;try simp only[kA]
           refine zS 1 [(13,102)] hS ?_;refine zT ?_;refine zN ?_;have qf:=HSb.out.bx.froz 3;refine zO 14 (fun K hK=>?_);go_simp;refine hK.out _ _ (fun h=>absurd rfl h) ?_;clear hK K;refine zD ?_;have HSc:Bx (aH p w (wb.setCell ⟨G,3,none⟩ (D (some ⟨g9,0,none⟩) (m+1) c9)) G num (D AP k cP) (D AB k cB) (D (some ⟨g9,0,none⟩) (m+1) c9) (D AP k cP) (D AB k cB) (D (some ⟨g9,0,none⟩) (m+1) c9) ys bs (xs++[⟨ca,ce,va⟩])):=⟨HSb.out.set hlt rfl⟩
           go_wp2_with fail;go_meet
           exact⟨⟨_,_,_,_,_,_,_,_,_,_,_,_,_,HSc.out,kB ⟨by omega,by omega⟩ HW.out.1 ⟨by have:=HW.out.2.1.1;omega,HW.out.2.1.2⟩ ⟨by have:=HW.out.2.2.1;simp;omega,fun x hx=>by rcases zM.1 hx with hx|hx;exact HW.out.2.2.2 x hx;obtain rfl:x=_:=(by simpa using hx);simp only;omega⟩,fun h=>by omega⟩⟩
         ·by_cases c3:r4=3
          ·skip
           have k0:(r4==0)=false:=beq_eq_false_iff_ne.2 c0;have k1:(r4==1)=false:=beq_eq_false_iff_ne.2 c1;have k2:(r4==2)=false:=beq_eq_false_iff_ne.2 c2;have k3:(r4==3)=true:=by rw[c3];rfl
           obtain⟨gp,cp,hvp,_,_⟩:=di HS4.out.oP.own (by have:=HG.out.1;omega);injection hvp with hA hB hC;clear hB hC;subst hA;have hl0:0<ys.length:=by have:=HG.out.1;omega
           have hS:w4.drew.cell? ⟨G,1,none⟩=some (D (some ⟨gp,0,none⟩) k cP):=HS4.out.bx.c 1 rfl;have e0:(0:Int)<(k:Int):=by omega
           have e0n:0<k:=by omega
           go_upto_region 23 with (fail)
           refine zR 6 (fun w'=>w'.cell? ⟨G,1,none⟩=some (D (some ⟨gp,0,none⟩) k cP)) ?_;refine zS 3 [(0,105),(1,106),(2,107)] hS ?_;iterate 3 refine zT ?_
           refine zN (zO 3 (fun K hK=>?_));go_simp;refine (am p 3 _ (HS4.out.tp.ext (zE _).drew) (by omega)).mono ?_;rintro e w5 ⟨v5,rfl,⟨x,rfl,hx1,hx2⟩,HT5,HX5⟩;have HS5:=bx (HS4.out.step hlt ((XT.drew (XT.refl _ _)).trans HX5) HT5);clear HT5 HX5 hS;have hS:w5.cell? ⟨G,1,none⟩=some (D (some ⟨gp,0,none⟩) k cP):=HS5.out.bx.c 1 rfl;refine hK.out _ _ (fun _=>hS) ?_;clear hK K;try simp only[kA]
           refine zO 4 (fun K hK=>?_);go_simp;refine hK.out _ _ (fun _=>hS) ?_;clear hK K;try simp only[kA]
           refine zO 5 (fun K hK=>?_);go_simp;refine hK.out _ _ (fun _=>hS) ?_;clear hK K;try simp only[kA]
           have y1:w5.cell? ⟨gp,1,none⟩=some (.int .i64 (ys[0]'hl0).1.var):=by have ho:=HS5.out.oP.own;rw[HG.out.1]at ho;exact (ho.cellAt 1 (by omega)).trans (Ei hl0)
           have yf:w5.frozen? ⟨gp,1,none⟩=false:=by have ho:=HS5.out.oP.own;rw[HG.out.1]at ho;exact ho.frozenAt 1
           generalize hyv:(ys[0]'hl0).1.var=yv at y1;clear hyv;refine zO 6 (fun K hK=>?_);go_simp;refine hK.out _ _ (fun h=>absurd rfl h) ?_;clear hK K;refine zD ?_;have HS6:Bx (aH p w (w5.setCell ⟨gp,1,none⟩ (.int .i64 x)) G num (D (some ⟨gp,0,none⟩) k cP) (D AB k cB) (D AX m cX) (D (some ⟨gp,0,none⟩) k cP) (D AB k cB) (D AX m cX) (ys.set 0 (⟨(ys[0]'hl0).1.code,x,(ys[0]'hl0).1.ps⟩,(ys[0]'hl0).2)) bs xs):=⟨by have h5:=HS5.out;have hk:=HG.out.1;rw[<-hk]at h5⊢;exact aH.setP (k:=0) (o:=1) h5 hlt (zV hl0) (by omega) rfl rfl rfl⟩
           go_wp2_with fail;go_meet
           exact⟨⟨_,_,_,_,_,_,_,_,_,_,_,_,_,HS6.out,kB ⟨by omega,by omega⟩ ⟨by have:=HW.out.1.1;simp;omega,fun y hy=>by rcases uW hy with hy|rfl;exact HW.out.1.2 y hy;have:=HW.out.1.2 _ (xC hl0);exact⟨this.1,⟨by simp only;omega,by simp only;omega⟩,this.2.2⟩⟩ ⟨by have:=HW.out.2.1.1;omega,HW.out.2.1.2⟩ ⟨by have:=HW.out.2.2.1;omega,HW.out.2.2.2⟩,fun h=>by omega⟩⟩
          ·skip
           have k0:(r4==0)=false:=beq_eq_false_iff_ne.2 c0;have k1:(r4==1)=false:=beq_eq_false_iff_ne.2 c1;have k2:(r4==2)=false:=beq_eq_false_iff_ne.2 c2;have k3:(r4==3)=false:=beq_eq_false_iff_ne.2 c3;have q1:=HS4.out.bx.c 1 rfl;have qf:=HS4.out.bx.froz 1;have HS6:Bx (aH p w (w4.setCell ⟨G,1,none⟩ (D none 0 0)) G num (D none 0 0) (D AB k cB) (D AX m cX) (D none 0 0) (D AB k cB) (D AX m cX) [] bs xs):=⟨HS4.out.dropP.set hlt rfl⟩
           go_wp2_with fail;go_meet
           exact⟨⟨_,_,_,_,_,_,_,_,_,_,_,_,_,HS6.out,kB ⟨by omega,by omega⟩ ⟨by simp,fun y hy=>by simp at hy⟩ ⟨by have:=HW.out.2.1.1;omega,HW.out.2.1.2⟩ ⟨by have:=HW.out.2.2.1;omega,HW.out.2.2.2⟩,fun h=>by omega⟩⟩
     case rest =>
     obtain⟨num,AP,nP,cP,AB,nB,cB,AX,nX,cX,ys,bs,xs,h9,hwf,hok⟩:=hcut.out;have HS9:Bx (aH p w wc G num (D AP nP cP) (D AB nB cB) (D AX nX cX) (D AP nP cP) (D AB nB cB) (D AX nX cX) ys bs xs):=⟨h9⟩
     clear h9 hcut HS3;obtain⟨g0,g1,g2,g3⟩:=(HS9.out.bx).p4 rfl;obtain⟨z0,z1,z2,z3⟩:=(HS9.out.r0).p4 rfl;have f0:=(HS9.out.r0).froz;have f1:=f0;have f2:=f0;have f3:=f0;go_wp2_with fail;refine bodyPost_ret (v:=.agg #[.int .i64 num,(D AP nP cP),(D AB nB cB),(D AX nX cX)]) (by simp[results,results17,go_sem,g0,g1,g2,g3,z0,z1,z2,z3]) rfl ?_;obtain⟨a1,a2,a3⟩:=HS9.out.fin hlt (.int .i64 num) (D AP nP cP) (D AB nB cB) (D AX nX cX);exact⟨_,rfl,⟨_,a1,hwf,hok⟩,a2,a3⟩
section
variable {p:Nat} {w w' wx:World} {v:Value} {s:dl} {t:r6} {L:BL}
theorem aR.op(h:aR p w v s):∃(AP:Option Addr) (nP cP:Nat) (AB:Option Addr) (nB cB:Nat) (AX:Option Addr) (nX cX:Nat),v=.agg #[B C s.num,D AP nP cP,D AB nB cB,D AX nX cX]:=by obtain⟨vP,vB,vX,rfl,hP,hB,hX,-⟩:=h;obtain⟨AP,nP,cP,rfl,-⟩:=hP.open_;obtain⟨AB,nB,cB,rfl,-⟩:=hB.open_;obtain⟨AX,nX,cX,rfl,-⟩:=hX.open_;exact⟨_,_,_,_,_,_,_,_,_,rfl⟩
theorem aK.op(h:aK p w v t):∃(AS:Option Addr) (cS:Nat) (AG:Option Addr) (cG:Nat),v=.agg #[D AS t.sts.length cS,D AG t.pgs.length cG]:=by obtain⟨vS,vG,rfl,hS,hG⟩:=h;obtain⟨AS,nS,cS,rfl,-⟩:=hS.open_;obtain⟨AG,nG,cG,rfl,-⟩:=hG.open_;rw[hS.len,hG.len];exact⟨_,_,_,_,rfl⟩
structure LF (p:Nat) (w wx:World) (L:BL):Prop where
 fr:Fr p w wx L
 tb0:cK w
 p2:2<=p
theorem LF.tb(h:LF p w wx L):cK wx:=h.tb0.xt h.fr.xt h.p2
theorem LF.start(h:bz w p)(ht:cK w)(hp:2<=p):LF p w w []:=⟨Fr.start h,ht,hp⟩
theorem LF.step(h:LF p w wx L)(hx:XT p wx w')(ht:bz w' p):LF p w w' L:=⟨h.fr.step hx ht,h.tb0,h.p2⟩
theorem LF.ext(h:LF p w wx L)(hx:ab wx w'):LF p w w' L:=⟨h.fr.ext hx,h.tb0,h.p2⟩
theorem LF.push(h:LF p w wx L)(cs:Array Value)(t:TypeId){n:Nat}(hn:wx.heap.size=n):LF p w (wx.alloc (.cells cs t)) (L++[(n,cs,t)]):=⟨h.fr.push cs t hn,h.tb0,h.p2⟩
theorem LF.set{b:Nat}{cs:Array Value}{t:TypeId}(h:LF p w wx L)(k:Nat)(hk:L[k]?=some (b,cs,t))(i:Nat)(u:Value):LF p w (wx.setCell ⟨b,i,none⟩ u) (L.set k (b,cs.setIfInBounds i u,t)):=⟨h.fr.set k hk i u,h.tb0,h.p2⟩
theorem LF.grown(h:LF p w wx L){row:Option Nat}(hg:wx.grownBy w' row)(hr:∀(k:Nat) x,L[k]?=some x->row≠some x.1)(hb:∀k,row=some k->w.heap.size<=k):LF p w w' L:=⟨h.fr.grown hg hr hb,h.tb0,h.p2⟩
theorem LF.at_{b:Nat}{cs:Array Value}{t:TypeId}(h:LF p w wx L)(k:Nat)(hk:L[k]?=some (b,cs,t)):Bk wx b cs t:=h.fr.at_ k hk
theorem LF.take(h:LF p w wx L)(n:Nat):LF p w wx (L.take n):=⟨h.fr.take n,h.tb0,h.p2⟩
theorem LF.lt(h:LF p w wx L):p<wx.heap.size:=h.fr.lt
theorem LF.fin{w0:World}(h:LF w0.heap.size w wx L)(he:ab w0 w):ab w0 wx:=h.fr.xt.fresh he (zX _)
end
theorem bj.xre{α:Type}{size:Nat}{R R':World->List Value->α->Prop}{xs:List α}(h:bj p size R w v xs)(e:XT p w w')(hq:w.heap.size<=q)(hsz:0<size)(hR:∀cs x,R w cs x->R' w' cs x):bj q size R' w' v xs:=by obtain⟨A,c,hv,h1,h2,h4⟩:=h;refine⟨A,c,hv,h1,h2,fun k x hx=>?_⟩;obtain⟨b,off,cs,ha,hb,hcl,hcell,hr⟩:=h4 k x hx;have:=bK (hcell 0 cs[0] (zV (by omega)));simp at this;exact⟨b,off,cs,ha,by omega,hcl,fun j u hu=>e.cell (hcell j u hu) hb,hR _ _ hr⟩
theorem ak.xre{l:List Int}(h:ak p w v l)(e:XT p w w')(hq:w.heap.size<=q):ak q w' v l:=by obtain⟨A,c,hv,h1,h2,h3,h5,h4⟩:=h;exact⟨A,c,hv,h1,h2,h3,h5,fun k x hx=>by obtain⟨b,off,ha,hb,hc⟩:=h4 k x hx;have:=bK hc;simp at this;exact⟨b,off,ha,by omega,e.cell hc hb⟩⟩
theorem aR.xre{p q:Nat}{w w':World}{v:Value}{s:dl}(h:aR p w v s)(e:XT p w w')(hq:w.heap.size<=q):aR q w' v s:=by
 obtain⟨vP,vB,vX,h0,h1,h2,h3,h4⟩:=h;refine⟨vP,vB,vX,h0,bj.xre h1 e hq (by decide) fun cs x=>?_,bj.xre h2 e hq (by decide) fun cs x=>?_,bj.xre h3 e hq (by decide) fun cs x hr=>hr,h4⟩
 ·rintro⟨u,rfl,a,b,c⟩;exact⟨u,rfl,bj.xre a e hq (by decide) fun cs x hr=>hr,b,c⟩
 ·rintro⟨u,rfl,a⟩;exact⟨u,rfl,bj.xre a e hq (by decide) fun cs x=>by rintro⟨u',rfl,b⟩;exact⟨u',rfl,b.xre e hq⟩⟩
theorem Kw{a b c d:Value}(h:Value.agg #[a,b]=.agg #[c,d]):a=c/\b=d:=by injection h with h;injection h with h;injection h with h1 h2;injection h2 with h2;exact⟨h1,h2⟩
theorem tR{vS vG:Value}{t:r6}(hp:p<w.heap.size)(hS:ah w.heap.size 67 7 (cU w) w' vS t.sts)(hG:ah w.heap.size 72 6 (lO p w) w' vG t.pgs)(hx:ab w w'):aK p w' (.agg #[vS,vG]) t :=
 ⟨_,_,rfl,hS.isS (by decide) hp (fun _ _ h=>h),hG.isS (by decide) hp (fun cs x h=>lO.stab _ _ _ cs x h hx.xt)⟩
end Go.Proofs.YtkaajgoeahahpaaGreatDoor

