import Derived.Test.YtkaajgoeahahpaaGreatDoorH12
set_option linter.all false
set_option maxRecDepth 100000
set_option maxHeartbeats 0
namespace Go.Proofs.YtkaajgoeahahpaaGreatDoor
open Go.Value renaming int→B,slice→D
open Go.IntKind renaming i64→C
open Go.RowKit
variable {k n p:Nat} {w wx:World} {ch:List Int}
def iH(s:dl):List cJ:=s.xp.flatMap fun x=>(List.range (F9 s x.var)).map fun g:Nat=>⟨s.num,x.cand,(g:Int),x.var⟩
structure KW (s:dl) (i:Nat) (l:cJ) (c:aj):Prop where
 kind:c.kind=1
 src:c.st.s=1
 seq:c.st.q=(i:Int)
 time:0<=c.st.t/\c.st.t<=24
 str:c.str=eH (mH l.p l.c l.g l.v)
 cont:c.cont=100*l.c+l.g
 len:∀q b,s.pap[l.v.toNat]?=some q->s.bk[l.v.toNat]?=some b->c.ch.length=(dr q.code q.var q.ps b l.g).length
 val:c.ch.all fE=true
def nO(s:dl)(ls:List cJ)(L:List aj):Prop:=L.length=ls.length/\∀(i:Nat) c l,L[i]?=some c->ls[i]?=some l->KW s i l c
theorem nO.nil(s:dl):nO s [] []:=⟨rfl,fun i c l h=>by cases h⟩
theorem nO.snoc{s:dl}{ls:List cJ}{L:List aj}{c:aj}{l:cJ}(h:nO s ls L)(hc:KW s L.length l c):nO s (ls++[l]) (L++[c]):=by
 refine⟨by simp[h.1],fun i d m hd hm=>?_⟩;rcases zU i L.length with hi|hi
 ·rw[yY hi]at hd;rw[yY (by rw[<-h.1];exact hi)]at hm;exact h.2 i d m hd hm
 ·rw[yL hi]at hd;rw[yL (by rw[<-h.1];exact hi)]at hm;have hj:i-L.length=0:=by
   have:=(zY.1 hd).1;simp at this;omega
  rw[hj]at hd;rw[<-h.1,hj]at hm;simp at hd hm;subst hd;subst hm;rw[show i=L.length by omega];exact hc
structure ki (s:dl) (L:List aj):Prop where
 ok:dU s
 cap:nO s (iH s) L
section
variable {s:dl} {L:List aj}
theorem rT(h:dU s){v:Int}(h0:0<=v)(h1:v<(s.pap.length:Int)):∃q b,s.pap[v.toNat]?=some q/\s.bk[v.toNat]?=some b/\jH q.code q.var q.ps b=true/\fD q.code q.var q.ps=true/\q.code=s.num/\q.var=v:=by
 have hv:v.toNat<s.pap.length:=by omega
 have:=h.pap _ hv;have e1:s.pap[v.toNat]?=some s.pap[v.toNat]:=zV hv;have hv':v.toNat<s.bk.length:=by rw[h.bks];exact hv
 have e2:s.bk[v.toNat]?=some s.bk[v.toNat]:=zV hv';unfold jK at this;rw[e1,e2]at this;simp only[yT,decide_eq_true_eq]at this;exact⟨_,_,e1,e2,this.2.2.2,this.1,this.2.1,by omega⟩
theorem rL(h:dU s){x:fv}(hx:x∈s.xp):0<=x.cand/\x.cand<=9999/\0<=x.var/\x.var<(s.pap.length:Int)/\1<=x.cen/\x.cen<=99:=by have:=h.xps x hx;unfold ud at this;simp only[decide_eq_true_eq]at this;omega
theorem uo{v:Int}{b:List (List Int)}(h:s.bk[v.toNat]?=some b):F9 s v=b.length:=by unfold F9;rw[h];rfl
theorem rK{l:cJ}:l∈iH s↔∃x∈s.xp,∃g:Nat,g<F9 s x.var/\l=⟨s.num,x.cand,(g:Int),x.var⟩:=by
 unfold iH;rw[List.mem_flatMap];constructor
 ·rintro⟨x,hx,hl⟩;obtain⟨g,hg,rfl⟩:=zF.1 hl;exact⟨x,hx,g,yX.1 hg,rfl⟩
 ·rintro⟨x,hx,g,hg,rfl⟩;exact⟨x,hx,zF.2 ⟨g,yX.2 hg,rfl⟩⟩
theorem mR{code var:Int}{ps:List av}{b:List (List Int)}(h:jH code var ps b=true):4<=b.length/\b.length<=12:=by
 obtain⟨hv,h1,h2,h3,h4⟩:=J0 h;refine⟨?_,h1⟩;cases b with
 |nil =>
  have h5:0=(ps.map db).length:=h4;have h6:=(mD hv).2.2.2.2.1;rw[zJ]at h5;omega
 |cons a l=>simp only[xQ]at h2⊢;omega
theorem Br(h:dU s){l:cJ}(hl:l∈iH s):dj l.p l.c l.g l.v=true:=by obtain⟨x,hx,g,hg,rfl⟩:=rK.1 hl;have hb:=rL h hx;obtain⟨q,b,h1,h2,h3,-⟩:=rT h hb.2.2.1 hb.2.2.2.1;have:=(mR h3).2;rw[uo h2]at hg;have:=h.num;have:=h.len;exact ju.2 ⟨by simp only;omega,by simp only;omega,by simp only;omega,by simp only;omega⟩
theorem GH(h:dU s):(iH s).Pairwise fun a b=>¬(a.c=b.c/\a.g=b.g):=by
 unfold iH;rw[List.pairwise_flatMap];constructor
 ·intro x _;rw[uK];refine (List.pairwise_lt_range).imp fun {a b} hab=>?_;simp only;omega
 ·refine (h.asc_).imp fun {x y} hxy=>?_;unfold vr at hxy;simp only[decide_eq_true_eq]at hxy;intro a ha b hb;obtain⟨g,_,rfl⟩:=zF.1 ha;obtain⟨g',_,rfl⟩:=zF.1 hb;simp only;omega
theorem Gz(h:dU s):(iH s).length<=720:=by
 unfold iH;rw[List.length_flatMap];have key:∀xs:List fv,(∀x∈xs,x∈s.xp)->(xs.map fun x=>((List.range (F9 s x.var)).map fun g:Nat=>(⟨s.num,x.cand,(g:Int),x.var⟩:cJ)).length).sum<=12*xs.length:=by
  intro xs;induction xs with
  |nil=>intro _;simp
  |cons x xs ih =>
   intro hx;have h1:=ih fun y hy=>hx y (by simp[hy]);have hb:=rL h (hx x (by simp));obtain⟨q,b,_,h2,h3,-⟩:=rT h hb.2.2.1 hb.2.2.2.1;have:=(mR h3).2;rw[wK,List.sum_cons,zJ,wQ,uo h2];simp only[xQ];omega
 have:=key s.xp fun _ h=>h;have:=h.len;omega
theorem ki.at_(h:ki s L){c:aj}(hc:c∈L):∃(i:Nat) (l:cJ),L[i]?=some c/\(iH s)[i]?=some l/\KW s i l c/\i<720:=by obtain⟨i,hi⟩:=zH hc;have hlt:=(zY.1 hi).1;rw[h.cap.1]at hlt;have:=Gz h.ok;exact⟨i,_,hi,zV hlt,h.cap.2 i c _ hi (zV hlt),by omega⟩
theorem ki.valid(h:ki s L):∀c∈L,dT c.st=true:=by intro c hc;obtain⟨i,l,_,_,hw,hi⟩:=h.at_ hc;have:=hw.time;have:=hw.src;have:=hw.seq;unfold dT;simp only[decide_eq_true_eq];omega
theorem ki.ids(h:ki s L):∀c∈L,∀d∈L,c.id=d.id->c=d:=by
 intro c hc d hd he;obtain⟨i,l,hi,_,hw,_⟩:=h.at_ hc;obtain⟨k,m,hk,_,hv,_⟩:=h.at_ hd;have:i=k:=by have h1:=hw.seq;have h2:=hv.seq;have h3:=((gT.eq_iff _ _).1 he).2;unfold aj.id at h3;simp only at h3;omega
 subst this;rw[hi]at hk;injection hk
theorem ki.labR(h:ki s L){i:Nat}{l:cJ}{c:aj}(hl:(iH s)[i]?=some l)(hw:KW s i l c):dR c.str=some l/\Go.Proofs.YtkaajgoeahahpaaGreatDoor.labR c=l:=by have h1:=Bi (Br h.ok (zW hl));rw[<-hw.str]at h1;exact⟨h1,by unfold Go.Proofs.YtkaajgoeahahpaaGreatDoor.labR;rw[h1];rfl⟩
theorem ki.fits(h:ki s L){i:Nat}{l:cJ}{c:aj}(hl:(iH s)[i]?=some l)(hw:KW s i l c):bH s l c.ch=true:=by obtain⟨x,hx,g,hg,rfl⟩:=rK.1 (zW hl);have hb:=rL h.ok hx;obtain⟨q,b,h1,h2,h3,-⟩:=rT h.ok hb.2.2.1 hb.2.2.2.1;refine ii.2 ⟨x,q,b,Em h.ok.asc_ hx,rfl,rfl,h1,h2,by simp only;omega,?_,hw.len q b h1 h2,hw.val⟩;rw[uo h2]at hg;simp only;omega
theorem ki.one(h:ki s L):∀c∈L,c.kind=1/\dR c.str=some (Go.Proofs.YtkaajgoeahahpaaGreatDoor.labR c)/\bH s (Go.Proofs.YtkaajgoeahahpaaGreatDoor.labR c) c.ch=true:=by intro c hc;obtain⟨i,l,_,hl,hw,_⟩:=h.at_ hc;obtain⟨h1,h2⟩:=h.labR hl hw;rw[h2];exact⟨hw.kind,h1,h.fits hl hw⟩
theorem ki.inj(h:ki s L):∀c∈L,∀d∈L,Go.Proofs.YtkaajgoeahahpaaGreatDoor.labR c=Go.Proofs.YtkaajgoeahahpaaGreatDoor.labR d->c=d:=by
 intro c hc d hd he;obtain⟨i,l,hi,hl,hw,_⟩:=h.at_ hc;obtain⟨k,m,hk,hm,hv,_⟩:=h.at_ hd;rw[(h.labR hl hw).2,(h.labR hm hv).2]at he;subst he;have hp:=GH h.ok;have:i=k:=by
  obtain⟨a1,a2⟩:=zY.1 hl;obtain⟨b1,b2⟩:=zY.1 hm;rcases xO i k with e|e|e
  ·have:=xX.1 hp i k a1 b1 e;rw[a2,b2]at this;exact absurd ⟨rfl,rfl⟩ this
  ·exact e
  ·have:=xX.1 hp k i b1 a1 e;rw[a2,b2]at this;exact absurd ⟨rfl,rfl⟩ this
 subst this;rw[hi]at hk;injection hk
theorem ki.mem(h:ki s L){M:List aj}(hM:∀c∈M,c∈L){c:aj}:c∈ay M↔c∈M :=
 kj (fun c hc=>h.valid c (hM c hc)) (fun c hc d hd=>h.ids c (hM c hc) d (hM d hd))
theorem ki.nodup(h:ki s L):L.Nodup:=by refine xX.2 fun i k hi hk hik e=>?_;have h1:L[i]?=some L[i]:=zV hi;have h2:L[k]?=some L[k]:=zV hk;have a:=(h.cap.2 i _ _ h1 (zV (by rw[<-h.cap.1];exact hi))).seq;have b:=(h.cap.2 k _ _ h2 (zV (by rw[<-h.cap.1];exact hk))).seq;rw[e]at a;omega
theorem ki.len(h:ki s L){M:List aj}(hM:∀c,c∈M↔c∈L):(ay M).length=L.length:=sz h.nodup hM h.valid h.ids
end
def lZ(s:dl)(x:fv)(k:Nat):List cJ:=(List.range k).map fun g:Nat=>⟨s.num,x.cand,(g:Int),x.var⟩
def fB(s:dl)(i:Nat):List cJ:=(s.xp.take i).flatMap fun x=>lZ s x (F9 s x.var)
section
variable {s:dl} {i k:Nat} {x:fv}
theorem Dd(s:dl)(x:fv):lZ s x 0=[]:=rfl
theorem pw(h:s.xp[i]?=some x):fB s (i+1)=fB s i++lZ s x (F9 s x.var):=by unfold fB;rw[ax h,List.flatMap_append];simp
theorem C6(s:dl):fB s s.xp.length=iH s:=by unfold fB iH;rw[List.take_length];rfl
theorem Di(s:dl)(x:fv)(k:Nat):lZ s x (k+1)=lZ s x k++[⟨s.num,x.cand,(k:Int),x.var⟩]:=by unfold lZ;rw[xP];simp
theorem tg(s:dl)(x:fv)(k:Nat):(lZ s x k).length=k:=by unfold lZ;simp
theorem Kf(h:dU s)(hx:x∈s.xp):F9 s x.var<=12:=by have:=rL h hx;obtain⟨q,b,_,hb,hv,_⟩:=rT h this.2.2.1 this.2.2.2.1;rw[uo hb];exact (mR hv).2
theorem mh(h:dU s):∀i,(fB s i).length<=12*i
 |0=>by simp[fB]
 |i+1=>by
  have ih:=mh h i;cases hx:s.xp[i]? with
  |none =>
   have:fB s (i+1)=fB s i:=by unfold fB;rw[xV (by have:=List.getElem?_eq_none_iff.1 hx;omega),xV (List.getElem?_eq_none_iff.1 hx)]
   rw[this];omega
  |some x =>
   rw[pw hx,yU,tg];have:=Kf h (zW hx);omega
theorem nO.len{ls:List cJ}{L:List aj}(h:nO s ls L):L.length=ls.length:=h.1
end
open _root_.Go.Proofs.Tryz
theorem lJ{bB oB nB cB r:Nat}{bks:List (List (List Int))}{bk:List (List Int)}(hB:l9 p w (D (some ⟨bB,oB,none⟩) nB cB) bks)(hr:bks[r]?=some bk)(hx:XT p w wx) :
  ∃A n c,wx.cell? ⟨bB,oB+r,none⟩=some (D A n c)/\oc p wx (D A n c) bk/\Hid (bk.length=n):=by
 have hl:=hB.len;have hrn:r<nB:=by have:=(zY.1 hr).1;omega
 obtain⟨cs,b,-,hc,hR,hx'⟩:=(hB.xt (JY.stab p) hx).cell_ hrn;have e:=hx'.out;rw[hr]at e;injection e with e;subst e;obtain⟨A,n,c,h0,hI⟩:=Hw hc hR;rw[wH]at h0;exact⟨A,n,c,h0,hI,hI.len⟩
theorem kn{bP oP nP cP r:Nat}{ps:List je}{q:je}(hB:jg p w (D (some ⟨bP,oP,none⟩) nP cP) ps)(hr:ps[r]?=some q)(hx:XT p w wx) :
  ∃A n c,wx.cell? ⟨bP,oP+r*3,none⟩=some (B C q.code)/\wx.cell? ⟨bP,oP+r*3+1,none⟩=some (B C q.var)/\wx.cell? ⟨bP,oP+r*3+2,none⟩=some (D A n c)/\oa p wx (D A n c) q.ps/\aU q.code/\aU q.var:=by
 have hl:=hB.len;have hrn:r<nP:=by have:=(zY.1 hr).1;omega
 obtain⟨cs,b,-,hc,hR,hx'⟩:=(hB.xt (BQ.stab p) hx).cell_ hrn;have e:=hx'.out;rw[hr]at e;injection e with e;subst e;exact GP hc hR
theorem yu{l:List Int}{x:Int}(h:l.all fE=true)(hx:x∈([0,0,1,9,8,4]:List Int)):(l++[x]).all fE=true:=by rw[List.all_append,h,yK];have:=(by decide:∀x∈([0,0,1,9,8,4]:List Int),fE x=true) x hx;simp[this]
theorem E2(p:Nat)(v:Value)(s:dl)(w:World)(h:bz w p)(hs:aR p w v s)(hok:dU s) :
  Calls prog 42 #[.pointer (some ⟨p,0,none⟩),v] w (iN p w fun v w'=>∃ys,ar w.heap.size w' v ys/\ki s (ys.map Prod.fst)):=by
 obtain⟨iC,hiC,hC0,hC1,hC2⟩:=info_parts Tryz.infoCap;obtain⟨i0,hi0,hz0,hz1,hz2⟩:=info_parts Tryz.infoI;obtain⟨vP,vB,vX,rfl,hP,hB,hX,hnum⟩:=hs;obtain⟨AP,nP,cP,rfl,-,-,-,HLP⟩:=hP.open_;obtain⟨AB,nB,cB,rfl,-,-,-,HLB⟩:=hB.open_;obtain⟨AX,nX,cX,rfl,hnX,hcX,hmX,HLX⟩:=hX.open_;have hlt:=h.lt;have hPB:=hok.bks;have hnum':=hok.num;have hxn:nX<=60:=by have:=hok.len;have:=HLX.out;omega
 have HK:Bx (dU s):=⟨hok⟩
 have HR0:Bx (jg p w (D AP nP cP) s.pap/\l9 p w (D AB nB cB) s.bk/\jh p w (D AX nX cX) s.xp):=⟨⟨hP,hB,hX⟩⟩
 have HPB:Bx (s.bk.length=s.pap.length):=⟨hPB⟩
 obtain⟨hnum1,hnum2⟩:=hnum';obtain⟨w1,hw1⟩:=nm ((w.alloc (.cells #[B C s.num,D AP nP cP,D AB nB cB,D AX nX cX] 27)):World);have HF:Bx (Fr p w w1 [(w.heap.size,#[B C s.num,D AP nP cP,D AB nB cB,D AX nX cX],27)]):=⟨by rw[hw1];exact (Fr.start h).push _ _ rfl⟩
 clear hP hB hX hnum hok h hPB;go_enter func42,ntmps42
 go_upto_region 2 with (fail)
 rw[<-hw1];clear hw1;go_wp2_with fail;go_loopw [5,6] (fun s5 s6 wr=>∃(i no:Nat) (ys:List (aj×Value)) (Ao:Option Addr) (co:Nat),s5=D Ao no co/\s6=B C i/\i<=nX/\ys.length<=no/\no<=ys.length/\Bx (ar w.heap.size wr (D Ao no co) ys/\Fr p w wr [(w.heap.size,#[B C s.num,D AP nP cP,D AB nB cB,D AX nX cX],27)]/\nO s (fB s i) (ys.map Prod.fst))) (fun _ i _=>nX-(intOf i).toNat)
 case atStart=>exact⟨0,0,[],none,0,rfl,rfl,by omega,by simp,by simp,⟨⟨ar.nil _ _,HF.out,nO.nil s⟩⟩⟩
 case round =>
  obtain⟨i,no,ys,Ao,co,rfl,rfl,hi,hy1,hy2,HR⟩:=hrel;clear HF;obtain⟨b0,b1,b2,b3⟩:=(HR.out.2.1.at_ 0 rfl).p4 rfl;by_cases hin:i<nX
  ·obtain⟨bX,oX,_,_,rfl,-⟩:=HR0.out.2.2.at_ hin;obtain⟨csX,⟨xc,xe,xv⟩,-,hcX',hRX,hxX⟩:=(HR0.out.2.2.xt (lR.stab p) HR.out.2.1.xt).cell_ hin;obtain⟨x0,x1,x2⟩:=qx hcX' hRX;have hxm:(⟨xc,xe,xv⟩:fv)∈s.xp:=zW hxX.out;have hxb:=rL HK.out hxm;simp only at hxb x0 x1 x2;obtain⟨xb1,xb2,xb3,xb4,xb5,xb6⟩:=hxb;have HXM:Bx ((⟨xc,xe,xv⟩:fv)∈s.xp/\s.xp[i]?=some ⟨xc,xe,xv⟩):=⟨⟨hxm,hxX.out⟩⟩
   obtain⟨q,bk,hq,hbk,hbv,hvp,-,-⟩:=rT HK.out xb3 xb4;obtain⟨r,rfl⟩:=zG xb3;have hrP:r<nP:=by have:=HLP.out;omega
   have hrB:r<nB:=by have:=HLB.out;have:=HPB.out;omega
   obtain⟨bP,oP,_,_,rfl,-⟩:=HR0.out.1.at_ hrP;obtain⟨bB,oB,_,_,rfl,-⟩:=HR0.out.2.1.at_ hrB;have hbk12:=mR hbv;rw[yC]at hq hbk;have HQ:Bx (s.pap[r]?=some q/\s.bk[r]?=some bk/\F9 s (r:Int)=bk.length):=⟨⟨hq,hbk,by unfold F9;rw[yC,hbk];rfl⟩⟩
   obtain⟨np,hnp⟩:=nm bk.length;have hnp12:np<=12:=by omega
   have HNP:Bx (np=bk.length):=⟨hnp⟩
   have hno0:no<=720:=by have h1:=HR.out.2.2.1;have h2:=mh HK.out i;rw[zJ]at h1;omega
   clear hxX hxm hcX' hRX hq hbk hbv hvp hbk12 hnp;obtain⟨wo,hwo⟩:=nm (wr:World);obtain⟨wx1,hwx1⟩:=nm ((wr.alloc (.cells #[B C xc,B C xe,B C (r:Int)] 90)):World);obtain⟨gx,hgx⟩:=nm wr.heap.size;have hxx1:ab wr wx1:=by rw[hwx1];exact (zE _).alloc _
   have HF1:Bx (Fr p w wx1 [(w.heap.size,#[B C s.num,D (some ⟨bP,oP,none⟩) nP cP,D (some ⟨bB,oB,none⟩) nB cB,D (some ⟨bX,oX,none⟩) nX cX],27),(gx,#[B C xc,B C xe,B C (r:Int)],90)]):=⟨by rw[hwx1,hgx];exact HR.out.2.1.new _ _⟩
   have HO1:Bx (ar w.heap.size wx1 (D Ao no co) ys/\nO s (fB s i) (ys.map Prod.fst)):=⟨HR.out.1.ext hxx1,HR.out.2.2⟩
   go_upto_region 6 with (fail)
   rw[<-hwx1,<-hgx];clear hwx1 hgx hxx1 hwo HR x0 x1 x2 b0 b1 b2 b3;go_wp2_with fail;go_loopw [5,8] (fun s5 s8 wr=>∃(k no:Nat) (ys:List (aj×Value)) (Ao:Option Addr) (co:Nat),s5=D Ao no co/\s8=B C k/\k<=np/\ys.length<=no/\no<=ys.length/\Bx (ar w.heap.size wr (D Ao no co) ys/\Fr p w wr [(w.heap.size,#[B C s.num,D (some ⟨bP,oP,none⟩) nP cP,D (some ⟨bB,oB,none⟩) nB cB,D (some ⟨bX,oX,none⟩) nX cX],27),(gx,#[B C xc,B C xe,B C (r:Int)],90)]/\nO s (fB s i++lZ s ⟨xc,xe,r⟩ k) (ys.map Prod.fst))) (fun _ i _=>np-(intOf i).toNat)
   case atStart=>exact⟨0,no,ys,_,_,rfl,rfl,by omega,by omega,by omega,⟨⟨HO1.out.1,HF1.out,by rw[Dd,xN];exact HO1.out.2⟩⟩⟩
   case round =>
    clear HF1 HO1 hy1 hy2 hno0;clear ys;obtain⟨k,no,ys,Ao,co,rfl,rfl,hk,hy1,hy2,HR⟩:=hrel;have hno0:no<=800:=by have h1:=HR.out.2.2.1;have h2:=mh HK.out i;rw[zJ,yU,tg]at h1;omega
    obtain⟨Ab,nb,cb,kb,-,hbn⟩:=lJ HR0.out.2.1 HQ.out.2.1 HR.out.2.1.xt;have hnb1:nb<=np:=by have:=hbn.out;have:=HNP.out;omega
    have hnb2:np<=nb:=by have:=hbn.out;have:=HNP.out;omega
    have s2:=(HR.out.2.1.at_ 0 rfl).c 2 rfl;have s0:=(HR.out.2.1.at_ 0 rfl).c 0 rfl;have e0:=(HR.out.2.1.at_ 1 rfl).c 0 rfl;have e2:=(HR.out.2.1.at_ 1 rfl).c 2 rfl;by_cases hkn:k<np
    ·have hkb:k<nb:=by omega
     have HLS:Bx ((⟨s.num,xc,(k:Int),(r:Int)⟩:cJ)∈iH s):=⟨rK.2 ⟨_,HXM.out.1,k,by have:=HQ.out.2.2;have:=HNP.out;simp only;omega,rfl⟩⟩
     have HLB1:Bx (dj s.num xc (k:Int) (r:Int)=true):=⟨Br HK.out HLS.out⟩
     have hx9:ab wr (wr.alloc (.cells #[B C s.num,B C xc,B C (k:Int),B C (r:Int)] 45)):=(zE _).alloc _;have H9:Bx (ar w.heap.size (wr.alloc (.cells #[B C s.num,B C xc,B C (k:Int),B C (r:Int)] 45)) (D Ao no co) ys/\Fr p w (wr.alloc (.cells #[B C s.num,B C xc,B C (k:Int),B C (r:Int)] 45)) [(w.heap.size,#[B C s.num,D (some ⟨bP,oP,none⟩) nP cP,D (some ⟨bB,oB,none⟩) nB cB,D (some ⟨bX,oX,none⟩) nX cX],27),(gx,#[B C xc,B C xe,B C (r:Int)],90)]):=⟨HR.out.1.ext hx9,HR.out.2.1.ext hx9⟩
     have HWT:Bx (nO s (fB s i++lZ s ⟨xc,xe,r⟩ k) (ys.map Prod.fst)):=⟨HR.out.2.2⟩
     clear HR hx9;go_wp2_with fail;refine (sX s.num xc k r _).mono ?_;rintro e w3 ⟨b,kk,rfl,-,hb,hx3⟩;have HD:Bx (bl b=eH (mH s.num xc k r)):=⟨by rw[hb,ni HLB1.out]⟩
     have hbs:b.size<=1000:=by rw[<-aO,hb];exact AK _ _ _ _
     have HR3:=bx (H9.out.2.ext hx3);have HO3:=bx (H9.out.1.ext hx3);clear H9 hx3 hb kb s2 s0 e0 e2;go_upto_region 11 with (fail)
     go_cut [12] (fun s12 wx=>∃(gc:Nat) (t:Int),s12=.pointer (some ⟨gc,0,none⟩)/\0<=t/\t<=24/\Bx (ar w.heap.size wx (D Ao no co) ys/\Fr p w wx [(w.heap.size,#[B C s.num,D (some ⟨bP,oP,none⟩) nP cP,D (some ⟨bB,oB,none⟩) nB cB,D (some ⟨bX,oX,none⟩) nX cX],27),(gx,#[B C xc,B C xe,B C (r:Int)],90),(gc,#[B C t,B C 1,B C (no:Int),B C 1,.string b,B C (100*xc+(k:Int)),D none 0 0,B C 0,B C 0,B C 0,B C 0,B C 0,B C 0],47)]/\(Value.slice Ao no co).ownBlock≠some gc))
     case first =>
      have m1:IntKind.i64.wrap (100*xc)=100*xc:=yN _ (by omega);have m2:IntKind.i64.wrap (100*xc+(k:Int))=100*xc+(k:Int):=yN _ (by omega);refine zR 13 (fun w'=>w'.cell? ⟨gx,0,none⟩=some (B C xc)) ?_;obtain⟨wd,hwd⟩:=nm (w3.drew:World);have hxd:ab w3 wd:=by rw[hwd];exact (zE _).drew
      have HF0:=bx (HR3.out.ext hxd);have HO0:=bx (HO3.out.ext hxd);rw[<-hwd];clear hwd hxd;have kS0:wd.cell? ⟨gx,0,none⟩=some (B C xc):=(HF0.out.at_ 1 rfl).c 0 rfl;refine zS 9 [(0,51),(2,53),(5,56),(6,57),(9,60),(3,54),(7,58),(8,59),(10,61)] kS0 ?_;iterate 9 refine zT ?_
      refine zN (an 1 12 (by kernel_rfl) rfl rfl (fun K hK=>?_) (fun K hK=>?_))
      ·go_simp;refine (az p 0 24 _ HF0.out.tp (by omega) (by omega) (by omega) (by omega)).mono ?_;rintro e wq1 ⟨v1,rfl,⟨t,rfl,ht1,ht2⟩,HT1,HX1⟩;have HF1:=bx (HF0.out.step HX1 HT1);have HO1:=bx (HO0.out.xt HX1 hlt);have kS1:wq1.cell? ⟨gx,0,none⟩=some (B C xc):=(HF1.out.at_ 1 rfl).c 0 rfl;clear HF0 HO0 kS0 HX1 HT1;refine hK.out _ _ (fun _=>(kS1)) ?_;clear hK K;try simp only[kA]
       refine zS 2 [(4,55),(11,62)] kS1 ?_;iterate 2 refine zT ?_
       refine zN (zO 12 (fun K hK=>?_));go_simp;obtain⟨wq2,hwq2⟩:=nm ((wq1.alloc (.cells #[B C 0,B C 0,B C 0,B C 0,.string ⟨#[]⟩,B C 0,D none 0 0,B C 0,B C 0,B C 0,B C 0,B C 0,B C 0] 47)):World);have hx2:ab wq1 wq2:=by rw[hwq2];exact (zE _).alloc _
       obtain⟨gk2,hg2⟩:=nm wq1.heap.size;have HF2:Bx (Fr p w wq2 [(w.heap.size,#[B C s.num,D (some ⟨bP,oP,none⟩) nP cP,D (some ⟨bB,oB,none⟩) nB cB,D (some ⟨bX,oX,none⟩) nX cX],27),(gx,#[B C xc,B C xe,B C (r:Int)],90),(gk2,#[B C 0,B C 0,B C 0,B C 0,.string ⟨#[]⟩,B C 0,D none 0 0,B C 0,B C 0,B C 0,B C 0,B C 0,B C 0],47)]):=⟨by rw[hwq2];exact HF1.out.push _ _ hg2.symm⟩
       have HO2:=bx (HO1.out.ext hx2);have HG2:Bx ((Value.slice Ao no co).ownBlock≠some gk2):=⟨fun e=>by have:=(HO1.out.own.own.lt _ e).2;omega⟩
       rw[<-hwq2,<-hg2];clear hwq2 hg2 hx2;have kS2:wq2.cell? ⟨gx,0,none⟩=some (B C xc):=(HF2.out.at_ 1 rfl).c 0 rfl;clear HF1 HO1 kS1;refine hK.out _ _ (fun _=>(kS2)) ?_;clear hK K;try simp only[kA]
       refine zO 13 (fun K hK=>?_);obtain⟨z0,z1,z2,z3,z4,z5,z6,z7,z8,z9,z10,z11,z12⟩:=(HF2.out.at_ 2 rfl).p13 rfl;have f0:=(HF2.out.at_ 2 rfl).froz;have f1:=f0;have f2:=f0;have f3:=f0;have f4:=f0;have f5:=f0;have f6:=f0;have f7:=f0;have f8:=f0;have f9:=f0;have f10:=f0;have f11:=f0;have f12:=f0;go_simp;refine hK.out _ _ (fun h=>absurd rfl h) ?_;clear hK K;refine zD ?_;go_wp2_with fail;go_meet
       have e1:=HF2.out.setAll 2 rfl [B C t,B C 1,B C (no:Int),B C 1,.string b,B C (100*xc+(k:Int)),D none 0 0,B C 0,B C 0,B C 0,B C 0,B C 0,B C 0] rfl;have e2:=HO2.out.sets (HF2.out.at_ 2 rfl) (by decide) HG2.out 0 [B C t,B C 1,B C (no:Int),B C 1,.string b,B C (100*xc+(k:Int)),D none 0 0,B C 0,B C 0,B C 0,B C 0,B C 0,B C 0];exact⟨gk2,t,rfl,ht1,by omega,⟨⟨e2,e1,HG2.out⟩⟩⟩
      ·go_simp;obtain⟨wq3,hwq3⟩:=nm ((wd.alloc (.cells #[B C 0,B C 0,B C 0,B C 0,.string ⟨#[]⟩,B C 0,D none 0 0,B C 0,B C 0,B C 0,B C 0,B C 0,B C 0] 47)):World);have hx3:ab wd wq3:=by rw[hwq3];exact (zE _).alloc _
       obtain⟨gk3,hg3⟩:=nm wd.heap.size;have HF3:Bx (Fr p w wq3 [(w.heap.size,#[B C s.num,D (some ⟨bP,oP,none⟩) nP cP,D (some ⟨bB,oB,none⟩) nB cB,D (some ⟨bX,oX,none⟩) nX cX],27),(gx,#[B C xc,B C xe,B C (r:Int)],90),(gk3,#[B C 0,B C 0,B C 0,B C 0,.string ⟨#[]⟩,B C 0,D none 0 0,B C 0,B C 0,B C 0,B C 0,B C 0,B C 0],47)]):=⟨by rw[hwq3];exact HF0.out.push _ _ hg3.symm⟩
       have HO3:=bx (HO0.out.ext hx3);have HG3:Bx ((Value.slice Ao no co).ownBlock≠some gk3):=⟨fun e=>by have:=(HO0.out.own.own.lt _ e).2;omega⟩
       rw[<-hwq3,<-hg3];clear hwq3 hg3 hx3;have kS3:wq3.cell? ⟨gx,0,none⟩=some (B C xc):=(HF3.out.at_ 1 rfl).c 0 rfl;clear HF0 HO0 kS0;refine hK.out _ _ (fun _=>(kS3)) ?_;clear hK K;try simp only[kA]
       refine zO 1 (fun K hK=>?_);go_simp;refine (az p 0 24 _ HF3.out.tp (by omega) (by omega) (by omega) (by omega)).mono ?_;rintro e wq4 ⟨v4,rfl,⟨t,rfl,ht1,ht2⟩,HT4,HX4⟩;have HO4:=bx (HO3.out.xt HX4 hlt);have HF4:=bx (HF3.out.step HX4 HT4);have HG4:Bx ((Value.slice Ao no co).ownBlock≠some gk3):=⟨HG3.out⟩
       have kS4:wq4.cell? ⟨gx,0,none⟩=some (B C xc):=(HF4.out.at_ 1 rfl).c 0 rfl;clear HO3 HF3 HG3 kS3 HX4 HT4;refine hK.out _ _ (fun _=>(kS4)) ?_;clear hK K;try simp only[kA]
       refine zS 2 [(4,55),(11,62)] kS4 ?_;iterate 2 refine zT ?_
       refine zN (zO 13 (fun K hK=>?_));obtain⟨z0,z1,z2,z3,z4,z5,z6,z7,z8,z9,z10,z11,z12⟩:=(HF4.out.at_ 2 rfl).p13 rfl;have f0:=(HF4.out.at_ 2 rfl).froz;have f1:=f0;have f2:=f0;have f3:=f0;have f4:=f0;have f5:=f0;have f6:=f0;have f7:=f0;have f8:=f0;have f9:=f0;have f10:=f0;have f11:=f0;have f12:=f0;go_simp;refine hK.out _ _ (fun h=>absurd rfl h) ?_;clear hK K;refine zD ?_;go_wp2_with fail;go_meet
       have e1:=HF4.out.setAll 2 rfl [B C t,B C 1,B C (no:Int),B C 1,.string b,B C (100*xc+(k:Int)),D none 0 0,B C 0,B C 0,B C 0,B C 0,B C 0,B C 0] rfl;have e2:=HO4.out.sets (HF4.out.at_ 2 rfl) (by decide) HG4.out 0 [B C t,B C 1,B C (no:Int),B C 1,.string b,B C (100*xc+(k:Int)),D none 0 0,B C 0,B C 0,B C 0,B C 0,B C 0,B C 0];exact⟨gk3,t,rfl,ht1,by omega,⟨⟨e2,e1,HG4.out⟩⟩⟩
     case rest =>
     obtain⟨gc,t,rfl,ht1,ht2,HR4⟩:=hcut;clear HR3 HO3;obtain⟨Aq,nq,cq,p0,p1,p2,hIQ,hq1,hq2⟩:=kn HR0.out.1 HQ.out.1 HR4.out.2.1.xt;obtain⟨Ab,nb,cb,kb,hIB,-⟩:=lJ HR0.out.2.1 HQ.out.2.1 HR4.out.2.1.xt;have HIQ:Bx (oa p wc (D Aq nq cq) q.ps/\oc p wc (D Ab nb cb) bk):=⟨⟨hIQ,hIB⟩⟩
     clear hIQ hIB hq1 hq2;go_upto_region 12 with (fail)
     go_cut [13] (fun s13 wx=>∃m:Nat,s13=B C m/\m<=120/\Hid ((dr q.code q.var q.ps bk k).length=m)/\Bx (ar w.heap.size wx (D Ao no co) ys/\Fr p w wx [(w.heap.size,#[B C s.num,D (some ⟨bP,oP,none⟩) nP cP,D (some ⟨bB,oB,none⟩) nB cB,D (some ⟨bX,oX,none⟩) nX cX],27),(gx,#[B C xc,B C xe,B C (r:Int)],90),(gc,#[B C t,B C 1,B C (no:Int),B C 1,.string b,B C (100*xc+(k:Int)),D none 0 0,B C 0,B C 0,B C 0,B C 0,B C 0,B C 0],47)]))
     case first =>
      have hF:=HR4.out.2.1.drew;have kS:wc.drew.cell? ⟨w.heap.size,1,none⟩=some (D (some ⟨bP,oP,none⟩) nP cP)/\wc.drew.cell? ⟨w.heap.size,2,none⟩=some (D (some ⟨bB,oB,none⟩) nB cB)/\wc.drew.cell? ⟨gx,2,none⟩=some (B C (r:Int)) /\
       wc.drew.cell? ⟨bP,oP+r*3,none⟩=some (B C q.code)/\wc.drew.cell? ⟨bP,oP+r*3+1,none⟩=some (B C q.var)/\wc.drew.cell? ⟨bP,oP+r*3+2,none⟩=some (D Aq nq cq)/\wc.drew.cell? ⟨bB,oB+r,none⟩=some (D Ab nb cb) :=
       ⟨(hF.at_ 0 rfl).c 1 rfl,(hF.at_ 0 rfl).c 2 rfl,(hF.at_ 1 rfl).c 2 rfl,p0,p1,p2,kb⟩
      clear p0 p1 p2 kb hF;refine zR 15 (fun w'=>w'.cell? ⟨w.heap.size,1,none⟩=some (D (some ⟨bP,oP,none⟩) nP cP)/\w'.cell? ⟨w.heap.size,2,none⟩=some (D (some ⟨bB,oB,none⟩) nB cB)/\w'.cell? ⟨gx,2,none⟩=some (B C (r:Int))/\w'.cell? ⟨bP,oP+r*3,none⟩=some (B C q.code)/\w'.cell? ⟨bP,oP+r*3+1,none⟩=some (B C q.var)/\w'.cell? ⟨bP,oP+r*3+2,none⟩=some (D Aq nq cq)/\w'.cell? ⟨bB,oB+r,none⟩=some (D Ab nb cb)) ?_;refine zS 13 [(0,63),(1,64),(2,65),(3,66),(4,67),(5,68),(6,69),(7,70),(8,71),(9,72),(10,73),(11,74),(12,75)] kS ?_;iterate 13 refine zT ?_
      refine zN (zO 13 (fun K hK=>?_));go_simp;refine (ko q.code q.var k _ _ q.ps bk _ (p:=p) HR4.out.2.1.drew.lt (HIQ.out.1.ext (bC.stab p) ((zE _).drew)) (HIQ.out.2.ext (RI.stab p) ((zE _).drew)) ⟨by omega,by omega⟩).mono ?_;rintro e w4 ⟨v4,rfl,hI4,hx4⟩;obtain⟨A4,n4,c4,rfl,hn4c,hc4,hn4m,HL4⟩:=hI4.open_;have hn4:n4<=120:=by have:=HL4.out;have:=pH q.code q.var q.ps bk k;omega
      refine hK.out _ _ (fun _=>(⟨hx4.cell kS.1,hx4.cell kS.2.1,hx4.cell kS.2.2.1,hx4.cell kS.2.2.2.1,hx4.cell kS.2.2.2.2.1,hx4.cell kS.2.2.2.2.2.1,hx4.cell kS.2.2.2.2.2.2⟩)) ?_;clear hK K;try simp only[kA]
      refine zO 14 (fun K hK=>?_);go_simp;refine hK.out _ _ (fun _=>(⟨hx4.cell kS.1,hx4.cell kS.2.1,hx4.cell kS.2.2.1,hx4.cell kS.2.2.2.1,hx4.cell kS.2.2.2.2.1,hx4.cell kS.2.2.2.2.2.1,hx4.cell kS.2.2.2.2.2.2⟩)) ?_;clear hK K;try simp only[kA]
      refine zO 15 (fun K hK=>?_);go_simp;refine hK.out _ _ (fun h=>absurd rfl h) ?_;clear hK K;refine zD ?_;go_wp2_with fail;go_meet
      exact⟨n4,rfl,hn4,HL4,⟨(HR4.out.1.ext ((zE _).drew)).ext hx4,HR4.out.2.1.drew.ext hx4⟩⟩
     case rest =>
     obtain⟨m,rfl,hm,HM,HR5⟩:=hcut;have HAP:Bx ((Value.slice Ao no co).ownBlock≠some gc):=⟨HR4.out.2.2⟩
     clear HR4 HIQ p0 p1 p2 kb;go_wp2_with fail;obtain⟨h0,hh0⟩:=nm wc.heap.size;have hw0:w.heap.size<=h0:=by have:=HR5.out.2.xt.size;omega
     have HLT:Bx (∀y∈ys,∀k,y.2.ownBlock=some k->k<h0):=⟨fun y hy k hk'=>by have:=FU (HR5.out.1.el y hy).1.1 k hk';omega⟩
     have hh0':h0<=wc.heap.size:=by omega
     clear hh0;go_loopw [13] (fun s13 wr=>∃(j nc:Nat) (ch:List Int) (A:Option Addr) (cc:Nat),s13=B C j/\nc+j<=m/\m<=nc+j/\ch.length<=nc/\nc<=ch.length/\Bx (ar w.heap.size wr (D Ao no co) ys/\Fr p w wr [(w.heap.size,#[B C s.num,D (some ⟨bP,oP,none⟩) nP cP,D (some ⟨bB,oB,none⟩) nB cB,D (some ⟨bX,oX,none⟩) nX cX],27),(gx,#[B C xc,B C xe,B C (r:Int)],90),(gc,#[B C t,B C 1,B C (no:Int),B C 1,.string b,B C (100*xc+(k:Int)),D A nc cc,B C 0,B C 0,B C 0,B C 0,B C 0,B C 0],47)]/\fu wr h0 (D A nc cc) ch/\ch.all fE=true/\h0<=wr.heap.size)) (fun j _=>(intOf j).toNat)
     case atStart=>exact⟨m,0,[],none,0,rfl,by omega,by omega,by simp,by simp,⟨⟨HR5.out.1,HR5.out.2,fu.nil _ _,rfl,hh0'⟩⟩⟩
     case round =>
      clear HR5 hh0';obtain⟨j,nc,ch,A,cc,rfl,hj1,hj2,hc1,hc2,HR6⟩:=hrel;by_cases hj0:0<j
      ·go_upto_region 15 with (fail)
       have kS:wr.drew.cell? ⟨gc,6,none⟩=some (D A nc cc):=(HR6.out.2.1.drew.at_ 2 rfl).c 6 rfl;refine zR 8 (fun w'=>w'.cell? ⟨gc,6,none⟩=some (D A nc cc)) ?_;refine zS 3 [(0,82),(1,83),(2,84)] kS ?_;iterate 3 refine zT ?_
       refine zN (zO 3 (fun K hK=>?_));go_simp;obtain⟨wl,hwl⟩:=nm ((wr.alloc (.cells #[B C 0,B C 0,B C 1,B C 9,B C 8,B C 4] 3)).drew:World);have hxl:ab wr wl:=by rw[hwl];exact ((zE _).alloc _).drew
       have H7:Bx (ar w.heap.size wl (D Ao no co) ys/\Fr p w wl [(w.heap.size,#[B C s.num,D (some ⟨bP,oP,none⟩) nP cP,D (some ⟨bB,oB,none⟩) nB cB,D (some ⟨bX,oX,none⟩) nX cX],27),(gx,#[B C xc,B C xe,B C (r:Int)],90),(gc,#[B C t,B C 1,B C (no:Int),B C 1,.string b,B C (100*xc+(k:Int)),D A nc cc,B C 0,B C 0,B C 0,B C 0,B C 0,B C 0],47)]/\fu wl h0 (D A nc cc) ch/\h0<=wl.heap.size):=⟨HR6.out.1.ext hxl,HR6.out.2.1.ext hxl,HR6.out.2.2.1.ext hxl,yR HR6.out.2.2.2.2 hxl.size⟩
       have HV:Bx (ch.all fE=true):=⟨HR6.out.2.2.2.1⟩
       have HI7:Bx (ak p wl (D (some ⟨wr.heap.size,0,none⟩) 6 6) [0,0,1,9,8,4]):=⟨by rw[hwl];exact (ak.lit [0,0,1,9,8,4] _ HR6.out.2.1.lt (by decide) (by decide)).ext ((zE _).drew)⟩
       rw[<-hwl];clear hwl hxl kS HR6;have kS:wl.cell? ⟨gc,6,none⟩=some (D A nc cc):=(H7.out.2.1.at_ 2 rfl).c 6 rfl;refine hK.out _ _ (fun _=>kS) ?_;clear hK K;try simp only[kA]
       refine zO 4 (fun K hK=>?_);go_simp;refine (dt p _ [0,0,1,9,8,4] _ H7.out.2.1.tp HI7.out (by simp)).mono ?_;rintro e w8 ⟨v8,rfl,⟨y,rfl,hy⟩,HT8,HX8⟩;have HY:Bx (y∈([0,0,1,9,8,4]:List Int)):=⟨hy⟩
       have H8:Bx (ar w.heap.size w8 (D Ao no co) ys/\Fr p w w8 [(w.heap.size,#[B C s.num,D (some ⟨bP,oP,none⟩) nP cP,D (some ⟨bB,oB,none⟩) nB cB,D (some ⟨bX,oX,none⟩) nX cX],27),(gx,#[B C xc,B C xe,B C (r:Int)],90),(gc,#[B C t,B C 1,B C (no:Int),B C 1,.string b,B C (100*xc+(k:Int)),D A nc cc,B C 0,B C 0,B C 0,B C 0,B C 0,B C 0],47)]/\fu w8 h0 (D A nc cc) ch/\h0<=w8.heap.size):=⟨H7.out.1.xt HX8 hlt,H7.out.2.1.step HX8 HT8,H7.out.2.2.1.xt HX8 (by omega),yR H7.out.2.2.2 HX8.size⟩
       clear H7 HI7 HT8 HX8 kS hy;have kS:w8.cell? ⟨gc,6,none⟩=some (D A nc cc):=(H8.out.2.1.at_ 2 rfl).c 6 rfl;refine hK.out _ _ (fun _=>kS) ?_;clear hK K;try simp only[kA]
       refine zO 5 (fun K hK=>?_);go_simp;obtain⟨w9,hw9⟩:=nm ((w8.alloc (.cells #[B C y] 3)):World);have hx9:ab w8 w9:=by rw[hw9];exact (zE _).alloc _
       obtain⟨g9,hg9⟩:=nm w8.heap.size;have H9:Bx (ar w.heap.size w9 (D Ao no co) ys/\Fr p w w9 [(w.heap.size,#[B C s.num,D (some ⟨bP,oP,none⟩) nP cP,D (some ⟨bB,oB,none⟩) nB cB,D (some ⟨bX,oX,none⟩) nX cX],27),(gx,#[B C xc,B C xe,B C (r:Int)],90),(gc,#[B C t,B C 1,B C (no:Int),B C 1,.string b,B C (100*xc+(k:Int)),D A nc cc,B C 0,B C 0,B C 0,B C 0,B C 0,B C 0],47)]/\fu w9 h0 (D A nc cc) ch/\h0<=w9.heap.size):=⟨H8.out.1.ext hx9,H8.out.2.1.ext hx9,H8.out.2.2.1.ext hx9,yR H8.out.2.2.2 hx9.size⟩
       have B9:Bx (Bk w9 g9 #[B C y] 3):=⟨by rw[hw9,hg9];exact Bk.new w8 _ _⟩
       rw[<-hw9,<-hg9];clear hw9 hg9 hx9 H8 kS;have kS:w9.cell? ⟨gc,6,none⟩=some (D A nc cc):=(H9.out.2.1.at_ 2 rfl).c 6 rfl;refine hK.out _ _ (fun _=>kS) ?_;clear hK K;try simp only[kA]
       refine zO 6 (fun K hK=>?_);have hown0:w9.ownsRow h0 3 1 (D A nc cc) nc (ch.map (Value.int .i64)):=by
        have h1:=H9.out.2.2.1.1;have e:ch.length=nc:=by omega
        rw[e]at h1;exact h1
       refine step_append_lies _ (by rfl) _ _ _ (by rfl) h0 3 i0 _ 1 8 underlying22 hi0 hz0 hz1 hz2 rfl (by omega) (D A nc cc) nc (ch.map (Value.int .i64)) (by rfl) hown0 ⟨g9,0,none⟩ 1 1 [B C y] (by rfl) (by rfl) (World.news_of_block (cs:=#[B C y]) (t:=3) (fr:=(0,0)) B9.out) (by simp[Value.oneCell']) (by omega) (by unfold maxLen;omega) (by omega) H9.out.2.2.2 w9.heap.size rfl ?_;intro g10 c10 w10 hown10 hgrow10 _ hlt10;have H10:Bx (ar w.heap.size w10 (D Ao no co) ys/\Fr p w w10 [(w.heap.size,#[B C s.num,D (some ⟨bP,oP,none⟩) nP cP,D (some ⟨bB,oB,none⟩) nB cB,D (some ⟨bX,oX,none⟩) nX cX],27),(gx,#[B C xc,B C xe,B C (r:Int)],90),(gc,#[B C t,B C 1,B C (no:Int),B C 1,.string b,B C (100*xc+(k:Int)),D A nc cc,B C 0,B C 0,B C 0,B C 0,B C 0,B C 0],47)]/\fu w10 h0 (D (some ⟨g10,0,none⟩) (nc+1) c10) (ch++[y])/\h0<=w10.heap.size):=by
        refine⟨⟨?_,?_,?_,yR H9.out.2.2.2 hgrow10.size⟩⟩
        ·exact H9.out.1.grownI hown0 hgrow10 fun y hy k hk1 hk2=>by have h1:=HLT.out y hy k hk1;have h2:=(hown0.lt k hk2).1;omega
        ·refine H9.out.2.1.grown hgrow10 (fun k x hx=>?_) (fun k hk'=>by have:=aq hown0 k hk';omega);refine aG hown0 (H9.out.2.1.at_ (b:=x.1) (cs:=x.2.1) (t:=x.2.2) k hx) ?_;match k,hx with
         |0,hx=>simp at hx;subst hx;simp only;decide
         |1,hx=>simp at hx;subst hx;simp only;decide
         |2,hx=>simp at hx;subst hx;simp only;decide
        ·refine⟨by simpa[show nc=ch.length by omega] using hown10,fun z hz=>?_,by simp;omega⟩;rcases zM.1 hz with hz|hz
         ·exact H9.out.2.2.1.2.1 z hz
         ·obtain rfl:z=y:=by simpa using hz
          exact (by decide:∀x∈([0,0,1,9,8,4]:List Int),aU x) z HY.out
       have HV10:Bx ((ch++[y]).all fE=true):=⟨yu HV.out HY.out⟩
       clear hown10 hgrow10 hlt10 hown0 H9 B9 kS HV HY;have kS:w10.cell? ⟨gc,6,none⟩=some (D A nc cc):=(H10.out.2.1.at_ 2 rfl).c 6 rfl;have kf:=(H10.out.2.1.at_ 2 rfl).froz;refine hK.out _ _ (fun _=>kS) ?_;clear hK K;try simp only[kA]
       refine zS 1 [(7,89)] kS ?_;refine zT ?_;refine zN (zO 8 (fun K hK=>?_));go_simp;refine hK.out _ _ (fun h=>absurd rfl h) ?_;clear hK K;refine zD ?_;go_wp2_with fail;go_roundw
       case rel=>exact⟨j-1,nc+1,ch++[y],some ⟨g10,0,none⟩,c10,by congr;omega,by omega,by omega,by simp;omega,by simp;omega,⟨⟨H10.out.1.far (H10.out.2.1.at_ 2 rfl) (by decide) HAP.out 6 _,H10.out.2.1.set 2 rfl 6 _,H10.out.2.2.1.far (H10.out.2.1.at_ 2 rfl) (by decide) 6 _,HV10.out,by simp[World.setCell];exact H10.out.2.2.2⟩⟩⟩
       case measure=>simp[intOf];omega
      ·have hnm:nc=m:=by omega
       have HC6:Bx (fu wr w.heap.size (D A nc cc) ch/\ch.all fE=true/\ch.length=nc/\nc=m):=⟨HR6.out.2.2.1.base_ hw0,HR6.out.2.2.2.1,by omega,hnm⟩
       have H7:Bx (ar w.heap.size wr (D Ao no co) ys/\Fr p w wr [(w.heap.size,#[B C s.num,D (some ⟨bP,oP,none⟩) nP cP,D (some ⟨bB,oB,none⟩) nB cB,D (some ⟨bX,oX,none⟩) nX cX],27),(gx,#[B C xc,B C xe,B C (r:Int)],90),(gc,#[B C t,B C 1,B C (no:Int),B C 1,.string b,B C (100*xc+(k:Int)),D A nc cc,B C 0,B C 0,B C 0,B C 0,B C 0,B C 0],47)]):=⟨HR6.out.1,HR6.out.2.1⟩
       clear HR6 hnm;obtain⟨z0,z1,z2,z3,z4,z5,z6,z7,z8,z9,z10,z11,z12⟩:=(H7.out.2.at_ 2 rfl).p13 rfl;obtain rfl:no=ys.length:=by omega
       clear hy1 hy2;have HNW:Bx (ar w.heap.size wr (D Ao ys.length co) ys/\KW s ys.length ⟨s.num,xc,k,r⟩ ⟨⟨t,1,ys.length⟩,1,bl b,100*xc+k,ch,⟨0,0⟩,⟨0,0,0,0⟩⟩/\iu ⟨⟨t,1,ys.length⟩,1,bl b,100*xc+k,ch,⟨0,0⟩,⟨0,0,0,0⟩⟩):=by
        refine⟨H7.out.1,⟨rfl,rfl,rfl,⟨ht1,ht2⟩,HD.out,rfl,?_,HC6.out.2.1⟩,⟨mv ⟨by omega,by omega⟩ ⟨by omega,by omega⟩ ⟨by omega,by omega⟩,IX,?_,⟨by simp only;omega,by simp only;omega⟩,Jb,lab0⟩⟩
        ·intro q' b' hq' hb';simp only[yC]at hq' hb';rw[HQ.out.1]at hq';rw[HQ.out.2.1]at hb';injection hq' with hq';injection hb' with hb';subst hq';subst hb';have:=HM.out;have:=HC6.out.2.2;simp only;omega
        ·show (bl b).length<=1000
         rw[aO];exact hbs
       go_wp2_with (at_builtin;go_loud (refine cZ _ rfl (.tmp 90) (.tmp 92) 35 rfl w.heap.size 47 iC _ 13 128 underlying35 hiC hC0 hC1 hC2 rfl (by omega) (D Ao ys.length co) ys.length (ys.map fZ).flatten rfl (H7.out.1.own.ext ((zE _).alloc _)) _ #[B C t,B C 1,B C (ys.length:Int),B C 1,.string b,B C (100*xc+(k:Int)),D A nc cc,B C 0,B C 0,B C 0,B C 0,B C 0,B C 0] _ rfl (heap_alloc_new _ _) rfl (by simp[Value.oneCell']) (by omega) (by omega) (by have:=H7.out.2.xt.size;simp;omega) ?_;intro v18 w18 hown18 hg18;obtain⟨g18,cap18,rfl,_,_⟩:=di hown18 (by omega)));have H18:Bx (ar w.heap.size w18 (D (some ⟨g18,0,none⟩) (ys.length+1) cap18) (ys++[(⟨⟨t,1,ys.length⟩,1,bl b,100*xc+k,ch,⟨0,0⟩,⟨0,0,0,0⟩⟩,D A nc cc)])/\Fr p w w18 [(w.heap.size,#[B C s.num,D (some ⟨bP,oP,none⟩) nP cP,D (some ⟨bB,oB,none⟩) nB cB,D (some ⟨bX,oX,none⟩) nX cX],27),(gx,#[B C xc,B C xe,B C (r:Int)],90)]):=by
        have hr0:=H7.out.1.ext ((zE wr).alloc (.cells #[B C t,B C 1,B C (ys.length:Int),B C 1,.string b,B C (100*xc+(k:Int)),D A nc cc,B C 0,B C 0,B C 0,B C 0,B C 0,B C 0] 47));refine⟨⟨hr0.push hg18 ?_ (HC6.out.1.ext ((zE _).alloc _)) HNW.out.2.2,?_⟩⟩
        ·rw[Lf]at hown18;exact hown18
        ·refine ((H7.out.2.take 2).ext ((zE _).alloc _)).grown hg18 (fun k x hx=>?_) (aq hr0.own);refine aG hr0.own (((H7.out.2.take 2).ext ((zE _).alloc _)).at_ (b:=x.1) (cs:=x.2.1) (t:=x.2.2) k hx) ?_;match k,hx with
         |0,hx=>simp at hx;subst hx;simp only;decide
         |1,hx=>simp at hx;subst hx;simp only;decide
       clear hown18 hg18 H7 z0 z1 z2 z3 z4 z5 z6 z7 z8 z9 z10 z11 z12;go_roundw
       case rel =>
        refine⟨k+1,ys.length+1,_,_,_,rfl,by go_num,by omega,?_,?_,⟨⟨H18.out.1,H18.out.2,?_⟩⟩⟩
        ·simp
        ·simp
        ·rw[Di,<-xY,yG];refine nO.snoc HWT.out ?_;rw[zJ];exact HNW.out.2.1
       case measure=>simp[intOf];omega
    ·have hkb:¬k<nb:=by omega
     go_wp2_with fail;go_roundw
     case rel =>
      obtain rfl:k=np:=by omega
      exact⟨i+1,no,ys,_,_,rfl,by go_num,by omega,by omega,by omega,⟨⟨HR.out.1,HR.out.2.1.take 1,by rw[pw HXM.out.2];have:=HR.out.2.2;rw[HNP.out,<-HQ.out.2.2]at this;exact this⟩⟩⟩
     case measure=>simp[intOf];omega
  ·obtain rfl:i=nX:=by omega
   go_wp2_with fail;go_ret
   refine⟨_,rfl,⟨ys,HR.out.1,⟨HK.out,?_⟩⟩,HR.out.2.1.tp,HR.out.2.1.xt⟩;have h3:=HR.out.2.2;rw[<-HLX.out,C6]at h3;exact h3
theorem jh.read{b off c:Nat}{l:List fv}(h:jh p w (D (some ⟨b,off,none⟩) n c) l)(hx:XT p w wx)(hk:k<n) :
  ∃xc xe xv:Int,Hid (l[k]?=some ⟨xc,xe,xv⟩)/\wx.cell? ⟨b,off+k*3,none⟩=some (B C xc)/\wx.cell? ⟨b,off+k*3+1,none⟩=some (B C xe)/\wx.cell? ⟨b,off+k*3+2,none⟩=some (B C xv):=by
 obtain⟨cs,⟨xc,xe,xv⟩,-,hc0,hR,hx'⟩:=(h.xt (lR.stab p) hx).cell_ hk;obtain⟨x0,x1,x2⟩:=qx hc0 hR;exact⟨xc,xe,xv,hx',x0,x1,x2⟩
theorem D3{s:dl}{q:je}{b:List (List Int)}(hq:s.pap[k]?=some q)(hb:s.bk[k]?=some b):jK s k=(fD q.code q.var q.ps&&(decide (q.code=s.num)&&(decide (q.var=(k:Int))&&jH q.code q.var q.ps b))):=by unfold jK;rw[hq,hb]
theorem hD{f:Nat->Bool}(h:∀j,j<k->f j=true):(List.range k).all f=true:=xS.2 fun j hj=>h j (yX.1 hj)
theorem mC(v:Value)(s:dl)(w:World)(hs:aR p w v s) :
  Calls prog 19 #[v] w fun e w'=>e=.returned (B C (aC s))/\ab w w':=by
 obtain⟨vP,vB,vX,rfl,hP,hB,hX,hnum⟩:=hs;obtain⟨AP,nP,cP,rfl,hnP,hcP,hmP,HLP⟩:=hP.open_;obtain⟨AB,nB,cB,rfl,hnB,hcB,hmB,HLB⟩:=hB.open_;obtain⟨AX,nX,cX,rfl,hnX,hcX,hmX,HLX⟩:=hX.open_;have HR0:Bx (jg p w (D AP nP cP) s.pap/\l9 p w (D AB nB cB) s.bk/\jh p w (D AX nX cX) s.xp):=⟨⟨hP,hB,hX⟩⟩
 obtain⟨hm1,hm2⟩:=hnum;clear hP hB hX;by_cases c1:0<=s.num/\s.num<=31;case neg =>
  have HE:=zZ (tk c1);go_enter func19,ntmps19
  go_wp2_with fail;all_goals first
   |(exfalso;omega)
   |(go_ret;exact⟨ag HE.out.symm,(zE _).alloc _⟩)
 obtain⟨n1,n2⟩:=c1;by_cases c2:1<=nP/\nP<=4/\nX<=60;case neg =>
  have HE:=zZ (te (s:=s) ⟨n1,n2⟩ (by rw[HLP.out,HLX.out];exact c2));go_enter func19,ntmps19
  go_wp2_with fail;all_goals first
   |(exfalso;omega)
   |(go_ret;exact⟨ag HE.out.symm,(zE _).alloc _⟩)
 obtain⟨p1,p2,x1⟩:=c2;by_cases c3:nB=nP;case neg =>
  have HE:=zZ (AV (s:=s) ⟨n1,n2⟩ (by rw[HLP.out,HLX.out];exact⟨p1,p2,x1⟩) (by rw[HLB.out,HLP.out];exact c3));go_enter func19,ntmps19
  go_wp2_with fail;all_goals first
   |(exfalso;omega)
   |(go_ret;exact⟨ag HE.out.symm,(zE _).alloc _⟩)
 subst c3;have HC3:Bx ((0<=s.num/\s.num<=31)/\(1<=s.pap.length/\s.pap.length<=4/\s.xp.length<=60)/\s.bk.length=s.pap.length):=⟨⟨⟨n1,n2⟩,by rw[HLP.out,HLX.out];exact⟨p1,p2,x1⟩,by rw[HLB.out,HLP.out]⟩⟩
 obtain⟨w1,hw1⟩:=nm ((w.alloc (.cells #[B C s.num,D AP nB cP,D AB nB cB,D AX nX cX] 27)):World);have HF:Bx (aA w w1 [(w.heap.size,#[B C s.num,D AP nB cP,D AB nB cB,D AX nX cX],27)]):=⟨by rw[hw1];exact (aA.start w).push _ _ rfl⟩
 obtain⟨z0,z1,z2,z3⟩:=(HF.out.at_ 0 rfl).p4 rfl;go_enter func19,ntmps19
 go_upto_region 1 with (fail)
 rw[<-hw1];clear hw1;go_wp2_with fail;clear z0 z1 z2 z3;go_loopw [3] (fun s3 wr=>∃k:Nat,s3=B C k/\k<=nB/\Bx (aA w wr [(w.heap.size,#[B C s.num,D AP nB cP,D AB nB cB,D AX nX cX],27)]/\∀j,j<k->jK s j=true)) (fun k _=>nB-(intOf k).toNat)
 case atStart=>exact⟨0,rfl,by omega,⟨⟨HF.out,fun j hj=>by omega⟩⟩⟩
 case round =>
  obtain⟨k,rfl,hk,HR⟩:=hrel;clear HF;obtain⟨z0,z1,z2,z3⟩:=(HR.out.1.at_ 0 rfl).p4 rfl;by_cases hkn:k<nB
  ·obtain⟨bP,oP,_,_,rfl,-⟩:=HR0.out.1.at_ hkn;obtain⟨bB,oB,_,_,rfl,-⟩:=HR0.out.2.1.at_ hkn;have hqk:s.pap[k]?=some (s.pap[k]'(by have:=HLP.out;omega)):=zV _;have hbk:s.bk[k]?=some (s.bk[k]'(by have:=HLB.out;omega)):=zV _;generalize s.pap[k]'(by have:=HLP.out;omega)=q at hqk;generalize s.bk[k]'(by have:=HLB.out;omega)=bk at hbk;obtain⟨Aq,nq,cq,q0,q1,q2,hIQ,hq1,hq2⟩:=kn HR0.out.1 hqk HR.out.1.xt.xt;obtain⟨Ab,nb,cb,b0,hIB,-⟩:=lJ HR0.out.2.1 hbk HR.out.1.xt.xt;obtain⟨qc,qv,qs⟩:=q;simp only at q0 q1 q2 hIQ hq1 hq2;have HG:=zZ (D3 hqk hbk);have HI:Bx (oa p wr (D Aq nq cq) qs/\oc p wr (D Ab nb cb) bk):=⟨⟨hIQ,hIB⟩⟩
   clear hIQ hIB hqk hbk;have kS:wr.drew.cell? ⟨w.heap.size,0,none⟩=some (B C s.num)/\wr.drew.cell? ⟨w.heap.size,1,none⟩=some (D (some ⟨bP,oP,none⟩) nB cP)/\wr.drew.cell? ⟨w.heap.size,2,none⟩=some (D (some ⟨bB,oB,none⟩) nB cB)/\wr.drew.cell? ⟨bP,oP+k*3,none⟩=some (B C qc)/\wr.drew.cell? ⟨bP,oP+k*3+1,none⟩=some (B C qv)/\wr.drew.cell? ⟨bP,oP+k*3+2,none⟩=some (D Aq nq cq)/\wr.drew.cell? ⟨bB,oB+k,none⟩=some (D Ab nb cb):=⟨(HR.out.1.drew.at_ 0 rfl).c 0 rfl,(HR.out.1.drew.at_ 0 rfl).c 1 rfl,(HR.out.1.drew.at_ 0 rfl).c 2 rfl,q0,q1,q2,b0⟩
   have HFd:Bx (aA w wr.drew [(w.heap.size,#[B C s.num,D (some ⟨bP,oP,none⟩) nB cP,D (some ⟨bB,oB,none⟩) nB cB,D AX nX cX],27)]):=⟨HR.out.1.drew⟩
   have HA:Bx (∀j,j<k->jK s j=true):=⟨HR.out.2⟩
   go_upto_region 10 with (fail)
   clear q0 q1 q2 b0 z0 z1 z2 z3 HR;refine zR 99 (fun w'=>w'.cell? ⟨w.heap.size,0,none⟩=some (B C s.num)/\w'.cell? ⟨w.heap.size,1,none⟩=some (D (some ⟨bP,oP,none⟩) nB cP)/\w'.cell? ⟨w.heap.size,2,none⟩=some (D (some ⟨bB,oB,none⟩) nB cB)/\w'.cell? ⟨bP,oP+k*3,none⟩=some (B C qc)/\w'.cell? ⟨bP,oP+k*3+1,none⟩=some (B C qv)/\w'.cell? ⟨bP,oP+k*3+2,none⟩=some (D Aq nq cq)/\w'.cell? ⟨bB,oB+k,none⟩=some (D Ab nb cb)) ?_;refine zS 5 [(0,45),(1,46),(2,47),(3,48),(4,49)] kS ?_;iterate 5 refine zT ?_
   refine zN (zO 5 (fun K hK=>?_));go_simp;refine (fc qc qv _ qs _ (p:=p) (HI.out.1.ext (bC.stab p) ((zE _).drew))).mono ?_;rintro e w2 ⟨rfl,hx2⟩;have HF2:=bx (HFd.out.ext hx2);have HI2:Bx (oa p w2 (D Aq nq cq) qs/\oc p w2 (D Ab nb cb) bk):=⟨(HI.out.1.ext (bC.stab p) ((zE _).drew)).ext (bC.stab p) hx2,(HI.out.2.ext (RI.stab p) ((zE _).drew)).ext (RI.stab p) hx2⟩
   have kS2:w2.cell? ⟨w.heap.size,0,none⟩=some (B C s.num)/\w2.cell? ⟨w.heap.size,1,none⟩=some (D (some ⟨bP,oP,none⟩) nB cP)/\w2.cell? ⟨w.heap.size,2,none⟩=some (D (some ⟨bB,oB,none⟩) nB cB)/\w2.cell? ⟨bP,oP+k*3,none⟩=some (B C qc)/\w2.cell? ⟨bP,oP+k*3+1,none⟩=some (B C qv)/\w2.cell? ⟨bP,oP+k*3+2,none⟩=some (D Aq nq cq)/\w2.cell? ⟨bB,oB+k,none⟩=some (D Ab nb cb):=⟨hx2.cell kS.1,hx2.cell kS.2.1,hx2.cell kS.2.2.1,hx2.cell kS.2.2.2.1,hx2.cell kS.2.2.2.2.1,hx2.cell kS.2.2.2.2.2.1,hx2.cell kS.2.2.2.2.2.2⟩
   clear hx2 kS HFd HI;cases h1:fD qc qv qs with
   |false =>
    replace h1:=zZ h1;refine hK.out _ _ (fun _=>(kS2)) ?_;clear hK K;try simp only[kA]
    refine zS 2 [(6,51),(7,52)] kS2 ?_;iterate 2 refine zT ?_
    refine zN (zS 9 [(8,53),(9,54),(10,55),(11,56),(12,57),(13,58),(14,59),(15,60),(16,61)] kS2 ?_);iterate 9 (apply zK;exact⟨rfl,rfl⟩;simp only[kA];exact rfl)
    refine zN (zS 2 [(17,62),(18,63)] kS2 ?_);iterate 2 refine zT ?_
    refine zN (zS 8 [(19,64),(20,65),(21,66),(22,67),(23,68),(24,69),(25,70),(26,71)] kS2 ?_);iterate 8 (apply zK;exact⟨rfl,rfl⟩;simp only[kA];exact rfl)
    refine zN (zS 2 [(27,72),(28,73)] kS2 ?_);iterate 2 refine zT ?_
    refine zN (zS 12 [(29,74),(30,75),(31,76),(32,77),(33,78),(34,79),(35,80),(36,81),(37,82),(38,83),(39,84),(40,85)] kS2 ?_);iterate 12 (apply zK;exact⟨rfl,rfl⟩;simp only[kA];exact rfl)
    refine zN (zS 1 [(41,86)] kS2 ?_);refine zT ?_;refine zN (zD ?_);clear kS2;have HF9:=zZ (jn HC3.out.1 HC3.out.2.1 HC3.out.2.2 (wT.2 ⟨k,yX.2 (by have:=HLP.out;omega),by rw[HG.out];simp[h1.out]⟩));go_wp2_with fail;go_ret
    exact⟨ag HF9.out.symm,HF2.out.xt⟩
   |true =>
    replace h1:=zZ h1;refine hK.out _ _ (fun _=>(kS2)) ?_;clear hK K;try simp only[kA]
    by_cases h2:qc=s.num;case neg =>
     have h2b:(qc != s.num)=true:=by simp[h2]
     have h2c:(qc==s.num)=false:=beq_eq_false_iff_ne.2 h2;replace h2:=zZ h2;refine zS 13 [(6,51),(7,52),(8,53),(9,54),(10,55),(11,56),(12,57),(13,58),(14,59),(15,60),(16,61),(17,62),(18,63)] kS2 ?_;iterate 13 refine zT ?_
     refine zN (zS 8 [(19,64),(20,65),(21,66),(22,67),(23,68),(24,69),(25,70),(26,71)] kS2 ?_);iterate 8 (apply zK;exact⟨rfl,rfl⟩;simp only[kA];exact rfl)
     refine zN (zS 2 [(27,72),(28,73)] kS2 ?_);iterate 2 refine zT ?_
     refine zN (zS 12 [(29,74),(30,75),(31,76),(32,77),(33,78),(34,79),(35,80),(36,81),(37,82),(38,83),(39,84),(40,85)] kS2 ?_);iterate 12 (apply zK;exact⟨rfl,rfl⟩;simp only[kA];exact rfl)
     refine zN (zS 1 [(41,86)] kS2 ?_);refine zT ?_;refine zN (zD ?_);clear kS2 h2b h2c;have HF9:=zZ (jn HC3.out.1 HC3.out.2.1 HC3.out.2.2 (wT.2 ⟨k,yX.2 (by have:=HLP.out;omega),by rw[HG.out];simp[h2.out]⟩));go_wp2_with fail;go_ret
     exact⟨ag HF9.out.symm,HF2.out.xt⟩
    have h2b:(qc != s.num)=false:=by simp[h2]
    have h2c:(qc==s.num)=true:=by simp[h2]
    replace h2:=zZ h2;by_cases h3:qv=(k:Int)
    case neg =>
     have h3b:(qv != (k:Int))=true:=by simp[h3]
     have h3c:(qv==(k:Int))=false:=beq_eq_false_iff_ne.2 h3;replace h3:=zZ h3;refine zS 23 [(6,51),(7,52),(8,53),(9,54),(10,55),(11,56),(12,57),(13,58),(14,59),(15,60),(16,61),(17,62),(18,63),(19,64),(20,65),(21,66),(22,67),(23,68),(24,69),(25,70),(26,71),(27,72),(28,73)] kS2 ?_;iterate 23 refine zT ?_
     refine zN (zS 12 [(29,74),(30,75),(31,76),(32,77),(33,78),(34,79),(35,80),(36,81),(37,82),(38,83),(39,84),(40,85)] kS2 ?_);iterate 12 (apply zK;exact⟨rfl,rfl⟩;simp only[kA];exact rfl)
     refine zN (zS 1 [(41,86)] kS2 ?_);refine zT ?_;refine zN (zD ?_);clear kS2 h2b h2c h3b h3c;have HF9:=zZ (jn HC3.out.1 HC3.out.2.1 HC3.out.2.2 (wT.2 ⟨k,yX.2 (by have:=HLP.out;omega),by rw[HG.out];simp[h3.out]⟩));go_wp2_with fail;go_ret
     exact⟨ag HF9.out.symm,HF2.out.xt⟩
    have h3b:(qv != (k:Int))=false:=by simp[h3]
    have h3c:(qv==(k:Int))=true:=by simp[h3]
    replace h3:=zZ h3;refine zS 33 [(6,51),(7,52),(8,53),(9,54),(10,55),(11,56),(12,57),(13,58),(14,59),(15,60),(16,61),(17,62),(18,63),(19,64),(20,65),(21,66),(22,67),(23,68),(24,69),(25,70),(26,71),(27,72),(28,73),(29,74),(30,75),(31,76),(32,77),(33,78),(34,79),(35,80),(36,81),(37,82),(38,83)] kS2 ?_;iterate 33 refine zT ?_
    refine zN (zO 39 (fun K hK=>?_));go_simp;refine (eG qc qv _ _ qs bk _ (p:=p) HI2.out.1 HI2.out.2).mono ?_;rintro e w3 ⟨rfl,hx3⟩;have HF3:=bx (HF2.out.ext hx3);have kS3:w3.cell? ⟨w.heap.size,0,none⟩=some (B C s.num)/\w3.cell? ⟨w.heap.size,1,none⟩=some (D (some ⟨bP,oP,none⟩) nB cP)/\w3.cell? ⟨w.heap.size,2,none⟩=some (D (some ⟨bB,oB,none⟩) nB cB)/\w3.cell? ⟨bP,oP+k*3,none⟩=some (B C qc)/\w3.cell? ⟨bP,oP+k*3+1,none⟩=some (B C qv)/\w3.cell? ⟨bP,oP+k*3+2,none⟩=some (D Aq nq cq)/\w3.cell? ⟨bB,oB+k,none⟩=some (D Ab nb cb):=⟨hx3.cell kS2.1,hx3.cell kS2.2.1,hx3.cell kS2.2.2.1,hx3.cell kS2.2.2.2.1,hx3.cell kS2.2.2.2.2.1,hx3.cell kS2.2.2.2.2.2.1,hx3.cell kS2.2.2.2.2.2.2⟩
    clear hx3 kS2 HF2;refine hK.out _ _ (fun _=>(kS3)) ?_;clear hK K;try simp only[kA]
    cases h4:jH qc qv qs bk with
    |false =>
     replace h4:=zZ h4;refine zS 2 [(40,85),(41,86)] kS3 ?_;iterate 2 refine zT ?_
     refine zN (zD ?_);clear kS3 h2b h2c h3b h3c;have HF9:=zZ (jn HC3.out.1 HC3.out.2.1 HC3.out.2.2 (wT.2 ⟨k,yX.2 (by have:=HLP.out;omega),by rw[HG.out];simp[h4.out]⟩));go_wp2_with fail;go_ret
     exact⟨ag HF9.out.symm,HF3.out.xt⟩
    |true =>
     replace h4:=zZ h4;have HT:=zZ (show jK s k=true by rw[HG.out,h1.out,h4.out,decide_eq_true h2.out,decide_eq_true h3.out];rfl);refine zS 2 [(40,85),(41,86)] kS3 ?_;iterate 2 refine zT ?_
     refine zN (zD ?_);clear kS3 h2b h2c h3b h3c;go_wp2_with fail;go_roundw
     case rel=>exact⟨k+1,by go_num,by omega,⟨⟨HF3.out,fun j hj=>by rcases zU j k with h|h;exact HA.out j h;obtain rfl:j=k:=(by omega);exact HT.out⟩⟩⟩
     case measure=>simp[intOf];omega
  ·obtain rfl:nB=k:=by omega
   have HCR:=zZ (mF HC3.out.1 HC3.out.2.1 HC3.out.2.2 (hD fun j hj=>HR.out.2 j (by have:=HLP.out;omega)));have HF2:Bx (aA w wr [(w.heap.size,#[B C s.num,D AP nB cP,D AB nB cB,D AX nX cX],27)]):=⟨HR.out.1⟩
   clear HR;go_wp2_with fail;clear z0 z1 z2 z3;go_loopw [4] (fun s4 wr=>∃k:Nat,s4=B C k/\k<=nX/\Bx (aA w wr [(w.heap.size,#[B C s.num,D AP nB cP,D AB nB cB,D AX nX cX],27)]/\∀(j:Nat) x,j<k->s.xp[j]?=some x->ud s.pap.length x=true)) (fun k _=>nX-(intOf k).toNat)
   case atStart=>exact⟨0,rfl,by omega,⟨⟨HF2.out,fun j x hj=>by omega⟩⟩⟩
   case round =>
    clear HF2;obtain⟨i,rfl,hi,HR⟩:=hrel;obtain⟨z0,z1,z2,z3⟩:=(HR.out.1.at_ 0 rfl).p4 rfl;by_cases hin:i<nX
    ·obtain⟨bX,oX,_,_,rfl,-⟩:=HR0.out.2.2.at_ hin;obtain⟨xc,xe,xv,HX,x0,x1,x2⟩:=jh.read HR0.out.2.2 HR.out.1.xt.xt hin;have HXG:Bx (ud s.pap.length ⟨xc,xe,xv⟩=decide (0<=xc/\xc<=9999/\1<=xe/\xe<=99/\0<=xv/\xv<(nB:Int))):=⟨by unfold ud;rw[HLP.out]⟩
     have hx9:ab wr (wr.alloc (.cells #[B C xc,B C xe,B C xv] 90)):=(zE _).alloc _;have HF9:=bx (HR.out.1.ext hx9);have HA:Bx (∀(j:Nat) x,j<i->s.xp[j]?=some x->ud s.pap.length x=true):=⟨HR.out.2⟩
     obtain⟨y0,y1,y2,y3⟩:=(HF9.out.at_ 0 rfl).p4 rfl;clear HR hx9;by_cases hg:0<=xc/\xc<=9999/\1<=xe/\xe<=99/\0<=xv/\xv<(nB:Int)
     ·obtain⟨g1,g2,g3,g4,g5,g6⟩:=hg;have HT:=zZ (show ud s.pap.length ⟨xc,xe,xv⟩=true by rw[HXG.out];exact decide_eq_true ⟨g1,g2,g3,g4,g5,g6⟩);go_wp2_with fail;go_roundw
      case rel=>exact⟨i+1,by go_num,by omega,⟨⟨HF9.out,fun j y hj hy=>by rcases zU j i with h|h;exact HA.out j y h hy;obtain rfl:j=i:=(by omega);rw[HX.out]at hy;injection hy with hy;subst hy;exact HT.out⟩⟩⟩
      case measure=>simp[intOf];omega
     ·have HE:=zZ (show aC s=2 by
       rw[HCR.out,if_pos];exact wT.2 ⟨⟨xc,xe,xv⟩,zW HX.out,by rw[HXG.out,decide_eq_false hg];simp⟩)
      go_wp2_with fail;all_goals first
       |(exfalso;omega)
       |(go_ret;exact⟨ag HE.out.symm,HF9.out.xt⟩)
    ·obtain rfl:nX=i:=by omega
     have HXA:=zZ (show s.xp.all (ud s.pap.length)=true from xS.2 fun y hy=>by obtain⟨j,hj⟩:=zH hy;exact HR.out.2 j y (by have:=(zY.1 hj).1;have:=HLX.out;omega) hj)
     have HF2:Bx (aA w wr [(w.heap.size,#[B C s.num,D AP nB cP,D AB nB cB,D AX nX cX],27)]):=⟨HR.out.1⟩
     clear HR;go_wp2_with fail;clear z0 z1 z2 z3;go_loopw [6] (fun s6 wr=>∃k:Nat,s6=B C k/\1<=k/\(k<=nX\/k=1)/\Bx (aA w wr [(w.heap.size,#[B C s.num,D AP nB cP,D AB nB cB,D AX nX cX],27)]/\∀j,j+1<k->lW s.xp j=true)) (fun k _=>nX+1-(intOf k).toNat)
     case atStart=>exact⟨1,rfl,by omega,by omega,⟨⟨HF2.out,fun j hj=>by omega⟩⟩⟩
     case round =>
      clear HF2;obtain⟨m,rfl,hm0,hm1,HR⟩:=hrel;obtain⟨z0,z1,z2,z3⟩:=(HR.out.1.at_ 0 rfl).p4 rfl;by_cases hmn:m<nX
      ·obtain⟨bX,oX,_,_,rfl,-⟩:=HR0.out.2.2.at_ hmn;obtain⟨m',hm'⟩:∃m',m'+1=m:=⟨m-1,by omega⟩
       have hmn':m'<nX:=by omega
       obtain⟨xc,xe,xv,HX,x0,-⟩:=jh.read HR0.out.2.2 HR.out.1.xt.xt hmn';obtain⟨yc,ye,yv,HY,y0,-⟩:=jh.read HR0.out.2.2 HR.out.1.xt.xt hmn;have HAG:=zZ (show lW s.xp m'=decide (xc<yc) by unfold lW;rw[HX.out,show m'+1=m from hm',HY.out]);have hmm1:m'+1<=m:=by omega
       have hmm2:m<=m'+1:=by omega
       clear hm';have kS:wr.drew.cell? ⟨w.heap.size,3,none⟩=some (D (some ⟨bX,oX,none⟩) nX cX)/\wr.drew.cell? ⟨bX,oX+m'*3,none⟩=some (B C xc)/\wr.drew.cell? ⟨bX,oX+m*3,none⟩=some (B C yc):=⟨(HR.out.1.drew.at_ 0 rfl).c 3 rfl,x0,y0⟩
       clear x0 y0;have m1:IntKind.i64.wrap ((m:Int)-1)=(m':Int):=by rw[yN _ (by omega)];omega
       go_upto_region 21 with (fail)
       refine zR 99 (fun w'=>w'.cell? ⟨w.heap.size,3,none⟩=some (D (some ⟨bX,oX,none⟩) nX cX)/\w'.cell? ⟨bX,oX+m'*3,none⟩=some (B C xc)/\w'.cell? ⟨bX,oX+m*3,none⟩=some (B C yc)) ?_;refine zS 14 [(0,137),(1,138),(2,139),(3,140),(4,141),(5,142),(6,143),(7,144),(8,145),(9,146),(10,147),(11,148),(12,149),(13,150)] kS ?_;iterate 14 refine zT ?_
       refine zN (zD ?_);clear m1 kS z0 z1 z2 z3;by_cases hxy:xc<yc
       ·have HT:=zZ (show lW s.xp m'=true by rw[HAG.out];exact decide_eq_true hxy);go_wp2_with fail;go_roundw
        case rel=>exact⟨m+1,by go_num,by omega,by omega,⟨⟨HR.out.1.drew,fun j hj=>by rcases zU (j+1) m with h|h;exact HR.out.2 j h;obtain rfl:j=m':=(by omega);exact HT.out⟩⟩⟩
        case measure=>simp[intOf];omega
       ·have HE:=zZ (show aC s=5 by
         rw[HCR.out,if_neg (by rw[HXA.out];simp),if_pos];exact wT.2 ⟨m',yX.2 (by have:=HLX.out;omega),by rw[HAG.out,decide_eq_false hxy];simp⟩)
        go_wp2_with fail;go_ret
        exact⟨ag HE.out.symm,HR.out.1.drew.xt⟩
      ·have HE:=zZ (show aC s=0 by
        rw[HCR.out,if_neg (by rw[HXA.out];simp),if_neg];rw[hD fun j hj=>HR.out.2 j (by have:=HLX.out;omega)];simp)
       go_wp2_with fail;go_ret
       exact⟨ag HE.out.symm,HR.out.1.xt⟩
theorem qH{s:dl}{lab:cJ}{x:fv}{q:je}{b:List (List Int)}(hx:fo s.xp lab.c=some x)(hq:s.pap[lab.v.toNat]?=some q)(hb:s.bk[lab.v.toNat]?=some b) :
  bH s lab ch=(decide (lab.p=s.num)&&(decide (x.var=lab.v)&&(decide (0<=lab.g/\lab.g<(b.length:Int))&&(decide (ch.length=(dr q.code q.var q.ps b lab.g).length)&&ch.all fE)))):=by
 unfold bH;rw[hx,hq,hb]
theorem sC{s:dl}{lab:cJ}(h:lab.p≠s.num):bH s lab ch=false:=by
 cases e:bH s lab ch with
 |false=>rfl
 |true=>obtain⟨x,q,bk,_,h2,_⟩:=ii.1 e;exact absurd h2 h
theorem qO{s:dl}{lab:cJ}(h:fo s.xp lab.c=none):bH s lab ch=false:=by unfold bH;rw[h]
theorem tG{s:dl}{lab:cJ}{x:fv}(hx:fo s.xp lab.c=some x)(h:x.var≠lab.v):bH s lab ch=false:=by
 cases e:bH s lab ch with
 |false=>rfl
 |true =>
  obtain⟨x',q,bk,h1,_,h3,_⟩:=ii.1 e;rw[hx]at h1;injection h1 with h1;subst h1;exact absurd h3 h
theorem pe(v vc:Value)(s:dl)(lp lc lg lv:Int)(ch:List Int)(w:World){q:Nat}(hp:p<w.heap.size)(hs:aR p w v s)(hc:ak q w vc ch)(hl:cJ.wf ⟨lp,lc,lg,lv⟩) :
  Calls prog 37 #[v,.agg #[B C lp,B C lc,B C lg,B C lv],vc] w fun e w'=>e=.returned (.bool (eC s ⟨lp,lc,lg,lv⟩ ch))/\ab w w':=by
 have hs0:=hs;obtain⟨vP,vB,vX,rfl,hP,hB,hX,hnum⟩:=hs;obtain⟨AP,nP,cP,rfl,hnP,hcP,hmP,HLP⟩:=hP.open_;obtain⟨AB,nB,cB,rfl,hnB,hcB,hmB,HLB⟩:=hB.open_;obtain⟨AX,nX,cX,rfl,-⟩:=hX.open_;obtain⟨AC,nC,cC,rfl,hnC,hcC,hmC,HLC⟩:=hc.open_;have HR0:Bx (jg p w (D AP nP cP) s.pap/\l9 p w (D AB nB cB) s.bk/\aR p w (.agg #[B C s.num,D AP nP cP,D AB nB cB,D AX nX cX]) s/\ak q w (D AC nC cC) ch):=⟨⟨hP,hB,hs0,hc⟩⟩
 have HLG:Bx (aU lg):=⟨hl.2.2.1⟩
 obtain⟨hl1,hl2⟩:=hl.2.2.1;clear hP hB hX hs0 hc hnum hl;obtain⟨w1,hw1⟩:=nm (((w.alloc (.cells #[B C s.num,D AP nP cP,D AB nB cB,D AX nX cX] 27)).alloc (.cells #[B C lp,B C lc,B C lg,B C lv] 45)):World);have HF:Bx (aA w w1 [(w.heap.size,#[B C s.num,D AP nP cP,D AB nB cB,D AX nX cX],27),(w.heap.size+1,#[B C lp,B C lc,B C lg,B C lv],45)]):=⟨by rw[hw1];exact ((aA.start w).push _ _ rfl).push _ _ (by simp)⟩
 obtain⟨z0,z1,z2,z3⟩:=(HF.out.at_ 0 rfl).p4 rfl;go_enter func37,ntmps37
 go_upto_region 1 with (fail)
 rw[<-hw1];clear hw1;go_wp2_with fail;refine (mC _ s _ (HR0.out.2.2.1.ext HF.out.xt)).mono ?_;rintro e w2 ⟨rfl,hx2⟩;have HF2:=bx (HF.out.ext hx2);clear HF hx2 z0 z1 z2 z3;obtain⟨z0,z1,z2,z3⟩:=(HF2.out.at_ 0 rfl).p4 rfl;obtain⟨l0,l1,l2,l3⟩:=(HF2.out.at_ 1 rfl).p4 rfl;by_cases hck:aC s=0;case neg =>
  have HE:=zZ (show eC s ⟨lp,lc,lg,lv⟩ ch=false by unfold eC;rw[decide_eq_false hck];rfl);have hcb:(aC s != 0)=true:=by simp[hck]
  replace hck:=zZ hck;go_wp2_with fail;go_ret
  exact⟨aa HE.out.symm,HF2.out.xt⟩
 have HFI:=zZ (show eC s ⟨lp,lc,lg,lv⟩ ch=bH s ⟨lp,lc,lg,lv⟩ ch by unfold eC;rw[decide_eq_true hck];rfl);have HOK:Bx (dU s):=⟨iL.1 hck⟩
 rw[hck];clear hck;by_cases hpn:lp=s.num;case neg =>
  have HE:=zZ (show eC s ⟨lp,lc,lg,lv⟩ ch=false by rw[HFI.out];exact sC hpn);have hcb:(lp != s.num)=true:=by simp[hpn]
  replace hpn:=zZ hpn;go_wp2_with fail;go_ret
  exact⟨aa HE.out.symm,HF2.out.xt⟩
 have hcb:(lp != s.num)=false:=by simp[hpn]
 have HPN:=zZ hpn;clear hpn;go_wp2_with fail;refine (Fw _ s lc _ (HR0.out.2.2.1.ext HF2.out.xt)).mono ?_;rintro e w3 ⟨⟨xc,xe,xv,rfl,hfd0⟩,hx3⟩;have HFD:=zZ hfd0;clear hfd0;have HF3':Bx (aA w w3 [(w.heap.size,#[B C s.num,D AP nP cP,D AB nB cB,D AX nX cX],27),(w.heap.size+1,#[B C lp,B C lc,B C lg,B C lv],45)]):=⟨HF2.out.ext hx3⟩
 obtain⟨w4,hw4⟩:=nm ((w3.alloc (.cells #[B C xc,B C xe,B C xv] 90)):World);obtain⟨gx,hgx⟩:=nm w3.heap.size;have HF4:Bx (aA w w4 [(w.heap.size,#[B C s.num,D AP nP cP,D AB nB cB,D AX nX cX],27),(w.heap.size+1,#[B C lp,B C lc,B C lg,B C lv],45),(gx,#[B C xc,B C xe,B C xv],90)]):=⟨by rw[hw4,hgx];exact HF3'.out.new _ _⟩
 clear HF2 hx3 z0 z1 z2 z3 l0 l1 l2 l3 hcb;go_upto_region 4 with (fail)
 rw[<-hw4,<-hgx];clear hw4 hgx HF3';cases hF:fo s.xp lc with
 |none =>
  have HE:=zZ (show eC s ⟨lp,lc,lg,lv⟩ ch=false by rw[HFI.out];exact qO hF);have kS:True:=trivial;clear hF;refine zR 99 (fun _=>True) ?_;refine zS 3 [(0,26),(1,27),(2,28)] kS ?_;iterate 3 refine zT ?_
  refine zN (zS 5 [(3,29),(4,30),(5,31),(6,32),(7,33)] kS ?_);iterate 5 (apply zK;exact⟨rfl,rfl⟩;simp only[kA];exact rfl)
  refine zN (zS 2 [(8,34),(9,35)] kS ?_);iterate 2 refine zT ?_
  refine zN (zS 3 [(10,36),(11,37),(12,38)] kS ?_);iterate 3 (apply zK;exact⟨rfl,rfl⟩;simp only[kA];exact rfl)
  refine zN (zS 2 [(13,39),(14,40)] kS ?_);iterate 2 refine zT ?_
  refine zN (zS 11 [(15,41),(16,42),(17,43),(18,44),(19,45),(20,46),(21,47),(22,48),(23,49),(24,50),(25,51)] kS ?_);iterate 11 (apply zK;exact⟨rfl,rfl⟩;simp only[kA];exact rfl)
  refine zN (zS 1 [(26,52)] kS ?_);refine zT ?_;refine zN (zD ?_);go_wp2_with fail;go_ret
  exact⟨aa HE.out.symm,HF4.out.drew.xt⟩
 |some x0 =>
  have hfd:=HFD.out;rw[hF]at hfd;obtain rfl:x0=⟨xc,xe,xv⟩:=hfd;have HX:=zZ hF;clear hF HFD;have hxm:=(qR HX.out).1;have hxb:=rL HOK.out hxm;simp only at hxb;obtain⟨xb1,xb2,xb3,xb4,xb5,xb6⟩:=hxb;obtain⟨pq,bk,hpq,hbk,-,-,-,-⟩:=rT HOK.out xb3 xb4;have hbks:=HOK.out.bks;obtain⟨r,rfl⟩:=zG xb3;rw[yC]at hpq hbk;have hrP:r<nP:=by have:=HLP.out;omega
  have hrB:r<nB:=by have:=HLB.out;omega
  obtain⟨bP,oP,_,_,rfl,-⟩:=HR0.out.1.at_ hrP;obtain⟨bB,oB,_,_,rfl,-⟩:=HR0.out.2.1.at_ hrB;obtain⟨Ab,nb,cb,b0,hIB,HNB⟩:=lJ HR0.out.2.1 hbk HF4.out.xt.xt;obtain⟨Aq,nq,cq,q0,q1,q2,hIQ,hq1,hq2⟩:=kn HR0.out.1 hpq HF4.out.xt.xt;obtain⟨pc,pv,pps⟩:=pq;simp only at q0 q1 q2 hIQ hq1 hq2;have HPQ:Bx (s.pap[r]?=some ⟨pc,pv,pps⟩/\s.bk[r]?=some bk):=⟨⟨hpq,hbk⟩⟩
  have HI:Bx (oa p w4 (D Aq nq cq) pps/\oc p w4 (D Ab nb cb) bk):=⟨⟨hIQ,hIB⟩⟩
  clear hxm hpq hbk hbks hIQ hIB hq1 hq2;by_cases hv:(r:Int)=lv;case neg =>
   have HE:=zZ (show eC s ⟨lp,lc,lg,lv⟩ ch=false by rw[HFI.out];exact tG HX.out hv);have kS:w4.drew.cell? ⟨gx,2,none⟩=some (B C (r:Int))/\w4.drew.cell? ⟨w.heap.size+1,3,none⟩=some (B C lv):=⟨(HF4.out.drew.at_ 2 rfl).c 2 rfl,(HF4.out.drew.at_ 1 rfl).c 3 rfl⟩
   have hvb:((r:Int)!=lv)=true:=by simp[hv]
   have hvc:((r:Int)==lv)=false:=beq_eq_false_iff_ne.2 hv;replace hv:=zZ hv;refine zR 99 (fun w'=>w'.cell? ⟨gx,2,none⟩=some (B C (r:Int))/\w'.cell? ⟨w.heap.size+1,3,none⟩=some (B C lv)) ?_;refine zS 10 [(0,26),(1,27),(2,28),(3,29),(4,30),(5,31),(6,32),(7,33),(8,34),(9,35)] kS ?_;iterate 10 refine zT ?_
   refine zN (zS 3 [(10,36),(11,37),(12,38)] kS ?_);iterate 3 (apply zK;exact⟨rfl,rfl⟩;simp only[kA];exact rfl)
   refine zN (zS 2 [(13,39),(14,40)] kS ?_);iterate 2 refine zT ?_
   refine zN (zS 11 [(15,41),(16,42),(17,43),(18,44),(19,45),(20,46),(21,47),(22,48),(23,49),(24,50),(25,51)] kS ?_);iterate 11 (apply zK;exact⟨rfl,rfl⟩;simp only[kA];exact rfl)
   refine zN (zS 1 [(26,52)] kS ?_);refine zT ?_;refine zN (zD ?_);go_wp2_with fail;go_ret
   exact⟨aa HE.out.symm,HF4.out.drew.xt⟩
  subst hv;have HF0:=zZ (show eC s ⟨lp,lc,lg,(r:Int)⟩ ch=(decide (0<=lg/\lg<(bk.length:Int))&&(decide (ch.length=(dr pc pv pps bk lg).length)&&ch.all fE)) by rw[HFI.out,qH HX.out (by simp only[yC];exact HPQ.out.1) (by simp only[yC];exact HPQ.out.2),HPN.out,decide_eq_true rfl,decide_eq_true rfl,yK,yK])
  have kS:w4.drew.cell? ⟨gx,2,none⟩=some (B C (r:Int))/\w4.drew.cell? ⟨w.heap.size+1,3,none⟩=some (B C (r:Int))/\w4.drew.cell? ⟨w.heap.size+1,2,none⟩=some (B C lg)/\w4.drew.cell? ⟨w.heap.size,2,none⟩=some (D (some ⟨bB,oB,none⟩) nB cB)/\w4.drew.cell? ⟨bB,oB+r,none⟩=some (D Ab nb cb) :=
   ⟨(HF4.out.drew.at_ 2 rfl).c 2 rfl,(HF4.out.drew.at_ 1 rfl).c 3 rfl,(HF4.out.drew.at_ 1 rfl).c 2 rfl,(HF4.out.drew.at_ 0 rfl).c 2 rfl,b0⟩
  by_cases hg0:lg<0
  ·have HE:=zZ (show eC s ⟨lp,lc,lg,(r:Int)⟩ ch=false by rw[HF0.out,decide_eq_false (by omega)];rfl);refine zR 99 (fun w'=>w'.cell? ⟨gx,2,none⟩=some (B C (r:Int))/\w'.cell? ⟨w.heap.size+1,3,none⟩=some (B C (r:Int))/\w'.cell? ⟨w.heap.size+1,2,none⟩=some (B C lg)/\w'.cell? ⟨w.heap.size,2,none⟩=some (D (some ⟨bB,oB,none⟩) nB cB)/\w'.cell? ⟨bB,oB+r,none⟩=some (D Ab nb cb)) ?_;refine zS 15 [(0,26),(1,27),(2,28),(3,29),(4,30),(5,31),(6,32),(7,33),(8,34),(9,35),(10,36),(11,37),(12,38),(13,39),(14,40)] kS ?_;iterate 15 refine zT ?_
   refine zN (zS 11 [(15,41),(16,42),(17,43),(18,44),(19,45),(20,46),(21,47),(22,48),(23,49),(24,50),(25,51)] kS ?_);iterate 11 (apply zK;exact⟨rfl,rfl⟩;simp only[kA];exact rfl)
   refine zN (zS 1 [(26,52)] kS ?_);refine zT ?_;refine zN (zD ?_);go_wp2_with fail;go_ret
   exact⟨aa HE.out.symm,HF4.out.drew.xt⟩
  have hg1:0<=lg:=by omega
  have hgd:decide (lg<0)=false:=decide_eq_false hg0;refine zR 99 (fun w'=>w'.cell? ⟨gx,2,none⟩=some (B C (r:Int))/\w'.cell? ⟨w.heap.size+1,3,none⟩=some (B C (r:Int))/\w'.cell? ⟨w.heap.size+1,2,none⟩=some (B C lg)/\w'.cell? ⟨w.heap.size,2,none⟩=some (D (some ⟨bB,oB,none⟩) nB cB)/\w'.cell? ⟨bB,oB+r,none⟩=some (D Ab nb cb)) ?_;refine zS 27 [(0,26),(1,27),(2,28),(3,29),(4,30),(5,31),(6,32),(7,33),(8,34),(9,35),(10,36),(11,37),(12,38),(13,39),(14,40),(15,41),(16,42),(17,43),(18,44),(19,45),(20,46),(21,47),(22,48),(23,49),(24,50),(25,51),(26,52)] kS ?_;iterate 27 refine zT ?_
  refine zN (zD ?_);clear kS;by_cases hgn:lg<(nb:Int)
  case neg =>
   have HE:=zZ (show eC s ⟨lp,lc,lg,(r:Int)⟩ ch=false by rw[HF0.out,decide_eq_false (by have:=HNB.out;omega)];rfl);go_wp2_with fail;go_ret
   exact⟨aa HE.out.symm,HF4.out.drew.xt⟩
  have HF1:=zZ (show eC s ⟨lp,lc,lg,(r:Int)⟩ ch=(decide (ch.length=(dr pc pv pps bk lg).length)&&ch.all fE) by rw[HF0.out,decide_eq_true (by have:=HNB.out;omega),yK]);go_upto_region 6 with (fail)
  have HF4d:Bx (aA w w4.drew [(w.heap.size,#[B C s.num,D (some ⟨bP,oP,none⟩) nP cP,D (some ⟨bB,oB,none⟩) nB cB,D AX nX cX],27),(w.heap.size+1,#[B C lp,B C lc,B C lg,B C (r:Int)],45),(gx,#[B C xc,B C xe,B C (r:Int)],90)]):=⟨HF4.out.drew⟩
  obtain⟨w5,hw5⟩:=nm (w4.drew.drew:World);have hw45:ab w4 w5:=by rw[hw5];exact ((zE _).drew).drew
  have HF5:=bx (HF4.out.ext hw45);have kS:w5.cell? ⟨w.heap.size,1,none⟩=some (D (some ⟨bP,oP,none⟩) nP cP)/\w5.cell? ⟨w.heap.size,2,none⟩=some (D (some ⟨bB,oB,none⟩) nB cB)/\w5.cell? ⟨gx,2,none⟩=some (B C (r:Int))/\w5.cell? ⟨w.heap.size+1,2,none⟩=some (B C lg)/\w5.cell? ⟨bP,oP+r*3,none⟩=some (B C pc)/\w5.cell? ⟨bP,oP+r*3+1,none⟩=some (B C pv)/\w5.cell? ⟨bP,oP+r*3+2,none⟩=some (D Aq nq cq)/\w5.cell? ⟨bB,oB+r,none⟩=some (D Ab nb cb):=⟨(HF5.out.at_ 0 rfl).c 1 rfl,(HF5.out.at_ 0 rfl).c 2 rfl,(HF5.out.at_ 2 rfl).c 2 rfl,(HF5.out.at_ 1 rfl).c 2 rfl,hw45.cell q0,hw45.cell q1,hw45.cell q2,hw45.cell b0⟩
  have HI5:Bx (oa p w5 (D Aq nq cq) pps/\oc p w5 (D Ab nb cb) bk):=⟨HI.out.1.ext (bC.stab p) hw45,HI.out.2.ext (RI.stab p) hw45⟩
  refine zR 99 (fun w'=>w'.cell? ⟨w.heap.size,1,none⟩=some (D (some ⟨bP,oP,none⟩) nP cP)/\w'.cell? ⟨w.heap.size,2,none⟩=some (D (some ⟨bB,oB,none⟩) nB cB)/\w'.cell? ⟨gx,2,none⟩=some (B C (r:Int))/\w'.cell? ⟨w.heap.size+1,2,none⟩=some (B C lg)/\w'.cell? ⟨bP,oP+r*3,none⟩=some (B C pc)/\w'.cell? ⟨bP,oP+r*3+1,none⟩=some (B C pv)/\w'.cell? ⟨bP,oP+r*3+2,none⟩=some (D Aq nq cq)/\w'.cell? ⟨bB,oB+r,none⟩=some (D Ab nb cb)) ?_;rw[<-hw5];clear hw5 hw45 q0 q1 q2 b0 HF4 HF4d HI;refine zS 16 [(0,53),(1,54),(2,55),(3,56),(4,57),(5,58),(6,59),(7,60),(8,61),(9,62),(10,63),(11,64),(12,65),(13,66),(14,67),(15,68)] kS ?_;iterate 16 refine zT ?_
  refine zN (zO 16 (fun K hK=>?_));go_simp;refine (ko pc pv lg _ _ pps bk _ (p:=p) (zB hp HF5.out.xt.size) HI5.out.1 HI5.out.2 HLG.out).mono ?_;rintro e w6 ⟨v6,rfl,hI6,hx6⟩;obtain⟨A6,n6,c6,rfl,-,-,hn6,HL6⟩:=hI6.open_;have HF6:=bx (HF5.out.xt.trans hx6);have kS6:w6.cell? ⟨w.heap.size,1,none⟩=some (D (some ⟨bP,oP,none⟩) nP cP)/\w6.cell? ⟨w.heap.size,2,none⟩=some (D (some ⟨bB,oB,none⟩) nB cB)/\w6.cell? ⟨gx,2,none⟩=some (B C (r:Int))/\w6.cell? ⟨w.heap.size+1,2,none⟩=some (B C lg)/\w6.cell? ⟨bP,oP+r*3,none⟩=some (B C pc)/\w6.cell? ⟨bP,oP+r*3+1,none⟩=some (B C pv)/\w6.cell? ⟨bP,oP+r*3+2,none⟩=some (D Aq nq cq)/\w6.cell? ⟨bB,oB+r,none⟩=some (D Ab nb cb):=⟨hx6.cell kS.1,hx6.cell kS.2.1,hx6.cell kS.2.2.1,hx6.cell kS.2.2.2.1,hx6.cell kS.2.2.2.2.1,hx6.cell kS.2.2.2.2.2.1,hx6.cell kS.2.2.2.2.2.2.1,hx6.cell kS.2.2.2.2.2.2.2⟩
  clear hx6 kS hI6 HI5 HF5;refine hK.out _ _ (fun _=>(kS6)) ?_;clear hK K;try simp only[kA]
  refine zO 17 (fun K hK=>?_);go_simp;refine hK.out _ _ (fun _=>(kS6)) ?_;clear hK K;try simp only[kA]
  by_cases hln:nC=n6
  ·have HE:=zZ (show eC s ⟨lp,lc,lg,(r:Int)⟩ ch=ch.all fE by rw[HF1.out,decide_eq_true (by have:=HLC.out;have:=HL6.out;omega),yK]);subst hln;refine zS 3 [(18,71),(19,72),(20,73)] kS6 ?_;iterate 3 refine zT ?_
   refine zN (zO 21 (fun K hK=>?_));go_simp;refine (F2 _ ch _ (HR0.out.2.2.2.ext HF6.out)).mono ?_;rintro e w7 ⟨rfl,rfl⟩;refine hK.out _ _ (fun _=>(kS6)) ?_;clear hK K;try simp only[kA]
   refine zS 1 [(22,75)] kS6 ?_;refine zT ?_;refine zN (zO 23 (fun K hK=>?_));go_simp;refine hK.out _ _ (fun _=>(kS6)) ?_;clear hK K;try simp only[kA]
   refine zD ?_;go_wp2_with fail;go_ret
   exact⟨aa HE.out.symm,HF6.out⟩
  ·have HE:=zZ (show eC s ⟨lp,lc,lg,(r:Int)⟩ ch=false by rw[HF1.out,decide_eq_false (by have:=HLC.out;have:=HL6.out;omega)];rfl);have hne:((nC:Int)==(n6:Int))=false:=beq_eq_false_iff_ne.2 (by omega);refine zS 2 [(18,71),(19,72)] kS6 ?_;iterate 2 refine zT ?_
   refine zN (zS 2 [(20,73),(21,74)] kS6 ?_);iterate 2 (apply zK;exact⟨rfl,rfl⟩;simp only[kA];exact rfl)
   refine zN (zS 1 [(22,75)] kS6 ?_);refine zT ?_;refine zN (zO 23 (fun K hK=>?_));go_simp;refine hK.out _ _ (fun _=>(kS6)) ?_;clear hK K;try simp only[kA]
   refine zD ?_;go_wp2_with fail;go_ret
   exact⟨aa HE.out.symm,HF6.out⟩
def fQ(l:List aj)(id:gT)(k:Nat)(a:Int):Prop:=(a=-1/\(l.take k).find? (dm id)=none)\/(∃(j:Nat) (c:aj),a=(j:Int)/\j<k/\l[j]?=some c/\(l.take k).find? (dm id)=some c)
def cV(l:List aj)(id:gT)(k:Nat)(d:Int):Prop:=(d=-1/\((l.take k).filter (fH id)).getLast?=none)\/(∃(j:Nat) (c:aj),d=(j:Int)/\j<k/\l[j]?=some c/\((l.take k).filter (fH id)).getLast?=some c)
section
variable {l:List aj} {id:gT} {k:Nat} {a d:Int} {c:aj}
theorem fQ.zero(l:List aj)(id:gT):fQ l id 0 (-1):=.inl ⟨rfl,by simp⟩
theorem cV.zero(l:List aj)(id:gT):cV l id 0 (-1):=.inl ⟨rfl,by simp⟩
theorem fQ.no(h:fQ l id k a)(hc:l[k]?=some c)(hs:dm id c=false):fQ l id (k+1) a:=by
 unfold fQ at *
 rw[ax hc,List.find?_append];rcases h with ⟨h1,h2⟩|⟨j,c',h1,h2,h3,h4⟩
 ·exact .inl ⟨h1,by rw[h2];simp[hs]⟩
 ·exact .inr ⟨j,c',h1,by omega,h3,by rw[h4];rfl⟩
theorem fQ.old(h:fQ l id k a)(hc:l[k]?=some c)(ha:0<=a):fQ l id (k+1) a:=by
 unfold fQ at *
 rw[ax hc,List.find?_append];rcases h with ⟨h1,h2⟩|⟨j,c',h1,h2,h3,h4⟩
 ·omega
 ·exact .inr ⟨j,c',h1,by omega,h3,by rw[h4];rfl⟩
theorem fQ.new(h:fQ l id k a)(hc:l[k]?=some c)(hs:dm id c=true)(ha:a<0):fQ l id (k+1) (k:Int):=by
 unfold fQ at *
 rw[ax hc,List.find?_append];rcases h with ⟨h1,h2⟩|⟨j,c',h1,h2,h3,h4⟩
 ·exact .inr ⟨k,c,rfl,by omega,hc,by rw[h2];simp[hs]⟩
 ·omega
theorem cV.no(h:cV l id k d)(hc:l[k]?=some c)(hs:fH id c=false):cV l id (k+1) d:=by
 unfold cV at *
 rw[ax hc,xM,uB (by simp[hs]),List.filter_nil,xN];rcases h with ⟨h1,h2⟩|⟨j,c',h1,h2,h3,h4⟩
 ·exact .inl ⟨h1,h2⟩
 ·exact .inr ⟨j,c',h1,by omega,h3,h4⟩
theorem cV.put(hc:l[k]?=some c)(hs:fH id c=true):cV l id (k+1) (k:Int):=by unfold cV;rw[ax hc,xM,uC hs,List.filter_nil];exact .inr ⟨k,c,rfl,by omega,hc,by simp⟩
theorem By(h1:fQ l id l.length a)(h2:cV l id l.length d) :
  (a=-1/\aQ l id=(cJ.zero,4))\/(∃(j:Nat) (c:aj),a=(j:Int)/\l[j]?=some c /\
   ((d=-1/\aQ l id=(match dR c.str with|some x=>(x,0)|none=>(cJ.zero,4))) \/
    (∃(i:Nat) (e:aj),d=(i:Int)/\l[i]?=some e/\aQ l id=if e.kind=3 then (cJ.zero,6) else (e.lab,0)))):=by
 unfold fQ at h1;unfold cV at h2;rw[List.take_length]at h1 h2;rcases h1 with ⟨rfl,h1⟩|⟨j,c,rfl,-,h3,h1⟩
 ·exact .inl ⟨rfl,by unfold aQ;rw[h1];rfl⟩
 ·refine .inr ⟨j,c,rfl,h3,?_⟩;rcases h2 with ⟨rfl,h2⟩|⟨i,e,rfl,-,h4,h2⟩
  ·exact .inl ⟨rfl,by unfold aQ;rw[h1,h2];rfl⟩
  ·exact .inr ⟨i,e,rfl,h4,by unfold aQ;rw[h1,h2];rfl⟩
end
structure ka (w:World) (g o:Nat) (t s q k ct ts tq lp lc lg lv:Int) (str:List UInt8) (A:Option Addr) (n cc:Nat):Prop where
 c0:w.cell? ⟨g,o,none⟩=some (B C t)
 c1:w.cell? ⟨g,o+1,none⟩=some (B C s)
 c2:w.cell? ⟨g,o+2,none⟩=some (B C q)
 c3:w.cell? ⟨g,o+3,none⟩=some (B C k)
 c4:w.cell? ⟨g,o+4,none⟩=some (.string (ba str))
 c5:w.cell? ⟨g,o+5,none⟩=some (B C ct)
 c6:w.cell? ⟨g,o+6,none⟩=some (D A n cc)
 c7:w.cell? ⟨g,o+7,none⟩=some (B C ts)
 c8:w.cell? ⟨g,o+8,none⟩=some (B C tq)
 c9:w.cell? ⟨g,o+9,none⟩=some (B C lp)
 c10:w.cell? ⟨g,o+10,none⟩=some (B C lc)
 c11:w.cell? ⟨g,o+11,none⟩=some (B C lg)
 c12:w.cell? ⟨g,o+12,none⟩=some (B C lv)
theorem ka.ext{w':World}{g o:Nat}{t s q k ct ts tq lp lc lg lv:Int}{str:List UInt8}{A:Option Addr}{cc:Nat}(h:ka w g o t s q k ct ts tq lp lc lg lv str A n cc)(e:ab w w'):ka w' g o t s q k ct ts tq lp lc lg lv str A n cc :=
 ⟨e.cell h.c0,e.cell h.c1,e.cell h.c2,e.cell h.c3,e.cell h.c4,e.cell h.c5,e.cell h.c6,e.cell h.c7,e.cell h.c8,e.cell h.c9,e.cell h.c10,e.cell h.c11,e.cell h.c12⟩
theorem au.read{b off c:Nat}{l:List aj}(h:au p w (D (some ⟨b,off,none⟩) n c) l)(hx:XT p w wx)(hk:k<n) :
  ∃(t s q kd ct ts tq lp lc lg lv:Int) (str:List UInt8) (ch:List Int) (A:Option Addr) (m cc:Nat),Hid (l[k]?=some ⟨⟨t,s,q⟩,kd,str,ct,ch,⟨ts,tq⟩,⟨lp,lc,lg,lv⟩⟩) /\
   ka wx b (off+k*13) t s q kd ct ts tq lp lc lg lv str A m cc/\ak p wx (D A m cc) ch/\aj.wf ⟨⟨t,s,q⟩,kd,str,ct,ch,⟨ts,tq⟩,⟨lp,lc,lg,lv⟩⟩:=by
 obtain⟨cs,⟨⟨t,s,q⟩,kd,str,ct,ch,⟨ts,tq⟩,⟨lp,lc,lg,lv⟩⟩,-,hc,⟨u,rfl,hI,hw⟩,hx'⟩:=(h.xt (bR.stab p) hx).cell_ hk;obtain⟨A,m,cc,rfl,-⟩:=hI.open_;exact⟨t,s,q,kd,ct,ts,tq,lp,lc,lg,lv,str,ch,A,m,cc,hx',⟨hc 0 _ rfl,hc 1 _ rfl,hc 2 _ rfl,hc 3 _ rfl,hc 4 _ rfl,hc 5 _ rfl,hc 6 _ rfl,hc 7 _ rfl,hc 8 _ rfl,hc 9 _ rfl,hc 10 _ rfl,hc 11 _ rfl,hc 12 _ rfl⟩,hI,hw⟩
def Gd(l:List aj)(id:gT)(w:World)(e:Ending)(w':World):Prop :=
 ∃lp lc lg lv st:Int,e=.returned (.tuple #[.agg #[B C lp,B C lc,B C lg,B C lv],B C st])/\aQ l id=(⟨lp,lc,lg,lv⟩,st)/\ab w w'
def KB:World->List Value->cJ->Prop:=fun _ cs x=>cs=x.cells
def KX:World->List Value->Bool->Prop:=fun _ cs b=>cs=[.bool b]
theorem KB.stab(p:Nat):lV p KB:=fun _ _ _ _ h _=>h
theorem KX.stab(p:Nat):lV p KX:=fun _ _ _ _ h _=>h
structure AN (rs:List dH) (i:Nat) (x:dH) (k:Nat) (m:Int):Prop where
 fine:∀(j:Nat) y,j<k->rs[j]?=some y->dB x y=true->en x y=false
 m12:m=1\/m=2
 two:m=2↔∃(j:Nat) (y:dH),j<k/\j<i/\rs[j]?=some y/\dB x y=true
section
variable {rs:List dH} {i k:Nat} {x y:dH} {m:Int}
theorem AN.zero(rs:List dH)(i:Nat)(x:dH):AN rs i x 0 1:=⟨fun j y hj=>by omega,.inl rfl,⟨fun h=>by omega,fun⟨j,y,hj,_⟩=>by omega⟩⟩
theorem AN.skip(h:AN rs i x k m)(hy:rs[k]?=some y)(hs:dB x y=false):AN rs i x (k+1) m:=by
 refine⟨fun j z hj hz h1=>?_,h.m12,h.two.trans ⟨fun⟨j,z,a,b,c,d⟩=>⟨j,z,by omega,b,c,d⟩,fun⟨j,z,a,b,c,d⟩=>?_⟩⟩
 ·rcases zU j k with e|e
  ·exact h.fine j z e hz h1
  ·obtain rfl:j=k:=by omega
   rw[hy]at hz;injection hz with hz;subst hz;rw[hs]at h1;cases h1
 ·rcases zU j k with e|e
  ·exact⟨j,z,e,b,c,d⟩
  ·obtain rfl:j=k:=by omega
   rw[hy]at c;injection c with c;subst c;rw[hs]at d;cases d
theorem AN.late(h:AN rs i x k m)(hy:rs[k]?=some y)(hd:en x y=false)(hk:¬k<i):AN rs i x (k+1) m:=by
 refine⟨fun j z hj hz h1=>?_,h.m12,h.two.trans ⟨fun⟨j,z,a,b,c,d⟩=>⟨j,z,by omega,b,c,d⟩,fun⟨j,z,a,b,c,d⟩=>⟨j,z,by omega,b,c,d⟩⟩⟩;rcases zU j k with e|e
 ·exact h.fine j z e hz h1
 ·obtain rfl:j=k:=by omega
  rw[hy]at hz;injection hz with hz;subst hz;exact hd
theorem AN.soon(h:AN rs i x k m)(hy:rs[k]?=some y)(hs:dB x y=true)(hd:en x y=false)(hk:k<i):AN rs i x (k+1) 2:=by
 refine⟨fun j z hj hz h1=>?_,.inr rfl,⟨fun _=>⟨k,y,by omega,hk,hy,hs⟩,fun _=>rfl⟩⟩;rcases zU j k with e|e
 ·exact h.fine j z e hz h1
 ·obtain rfl:j=k:=by omega
  rw[hy]at hz;injection hz with hz;subst hz;exact hd
theorem AN.end_(h:AN rs i x rs.length m):dL rs i x=m:=by
 unfold dL;have h0:¬(rs.any fun y=>dB x y&&en x y)=true:=by rw[wZ];rintro⟨z,hz,h1⟩;obtain⟨j,hj⟩:=zH hz;simp only[yT]at h1;rw[h.fine j z (zY.1 hj).1 hj h1.1]at h1;cases h1.2
 have h2:(rs.take i).any (dB x)=true↔m=2:=by
  rw[h.two,wZ];constructor
  ·rintro⟨z,hz,h1⟩;obtain⟨j,hj⟩:=zH hz;rw[yB]at hj;split at hj
   ·exact⟨j,z,(zY.1 hj).1,by assumption,hj,h1⟩
   ·cases hj
  ·rintro⟨j,z,_,hji,hz,h1⟩;exact⟨z,zW (i:=j) (by rw[yB,if_pos hji];exact hz),h1⟩
 rw[if_neg h0];rcases h.m12 with h3|h3
 ·rw[if_neg (fun e=>by have:=h2.1 e;omega),h3]
 ·rw[if_pos (h2.2 h3),h3]
theorem tu(hy:rs[k]?=some y)(hs:dB x y=true)(hd:en x y=true):dL rs i x=3:=by unfold dL;rw[if_pos];rw[wZ];exact⟨y,zW hy,by rw[hs,hd];rfl⟩
end
theorem ua(vC vL vF:Value)(rs:List dH)(i:Nat)(x:dH)(w:World)(hC:au p w vC (rs.map dH.cap))(hL:bj p 4 KB w vL (rs.map dH.lab))(hF:bj p 1 KX w vF (rs.map dH.fit))(hx:rs[i]?=some x) :
  Calls prog 78 #[vC,vL,vF,B C (i:Int)] w fun e w'=>e=.returned (B C (dL rs i x))/\ab w w':=by
 obtain⟨A,n,c,rfl,hnc,hcc,hnn,HLC⟩:=hC.open_;obtain⟨AL,nL,cL,rfl,hncL,hccL,hnnL,HLL⟩:=hL.open_;obtain⟨AF,nF,cF,rfl,hncF,hccF,hnnF,HLF⟩:=hF.open_;have hl1:rs.length=n:=by have:=HLC.out;simpa using this
 obtain rfl:nL=n:=by have:=HLL.out;rw[zJ]at this;omega
 obtain rfl:nF=nL:=by have:=HLF.out;rw[zJ]at this;omega
 have hin:i<nF:=by have:=(zY.1 hx).1;omega
 have HRL:Bx (rs.length=nF):=⟨hl1⟩
 have HC:Bx (au p w (D A nF c) (rs.map dH.cap)):=⟨hC⟩
 have HL:Bx (bj p 4 KB w (D AL nF cL) (rs.map dH.lab)):=⟨hL⟩
 have HF:Bx (bj p 1 KX w (D AF nF cF) (rs.map dH.fit)):=⟨hF⟩
 have HX:Bx (rs[i]?=some x):=⟨hx⟩
 obtain⟨b,off,_,_,rfl,-⟩:=hC.at_ hin;obtain⟨bL,oL,_,_,rfl,-⟩:=hL.at_ hin;obtain⟨bF,oF,_,_,rfl,-⟩:=hF.at_ hin;clear hC hL hF hx hl1 HLC HLL HLF;go_enter func78,ntmps78
 go_wp2_with fail;go_loopw [9,10] (fun s9 s10 wr=>∃(k:Nat) (m:Int),s10=B C k/\s9=B C m/\k<=nF/\Bx (AN rs i x k m/\ab w wr)) (fun _ k _=>nF-(intOf k).toNat)
 case atStart=>exact⟨0,1,rfl,rfl,by omega,⟨⟨AN.zero _ _ _,zE _⟩⟩⟩
 case round =>
  obtain⟨k,m,rfl,rfl,hk,HR⟩:=hrel;by_cases hkn:k<nF
  ·have HE:Bx (ab w wr.drew):=⟨HR.out.2.drew⟩
   have HJ:Bx (AN rs i x k m):=⟨HR.out.1⟩
   clear HR;obtain⟨y,hy⟩:∃y,rs[k]?=some y:=⟨rs[k]'(by have:=HRL.out;omega),zV _⟩
   have HY:Bx (rs[k]?=some y):=⟨hy⟩
   clear hy;obtain⟨csx,⟨xp,xc,xg,xv⟩,-,hcx,hrx,HXL⟩:=(HL.out.ext (KB.stab p) HE.out).cell_ hin;obtain⟨csy,⟨yp,yc,yg,yv⟩,-,hcy,hry,HYL⟩:=(HL.out.ext (KB.stab p) HE.out).cell_ hkn;obtain⟨csf,bf,-,hcf,hrf,HYF⟩:=(HF.out.ext (KX.stab p) HE.out).cell_ hkn;have HXl:Bx (x.lab=⟨xp,xc,xg,xv⟩):=⟨by have:=HXL.out;rw[zP,HX.out]at this;injection this⟩
   have HYl:Bx (y.lab=⟨yp,yc,yg,yv⟩):=⟨by have:=HYL.out;rw[zP,HY.out]at this;injection this⟩
   have HYf:Bx (y.fit=bf):=⟨by have:=HYF.out;rw[zP,HY.out]at this;injection this⟩
   have x0:=hcx 0 (B C xp) (by rw[hrx];rfl);have x1:=hcx 1 (B C xc) (by rw[hrx];rfl);have x2:=hcx 2 (B C xg) (by rw[hrx];rfl);have x3:=hcx 3 (B C xv) (by rw[hrx];rfl);have y0:=hcy 0 (B C yp) (by rw[hry];rfl);have y1:=hcy 1 (B C yc) (by rw[hry];rfl);have y2:=hcy 2 (B C yg) (by rw[hry];rfl);have y3:=hcy 3 (B C yv) (by rw[hry];rfl);have f0:=hcf 0 (.bool bf) (by rw[hrf];rfl);rw[yQ]at x0 y0;rw[yQ,wH]at f0;clear hcx hcy hcf hrx hry hrf HXL HYL HYF;have kS:wr.drew.cell? ⟨bF,oF+k,none⟩=some (.bool bf)/\wr.drew.cell? ⟨bL,oL+i*4,none⟩=some (B C xp)/\wr.drew.cell? ⟨bL,oL+i*4+1,none⟩=some (B C xc)/\wr.drew.cell? ⟨bL,oL+i*4+2,none⟩=some (B C xg)/\wr.drew.cell? ⟨bL,oL+i*4+3,none⟩=some (B C xv)/\wr.drew.cell? ⟨bL,oL+k*4,none⟩=some (B C yp)/\wr.drew.cell? ⟨bL,oL+k*4+1,none⟩=some (B C yc)/\wr.drew.cell? ⟨bL,oL+k*4+2,none⟩=some (B C yg)/\wr.drew.cell? ⟨bL,oL+k*4+3,none⟩=some (B C yv):=⟨f0,x0,x1,x2,x3,y0,y1,y2,y3⟩
   clear f0 x0 x1 x2 x3 y0 y1 y2 y3;go_upto_region 5 with (fail)
   refine zR 99 (fun w'=>w'.cell? ⟨bF,oF+k,none⟩=some (.bool bf)/\w'.cell? ⟨bL,oL+i*4,none⟩=some (B C xp)/\w'.cell? ⟨bL,oL+i*4+1,none⟩=some (B C xc)/\w'.cell? ⟨bL,oL+i*4+2,none⟩=some (B C xg)/\w'.cell? ⟨bL,oL+i*4+3,none⟩=some (B C xv)/\w'.cell? ⟨bL,oL+k*4,none⟩=some (B C yp)/\w'.cell? ⟨bL,oL+k*4+1,none⟩=some (B C yc)/\w'.cell? ⟨bL,oL+k*4+2,none⟩=some (B C yg)/\w'.cell? ⟨bL,oL+k*4+3,none⟩=some (B C yv)) ?_;cases bf with
   |false =>
    refine zS 6 [(0,17),(1,18),(2,19),(3,20),(4,21),(5,22)] kS ?_;iterate 6 refine zT ?_
    refine zN (zS 9 [(6,23),(7,24),(8,25),(9,26),(10,27),(11,28),(12,29),(13,30),(14,31)] kS ?_);iterate 9 (apply zK;exact⟨rfl,rfl⟩;simp only[kA];exact rfl)
    refine zN (zS 1 [(15,32)] kS ?_);refine zT ?_;refine zN (zD ?_);clear kS;go_wp2_with fail;go_roundw
    case rel=>exact⟨k+1,m,by go_num,rfl,by omega,⟨⟨HJ.out.skip HY.out (by unfold dB;rw[HYf.out];rfl),HE.out⟩⟩⟩
    case measure=>simp[intOf];omega
   |true =>
    have eL:∀W,(Op.equalIn 10000 45 (.agg #[B C yp,B C yc,B C yg,B C yv]) (.agg #[B C xp,B C xc,B C xg,B C xv])).run prog W=.ok (decide (yp=xp/\yc=xc/\yg=xg/\yv=xv)) W:=fun W=>ox _ _ _ _ _ _ _ _ W;have gL:=ij;by_cases h1:yp=xp/\yc=xc/\yg=xg/\yv=xv
    ·rw[decide_eq_true h1]at eL;have HS:Bx (dB x y=true):=⟨by unfold dB;rw[HYf.out,HYl.out,HXl.out,h1.1,h1.2.1,h1.2.2.1,h1.2.2.2];simp⟩
     clear h1;refine zS 16 [(0,17),(1,18),(2,19),(3,20),(4,21),(5,22),(6,23),(7,24),(8,25),(9,26),(10,27),(11,28),(12,29),(13,30),(14,31),(15,32)] kS ?_;iterate 16 refine zT ?_
     refine zN (zD ?_);clear kS eL gL;obtain⟨xt,xs,xq,xk,xct,xts,xtq,xlp,xlc,xlg,xlv,xstr,xch,xA,xn,xcc,HXc,hcx,hix,-⟩:=au.read HC.out HE.out.drew.xt hin;obtain⟨yt,ys,yq,yk,yct,yts,ytq,ylp,ylc,ylg,ylv,ystr,ych,yA,yn,ycc,HYc,hcy,hiy,-⟩:=au.read HC.out HE.out.drew.xt hkn;have HXf:Bx (x.cap.cont=xct/\x.cap.ch=xch):=⟨by have:=HXc.out;rw[zP,HX.out]at this;injection this with this;rw[this];exact⟨rfl,rfl⟩⟩
     have HYg:Bx (y.cap.cont=yct/\y.cap.ch=ych):=⟨by have:=HYc.out;rw[zP,HY.out]at this;injection this with this;rw[this];exact⟨rfl,rfl⟩⟩
     have kS:wr.drew.drew.cell? ⟨b,off+i*13+5,none⟩=some (B C xct)/\wr.drew.drew.cell? ⟨b,off+i*13+6,none⟩=some (D xA xn xcc)/\wr.drew.drew.cell? ⟨b,off+k*13+5,none⟩=some (B C yct)/\wr.drew.drew.cell? ⟨b,off+k*13+6,none⟩=some (D yA yn ycc):=⟨hcx.c5,hcx.c6,hcy.c5,hcy.c6⟩
     have HI:Bx (ak p wr.drew.drew (D yA yn ycc) ych/\ak p wr.drew.drew (D xA xn xcc) xch):=⟨⟨hiy,hix⟩⟩
     clear hcx hcy hix hiy HXc HYc;go_upto_region 6 with (fail)
     refine zR 99 (fun w'=>w'.cell? ⟨b,off+i*13+5,none⟩=some (B C xct)/\w'.cell? ⟨b,off+i*13+6,none⟩=some (D xA xn xcc)/\w'.cell? ⟨b,off+k*13+5,none⟩=some (B C yct)/\w'.cell? ⟨b,off+k*13+6,none⟩=some (D yA yn ycc)) ?_;by_cases h2:yct=xct
     ·have h2b:(yct != xct)=false:=by simp[h2]
      replace h2:=zZ h2;refine zS 22 [(0,33),(1,34),(2,35),(3,36),(4,37),(5,38),(6,39),(7,40),(8,41),(9,42),(10,43),(11,44),(12,45),(13,46),(14,47),(15,48),(16,49),(17,50),(18,51),(19,52),(20,53),(21,54)] kS ?_;iterate 22 refine zT ?_
      refine zN (zO 22 (fun K hK=>?_));go_simp;refine (rP _ _ ych xch _ HI.out.1 HI.out.2).mono ?_;rintro e w3 ⟨rfl,hx3⟩;have HE3:Bx (ab w w3):=⟨HE.out.drew.trans hx3⟩
      have kS2:w3.cell? ⟨b,off+i*13+5,none⟩=some (B C xct)/\w3.cell? ⟨b,off+i*13+6,none⟩=some (D xA xn xcc)/\w3.cell? ⟨b,off+k*13+5,none⟩=some (B C yct)/\w3.cell? ⟨b,off+k*13+6,none⟩=some (D yA yn ycc):=⟨hx3.cell kS.1,hx3.cell kS.2.1,hx3.cell kS.2.2.1,hx3.cell kS.2.2.2⟩
      clear hx3 kS HE;cases h3:decide (ych=xch) with
      |true =>
       replace h3:=zZ h3;have HD:Bx (en x y=false):=⟨by unfold en;rw[HYg.out.1,HYg.out.2,HXf.out.1,HXf.out.2,h3.out,decide_eq_true h2.out];rfl⟩
       refine hK.out _ _ (fun _=>(kS2)) ?_;clear hK K;try simp only[kA]
       refine zS 2 [(23,56),(24,57)] kS2 ?_;iterate 2 refine zT ?_
       refine zN (zD ?_);clear kS2 h2b;by_cases hki:k<i
       ·go_wp2_with fail;go_roundw
        case rel=>exact⟨k+1,2,by go_num,rfl,by omega,⟨⟨HJ.out.soon HY.out HS.out HD.out hki,HE3.out⟩⟩⟩
        case measure=>simp[intOf];omega
       ·go_wp2_with fail;go_roundw
        case rel=>exact⟨k+1,m,by go_num,rfl,by omega,⟨⟨HJ.out.late HY.out HD.out hki,HE3.out⟩⟩⟩
        case measure=>simp[intOf];omega
      |false =>
       replace h3:=zZ h3;have HD:Bx (en x y=true):=⟨by unfold en;rw[HYg.out.1,HYg.out.2,HXf.out.1,HXf.out.2,h3.out,decide_eq_true h2.out];rfl⟩
       have HB:=zZ (tu (i:=i) HY.out HS.out HD.out);refine hK.out _ _ (fun _=>(kS2)) ?_;clear hK K;try simp only[kA]
       refine zS 2 [(23,56),(24,57)] kS2 ?_;iterate 2 refine zT ?_
       refine zN (zD ?_);clear kS2 h2b;go_wp2_with fail;go_ret
       exact⟨ag HB.out.symm,HE3.out⟩
     ·have h2b:(yct != xct)=true:=by simp[h2]
      have HD:Bx (en x y=true):=⟨by unfold en;rw[HYg.out.1,HXf.out.1,decide_eq_false h2];rfl⟩
      have HB:=zZ (tu (i:=i) HY.out HS.out HD.out);replace h2:=zZ h2;refine zS 12 [(0,33),(1,34),(2,35),(3,36),(4,37),(5,38),(6,39),(7,40),(8,41),(9,42),(10,43),(11,44)] kS ?_;iterate 12 refine zT ?_
      refine zN (zS 12 [(12,45),(13,46),(14,47),(15,48),(16,49),(17,50),(18,51),(19,52),(20,53),(21,54),(22,55),(23,56)] kS ?_);iterate 12 (apply zK;exact⟨rfl,rfl⟩;simp only[kA];exact rfl)
      refine zN (zS 1 [(24,57)] kS ?_);refine zT ?_;refine zN (zD ?_);clear kS h2b;go_wp2_with fail;go_ret
      exact⟨ag HB.out.symm,HE.out.drew⟩
    ·rw[decide_eq_false h1]at eL;have HS:Bx (dB x y=false):=⟨by unfold dB;rw[HYf.out,HYl.out,HXl.out];simp[h1]⟩
     clear h1;refine zS 16 [(0,17),(1,18),(2,19),(3,20),(4,21),(5,22),(6,23),(7,24),(8,25),(9,26),(10,27),(11,28),(12,29),(13,30),(14,31),(15,32)] kS ?_;iterate 16 refine zT ?_
     refine zN (zD ?_);clear kS eL gL;go_wp2_with fail;go_roundw
     case rel=>exact⟨k+1,m,by go_num,rfl,by omega,⟨⟨HJ.out.skip HY.out HS.out,HE.out⟩⟩⟩
     case measure=>simp[intOf];omega
  ·obtain rfl:k=nF:=by omega
   have HB:Bx (dL rs i x=m):=⟨AN.end_ (by rw[HRL.out];exact HR.out.1)⟩
   go_wp2_with fail;go_ret
   exact⟨ag HB.out.symm,HR.out.2⟩
end Go.Proofs.YtkaajgoeahahpaaGreatDoor

