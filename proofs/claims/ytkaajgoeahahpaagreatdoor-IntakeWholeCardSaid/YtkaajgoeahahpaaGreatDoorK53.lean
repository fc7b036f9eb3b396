import Derived.Test.YtkaajgoeahahpaaGreatDoorK30
import Derived.Test.YtkaajgoeahahpaaGreatDoorK35
import Derived.Test.YtkaajgoeahahpaaGreatDoorRowV
import Derived.Test.YtkaajgoeahahpaaGreatDoorK50
set_option linter.all false
set_option maxRecDepth 100000
set_option maxHeartbeats 0
namespace Go.Proofs.YtkaajgoeahahpaaGreatDoor
open Go.RowKit
variable {ns:List Int} {k:Nat}
theorem t0z(ns:List Int)(nx p q:Nat):nA ns nx (p+q)=nA ns nx p+nA ns (nx+p) q:=by unfold nA;rw[List.take_add,List.sum_append,List.drop_drop]
theorem x9(hn:∀x∈ns,0<=x/\x<=30){nx a m len:Nat}(h1:nx<=a)(h2:a+m<=nx+len):nA ns a m<=nA ns nx len:=by
 obtain⟨p,rfl⟩:∃p,a=nx+p:=⟨a-nx,by omega⟩
 obtain⟨r,rfl⟩:∃r,len=p+(m+r):=⟨len-p-m,by omega⟩
 rw[t0z,t0z ns (nx+p) m r];have:=(uy hn nx p).1;have:=(uy hn (nx+p+m) r).1;omega
def bF(pgs:List (List Int))(j:Nat):Nat:=((pgs.take j).map List.length).sum
theorem i3{pgs:List (List Int)}{j:Nat}{pg:List Int}(h:pgs[j]?=some pg):bF pgs (j+1)=bF pgs j+pg.length:=by unfold bF;rw[ax h];simp
theorem eY{pgs:List (List Int)}{j:Nat}(h:pgs.length<=j):bF pgs j=bF pgs pgs.length:=by unfold bF;rw[xV h,xV (zX _)]
theorem k6:∀(pgs:List (List Int)) (nx:Nat),eh ns nx pgs->(∀j pg,pgs[j]?=some pg->oW ns (nx+bF pgs j) pg)/\nx+bF pgs pgs.length=ns.length:=by
 intro pgs;induction pgs with
 |nil=>intro nx h;exact⟨fun j pg hj=>by simp at hj,by have h':nx=ns.length:=h;simpa[bF] using h'⟩
 |cons p rest ih =>
  intro nx h;obtain⟨h1,h2⟩:=h;obtain⟨h3,h4⟩:=ih _ h2;refine⟨fun j pg hj=>?_,?_⟩
  ·cases j with
   |zero=>simp at hj;subst hj;simpa[bF] using h1
   |succ j =>
    have:=h3 j pg (by simpa using hj);have e:nx+p.length+bF rest j=nx+bF (p::rest) (j+1):=by unfold bF;simp;omega
    rw[e]at this;exact this
  ·have e:nx+p.length+bF rest rest.length=nx+bF (p::rest) (p::rest).length:=by unfold bF;simp;omega
   rw[e]at h4;exact h4
theorem Ay{pgs:List (List Int)}(hn:∀x∈ns,0<=x/\x<=30)(hok:eh ns 0 pgs)(h0:∀l,pgs[0]?=some l->l=[]) :
  ∀k,k<=ns.length->∃a,a<=k/\(gs ns k).2.1=iv a (k-a)/\(gs ns k).2.2=nA ns a (k-a)/\bF pgs (gs ns k).1.length<=a:=by
 obtain⟨hat,_⟩:=k6 pgs 0 hok;intro k;induction k with
 |zero =>
  intro _;refine⟨0,by omega,rfl,by simp[gs,nA],?_⟩;simp only[gs,List.length_singleton];cases e:pgs[0]? with
  |none=>unfold bF;have:=List.getElem?_eq_none_iff.1 e;rw[xZ (by omega:pgs.length=0)];simp
  |some l=>rw[show (1:Nat)=0+1 from rfl,i3 e,h0 l e];simp[bF]
 |succ k ih =>
  intro hk;obtain⟨a,ha,h2,h3,h4⟩:=ih (by omega);have hkl:k<ns.length:=by omega
  have hx:ns[k]?=some ns[k]:=zV hkl;obtain⟨d,c,s,e⟩:∃d c s,gs ns k=(d,c,s):=⟨_,_,_,rfl⟩
  rw[e]at h2 h3 h4;simp only at h2 h3 h4;by_cases hf:s+ns[k]<=30
  ·rw[CV e hx hf];have ek:k+1-a=(k-a)+1:=by omega
   have eak:a+(k-a)=k:=by omega
   refine⟨a,by omega,?_,?_,h4⟩
   ·simp only;rw[ek,DT,h2,eak]
   ·simp only;rw[ek,lx (x:=ns[k]) (by rw[eak];exact hx),h3]
  ·rw[CL e hx (by omega)];refine⟨k,by omega,?_,?_,?_⟩
   ·simp only;have:k+1-k=0+1:=by omega
    rw[this,DT];simp[iv]
   ·simp only;have:k+1-k=0+1:=by omega
    rw[this,lx (x:=ns[k]) (by simp),oN];omega
   ·simp only[yU,List.length_singleton];cases eq:pgs[d.length]? with
    |none =>
     have hle:=List.getElem?_eq_none_iff.1 eq;rw[eY (by omega),<-eY hle];omega
    |some pg =>
     rw[i3 eq];have hp:=hat _ _ eq;rw[yV]at hp;refine Nat.le_of_not_lt fun hlt=>?_;have hm:=x9 hn h4 (show a+(k-a+1)<=bF pgs d.length+pg.length by omega);have eak:a+(k-a)=k:=by omega
     rw[lx (x:=ns[k]) (by rw[eak];exact hx),<-h3]at hm;have:=hp.2;omega
theorem L8{code var:Int}{ps:List av}{pgs:List (List Int)}(h:Fd code var ps pgs):(ai ps).length<=pgs.length/\pgs.length<=12:=by
 obtain⟨hv,hl,h4,h0,hok⟩:=h;refine⟨?_,hl⟩;have hps:=(mD hv).2.2.2.2.1;have hn:=rY ps;obtain⟨a,ha,h2,h3,hc⟩:=Ay hn hok h0 (ps.map db).length (zX _);have hinv:=(Kb (ps.map db) hn (ps.map db).length (zX _)).2.2.2.2.2.2.2;have hlen:(ps.map db).length=ps.length:=by simp
 have halt:a<(ps.map db).length:=by
  rcases zU a (ps.map db).length with h|h
  ·exact h
  ·have:(ps.map db).length-a=0:=by omega
   rw[this]at h2;have:=(hinv (by rw[h2];rfl)).2;omega
 obtain⟨_,hend⟩:=k6 pgs 0 hok;have hlt:(gs (ps.map db) (ps.map db).length).1.length<pgs.length:=by
  rcases zU (gs (ps.map db) (ps.map db).length).1.length pgs.length with h|h
  ·exact h
  ·rw[eY h]at hc;omega
 unfold ai Ev iW;simp only[yU,uD,List.length_singleton];omega
section
variable {w:World} {base g n c k:Nat} {vP vX u:Value} {s:dl} {b':List (List Int)}
theorem pT.setBk(h:pT w base (.agg #[.int .i64 s.num,vP,.slice (some ⟨g,0,none⟩) n c,vX]) s)(hk:k<n)(hu:dn base w u b') :
  pT (w.setCell ⟨g,k,none⟩ u) base (.agg #[.int .i64 s.num,vP,.slice (some ⟨g,0,none⟩) n c,vX]) { s with bk:=s.bk.set k b' }:=by
 obtain⟨vP',vB',vX',ys,bs,hv,h1,h2,h3,h4,h5,h6,h7⟩:=h;obtain⟨rfl,rfl,rfl⟩:vP'=vP/\vB'=.slice (some ⟨g,0,none⟩) n c/\vX'=vX:=by injection hv with hv;injection hv with hv;injection hv with _ hv;injection hv with e1 hv;injection hv with e2 hv;injection hv with e3 _;exact⟨e1.symm,e2.symm,e3.symm⟩
 obtain⟨cur,hb,-⟩:=rm h4;have far:∀{e' s' m:Nat} {z:Value} {xs:List Value},79≠e'->w.ownsRow base e' s' z m xs->(w.setCell ⟨g,k,none⟩ u).ownsRow base e' s' z m xs:=fun he ho=>aN (a:=⟨g,k,none⟩) ho (tX ho hb he) u;have h0:ah base 79 1 (fun cs (y:List (List Int)×Value)=>cs=CW y) w (.slice (some ⟨g,0,none⟩) n c) bs :=
  ⟨bs.map CW,by simp,fun cs hc=>by obtain⟨y,-,rfl⟩:=zF.1 hc;rfl,h4,fun k cs x hcs hx=>by rw[zP,hx]at hcs;injection hcs with hcs;exact hcs.symm⟩
 have h8:=h0.setElem (j:=0) (u:=u) (x':=(b',u)) hk (by decide) fun cs x hx hr=>by subst hr;rfl
 rw[wH,yQ]at h8;refine⟨vP',_,vX',ys,bs.set k (b',u),rfl,far (by decide) h1,h2,fun y hy=>far (by decide) (h3 y hy),?_,?_,fun y hy=>?_,far (by decide) h7⟩
 ·obtain⟨css,e1,e2,e3,e4⟩:=h8;have e5:css=(bs.set k (b',u)).map CW:=by
   refine xW fun i=>?_;rw[zP];rcases zU i css.length with hi|hi
   ·obtain⟨a,ha⟩:∃a,css[i]?=some a:=⟨_,zV hi⟩
    obtain⟨b,hb'⟩:∃b,(bs.set k (b',u))[i]?=some b:=⟨_,zV (by omega)⟩
    rw[ha,hb',e4 i a b ha hb'];rfl
   ·rw[zC hi,zC (by omega)];rfl
  rw[e5]at e3;exact e3
 ·rw[wX,h5]
 ·have hy':y∈bs\/y=(b',u):=uW hy;have hf:∀{z:Value} {ls:List (List Int)},dn base w z ls->dn base (w.setCell ⟨g,k,none⟩ u) z ls:=fun ho=>ho.far (show w.heap[g]?=some (.cells cur 79 (0,0)) from hb) (by decide) (by decide) u;rcases hy' with h|rfl
  ·exact hf (h6 y h)
  ·exact hf hu
theorem pT.gB{A:Option Addr}{n' c':Nat}{x:Value}(h:pT w base (.agg #[x,vP,.slice A n' c',vX]) s)(hn:0<s.bk.length):∃g,A=some ⟨g,0,none⟩/\base<=g/\g<w.heap.size:=by obtain⟨vP',vB',vX',ys,bs,hv,-,-,-,h4,h5,-⟩:=h;injection hv with hv;injection hv with hv;injection hv with _ hv;injection hv with _ hv;injection hv with e2 hv;subst e2;rw[<-h5,zJ]at hn;obtain⟨g,cap,e,-,-⟩:=di h4 hn;injection e with e _ _;subst e;obtain⟨cur,hb,hg⟩:=rm h4;exact⟨g,rfl,hg,hb.lt⟩
theorem Mb(h:dU s){q:je}(hq:s.pap[k]?=some q):fD q.code q.var q.ps=true/\(ai q.ps).length<=12/\jH q.code q.var q.ps (ai q.ps)=true:=by
 have hk:=(zY.1 hq).1;obtain⟨q',b,h1,-,h3,h4,-⟩:=rT h (v:=(k:Int)) (by omega) (by omega);rw[yC,hq]at h1;injection h1 with h1;subst h1
 have h5:=L8 (J0 h3);exact⟨h4,by omega,qh (IL h4 (by omega))⟩
theorem ma.setBk(h:ma s)(hl:b'.length<=12)(hb:∀l∈b',l.length<=24/\∀x∈l,0<=x/\x<24):ma { s with bk:=s.bk.set k b' } :=
 ⟨h.num,h.papn,h.pap,by rw[yF];exact h.bkn,fun b hm=>by
  rcases uW hm with hm|rfl
  ·exact h.bk b hm
  ·exact⟨hl,hb⟩,h.xpn,h.xp⟩
theorem dU.setBk(h:dU s){q:je}(hq:s.pap[k]?=some q)(hb:jH q.code q.var q.ps b'=true):dU { s with bk:=s.bk.set k b' }:=by
 refine⟨h.num,h.len,by rw[yF];exact h.bks,fun i hi=>?_,h.xps,h.asc⟩;have h1:=h.pap i hi;have hkl:=(zY.1 hq).1;have hbk:=h.bks;unfold jK at h1⊢;show (match s.pap[i]?,(s.bk.set k b')[i]? with|some q,some b=>_|_,_=>_)=true
 by_cases hik:i=k
 ·subst hik;rw[wU (by omega),hq];rw[hq,zV (by omega:i<s.bk.length)]at h1;simp only[yT]at h1⊢;exact⟨h1.1,h1.2.1,h1.2.2.1,hb⟩
 ·rw[wW (Ne.symm hik)];exact h1
end
theorem C3{s:dl}{L M:List aj}(h:ki s L)(hM:∀c,c∈M↔c∈L):(cQ s (ay M)).sts.length=L.length/\(cQ s (ay M)).pgs.length=L.length/\(∀x∈(cQ s (ay M)).sts,x.state=1) /\
  ∀q∈(cQ s (ay M)).pgs,(0<=q.cand/\q.cand<=9999)/\(0<=q.page/\q.page<32)/\q.cont=100*q.cand+q.page:=by
 have hc:=h.clean (M:=M) fun c hc=>(hM c).1 hc;refine⟨hc.len.1.trans (h.len hM),hc.len.2.trans (h.len hM),fun x hx=>?_,fun q hq=>?_⟩
 ·obtain⟨c,-,rfl⟩:=hc.mem_sts.1 hx;rfl
 ·obtain⟨c,hm,rfl⟩:=hc.mem_pgs.1 hq;have hcL:=(hM c).1 ((h.mem (M:=M) fun c hc=>(hM c).1 hc).1 hm);obtain⟨i,l,-,hl,hw,-⟩:=h.at_ hcL;have h2:=(h.labR hl hw).2;have h3:=ju.1 (Br h.ok (zW hl));simp only[h2];exact⟨⟨h3.2.2.2.1,h3.2.2.2.2⟩,h3.2.1,hw.cont⟩
open _root_.Go.Proofs.Tryz
def pO(k:Nat):List Int:=(List.range k).map (fun i:Nat=>(i:Int))
theorem Fb(k:Nat):pO (k+1)=pO k++[(k:Int)]:=by unfold pO;rw[xP];simp
theorem yw{x:Int}(h:x∈pO k):0<=x/\x<k:=by unfold pO at h;simp at h;obtain⟨i,hi,rfl⟩:=h;omega
theorem F0{l:List Int}{r:Nat}(h:l.Perm (pO k)):(l.take r++[(k:Int)]++l.drop r).Perm (pO (k+1)):=by
 rw[Fb];have h1:(l.take r++[(k:Int)]++l.drop r).Perm (l.take r++l.drop r++[(k:Int)]):=by rw[xY,xY];exact List.Perm.append_left _ List.perm_append_comm
 rw[List.take_append_drop]at h1;exact h1.trans (h.append_right _)
def LA(w:World)(base:Nat)(n:Nat)(v:Value):Prop :=
 ∃l:List Int,w.ownsRow base 3 1 v l.length (l.map (Value.int .i64))/\l.Perm (pO n)
theorem Ft(p:Nat)(n:Nat)(w:World)(h:bz w p)(hn:n<=1000) :
  Calls prog 81 #[.pointer (some ⟨p,0,none⟩),.int .i64 n] w (iN p w fun v w'=>LA w' w.heap.size n v):=by
 have hlt:=h.lt;have H:=zZ h;clear h;obtain⟨i0,hi0,hz0,hz1,hz2⟩:=info_parts Tryz.infoI;go_enter func81,ntmps81
 go_wp2_with fail;go_loopw [5,6] (fun v i wr=>∃(k:Nat) (l:List Int),i=.int .i64 k/\k<=n/\Hid (l.length=k/\wr.ownsRow w.heap.size 3 1 v k (l.map (Value.int .i64))/\l.Perm (pO k)/\bz wr p/\XT p w wr)) (fun _ i _=>n-(intOf i).toNat)
 case atStart=>exact⟨0,[],rfl,by omega,rfl,yZ _ _ _ _,wN _,H.out,XT.refl _ _⟩
 case round =>
  obtain⟨k,l,rfl,hk,HR⟩:=hrel;by_cases hkn:k<n
  ·obtain⟨hl,hown,hperm,htape,hxt⟩:=HR.out;have hI:ak p wr u5 l:=ak.of_own hown hlt (fun x hx=>by have:=yw (hperm.mem_iff.1 hx);exact⟨by omega,by omega⟩) (by omega);obtain⟨A,n',c,rfl,hnc,hc,hnn,HL⟩:=hI.open_;obtain rfl:n'=k:=by have:=HL.out;omega
   have HI:=zZ hI;have HT:=zZ htape;clear hl hown hperm htape hxt hI;go_wp2_with fail;refine (am p _ _ HT.out (by omega)).mono ?_;rintro e w2 ⟨v2,rfl,⟨r,rfl,hr1,hr2⟩,HT2,HX2⟩;obtain⟨r,rfl⟩:=zG hr1;have hrk:r<=n':=by omega
   have HI2:=zZ ((HI.out.xt HX2).take hrk);have HD2:=zZ ((HI.out.xt HX2).drop hrk);go_wp2_with (first
    |(at_builtin;refine dh _ rfl (.tmp 18) (.tmp 21) 22 rfl w2.heap.size 3 i0 _ 8 underlying22 hi0 hz0 hz1 hz2 rfl (.slice none 0 0) 0 [] rfl (yZ _ _ _ _) p A r c (l.take r) rfl HI2.out (by omega) (by omega) (zX _) ?_;intro v3 w3 hown3 hg3;have HE3:=zZ (ab.grown (zE w2) hg3 (by simp[Value.ownBlock]));have HO3:=zZ hown3;clear hown3 hg3)
    |(at_builtin;refine aF _ rfl (.tmp 23) (.tmp 25) 22 rfl w2.heap.size 3 i0 _ 8 underlying22 hi0 hz0 hz1 hz2 rfl v3 _ _ rfl (HO3.out.alloc _) _ _ rfl (by simp;rfl) rfl (by omega) (by omega) (by have:=HE3.out.size;simp;omega) ?_;intro v4 w4 hown4 hg4;have HE4:=zZ (ab.grown (HE3.out.alloc _) hg4 (aq HO3.out));have HO4:=zZ hown4;clear hown4 hg4)
    |(at_builtin;refine dh _ rfl (.tmp 27) (.tmp 30) 22 rfl w2.heap.size 3 i0 _ 8 underlying22 hi0 hz0 hz1 hz2 rfl v4 _ _ rfl HO4.out p _ (n'-r) (c-r) (l.drop r) rfl (HD2.out.ext HE4.out) (by omega) (by omega) (HE4.out.size) ?_;intro v5 w5 hown5 hg5;have HE5:=zZ (ab.grown HE4.out hg5 (aq HO4.out));have HO5:=zZ hown5;clear hown5 hg5))
   go_roundw
   case rel =>
    obtain⟨hl,hown,hperm,htape,hxt⟩:=HR.out;refine⟨n'+1,l.take r++[(n':Int)]++l.drop r,by go_num,by omega,by simp;omega,?_,F0 hperm,HT2.ext HE5.out,(hxt.trans HX2).ext HE5.out⟩;have h5:=cd HO5.out (base':=w.heap.size) (by have:=hxt.size;have:=HX2.size;omega);have e:0+r+1+(n'-r)=n'+1:=by omega
    rw[e]at h5;simpa using h5
   case measure=>simp[intOf];omega
  ·obtain rfl:k=n:=by omega
   go_wp2_with fail;go_ret
   obtain⟨hl,hown,hperm,htape,hxt⟩:=HR.out;exact⟨_,rfl,⟨l,by rw[hl];exact hown,hperm⟩,htape,hxt⟩
def KE(w:World)(base:Nat)(n:Nat)(v:Value):Prop :=
 ∃l:List Int,w.ownsRow base 3 1 v l.length (l.map (Value.int .i64))/\(∀x,x∈l↔0<=x/\x<(n:Int))/\l.length<=n+3
theorem Ig{x:Int}:x∈pO k↔0<=x/\x<k:=by
 constructor
 ·exact yw
 ·rintro⟨h1,h2⟩;obtain⟨j,rfl⟩:=zG h1;unfold pO;exact zF.2 ⟨j,yX.2 (by omega),rfl⟩
theorem Fi(p:Nat)(n:Nat)(w:World)(h:bz w p)(hn:n<=1000) :
  Calls prog 35 #[.pointer (some ⟨p,0,none⟩),.int .i64 n] w (iN p w fun v w'=>KE w' w.heap.size n v):=by
 have hlt:=h.lt;have H:=zZ h;clear h;obtain⟨i0,hi0,hz0,hz1,hz2⟩:=info_parts Tryz.infoI;go_enter func35,ntmps35
 go_wp2_with fail;refine (Ft p n _ H.out hn).mono ?_;rintro e w1 ⟨v1,rfl,⟨l0,ho0,hp0⟩,HT1,HX1⟩;have HO:Hid (w1.ownsRow w.heap.size 3 1 v1 l0.length (l0.map (Value.int .i64))/\(∀x,x∈l0↔0<=x/\x<(n:Int))/\l0.length=n):=⟨ho0,fun x=>by rw[hp0.mem_iff,Ig],by rw[hp0.length_eq];simp[pO]⟩
 clear ho0 hp0;go_wp2_with fail;refine (am p 4 _ HT1 (by omega)).mono ?_;rintro e w2 ⟨v2,rfl,⟨r0,rfl,hr01,hr02⟩,HT2,HX2⟩;have HS:Hid (bz w2 p/\XT p w w2/\w2.ownsRow w.heap.size 3 1 v1 l0.length (l0.map (Value.int .i64))):=⟨HT2,HX1.trans HX2,dD HO.out.1 HX2 hlt⟩
 have HM:Hid ((∀x,x∈l0↔0<=x/\x<(n:Int))/\l0.length=n):=HO.out.2;clear HO HT1 HX1 HT2 HX2;go_wp2_with fail;go_loopw [5,6] (fun v i wr=>∃(k:Nat) (l:List Int),i=.int .i64 k/\k<=3/\Hid (l.length+k<=n+3/\wr.ownsRow w.heap.size 3 1 v l.length (l.map (Value.int .i64))/\(∀x,x∈l↔0<=x/\x<(n:Int))/\bz wr p/\XT p w wr)) (fun _ i _=>(intOf i).toNat)
 case atStart=>exact⟨r0.toNat,l0,by congr;omega,by omega,by have:=HM.out.2;omega,HS.out.2.2,HM.out.1,HS.out.1,HS.out.2.1⟩
 case round =>
  obtain⟨k,l,rfl,hk,HR⟩:=hrel;clear HS HM;by_cases hk0:0<k
  ·by_cases hn0:0<n
   ·obtain⟨hl,hown,hmem,htape,hxt⟩:=HR.out;have hI:ak p wr u5 l:=ak.of_own hown hlt (fun x hx=>by have:=(hmem x).1 hx;exact⟨by omega,by omega⟩) (by omega);obtain⟨A,n',c,rfl,hnc,hc,hnn,HL⟩:=hI.open_;have hn':n'<=n+3:=by have:=HL.out;omega
    have hn'1:n'<=l.length:=by have:=HL.out;omega
    have hn'2:l.length<=n':=by have:=HL.out;omega
    have HI:=zZ hI;have HT:=zZ htape;clear hl hown hmem htape hxt hI;go_wp2_with fail;refine (am p _ _ HT.out (by omega)).mono ?_;rintro e w2 ⟨v2,rfl,⟨r,rfl,hr1,hr2⟩,HT2,HX2⟩;obtain⟨r,rfl⟩:=zG hr1;have hrk:r<=n':=by omega
    go_wp2_with fail;refine (am p n _ HT2 (by omega)).mono ?_;rintro e w3 ⟨v3,rfl,⟨y,rfl,hy1,hy2⟩,HT3,HX3⟩;have hyn:y<n:=by omega
    have HI2:=zZ (((HI.out.xt HX2).xt HX3).take hrk);have HD2:=zZ (((HI.out.xt HX2).xt HX3).drop hrk);have HX23:=zZ (HX2.trans HX3);clear HT2 HX2 HX3;go_wp2_with (first
     |(at_builtin;refine dh _ rfl (.tmp 31) (.tmp 34) 22 rfl w3.heap.size 3 i0 _ 8 underlying22 hi0 hz0 hz1 hz2 rfl (.slice none 0 0) 0 [] rfl (yZ _ _ _ _) p A r c (l.take r) rfl HI2.out (by omega) (by omega) (zX _) ?_;intro v4 w4 hown4 hg4;have HE4:=zZ (ab.grown (zE w3) hg4 (by simp[Value.ownBlock]));have HO4:=zZ hown4;clear hown4 hg4)
     |(at_builtin;refine aF _ rfl (.tmp 36) (.tmp 38) 22 rfl w3.heap.size 3 i0 _ 8 underlying22 hi0 hz0 hz1 hz2 rfl v4 _ _ rfl (HO4.out.alloc _) _ _ rfl (by simp;rfl) rfl (by omega) (by omega) (by have:=HE4.out.size;simp;omega) ?_;intro v5 w5 hown5 hg5;have HE5:=zZ (ab.grown (HE4.out.alloc _) hg5 (aq HO4.out));have HO5:=zZ hown5;clear hown5 hg5)
     |(at_builtin;refine dh _ rfl (.tmp 40) (.tmp 43) 22 rfl w3.heap.size 3 i0 _ 8 underlying22 hi0 hz0 hz1 hz2 rfl v5 _ _ rfl HO5.out p _ (n'-r) (c-r) (l.drop r) rfl (HD2.out.ext HE5.out) (by omega) (by omega) (HE5.out.size) ?_;intro v6 w6 hown6 hg6;have HE6:=zZ (ab.grown HE5.out hg6 (aq HO5.out));have HO6:=zZ hown6;clear hown6 hg6))
    go_roundw
    case rel =>
     obtain⟨hl,hown,hmem,htape,hxt⟩:=HR.out;refine⟨k-1,l.take r++[y]++l.drop r,by congr;omega,by omega,by simp;omega,?_,fun x=>?_,HT3.ext HE6.out,(hxt.trans HX23.out).ext HE6.out⟩
     ·have h5:=cd HO6.out (base':=w.heap.size) (by have:=hxt.size;have:=HX23.out.size;omega);have e:0+r+1+(n'-r)=(l.take r++[y]++l.drop r).length:=by simp;omega
      rw[e]at h5;simpa using h5
     ·have h1:x∈l.take r++[y]++l.drop r↔x∈l\/x=y:=by
       have hl:x∈l↔x∈l.take r\/x∈l.drop r:=by rw[<-zM,List.take_append_drop]
       rw[hl,zM,zM,uJ];constructor
       ·rintro ((h|h)|h)
        ·exact .inl (.inl h)
        ·exact .inr h
        ·exact .inl (.inr h)
       ·rintro ((h|h)|h)
        ·exact .inl (.inl h)
        ·exact .inr h
        ·exact .inl (.inr h)
      rw[h1,hmem];constructor
      ·rintro (h|rfl)
       ·exact h
       ·exact⟨by omega,by omega⟩
      ·exact .inl
    case measure=>simp[intOf];omega
   ·go_wp2_with fail;go_ret
    obtain⟨hl,hown,hmem,htape,hxt⟩:=HR.out;exact⟨_,rfl,⟨l,hown,hmem,by omega⟩,htape,hxt⟩
  ·go_wp2_with fail;go_ret
   obtain⟨hl,hown,hmem,htape,hxt⟩:=HR.out;exact⟨_,rfl,⟨l,hown,hmem,by omega⟩,htape,hxt⟩
end Go.Proofs.YtkaajgoeahahpaaGreatDoor

