import Derived.Maps.Own
import Derived.Maps.AppendAt
import Derived.Shelf.SlSortCmp.NoneTotal
import Derived.DeepKeys4
import Derived.Test.YtpaidaphacoblaaGreatDoorAccP
import Derived.Test.YtpaidaphacoblaaGreatDoorK35
import Derived.Test.YtpaidaphacoblaaGreatDoorScO
set_option linter.all false
set_option maxRecDepth 100000
set_option maxHeartbeats 0
namespace Go.Proofs.YtpaidaphacoblaaGreatDoor
open Go.RowKit
variable {k n p q:Nat} {c:Int} {w:World} {v:Value}
section
variable {s:dl} {i:r6} {d f ld:Int}
theorem OC{c:Np}(hk:(ut s i d f ld)[k]?=some c):∃x∈s.xp,cj s i x=true/\(s.xp.filter (cj s i))[k]?=some x/\c=Mk s i d f ld x:=by unfold ut at hk;rw[zP,yO]at hk;obtain⟨x,hx,rfl⟩:=hk;obtain⟨h1,h2⟩:=xR.1 (zW hx);exact⟨x,h1,h2,hx,rfl⟩
theorem O0(h:KY s i){x:fv}(hx:x∈s.xp)(hd:cj s i x=true):Mf s i (Mk s i d f ld x)=true:=by
 have hm:=scs_miss hd;have hl:(j6 i x.cand (F9 s x.var)).length=F9 s x.var:=by unfold j6;simp
 rw[MA (c:=Mk s i d f ld x) (Em (iL.1 h.chk).asc_ hx)];simp only[Mk,decide_true,yK,hl];refine j9 fun g hg=>?_;have hs:(dG i.pgs x.cand (g:Int)).isSome=true:=by
  cases hp:(dG i.pgs x.cand (g:Int)).isSome with
  |true=>rfl
  |false =>
   unfold a8 at hm;rw[List.filterMap_eq_nil_iff]at hm;have:=hm g (yX.2 hg);rw[hp]at this;cases this
 obtain⟨q,hq⟩:=Option.isSome_iff_exists.1 hs;have hc:(j6 i x.cand (F9 s x.var))[g]?=some q.cont:=by unfold j6;rw[zP,wJ hg];simp[hq]
 unfold Mr;rw[hq,hc];exact decide_eq_true rfl
theorem Pn(hb:gq s i=true):d7 s i (ut s i d f ld)=true:=by
 have h:=j7.1 hb;refine MQ hb fun k hk=>?_;obtain⟨c,hc⟩:∃c,(ut s i d f ld)[k]?=some c:=⟨_,zV hk⟩
 obtain⟨x,hx,hd,hxk,rfl⟩:=OC hc;have ho:=O0 (d:=d) (f:=f) (ld:=ld) h hx hd;cases k with
 |zero=>rw[MT hc];exact ho
 |succ k =>
  obtain⟨b,hb2⟩:∃b,(ut s i d f ld)[k]?=some b:=⟨_,zV (by omega)⟩
  obtain⟨y,hy,-,hyk,rfl⟩:=OC hb2;have ha:=((iL.1 h.chk).asc_.sub (List.filter_sublist (p:=cj s i))).at_ hyk hxk (by omega);unfold vr at ha;simp only[decide_eq_true_eq]at ha;rw[MS hc hb2,ho,Bool.and_true];exact decide_eq_true (by simp only[Mk];omega)
def MB(s:dl)(i:r6)(n:Nat):Nat:=((s.xp.take n).filter (cj s i)).length
def ME(s:dl)(i:r6)(n:Nat):Nat:=((s.xp.take n).map (NM s i)).sum
theorem Py{x:fv}(hx:s.xp[n]?=some x)(hd:cj s i x=true):MB s i (n+1)=MB s i n+1:=by unfold MB;rw[List.take_add_one,hx,xM,yU];simp[hd]
theorem QA{x:fv}(hx:s.xp[n]?=some x)(hd:cj s i x=false):MB s i (n+1)=MB s i n:=by unfold MB;rw[List.take_add_one,hx,xM,yU];simp[hd]
theorem PP{x:fv}(hx:s.xp[n]?=some x)(hd:cj s i x=true):ME s i (n+1)=ME s i n+F9 s x.var:=by unfold ME;rw[List.take_add_one,hx,yG,List.sum_append];simp[NM,hd]
theorem QI{x:fv}(hx:s.xp[n]?=some x)(hd:cj s i x=false):ME s i (n+1)=ME s i n+sL i.pgs x.cand:=by unfold ME;rw[List.take_add_one,hx,yG,List.sum_append];simp[NM,hd]
theorem P3{x:fv}(hx:s.xp[n]?=some x)(hd:cj s i x=true):(ut s i d f ld)[MB s i n]?=some (Mk s i d f ld x):=by
 have hn:=(zY.1 hx).1;have e:s.xp=s.xp.take n++x::s.xp.drop (n+1):=by obtain⟨h1,h2⟩:=zY.1 hx;rw[<-h2,List.getElem_cons_drop,List.take_append_drop]
 unfold ut MB;rw[zP];have e2:s.xp.filter (cj s i)=(s.xp.take n).filter (cj s i)++x::(s.xp.drop (n+1)).filter (cj s i):=by
  conv=>lhs;rw[e]
  rw[xM,uC hd]
 rw[e2,yL (zX _),vH];rfl
theorem PX:MB s i s.xp.length=(ut s i d f ld).length:=by unfold MB ut;rw[List.take_length,zJ]
theorem Qh{x:fv}(hx:s.xp[n]?=some x)(hd:cj s i x=true):MB s i n<(ut s i d f ld).length:=(zY.1 (P3 (d:=d) (f:=f) (ld:=ld) hx hd)).1
theorem PE(h:KY s i):ME s i s.xp.length=i.pgs.length:=by unfold ME;rw[List.take_length];exact h.add
theorem OL(h:KY s i)(n:Nat):ME s i n<=i.pgs.length:=by
 rw[<-h.add];have e:(s.xp.map (NM s i)).sum=((s.xp.take n).map (NM s i)).sum+((s.xp.drop n).map (NM s i)).sum:=by rw[<-List.sum_append,<-yG,List.take_append_drop]
 unfold ME;omega
theorem PF{l:List Pg}{q:Pg}(hq:l[n]?=some q)(h:q.cand=c):sL (l.take (n+1)) c=sL (l.take n) c+1:=by unfold sL;rw[List.take_add_one,hq,xM,yU];simp[h]
theorem Qf{l:List Pg}{q:Pg}(hq:l[n]?=some q)(h:q.cand≠c):sL (l.take (n+1)) c=sL (l.take n) c:=by unfold sL;rw[List.take_add_one,hq,xM,yU];simp[h]
theorem Qq(l:List Pg)(c:Int)(n:Nat):sL (l.take n) c<=l.length:=by unfold sL;have h1:=uP (fun q:Pg=>decide (q.cand=c)) (l.take n);have h2:=List.length_take_le n l;have h3:=List.length_take_le' n l;omega
theorem PA(x:fv):(gt s i x).cand=x.cand:=by
 unfold gt;split
 ·rfl
 ·split
  ·rfl
  ·split<;>rfl
theorem QY{st:Int}{ps:List Int}(h:(s.xp.map (gt s i))[k]?=some ⟨c,st,ps⟩):∃x,s.xp[k]?=some x/\c=x.cand/\(st=1↔cj s i x=true):=by rw[zP,yO]at h;obtain⟨x,hx,h⟩:=h;have h1:=PA (s:=s) (i:=i) x;rw[h]at h1;refine⟨x,hx,h1,?_⟩;unfold cj;rw[h];simp
theorem Q9(hb:gq s i=true)(hv:j5 d f ld=true):Na s i d f ld=0/\Ni s i d f ld=ut s i d f ld:=by
 refine⟨?_,?_⟩
 ·unfold Na;rw[if_pos hb,if_pos hv]
 ·unfold Ni;rw[if_pos ⟨hb,hv⟩]
theorem Qe(hb:gq s i=true){x:fv}:(Mk s i d f ld x).pgs.length=F9 s x.var:=by unfold Mk j6;simp
end
section
variable {s:dl} {L:List aj}
theorem QW(h:ki s L){c:aj}(hk:L[k]?=some c):∃lc lg:Int,c.cont=100*lc+lg/\(0<=lc/\lc<=9999)/\(0<=lg/\lg<=12) /\
  ∀x∈s.xp,gt s (cQ s (ay (L.take k++L.drop (k+1)))) x=if x.cand=lc then ⟨x.cand,2,[lg]⟩ else ⟨x.cand,1,[]⟩:=by
 have hlt:=(zY.1 hk).1;rw[h.cap.1]at hlt;have hl:(iH s)[k]?=some (iH s)[k]:=zV hlt;obtain⟨x,hx,g,hg,e⟩:=rK.1 (zW hl);have hw:=h.cap.2 k c _ hk hl;have hb:=rL h.ok hx;obtain⟨q,b,h1,h2,h3,-⟩:=rT h.ok hb.2.2.1 hb.2.2.2.1;have h4:=(mR h3).2;rw[uo h2]at hg;refine⟨((iH s)[k]).c,((iH s)[k]).g,hw.cont,?_,?_,fun y hy=>h.scs_miss hk hl hy⟩
 ·rw[e];exact⟨hb.1,hb.2.1⟩
 ·rw[e];simp only;omega
theorem OQ(h:dU s)(l:List aj):gq s (cQ s (ay l))=true:=j7.2 (NU (iL.2 h) sN)
theorem P7{s:dl}{i:r6}{lc lg:Int}(H:∀x∈s.xp,gt s i x=if x.cand=lc then ⟨x.cand,2,[lg]⟩ else ⟨x.cand,1,[]⟩){st:Int}{ps:List Int}(h:(s.xp.map (gt s i))[k]?=some ⟨c,st,ps⟩) :
  (c=lc/\st=2/\ps=[lg])\/(c≠lc/\st=1/\ps=[]):=by
 rw[zP,yO]at h;obtain⟨x,hx,h⟩:=h;rw[H x (zW hx)]at h;by_cases e:x.cand=lc
 ·rw[if_pos e]at h;injection h with h1 h2 h3;exact .inl ⟨by rw[<-h1];exact e,h2.symm,h3.symm⟩
 ·rw[if_neg e]at h;injection h with h1 h2 h3;exact .inr ⟨by rw[<-h1];exact e,h2.symm,h3.symm⟩
end
open _root_.Go.Proofs.Tryz
theorem IsScs.rd{b off c:Nat}{wx:World}{l:List P6}(h:bj p 3 (MW p) w (.slice (some ⟨b,off,none⟩) n c) l)(hx:ab w wx)(hk:k<n) :
  ∃(y0 y1:Int) (ps:List Int) (A1:Option Addr) (n1 c1:Nat),Hid (l[k]?=some ⟨y0,y1,ps⟩)/\ak p wx (.slice A1 n1 c1) ps /\
   wx.cell? ⟨b,off+k*3,none⟩=some (.int .i64 y0)/\wx.cell? ⟨b,off+k*3+1,none⟩=some (.int .i64 y1)/\wx.cell? ⟨b,off+k*3+2,none⟩=some (.slice A1 n1 c1):=by
 obtain⟨cs,⟨y0,y1,ps⟩,-,hc,⟨u1,rfl,h1⟩,HX⟩:=h.cell_ hk;obtain⟨A1,n1,c1,rfl,-⟩:=h1.open_;exact⟨y0,y1,ps,A1,n1,c1,HX,h1.ext hx,by simpa using hx.cell (hc 0 _ rfl),hx.cell (hc 1 _ rfl),hx.cell (hc 2 _ rfl)⟩
theorem QM{l:List aj}(h:au p w v l)(hq:w.heap.size<=q):au q w v l :=
 bj.re h hq (by decide) fun cs x=>by rintro⟨u,rfl,a,b⟩;exact⟨u,rfl,ak.re a hq,b⟩
theorem MW.stab(p:Nat):lV p (MW p):=by rintro w w' cs x ⟨u,rfl,h⟩ e;exact⟨u,rfl,h.xt e⟩
def Mv(p:Nat):World->List Value->(aj×Value)->Prop:=fun w cs y=>cs=fZ y/\(∃A n c,y.2=.slice A n c)/\ak p w y.2 y.1.ch/\aj.wf y.1
theorem Mv.stab(p:Nat):lV p (Mv p):=by rintro w w' cs y ⟨h1,h2,h3,h4⟩ e;exact⟨h1,h2,h3.xt e,h4⟩
theorem Mv.cs{p:Nat}{w:World}{v:Value}{ys:List (aj×Value)}(h:bj p 13 (Mv p) w v ys):au p w v (ys.map Prod.fst):=by obtain⟨A,c,hv,h1,h2,h4⟩:=h;refine⟨A,c,by rw[zJ];exact hv,by rw[zJ];exact h1,h2,fun k x hx=>?_⟩;rw[zP,yO]at hx;obtain⟨y,hy,rfl⟩:=hx;obtain⟨b,off,cs,ha,hb,hcl,hcell,rfl,-,hch,hw⟩:=h4 k y hy;exact⟨b,off,fZ y,ha,hb,hcl,hcell,y.2,rfl,hch,hw⟩
theorem Cr.rdI{base:Nat}{ys:List (aj×Value)}(h:Cr p base w v ys)(hp:p<base):bj p 13 (Mv p) w v ys:=by obtain⟨A,c,hv,h1,h2,h4⟩:=h.rd;refine⟨A,c,hv,h1,h2,fun k y hy=>?_⟩;obtain⟨b,off,cs,ha,hb,hcl,hcell,h5,hch,hk⟩:=h4 k y hy;exact⟨b,off,cs,ha,hb,hcl,hcell,h5,by obtain⟨A,c,e⟩:=hch.form;exact⟨A,_,c,e⟩,hch.isI hp,hk.wf hch.2.2⟩
theorem Mv.re{w':World}{ys:List (aj×Value)}(h:bj p 13 (Mv p) w v ys)(e:XT p w w')(hq:w.heap.size<=q):bj q 13 (Mv q) w' v ys :=
 bj.xre h e hq (by decide) fun cs y=>by rintro⟨h1,h2,h3,h4⟩;exact⟨h1,h2,h3.xre e hq,h4⟩
theorem NH{nl cC j b o:Nat}{B:Option Addr}{ys:List (aj×Value)}(h:bj q 13 (Mv q) w (.slice (some ⟨b,o,none⟩) nl cC) ys)(hBD:B=if cC=j+1 then some ⟨b,o,none⟩ else some ⟨b,o+(j+1)*13,none⟩)(hq:q<w.heap.size)(hj:j<nl)(hn:nl<=100) :
  ∃v' w',(Builtin.append_ #[31,31] 31 #[.slice (some ⟨b,o,none⟩) j j,.slice B (nl-(j+1)) (cC-(j+1))]).run prog w=.ok v' w'/\ab w w' /\
   bj q 13 (Mv q) w' v' (ys.take j++ys.drop (j+1)):=by
 obtain⟨iC,hiC,hC0,hC1,hC2⟩:=info_parts Tryz.infoCap;have hA:=h.takeFull (show j<=nl by omega);have hB:=h.drop (show j+1<=nl by omega);rw[show (if cC=j+1 then (some ⟨b,o,none⟩:Option Addr) else (some ⟨b,o,none⟩:Option Addr).map (·.add ((j+1)*13)))=B by rw[hBD];split<;>simp[Addr.add]]at hB;have plain:∀{A:Option Addr} {n c:Nat} {zs:List (aj×Value)},bj q 13 (Mv q) w (.slice A n c) zs->bj q 13 (fun _ cs y=>cs=fZ y) w (.slice A n c) zs:=by rintro A n c zs ⟨A',c',hv,h1,h2,h4⟩;exact⟨A',c',hv,h1,h2,fun k x hx=>by obtain⟨b,off,cs,a1,a2,a3,a4,a5,_⟩:=h4 k x hx;exact⟨b,off,cs,a1,a2,a3,a4,a5⟩⟩
 have el:∀{v:Value} {zs:List (aj×Value)},bj q 13 (Mv q) w v zs->∀y∈zs,(∃A n c,y.2=.slice A n c)/\ak q w y.2 y.1.ch/\aj.wf y.1:=by rintro v zs ⟨A',c',hv,h1,h2,h4⟩ y hy;obtain⟨k,hk⟩:=zH hy;obtain⟨b,off,cs,a1,a2,a3,a4,a5,a6⟩:=h4 k y hk;exact a6
 obtain⟨f1,l1⟩:=bj.flat (plain hA) (by decide);obtain⟨f2,l2⟩:=bj.flat (plain hB) (by decide);obtain⟨v',w',hrun,hx,hcase⟩:=MU (P:=prog) w 31 31 41 iC _ 13 128 underlying31 hiC hC0 hC1 hC2 rfl _ j ((ys.take j).map fZ).flatten l1 f1 _ (nl-(j+1)) _ ((ys.drop (j+1)).map fZ).flatten l2 f2 (by unfold maxLen;omega) (by omega);refine⟨v',w',hrun,hx,?_⟩;have e1:=hA.len;have e2:=hB.len;rcases hcase with ⟨h0,rfl,rfl⟩|⟨c',rfl,ho⟩
 ·have hz:ys.drop (j+1)=[]:=xZ (by omega);rw[hz,xN];exact hA
 ·refine bj.of_own (e:=41) ((ys.take j++ys.drop (j+1)).map fZ) (fun cs hcs=>by obtain⟨y,_,rfl⟩:=zF.1 hcs;rfl) (by decide) (by simp) ?_ hq ?_
  ·rw[yG,List.flatten_append,yU,e1,e2];exact ho
  ·intro k cs y hcs hy;rw[zP,yO]at hcs;obtain⟨y',hy',rfl⟩:=hcs;rw[hy]at hy';injection hy' with hy';subst hy'
   have hm:y∈ys.take j\/y∈ys.drop (j+1):=zM.1 (zW hy);have:=hm.elim (el hA y) (el hB y);exact⟨rfl,this.1,this.2.1.ext hx,this.2.2⟩
theorem Ql{gS gI:Nat}{w0 wx:World}{cs:Array Value}{t:r6}{AS AG:Option Addr}{ns ng cS cG:Nat}{s:dl}(h:LF p w wx [(gS,cs,29),(gI,#[.slice none 0 0,.slice none 0 0],45)])(hI:aK gI wx (.agg #[.slice AS ns cS,.slice AG ng cG]) t)(hs:aR p w0 v s)(hx:ab w0 wx)(hg:w0.heap.size<=gI) :
  LF p w (be wx gI 0 [.slice AS ns cS,.slice AG ng cG]) [(gS,cs,29),(gI,#[.slice AS ns cS,.slice AG ng cG],45)]/\aK gI (be wx gI 0 [.slice AS ns cS,.slice AG ng cG]) (.agg #[.slice AS ns cS,.slice AG ng cG]) t /\
   aR gI (be wx gI 0 [.slice AS ns cS,.slice AG ng cG]) v s:=by
 have h2:XT gI wx (be wx gI 0 [.slice AS ns cS,.slice AG ng cG]):=((XT.refl gI wx).setCell rfl _).setCell rfl _;have h3:XT p w0 (be wx gI 0 [.slice AS ns cS,.slice AG ng cG]):=(hx.xt.setNew (a:=⟨gI,0,none⟩) hg _).setNew (a:=⟨gI,1,none⟩) hg _;exact⟨⟨h.fr.setAll 1 rfl [.slice AS ns cS,.slice AG ng cG] rfl,h.tb0,h.p2⟩,hI.xt h2,hs.xre h3 hg⟩
theorem QH{ct lc lg:Int}(h:ct=100*lc+lg)(h1:0<=lc/\lc<=9999)(h2:0<=lg/\lg<=12):wrap64 (ct.tdiv 100)=lc/\ct.tmod 100=lg:=by
 have e1:ct.tdiv 100=lc:=by rw[Int.tdiv_eq_ediv_of_nonneg (by omega)];omega
 have e2:ct.tmod 100=lg:=by rw[Int.tmod_eq_emod_of_nonneg (by omega)];omega
 rw[e1,e2];exact⟨IntWalk.wrap64_in _ (by omega),rfl⟩
theorem Rg{P Q:Nat->Value->Option Addr->Nat->Option Addr->Nat->World->Prop}{G:Prop}(h:Bx (∀a b c d e f g,Bx (Q a b c d e f g)->P a b c d e f g)->G)(r:∀a b c d e f g,Bx (Q a b c d e f g)->P a b c d e f g):G:=h ⟨r⟩
end Go.Proofs.YtpaidaphacoblaaGreatDoor

