import Derived.Test.YtpaidaphacoblaaGreatDoorK4
set_option linter.all false
set_option maxRecDepth 100000
set_option maxHeartbeats 0
namespace Go.Proofs.YtpaidaphacoblaaGreatDoor
open Go.Value renaming int→A
open Go.IntKind renaming i64→B
open Go.RowKit
variable {a:Act} {fuel i id k p:Nat} {ns:List Int} {w:World} {v v':Value} {num:Int} {listed:Array Bool}
def iv(a k:Nat):List Int:=(List.range k).map fun i=>((a+i:Nat):Int)
theorem DT(a k:Nat):iv a (k+1)=iv a k++[((a+k:Nat):Int)]:=by unfold iv;rw[xP];simp
theorem CC(a k:Nat):(iv a k).length=k:=by simp[iv]
theorem K0{a:Nat}{y:Int}(h:(iv a k)[i]?=some y):y=((a+i:Nat):Int):=by unfold iv at h;simp only[zP,yO]at h;obtain⟨j,hj,rfl⟩:=h;have:=zY.1 hj;obtain⟨h1,h2⟩:=this;simp at h2;omega
theorem Kj{a:Nat}(h:a+k<=ns.length):nf ns a (iv a k) k:=⟨h,fun _ _ _ hy=>K0 hy⟩
theorem DS{a:Nat}(h:a+k<=ns.length)(hl:nA ns a k<=30):oW ns a (iv a k):=by unfold oW;rw[CC];exact⟨Kj h,hl⟩
def DF(ns:List Int)(d:List (List Int))(a:Nat):Prop:=∀rest,eh ns 0 (d++rest)↔eh ns a rest
theorem EK(ns:List Int):DF ns [[]] 0:=by intro rest;simp[eh,oW,nf,nA]
theorem Dk{d:List (List Int)}{a:Nat}{pg:List Int}(h:DF ns d a)(hp:oW ns a pg):DF ns (d++[pg]) (a+pg.length):=by intro rest;rw[xY,h];exact⟨fun x=>x.2,fun x=>⟨hp,x⟩⟩
theorem Ld(ns:List Int)(hn:∀x∈ns,0<=x/\x<=30):∀k,k<=ns.length->∃a,a<=k/\DF ns (gs ns k).1 a/\(gs ns k).2.1=iv a (k-a)/\(gs ns k).2.2=nA ns a (k-a)/\(gs ns k).2.2<=30/\∃t,(gs ns k).1=[]::t:=by
 intro k;induction k with
 |zero=>intro _;exact⟨0,by omega,EK ns,rfl,by simp[gs,nA],by simp[gs],[],rfl⟩
 |succ k ih =>
  intro hk;obtain⟨a,ha,h1,h2,h3,h4,t,h5⟩:=ih (by omega);have hkl:k<ns.length:=by omega
  have hx:ns[k]?=some ns[k]:=zV hkl;have hb:=hn _ (xC hkl);obtain⟨d,c,s,e⟩:∃d c s,gs ns k=(d,c,s):=⟨_,_,_,rfl⟩
  rw[e]at h1 h2 h3 h4 h5;simp only at h1 h2 h3 h4 h5;by_cases hf:s+ns[k]<=30
  ·rw[CV e hx hf];have ek:k+1-a=(k-a)+1:=by omega
   have eak:a+(k-a)=k:=by omega
   refine⟨a,by omega,h1,?_,?_,hf,t,h5⟩
   ·simp only;rw[ek,DT,h2,eak]
   ·simp only;rw[ek,lx (x:=ns[k]) (by rw[eak];exact hx),h3]
  ·rw[CL e hx (by omega)];refine⟨k,by omega,?_,?_,?_,by simp only;omega,t++[c],by simp only;rw[h5];rfl⟩
   ·simp only;have hp:oW ns a c:=by rw[h2];exact DS (by omega) (by rw[<-h3];exact h4)
    have:=Dk h1 hp;rw[h2,CC]at this;rw[h2];have e2:a+(k-a)=k:=by omega
    rw[e2]at this;exact this
   ·simp only;have:k+1-k=0+1:=by omega
    rw[this,DT];simp[iv]
   ·simp only;have:k+1-k=0+1:=by omega
    rw[this,lx (x:=ns[k]) (by simp),oN];omega
theorem BD(ns:List Int)(r:Nat):eh ns ns.length (List.replicate r []):=by
 induction r with
 |zero=>simp[eh]
 |succ r ih=>rw[vD];exact⟨⟨⟨by simp,fun i y hi=>by simp at hi⟩,by simp[nA]⟩,by simpa using ih⟩
theorem IL{code var:Int}{ps:List av}(hv:fD code var ps=true)(hl:(ai ps).length<=12):Fd code var ps (ai ps):=by
 obtain⟨a,ha,h1,h2,h3,h4,t,h5⟩:=Ld (ps.map db) (rY ps) (ps.map db).length (zX _);refine⟨hv,hl,?_,?_,?_⟩
 ·unfold ai Ev;simp;omega
 ·intro l hl';unfold ai Ev iW at hl';rw[h5]at hl';simp at hl';exact hl'
 ·unfold ai Ev iW;rw[xY,h1];rw[h2];refine⟨DS (by omega) (by rw[<-h3];exact h4),?_⟩;rw[CC];have e2:a+((ps.map db).length-a)=(ps.map db).length:=by omega
  rw[e2];exact BD _ _
open _root_.Go.Proofs.Tryz
theorem Tryz.infoPap:(prog.info? 64).map (fun i=>(i.zero,i.size,i.bytes))=some (some (.agg #[A B 0,A B 0,.slice none 0 0]),3,40):=by kernel_rfl
theorem Tryz.infoBk:(prog.info? 61).map (fun i=>(i.zero,i.size,i.bytes))=some (some (.agg #[.slice none 0 0]),1,24):=by kernel_rfl
theorem Tryz.infoXp:(prog.info? 56).map (fun i=>(i.zero,i.size,i.bytes))=some (some (.agg #[A B 0,A B 0,A B 0]),3,24):=by kernel_rfl
def gD(y:je×Value):List Value:=[A B y.1.code,A B y.1.var,y.2]
def CW(y:List (List Int)×Value):List Value:=[y.2]
theorem cO{w':World}{b1 e1 s1 n1 b2 e2 s2 n2:Nat}{v1 v2:Value}{x1 x2:List Value}(h:w.ownsRow b1 e1 s1 v1 n1 x1)(hz:w.ownsRow b2 e2 s2 v2 n2 x2)(hne:e1≠e2)(hg:w.grownBy w' v2.ownBlock):w'.ownsRow b1 e1 s1 v1 n1 x1 :=
 aJ h hg fun k hk=>cA h hz hne k hk
theorem eo{w':World}{g b2 e2 s2 n2:Nat}{t:TypeId}{cs:Array Value}{v2:Value}{x2:List Value}(h:Bk w g cs t)(hz:w.ownsRow b2 e2 s2 v2 n2 x2)(hne:t≠e2)(hg:w.grownBy w' v2.ownBlock):Bk w' g cs t :=
 h.grown hg (aG hz h hne)
structure aH (p:Nat) (w wx:World) (G:Nat) (num:Int) (aP aB aX vP vB vX:Value) (ys:List (je×Value)) (bs:List (List (List Int)×Value)) (xs:List fv):Prop where
 tp:bz wx p
 xt:XT p w wx
 r0:Bk wx w.heap.size #[A B 0,.slice none 0 0,.slice none 0 0,.slice none 0 0] 29
 bx:Bk wx G #[A B num,aP,aB,aX] 29
 hG:w.heap.size<G
 oP:da w.heap.size 64 3 gD wx vP ys
 oQ:∀y∈ys,dZ w.heap.size wx y.2 y.1.ps
 oB:da w.heap.size 61 1 CW wx vB bs
 oR:∀y∈bs,dn w.heap.size wx y.2 y.1
 oX:da w.heap.size 56 3 fv.cells wx vX xs
section
variable {p G:Nat} {w wx w' w1 w2:World} {num:Int} {aP aB aX vP vB vX:Value} {ys:List (je×Value)} {bs:List (List (List Int)×Value)} {xs:List fv}
theorem aH.step(h:aH p w wx G num aP aB aX vP vB vX ys bs xs)(hp:p<w.heap.size)(hx:XT p wx w')(ht:bz w' p):aH p w w' G num aP aB aX vP vB vX ys bs xs :=
 ⟨ht,h.xt.trans hx,h.r0.xt hx (by omega),h.bx.xt hx (by have:=h.hG;omega),h.hG,h.oP.xt hx hp,fun y hy=>dD (h.oQ y hy) hx hp,h.oB.xt hx hp,fun y hy=>(h.oR y hy).xt hx hp,h.oX.xt hx hp⟩
theorem aH.ext(h:aH p w wx G num aP aB aX vP vB vX ys bs xs)(hp:p<w.heap.size)(hx:ab wx w'):aH p w w' G num aP aB aX vP vB vX ys bs xs:=h.step hp hx.xt (h.tp.ext hx)
theorem aH.growP{y:je×Value}(h:aH p w wx G num aP aB aX vP vB vX ys bs xs)(hp:p<w.heap.size)(hg:wx.grownBy w2 vP.ownBlock)(h':w2.ownsRow w.heap.size 64 3 v' (ys.length+1) ((ys.map gD).flatten++gD y))(hq:dZ w.heap.size wx y.2 y.1.ps) :
  aH p w w2 G num aP aB aX v' vB vX (ys++[y]) bs xs :=
 ⟨h.tp.grown hg fun k hk=>by have:=aq h.oP.own k hk;omega,h.xt.grown hg (aq h.oP.own),eo h.r0 h.oP.own (by decide) hg,eo h.bx h.oP.own (by decide) hg,h.hG,da.push h',
  fun z hz=>by
   rcases zM.1 hz with hz|hz
   ·exact cO (h.oQ z hz) h.oP.own (by decide) hg
   ·obtain rfl:z=y:=by simpa using hz
    exact cO hq h.oP.own (by decide) hg,
  cO h.oB.own h.oP.own (by decide) hg,fun z hz=>(h.oR z hz).apart h.oP.own (by decide) (by decide) hg,cO h.oX.own h.oP.own (by decide) hg⟩
theorem aH.growB{y:List (List Int)×Value}(h:aH p w wx G num aP aB aX vP vB vX ys bs xs)(hp:p<w.heap.size)(hg:wx.grownBy w2 vB.ownBlock)(h':w2.ownsRow w.heap.size 61 1 v' (bs.length+1) ((bs.map CW).flatten++CW y))(hq:dn w.heap.size wx y.2 y.1) :
  aH p w w2 G num aP aB aX vP v' vX ys (bs++[y]) xs :=
 ⟨h.tp.grown hg fun k hk=>by have:=aq h.oB.own k hk;omega,h.xt.grown hg (aq h.oB.own),eo h.r0 h.oB.own (by decide) hg,eo h.bx h.oB.own (by decide) hg,h.hG,cO h.oP.own h.oB.own (by decide) hg,
  fun z hz=>cO (h.oQ z hz) h.oB.own (by decide) hg,da.push h',
  fun z hz=>by
   rcases zM.1 hz with hz|hz
   ·exact (h.oR z hz).apart h.oB.own (by decide) (by decide) hg
   ·obtain rfl:z=y:=by simpa using hz
    exact hq.apart h.oB.own (by decide) (by decide) hg,
  cO h.oX.own h.oB.own (by decide) hg⟩
theorem aH.growX{y:fv}(h:aH p w wx G num aP aB aX vP vB vX ys bs xs)(hp:p<w.heap.size)(hg:wx.grownBy w2 vX.ownBlock)(h':w2.ownsRow w.heap.size 56 3 v' (xs.length+1) ((xs.map fv.cells).flatten++y.cells)) :
  aH p w w2 G num aP aB aX vP vB v' ys bs (xs++[y]) :=
 ⟨h.tp.grown hg fun k hk=>by have:=aq h.oX.own k hk;omega,h.xt.grown hg (aq h.oX.own),eo h.r0 h.oX.own (by decide) hg,eo h.bx h.oX.own (by decide) hg,h.hG,cO h.oP.own h.oX.own (by decide) hg,
  fun z hz=>cO (h.oQ z hz) h.oX.own (by decide) hg,cO h.oB.own h.oX.own (by decide) hg,fun z hz=>(h.oR z hz).apart h.oX.own (by decide) (by decide) hg,da.push h'⟩
theorem aH.set{i:Nat}{u:Value}{num':Int}{aP' aB' aX':Value}(h:aH p w wx G num aP aB aX vP vB vX ys bs xs)(hp:p<w.heap.size)(he:#[Value.int .i64 num,aP,aB,aX].setIfInBounds i u=#[A B num',aP',aB',aX']) :
  aH p w (wx.setCell ⟨G,i,none⟩ u) G num' aP' aB' aX' vP vB vX ys bs xs:=by
 have hG:=h.hG;have hf:∀{e s n:Nat} {v:Value} {x:List Value},e≠29->wx.ownsRow w.heap.size e s v n x->(wx.setCell ⟨G,i,none⟩ u).ownsRow w.heap.size e s v n x:=fun hne hr=>aN (a:=⟨G,i,none⟩) hr (aG (b:=G) hr h.bx (Ne.symm hne)) u;refine⟨h.tp.setNew (by simp only;omega) u,h.xt.setNew (by simp only;omega) u,h.r0.far (by simp only;omega) u,?_,hG,hf (by decide) h.oP.own,fun y hy=>hf (by decide) (h.oQ y hy),hf (by decide) h.oB.own,fun y hy=>(h.oR y hy).far h.bx (by decide) (by decide) u,hf (by decide) h.oX.own⟩;have:=h.bx.set i u;rw[he]at this;exact this
theorem aH.setP{o:Nat}{g cap:Nat}{u:Value}{y y':je×Value}(h:aH p w wx G num aP aB aX (.slice (some ⟨g,0,none⟩) ys.length cap) vB vX ys bs xs)(hp:p<w.heap.size)(hy:ys[k]?=some y)(ho:o<3)(he:(gD y).set o u=gD y')(h2:y'.2=y.2)(h3:y'.1.ps=y.1.ps) :
  aH p w (wx.setCell ⟨g,k*3+o,none⟩ u) G num aP aB aX (.slice (some ⟨g,0,none⟩) ys.length cap) vB vX (ys.set k y') bs xs:=by
 obtain⟨hk,rfl⟩:=zY.1 hy;obtain⟨o3,g3⟩:=h.oP.own.stored (k*3+o) u;have hfl:((ys.map gD).flatten).set (k*3+o) u=((ys.set k y').map gD).flatten:=by
  have key:∀(l:List (je×Value)) (k:Nat) (hk:k<l.length),(gD l[k]).set o u=gD y'->((l.map gD).flatten).set (k*3+o) u=((l.set k y').map gD).flatten:=by
   intro l;induction l with
   |nil=>intro k hk;simp at hk
   |cons a l ih =>
    intro k hk he;have ha:(gD a).length=3:=rfl;cases k with
    |zero =>
     rw[wK,wA,vQ,yV,List.set_append_left _ _ (by rw[ha];exact ho)];rw[show (gD a).set o u=gD y' from he];rfl
    |succ k =>
     rw[wK,wA,vO _ _ (by rw[ha];omega),ha,show (k+1)*3+o-3=k*3+o by omega,ih k (by simpa using hk) he];rfl
  exact key ys k hk he
 have hlen:(ys.set k y').length=ys.length:=by simp
 have kp:∀{e s n:Nat} {v:Value} {x:List Value},e≠64->wx.ownsRow w.heap.size e s v n x->(wx.setCell ⟨g,k*3+o,none⟩ u).ownsRow w.heap.size e s v n x:=fun hne hr=>aJ hr g3 fun q hq e'=>cA hr h.oP.own hne q hq (by simpa[Value.ownBlock] using e');have hge:w.heap.size<=g:=aq h.oP.own g (by simp[Value.ownBlock]);refine⟨h.tp.setNew (by simp only;omega) u,h.xt.setNew (by simp only;omega) u,h.r0.grown g3 ?_,h.bx.grown g3 ?_,h.hG,?_,fun z hz=>?_,kp (by decide) h.oB.own,fun z hz=>?_,kp (by decide) h.oX.own⟩
 ·have:=aG h.oP.own h.r0 (by decide);simpa[Value.ownBlock] using this
 ·have:=aG h.oP.own h.bx (by decide);simpa[Value.ownBlock] using this
 ·unfold da;rw[hlen,<-hfl];exact o3
 ·rcases uW hz with hz|rfl
  ·exact kp (by decide) (h.oQ z hz)
  ·rw[h2,h3];exact kp (by decide) (h.oQ _ (xC hk))
 ·exact (h.oR z hz).keep fun he k=>kp (by rcases he with rfl|rfl<;>decide) k
end
theorem aH.dropP{G:Nat}{wx:World}{aP aB aX vP vB vX:Value}{ys:List (je×Value)}{bs:List (List (List Int)×Value)}{xs:List fv}(h:aH p w wx G num aP aB aX vP vB vX ys bs xs):aH p w wx G num aP aB aX (.slice none 0 0) vB vX [] bs xs :=
 ⟨h.tp,h.xt,h.r0,h.bx,h.hG,da.nil,fun y hy=>by simp at hy,h.oB,h.oR,h.oX⟩
def pT(w:World)(base:Nat)(v:Value)(s:dl):Prop:=∃vP vB vX ys bs,v=.agg #[A B s.num,vP,vB,vX]/\da base 64 3 gD w vP ys/\ys.map Prod.fst=s.pap/\(∀y∈ys,dZ base w y.2 y.1.ps) /\
 da base 61 1 CW w vB bs/\bs.map Prod.fst=s.bk/\(∀y∈bs,dn base w y.2 y.1)/\da base 56 3 fv.cells w vX s.xp
structure ma (s:dl):Prop where
 num:-1<=s.num/\s.num<=32
 papn:s.pap.length<=2
 pap:∀q∈s.pap,aU q.code/\aU q.var/\q.ps.length<=6/\(∀r∈q.ps,r.wf)
 bkn:s.bk.length<=3
 bk:∀b∈s.bk,b.length<=12/\∀l∈b,l.length<=24/\∀x∈l,0<=x/\x<24
 xpn:s.xp.length<=5
 xp:∀x∈s.xp,-1<=x.cand/\x.cand<=10000/\0<=x.cen/\x.cen<=100∧-1<=x.var/\x.var<=2
theorem pT.isSit{base:Nat}{s:dl}(h:pT w base v s)(hs:ma s)(hp:p<base):aR p w v s:=by
 obtain⟨vP,vB,vX,ys,bs,rfl,h1,h2,h3,h4,h5,h6,h7⟩:=h;refine⟨vP,vB,vX,rfl,?_,?_,?_,?_⟩
 ·rw[<-h2];refine bj.of_own (e:=64) (ys.map gD) (fun cs hcs=>by obtain⟨y,_,rfl⟩:=zF.1 hcs;rfl) (by decide) (by simp) (by rw[zJ];exact h1.own) hp ?_;intro k cs x hcs hx;simp only[zP,yO]at hcs hx;obtain⟨y,hy,rfl⟩:=hcs;obtain⟨z,hz,rfl⟩:=hx;rw[hy]at hz;injection hz with hz;subst hz
  have hm:=zW hy;have hb:=hs.pap y.1 (by rw[<-h2];exact zF.2 ⟨y,hm,rfl⟩);exact⟨y.2,rfl,(h3 y hm).isQ hp hb.2.2.2,hb.1,hb.2.1⟩
 ·rw[<-h5];refine bj.of_own (e:=61) (bs.map CW) (fun cs hcs=>by obtain⟨y,_,rfl⟩:=zF.1 hcs;rfl) (by decide) (by simp) (by rw[zJ];exact h4.own) hp ?_;intro k cs x hcs hx;simp only[zP,yO]at hcs hx;obtain⟨y,hy,rfl⟩:=hcs;obtain⟨z,hz,rfl⟩:=hx;rw[hy]at hz;injection hz with hz;subst hz
  have hm:=zW hy;have hb:=hs.bk y.1 (by rw[<-h5];exact zF.2 ⟨y,hm,rfl⟩);exact⟨y.2,rfl,(h6 y hm).isP hp (fun l hl x hx=>by have:=(hb.2 l hl).2 x hx;constructor<;>omega) (fun l hl=>by have:=(hb.2 l hl).1;omega)⟩
 ·exact h7.isS hp (by decide) (fun x _=>rfl) fun x hx=>⟨rfl,by have:=hs.xp x hx;unfold fv.wf aU;omega⟩
 ·have:=hs.num;constructor<;>omega
def CK(ys:List (je×Value)):Prop:=ys.length<=2/\∀y∈ys,aU y.1.code/\aU y.1.var/\y.1.ps.length<=6/\(∀r∈y.1.ps,r.wf)
def FI(n:Nat)(bs:List (List (List Int)×Value)):Prop:=bs.length<=n/\∀b∈bs,b.1.length<=12/\∀l∈b.1,l.length<=24/\∀x∈l,0<=x/\x<24
def Kv(n:Nat)(xs:List fv):Prop:=xs.length<=n/\∀x∈xs,-1<=x.cand/\x.cand<=10000/\0<=x.cen/\x.cen<=100∧-1<=x.var/\x.var<=2
theorem kB{ys:List (je×Value)}{bs:List (List (List Int)×Value)}{xs:List fv}(h1:-1<=num/\num<=32)(h2:CK ys)(h3:FI 3 bs)(h4:Kv 5 xs):ma ⟨num,ys.map Prod.fst,bs.map Prod.fst,xs⟩ :=
 ⟨h1,by simpa using h2.1,fun q hq=>by obtain⟨y,hy,rfl⟩:=zF.1 hq;exact h2.2 y hy,by simpa using h3.1,fun b hb=>by obtain⟨y,hy,rfl⟩:=zF.1 hb;exact h3.2 y hy,h4.1,h4.2⟩
theorem aH.fin{G:Nat}{wx:World}{vP vB vX:Value}{ys:List (je×Value)}{bs:List (List (List Int)×Value)}{xs:List fv}(h:aH p w wx G num vP vB vX vP vB vX ys bs xs)(hp:p<w.heap.size)(u0 u1 u2 u3:Value) :
  pT ((((wx.setCell ⟨w.heap.size,0,none⟩ u0).setCell ⟨w.heap.size,1,none⟩ u1).setCell ⟨w.heap.size,2,none⟩ u2).setCell ⟨w.heap.size,3,none⟩ u3) w.heap.size (.agg #[A B num,vP,vB,vX]) ⟨num,ys.map Prod.fst,bs.map Prod.fst,xs⟩ /\
  bz ((((wx.setCell ⟨w.heap.size,0,none⟩ u0).setCell ⟨w.heap.size,1,none⟩ u1).setCell ⟨w.heap.size,2,none⟩ u2).setCell ⟨w.heap.size,3,none⟩ u3) p /\
  XT p w ((((wx.setCell ⟨w.heap.size,0,none⟩ u0).setCell ⟨w.heap.size,1,none⟩ u1).setCell ⟨w.heap.size,2,none⟩ u2).setCell ⟨w.heap.size,3,none⟩ u3):=by
 have hf:∀{e s n:Nat} {v:Value} {x:List Value},e≠29->wx.ownsRow w.heap.size e s v n x->((((wx.setCell ⟨w.heap.size,0,none⟩ u0).setCell ⟨w.heap.size,1,none⟩ u1).setCell ⟨w.heap.size,2,none⟩ u2).setCell ⟨w.heap.size,3,none⟩ u3).ownsRow w.heap.size e s v n x:=fun hne hr=>by have ha:=aG (b:=w.heap.size) hr h.r0 (Ne.symm hne);exact aN (a:=⟨w.heap.size,3,none⟩) (aN (a:=⟨w.heap.size,2,none⟩) (aN (a:=⟨w.heap.size,1,none⟩) (aN (a:=⟨w.heap.size,0,none⟩) hr ha u0) ha u1) ha u2) ha u3
 refine⟨⟨vP,vB,vX,ys,bs,rfl,hf (by decide) h.oP.own,rfl,fun y hy=>hf (by decide) (h.oQ y hy),hf (by decide) h.oB.own,rfl,fun y hy=>(h.oR y hy).keep fun he k=>hf (by rcases he with rfl|rfl<;>decide) k,hf (by decide) h.oX.own⟩,(((h.tp.setNew hp _).setNew hp _).setNew hp _).setNew hp _,((((h.xt.setNew (zX _) _).setNew (zX _) _).setNew (zX _) _).setNew (zX _) _)⟩
section
variable {P:Program} {ops:Array Oper} {Q:Exit->Act->World->Prop} {md:Region.Mode} {S:World->Prop} {k:Nat}
def cM(P:Program)(md:Region.Mode)(ops:Array Oper)(Q:Exit->Act->World->Prop)(S:World->Prop)(k:Nat):Nat->Array Bool->Act->World->Prop
 |0,listed,a,w=>Region.ready md ops listed=[]/\Q .normal a w
 |fuel+1,listed,a,w =>
  (Region.ready md ops listed=[]->Q .normal a w) /\
  ∀i∈Region.ready md ops listed,wpOp P ops Q i (fun a' w'=>(i≠k->S w')/\cM P md ops Q S k fuel (listed.setIfInBounds i true) a' w') a w
theorem rJ:∀(fuel:Nat) (listed:Array Bool) (a:Act) (w:World),cM P md ops Q S k fuel listed a w->wpAny P md ops Q fuel listed a w
 |0,_,_,_,h=>h
 |fuel+1,_,_,_,h=>⟨h.1,fun i hi=>wpOp_mono (fun a' w' h'=>rJ fuel _ a' w' h'.2) (h.2 i hi)⟩
theorem nZ{oi:Oper}(hi:ops[i]?=some oi)(hsel:∀(j:Nat) (o:Oper) cs b,ops[j]?=some o->o.op≠.select cs b)(hQ:∀c a w,Q (.panic c) (a.put oi.dst v) w->Q (.panic c) a w)(hik:i≠k)(hkw:∀ok,ops[k]?=some ok->∃e∈ok.after,Region.binds md e=true/\e.on=i) :
  ∀(fuel:Nat) (listed:Array Bool) (a:Act) (w:World),
   (∀j oj,ops[j]?=some oj->j≠i->listed.getD j true=false->(∀e∈oj.after,Region.binds md e=true->e.on≠i)->oi.apart ops oj=true) ->
   i∈Region.ready md ops listed->YieldsIf P ops S oi v a->S w ->
   cM P md ops Q S k fuel (listed.setIfInBounds i true) (a.put oi.dst v) w->cM P md ops Q S k (fuel+1) listed a w:=by
 intro fuel;induction fuel with
 |zero =>
  intro listed a w _ hr hy hS H;refine⟨fun h=>(by rw[h]at hr;cases hr),fun j hj=>?_⟩;by_cases hji:j=i
  ·subst hji;exact hy.wpOp hi hS ⟨fun _=>hS,H⟩
  ·have:=ready_mono hj hji;rw[H.1]at this;cases this
 |succ fuel ih =>
  intro listed a w hfree hr hy hS H;refine⟨fun h=>(by rw[h]at hr;cases hr),fun j hj=>?_⟩;by_cases hji:j=i
  ·subst hji;exact hy.wpOp hi hS ⟨fun _=>hS,H⟩
  ·have h1:=H.2 j (ready_mono hj hji);obtain⟨hjun,oj,hoj,hall⟩:=mem_ready.1 hj;have hnot:∀e∈oj.after,Region.binds md e=true->e.on≠i:=fun e he hb heq=>by
    have h1:=hall e he hb;have h0:=(mem_ready.1 hr).1;rw[heq]at h1;rcases zU i listed.size with h'|h'
    ·simp[h']at h0 h1;rw[h0]at h1;cases h1
    ·simp[wY h']at h1
   have hjk:j≠k:=fun e=>by subst e;obtain⟨x,hx,hb,ho⟩:=hkw oj hoj;exact hnot x hx hb ho
   have h2:=wpOp_putIf hoj (hfree j oj hoj hji hjun hnot) (fun cs b=>hsel i oi cs b hi) (fun cs b=>hsel j oj cs b hoj) hQ hy h1;have hfree':∀m om,ops[m]?=some om->m≠i->(listed.setIfInBounds j true).getD m true=false ->
     (∀e∈om.after,Region.binds md e=true->e.on≠i)->oi.apart ops om=true:=fun m om hm hmi hun hno=>by
    refine hfree m om hm hmi ?_ hno;by_cases hjm:j=m
    ·subst hjm;exact hjun
    ·rw[getD_set_ne true hjm]at hun;exact hun
   refine wpOp_mono (fun a' w' h3=>⟨h3.2.1,ih (listed.setIfInBounds j true) a' w' hfree' (ready_mono hr (Ne.symm hji)) h3.1 (h3.2.1 hjk) ?_⟩) h2;rw[Array.setIfInBounds_comm _ _ hji];exact h3.2.2
def rU(md:Region.Mode)(ops:Array Oper)(k i:Nat):Bool:=match ops[k]? with|some o=>o.after.toList.any fun e=>Region.binds md e&&e.on==i|none=>true
theorem jP(h:rU md ops k i=true):∀ok,ops[k]?=some ok->∃e∈ok.after,Region.binds md e=true/\e.on=i:=by intro ok hk;unfold rU at h;rw[hk]at h;simp only[wZ,yT,beq_iff_eq]at h;obtain⟨e,he,hb,ho⟩:=h;exact⟨e,by simpa using he,hb,ho⟩
theorem Cw(i:Nat){o:Oper}{a:Act}{w:World}(hr:Region.ready md ops listed=[i])(ho:ops[i]?=some o)(h:∀K':Act->World->Prop,Shut (∀a w,(i≠k->S w)->cM P md ops Q S k fuel (listed.setIfInBounds i true) a w->K' a w)->if Region.wanted o (yielded ops a.tmps)=true then Oper.wp P o a w K' Q else K' (a.put o.dst undef) w) :
  cM P md ops Q S k (fuel+1) listed a w:=by
 refine⟨fun h0=>(by rw[hr]at h0;cases h0),fun j hj=>?_⟩;rw[hr]at hj;obtain rfl:j=i:=by simpa using hj
 exact wpOp_step ho (fun K' hK=>h K' (fun a w hS hW=>hK a w ⟨hS,hW⟩))
theorem zcw{listed:Array Bool}{a:Act}{w:World}(hr:Region.ready md ops listed=[])(h:Q .normal a w) :
  ∀fuel,cM P md ops Q S k fuel listed a w
 |0=>⟨hr,h⟩
 |_+1=>⟨fun _=>h,by rw[hr];simp⟩
theorem px(k:Nat)(S:World->Prop)(hm:P.follows .mixedOrders=true)(h:cM P .any ops Q S k ops.size (Array.replicate ops.size false) a w.drew):(Code.region id ops true).wp P Q a w :=
 wp_region_any hm (rJ _ _ _ _ h)
theorem kA:(∀{a:Act} {d:Tmp} {v:Value},a.put (some d) v=⟨a.tmps.setIfInBounds d v,a.defers⟩)/\(∀{a:Act} {v:Value},a.put none v=a)/\(∀{α:Type} {l:List α} {i:Nat} {a:α},l.toArray.setIfInBounds i a=(l.set i a).toArray)/\(∀{α:Type} {x a:α} {l:List α},(x::l).set 0 a=a::l)/\(∀{α:Type} {x a:α} {l:List α} {n:Nat},(x::l).set (n+1) a=x::l.set n a) :=
 ⟨rfl,rfl,List.setIfInBounds_toArray ..,M5 ..,List.set_cons_succ ..⟩
def DA(md:Region.Mode)(ops:Array Oper)(k:Nat):Array Bool->List (Nat×Nat)->Bool
 |_,[]=>true
 |listed,x::r=>(match ops[x.1]? with|some o=>o.dst==some x.2|none=>false)&&Region.free md ops listed x.1&&(Region.ready md ops listed).contains x.1&&(x.1 != k)&&rU md ops k x.1&&DA md ops k (listed.setIfInBounds x.1 true) r
def vm:Array Bool->List (Nat×Nat)->Array Bool
 |l,[]=>l
 |l,x::r=>vm (l.setIfInBounds x.1 true) r
def m5(P:Program)(ops:Array Oper)(S:World->Prop)(Fin:Act->Prop):List (Nat×Nat)->Act->Prop
 |[],a=>Fin a
 |x::r,a=>∃o,ops[x.1]?=some o/\((Region.wanted o (yielded ops a.tmps)=true/\∃v,(∀w,S w->(execOp a.eval o).run P w=.ok (.value v) w)/\m5 P ops S Fin r (a.put (some x.2) v)) \/
   (Region.wanted o (yielded ops a.tmps)=false/\m5 P ops S Fin r (a.put (some x.2) undef)))
section
variable {Fin:Act->Prop} {r:List (Nat×Nat)} {a a':Act} {i d:Nat} {o:Oper} {v:Value}
theorem Ff(ho:ops[i]?=some o)(hw:Region.wanted o (yielded ops a.tmps)=true)(hy:∀w,S w->(execOp a.eval o).run P w=.ok (.value v) w)(hput:a.put (some d) v=a')(h:m5 P ops S Fin r a'):m5 P ops S Fin ((i,d)::r) a :=
 ⟨o,ho,.inl ⟨hw,v,hy,by rw[hput];exact h⟩⟩
theorem Eo(ho:ops[i]?=some o)(hw:Region.wanted o (yielded ops a.tmps)=false)(hput:a.put (some d) undef=a')(h:m5 P ops S Fin r a'):m5 P ops S Fin ((i,d)::r) a :=
 ⟨o,ho,.inr ⟨hw,by rw[hput];exact h⟩⟩
theorem Lh(h:Fin a):m5 P ops S Fin [] a:=h
theorem zT(h:m5 P ops S Fin r a')(how:ops[i]?=some o/\Region.wanted o (yielded ops a.tmps)=true:=by exact⟨rfl,rfl⟩)(y:∀w,S w->(execOp a.eval o).run P w=.ok (.value v) w:=by intro _ _;go_simp;try with_reducible rfl)(hput:a.put (some d) v=a':=by simp only[kA];exact rfl):m5 P ops S Fin ((i,d)::r) a:=Ff how.1 how.2 y hput h
theorem zK(how:ops[i]?=some o/\Region.wanted o (yielded ops a.tmps)=false)(hput:a.put (some d) undef=a')(h:m5 P ops S Fin r a'):m5 P ops S Fin ((i,d)::r) a:=Eo how.1 how.2 hput h
theorem zN(h:Fin a):m5 P ops S Fin [] a:=h
end
theorem ur(n:Nat)(idx:List (Nat×Nat)){a:Act}(hn:idx.length=n)(hok:DA md ops k listed idx=true)(hs:Region.noSelect ops=true)(hQ:∀c a (d:Tmp) v w,Q (.panic c) (a.put (some d) v) w->Q (.panic c) a w)(hS:S w)(h:m5 P ops S (fun a=>cM P md ops Q S k fuel (vm listed idx) a w) idx a):cM P md ops Q S k (fuel+n) listed a w:=by
 subst hn;induction idx generalizing listed a with
 |nil=>exact h
 |cons x r ih =>
  simp only[DA,yT]at hok;obtain⟨⟨⟨⟨⟨h1,h2⟩,h3⟩,h4⟩,h5⟩,h6⟩:=hok;obtain⟨o,ho,h⟩:=h;rw[ho]at h1;have hd:o.dst=some x.2:=by simpa using h1
  have h4':x.1≠k:=by simpa using h4
  rcases h with ⟨hw,v,hy,h⟩|⟨hw,h⟩
  ·rw[<-hd]at h;exact nZ ho (uE hs) (fun c a w hq=>hQ c a x.2 _ w (hd▸hq)) h4' (jP h5) (fuel+r.length) listed a w (Region.free_spec ho h2) (by simpa using h3) (.inl ⟨hw,hy⟩) hS (ih h6 h)
  ·rw[<-hd]at h;exact nZ ho (uE hs) (fun c a w hq=>hQ c a x.2 _ w (hd▸hq)) h4' (jP h5) (fuel+r.length) listed a w (Region.free_spec ho h2) (by simpa using h3) (.inr ⟨hw,rfl⟩) hS (ih h6 h)
theorem zS(n:Nat)(idx:List (Nat×Nat)){a:Act}(hS:S w)(h:m5 P ops S (fun a=>cM P md ops Q S k fuel (vm listed idx) a w) idx a)(hn:idx.length=n:=by exact rfl)(hok:DA md ops k listed idx=true:=by kernel_rfl)(hs:Region.noSelect ops=true:=by kernel_rfl)(hQ:∀c a (d:Tmp) v w,Q (.panic c) (a.put (some d) v) w->Q (.panic c) a w:=by exact fun _ _ _ _ _ h=>h) :
  cM P md ops Q S k (fuel+n) listed a w:=ur n idx hn hok hs hQ hS h
theorem zO(i:Nat){o:Oper}{a:Act}{w:World}(h:∀K':Act->World->Prop,Shut (∀a w,(i≠k->S w)->cM P md ops Q S k fuel (listed.setIfInBounds i true) a w->K' a w)->if Region.wanted o (yielded ops a.tmps)=true then Oper.wp P o a w K' Q else K' (a.put o.dst undef) w)(hr:Region.ready md ops listed=[i]:=by kernel_rfl)(ho:ops[i]?=some o:=by exact rfl):cM P md ops Q S k (fuel+1) listed a w:=Cw i hr ho h
theorem zD(h:Q .normal a w)(hr:Region.ready md ops listed=[]:=by kernel_rfl):cM P md ops Q S k fuel listed a w:=zcw hr h fuel
theorem zR(k:Nat)(S:World->Prop)(h:cM P .any ops Q S k ops.size (Array.replicate ops.size false) a w.drew)(hm:P.follows .mixedOrders=true:=by kernel_rfl):(Code.region id ops true).wp P Q a w :=
 px k S hm h
end
theorem zQ{P:Program}{ops:Array Oper}{Q:Exit->Act->World->Prop}(k:Nat)(h:∀wd,ab w wd->cM P .any ops Q (fun w'=>ab w w') k ops.size (Array.replicate ops.size false) a wd)(hm:P.follows .mixedOrders=true:=by kernel_rfl):(Code.region id ops true).wp P Q a w :=
 px k _ hm (h _ (zE _).drew)
section
variable {P:Program} {ops:Array Oper} {Q:Exit->Act->World->Prop} {md:Region.Mode} {S:World->Prop} {k:Nat}
def fM(P:Program)(md:Region.Mode)(ops:Array Oper)(Q:Exit->Act->World->Prop)(S:World->Prop)(k:Nat):Nat->Array Bool->Act->World->Prop
 |0,listed,a,w=>Region.ready md ops listed=[]/\Q .normal a w
 |fuel+1,listed,a,w =>
  (Region.ready md ops listed=[]->Q .normal a w) /\
  ∀i∈Region.ready md ops listed,wpOp P ops Q i (fun a' w'=>((listed.setIfInBounds i true).getD k false=false->S w')/\fM P md ops Q S k fuel (listed.setIfInBounds i true) a' w') a w
theorem qU:∀(fuel:Nat) (listed:Array Bool) (a:Act) (w:World),fM P md ops Q S k fuel listed a w->wpAny P md ops Q fuel listed a w
 |0,_,_,_,h=>h
 |fuel+1,_,_,_,h=>⟨h.1,fun i hi=>wpOp_mono (fun a' w' h'=>qU fuel _ a' w' h'.2) (h.2 i hi)⟩
theorem bO{j:Nat}(h:j≠k):(listed.setIfInBounds j true).getD k false=listed.getD k false:=by simp[vV,h]
theorem jc{j:Nat}(h:(listed.setIfInBounds j true).getD k false=false):listed.getD k false=false:=by
 by_cases e:j=k
 ·subst e;rcases zU j listed.size with h'|h'
  ·simp[h']at h
  ·simp[wY h']
 ·rw[bO e]at h;exact h
theorem sl{oi:Oper}(hi:ops[i]?=some oi)(hsel:∀(j:Nat) (o:Oper) cs b,ops[j]?=some o->o.op≠.select cs b)(hQ:∀c a w,Q (.panic c) (a.put oi.dst v) w->Q (.panic c) a w)(hik:i≠k)(hkw:∀ok,ops[k]?=some ok->∃e∈ok.after,Region.binds md e=true/\e.on=i) :
  ∀(fuel:Nat) (listed:Array Bool) (a:Act) (w:World),
   (∀j oj,ops[j]?=some oj->j≠i->listed.getD j true=false->(∀e∈oj.after,Region.binds md e=true->e.on≠i)->oi.apart ops oj=true) ->
   i∈Region.ready md ops listed->YieldsIf P ops S oi v a->listed.getD k false=false->(listed.getD k false=false->S w) ->
   fM P md ops Q S k fuel (listed.setIfInBounds i true) (a.put oi.dst v) w->fM P md ops Q S k (fuel+1) listed a w:=by
 intro fuel;induction fuel with
 |zero =>
  intro listed a w _ hr hy hu hS H;refine⟨fun h=>(by rw[h]at hr;cases hr),fun j hj=>?_⟩;by_cases hji:j=i
  ·subst hji;exact hy.wpOp hi (hS hu) ⟨fun h=>hS (jc h),H⟩
  ·have:=ready_mono hj hji;rw[H.1]at this;cases this
 |succ fuel ih =>
  intro listed a w hfree hr hy hu hS H;refine⟨fun h=>(by rw[h]at hr;cases hr),fun j hj=>?_⟩;by_cases hji:j=i
  ·subst hji;exact hy.wpOp hi (hS hu) ⟨fun h=>hS (jc h),H⟩
  ·have hh:=H.2 j (ready_mono hj hji);obtain⟨hjun,oj,hoj,hall⟩:=mem_ready.1 hj;have hnot:∀e∈oj.after,Region.binds md e=true->e.on≠i:=fun e he hb heq=>by
    have h1:=hall e he hb;have h0:=(mem_ready.1 hr).1;rw[heq]at h1;rcases zU i listed.size with h'|h'
    ·simp[h']at h0 h1;rw[h0]at h1;cases h1
    ·simp[wY h']at h1
   have hjk:j≠k:=fun e=>by subst e;obtain⟨x,hx,hb,ho⟩:=hkw oj hoj;exact hnot x hx hb ho
   have h2:=wpOp_putIf hoj (hfree j oj hoj hji hjun hnot) (fun cs b=>hsel i oi cs b hi) (fun cs b=>hsel j oj cs b hoj) hQ hy hh;have hfree':∀m om,ops[m]?=some om->m≠i->(listed.setIfInBounds j true).getD m true=false ->
     (∀e∈om.after,Region.binds md e=true->e.on≠i)->oi.apart ops om=true:=fun m om hm hmi hun hno=>by
    refine hfree m om hm hmi ?_ hno;by_cases hjm:j=m
    ·subst hjm;exact hjun
    ·rw[getD_set_ne true hjm]at hun;exact hun
   have hcomm:∀l:Array Bool,(l.setIfInBounds i true).setIfInBounds j true=(l.setIfInBounds j true).setIfInBounds i true:=fun l=>Array.setIfInBounds_comm _ _ (Ne.symm hji);refine wpOp_mono (fun a' w' h3=>⟨fun h=>h3.2.1 ?_,ih (listed.setIfInBounds j true) a' w' hfree' (ready_mono hr (Ne.symm hji)) h3.1 (by rw[bO hjk];exact hu) (fun h=>h3.2.1 ?_) ?_⟩) h2
   ·rw[<-hcomm];exact h3.2.2
   ·rw[hcomm];exact (bO hik).trans h
   ·rw[hcomm];exact (bO hik).trans h
theorem sn{oi:Oper}(hi:ops[i]?=some oi)(hsel:∀(j:Nat) (o:Oper) cs b,ops[j]?=some o->o.op≠.select cs b)(hQ:∀c a w,Q (.panic c) (a.put oi.dst v) w->Q (.panic c) a w)(hik:i≠k) :
  ∀(fuel:Nat) (listed:Array Bool) (a:Act) (w:World),
   (∀j oj,ops[j]?=some oj->j≠i->listed.getD j true=false->(∀e∈oj.after,Region.binds md e=true->e.on≠i)->oi.apart ops oj=true) ->
   i∈Region.ready md ops listed->YieldsIf P ops (fun _=>True) oi v a->(listed.getD k false=false->S w) ->
   fM P md ops Q S k fuel (listed.setIfInBounds i true) (a.put oi.dst v) w->fM P md ops Q S k (fuel+1) listed a w:=by
 intro fuel;induction fuel with
 |zero =>
  intro listed a w _ hr hy hS H;refine⟨fun h=>(by rw[h]at hr;cases hr),fun j hj=>?_⟩;by_cases hji:j=i
  ·subst hji;exact hy.wpOp hi trivial ⟨fun h=>hS (jc h),H⟩
  ·have:=ready_mono hj hji;rw[H.1]at this;cases this
 |succ fuel ih =>
  intro listed a w hfree hr hy hS H;refine⟨fun h=>(by rw[h]at hr;cases hr),fun j hj=>?_⟩;by_cases hji:j=i
  ·subst hji;exact hy.wpOp hi trivial ⟨fun h=>hS (jc h),H⟩
  ·have hh:=H.2 j (ready_mono hj hji);obtain⟨hjun,oj,hoj,hall⟩:=mem_ready.1 hj;have hnot:∀e∈oj.after,Region.binds md e=true->e.on≠i:=fun e he hb heq=>by
    have h1:=hall e he hb;have h0:=(mem_ready.1 hr).1;rw[heq]at h1;rcases zU i listed.size with h'|h'
    ·simp[h']at h0 h1;rw[h0]at h1;cases h1
    ·simp[wY h']at h1
   have h2:=wpOp_putIf hoj (hfree j oj hoj hji hjun hnot) (fun cs b=>hsel i oi cs b hi) (fun cs b=>hsel j oj cs b hoj) hQ hy hh;have hfree':∀m om,ops[m]?=some om->m≠i->(listed.setIfInBounds j true).getD m true=false ->
     (∀e∈om.after,Region.binds md e=true->e.on≠i)->oi.apart ops om=true:=fun m om hm hmi hun hno=>by
    refine hfree m om hm hmi ?_ hno;by_cases hjm:j=m
    ·subst hjm;exact hjun
    ·rw[getD_set_ne true hjm]at hun;exact hun
   have hcomm:∀l:Array Bool,(l.setIfInBounds i true).setIfInBounds j true=(l.setIfInBounds j true).setIfInBounds i true:=fun l=>Array.setIfInBounds_comm _ _ (Ne.symm hji);refine wpOp_mono (fun a' w' h3=>⟨fun h=>h3.2.1 ?_,ih (listed.setIfInBounds j true) a' w' hfree' (ready_mono hr (Ne.symm hji)) h3.1 (fun h=>h3.2.1 ?_) ?_⟩) h2
   ·rw[<-hcomm];exact h3.2.2
   ·rw[hcomm];exact (bO hik).trans h
   ·rw[hcomm];exact (bO hik).trans h
theorem pz(i:Nat)(d:Option Tmp){oi:Oper}{a:Act}{w:World}(hi:ops[i]?=some oi)(hd:oi.dst=d)(hs:Region.noSelect ops=true)(hf:Region.free md ops listed i=true)(hr:(Region.ready md ops listed).contains i=true)(hik:i≠k)(hkw:rU md ops k i=true)(hu:listed.getD k false=false)(hQ:∀c a w,Q (.panic c) (a.put d v) w->Q (.panic c) a w)(hw:Region.wanted oi (yielded ops a.tmps)=true)(hy:∀w,S w->(execOp a.eval oi).run P w=.ok (.value v) w)(hS:S w)(h:fM P md ops Q S k fuel (listed.setIfInBounds i true) (a.put d v) w):fM P md ops Q S k (fuel+1) listed a w:=by
 subst hd;exact sl hi (uE hs) hQ hik (jP hkw) fuel listed a w (Region.free_spec hi hf) (by simpa using hr) (.inl ⟨hw,hy⟩) hu (fun _=>hS) h
theorem bD(i:Nat)(d:Option Tmp){oi:Oper}{a:Act}{w:World}(hi:ops[i]?=some oi)(hd:oi.dst=d)(hs:Region.noSelect ops=true)(hf:Region.free md ops listed i=true)(hr:(Region.ready md ops listed).contains i=true)(hik:i≠k)(hQ:∀c a w,Q (.panic c) (a.put d v) w->Q (.panic c) a w)(hw:Region.wanted oi (yielded ops a.tmps)=true)(hy:∀w,(execOp a.eval oi).run P w=.ok (.value v) w)(hS:listed.getD k false=false->S w)(h:fM P md ops Q S k fuel (listed.setIfInBounds i true) (a.put d v) w):fM P md ops Q S k (fuel+1) listed a w:=by
 subst hd;exact sn hi (uE hs) hQ hik fuel listed a w (Region.free_spec hi hf) (by simpa using hr) (.inl ⟨hw,fun w _=>hy w⟩) hS h
theorem qQ(i:Nat){o:Oper}{a:Act}{w:World}(hr:Region.ready md ops listed=[i])(ho:ops[i]?=some o)(h:∀K':Act->World->Prop,Shut (∀a w,((listed.setIfInBounds i true).getD k false=false->S w)->fM P md ops Q S k fuel (listed.setIfInBounds i true) a w->K' a w)->if Region.wanted o (yielded ops a.tmps)=true then Oper.wp P o a w K' Q else K' (a.put o.dst undef) w) :
  fM P md ops Q S k (fuel+1) listed a w:=by
 refine⟨fun h0=>(by rw[hr]at h0;cases h0),fun j hj=>?_⟩;rw[hr]at hj;obtain rfl:j=i:=by simpa using hj
 exact wpOp_step ho (fun K' hK=>h K' (fun a w hS hW=>hK a w ⟨hS,hW⟩))
theorem AD{listed:Array Bool}{a:Act}{w:World}(hr:Region.ready md ops listed=[])(h:Q .normal a w) :
  ∀fuel,fM P md ops Q S k fuel listed a w
 |0=>⟨hr,h⟩
 |_+1=>⟨fun _=>h,by rw[hr];simp⟩
theorem Bn(k:Nat)(S:World->Prop)(hm:P.follows .mixedOrders=true)(h:fM P .any ops Q S k ops.size (Array.replicate ops.size false) a w.drew):(Code.region id ops true).wp P Q a w :=
 wp_region_any hm (qU _ _ _ _ h)
theorem fh{b:Bool}{X:Prop}(h:b=true):b=false->X:=fun h'=>by rw[h]at h';cases h'
end
section
variable {P:Program} {ops:Array Oper} {Q:Exit->Act->World->Prop} {md:Region.Mode} {SS:Array Bool->World->Prop}
def fO(P:Program)(md:Region.Mode)(ops:Array Oper)(Q:Exit->Act->World->Prop)(SS:Array Bool->World->Prop):Nat->Array Bool->Act->World->Prop
 |0,listed,a,w=>Region.ready md ops listed=[]/\Q .normal a w
 |fuel+1,listed,a,w =>
  (Region.ready md ops listed=[]->Q .normal a w) /\
  ∀i∈Region.ready md ops listed,wpOp P ops Q i (fun a' w'=>SS (listed.setIfInBounds i true) w'/\fO P md ops Q SS fuel (listed.setIfInBounds i true) a' w') a w
theorem rF:∀(fuel:Nat) (listed:Array Bool) (a:Act) (w:World),fO P md ops Q SS fuel listed a w->wpAny P md ops Q fuel listed a w
 |0,_,_,_,h=>h
 |fuel+1,_,_,_,h=>⟨h.1,fun i hi=>wpOp_mono (fun a' w' h'=>rF fuel _ a' w' h'.2) (h.2 i hi)⟩
theorem vw{kk:Nat}{oi:Oper}{U:World->Prop}(hi:ops[i]?=some oi)(hsel:∀(j:Nat) (o:Oper) cs b,ops[j]?=some o->o.op≠.select cs b)(hQ:∀c a w,Q (.panic c) (a.put oi.dst v) w->Q (.panic c) a w)(hkw:∀ok,ops[kk]?=some ok->∃e∈ok.after,Region.binds md e=true/\e.on=i)(hU:∀l w,l.getD kk false=false->SS l w->U w)(hp:∀l w,SS (l.setIfInBounds i true) w↔SS l w) :
  ∀(fuel:Nat) (listed:Array Bool) (a:Act) (w:World),
   (∀j oj,ops[j]?=some oj->j≠i->listed.getD j true=false->(∀e∈oj.after,Region.binds md e=true->e.on≠i)->oi.apart ops oj=true) ->
   i∈Region.ready md ops listed->YieldsIf P ops U oi v a->listed.getD kk false=false->SS listed w ->
   fO P md ops Q SS fuel (listed.setIfInBounds i true) (a.put oi.dst v) w->fO P md ops Q SS (fuel+1) listed a w:=by
 intro fuel;induction fuel with
 |zero =>
  intro listed a w _ hr hy hu hS H;refine⟨fun h=>(by rw[h]at hr;cases hr),fun j hj=>?_⟩;by_cases hji:j=i
  ·subst hji;exact hy.wpOp hi (hU _ _ hu hS) ⟨(hp _ _).2 hS,H⟩
  ·have:=ready_mono hj hji;rw[H.1]at this;cases this
 |succ fuel ih =>
  intro listed a w hfree hr hy hu hS H;refine⟨fun h=>(by rw[h]at hr;cases hr),fun j hj=>?_⟩;by_cases hji:j=i
  ·subst hji;exact hy.wpOp hi (hU _ _ hu hS) ⟨(hp _ _).2 hS,H⟩
  ·have hh:=H.2 j (ready_mono hj hji);obtain⟨hjun,oj,hoj,hall⟩:=mem_ready.1 hj;have hnot:∀e∈oj.after,Region.binds md e=true->e.on≠i:=fun e he hb heq=>by
    have h1:=hall e he hb;have h0:=(mem_ready.1 hr).1;rw[heq]at h1;rcases zU i listed.size with h'|h'
    ·simp[h']at h0 h1;rw[h0]at h1;cases h1
    ·simp[wY h']at h1
   have hjk:j≠kk:=fun e=>by subst e;obtain⟨x,hx,hb,ho⟩:=hkw oj hoj;exact hnot x hx hb ho
   have h2:=wpOp_putIf hoj (hfree j oj hoj hji hjun hnot) (fun cs b=>hsel i oi cs b hi) (fun cs b=>hsel j oj cs b hoj) hQ hy hh;have hfree':∀m om,ops[m]?=some om->m≠i->(listed.setIfInBounds j true).getD m true=false ->
     (∀e∈om.after,Region.binds md e=true->e.on≠i)->oi.apart ops om=true:=fun m om hm hmi hun hno=>by
    refine hfree m om hm hmi ?_ hno;by_cases hjm:j=m
    ·subst hjm;exact hjun
    ·rw[getD_set_ne true hjm]at hun;exact hun
   have hcomm:∀l:Array Bool,(l.setIfInBounds i true).setIfInBounds j true=(l.setIfInBounds j true).setIfInBounds i true:=fun l=>Array.setIfInBounds_comm _ _ (Ne.symm hji);refine wpOp_mono (fun a' w' h3=>?_) h2;obtain⟨h4,h5,h6⟩:_/\SS ((listed.setIfInBounds i true).setIfInBounds j true) w'/\fO P md ops Q SS fuel ((listed.setIfInBounds i true).setIfInBounds j true) (a'.put oi.dst v) w':=⟨h3.1,h3.2.1,h3.2.2⟩
   rw[hcomm]at h5 h6;have h7:=(hp _ _).1 h5;exact⟨h7,ih (listed.setIfInBounds j true) a' w' hfree' (ready_mono hr (Ne.symm hji)) h4 (by rw[bO hjk];exact hu) h7 h6⟩
theorem bT(U:World->Prop)(kk i:Nat)(d:Option Tmp){oi:Oper}{a:Act}{w:World}(hi:ops[i]?=some oi)(hd:oi.dst=d)(hs:Region.noSelect ops=true)(hf:Region.free md ops listed i=true)(hr:(Region.ready md ops listed).contains i=true)(hkw:rU md ops kk i=true)(hu:listed.getD kk false=false)(hQ:∀c a w,Q (.panic c) (a.put d v) w->Q (.panic c) a w)(hw:Region.wanted oi (yielded ops a.tmps)=true)(hU:∀l w,l.getD kk false=false->SS l w->U w)(hp:∀l w,SS (l.setIfInBounds i true) w↔SS l w)(hy:∀w,U w->(execOp a.eval oi).run P w=.ok (.value v) w)(hS:SS listed w)(h:fO P md ops Q SS fuel (listed.setIfInBounds i true) (a.put d v) w):fO P md ops Q SS (fuel+1) listed a w:=by
 subst hd;exact vw hi (uE hs) hQ (jP hkw) hU hp fuel listed a w (Region.free_spec hi hf) (by simpa using hr) (.inl ⟨hw,hy⟩) hu hS h
theorem cn(i:Nat){o:Oper}{a:Act}{w:World}(hr:Region.ready md ops listed=[i])(ho:ops[i]?=some o)(h:∀K':Act->World->Prop,Shut (∀a w,SS (listed.setIfInBounds i true) w->fO P md ops Q SS fuel (listed.setIfInBounds i true) a w->K' a w)->if Region.wanted o (yielded ops a.tmps)=true then Oper.wp P o a w K' Q else K' (a.put o.dst undef) w) :
  fO P md ops Q SS (fuel+1) listed a w:=by
 refine⟨fun h0=>(by rw[hr]at h0;cases h0),fun j hj=>?_⟩;rw[hr]at hj;obtain rfl:j=i:=by simpa using hj
 exact wpOp_step ho (fun K' hK=>h K' (fun a w hS hW=>hK a w ⟨hS,hW⟩))
theorem qD(i j:Nat){o o':Oper}{a:Act}{w:World}(hr:Region.ready md ops listed=[i,j])(ho:ops[i]?=some o)(ho':ops[j]?=some o')(h:∀K':Act->World->Prop,Shut (∀a w,SS (listed.setIfInBounds i true) w->fO P md ops Q SS fuel (listed.setIfInBounds i true) a w->K' a w)->if Region.wanted o (yielded ops a.tmps)=true then Oper.wp P o a w K' Q else K' (a.put o.dst undef) w)(h':∀K':Act->World->Prop,Shut (∀a w,SS (listed.setIfInBounds j true) w->fO P md ops Q SS fuel (listed.setIfInBounds j true) a w->K' a w)->if Region.wanted o' (yielded ops a.tmps)=true then Oper.wp P o' a w K' Q else K' (a.put o'.dst undef) w) :
  fO P md ops Q SS (fuel+1) listed a w:=by
 refine⟨fun h0=>(by rw[hr]at h0;cases h0),fun m hm=>?_⟩;rw[hr]at hm;rcases yM.1 hm with rfl|hm
 ·exact wpOp_step ho (fun K' hK=>h K' (fun a w hS hW=>hK a w ⟨hS,hW⟩))
 ·obtain rfl:m=j:=by simpa using hm
  exact wpOp_step ho' (fun K' hK=>h' K' (fun a w hS hW=>hK a w ⟨hS,hW⟩))
theorem kN{listed:Array Bool}{a:Act}{w:World}(hr:Region.ready md ops listed=[])(h:Q .normal a w) :
  ∀fuel,fO P md ops Q SS fuel listed a w
 |0=>⟨hr,h⟩
 |_+1=>⟨fun _=>h,by rw[hr];simp⟩
theorem Ca(SS:Array Bool->World->Prop)(hm:P.follows .mixedOrders=true)(h:fO P .any ops Q SS ops.size (Array.replicate ops.size false) a w.drew):(Code.region id ops true).wp P Q a w :=
 wp_region_any hm (rF _ _ _ _ h)
def xw(k:Nat)(S:World->Prop)(m:Nat)(T:World->Prop)(l:Array Bool)(w:World):Prop:=(l.getD k false=false->S w)/\(l.getD m false=false->T w)
theorem xw.put{m:Nat}{S T:World->Prop}(hk:i≠k)(hm:i≠m)(l:Array Bool)(w:World):xw k S m T (l.setIfInBounds i true) w↔xw k S m T l w:=by unfold xw;rw[bO hk,bO hm]
end
theorem zkc2{w w':World}{a0 a1:Addr}{u0 u1:Value}(h:ab w w')(e0:w.cell? a0=some u0)(e1:w.cell? a1=some u1):w'.cell? a0=some u0/\w'.cell? a1=some u1:=⟨h.cell e0,h.cell e1⟩
theorem zkc3{w w':World}{a0 a1 a2:Addr}{u0 u1 u2:Value}(h:ab w w')(e0:w.cell? a0=some u0)(e1:w.cell? a1=some u1)(e2:w.cell? a2=some u2):w'.cell? a0=some u0/\w'.cell? a1=some u1/\w'.cell? a2=some u2:=⟨h.cell e0,h.cell e1,h.cell e2⟩
theorem zkc4{w w':World}{a0 a1 a2 a3:Addr}{u0 u1 u2 u3:Value}(h:ab w w')(e0:w.cell? a0=some u0)(e1:w.cell? a1=some u1)(e2:w.cell? a2=some u2)(e3:w.cell? a3=some u3):w'.cell? a0=some u0/\w'.cell? a1=some u1/\w'.cell? a2=some u2/\w'.cell? a3=some u3:=⟨h.cell e0,h.cell e1,h.cell e2,h.cell e3⟩
theorem zkc5{w w':World}{a0 a1 a2 a3 a4:Addr}{u0 u1 u2 u3 u4:Value}(h:ab w w')(e0:w.cell? a0=some u0)(e1:w.cell? a1=some u1)(e2:w.cell? a2=some u2)(e3:w.cell? a3=some u3)(e4:w.cell? a4=some u4):w'.cell? a0=some u0/\w'.cell? a1=some u1/\w'.cell? a2=some u2/\w'.cell? a3=some u3/\w'.cell? a4=some u4:=⟨h.cell e0,h.cell e1,h.cell e2,h.cell e3,h.cell e4⟩
theorem zkc6{w w':World}{a0 a1 a2 a3 a4 a5:Addr}{u0 u1 u2 u3 u4 u5:Value}(h:ab w w')(e0:w.cell? a0=some u0)(e1:w.cell? a1=some u1)(e2:w.cell? a2=some u2)(e3:w.cell? a3=some u3)(e4:w.cell? a4=some u4)(e5:w.cell? a5=some u5):w'.cell? a0=some u0/\w'.cell? a1=some u1/\w'.cell? a2=some u2/\w'.cell? a3=some u3/\w'.cell? a4=some u4/\w'.cell? a5=some u5:=⟨h.cell e0,h.cell e1,h.cell e2,h.cell e3,h.cell e4,h.cell e5⟩
theorem zkc7{w w':World}{a0 a1 a2 a3 a4 a5 a6:Addr}{u0 u1 u2 u3 u4 u5 u6:Value}(h:ab w w')(e0:w.cell? a0=some u0)(e1:w.cell? a1=some u1)(e2:w.cell? a2=some u2)(e3:w.cell? a3=some u3)(e4:w.cell? a4=some u4)(e5:w.cell? a5=some u5)(e6:w.cell? a6=some u6):w'.cell? a0=some u0/\w'.cell? a1=some u1/\w'.cell? a2=some u2/\w'.cell? a3=some u3/\w'.cell? a4=some u4/\w'.cell? a5=some u5/\w'.cell? a6=some u6:=⟨h.cell e0,h.cell e1,h.cell e2,h.cell e3,h.cell e4,h.cell e5,h.cell e6⟩
theorem zkc8{w w':World}{a0 a1 a2 a3 a4 a5 a6 a7:Addr}{u0 u1 u2 u3 u4 u5 u6 u7:Value}(h:ab w w')(e0:w.cell? a0=some u0)(e1:w.cell? a1=some u1)(e2:w.cell? a2=some u2)(e3:w.cell? a3=some u3)(e4:w.cell? a4=some u4)(e5:w.cell? a5=some u5)(e6:w.cell? a6=some u6)(e7:w.cell? a7=some u7):w'.cell? a0=some u0/\w'.cell? a1=some u1/\w'.cell? a2=some u2/\w'.cell? a3=some u3/\w'.cell? a4=some u4/\w'.cell? a5=some u5/\w'.cell? a6=some u6/\w'.cell? a7=some u7:=⟨h.cell e0,h.cell e1,h.cell e2,h.cell e3,h.cell e4,h.cell e5,h.cell e6,h.cell e7⟩
end Go.Proofs.YtpaidaphacoblaaGreatDoor

