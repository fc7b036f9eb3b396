import Derived.Test.YtpaidaphacoblaaGreatDoorK3
set_option linter.all false
set_option maxRecDepth 100000
set_option maxHeartbeats 0
namespace Go.Proofs.YtpaidaphacoblaaGreatDoor
open Go.Value renaming int→B,slice→D
open Go.IntKind renaming i64→C
open Go.RowKit
variable {w:World} {g:Nat} {cs:Array Value} {t:TypeId} {u0 u1 u10 u2 u3 u4 u5 u6 u7 u8 u9:Value} {r:List Value}
theorem ak.re{p q:Nat}{v:Value}{l:List Int}(h:ak p w v l)(hq:w.heap.size<=q):ak q w v l:=by obtain⟨A,c,hv,h1,h2,h3,h5,h4⟩:=h;exact⟨A,c,hv,h1,h2,h3,h5,fun k x hx=>by obtain⟨b,off,ha,hb,hc⟩:=h4 k x hx;have:=bK hc;simp at this;exact⟨b,off,ha,by omega,hc⟩⟩
theorem GV{base e size n cap k:Nat}{xs:List Value}(h:w.ownsRow base e size (D (some ⟨g,0,none⟩) n cap) n xs)(hk:k<=n):w.ownsRow base e size (D (some ⟨g,0,none⟩) k cap) k (xs.take (k*size)):=by
 have hl:=h.1;have hks:k*size<=n*size:=uH _ hk;refine⟨by rw[yW,hl];exact Nat.min_eq_left hks,?_⟩;rcases h.2 with ⟨e,_⟩|⟨g',cap',cur,e,hg,hh,hnc,hcm,hcs,ht⟩
 ·cases e
 ·injection e with e1 e2 e3;subst e3;injection e1 with e1;injection e1 with e1;subst e1;refine .inr ⟨g,cap,cur,rfl,hg,hh,by omega,hcm,hcs,?_⟩;rw[<-ht,List.take_take,Nat.min_eq_left hks]
theorem lG{base e size n m cap:Nat}{xs:List Value}(h:w.ownsRow base e size (D (some ⟨g,0,none⟩) n cap) m xs):n<=cap/\cap<=9223372036854775807:=by
 rcases h.2 with ⟨e,_⟩|⟨g',cap',cur,e,hg,hh,hnc,hcm,hcs,ht⟩
 ·cases e
 ·injection e with e1 e2 e3;subst e2;subst e3;exact⟨hnc,hcm⟩
structure Bx (p:Prop):Prop where
 out:p
theorem bx{p:Prop}(h:p):Bx p:=⟨h⟩
def sv(l:List UInt8):Value:=.string ⟨l.toArray⟩
theorem Lf(s:ByteArray):Value.string s=sv (bl s):=by unfold sv bl;rw[show (⟨s.data.toList.toArray⟩:ByteArray)=s by cases s;simp]
def aj.cells(c:aj)(u:Value):List Value:=[B C c.st.t,B C c.st.s,B C c.st.q,B C c.kind,sv c.str,B C c.cont,u,B C c.tgt.s,B C c.tgt.q,B C c.lab.p,B C c.lab.c,B C c.lab.g,B C c.lab.v]
def aj.wf(c:aj):Prop:=c.st.wf/\aU c.kind/\c.str.length<=1000/\aU c.cont/\c.tgt.wf/\c.lab.wf/\c.ch.length<=1000
def Pg.cells(c:Pg)(u:Value):List Value:=[B C c.cand,B C c.page,B C c.cont,u,B C c.scan.s,B C c.scan.q]
def Pg.wf(c:Pg):Prop:=aU c.cand/\aU c.page/\aU c.cont/\c.scan.wf/\c.ch.length<=1000
def BQ(p:Nat):World->List Value->je->Prop:=fun w cs q=>∃u,cs=[B C q.code,B C q.var,u]/\oa p w u q.ps/\aU q.code/\aU q.var
def JY(p:Nat):World->List Value->List (List Int)->Prop:=fun w cs b=>∃u,cs=[u]/\oc p w u b
def lR:World->List Value->fv->Prop:=fun _ cs x=>cs=x.cells/\x.wf
def bR(p:Nat):World->List Value->aj->Prop:=fun w cs c=>∃u,cs=c.cells u/\ak p w u c.ch/\c.wf
def cU:World->List Value->dF->Prop:=fun _ cs x=>cs=x.cells/\x.wf
def lO(p:Nat):World->List Value->Pg->Prop:=fun w cs c=>∃u,cs=c.cells u/\ak p w u c.ch/\c.wf
def oT:World->List Value->bN->Prop:=fun _ cs x=>cs=x.cells/\x.wf
theorem BQ.stab(p:Nat):lV p (BQ p):=by rintro w w' cs l ⟨u,rfl,h,h1,h2⟩ e;exact⟨u,rfl,h.xt (bC.stab p) e,h1,h2⟩
theorem JY.stab(p:Nat):lV p (JY p):=by rintro w w' cs l ⟨u,rfl,h⟩ e;exact⟨u,rfl,h.xt (RI.stab p) e⟩
theorem lR.stab(p:Nat):lV p lR:=fun _ _ _ _ h _=>h
theorem cU.stab(p:Nat):lV p cU:=fun _ _ _ _ h _=>h
theorem oT.stab(p:Nat):lV p oT:=fun _ _ _ _ h _=>h
theorem bR.stab(p:Nat):lV p (bR p):=by rintro w w' cs l ⟨u,rfl,h,h1⟩ e;exact⟨u,rfl,h.xt e,h1⟩
theorem lO.stab(p:Nat):lV p (lO p):=by rintro w w' cs l ⟨u,rfl,h,h1⟩ e;exact⟨u,rfl,h.xt e,h1⟩
abbrev jg (p:Nat):World->Value->List je->Prop:=bj p 3 (BQ p)
abbrev l9 (p:Nat):World->Value->List (List (List Int))->Prop:=bj p 1 (JY p)
abbrev jh (p:Nat):World->Value->List fv->Prop:=bj p 3 lR
abbrev au (p:Nat):World->Value->List aj->Prop:=bj p 13 (bR p)
abbrev rA (p:Nat):World->Value->List dF->Prop:=bj p 7 cU
abbrev Ce (p:Nat):World->Value->List Pg->Prop:=bj p 6 (lO p)
abbrev oI (p:Nat):World->Value->List bN->Prop:=bj p 3 oT
def aR(p:Nat)(w:World)(v:Value)(s:dl):Prop :=
 ∃vP vB vX,v=.agg #[B C s.num,vP,vB,vX]/\jg p w vP s.pap/\l9 p w vB s.bk/\jh p w vX s.xp/\aU s.num
def aK(p:Nat)(w:World)(v:Value)(i:r6):Prop:=∃vS vG,v=.agg #[vS,vG]/\rA p w vS i.sts/\Ce p w vG i.pgs
section
variable {p:Nat} {w w':World} {v:Value} {s:dl} {i:r6}
theorem aR.xt(h:aR p w v s)(e:XT p w w'):aR p w' v s:=by obtain⟨vP,vB,vX,h0,h1,h2,h3,h4⟩:=h;exact⟨vP,vB,vX,h0,h1.xt (BQ.stab p) e,h2.xt (JY.stab p) e,h3.xt (lR.stab p) e,h4⟩
theorem aR.ext(h:aR p w v s)(e:ab w w'):aR p w' v s:=h.xt e.xt
theorem aK.xt(h:aK p w v i)(e:XT p w w'):aK p w' v i:=by obtain⟨vS,vG,h0,h1,h2⟩:=h;exact⟨vS,vG,h0,h1.xt (cU.stab p) e,h2.xt (lO.stab p) e⟩
theorem aK.ext(h:aK p w v i)(e:ab w w'):aK p w' v i:=h.xt e.xt
end
def Bk(w:World)(g:Nat)(cs:Array Value)(t:TypeId):Prop:=w.heap[g]?=some (.cells cs t (0,0))
section
variable {w w':World} {g p:Nat} {cs:Array Value} {t:TypeId}
theorem Bk.new(w:World)(cs:Array Value)(t:TypeId):Bk (w.alloc (.cells cs t)) w.heap.size cs t:=heap_alloc_new w _
theorem Bk.cell(h:Bk w g cs t){i:Nat}{u:Value}(hi:cs[i]?=some u):w.cell? ⟨g,i,none⟩=some u:=ac h hi
theorem Bk.froz(h:Bk w g cs t)(i:Nat):w.frozen? ⟨g,i,none⟩=false:=ae h i
theorem Bk.lt(h:Bk w g cs t):g<w.heap.size:=al h
theorem Bk.xt(h:Bk w g cs t)(hx:XT p w w')(hb:g≠p):Bk w' g cs t:=hx.blk h hb
theorem Bk.ext(h:Bk w g cs t)(hx:ab w w'):Bk w' g cs t:=hx.blk h
theorem Bk.far(h:Bk w g cs t){a:Addr}(ha:g≠a.block)(u:Value):Bk (w.setCell a u) g cs t:=(yP _ _ _ _ ha).trans h
theorem Bk.set(h:Bk w g cs t)(i:Nat)(u:Value):Bk (w.setCell ⟨g,i,none⟩ u) g (cs.setIfInBounds i u) t:=by unfold Bk at *;rw[bn h]
theorem Bk.grown(h:Bk w g cs t){row:Option Nat}(hg:w.grownBy w' row)(hr:row≠some g):Bk w' g cs t:=(hg.block g (al h) (fun e=>hr e.symm)).trans h
theorem Bk.alloc(h:Bk w g cs t)(o:Obj):Bk (w.alloc o) g cs t:=h.ext ((zE _).alloc o)
end
def da{α:Type}(base:Nat)(e size:Nat)(f:α->List Value)(w:World)(v:Value)(xs:List α):Prop:=w.ownsRow base e size v xs.length (xs.map f).flatten
section
variable {α:Type} {base e size p:Nat} {f:α->List Value} {w w':World} {v:Value} {xs:List α}
theorem da.own(h:da base e size f w v xs):w.ownsRow base e size v xs.length (xs.map f).flatten:=h
theorem da.nil:da base e size f w (D none 0 0) ([]:List α):=yZ _ _ _ _
theorem da.push{x:α}(h:w.ownsRow base e size v (xs.length+1) ((xs.map f).flatten++f x)):da base e size f w v (xs++[x]):=by unfold da;simpa using h
theorem da.ext(h:da base e size f w v xs)(hx:ab w w'):da base e size f w' v xs:=ao h hx
theorem da.xt(h:da base e size f w v xs)(hx:XT p w w')(hp:p<base):da base e size f w' v xs:=dD h hx hp
theorem da.isS{q:Nat}{R:World->List Value->α->Prop}(h:da base e size f w v xs)(hp:q<base)(hsz:0<size)(hf:∀x∈xs,(f x).length=size)(hR:∀x∈xs,R w (f x) x):bj q size R w v xs:=by refine bj.of_own (e:=e) (xs.map f) (by simpa using hf) hsz (by simp) h hp ?_;intro k cs x hcs hx;simp only[zP,yO]at hcs;obtain⟨y,hy,rfl⟩:=hcs;rw[hx]at hy;injection hy with hy;subst hy;exact hR _ (zW hx)
theorem da.form(h:da base e size f w v xs):∃A c,v=D A xs.length c:=by
 rcases h.2 with ⟨e,h0⟩|⟨g,cap,cur,e,_⟩
 ·exact⟨none,0,by rw[e,h0]⟩
 ·exact⟨_,_,e⟩
end
theorem Bk.p2(h:Bk w g cs t)(e:cs.toList=u0::u1::r):w.cell? ⟨g,0,none⟩=some u0/\w.cell? ⟨g,1,none⟩=some u1:=by
 obtain rfl:cs=⟨u0::u1::r⟩:=by rw[<-e]
 exact⟨h.cell (i:=0) rfl,h.cell (i:=1) rfl⟩
theorem Bk.p3(h:Bk w g cs t)(e:cs.toList=u0::u1::u2::r):w.cell? ⟨g,0,none⟩=some u0/\w.cell? ⟨g,1,none⟩=some u1/\w.cell? ⟨g,2,none⟩=some u2:=by
 obtain rfl:cs=⟨u0::u1::u2::r⟩:=by rw[<-e]
 exact⟨h.cell (i:=0) rfl,h.cell (i:=1) rfl,h.cell (i:=2) rfl⟩
theorem Bk.p4(h:Bk w g cs t)(e:cs.toList=u0::u1::u2::u3::r):w.cell? ⟨g,0,none⟩=some u0/\w.cell? ⟨g,1,none⟩=some u1/\w.cell? ⟨g,2,none⟩=some u2/\w.cell? ⟨g,3,none⟩=some u3:=by
 obtain rfl:cs=⟨u0::u1::u2::u3::r⟩:=by rw[<-e]
 exact⟨h.cell (i:=0) rfl,h.cell (i:=1) rfl,h.cell (i:=2) rfl,h.cell (i:=3) rfl⟩
theorem Bk.p5(h:Bk w g cs t)(e:cs.toList=u0::u1::u2::u3::u4::r):w.cell? ⟨g,0,none⟩=some u0/\w.cell? ⟨g,1,none⟩=some u1/\w.cell? ⟨g,2,none⟩=some u2/\w.cell? ⟨g,3,none⟩=some u3/\w.cell? ⟨g,4,none⟩=some u4:=by
 obtain rfl:cs=⟨u0::u1::u2::u3::u4::r⟩:=by rw[<-e]
 exact⟨h.cell (i:=0) rfl,h.cell (i:=1) rfl,h.cell (i:=2) rfl,h.cell (i:=3) rfl,h.cell (i:=4) rfl⟩
theorem Bk.p6(h:Bk w g cs t)(e:cs.toList=u0::u1::u2::u3::u4::u5::r):w.cell? ⟨g,0,none⟩=some u0/\w.cell? ⟨g,1,none⟩=some u1/\w.cell? ⟨g,2,none⟩=some u2/\w.cell? ⟨g,3,none⟩=some u3/\w.cell? ⟨g,4,none⟩=some u4/\w.cell? ⟨g,5,none⟩=some u5:=by
 obtain rfl:cs=⟨u0::u1::u2::u3::u4::u5::r⟩:=by rw[<-e]
 exact⟨h.cell (i:=0) rfl,h.cell (i:=1) rfl,h.cell (i:=2) rfl,h.cell (i:=3) rfl,h.cell (i:=4) rfl,h.cell (i:=5) rfl⟩
theorem Bk.p7(h:Bk w g cs t)(e:cs.toList=u0::u1::u2::u3::u4::u5::u6::r):w.cell? ⟨g,0,none⟩=some u0/\w.cell? ⟨g,1,none⟩=some u1/\w.cell? ⟨g,2,none⟩=some u2/\w.cell? ⟨g,3,none⟩=some u3/\w.cell? ⟨g,4,none⟩=some u4/\w.cell? ⟨g,5,none⟩=some u5/\w.cell? ⟨g,6,none⟩=some u6:=by
 obtain rfl:cs=⟨u0::u1::u2::u3::u4::u5::u6::r⟩:=by rw[<-e]
 exact⟨h.cell (i:=0) rfl,h.cell (i:=1) rfl,h.cell (i:=2) rfl,h.cell (i:=3) rfl,h.cell (i:=4) rfl,h.cell (i:=5) rfl,h.cell (i:=6) rfl⟩
theorem Bk.p8(h:Bk w g cs t)(e:cs.toList=u0::u1::u2::u3::u4::u5::u6::u7::r):w.cell? ⟨g,0,none⟩=some u0/\w.cell? ⟨g,1,none⟩=some u1/\w.cell? ⟨g,2,none⟩=some u2/\w.cell? ⟨g,3,none⟩=some u3/\w.cell? ⟨g,4,none⟩=some u4/\w.cell? ⟨g,5,none⟩=some u5/\w.cell? ⟨g,6,none⟩=some u6/\w.cell? ⟨g,7,none⟩=some u7:=by
 obtain rfl:cs=⟨u0::u1::u2::u3::u4::u5::u6::u7::r⟩:=by rw[<-e]
 exact⟨h.cell (i:=0) rfl,h.cell (i:=1) rfl,h.cell (i:=2) rfl,h.cell (i:=3) rfl,h.cell (i:=4) rfl,h.cell (i:=5) rfl,h.cell (i:=6) rfl,h.cell (i:=7) rfl⟩
theorem Bk.p9(h:Bk w g cs t)(e:cs.toList=u0::u1::u2::u3::u4::u5::u6::u7::u8::r):w.cell? ⟨g,0,none⟩=some u0/\w.cell? ⟨g,1,none⟩=some u1/\w.cell? ⟨g,2,none⟩=some u2/\w.cell? ⟨g,3,none⟩=some u3/\w.cell? ⟨g,4,none⟩=some u4/\w.cell? ⟨g,5,none⟩=some u5/\w.cell? ⟨g,6,none⟩=some u6/\w.cell? ⟨g,7,none⟩=some u7/\w.cell? ⟨g,8,none⟩=some u8:=by
 obtain rfl:cs=⟨u0::u1::u2::u3::u4::u5::u6::u7::u8::r⟩:=by rw[<-e]
 exact⟨h.cell (i:=0) rfl,h.cell (i:=1) rfl,h.cell (i:=2) rfl,h.cell (i:=3) rfl,h.cell (i:=4) rfl,h.cell (i:=5) rfl,h.cell (i:=6) rfl,h.cell (i:=7) rfl,h.cell (i:=8) rfl⟩
theorem Bk.p10(h:Bk w g cs t)(e:cs.toList=u0::u1::u2::u3::u4::u5::u6::u7::u8::u9::r):w.cell? ⟨g,0,none⟩=some u0/\w.cell? ⟨g,1,none⟩=some u1/\w.cell? ⟨g,2,none⟩=some u2/\w.cell? ⟨g,3,none⟩=some u3/\w.cell? ⟨g,4,none⟩=some u4/\w.cell? ⟨g,5,none⟩=some u5/\w.cell? ⟨g,6,none⟩=some u6/\w.cell? ⟨g,7,none⟩=some u7/\w.cell? ⟨g,8,none⟩=some u8/\w.cell? ⟨g,9,none⟩=some u9:=by
 obtain rfl:cs=⟨u0::u1::u2::u3::u4::u5::u6::u7::u8::u9::r⟩:=by rw[<-e]
 exact⟨h.cell (i:=0) rfl,h.cell (i:=1) rfl,h.cell (i:=2) rfl,h.cell (i:=3) rfl,h.cell (i:=4) rfl,h.cell (i:=5) rfl,h.cell (i:=6) rfl,h.cell (i:=7) rfl,h.cell (i:=8) rfl,h.cell (i:=9) rfl⟩
theorem Bk.p11(h:Bk w g cs t)(e:cs.toList=u0::u1::u2::u3::u4::u5::u6::u7::u8::u9::u10::r):w.cell? ⟨g,0,none⟩=some u0/\w.cell? ⟨g,1,none⟩=some u1/\w.cell? ⟨g,2,none⟩=some u2/\w.cell? ⟨g,3,none⟩=some u3/\w.cell? ⟨g,4,none⟩=some u4/\w.cell? ⟨g,5,none⟩=some u5/\w.cell? ⟨g,6,none⟩=some u6/\w.cell? ⟨g,7,none⟩=some u7/\w.cell? ⟨g,8,none⟩=some u8/\w.cell? ⟨g,9,none⟩=some u9/\w.cell? ⟨g,10,none⟩=some u10:=by
 obtain rfl:cs=⟨u0::u1::u2::u3::u4::u5::u6::u7::u8::u9::u10::r⟩:=by rw[<-e]
 exact⟨h.cell (i:=0) rfl,h.cell (i:=1) rfl,h.cell (i:=2) rfl,h.cell (i:=3) rfl,h.cell (i:=4) rfl,h.cell (i:=5) rfl,h.cell (i:=6) rfl,h.cell (i:=7) rfl,h.cell (i:=8) rfl,h.cell (i:=9) rfl,h.cell (i:=10) rfl⟩
theorem Bk.p12{u11:Value}(h:Bk w g cs t)(e:cs.toList=u0::u1::u2::u3::u4::u5::u6::u7::u8::u9::u10::u11::r):w.cell? ⟨g,0,none⟩=some u0/\w.cell? ⟨g,1,none⟩=some u1/\w.cell? ⟨g,2,none⟩=some u2/\w.cell? ⟨g,3,none⟩=some u3/\w.cell? ⟨g,4,none⟩=some u4/\w.cell? ⟨g,5,none⟩=some u5/\w.cell? ⟨g,6,none⟩=some u6/\w.cell? ⟨g,7,none⟩=some u7/\w.cell? ⟨g,8,none⟩=some u8/\w.cell? ⟨g,9,none⟩=some u9/\w.cell? ⟨g,10,none⟩=some u10/\w.cell? ⟨g,11,none⟩=some u11:=by
 obtain rfl:cs=⟨u0::u1::u2::u3::u4::u5::u6::u7::u8::u9::u10::u11::r⟩:=by rw[<-e]
 exact⟨h.cell (i:=0) rfl,h.cell (i:=1) rfl,h.cell (i:=2) rfl,h.cell (i:=3) rfl,h.cell (i:=4) rfl,h.cell (i:=5) rfl,h.cell (i:=6) rfl,h.cell (i:=7) rfl,h.cell (i:=8) rfl,h.cell (i:=9) rfl,h.cell (i:=10) rfl,h.cell (i:=11) rfl⟩
theorem Bk.p13{u11 u12:Value}(h:Bk w g cs t)(e:cs.toList=u0::u1::u2::u3::u4::u5::u6::u7::u8::u9::u10::u11::u12::r):w.cell? ⟨g,0,none⟩=some u0/\w.cell? ⟨g,1,none⟩=some u1/\w.cell? ⟨g,2,none⟩=some u2/\w.cell? ⟨g,3,none⟩=some u3/\w.cell? ⟨g,4,none⟩=some u4/\w.cell? ⟨g,5,none⟩=some u5/\w.cell? ⟨g,6,none⟩=some u6/\w.cell? ⟨g,7,none⟩=some u7/\w.cell? ⟨g,8,none⟩=some u8/\w.cell? ⟨g,9,none⟩=some u9/\w.cell? ⟨g,10,none⟩=some u10/\w.cell? ⟨g,11,none⟩=some u11/\w.cell? ⟨g,12,none⟩=some u12:=by
 obtain rfl:cs=⟨u0::u1::u2::u3::u4::u5::u6::u7::u8::u9::u10::u11::u12::r⟩:=by rw[<-e]
 exact⟨h.cell (i:=0) rfl,h.cell (i:=1) rfl,h.cell (i:=2) rfl,h.cell (i:=3) rfl,h.cell (i:=4) rfl,h.cell (i:=5) rfl,h.cell (i:=6) rfl,h.cell (i:=7) rfl,h.cell (i:=8) rfl,h.cell (i:=9) rfl,h.cell (i:=10) rfl,h.cell (i:=11) rfl,h.cell (i:=12) rfl⟩
theorem Bk.c(h:Bk w g cs t)(i:Nat){u:Value}(hi:cs[i]?=some u):w.cell? ⟨g,i,none⟩=some u:=h.cell hi
end Go.Proofs.YtpaidaphacoblaaGreatDoor

namespace Go.Proofs.YtpaidaphacoblaaGreatDoor
open Go.Value renaming int→B,slice→D
open Go.IntKind renaming i64→C
theorem Tryz.infoS:(Tryz.prog.info? 22).map (fun i=>(i.zero,i.size,i.bytes))=some (some (D none 0 0),1,24):=by kernel_rfl
end Go.Proofs.YtpaidaphacoblaaGreatDoor

namespace Go.Proofs.YtpaidaphacoblaaGreatDoor
open Go.Value renaming int→B,slice→D
open Go.IntKind renaming i64→C
open Go.RowKit
variable {b p:Nat}
def dn(base:Nat)(w:World)(v:Value)(ls:List (List Int)):Prop :=
 ∃us:List Value,us.length=ls.length/\w.ownsRow base 22 1 v ls.length us/\∀(j:Nat) (u:Value) (l:List Int),us[j]?=some u->ls[j]?=some l->w.ownsRow base 3 1 u l.length (l.map (Value.int .i64))
section
variable {base:Nat} {w w':World} {v:Value} {ls:List (List Int)}
theorem dn.nil(base:Nat)(w:World):dn base w (D none 0 0) []:=⟨[],rfl,yZ _ _ _ _,fun j u l hu=>by simp at hu⟩
theorem dn.of_nest(h:eU p b 22 3 w v ls)(hb:base<=b):dn base w v ls:=by
 obtain⟨us,H,hus,hown,hbH,hH,hold,hlast⟩:=h;refine⟨us,hus,cd hown hb,fun j u l hu hl=>?_⟩;have hj:=(zY.1 hl).1;by_cases e:j+1<ls.length
 ·exact cd (hold j u l hu hl e).1 hb
 ·obtain rfl:j=ls.length-1:=by omega
  exact cd (hlast u l hu hl) (by omega)
theorem dn.isP(h:dn base w v ls)(hp:p<base)(hb:∀l∈ls,∀x∈l,aU x)(hl:∀l∈ls,l.length<=9223372036854775807):oc p w v ls:=by obtain⟨us,a,b,f⟩:=h;refine bj.of_own (e:=22) (us.map fun u=>[u]) (by simp) (by decide) (by simpa using a) (by rw[AY];exact b) hp ?_;intro k cs x hcs hx;simp only[zP,yO]at hcs;obtain⟨u,hu,rfl⟩:=hcs;exact⟨u,rfl,ak.of_own (f k u x hu hx) hp (hb x (zW hx)) (hl x (zW hx))⟩
theorem dn.keep(h:dn base w v ls)(e:∀{e':Nat} {u:Value} {n:Nat} {xs:List Value},(e'=22\/e'=3)->w.ownsRow base e' 1 u n xs->w'.ownsRow base e' 1 u n xs):dn base w' v ls:=by obtain⟨us,a,b,f⟩:=h;exact⟨us,a,e (.inl rfl) b,fun j u l hu hl=>e (.inr rfl) (f j u l hu hl)⟩
theorem dn.xt(h:dn base w v ls)(hx:XT p w w')(hp:p<base):dn base w' v ls:=h.keep fun _ k=>dD k hx hp
theorem dn.ext(h:dn base w v ls)(hx:ab w w'):dn base w' v ls:=h.keep fun _ k=>ao k hx
theorem dn.far(h:dn base w v ls){o t:Nat}{cs:Array Value}(hb:w.heap[b]?=some (.cells cs t (0,0)))(h1:t≠22)(h2:t≠3)(u:Value):dn base (w.setCell ⟨b,o,none⟩ u) v ls :=
 h.keep fun he k=>aN k (by refine aG k hb ?_;rcases he with rfl|rfl;exact h1;exact h2) u
theorem dn.apart(h:dn base w v ls){t s n:Nat}{z:Value}{xs:List Value}(hz:w.ownsRow b t s z n xs)(h1:t≠22)(h2:t≠3)(hg:w.grownBy w' z.ownBlock):dn base w' v ls :=
 h.keep fun he k=>aJ k hg fun q hq=>cA k hz (by rcases he with rfl|rfl;exact Ne.symm h1;exact Ne.symm h2) q hq
theorem dn.form(h:dn base w v ls):∃A c,v=D A ls.length c:=by
 obtain⟨us,a,b,f⟩:=h;rcases b.2 with ⟨e,h0⟩|⟨g,cap,cur,e,_⟩
 ·exact⟨none,0,by rw[e,h0]⟩
 ·exact⟨_,_,e⟩
theorem dn.re(h:dn base w v ls)(hb:b<=base):dn b w v ls:=by obtain⟨us,a,b',f⟩:=h;exact⟨us,a,cd b' hb,fun j u l hu hl=>cd (f j u l hu hl) hb⟩
end
open _root_.Go.Proofs.Tryz
def GL(w:World)(code var:Int)(ps:List av)(e:Ending)(w':World):Prop :=
 ∃(v:Value) (pgs:List (List Int)) (er:Int),e=.returned (.tuple #[.agg #[v],B C er])/\dn w.heap.size w' v pgs/\ab w w' /\
  (fD code var ps=false->pgs=[]/\er=1)/\(fD code var ps=true->(12<(ai ps).length->pgs=[]/\er=3)/\((ai ps).length<=12->pgs=ai ps/\er=0))
theorem C8(code var:Int)(v:Value)(ps:List av)(w:World)(hp:p<w.heap.size)(h:oa p w v ps) :
  Calls prog 23 #[.agg #[B C code,B C var,v]] w (GL w code var ps):=by
 obtain⟨A,n,c,rfl,hnc,hc,hnn,HL⟩:=h.open_;obtain⟨i0,hi0,hz0,hz1,hz2⟩:=info_parts Tryz.infoI;obtain⟨iS,hiS,hy0,hy1,hy2⟩:=info_parts Tryz.infoS;have H:=zZ h;clear h;cases hv:fD code var ps with
 |false =>
  have HV:=zZ hv;clear hv;go_enter func23,ntmps23
  go_wp2_with fail;refine (fc _ _ _ ps _ ((H.out.ext (bC.stab p) ((zE _).alloc _)).ext (bC.stab p) ((zE _).alloc _))).mono ?_;rintro e w1 ⟨rfl,hx1⟩;rw[HV.out];have c0:w1.cell? ⟨w.heap.size+1,0,none⟩=some (D none 0 0):=hx1.cell (by simp);have f0:w1.frozen? ⟨w.heap.size+1,0,none⟩=false:=(Below.frozen hx1.below (by simp)).trans (by simp);have HE:=zZ (ab.trans (((zE w).alloc _).alloc _) hx1);clear hx1;go_wp2_with fail;refine bodyPost_ret (v:=.tuple #[.agg #[D none 0 0],B C 1]) (by simp[results,results23,go_sem,c0]) rfl ⟨_,[],1,rfl,dn.nil _ _,?_,fun _=>⟨rfl,rfl⟩,fun h=>absurd (HV.out.symm.trans h) (by simp)⟩;exact HE.out.setCell (by simp) _
 |true =>
  have HV:=zZ hv;have hvp:=mD hv;obtain⟨_,_,_,_,hl1,hl24,hall,_⟩:=hvp;have HALL:=zZ hall;have hn1:1<=n:=by have:=HL.out;omega
  have hn24:n<=24:=by have:=HL.out;omega
  clear hv hall hl1 hl24;go_enter func23,ntmps23
  go_wp2_with fail;refine (fc _ _ _ ps _ ((H.out.ext (bC.stab p) ((zE _).alloc _)).ext (bC.stab p) ((zE _).alloc _))).mono ?_;rintro e w1 ⟨rfl,hx1⟩;rw[HV.out];have HE1:=zZ (ab.trans (((zE w).alloc _).alloc _) hx1);have b2:w1.cell? ⟨w.heap.size,2,none⟩=some (D A n c):=hx1.cell (by simp);have HB2:=zZ b2;have HRC:=zZ (hx1.blk (heap_alloc_new (w.alloc _) _));have HI1:=zZ (H.out.ext (bC.stab p) HE1.out);have hs1':w.heap.size+2<=w1.heap.size:=by have:=hx1.size;simp at this;omega
  clear hx1 b2;go_wp2_with fail;go_loopw [4,5,6] (fun s4 s5 s6 wr=>∃(k j g cap:Nat) (d:List (List Int)) (cu:List Int) (s:Int),k<=n/\0<=s/\s<=30/\j<=k+1/\s4=D (some ⟨g,0,none⟩) (j+1) cap/\s5=B C (30-s)/\s6=B C k /\
    Hid (gs (ps.map db) k=(d,cu,s)/\d.length=j/\cu.length<=k/\eU p w1.heap.size 22 3 wr (D (some ⟨g,0,none⟩) (j+1) cap) (d++[cu])/\ab w1 wr)) (fun _ _ i _=>n-(intOf i).toNat)
  case atStart=>exact⟨0,1,w1.heap.size,2,[[]],[],0,by omega,by omega,by omega,by omega,rfl,rfl,rfl,rfl,rfl,by simp,eU.two p w1 _ _ _ (zX _),(zE _).alloc _⟩
  case round =>
   obtain⟨k,j,g,cap,d,cu,s,hk,hs1,hs2,hjk,rfl,rfl,rfl,HR⟩:=hrel;have b2:=HR.out.2.2.2.2.cell HB2.out;by_cases hlt:k<n
   ·obtain⟨b,off,cs0,q0,rfl,_⟩:=H.out.at_ hlt;obtain⟨q,c0,c1,c2,c3,c4,c5,hw,HX⟩:=(HI1.out.ext (bC.stab p) HR.out.2.2.2.2).part hlt;have hnb:=qp q;go_wp2_with fail;refine (sA q _).mono ?_;rintro e w2 ⟨rfl,hx2⟩;clear c0 c1 c2 c3 c4 c5 b2;have HN2:=zZ (HR.out.2.2.2.1.ext hx2);have HE2:=zZ (HR.out.2.2.2.2.trans hx2);generalize hxq:db q=x at *
    have HXQ:=zZ hxq;clear hxq hx2;by_cases hf:s+x<=30
    ·obtain⟨Au,nu,ccu,HH,hcell,hnu,hbg,hbH,hHw,hou,hstep⟩:=HN2.out.step HR.out.2.1 (by decide);have HOU:=zZ hou;have HST:=zZ hstep;have hnuk:nu<=24:=by have:=HR.out.2.2.1;omega
     clear hou hstep;go_wp2_with (at_builtin;refine aF _ rfl (.tmp 41) (.tmp 43) 22 rfl HH 3 i0 _ 8 underlying22 hi0 hz0 hz1 hz2 rfl _ _ _ rfl (HOU.out.alloc _) _ _ rfl (by simp;rfl) rfl (by omega) (by omega) (by simp;omega) ?_;intro v' w3 hown' hg';obtain⟨g',cap',rfl,_,_⟩:=di hown' (by omega);obtain⟨hc3,hf3,hn3⟩:=HST.out _ _ _ _ ((zE _).alloc _) hg' hown';have HN3:=zZ hn3;have HE3:=zZ (ab.setCell (ab.grown (HE2.out.alloc _) hg' (fun k hk=>by have:=aq HOU.out k hk;omega)) (p:=⟨g,j,none⟩) hbg (D (some ⟨g',0,none⟩) (nu+1) cap'));clear hn3 hown' hg');go_roundw
     case rel =>exact⟨k+1,j,g,cap,d,cu++[(k:Int)],s+x,by omega,by omega,by omega,by omega,rfl,by go_num,by go_num,CV HR.out.1 (by rw[<-HXQ.out];exact nY HX.out) hf,HR.out.2.1,by have:=HR.out.2.2.1;simp;omega,HN3.out,HE3.out⟩
     case measure=>simp[intOf];omega
    ·have hf':30<s+x:=by omega
     clear hf;obtain⟨us,hus,hOS⟩:=HN2.out.own;have HOS:=zZ hOS;have hjd:(d++[cu]).length=j+1:=by have:=HR.out.2.1;simp;omega
     have HJD:=zZ hjd;clear hOS hjd;go_wp2_with (first
      |(at_builtin;refine aF _ rfl (.tmp 30) (.tmp 31) 59 rfl w1.heap.size 22 iS _ 24 underlying59 hiS hy0 hy1 hy2 rfl _ (j+1) us rfl (by have:=HOS.out.alloc (.cells #[D none 0 0] 22);rw[HJD.out]at this;exact this) _ _ rfl (by simp;rfl) rfl (by omega) (by omega) (by have:=HE2.out.size;simp;omega) ?_;intro v' w3 hown' hg';obtain⟨g',cap',rfl,_,_⟩:=di hown' (by omega);have HN3:=zZ ((HN2.out.ext ((zE _).alloc (.cells #[D none 0 0] 22))).new (by decide) (HOS.out.alloc _) hg' (by rw[HJD.out];exact hown'));have HE3:=zZ (ab.grown (HE2.out.alloc _) hg' (fun k hk=>by have:=aq HOS.out k hk;omega));clear hown' hg';obtain⟨Au,nu,ccu,HH,hcell,hnu,hbg,hbH,hHw,hou,hstep⟩:=HN3.out.step HJD.out (by decide);have HOU:=zZ hou;have HST:=zZ hstep;have hnu0:nu<=1:=(by simp at hnu;omega);clear hou hstep hnu)
      |(at_builtin;refine aF _ rfl (.tmp 41) (.tmp 43) 22 rfl HH 3 i0 _ 8 underlying22 hi0 hz0 hz1 hz2 rfl _ _ _ rfl (HOU.out.alloc _) _ _ rfl (by simp;rfl) rfl (by omega) (by omega) (by simp;omega) ?_;intro v'' w4 hown'' hg'';obtain⟨g4,cap4,rfl,_,_⟩:=di hown'' (by omega);obtain⟨hc4,hf4,hn4⟩:=HST.out _ _ _ _ ((zE _).alloc _) hg'' hown'';have HN4:=zZ hn4;have HE4:=zZ (ab.setCell (ab.grown (HE3.out.alloc _) hg'' (fun k hk=>by have:=aq HOU.out k hk;omega)) (p:=⟨g',j+1,none⟩) hbg (D (some ⟨g4,0,none⟩) (nu+1) cap4));clear hn4 hown'' hg''))
     go_roundw
     case rel =>exact⟨k+1,j+1,g',cap',d++[cu],[(k:Int)],x,by omega,by omega,by omega,by omega,rfl,by go_num,by go_num,CL HR.out.1 (by rw[<-HXQ.out];exact nY HX.out) hf',HJD.out,by simp,by simpa using HN4.out,HE4.out⟩
     case measure=>simp[intOf];omega
   ·obtain rfl:k=n:=by omega
    have hbdp:=qW ps;have HPG:=zZ (Co HL.out HR.out.1);clear hbdp;go_wp2_with fail;go_loopw [4] (fun s4 wr=>∃(m g cap:Nat) (ls:List (List Int)),m<=30/\s4=D (some ⟨g,0,none⟩) (m+1) cap/\Hid (ls.length=m+1/\eU p w1.heap.size 22 3 wr (D (some ⟨g,0,none⟩) (m+1) cap) ls/\ab w1 wr/\Ev ls=ai ps)) (fun s _=>match s with|D _ m _=>(4-m%4)%4|_=>0)
    case atStart=>exact⟨j,g,cap,d++[cu],by omega,rfl,by have:=HR.out.2.1;simp;omega,HR.out.2.2.2.1,HR.out.2.2.2.2,by unfold ai;rw[HPG.out]⟩
    case round =>
     obtain⟨m,g,cap,ls,hm,rfl,HQ⟩:=hrel;clear HR HPG;by_cases h4:(m+1)%4=0
     ·have e4:(((m:Int)+1)%4 != 0)=false:=by simp;omega
      have c0:wr.cell? ⟨w.heap.size+1,0,none⟩=some (D none 0 0):=by have:=HQ.out.2.2.1.blk HRC.out;simp at this;exact ac this rfl
      have f0:wr.frozen? ⟨w.heap.size+1,0,none⟩=false:=by have:=HQ.out.2.2.1.blk HRC.out;simp at this;exact ae this 0
      have HP:Hid (ls=ai ps):=by have:=HQ.out.2.2.2;rw[Hn (by rw[HQ.out.1];exact h4)]at this;exact this
      have HE:=zZ (HE1.out.trans HQ.out.2.2.1);have HISP:Hid (∀u,dn w.heap.size (wr.setCell ⟨w.heap.size+1,0,none⟩ u) (D (some ⟨g,0,none⟩) (m+1) cap) ls):=fun u=>dn.of_nest (HQ.out.2.1.keep (w':=wr.setCell ⟨w.heap.size+1,0,none⟩ u) (by simp[World.setCell]) (fun k hk _=>yP _ _ _ _ (by show k≠w.heap.size+1;omega))) (by omega);have hlen:(ai ps).length=m+1:=by rw[<-HP.out];exact HQ.out.1
      have HLEN:=zZ hlen;clear h4 hlen;by_cases h12:12<m+1
      ·go_wp2_with fail;refine bodyPost_ret (v:=.tuple #[.agg #[D none 0 0],B C 3]) (by simp[results,results23,go_sem,c0]) rfl ⟨_,[],3,rfl,dn.nil _ _,HE.out.setCell (by simp) _,fun h=>absurd (HV.out.symm.trans h) (by simp),fun _=>⟨fun _=>⟨rfl,rfl⟩,fun h=>absurd h (by have:=HLEN.out;omega)⟩⟩
      ·go_wp2_with fail;refine bodyPost_ret (v:=.tuple #[.agg #[D (some ⟨g,0,none⟩) (m+1) cap],B C 0]) (by simp[results,results23,go_sem,c0]) rfl ⟨_,ai ps,0,rfl,?_,HE.out.setCell (by simp) _,fun h=>absurd (HV.out.symm.trans h) (by simp),fun _=>⟨fun h=>absurd h (by have:=HLEN.out;omega),fun _=>⟨rfl,rfl⟩⟩⟩;rw[<-HP.out];exact HISP.out _
     ·have e4:(((m:Int)+1)%4 != 0)=true:=by simp;omega
      have HP4:Hid (Ev (ls++[[]])=ai ps):=by rw[<-HQ.out.2.2.2];exact Ij (by rw[HQ.out.1];exact h4)
      obtain⟨us,hus,hOS⟩:=HQ.out.2.1.own;have HOS:=zZ hOS;clear hOS;have H4:=zZ h4;have hm10:m+1<=29:=by have h1:=congrArg List.length HQ.out.2.2.2;have h2:=(m7 ps).1;have h3:=HL.out;have h5:=HQ.out.1;unfold Ev at h1;simp at h1;omega
      clear h4;go_wp2_with (at_builtin;refine aF _ rfl (.tmp 53) (.tmp 54) 59 rfl w1.heap.size 22 iS _ 24 underlying59 hiS hy0 hy1 hy2 rfl _ (m+1) us rfl (by have:=HOS.out.alloc (.cells #[D none 0 0] 22);rw[HQ.out.1]at this;exact this) _ _ rfl (by simp;rfl) rfl (by omega) (by omega) (by have:=HQ.out.2.2.1.size;simp;omega) ?_;intro v' w3 hown' hg';obtain⟨g',cap',rfl,_,_⟩:=di hown' (by omega);have HN3:=zZ ((HQ.out.2.1.ext ((zE _).alloc (.cells #[D none 0 0] 22))).new (by decide) (HOS.out.alloc _) hg' (by rw[HQ.out.1];exact hown'));have HE3:=zZ (ab.grown (HQ.out.2.2.1.alloc _) hg' (fun k hk=>by have:=aq HOS.out k hk;omega));clear hown' hg');go_roundw
      case rel=>exact⟨m+1,g',cap',ls++[[]],by omega,rfl,by have:=HQ.out.1;simp;omega,HN3.out,HE3.out,HP4.out⟩
      case measure=>have:=H4.out;show (4-(m+1+1)%4)%4<(4-(m+1)%4)%4;omega
end Go.Proofs.YtpaidaphacoblaaGreatDoor

