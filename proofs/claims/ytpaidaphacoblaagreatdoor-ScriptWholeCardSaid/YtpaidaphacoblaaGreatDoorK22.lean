import Derived.Test.YtpaidaphacoblaaGreatDoorK21
set_option linter.all false
set_option maxRecDepth 100000
set_option maxHeartbeats 0
namespace Go.Proofs.YtpaidaphacoblaaGreatDoor
open Go.Value renaming int→B,slice→D
open Go.IntKind renaming i64→C
open Go.RowKit
variable {cls:List Int} {base g i k n size:Nat} {x:Int} {w:World}
def bg(a b:Int):Int:=if a<b then -1 else if a>b then 1 else 0
def me(a b:bN):Int:=if bg a.t b.t≠0 then bg a.t b.t else if bg a.s b.s≠0 then bg a.s b.s else bg a.q b.q
theorem bJ(a b:Int):(a<b/\bg a b=-1)\/(a=b/\bg a b=0)\/(b<a/\bg a b=1):=by
 unfold bg;split
 ·exact .inl ⟨‹_›,rfl⟩
 ·split
  ·exact .inr (.inr ⟨‹_›,rfl⟩)
  ·exact .inr (.inl ⟨by omega,rfl⟩)
theorem mn(a b:bN):(gY a b=true/\me a b=-1)\/(a=b/\me a b=0)\/(gY b a=true/\me a b=1):=by
 unfold me gY;simp only[decide_eq_true_eq];rw[bN.eq_iff];rcases bJ a.t b.t with ⟨h1,h2⟩|⟨h1,h2⟩|⟨h1,h2⟩
 ·rw[h2];exact .inl ⟨by omega,rfl⟩
 ·rw[h2];rcases bJ a.s b.s with ⟨k1,k2⟩|⟨k1,k2⟩|⟨k1,k2⟩
  ·rw[k2];exact .inl ⟨by omega,rfl⟩
  ·rw[k2];rcases bJ a.q b.q with ⟨m1,m2⟩|⟨m1,m2⟩|⟨m1,m2⟩
   ·rw[m2];exact .inl ⟨by omega,rfl⟩
   ·rw[m2];exact .inr (.inl ⟨by omega,rfl⟩)
   ·rw[m2];exact .inr (.inr ⟨by omega,rfl⟩)
  ·rw[k2];exact .inr (.inr ⟨by omega,rfl⟩)
 ·rw[h2];exact .inr (.inr ⟨by omega,rfl⟩)
def iz(a b:bN)(x y:Int):Bool:=decide (a.s=b.s/\a.q=b.q/\(a.t≠b.t\/x≠y))
def Gg(l:List bN)(cls:List Int)(i k:Nat):Bool:=match l[i]?,l[k]?,cls[i]?,cls[k]? with
 |some a,some b,some x,some y=>dT b&&(iz a b x y||(decide (k<i)&&decide (b=a)))
 |_,_,_,_=>false
def iR(l:List bN)(cls:List Int)(i:Nat):Bool:=match l[i]? with
 |some a=>dT a&&(List.range l.length).all fun k=>!Gg l cls i k
 |none=>false
theorem jU{l:List bN}{a b:bN}{y:Int}(h1:l[i]?=some a)(h2:l[k]?=some b)(h3:cls[i]?=some x)(h4:cls[k]?=some y):Gg l cls i k=(dT b&&(iz a b x y||(decide (k<i)&&decide (b=a)))):=by unfold Gg;rw[h1,h2,h3,h4]
theorem gR{l:List bN}{a:bN}(h:l[i]?=some a):iR l cls i=true↔dT a=true/\∀k,k<l.length->Gg l cls i k=false:=by unfold iR;rw[h];simp only[yT,xS,yX,uY]
def tz(l:List bN)(a b:Int):Bool:=match l[a.toNat]?,l[b.toNat]? with
 |some x,some y=>gY x y
 |_,_=>false
theorem pi{l:List bN}{a b:bN}(h1:l[i]?=some a)(h2:l[k]?=some b):tz l (i:Int) (k:Int)=gY a b:=by unfold tz;rw[yC,yC,h1,h2]
theorem GN{l:List bN}(hl:cls.length=l.length){a b:bN}(h1:l[i]?=some a)(h2:l[k]?=some b)(hi:iR l cls i=true)(hk:iR l cls k=true)(hne:i≠k):a.s≠b.s\/a.q≠b.q:=by
 have key:∀{i k:Nat} {a b:bN},l[i]?=some a->l[k]?=some b->iR l cls i=true->iR l cls k=true->k<i->a.s≠b.s\/a.q≠b.q:=by intro i k a b h1 h2 hi hk hlt;have hki:=(zY.1 h2).1;have hii:=(zY.1 h1).1;have hx:cls[i]?=some (cls[i]'(by omega)):=zV _;have hy:cls[k]?=some (cls[k]'(by omega)):=zV _;have h3:=((gR h1).1 hi).2 k hki;have h4:=((gR h2).1 hk).1;rw[jU h1 h2 hx hy,h4,yK,vU]at h3;have h5:=h3.1;have h6:=h3.2;rw[decide_eq_true hlt,yK,decide_eq_false_iff_not,bN.eq_iff]at h6;unfold iz at h5;rw[decide_eq_false_iff_not]at h5;omega
 rcases zU k i with h|h
 ·exact key h1 h2 hi hk h
 ·have:=key h2 h1 hk hi (by omega);omega
def kh(l:List bN)(cls:List Int)(k:Nat):List Int:=((List.range k).filter (iR l cls)).map fun i:Nat=>(i:Int)
theorem Fe{l:List bN}:x∈kh l cls k↔∃i:Nat,x=i/\i<k/\iR l cls i=true:=by
 unfold kh;rw[zF];constructor
 ·rintro⟨i,hi,rfl⟩;obtain⟨h1,h2⟩:=xR.1 hi;exact⟨i,rfl,yX.1 h1,h2⟩
 ·rintro⟨i,rfl,h1,h2⟩;exact⟨i,xR.2 ⟨yX.2 h1,h2⟩,rfl⟩
structure eQ (l:List bN) (cls:List Int) (k:Nat) (out:List Int):Prop where
 asc:iT (tz l) out
 perm:out.Perm (kh l cls k)
theorem eQ.mem{l:List bN}{out:List Int}(h:eQ l cls k out):x∈out↔∃i:Nat,x=i/\i<k/\iR l cls i=true:=by rw[h.perm.mem_iff,Fe]
open _root_.Go.Proofs.Tryz
def ba(l:List UInt8):ByteArray:=⟨l.toArray⟩
theorem JR(l:List UInt8):bl (ba l)=l:=by simp[bl,ba]
theorem Bl(b:ByteArray):ba (bl b)=b:=by cases b;simp[bl,ba]
theorem J6(l:List UInt8):sv l=.string (ba l):=rfl
theorem Tryz.infoCap:(prog.info? 41).map (fun i=>(i.zero,i.size,i.bytes))=some (some (.agg #[B C 0,B C 0,B C 0,B C 0,.string ⟨#[]⟩,B C 0,D none 0 0,B C 0,B C 0,B C 0,B C 0,B C 0,B C 0]),13,128):=by kernel_rfl
def fZ(y:aj×Value):List Value:=y.1.cells y.2
structure iu (c:aj):Prop where
 st:JF c.st
 kind:aU c.kind
 str:c.str.length<=1000
 cont:aU c.cont
 tgt:c.tgt.wf
 lab:c.lab.wf
theorem iu.wf{c:aj}(h:iu c)(hc:c.ch.length<=200):c.wf:=⟨h.st.1,h.kind,h.str,h.cont,h.tgt,h.lab,by omega⟩
structure ar (base:Nat) (w:World) (v:Value) (ys:List (aj×Value)):Prop where
 own:da base 41 13 fZ w v ys
 el:∀y∈ys,fu w base y.2 y.1.ch/\iu y.1
section
variable {p base:Nat} {w w':World} {v v':Value} {ys:List (aj×Value)}
theorem ar.nil(base:Nat)(w:World):ar base w (D none 0 0) []:=⟨da.nil,fun y h=>by simp at h⟩
theorem ar.xt(h:ar base w v ys)(hx:XT p w w')(hp:p<base):ar base w' v ys:=⟨h.own.xt hx hp,fun y hy=>⟨(h.el y hy).1.xt hx hp,(h.el y hy).2⟩⟩
theorem ar.ext(h:ar base w v ys)(hx:ab w w'):ar base w' v ys:=⟨h.own.ext hx,fun y hy=>⟨(h.el y hy).1.ext hx,(h.el y hy).2⟩⟩
theorem ar.far{g:Nat}{cs:Array Value}{t:TypeId}(h:ar base w v ys)(hb:Bk w g cs t)(ht:t≠3)(hv:v.ownBlock≠some g)(i:Nat)(u:Value):ar base (w.setCell ⟨g,i,none⟩ u) v ys :=
 ⟨aN (a:=⟨g,i,none⟩) h.own hv u,fun y hy=>⟨(h.el y hy).1.far hb ht i u,(h.el y hy).2⟩⟩
theorem ar.sets{cs:Array Value}{t:TypeId}(h:ar base w v ys)(hb:Bk w g cs t)(ht:t≠3)(hv:v.ownBlock≠some g)(i:Nat)(vs:List Value):ar base (be w g i vs) v ys:=by
 induction vs generalizing w cs i with
 |nil=>exact h
 |cons u vs ih=>exact ih (h.far hb ht hv i u) (hb.set i u) (i+1)
theorem ar.push{y:aj×Value}(h:ar base w v ys)(hg:w.grownBy w' v.ownBlock)(ho:w'.ownsRow base 41 13 v' (ys.length+1) ((ys.map fZ).flatten++fZ y))(hc:fu w base y.2 y.1.ch)(hk:iu y.1):ar base w' v' (ys++[y]):=by
 refine⟨da.push ho,fun z hz=>?_⟩;rcases zM.1 hz with hz|hz
 ·exact⟨(h.el z hz).1.apart h.own (by decide) hg,(h.el z hz).2⟩
 ·obtain rfl:z=y:=by simpa using hz
  exact⟨hc.apart h.own (by decide) hg,hk⟩
theorem ar.grownI{b:Nat}{z:Value}{xs:List Value}(h:ar base w v ys)(ho:w.ownsRow b 3 1 z n xs)(hg:w.grownBy w' z.ownBlock)(hne:∀y∈ys,∀k,y.2.ownBlock=some k->z.ownBlock≠some k):ar base w' v ys :=
 ⟨cO h.own ho (by decide) hg,fun y hy=>⟨⟨aJ (h.el y hy).1.1 hg (hne y hy),(h.el y hy).1.2⟩,(h.el y hy).2⟩⟩
theorem ar.form(h:ar base w v ys):∃A c,v=D A ys.length c:=h.own.form
theorem ar.base_{b:Nat}(h:ar base w v ys)(hb:b<=base):ar b w v ys:=⟨cd h.own hb,fun y hy=>⟨(h.el y hy).1.base_ hb,(h.el y hy).2⟩⟩
theorem ar.isCs(h:ar base w v ys)(hp:p<base):au p w v (ys.map Prod.fst):=by
 refine bj.of_own (e:=41) (ys.map fZ) (fun cs hcs=>by obtain⟨y,_,rfl⟩:=zF.1 hcs;rfl) (by decide) (by simp) (by rw[zJ];exact h.own) hp ?_;intro k cs x hcs hx;simp only[zP,yO]at hcs hx;obtain⟨y,hy,rfl⟩:=hcs;obtain⟨z,hz,rfl⟩:=hx;rw[hy]at hz;injection hz with hz;subst hz
 have hm:=h.el y (zW hy);exact⟨y.2,rfl,hm.1.isI hp,hm.2.wf hm.1.2.2⟩
end
theorem ll{α:Type}{f:α->List Value}{ys:List α}(hf:∀y∈ys,(f y).length=size){j:Nat}{y:α}(hk:ys[k]?=some y)(hj:j<size):(ys.map f).flatten[k*size+j]?=(f y)[j]?:=by
 induction ys generalizing k with
 |nil=>cases hk
 |cons a l ih =>
  have ha:(f a).length=size:=hf a (by simp);rw[wK,wA];cases k with
  |zero=>simp at hk;subst hk;rw[vQ,yV,yY (by omega)]
  |succ k =>
   rw[yL (by rw[ha,xB];omega)];have:(k+1)*size+j-(f a).length=k*size+j:=by rw[ha,xB];omega
   rw[this];exact ih (fun y hy=>hf y (by simp[hy])) (by simpa using hk)
theorem da.cell{α:Type}{e:Nat}{f:α->List Value}{cap:Nat}{ys:List α}(h:da base e size f w (D (some ⟨g,0,none⟩) n cap) ys)(hf:∀y∈ys,(f y).length=size){j:Nat}{y:α}(hk:ys[k]?=some y)(hj:j<size){u:Value}(hu:(f y)[j]?=some u) :
  w.cell? ⟨g,k*size+j,none⟩=some u:=by
 have hlt:k*size+j<ys.length*size:=by have h1:=(zY.1 hk).1;have:(k+1)*size<=ys.length*size:=uH _ h1;rw[xB]at this;omega
 have hn:n=ys.length:=by obtain⟨A,c,e⟩:=h.form;injection e
 subst hn;rw[World.ownsRow.cellAt h _ hlt,ll hf hk hj,hu]
theorem ar.cells{cap:Nat}{ys:List (aj×Value)}(h:ar base w (D (some ⟨g,0,none⟩) n cap) ys)(hk:k<ys.length) :
  ∃(c:aj) (A:Option Addr) (cc:Nat),ys[k]?=some (c,D A c.ch.length cc)/\fu w base (D A c.ch.length cc) c.ch/\iu c/\w.cell? ⟨g,k*13,none⟩=some (B C c.st.t)/\w.cell? ⟨g,k*13+1,none⟩=some (B C c.st.s)/\w.cell? ⟨g,k*13+2,none⟩=some (B C c.st.q)/\w.cell? ⟨g,k*13+3,none⟩=some (B C c.kind)/\w.cell? ⟨g,k*13+4,none⟩=some (.string (ba c.str))/\w.cell? ⟨g,k*13+5,none⟩=some (B C c.cont)/\w.cell? ⟨g,k*13+6,none⟩=some (D A c.ch.length cc)/\w.cell? ⟨g,k*13+7,none⟩=some (B C c.tgt.s)/\w.cell? ⟨g,k*13+8,none⟩=some (B C c.tgt.q)/\w.cell? ⟨g,k*13+9,none⟩=some (B C c.lab.p)/\w.cell? ⟨g,k*13+10,none⟩=some (B C c.lab.c)/\w.cell? ⟨g,k*13+11,none⟩=some (B C c.lab.g)/\w.cell? ⟨g,k*13+12,none⟩=some (B C c.lab.v):=by
 obtain⟨y,hy⟩:∃y,ys[k]?=some y:=⟨_,zV hk⟩
 obtain⟨c,u⟩:=y;have hm:=h.el _ (zW hy);obtain⟨A,cc,hu⟩:=hm.1.form;simp only at hu;subst hu;have key:=fun (j:Nat) (hj:j<13) (u:Value) (hu:(fZ (c,D A c.ch.length cc))[j]?=some u)=>h.own.cell (fun y _=>rfl) hy hj hu;exact⟨c,A,cc,hy,hm.1,hm.2,key 0 (by omega) _ rfl,key 1 (by omega) _ rfl,key 2 (by omega) _ rfl,key 3 (by omega) _ rfl,key 4 (by omega) _ rfl,key 5 (by omega) _ rfl,key 6 (by omega) _ rfl,key 7 (by omega) _ rfl,key 8 (by omega) _ rfl,key 9 (by omega) _ rfl,key 10 (by omega) _ rfl,key 11 (by omega) _ rfl,key 12 (by omega) _ rfl⟩
structure fw (p:Nat) (w wx:World) (sb:Nat×Array Value×TypeId) (g:Nat) (v:Value) (ys:List (aj×Value)) (c:aj) (A:Option Addr) (cc:Nat):Prop where
 fr:Fr p w wx [sb,(g,#[B C c.st.t,B C c.st.s,B C c.st.q,B C c.kind,.string (ba c.str),B C c.cont,D A c.ch.length cc,B C c.tgt.s,B C c.tgt.q,B C c.lab.p,B C c.lab.c,B C c.lab.g,B C c.lab.v],41)]
 row:ar w.heap.size wx v ys
 ch:fu wx w.heap.size (D A c.ch.length cc) c.ch
 ok:iu c
 ap:v.ownBlock≠some g
section
variable {p:Nat} {w wx w':World} {sb:Nat×Array Value×TypeId} {g:Nat} {v:Value} {ys:List (aj×Value)} {c c':aj} {A A':Option Addr} {cc cc':Nat}
theorem fw.step(h:fw p w wx sb g v ys c A cc)(hx:XT p wx w')(ht:bz w' p):fw p w w' sb g v ys c A cc :=
 ⟨h.fr.step hx ht,h.row.xt hx h.fr.hp,h.ch.xt hx h.fr.hp,h.ok,h.ap⟩
theorem fw.ext(h:fw p w wx sb g v ys c A cc)(hx:ab wx w'):fw p w w' sb g v ys c A cc:=h.step hx.xt (h.fr.tp.ext hx)
theorem fw.upd(h:fw p w wx sb g v ys c A cc)(i:Nat)(vs:List Value)(hf:Fr p w (be wx g i vs) [sb,(g,#[B C c'.st.t,B C c'.st.s,B C c'.st.q,B C c'.kind,.string (ba c'.str),B C c'.cont,D A' c'.ch.length cc',B C c'.tgt.s,B C c'.tgt.q,B C c'.lab.p,B C c'.lab.c,B C c'.lab.g,B C c'.lab.v],41)])(hc:fu wx w.heap.size (D A' c'.ch.length cc') c'.ch)(hk:iu c') :
  fw p w (be wx g i vs) sb g v ys c' A' cc' :=
 ⟨hf,h.row.sets (h.fr.at_ 1 rfl) (by decide) h.ap i vs,eZ hc (h.fr.at_ 1 rfl) (by decide) i vs,hk,h.ap⟩
theorem fw.cells(h:fw p w wx sb g v ys c A cc):wx.cell? ⟨g,0,none⟩=some (B C c.st.t)/\wx.cell? ⟨g,1,none⟩=some (B C c.st.s)/\wx.cell? ⟨g,2,none⟩=some (B C c.st.q)/\wx.cell? ⟨g,3,none⟩=some (B C c.kind)/\wx.cell? ⟨g,4,none⟩=some (.string (ba c.str))/\wx.cell? ⟨g,5,none⟩=some (B C c.cont)/\wx.cell? ⟨g,6,none⟩=some (D A c.ch.length cc)/\wx.cell? ⟨g,7,none⟩=some (B C c.tgt.s)/\wx.cell? ⟨g,8,none⟩=some (B C c.tgt.q)/\wx.cell? ⟨g,9,none⟩=some (B C c.lab.p)/\wx.cell? ⟨g,10,none⟩=some (B C c.lab.c)/\wx.cell? ⟨g,11,none⟩=some (B C c.lab.g)/\wx.cell? ⟨g,12,none⟩=some (B C c.lab.v) :=
 have b:=h.fr.at_ 1 rfl;⟨b.c 0 rfl,b.c 1 rfl,b.c 2 rfl,b.c 3 rfl,b.c 4 rfl,b.c 5 rfl,b.c 6 rfl,b.c 7 rfl,b.c 8 rfl,b.c 9 rfl,b.c 10 rfl,b.c 11 rfl,b.c 12 rfl⟩
end
theorem BH{p:Nat}{wx w':World}{sb:Nat×Array Value×TypeId}{v v':Value}{ys:List (aj×Value)}{y:aj×Value}(hr:ar w.heap.size wx v ys)(hf:Fr p w wx [sb])(hsb:sb.2.2≠41)(hg:wx.grownBy w' v.ownBlock)(ho:w'.ownsRow w.heap.size 41 13 v' (ys.length+1) ((ys.map fZ).flatten++fZ y))(hc:fu wx w.heap.size y.2 y.1.ch)(hk:iu y.1):ar w.heap.size w' v' (ys++[y])/\Fr p w w' [sb]:=by
 refine⟨hr.push hg ho hc hk,hf.grown hg (fun k x hx=>?_) (aq hr.own)⟩;obtain rfl:x=sb:=by
  cases k with
  |zero=>simpa using hx.symm
  |succ k=>simp at hx
 exact aG hr.own (hf.at_ 0 (b:=x.1) (cs:=x.2.1) (t:=x.2.2) rfl) hsb
theorem vx(a b c a' b' c':Int)(w:World):(Op.equalIn 10000 35 (.agg #[B C a,B C b,B C c]) (.agg #[B C a',B C b',B C c'])).run prog w=.ok (decide (a=a'/\b=b'/\c=c')) w:=by
 have u3:=underlying3;have a3:=isAgg3;have z3:=sizeOf3;have hS:prog.underlying 35=some (.struct (prog.fieldsOf 35)):=by kernel_rfl
 have hp:prog.stoodInHeld 35=false:=by kernel_rfl
 rw[show (10000:Nat)=9999+1 from rfl,run_equalIn_agg w 9999 35 _ _ hS hp];simp only[Program.fieldsOf,underlying35];go_simp;by_cases h1:a=a'<;>by_cases h2:b=b'<;>by_cases h3:c=c'<;>simp[h1,h2,h3]
theorem nt:prog.eqGuardType prog.depth 35=false:=by kernel_rfl
theorem jW(a b a' b':Int)(w:World):(Op.equalIn 10000 37 (.agg #[B C a,B C b]) (.agg #[B C a',B C b'])).run prog w=.ok (decide (a=a'/\b=b')) w:=by
 have u3:=underlying3;have a3:=isAgg3;have z3:=sizeOf3;have hS:prog.underlying 37=some (.struct (prog.fieldsOf 37)):=by kernel_rfl
 have hp:prog.stoodInHeld 37=false:=by kernel_rfl
 rw[show (10000:Nat)=9999+1 from rfl,run_equalIn_agg w 9999 37 _ _ hS hp];simp only[Program.fieldsOf,underlying37];go_simp;by_cases h1:a=a'<;>by_cases h2:b=b'<;>simp[h1,h2]
theorem fC:prog.eqGuardType prog.depth 37=false:=by kernel_rfl
theorem ox(a b c d a' b' c' d':Int)(w:World):(Op.equalIn 10000 39 (.agg #[B C a,B C b,B C c,B C d]) (.agg #[B C a',B C b',B C c',B C d'])).run prog w=.ok (decide (a=a'/\b=b'/\c=c'/\d=d')) w:=by
 have u3:=underlying3;have a3:=isAgg3;have z3:=sizeOf3;have hS:prog.underlying 39=some (.struct (prog.fieldsOf 39)):=by kernel_rfl
 have hp:prog.stoodInHeld 39=false:=by kernel_rfl
 rw[show (10000:Nat)=9999+1 from rfl,run_equalIn_agg w 9999 39 _ _ hS hp];simp only[Program.fieldsOf,underlying39];go_simp;by_cases h1:a=a'<;>by_cases h2:b=b'<;>by_cases h3:c=c'<;>by_cases h4:d=d'<;>simp[h1,h2,h3,h4]
theorem ij:prog.eqGuardType prog.depth 39=false:=by kernel_rfl
theorem J9{e:Nat}{v:Value}{xs:List Value}(h:w.ownsRow base e size v n xs):∃A c,v=D A n c:=by
 rcases h.2 with ⟨e,h0⟩|⟨g,cap,cur,e,_⟩
 ·exact⟨none,0,by rw[e,h0]⟩
 ·exact⟨_,_,e⟩
theorem DU(l:List UInt8):(ba l).toList=l:=by rw[ByteArray.toList_eq];simp[ba]
theorem J4{xt xs xq xk xct xts xtq xlp xlc xlg xlv yt ys yq yk yct yts ytq ylp ylc ylg ylv:Int}{xstr ystr:List UInt8}{xch ych:List Int}:((⟨⟨xt,xs,xq⟩,xk,xstr,xct,xch,⟨xts,xtq⟩,⟨xlp,xlc,xlg,xlv⟩⟩:aj)=⟨⟨yt,ys,yq⟩,yk,ystr,yct,ych,⟨yts,ytq⟩,⟨ylp,ylc,ylg,ylv⟩⟩) ↔
  (xt=yt/\xs=ys/\xq=yq)/\xk=yk/\(ba xstr).toList=(ba ystr).toList/\xct=yct/\xch=ych/\(xts=yts/\xtq=ytq)/\(xlp=ylp/\xlc=ylc/\xlg=ylg/\xlv=ylv):=by
 rw[aj.eq_iff,bN.eq_iff,gT.eq_iff,cJ.eq_iff,DU,DU]
end Go.Proofs.YtpaidaphacoblaaGreatDoor

