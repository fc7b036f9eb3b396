import Derived.Test.YtkaajgoeahahpaaGreatDoorCapS
import Derived.Test.YtkaajgoeahahpaaGreatDoorK16
set_option linter.all false
set_option maxRecDepth 100000
set_option maxHeartbeats 0
namespace Go.Proofs.YtkaajgoeahahpaaGreatDoor
open Go.Value renaming int→B,slice→D
open Go.IntKind renaming i64→C
open Go.RowKit _root_.Go.Proofs.Tryz
variable {b g k n p:Nat} {w:World}
def ba(l:List UInt8):ByteArray:=⟨l.toArray⟩
theorem JR(l:List UInt8):bl (ba l)=l:=by simp[bl,ba]
theorem Bl(b:ByteArray):ba (bl b)=b:=by cases b;simp[bl,ba]
theorem J6(l:List UInt8):sv l=.string (ba l):=rfl
theorem Tryz.infoCap:(prog.info? 47).map (fun i=>(i.zero,i.size,i.bytes))=some (some (.agg #[B C 0,B C 0,B C 0,B C 0,.string ⟨#[]⟩,B C 0,D none 0 0,B C 0,B C 0,B C 0,B C 0,B C 0,B C 0]),13,128):=by kernel_rfl
def fZ(y:aj×Value):List Value:=y.1.cells y.2
structure iu (c:aj):Prop where
 st:JF c.st
 kind:aU c.kind
 str:c.str.length<=1000
 cont:aU c.cont
 tgt:c.tgt.wf
 lab:c.lab.wf
theorem iu.wf{c:aj}(h:iu c)(hc:c.ch.length<=200):c.wf:=⟨h.st.1,h.kind,h.str,h.cont,h.tgt,h.lab,by omega⟩
structure ar (base:Nat) (w:World) (v:Value) (ys:List (aj×Value)):Prop where
 own:da base 47 13 fZ w v ys
 el:∀y∈ys,fu w base y.2 y.1.ch/\iu y.1
section
variable {p base:Nat} {w w':World} {v v':Value} {ys:List (aj×Value)}
theorem ar.nil(base:Nat)(w:World):ar base w (D none 0 0) []:=⟨da.nil,fun y h=>by simp at h⟩
theorem ar.xt(h:ar base w v ys)(hx:XT p w w')(hp:p<base):ar base w' v ys:=⟨h.own.xt hx hp,fun y hy=>⟨(h.el y hy).1.xt hx hp,(h.el y hy).2⟩⟩
theorem ar.ext(h:ar base w v ys)(hx:ab w w'):ar base w' v ys:=⟨h.own.ext hx,fun y hy=>⟨(h.el y hy).1.ext hx,(h.el y hy).2⟩⟩
theorem ar.far{g:Nat}{cs:Array Value}{t:TypeId}(h:ar base w v ys)(hb:Bk w g cs t)(ht:t≠3)(hv:v.ownBlock≠some g)(i:Nat)(u:Value):ar base (w.setCell ⟨g,i,none⟩ u) v ys :=
 ⟨aN (a:=⟨g,i,none⟩) h.own hv u,fun y hy=>⟨(h.el y hy).1.far hb ht i u,(h.el y hy).2⟩⟩
theorem ar.sets{cs:Array Value}{t:TypeId}(h:ar base w v ys)(hb:Bk w g cs t)(ht:t≠3)(hv:v.ownBlock≠some g)(i:Nat)(vs:List Value):ar base (be w g i vs) v ys:=by
 induction vs generalizing w cs i with
 |nil=>exact h
 |cons u vs ih=>exact ih (h.far hb ht hv i u) (hb.set i u) (i+1)
theorem ar.push{y:aj×Value}(h:ar base w v ys)(hg:w.grownBy w' v.ownBlock)(ho:w'.ownsRow base 47 13 v' (ys.length+1) ((ys.map fZ).flatten++fZ y))(hc:fu w base y.2 y.1.ch)(hk:iu y.1):ar base w' v' (ys++[y]):=by
 refine⟨da.push ho,fun z hz=>?_⟩;rcases zM.1 hz with hz|hz
 ·exact⟨(h.el z hz).1.apart h.own (by decide) hg,(h.el z hz).2⟩
 ·obtain rfl:z=y:=by simpa using hz
  exact⟨hc.apart h.own (by decide) hg,hk⟩
theorem ar.grownI{z:Value}{xs:List Value}(h:ar base w v ys)(ho:w.ownsRow b 3 1 z n xs)(hg:w.grownBy w' z.ownBlock)(hne:∀y∈ys,∀k,y.2.ownBlock=some k->z.ownBlock≠some k):ar base w' v ys :=
 ⟨cO h.own ho (by decide) hg,fun y hy=>⟨⟨aJ (h.el y hy).1.1 hg (hne y hy),(h.el y hy).1.2⟩,(h.el y hy).2⟩⟩
theorem ar.form(h:ar base w v ys):∃A c,v=D A ys.length c:=h.own.form
theorem ar.base_{b:Nat}(h:ar base w v ys)(hb:b<=base):ar b w v ys:=⟨cd h.own hb,fun y hy=>⟨(h.el y hy).1.base_ hb,(h.el y hy).2⟩⟩
theorem ar.isCs(h:ar base w v ys)(hp:p<base):au p w v (ys.map Prod.fst):=by
 refine bj.of_own (e:=47) (ys.map fZ) (fun cs hcs=>by obtain⟨y,_,rfl⟩:=zF.1 hcs;rfl) (by decide) (by simp) (by rw[zJ];exact h.own) hp ?_;intro k cs x hcs hx;simp only[zP,yO]at hcs hx;obtain⟨y,hy,rfl⟩:=hcs;obtain⟨z,hz,rfl⟩:=hx;rw[hy]at hz;injection hz with hz;subst hz
 have hm:=h.el y (zW hy);exact⟨y.2,rfl,hm.1.isI hp,hm.2.wf hm.1.2.2⟩
end
theorem ll{α:Type}{f:α->List Value}{size:Nat}{ys:List α}(hf:∀y∈ys,(f y).length=size){j:Nat}{y:α}(hk:ys[k]?=some y)(hj:j<size):(ys.map f).flatten[k*size+j]?=(f y)[j]?:=by
 induction ys generalizing k with
 |nil=>cases hk
 |cons a l ih =>
  have ha:(f a).length=size:=hf a (by simp);rw[wK,wA];cases k with
  |zero=>simp at hk;subst hk;rw[vQ,yV,yY (by omega)]
  |succ k =>
   rw[yL (by rw[ha,xB];omega)];have:(k+1)*size+j-(f a).length=k*size+j:=by rw[ha,xB];omega
   rw[this];exact ih (fun y hy=>hf y (by simp[hy])) (by simpa using hk)
theorem da.cell{α:Type}{base e size:Nat}{f:α->List Value}{cap:Nat}{ys:List α}(h:da base e size f w (D (some ⟨g,0,none⟩) n cap) ys)(hf:∀y∈ys,(f y).length=size){j:Nat}{y:α}(hk:ys[k]?=some y)(hj:j<size){u:Value}(hu:(f y)[j]?=some u) :
  w.cell? ⟨g,k*size+j,none⟩=some u:=by
 have hlt:k*size+j<ys.length*size:=by have h1:=(zY.1 hk).1;have:(k+1)*size<=ys.length*size:=uH _ h1;rw[xB]at this;omega
 have hn:n=ys.length:=by obtain⟨A,c,e⟩:=h.form;injection e
 subst hn;rw[World.ownsRow.cellAt h _ hlt,ll hf hk hj,hu]
theorem ar.cells{base:Nat}{cap:Nat}{ys:List (aj×Value)}(h:ar base w (D (some ⟨g,0,none⟩) n cap) ys)(hk:k<ys.length) :
  ∃(c:aj) (A:Option Addr) (cc:Nat),ys[k]?=some (c,D A c.ch.length cc)/\fu w base (D A c.ch.length cc) c.ch/\iu c/\w.cell? ⟨g,k*13,none⟩=some (B C c.st.t)/\w.cell? ⟨g,k*13+1,none⟩=some (B C c.st.s)/\w.cell? ⟨g,k*13+2,none⟩=some (B C c.st.q)/\w.cell? ⟨g,k*13+3,none⟩=some (B C c.kind)/\w.cell? ⟨g,k*13+4,none⟩=some (.string (ba c.str))/\w.cell? ⟨g,k*13+5,none⟩=some (B C c.cont)/\w.cell? ⟨g,k*13+6,none⟩=some (D A c.ch.length cc)/\w.cell? ⟨g,k*13+7,none⟩=some (B C c.tgt.s)/\w.cell? ⟨g,k*13+8,none⟩=some (B C c.tgt.q)/\w.cell? ⟨g,k*13+9,none⟩=some (B C c.lab.p)/\w.cell? ⟨g,k*13+10,none⟩=some (B C c.lab.c)/\w.cell? ⟨g,k*13+11,none⟩=some (B C c.lab.g)/\w.cell? ⟨g,k*13+12,none⟩=some (B C c.lab.v):=by
 obtain⟨y,hy⟩:∃y,ys[k]?=some y:=⟨_,zV hk⟩
 obtain⟨c,u⟩:=y;have hm:=h.el _ (zW hy);obtain⟨A,cc,hu⟩:=hm.1.form;simp only at hu;subst hu;have key:=fun (j:Nat) (hj:j<13) (u:Value) (hu:(fZ (c,D A c.ch.length cc))[j]?=some u)=>h.own.cell (fun y _=>rfl) hy hj hu;exact⟨c,A,cc,hy,hm.1,hm.2,key 0 (by omega) _ rfl,key 1 (by omega) _ rfl,key 2 (by omega) _ rfl,key 3 (by omega) _ rfl,key 4 (by omega) _ rfl,key 5 (by omega) _ rfl,key 6 (by omega) _ rfl,key 7 (by omega) _ rfl,key 8 (by omega) _ rfl,key 9 (by omega) _ rfl,key 10 (by omega) _ rfl,key 11 (by omega) _ rfl,key 12 (by omega) _ rfl⟩
structure fw (p:Nat) (w wx:World) (sb:Nat×Array Value×TypeId) (g:Nat) (v:Value) (ys:List (aj×Value)) (c:aj) (A:Option Addr) (cc:Nat):Prop where
 fr:Fr p w wx [sb,(g,#[B C c.st.t,B C c.st.s,B C c.st.q,B C c.kind,.string (ba c.str),B C c.cont,D A c.ch.length cc,B C c.tgt.s,B C c.tgt.q,B C c.lab.p,B C c.lab.c,B C c.lab.g,B C c.lab.v],47)]
 row:ar w.heap.size wx v ys
 ch:fu wx w.heap.size (D A c.ch.length cc) c.ch
 ok:iu c
 ap:v.ownBlock≠some g
section
variable {p:Nat} {w wx w':World} {sb:Nat×Array Value×TypeId} {g:Nat} {v:Value} {ys:List (aj×Value)} {c c':aj} {A A':Option Addr} {cc cc':Nat}
theorem fw.step(h:fw p w wx sb g v ys c A cc)(hx:XT p wx w')(ht:bz w' p):fw p w w' sb g v ys c A cc :=
 ⟨h.fr.step hx ht,h.row.xt hx h.fr.hp,h.ch.xt hx h.fr.hp,h.ok,h.ap⟩
theorem fw.ext(h:fw p w wx sb g v ys c A cc)(hx:ab wx w'):fw p w w' sb g v ys c A cc:=h.step hx.xt (h.fr.tp.ext hx)
theorem fw.upd(h:fw p w wx sb g v ys c A cc)(i:Nat)(vs:List Value)(hf:Fr p w (be wx g i vs) [sb,(g,#[B C c'.st.t,B C c'.st.s,B C c'.st.q,B C c'.kind,.string (ba c'.str),B C c'.cont,D A' c'.ch.length cc',B C c'.tgt.s,B C c'.tgt.q,B C c'.lab.p,B C c'.lab.c,B C c'.lab.g,B C c'.lab.v],47)])(hc:fu wx w.heap.size (D A' c'.ch.length cc') c'.ch)(hk:iu c') :
  fw p w (be wx g i vs) sb g v ys c' A' cc' :=
 ⟨hf,h.row.sets (h.fr.at_ 1 rfl) (by decide) h.ap i vs,eZ hc (h.fr.at_ 1 rfl) (by decide) i vs,hk,h.ap⟩
theorem fw.cells(h:fw p w wx sb g v ys c A cc):wx.cell? ⟨g,0,none⟩=some (B C c.st.t)/\wx.cell? ⟨g,1,none⟩=some (B C c.st.s)/\wx.cell? ⟨g,2,none⟩=some (B C c.st.q)/\wx.cell? ⟨g,3,none⟩=some (B C c.kind)/\wx.cell? ⟨g,4,none⟩=some (.string (ba c.str))/\wx.cell? ⟨g,5,none⟩=some (B C c.cont)/\wx.cell? ⟨g,6,none⟩=some (D A c.ch.length cc)/\wx.cell? ⟨g,7,none⟩=some (B C c.tgt.s)/\wx.cell? ⟨g,8,none⟩=some (B C c.tgt.q)/\wx.cell? ⟨g,9,none⟩=some (B C c.lab.p)/\wx.cell? ⟨g,10,none⟩=some (B C c.lab.c)/\wx.cell? ⟨g,11,none⟩=some (B C c.lab.g)/\wx.cell? ⟨g,12,none⟩=some (B C c.lab.v) :=
 have b:=h.fr.at_ 1 rfl;⟨b.c 0 rfl,b.c 1 rfl,b.c 2 rfl,b.c 3 rfl,b.c 4 rfl,b.c 5 rfl,b.c 6 rfl,b.c 7 rfl,b.c 8 rfl,b.c 9 rfl,b.c 10 rfl,b.c 11 rfl,b.c 12 rfl⟩
end
theorem BH{wx w':World}{sb:Nat×Array Value×TypeId}{v v':Value}{ys:List (aj×Value)}{y:aj×Value}(hr:ar w.heap.size wx v ys)(hf:Fr p w wx [sb])(hsb:sb.2.2≠47)(hg:wx.grownBy w' v.ownBlock)(ho:w'.ownsRow w.heap.size 47 13 v' (ys.length+1) ((ys.map fZ).flatten++fZ y))(hc:fu wx w.heap.size y.2 y.1.ch)(hk:iu y.1):ar w.heap.size w' v' (ys++[y])/\Fr p w w' [sb]:=by
 refine⟨hr.push hg ho hc hk,hf.grown hg (fun k x hx=>?_) (aq hr.own)⟩;obtain rfl:x=sb:=by
  cases k with
  |zero=>simpa using hx.symm
  |succ k=>simp at hx
 exact aG hr.own (hf.at_ 0 (b:=x.1) (cs:=x.2.1) (t:=x.2.2) rfl) hsb
theorem Bh(t s q:Int)(w:World) :
  Calls prog 139 #[.agg #[B C t,B C s,B C q]] w fun e w'=>e=.returned (.bool (dT ⟨t,s,q⟩))/\ab w w':=by
 go_enter func139,ntmps139
 go_wp2
 all_goals (go_ret;exact⟨aa (by first|(simp[dT];omega)|(rw[yE];simp[dT];omega)),(zE _).alloc _⟩)
theorem mc(a b:Int)(w:World) :
  Calls prog 141 #[B C a,B C b] w fun e w'=>e=.returned (B C (bg a b))/\w=w':=by
 go_enter func141,ntmps141
 go_wp2
 all_goals (go_ret;exact⟨ag (by unfold bg;first|rw[if_pos (by omega)]|rw[if_neg (by omega),if_pos (by omega)]|rw[if_neg (by omega),if_neg (by omega)]),rfl⟩)
theorem vu(t s q t' s' q':Int)(w:World) :
  Calls prog 100 #[.agg #[B C t,B C s,B C q],.agg #[B C t',B C s',B C q']] w fun e w'=>e=.returned (B C (me ⟨t,s,q⟩ ⟨t',s',q'⟩))/\ab w w':=by
 have H1:Bx (me ⟨t,s,q⟩ ⟨t',s',q'⟩=if bg t t'≠0 then bg t t' else if bg s s'≠0 then bg s s' else bg q q'):=⟨rfl⟩
 obtain⟨c1,hc1⟩:=nm (bg t t');obtain⟨c2,hc2⟩:=nm (bg s s');obtain⟨c3,hc3⟩:=nm (bg q q');rw[<-hc1,<-hc2,<-hc3]at H1;generalize me ⟨t,s,q⟩ ⟨t',s',q'⟩=r at *
 replace hc1:=zZ hc1;replace hc2:=zZ hc2;replace hc3:=zZ hc3;go_enter func100,ntmps100
 go_wp2_with fail;refine (mc t t' _).mono ?_;rintro e w1 ⟨rfl,rfl⟩;rw[<-hc1.out];by_cases h1:c1=0
 ·subst h1;go_wp2_with fail;refine (mc s s' _).mono ?_;rintro e w1 ⟨rfl,rfl⟩;rw[<-hc2.out];by_cases h2:c2=0
  ·subst h2;go_wp2_with fail;refine (mc q q' _).mono ?_;rintro e w1 ⟨rfl,rfl⟩;rw[<-hc3.out];go_wp2_with fail;go_ret
   exact⟨ag (by rw[H1.out];simp),((zE _).alloc _).alloc _⟩
  ·have h2b:(c2==0)=false:=beq_eq_false_iff_ne.2 h2;replace h2:=zZ h2;go_wp2_with fail;go_ret
   exact⟨ag (by rw[H1.out];simp[h2.out]),((zE _).alloc _).alloc _⟩
 ·have h1b:(c1==0)=false:=beq_eq_false_iff_ne.2 h1;replace h1:=zZ h1;go_wp2_with fail;go_ret
  exact⟨ag (by rw[H1.out];simp[h1.out]),((zE _).alloc _).alloc _⟩
theorem Fo(t s q t' s' q' x y:Int)(w:World) :
  Calls prog 140 #[.agg #[B C t,B C s,B C q],.agg #[B C t',B C s',B C q'],B C x,B C y] w fun e w'=>e=.returned (.bool (iz ⟨t,s,q⟩ ⟨t',s',q'⟩ x y))/\ab w w':=by
 go_enter func140,ntmps140
 go_wp2
 all_goals (go_ret;exact⟨aa (by first|(simp[iz];omega)|(rw[yE];simp[iz];omega)|simp_all [iz]),((zE _).alloc _).alloc _⟩)
theorem vx(a b c a' b' c':Int)(w:World):(Op.equalIn 10000 41 (.agg #[B C a,B C b,B C c]) (.agg #[B C a',B C b',B C c'])).run prog w=.ok (decide (a=a'/\b=b'/\c=c')) w:=by
 have u3:=underlying3;have a3:=isAgg3;have z3:=sizeOf3;have hS:prog.underlying 41=some (.struct (prog.fieldsOf 41)):=by kernel_rfl
 have hp:prog.stoodInHeld 41=false:=by kernel_rfl
 rw[show (10000:Nat)=9999+1 from rfl,run_equalIn_agg w 9999 41 _ _ hS hp];simp only[Program.fieldsOf,underlying41];go_simp;by_cases h1:a=a'<;>by_cases h2:b=b'<;>by_cases h3:c=c'<;>simp[h1,h2,h3]
theorem nt:prog.eqGuardType prog.depth 41=false:=by kernel_rfl
theorem jW(a b a' b':Int)(w:World):(Op.equalIn 10000 43 (.agg #[B C a,B C b]) (.agg #[B C a',B C b'])).run prog w=.ok (decide (a=a'/\b=b')) w:=by
 have u3:=underlying3;have a3:=isAgg3;have z3:=sizeOf3;have hS:prog.underlying 43=some (.struct (prog.fieldsOf 43)):=by kernel_rfl
 have hp:prog.stoodInHeld 43=false:=by kernel_rfl
 rw[show (10000:Nat)=9999+1 from rfl,run_equalIn_agg w 9999 43 _ _ hS hp];simp only[Program.fieldsOf,underlying43];go_simp;by_cases h1:a=a'<;>by_cases h2:b=b'<;>simp[h1,h2]
theorem fC:prog.eqGuardType prog.depth 43=false:=by kernel_rfl
theorem ox(a b c d a' b' c' d':Int)(w:World):(Op.equalIn 10000 45 (.agg #[B C a,B C b,B C c,B C d]) (.agg #[B C a',B C b',B C c',B C d'])).run prog w=.ok (decide (a=a'/\b=b'/\c=c'/\d=d')) w:=by
 have u3:=underlying3;have a3:=isAgg3;have z3:=sizeOf3;have hS:prog.underlying 45=some (.struct (prog.fieldsOf 45)):=by kernel_rfl
 have hp:prog.stoodInHeld 45=false:=by kernel_rfl
 rw[show (10000:Nat)=9999+1 from rfl,run_equalIn_agg w 9999 45 _ _ hS hp];simp only[Program.fieldsOf,underlying45];go_simp;by_cases h1:a=a'<;>by_cases h2:b=b'<;>by_cases h3:c=c'<;>by_cases h4:d=d'<;>simp[h1,h2,h3,h4]
theorem ij:prog.eqGuardType prog.depth 45=false:=by kernel_rfl
theorem Jd{off:Nat}{cs:List Value}{x:bN}(hc:∀j u,cs[j]?=some u->w.cell? ⟨b,off+j,none⟩=some u)(h:oT w cs x) :
  w.cell? ⟨b,off,none⟩=some (B C x.t)/\w.cell? ⟨b,off+1,none⟩=some (B C x.s)/\w.cell? ⟨b,off+2,none⟩=some (B C x.q):=by
 obtain⟨rfl,_⟩:=h;exact⟨hc 0 _ rfl,hc 1 _ rfl,hc 2 _ rfl⟩
theorem oI.cells{off c:Nat}{l:List bN}(h:oI p w (D (some ⟨b,off,none⟩) n c) l)(hk:k<n) :
  ∃t s q:Int,Hid (l[k]?=some ⟨t,s,q⟩)/\w.cell? ⟨b,off+k*3,none⟩=some (B C t)/\w.cell? ⟨b,off+k*3+1,none⟩=some (B C s)/\w.cell? ⟨b,off+k*3+2,none⟩=some (B C q)/\bN.wf ⟨t,s,q⟩:=by
 obtain⟨cs,⟨t,s,q⟩,-,hc,hR,hx⟩:=h.cell_ hk;obtain⟨h0,h1,h2⟩:=Jd hc hR;exact⟨t,s,q,hx,h0,h1,h2,hR.2⟩
theorem Ba(v vc:Value)(l:List bN)(cls:List Int)(i:Nat)(w:World){q:Nat}(hv:oI p w v l)(hc:ak q w vc cls)(hl:cls.length=l.length)(hi:i<l.length) :
  Calls prog 99 #[v,vc,B C (i:Int)] w fun e w'=>e=.returned (.bool (iR l cls i))/\ab w w':=by
 obtain⟨A,n,c,rfl,hnc,hcc,hnn,HL⟩:=hv.open_;obtain⟨A2,n2,c2,rfl,hnc2,hcc2,hnn2,HL2⟩:=hc.open_;have hin:i<n:=by have:=HL.out;omega
 have hi2:i<n2:=by have:=HL2.out;omega
 have hn12:n<=n2:=by have:=HL.out;have:=HL2.out;omega
 obtain⟨b,off,_,_,rfl,-⟩:=hv.at_ hin;obtain⟨b2,off2,x,rfl,y0,HX,-⟩:=hc.at_ hi2;obtain⟨t,s,q',HT,a0,a1,a2,-⟩:=oI.cells hv hin;have HV:Bx (oI p w (D (some ⟨b,off,none⟩) n c) l/\ak q w (D (some ⟨b2,off2,none⟩) n2 c2) cls/\cls.length=l.length):=⟨⟨hv,hc,hl⟩⟩
 clear hv hc hl;go_enter func99,ntmps99
 go_wp2_with fail;refine (Bh t s q' _).mono ?_;rintro e w1 ⟨rfl,hx1⟩;cases hb:dT ⟨t,s,q'⟩ with
 |false =>
  have HB:=zZ (IV (cls:=cls) HT.out hb);clear hb;go_wp2_with fail;go_ret
  exact⟨aa HB.out.symm,hx1⟩
 |true =>
  replace hb:=zZ hb;have HE1:Bx (ab w w1):=⟨hx1⟩
  clear hx1;go_wp2_with fail;go_loopw [7] (fun s7 wr=>∃k:Nat,s7=B C k/\k<=n/\Bx (ab w wr/\∀j,j<k->Gg l cls i j=false)) (fun k _=>n-(intOf k).toNat)
  case atStart=>exact⟨0,rfl,by omega,⟨⟨HE1.out,fun j hj=>by omega⟩⟩⟩
  case round =>
   clear HE1;obtain⟨k,rfl,hk,HR⟩:=hrel;by_cases hkn:k<n
   ·have hk2:k<n2:=by omega
    obtain⟨t',s',q'',HT',e0,e1,e2,-⟩:=oI.cells (HV.out.1.ext (oT.stab p) HR.out.1) hkn;obtain⟨y,z0,HY,-⟩:=(HV.out.2.1.ext HR.out.1).cell_ hk2;have a0':=HR.out.1.cell a0;have a1':=HR.out.1.cell a1;have a2':=HR.out.1.cell a2;have y0':=HR.out.1.cell y0;have HAG:=zZ (jU HT.out HT'.out HX.out HY.out);clear a0 a1 a2 y0;have kS:wr.drew.cell? ⟨b,off+i*3,none⟩=some (B C t)/\wr.drew.cell? ⟨b,off+i*3+1,none⟩=some (B C s)/\wr.drew.cell? ⟨b,off+i*3+2,none⟩=some (B C q')/\wr.drew.cell? ⟨b,off+k*3,none⟩=some (B C t')/\wr.drew.cell? ⟨b,off+k*3+1,none⟩=some (B C s')/\wr.drew.cell? ⟨b,off+k*3+2,none⟩=some (B C q'')/\wr.drew.cell? ⟨b2,off2+i,none⟩=some (B C x)/\wr.drew.cell? ⟨b2,off2+k,none⟩=some (B C y):=⟨a0',a1',a2',e0,e1,e2,y0',z0⟩
    clear a0' a1' a2' e0 e1 e2 y0' z0;have hd:ab w wr.drew:=HR.out.1.drew;have HA:Bx (∀j,j<k->Gg l cls i j=false):=⟨HR.out.2⟩
    go_upto_region 6 with (fail)
    refine zR 99 (fun w'=>w'.cell? ⟨b,off+i*3,none⟩=some (B C t)/\w'.cell? ⟨b,off+i*3+1,none⟩=some (B C s)/\w'.cell? ⟨b,off+i*3+2,none⟩=some (B C q')/\w'.cell? ⟨b,off+k*3,none⟩=some (B C t')/\w'.cell? ⟨b,off+k*3+1,none⟩=some (B C s')/\w'.cell? ⟨b,off+k*3+2,none⟩=some (B C q'')/\w'.cell? ⟨b2,off2+i,none⟩=some (B C x)/\w'.cell? ⟨b2,off2+k,none⟩=some (B C y)) ?_;refine zS 4 [(0,20),(1,21),(2,22),(3,23)] kS ?_;iterate 4 refine zT ?_
    refine zN (zO 4 (fun K hK=>?_));go_simp;refine (Bh t' s' q'' _).mono ?_;rintro e w2 ⟨rfl,hx2⟩;have HE2:Bx (ab w w2):=⟨hd.trans hx2⟩
    clear hd HR;have kS2:w2.cell? ⟨b,off+i*3,none⟩=some (B C t)/\w2.cell? ⟨b,off+i*3+1,none⟩=some (B C s)/\w2.cell? ⟨b,off+i*3+2,none⟩=some (B C q')/\w2.cell? ⟨b,off+k*3,none⟩=some (B C t')/\w2.cell? ⟨b,off+k*3+1,none⟩=some (B C s')/\w2.cell? ⟨b,off+k*3+2,none⟩=some (B C q'')/\w2.cell? ⟨b2,off2+i,none⟩=some (B C x)/\w2.cell? ⟨b2,off2+k,none⟩=some (B C y):=⟨hx2.cell kS.1,hx2.cell kS.2.1,hx2.cell kS.2.2.1,hx2.cell kS.2.2.2.1,hx2.cell kS.2.2.2.2.1,hx2.cell kS.2.2.2.2.2.1,hx2.cell kS.2.2.2.2.2.2.1,hx2.cell kS.2.2.2.2.2.2.2⟩
    clear hx2 kS;cases hb1:dT ⟨t',s',q''⟩ with
    |false =>
     have HF:=zZ (show Gg l cls i k=false by rw[HAG.out,hb1];rfl);clear hb1;refine hK.out _ _ (fun _=>(kS2)) ?_;clear hK K;try simp only[kA]
     refine zS 1 [(5,25)] kS2 ?_;refine zT ?_;refine zN (zS 33 [(6,26),(7,27),(8,28),(9,29),(10,30),(11,31),(12,32),(13,33),(14,34),(15,35),(16,36),(17,37),(18,38),(19,39),(20,40),(21,41),(22,42),(23,43),(24,44),(25,45),(26,46),(27,47),(28,48),(29,49),(30,50),(31,51),(32,52),(33,53),(34,54),(35,55),(36,56),(37,57),(38,58)] kS2 ?_);iterate 33 (apply zK;exact⟨rfl,rfl⟩;simp only[kA];exact rfl)
     refine zN (zS 1 [(39,59)] kS2 ?_);refine zT ?_;refine zN (zD ?_);go_wp2_with fail;go_roundw
     case rel=>exact⟨k+1,by go_num,by omega,⟨⟨HE2.out,fun j hj=>by rcases zU j k with h|h;exact HA.out j h;obtain rfl:j=k:=(by omega);exact HF.out⟩⟩⟩
     case measure=>simp[intOf];omega
    |true =>
     refine hK.out _ _ (fun _=>(kS2)) ?_;clear hK K;try simp only[kA]
     refine zS 17 [(5,25),(6,26),(7,27),(8,28),(9,29),(10,30),(11,31),(12,32),(13,33),(14,34),(15,35),(16,36),(17,37),(18,38),(19,39),(20,40),(21,41)] kS2 ?_;iterate 17 refine zT ?_
     refine zN (zO 22 (fun K hK=>?_));go_simp;refine (Fo t s q' t' s' q'' x y _).mono ?_;rintro e w3 ⟨rfl,hx3⟩;have HE3:Bx (ab w w3):=⟨HE2.out.trans hx3⟩
     have kS3:w3.cell? ⟨b,off+i*3,none⟩=some (B C t)/\w3.cell? ⟨b,off+i*3+1,none⟩=some (B C s)/\w3.cell? ⟨b,off+i*3+2,none⟩=some (B C q')/\w3.cell? ⟨b,off+k*3,none⟩=some (B C t')/\w3.cell? ⟨b,off+k*3+1,none⟩=some (B C s')/\w3.cell? ⟨b,off+k*3+2,none⟩=some (B C q'')/\w3.cell? ⟨b2,off2+i,none⟩=some (B C x)/\w3.cell? ⟨b2,off2+k,none⟩=some (B C y):=⟨hx3.cell kS2.1,hx3.cell kS2.2.1,hx3.cell kS2.2.2.1,hx3.cell kS2.2.2.2.1,hx3.cell kS2.2.2.2.2.1,hx3.cell kS2.2.2.2.2.2.1,hx3.cell kS2.2.2.2.2.2.2.1,hx3.cell kS2.2.2.2.2.2.2.2⟩
     clear hx3 kS2;cases hd1:iz ⟨t,s,q'⟩ ⟨t',s',q''⟩ x y with
     |true =>
      have HF:=zZ (DH (cls:=cls) HT.out (k:=k) (by have:=HL.out;omega) (by rw[HAG.out,hb1,hd1];rfl));clear hb1 hd1;refine hK.out _ _ (fun _=>(kS3)) ?_;clear hK K;try simp only[kA]
      refine zS 1 [(23,43)] kS3 ?_;refine zT ?_;refine zN (zS 14 [(24,44),(25,45),(26,46),(27,47),(28,48),(29,49),(30,50),(31,51),(32,52),(33,53),(34,54),(35,55),(36,56),(37,57)] kS3 ?_);iterate 14 (apply zK;exact⟨rfl,rfl⟩;simp only[kA];exact rfl)
      refine zN (zS 2 [(38,58),(39,59)] kS3 ?_);iterate 2 refine zT ?_
      refine zN (zD ?_);go_wp2_with fail;go_ret
      exact⟨aa HF.out.symm,HE3.out⟩
     |false =>
      by_cases hki:k<i
      ·have eL:∀W,(Op.equalIn 10000 41 (.agg #[B C t',B C s',B C q'']) (.agg #[B C t,B C s,B C q'])).run prog W=.ok (decide (t'=t/\s'=s/\q''=q')) W:=fun W=>vx _ _ _ _ _ _ W;have gL:=nt;have HQ:Bx (decide ((⟨t',s',q''⟩:bN)=⟨t,s,q'⟩)=decide (t'=t/\s'=s/\q''=q')):=⟨by rw[yE];simp only[decide_eq_true_eq,bN.eq_iff]⟩
       have HD1:=zZ hd1;have HB1:=zZ hb1;clear hb1 hd1;obtain⟨bq,hbq⟩:=nm (decide (t'=t/\s'=s/\q''=q'));rw[<-hbq]at HQ;simp only[<-hbq]at eL;clear hbq;refine hK.out _ _ (fun _=>(kS3)) ?_;clear hK K;try simp only[kA]
       refine zS 17 [(23,43),(24,44),(25,45),(26,46),(27,47),(28,48),(29,49),(30,50),(31,51),(32,52),(33,53),(34,54),(35,55),(36,56),(37,57),(38,58),(39,59)] kS3 ?_;iterate 17 refine zT ?_
       refine zN (zD ?_);clear eL gL;cases bq with
       |true =>
        have HF:=zZ (DH (cls:=cls) HT.out (k:=k) (by have:=HL.out;omega) (by rw[HAG.out,HB1.out,HD1.out,decide_eq_true hki,HQ.out];rfl));go_wp2_with fail;go_ret
        exact⟨aa HF.out.symm,HE3.out⟩
       |false =>
        have HF:=zZ (show Gg l cls i k=false by rw[HAG.out,HB1.out,HD1.out,decide_eq_true hki,HQ.out];rfl);go_wp2_with fail;go_roundw
        case rel=>exact⟨k+1,by go_num,by omega,⟨⟨HE3.out,fun j hj=>by rcases zU j k with h|h;exact HA.out j h;obtain rfl:j=k:=(by omega);exact HF.out⟩⟩⟩
        case measure=>simp[intOf];omega
      ·have HF:=zZ (show Gg l cls i k=false by rw[HAG.out,hb1,hd1,decide_eq_false hki];rfl);clear hb1 hd1;refine hK.out _ _ (fun _=>(kS3)) ?_;clear hK K;try simp only[kA]
       refine zS 5 [(23,43),(24,44),(25,45),(26,46),(27,47)] kS3 ?_;iterate 5 refine zT ?_
       refine zN (zS 9 [(28,48),(29,49),(30,50),(31,51),(32,52),(33,53),(34,54),(35,55),(36,56)] kS3 ?_);iterate 9 (apply zK;exact⟨rfl,rfl⟩;simp only[kA];exact rfl)
       refine zN (zS 3 [(37,57),(38,58),(39,59)] kS3 ?_);iterate 3 refine zT ?_
       refine zN (zD ?_);go_wp2_with fail;go_roundw
       case rel=>exact⟨k+1,by go_num,by omega,⟨⟨HE3.out,fun j hj=>by rcases zU j k with h|h;exact HA.out j h;obtain rfl:j=k:=(by omega);exact HF.out⟩⟩⟩
       case measure=>simp[intOf];omega
   ·obtain rfl:k=n:=by omega
    have HF:=zZ ((gR (cls:=cls) HT.out).2 ⟨hb.out,fun j hj=>HR.out.2 j (by have:=HL.out;omega)⟩);go_wp2_with fail;go_ret
    exact⟨aa HF.out.symm,HR.out.1⟩
end Go.Proofs.YtkaajgoeahahpaaGreatDoor

