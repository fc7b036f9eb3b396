import Derived.Test.YtkaajgoeahahpaaGreatDoorH10
set_option linter.all false
set_option maxRecDepth 100000
set_option maxHeartbeats 0
namespace Go.Proofs.YtkaajgoeahahpaaGreatDoor
open Go.Value renaming int→B,slice→E
open Go.IntKind renaming i64→D
open Go.RowKit _root_.Go.Proofs.Tryz
variable {b base g k n p q size:Nat} {w:World}
def ba(l:List UInt8):ByteArray:=⟨l.toArray⟩
theorem JR(l:List UInt8):bl (ba l)=l:=by simp[bl,ba]
theorem Bl(b:ByteArray):ba (bl b)=b:=by cases b;simp[bl,ba]
theorem JD(l:List UInt8):(ba l).size=l.length:=by simp[ba,ByteArray.size]
theorem J6(l:List UInt8):sv l=.string (ba l):=rfl
theorem Tryz.infoCap:(prog.info? 47).map (fun i=>(i.zero,i.size,i.bytes))=some (some (.agg #[B D 0,B D 0,B D 0,B D 0,.string ⟨#[]⟩,B D 0,E none 0 0,B D 0,B D 0,B D 0,B D 0,B D 0,B D 0]),13,128):=by kernel_rfl
def fZ(y:aj×Value):List Value:=y.1.cells y.2
structure iu (c:aj):Prop where
 st:JF c.st
 kind:aU c.kind
 str:c.str.length<=1000
 cont:aU c.cont
 tgt:c.tgt.wf
 lab:c.lab.wf
theorem iu.wf{c:aj}(h:iu c)(hc:c.ch.length<=200):c.wf:=⟨h.st.1,h.kind,h.str,h.cont,h.tgt,h.lab,by omega⟩
structure ar (base:Nat) (w:World) (v:Value) (ys:List (aj×Value)):Prop where
 own:da base 47 13 fZ w v ys
 el:∀y∈ys,fu w base y.2 y.1.ch/\iu y.1
section
variable {p base:Nat} {w w':World} {v v':Value} {ys:List (aj×Value)}
theorem ar.nil(base:Nat)(w:World):ar base w (E none 0 0) []:=⟨da.nil,fun y h=>by simp at h⟩
theorem ar.xt(h:ar base w v ys)(hx:XT p w w')(hp:p<base):ar base w' v ys:=⟨h.own.xt hx hp,fun y hy=>⟨(h.el y hy).1.xt hx hp,(h.el y hy).2⟩⟩
theorem ar.ext(h:ar base w v ys)(hx:ab w w'):ar base w' v ys:=⟨h.own.ext hx,fun y hy=>⟨(h.el y hy).1.ext hx,(h.el y hy).2⟩⟩
theorem ar.far{g:Nat}{cs:Array Value}{t:TypeId}(h:ar base w v ys)(hb:Bk w g cs t)(ht:t≠3)(hv:v.ownBlock≠some g)(i:Nat)(u:Value):ar base (w.setCell ⟨g,i,none⟩ u) v ys :=
 ⟨aN (a:=⟨g,i,none⟩) h.own hv u,fun y hy=>⟨(h.el y hy).1.far hb ht i u,(h.el y hy).2⟩⟩
theorem ar.sets{cs:Array Value}{t:TypeId}(h:ar base w v ys)(hb:Bk w g cs t)(ht:t≠3)(hv:v.ownBlock≠some g)(i:Nat)(vs:List Value):ar base (be w g i vs) v ys:=by
 induction vs generalizing w cs i with
 |nil=>exact h
 |cons u vs ih=>exact ih (h.far hb ht hv i u) (hb.set i u) (i+1)
theorem ar.push{y:aj×Value}(h:ar base w v ys)(hg:w.grownBy w' v.ownBlock)(ho:w'.ownsRow base 47 13 v' (ys.length+1) ((ys.map fZ).flatten++fZ y))(hc:fu w base y.2 y.1.ch)(hk:iu y.1):ar base w' v' (ys++[y]):=by
 refine⟨da.push ho,fun z hz=>?_⟩;rcases zM.1 hz with hz|hz
 ·exact⟨(h.el z hz).1.apart h.own (by decide) hg,(h.el z hz).2⟩
 ·obtain rfl:z=y:=by simpa using hz
  exact⟨hc.apart h.own (by decide) hg,hk⟩
theorem ar.grownI{z:Value}{xs:List Value}(h:ar base w v ys)(ho:w.ownsRow b 3 1 z n xs)(hg:w.grownBy w' z.ownBlock)(hne:∀y∈ys,∀k,y.2.ownBlock=some k->z.ownBlock≠some k):ar base w' v ys :=
 ⟨cO h.own ho (by decide) hg,fun y hy=>⟨⟨aJ (h.el y hy).1.1 hg (hne y hy),(h.el y hy).1.2⟩,(h.el y hy).2⟩⟩
theorem ar.form(h:ar base w v ys):∃A c,v=E A ys.length c:=h.own.form
theorem ar.base_{b:Nat}(h:ar base w v ys)(hb:b<=base):ar b w v ys:=⟨cd h.own hb,fun y hy=>⟨(h.el y hy).1.base_ hb,(h.el y hy).2⟩⟩
theorem ar.isCs(h:ar base w v ys)(hp:p<base):au p w v (ys.map Prod.fst):=by
 refine bj.of_own (e:=47) (ys.map fZ) (fun cs hcs=>by obtain⟨y,_,rfl⟩:=zF.1 hcs;rfl) (by decide) (by simp) (by rw[zJ];exact h.own) hp ?_;intro k cs x hcs hx;simp only[zP,yO]at hcs hx;obtain⟨y,hy,rfl⟩:=hcs;obtain⟨z,hz,rfl⟩:=hx;rw[hy]at hz;injection hz with hz;subst hz
 have hm:=h.el y (zW hy);exact⟨y.2,rfl,hm.1.isI hp,hm.2.wf hm.1.2.2⟩
end
theorem ll{α:Type}{f:α->List Value}{ys:List α}(hf:∀y∈ys,(f y).length=size){j:Nat}{y:α}(hk:ys[k]?=some y)(hj:j<size):(ys.map f).flatten[k*size+j]?=(f y)[j]?:=by
 induction ys generalizing k with
 |nil=>cases hk
 |cons a l ih =>
  have ha:(f a).length=size:=hf a (by simp);rw[wK,wA];cases k with
  |zero=>simp at hk;subst hk;rw[vQ,yV,yY (by omega)]
  |succ k =>
   rw[yL (by rw[ha,xB];omega)];have:(k+1)*size+j-(f a).length=k*size+j:=by rw[ha,xB];omega
   rw[this];exact ih (fun y hy=>hf y (by simp[hy])) (by simpa using hk)
theorem da.cell{α:Type}{e:Nat}{f:α->List Value}{cap:Nat}{ys:List α}(h:da base e size f w (E (some ⟨g,0,none⟩) n cap) ys)(hf:∀y∈ys,(f y).length=size){j:Nat}{y:α}(hk:ys[k]?=some y)(hj:j<size){u:Value}(hu:(f y)[j]?=some u) :
  w.cell? ⟨g,k*size+j,none⟩=some u:=by
 have hlt:k*size+j<ys.length*size:=by have h1:=(zY.1 hk).1;have:(k+1)*size<=ys.length*size:=uH _ h1;rw[xB]at this;omega
 have hn:n=ys.length:=by obtain⟨A,c,e⟩:=h.form;injection e
 subst hn;rw[World.ownsRow.cellAt h _ hlt,ll hf hk hj,hu]
theorem ar.cells{cap:Nat}{ys:List (aj×Value)}(h:ar base w (E (some ⟨g,0,none⟩) n cap) ys)(hk:k<ys.length) :
  ∃(c:aj) (A:Option Addr) (cc:Nat),ys[k]?=some (c,E A c.ch.length cc)/\fu w base (E A c.ch.length cc) c.ch/\iu c/\w.cell? ⟨g,k*13,none⟩=some (B D c.st.t)/\w.cell? ⟨g,k*13+1,none⟩=some (B D c.st.s)/\w.cell? ⟨g,k*13+2,none⟩=some (B D c.st.q)/\w.cell? ⟨g,k*13+3,none⟩=some (B D c.kind)/\w.cell? ⟨g,k*13+4,none⟩=some (.string (ba c.str))/\w.cell? ⟨g,k*13+5,none⟩=some (B D c.cont)/\w.cell? ⟨g,k*13+6,none⟩=some (E A c.ch.length cc)/\w.cell? ⟨g,k*13+7,none⟩=some (B D c.tgt.s)/\w.cell? ⟨g,k*13+8,none⟩=some (B D c.tgt.q)/\w.cell? ⟨g,k*13+9,none⟩=some (B D c.lab.p)/\w.cell? ⟨g,k*13+10,none⟩=some (B D c.lab.c)/\w.cell? ⟨g,k*13+11,none⟩=some (B D c.lab.g)/\w.cell? ⟨g,k*13+12,none⟩=some (B D c.lab.v):=by
 obtain⟨y,hy⟩:∃y,ys[k]?=some y:=⟨_,zV hk⟩
 obtain⟨c,u⟩:=y;have hm:=h.el _ (zW hy);obtain⟨A,cc,hu⟩:=hm.1.form;simp only at hu;subst hu;have key:=fun (j:Nat) (hj:j<13) (u:Value) (hu:(fZ (c,E A c.ch.length cc))[j]?=some u)=>h.own.cell (fun y _=>rfl) hy hj hu;exact⟨c,A,cc,hy,hm.1,hm.2,key 0 (by omega) _ rfl,key 1 (by omega) _ rfl,key 2 (by omega) _ rfl,key 3 (by omega) _ rfl,key 4 (by omega) _ rfl,key 5 (by omega) _ rfl,key 6 (by omega) _ rfl,key 7 (by omega) _ rfl,key 8 (by omega) _ rfl,key 9 (by omega) _ rfl,key 10 (by omega) _ rfl,key 11 (by omega) _ rfl,key 12 (by omega) _ rfl⟩
structure fw (p:Nat) (w wx:World) (sb:Nat×Array Value×TypeId) (g:Nat) (v:Value) (ys:List (aj×Value)) (c:aj) (A:Option Addr) (cc:Nat):Prop where
 fr:Fr p w wx [sb,(g,#[B D c.st.t,B D c.st.s,B D c.st.q,B D c.kind,.string (ba c.str),B D c.cont,E A c.ch.length cc,B D c.tgt.s,B D c.tgt.q,B D c.lab.p,B D c.lab.c,B D c.lab.g,B D c.lab.v],47)]
 row:ar w.heap.size wx v ys
 ch:fu wx w.heap.size (E A c.ch.length cc) c.ch
 ok:iu c
 ap:v.ownBlock≠some g
section
variable {p:Nat} {w wx w':World} {sb:Nat×Array Value×TypeId} {g:Nat} {v:Value} {ys:List (aj×Value)} {c c':aj} {A A':Option Addr} {cc cc':Nat}
theorem fw.step(h:fw p w wx sb g v ys c A cc)(hx:XT p wx w')(ht:bz w' p):fw p w w' sb g v ys c A cc :=
 ⟨h.fr.step hx ht,h.row.xt hx h.fr.hp,h.ch.xt hx h.fr.hp,h.ok,h.ap⟩
theorem fw.ext(h:fw p w wx sb g v ys c A cc)(hx:ab wx w'):fw p w w' sb g v ys c A cc:=h.step hx.xt (h.fr.tp.ext hx)
theorem fw.upd(h:fw p w wx sb g v ys c A cc)(i:Nat)(vs:List Value)(hf:Fr p w (be wx g i vs) [sb,(g,#[B D c'.st.t,B D c'.st.s,B D c'.st.q,B D c'.kind,.string (ba c'.str),B D c'.cont,E A' c'.ch.length cc',B D c'.tgt.s,B D c'.tgt.q,B D c'.lab.p,B D c'.lab.c,B D c'.lab.g,B D c'.lab.v],47)])(hc:fu wx w.heap.size (E A' c'.ch.length cc') c'.ch)(hk:iu c') :
  fw p w (be wx g i vs) sb g v ys c' A' cc' :=
 ⟨hf,h.row.sets (h.fr.at_ 1 rfl) (by decide) h.ap i vs,eZ hc (h.fr.at_ 1 rfl) (by decide) i vs,hk,h.ap⟩
theorem fw.cells(h:fw p w wx sb g v ys c A cc):wx.cell? ⟨g,0,none⟩=some (B D c.st.t)/\wx.cell? ⟨g,1,none⟩=some (B D c.st.s)/\wx.cell? ⟨g,2,none⟩=some (B D c.st.q)/\wx.cell? ⟨g,3,none⟩=some (B D c.kind)/\wx.cell? ⟨g,4,none⟩=some (.string (ba c.str))/\wx.cell? ⟨g,5,none⟩=some (B D c.cont)/\wx.cell? ⟨g,6,none⟩=some (E A c.ch.length cc)/\wx.cell? ⟨g,7,none⟩=some (B D c.tgt.s)/\wx.cell? ⟨g,8,none⟩=some (B D c.tgt.q)/\wx.cell? ⟨g,9,none⟩=some (B D c.lab.p)/\wx.cell? ⟨g,10,none⟩=some (B D c.lab.c)/\wx.cell? ⟨g,11,none⟩=some (B D c.lab.g)/\wx.cell? ⟨g,12,none⟩=some (B D c.lab.v) :=
 have b:=h.fr.at_ 1 rfl;⟨b.c 0 rfl,b.c 1 rfl,b.c 2 rfl,b.c 3 rfl,b.c 4 rfl,b.c 5 rfl,b.c 6 rfl,b.c 7 rfl,b.c 8 rfl,b.c 9 rfl,b.c 10 rfl,b.c 11 rfl,b.c 12 rfl⟩
end
theorem BH{wx w':World}{sb:Nat×Array Value×TypeId}{v v':Value}{ys:List (aj×Value)}{y:aj×Value}(hr:ar w.heap.size wx v ys)(hf:Fr p w wx [sb])(hsb:sb.2.2≠47)(hg:wx.grownBy w' v.ownBlock)(ho:w'.ownsRow w.heap.size 47 13 v' (ys.length+1) ((ys.map fZ).flatten++fZ y))(hc:fu wx w.heap.size y.2 y.1.ch)(hk:iu y.1):ar w.heap.size w' v' (ys++[y])/\Fr p w w' [sb]:=by
 refine⟨hr.push hg ho hc hk,hf.grown hg (fun k x hx=>?_) (aq hr.own)⟩;obtain rfl:x=sb:=by
  cases k with
  |zero=>simpa using hx.symm
  |succ k=>simp at hx
 exact aG hr.own (hf.at_ 0 (b:=x.1) (cs:=x.2.1) (t:=x.2.2) rfl) hsb
theorem Bh(t s q:Int)(w:World) :
  Calls prog 139 #[.agg #[B D t,B D s,B D q]] w fun e w'=>e=.returned (.bool (dT ⟨t,s,q⟩))/\ab w w':=by
 go_enter func139,ntmps139
 go_wp2
 all_goals (go_ret;exact⟨aa (by first|(simp[dT];omega)|(rw[yE];simp[dT];omega)),(zE _).alloc _⟩)
theorem mc(a b:Int)(w:World) :
  Calls prog 141 #[B D a,B D b] w fun e w'=>e=.returned (B D (bg a b))/\w=w':=by
 go_enter func141,ntmps141
 go_wp2
 all_goals (go_ret;exact⟨ag (by unfold bg;first|rw[if_pos (by omega)]|rw[if_neg (by omega),if_pos (by omega)]|rw[if_neg (by omega),if_neg (by omega)]),rfl⟩)
theorem vu(t s q t' s' q':Int)(w:World) :
  Calls prog 100 #[.agg #[B D t,B D s,B D q],.agg #[B D t',B D s',B D q']] w fun e w'=>e=.returned (B D (me ⟨t,s,q⟩ ⟨t',s',q'⟩))/\ab w w':=by
 have H1:Bx (me ⟨t,s,q⟩ ⟨t',s',q'⟩=if bg t t'≠0 then bg t t' else if bg s s'≠0 then bg s s' else bg q q'):=⟨rfl⟩
 obtain⟨c1,hc1⟩:=nm (bg t t');obtain⟨c2,hc2⟩:=nm (bg s s');obtain⟨c3,hc3⟩:=nm (bg q q');rw[<-hc1,<-hc2,<-hc3]at H1;generalize me ⟨t,s,q⟩ ⟨t',s',q'⟩=r at *
 replace hc1:=zZ hc1;replace hc2:=zZ hc2;replace hc3:=zZ hc3;go_enter func100,ntmps100
 go_wp2_with fail;refine (mc t t' _).mono ?_;rintro e w1 ⟨rfl,rfl⟩;rw[<-hc1.out];by_cases h1:c1=0
 ·subst h1;go_wp2_with fail;refine (mc s s' _).mono ?_;rintro e w1 ⟨rfl,rfl⟩;rw[<-hc2.out];by_cases h2:c2=0
  ·subst h2;go_wp2_with fail;refine (mc q q' _).mono ?_;rintro e w1 ⟨rfl,rfl⟩;rw[<-hc3.out];go_wp2_with fail;go_ret
   exact⟨ag (by rw[H1.out];simp),((zE _).alloc _).alloc _⟩
  ·have h2b:(c2==0)=false:=beq_eq_false_iff_ne.2 h2;replace h2:=zZ h2;go_wp2_with fail;go_ret
   exact⟨ag (by rw[H1.out];simp[h2.out]),((zE _).alloc _).alloc _⟩
 ·have h1b:(c1==0)=false:=beq_eq_false_iff_ne.2 h1;replace h1:=zZ h1;go_wp2_with fail;go_ret
  exact⟨ag (by rw[H1.out];simp[h1.out]),((zE _).alloc _).alloc _⟩
theorem Fo(t s q t' s' q' x y:Int)(w:World) :
  Calls prog 140 #[.agg #[B D t,B D s,B D q],.agg #[B D t',B D s',B D q'],B D x,B D y] w fun e w'=>e=.returned (.bool (iz ⟨t,s,q⟩ ⟨t',s',q'⟩ x y))/\ab w w':=by
 go_enter func140,ntmps140
 go_wp2
 all_goals (go_ret;exact⟨aa (by first|(simp[iz];omega)|(rw[yE];simp[iz];omega)|simp_all [iz]),((zE _).alloc _).alloc _⟩)
theorem vx(a b c a' b' c':Int)(w:World):(Op.equalIn 10000 41 (.agg #[B D a,B D b,B D c]) (.agg #[B D a',B D b',B D c'])).run prog w=.ok (decide (a=a'/\b=b'/\c=c')) w:=by
 have u3:=underlying3;have a3:=isAgg3;have z3:=sizeOf3;have hS:prog.underlying 41=some (.struct (prog.fieldsOf 41)):=by kernel_rfl
 have hp:prog.stoodInHeld 41=false:=by kernel_rfl
 rw[show (10000:Nat)=9999+1 from rfl,run_equalIn_agg w 9999 41 _ _ hS hp];simp only[Program.fieldsOf,underlying41];go_simp;by_cases h1:a=a'<;>by_cases h2:b=b'<;>by_cases h3:c=c'<;>simp[h1,h2,h3]
theorem nt:prog.eqGuardType prog.depth 41=false:=by kernel_rfl
theorem jW(a b a' b':Int)(w:World):(Op.equalIn 10000 43 (.agg #[B D a,B D b]) (.agg #[B D a',B D b'])).run prog w=.ok (decide (a=a'/\b=b')) w:=by
 have u3:=underlying3;have a3:=isAgg3;have z3:=sizeOf3;have hS:prog.underlying 43=some (.struct (prog.fieldsOf 43)):=by kernel_rfl
 have hp:prog.stoodInHeld 43=false:=by kernel_rfl
 rw[show (10000:Nat)=9999+1 from rfl,run_equalIn_agg w 9999 43 _ _ hS hp];simp only[Program.fieldsOf,underlying43];go_simp;by_cases h1:a=a'<;>by_cases h2:b=b'<;>simp[h1,h2]
theorem fC:prog.eqGuardType prog.depth 43=false:=by kernel_rfl
theorem ox(a b c d a' b' c' d':Int)(w:World):(Op.equalIn 10000 45 (.agg #[B D a,B D b,B D c,B D d]) (.agg #[B D a',B D b',B D c',B D d'])).run prog w=.ok (decide (a=a'/\b=b'/\c=c'/\d=d')) w:=by
 have u3:=underlying3;have a3:=isAgg3;have z3:=sizeOf3;have hS:prog.underlying 45=some (.struct (prog.fieldsOf 45)):=by kernel_rfl
 have hp:prog.stoodInHeld 45=false:=by kernel_rfl
 rw[show (10000:Nat)=9999+1 from rfl,run_equalIn_agg w 9999 45 _ _ hS hp];simp only[Program.fieldsOf,underlying45];go_simp;by_cases h1:a=a'<;>by_cases h2:b=b'<;>by_cases h3:c=c'<;>by_cases h4:d=d'<;>simp[h1,h2,h3,h4]
theorem ij:prog.eqGuardType prog.depth 45=false:=by kernel_rfl
theorem Da(a b e c1 c2 c3 c4 a' b' e' d1 d2 d3 d4:Int)(w:World):(Op.equalIn 10000 67 (.agg #[B D a,B D b,B D e,B D c1,B D c2,B D c3,B D c4]) (.agg #[B D a',B D b',B D e',B D d1,B D d2,B D d3,B D d4])).run prog w=.ok (decide (a=a'/\b=b'/\e=e'/\c1=d1/\c2=d2/\c3=d3/\c4=d4)) w:=by
 have u3:=underlying3;have a3:=isAgg3;have z3:=sizeOf3;have aI:=isAgg43;have zI:=sizeOf43;have aL:=isAgg45;have zL:=sizeOf45;have hS:prog.underlying 67=some (.struct (prog.fieldsOf 67)):=by kernel_rfl
 have hp:prog.stoodInHeld 67=false:=by kernel_rfl
 rw[show (10000:Nat)=9999+1 from rfl,run_equalIn_agg w 9999 67 _ _ hS hp];simp only[Program.fieldsOf,underlying67];go_simp;split;case isFalse h=>simp[h]
 case isTrue h0 =>
  split;case isFalse h=>simp[h]
  case isTrue h1 =>
   split;case isFalse h=>simp[h]
   case isTrue h2 =>
    split;case isFalse h=>simp[h]
    case isTrue h3 =>
     split;case isFalse h=>simp[h]
     case isTrue h4 =>
      split;case isFalse h=>simp[h]
      case isTrue h5 =>
       split;case isFalse h=>simp[h]
       case isTrue h6 =>simp[h0,h1,h2,h3,h4,h5,h6]
theorem Aj:prog.eqGuardType prog.depth 67=false:=by kernel_rfl
theorem Jd{off:Nat}{cs:List Value}{x:bN}(hc:∀j u,cs[j]?=some u->w.cell? ⟨b,off+j,none⟩=some u)(h:oT w cs x) :
  w.cell? ⟨b,off,none⟩=some (B D x.t)/\w.cell? ⟨b,off+1,none⟩=some (B D x.s)/\w.cell? ⟨b,off+2,none⟩=some (B D x.q):=by
 obtain⟨rfl,_⟩:=h;exact⟨hc 0 _ rfl,hc 1 _ rfl,hc 2 _ rfl⟩
theorem oI.cells{off c:Nat}{l:List bN}(h:oI p w (E (some ⟨b,off,none⟩) n c) l)(hk:k<n) :
  ∃t s q:Int,Hid (l[k]?=some ⟨t,s,q⟩)/\w.cell? ⟨b,off+k*3,none⟩=some (B D t)/\w.cell? ⟨b,off+k*3+1,none⟩=some (B D s)/\w.cell? ⟨b,off+k*3+2,none⟩=some (B D q)/\bN.wf ⟨t,s,q⟩:=by
 obtain⟨cs,⟨t,s,q⟩,-,hc,hR,hx⟩:=h.cell_ hk;obtain⟨h0,h1,h2⟩:=Jd hc hR;exact⟨t,s,q,hx,h0,h1,h2,hR.2⟩
theorem Ba(v vc:Value)(l:List bN)(cls:List Int)(i:Nat)(w:World)(hv:oI p w v l)(hc:ak q w vc cls)(hl:cls.length=l.length)(hi:i<l.length) :
  Calls prog 99 #[v,vc,B D (i:Int)] w fun e w'=>e=.returned (.bool (iR l cls i))/\ab w w':=by
 obtain⟨A,n,c,rfl,hnc,hcc,hnn,HL⟩:=hv.open_;obtain⟨A2,n2,c2,rfl,hnc2,hcc2,hnn2,HL2⟩:=hc.open_;have hin:i<n:=by have:=HL.out;omega
 have hi2:i<n2:=by have:=HL2.out;omega
 have hn12:n<=n2:=by have:=HL.out;have:=HL2.out;omega
 obtain⟨b,off,_,_,rfl,-⟩:=hv.at_ hin;obtain⟨b2,off2,x,rfl,y0,HX,-⟩:=hc.at_ hi2;obtain⟨t,s,q',HT,a0,a1,a2,-⟩:=oI.cells hv hin;have HV:Bx (oI p w (E (some ⟨b,off,none⟩) n c) l/\ak q w (E (some ⟨b2,off2,none⟩) n2 c2) cls/\cls.length=l.length):=⟨⟨hv,hc,hl⟩⟩
 clear hv hc hl;go_enter func99,ntmps99
 go_wp2_with fail;refine (Bh t s q' _).mono ?_;rintro e w1 ⟨rfl,hx1⟩;cases hb:dT ⟨t,s,q'⟩ with
 |false =>
  have HB:=zZ (IV (cls:=cls) HT.out hb);clear hb;go_wp2_with fail;go_ret
  exact⟨aa HB.out.symm,hx1⟩
 |true =>
  replace hb:=zZ hb;have HE1:Bx (ab w w1):=⟨hx1⟩
  clear hx1;go_wp2_with fail;go_loopw [7] (fun s7 wr=>∃k:Nat,s7=B D k/\k<=n/\Bx (ab w wr/\∀j,j<k->Gg l cls i j=false)) (fun k _=>n-(intOf k).toNat)
  case atStart=>exact⟨0,rfl,by omega,⟨⟨HE1.out,fun j hj=>by omega⟩⟩⟩
  case round =>
   clear HE1;obtain⟨k,rfl,hk,HR⟩:=hrel;by_cases hkn:k<n
   ·have hk2:k<n2:=by omega
    obtain⟨t',s',q'',HT',e0,e1,e2,-⟩:=oI.cells (HV.out.1.ext (oT.stab p) HR.out.1) hkn;obtain⟨y,z0,HY,-⟩:=(HV.out.2.1.ext HR.out.1).cell_ hk2;have a0':=HR.out.1.cell a0;have a1':=HR.out.1.cell a1;have a2':=HR.out.1.cell a2;have y0':=HR.out.1.cell y0;have HAG:=zZ (jU HT.out HT'.out HX.out HY.out);clear a0 a1 a2 y0;have kS:wr.drew.cell? ⟨b,off+i*3,none⟩=some (B D t)/\wr.drew.cell? ⟨b,off+i*3+1,none⟩=some (B D s)/\wr.drew.cell? ⟨b,off+i*3+2,none⟩=some (B D q')/\wr.drew.cell? ⟨b,off+k*3,none⟩=some (B D t')/\wr.drew.cell? ⟨b,off+k*3+1,none⟩=some (B D s')/\wr.drew.cell? ⟨b,off+k*3+2,none⟩=some (B D q'')/\wr.drew.cell? ⟨b2,off2+i,none⟩=some (B D x)/\wr.drew.cell? ⟨b2,off2+k,none⟩=some (B D y):=⟨a0',a1',a2',e0,e1,e2,y0',z0⟩
    clear a0' a1' a2' e0 e1 e2 y0' z0;have hd:ab w wr.drew:=HR.out.1.drew;have HA:Bx (∀j,j<k->Gg l cls i j=false):=⟨HR.out.2⟩
    go_upto_region 6 with (fail)
    refine zR 99 (fun w'=>w'.cell? ⟨b,off+i*3,none⟩=some (B D t)/\w'.cell? ⟨b,off+i*3+1,none⟩=some (B D s)/\w'.cell? ⟨b,off+i*3+2,none⟩=some (B D q')/\w'.cell? ⟨b,off+k*3,none⟩=some (B D t')/\w'.cell? ⟨b,off+k*3+1,none⟩=some (B D s')/\w'.cell? ⟨b,off+k*3+2,none⟩=some (B D q'')/\w'.cell? ⟨b2,off2+i,none⟩=some (B D x)/\w'.cell? ⟨b2,off2+k,none⟩=some (B D y)) ?_;refine zS 4 [(0,20),(1,21),(2,22),(3,23)] kS ?_;iterate 4 refine zT ?_
    refine zN (zO 4 (fun K hK=>?_));go_simp;refine (Bh t' s' q'' _).mono ?_;rintro e w2 ⟨rfl,hx2⟩;have HE2:Bx (ab w w2):=⟨hd.trans hx2⟩
    clear hd HR;have kS2:w2.cell? ⟨b,off+i*3,none⟩=some (B D t)/\w2.cell? ⟨b,off+i*3+1,none⟩=some (B D s)/\w2.cell? ⟨b,off+i*3+2,none⟩=some (B D q')/\w2.cell? ⟨b,off+k*3,none⟩=some (B D t')/\w2.cell? ⟨b,off+k*3+1,none⟩=some (B D s')/\w2.cell? ⟨b,off+k*3+2,none⟩=some (B D q'')/\w2.cell? ⟨b2,off2+i,none⟩=some (B D x)/\w2.cell? ⟨b2,off2+k,none⟩=some (B D y):=⟨hx2.cell kS.1,hx2.cell kS.2.1,hx2.cell kS.2.2.1,hx2.cell kS.2.2.2.1,hx2.cell kS.2.2.2.2.1,hx2.cell kS.2.2.2.2.2.1,hx2.cell kS.2.2.2.2.2.2.1,hx2.cell kS.2.2.2.2.2.2.2⟩
    clear hx2 kS;cases hb1:dT ⟨t',s',q''⟩ with
    |false =>
     have HF:=zZ (show Gg l cls i k=false by rw[HAG.out,hb1];rfl);clear hb1;refine hK.out _ _ (fun _=>(kS2)) ?_;clear hK K;try simp only[kA]
     refine zS 1 [(5,25)] kS2 ?_;refine zT ?_;refine zN (zS 33 [(6,26),(7,27),(8,28),(9,29),(10,30),(11,31),(12,32),(13,33),(14,34),(15,35),(16,36),(17,37),(18,38),(19,39),(20,40),(21,41),(22,42),(23,43),(24,44),(25,45),(26,46),(27,47),(28,48),(29,49),(30,50),(31,51),(32,52),(33,53),(34,54),(35,55),(36,56),(37,57),(38,58)] kS2 ?_);iterate 33 (apply zK;exact⟨rfl,rfl⟩;simp only[kA];exact rfl)
     refine zN (zS 1 [(39,59)] kS2 ?_);refine zT ?_;refine zN (zD ?_);go_wp2_with fail;go_roundw
     case rel=>exact⟨k+1,by go_num,by omega,⟨⟨HE2.out,fun j hj=>by rcases zU j k with h|h;exact HA.out j h;obtain rfl:j=k:=(by omega);exact HF.out⟩⟩⟩
     case measure=>simp[intOf];omega
    |true =>
     refine hK.out _ _ (fun _=>(kS2)) ?_;clear hK K;try simp only[kA]
     refine zS 17 [(5,25),(6,26),(7,27),(8,28),(9,29),(10,30),(11,31),(12,32),(13,33),(14,34),(15,35),(16,36),(17,37),(18,38),(19,39),(20,40),(21,41)] kS2 ?_;iterate 17 refine zT ?_
     refine zN (zO 22 (fun K hK=>?_));go_simp;refine (Fo t s q' t' s' q'' x y _).mono ?_;rintro e w3 ⟨rfl,hx3⟩;have HE3:Bx (ab w w3):=⟨HE2.out.trans hx3⟩
     have kS3:w3.cell? ⟨b,off+i*3,none⟩=some (B D t)/\w3.cell? ⟨b,off+i*3+1,none⟩=some (B D s)/\w3.cell? ⟨b,off+i*3+2,none⟩=some (B D q')/\w3.cell? ⟨b,off+k*3,none⟩=some (B D t')/\w3.cell? ⟨b,off+k*3+1,none⟩=some (B D s')/\w3.cell? ⟨b,off+k*3+2,none⟩=some (B D q'')/\w3.cell? ⟨b2,off2+i,none⟩=some (B D x)/\w3.cell? ⟨b2,off2+k,none⟩=some (B D y):=⟨hx3.cell kS2.1,hx3.cell kS2.2.1,hx3.cell kS2.2.2.1,hx3.cell kS2.2.2.2.1,hx3.cell kS2.2.2.2.2.1,hx3.cell kS2.2.2.2.2.2.1,hx3.cell kS2.2.2.2.2.2.2.1,hx3.cell kS2.2.2.2.2.2.2.2⟩
     clear hx3 kS2;cases hd1:iz ⟨t,s,q'⟩ ⟨t',s',q''⟩ x y with
     |true =>
      have HF:=zZ (DH (cls:=cls) HT.out (k:=k) (by have:=HL.out;omega) (by rw[HAG.out,hb1,hd1];rfl));clear hb1 hd1;refine hK.out _ _ (fun _=>(kS3)) ?_;clear hK K;try simp only[kA]
      refine zS 1 [(23,43)] kS3 ?_;refine zT ?_;refine zN (zS 14 [(24,44),(25,45),(26,46),(27,47),(28,48),(29,49),(30,50),(31,51),(32,52),(33,53),(34,54),(35,55),(36,56),(37,57)] kS3 ?_);iterate 14 (apply zK;exact⟨rfl,rfl⟩;simp only[kA];exact rfl)
      refine zN (zS 2 [(38,58),(39,59)] kS3 ?_);iterate 2 refine zT ?_
      refine zN (zD ?_);go_wp2_with fail;go_ret
      exact⟨aa HF.out.symm,HE3.out⟩
     |false =>
      by_cases hki:k<i
      ·have eL:∀W,(Op.equalIn 10000 41 (.agg #[B D t',B D s',B D q'']) (.agg #[B D t,B D s,B D q'])).run prog W=.ok (decide (t'=t/\s'=s/\q''=q')) W:=fun W=>vx _ _ _ _ _ _ W;have gL:=nt;have HQ:Bx (decide ((⟨t',s',q''⟩:bN)=⟨t,s,q'⟩)=decide (t'=t/\s'=s/\q''=q')):=⟨by rw[yE];simp only[decide_eq_true_eq,bN.eq_iff]⟩
       have HD1:=zZ hd1;have HB1:=zZ hb1;clear hb1 hd1;obtain⟨bq,hbq⟩:=nm (decide (t'=t/\s'=s/\q''=q'));rw[<-hbq]at HQ;simp only[<-hbq]at eL;clear hbq;refine hK.out _ _ (fun _=>(kS3)) ?_;clear hK K;try simp only[kA]
       refine zS 17 [(23,43),(24,44),(25,45),(26,46),(27,47),(28,48),(29,49),(30,50),(31,51),(32,52),(33,53),(34,54),(35,55),(36,56),(37,57),(38,58),(39,59)] kS3 ?_;iterate 17 refine zT ?_
       refine zN (zD ?_);clear eL gL;cases bq with
       |true =>
        have HF:=zZ (DH (cls:=cls) HT.out (k:=k) (by have:=HL.out;omega) (by rw[HAG.out,HB1.out,HD1.out,decide_eq_true hki,HQ.out];rfl));go_wp2_with fail;go_ret
        exact⟨aa HF.out.symm,HE3.out⟩
       |false =>
        have HF:=zZ (show Gg l cls i k=false by rw[HAG.out,HB1.out,HD1.out,decide_eq_true hki,HQ.out];rfl);go_wp2_with fail;go_roundw
        case rel=>exact⟨k+1,by go_num,by omega,⟨⟨HE3.out,fun j hj=>by rcases zU j k with h|h;exact HA.out j h;obtain rfl:j=k:=(by omega);exact HF.out⟩⟩⟩
        case measure=>simp[intOf];omega
      ·have HF:=zZ (show Gg l cls i k=false by rw[HAG.out,hb1,hd1,decide_eq_false hki];rfl);clear hb1 hd1;refine hK.out _ _ (fun _=>(kS3)) ?_;clear hK K;try simp only[kA]
       refine zS 5 [(23,43),(24,44),(25,45),(26,46),(27,47)] kS3 ?_;iterate 5 refine zT ?_
       refine zN (zS 9 [(28,48),(29,49),(30,50),(31,51),(32,52),(33,53),(34,54),(35,55),(36,56)] kS3 ?_);iterate 9 (apply zK;exact⟨rfl,rfl⟩;simp only[kA];exact rfl)
       refine zN (zS 3 [(37,57),(38,58),(39,59)] kS3 ?_);iterate 3 refine zT ?_
       refine zN (zD ?_);go_wp2_with fail;go_roundw
       case rel=>exact⟨k+1,by go_num,by omega,⟨⟨HE3.out,fun j hj=>by rcases zU j k with h|h;exact HA.out j h;obtain rfl:j=k:=(by omega);exact HF.out⟩⟩⟩
       case measure=>simp[intOf];omega
   ·obtain rfl:k=n:=by omega
    have HF:=zZ ((gR (cls:=cls) HT.out).2 ⟨hb.out,fun j hj=>HR.out.2 j (by have:=HL.out;omega)⟩);go_wp2_with fail;go_ret
    exact⟨aa HF.out.symm,HR.out.1⟩
theorem J9{e:Nat}{v:Value}{xs:List Value}(h:w.ownsRow base e size v n xs):∃A c,v=E A n c:=by
 rcases h.2 with ⟨e,h0⟩|⟨g,cap,cur,e,_⟩
 ·exact⟨none,0,by rw[e,h0]⟩
 ·exact⟨_,_,e⟩
theorem Cf(v vc:Value)(l:List bN)(cls:List Int)(w:World)(hv:oI p w v l)(hc:ak q w vc cls)(hl:cls.length=l.length)(hn:l.length<=300) :
  Calls prog 60 #[v,vc] w fun e w'=>∃(vo:Value) (out:List Int),e=.returned (.tuple #[vo,B D 0])/\w'.ownsRow w.heap.size 3 1 vo out.length (out.map (Value.int .i64))/\eQ l cls l.length out/\ab w w':=by
 obtain⟨A,n,c,rfl,hnc,hcc,hnn,HL⟩:=hv.open_;obtain⟨A2,n2,c2,rfl,hnc2,hcc2,hnn2,HL2⟩:=hc.open_;obtain⟨i0,hi0,hz0,hz1,hz2⟩:=info_parts Tryz.infoI;have hn3:n<=300:=by have:=HL.out;omega
 have hn12:n=n2:=by have:=HL.out;have:=HL2.out;omega
 subst hn12;have HV:Bx (oI p w (E A n c) l/\ak q w (E A2 n c2) cls/\cls.length=l.length):=⟨⟨hv,hc,hl⟩⟩
 clear hv hc hl hn;go_enter func60,ntmps60
 go_wp2_with fail;go_loopw [6,7] (fun s6 s7 wr=>∃(i no:Nat) (out:List Int),s7=B D i/\i<=n/\out.length<=no/\no<=out.length/\no<=i/\Bx (wr.ownsRow w.heap.size 3 1 s6 out.length (out.map (Value.int .i64))/\eQ l cls i out/\ab w wr)) (fun _ i _=>n-(intOf i).toNat)
 case atStart=>exact⟨0,0,[],rfl,by omega,by simp,by simp,by omega,⟨⟨yZ _ _ _ _,eQ.nil _ _,zE _⟩⟩⟩
 case round =>
  obtain⟨i,no,out,rfl,hi,ho1,ho2,hoi,HR⟩:=hrel;by_cases hin:i<n
  ·obtain⟨b,off,_,_,rfl,-⟩:=HV.out.1.at_ hin;obtain⟨t,s,q',HT,a0,a1,a2,-⟩:=oI.cells HV.out.1 hin;go_wp2_with fail;refine (Ba _ _ l cls i _ (HV.out.1.ext (oT.stab p) HR.out.2.2) (HV.out.2.1.ext HR.out.2.2) HV.out.2.2 (by have:=HL.out;omega)).mono ?_;rintro e w1 ⟨rfl,hx1⟩;cases hb:iR l cls i with
   |false =>
    replace hb:=zZ hb;go_wp2_with fail;go_roundw
    case rel=>exact⟨i+1,no,out,by go_num,by omega,by omega,by omega,by omega,⟨⟨ao HR.out.1 hx1,HR.out.2.1.skip hb.out,HR.out.2.2.trans hx1⟩⟩⟩
    case measure=>simp[intOf];omega
   |true =>
    replace hb:=zZ hb;have hbw:b<w.heap.size:=bK a0;have hown1:=ao HR.out.1 hx1;have hI:ak b w1 u6 out:=ak.of_own hown1 hbw (fun x hx=>by obtain⟨j,rfl,hj,-⟩:=HR.out.2.1.mem.1 hx;exact⟨by omega,by omega⟩) (by omega);obtain⟨Ao,n',co,rfl,hnc',hc',hnn',HLo⟩:=hI.open_;obtain rfl:n'=no:=by have:=HLo.out;omega
    have HI:Bx (ak b w1 (E Ao n' co) out):=⟨hI⟩
    have HO:Bx (w1.ownsRow w.heap.size 3 1 (E Ao n' co) out.length (out.map (Value.int .i64))):=⟨hown1⟩
    have HS:Bx (eQ l cls i out):=⟨HR.out.2.1⟩
    have HE:Bx (ab w w1):=⟨HR.out.2.2.trans hx1⟩
    clear HR hx1 hown1 hI;go_wp2_with fail;go_loopw [8] (fun s8 wr=>∃r:Nat,s8=B D r/\r<=n'/\Bx (ab w1 wr/\∀x,out[r]?=some x->tz l (i:Int) x=true)) (fun r _=>(intOf r).toNat)
    case atStart=>exact⟨n',rfl,by omega,⟨⟨zE _,fun x hx=>by have:=(zY.1 hx).1;omega⟩⟩⟩
    case round =>
     obtain⟨r,rfl,hr,HX⟩:=hrel;have HE2:Bx (ab w wr):=⟨HE.out.trans HX.out.1⟩
     by_cases hr0:0<r
     ·obtain⟨r',hr'⟩:∃r',r'+1=r:=⟨r-1,by omega⟩
      have hrr:r'<n':=by omega
      have hrr2:r=r'+1:=hr'.symm;have HRR:=zZ hrr2;have hr1:r'+1<=r:=by omega
      have hr2:r<=r'+1:=by omega
      clear hr' hrr2;obtain⟨g,og,x,rfl,hgx,hxo,-⟩:=(HI.out.ext HX.out.1).at_ hrr;obtain⟨j,hj,hji,hjc⟩:=HS.out.mem.1 (zW hxo.out);subst hj;have hog:og=0:=by obtain⟨g9,c9,e9,_⟩:=di HO.out (by omega);injection e9 with e9 _ _;injection e9 with e9;injection e9
      subst hog;rw[yV]at hgx;have hjn:j<n:=by omega
      obtain⟨t',s',q'',HT',e0,e1,e2,-⟩:=oI.cells (HV.out.1.ext (oT.stab p) HE2.out) hjn;have HLT:Bx (tz l (i:Int) (j:Int)=decide (0<me ⟨t',s',q''⟩ ⟨t,s,q'⟩)):=⟨by rw[pi HT.out HT'.out,GU]⟩
      obtain⟨cv,hcv⟩:=nm (me ⟨t',s',q''⟩ ⟨t,s,q'⟩);rw[<-hcv]at HLT;have HCV:=zZ hcv;clear hcv;have kS:wr.drew.cell? ⟨g,r',none⟩=some (B D (j:Int))/\wr.drew.cell? ⟨b,off+j*3,none⟩=some (B D t')/\wr.drew.cell? ⟨b,off+j*3+1,none⟩=some (B D s')/\wr.drew.cell? ⟨b,off+j*3+2,none⟩=some (B D q'')/\wr.drew.cell? ⟨b,off+i*3,none⟩=some (B D t)/\wr.drew.cell? ⟨b,off+i*3+1,none⟩=some (B D s)/\wr.drew.cell? ⟨b,off+i*3+2,none⟩=some (B D q'):=⟨hgx,e0,e1,e2,HE2.out.cell a0,HE2.out.cell a1,HE2.out.cell a2⟩
      clear hgx e0 e1 e2;have m1:IntKind.i64.wrap ((r:Int)-1)=(r':Int):=by rw[yN _ (by omega)];omega
      have m2:0<=(r':Int):=by omega
      have hrg:decide ((r:Int)>0)=true:=by simp;omega
      go_upto_region 9 with (fail)
      refine zR 99 (fun w'=>w'.cell? ⟨g,r',none⟩=some (B D (j:Int))/\w'.cell? ⟨b,off+j*3,none⟩=some (B D t')/\w'.cell? ⟨b,off+j*3+1,none⟩=some (B D s')/\w'.cell? ⟨b,off+j*3+2,none⟩=some (B D q'')/\w'.cell? ⟨b,off+i*3,none⟩=some (B D t)/\w'.cell? ⟨b,off+i*3+1,none⟩=some (B D s)/\w'.cell? ⟨b,off+i*3+2,none⟩=some (B D q')) ?_;refine zS 15 [(0,28),(1,29),(2,30),(3,31),(4,32),(5,33),(6,34),(7,35),(8,36),(9,37),(10,38),(11,39),(12,40),(13,41),(14,42)] kS ?_;iterate 15 refine zT ?_
      refine zN (zO 15 (fun K hK=>?_));go_simp;refine (vu t' s' q'' t s q' _).mono ?_;rintro e w3 ⟨rfl,hx3⟩;rw[<-HCV.out];have kS3:w3.cell? ⟨g,r',none⟩=some (B D (j:Int))/\w3.cell? ⟨b,off+j*3,none⟩=some (B D t')/\w3.cell? ⟨b,off+j*3+1,none⟩=some (B D s')/\w3.cell? ⟨b,off+j*3+2,none⟩=some (B D q'')/\w3.cell? ⟨b,off+i*3,none⟩=some (B D t)/\w3.cell? ⟨b,off+i*3+1,none⟩=some (B D s)/\w3.cell? ⟨b,off+i*3+2,none⟩=some (B D q'):=⟨hx3.cell kS.1,hx3.cell kS.2.1,hx3.cell kS.2.2.1,hx3.cell kS.2.2.2.1,hx3.cell kS.2.2.2.2.1,hx3.cell kS.2.2.2.2.2.1,hx3.cell kS.2.2.2.2.2.2⟩
      have HX3:Bx (ab w1 w3):=⟨HX.out.1.drew.trans hx3⟩
      clear hx3;refine hK.out _ _ (fun _=>(kS3)) ?_;clear hK K;try simp only[kA]
      refine zS 2 [(16,44),(17,45)] kS3 ?_;iterate 2 refine zT ?_
      refine zN (zD ?_);clear kS kS3 m1;by_cases hc0:0<cv
      ·have HH:Bx (tz l (i:Int) (j:Int)=true):=⟨by rw[HLT.out];exact decide_eq_true hc0⟩
       go_wp2_with fail;go_roundw
       case rel =>refine⟨r',by congr;omega,by omega,⟨⟨HX3.out,fun x hx=>?_⟩⟩⟩;rw[hxo.out]at hx;injection hx with hx;subst hx;exact HH.out
       case measure=>simp[intOf];omega
      ·have HXe:=HX3;have HH:Bx ((∀x,out[r]?=some x->tz l (i:Int) x=true)/\∀x,r≠0->out[r-1]?=some x->tz l (i:Int) x=false):=by
        refine⟨⟨HX.out.2,fun x _ hx=>?_⟩⟩;rw[show r-1=r' by omega,hxo.out]at hx;injection hx with hx;subst hx;rw[HLT.out];exact decide_eq_false hc0
       clear HX HE2 HX3;obtain⟨Az,hAz⟩:=nm (some ⟨g,0,none⟩:Option Addr);rw[<-hAz]at HI HO;rw[<-hAz];clear hAz;have HIr:=zZ ((HI.out.ext HXe.out).take hr);have HDr:=zZ ((HI.out.ext HXe.out).drop hr);have hso:=HO.out;go_wp2_with (first
        |(at_builtin;refine dh _ rfl (.tmp 48) (.tmp 51) 22 rfl w3.heap.size 3 i0 _ 8 underlying22 hi0 hz0 hz1 hz2 rfl (E none 0 0) 0 [] rfl (yZ _ _ _ _) b Az r co (out.take r) rfl HIr.out (by omega) (by omega) (zX _) ?_;intro v4 w4 hown4 hg4;have HE4:=zZ (ab.grown (zE w3) hg4 (by simp[Value.ownBlock]));have HO4:=zZ hown4;clear hown4 hg4)
        |(at_builtin;refine aF _ rfl (.tmp 53) (.tmp 55) 22 rfl w3.heap.size 3 i0 _ 8 underlying22 hi0 hz0 hz1 hz2 rfl v4 _ _ rfl (HO4.out.alloc _) _ _ rfl (by simp;rfl) rfl (by omega) (by omega) (by have:=HE4.out.size;simp;omega) ?_;intro v5 w5 hown5 hg5;have HE5:=zZ (ab.grown (HE4.out.alloc _) hg5 (aq HO4.out));have HO5:=zZ hown5;clear hown5 hg5)
        |(at_builtin;refine dh _ rfl (.tmp 57) (.tmp 60) 22 rfl w3.heap.size 3 i0 _ 8 underlying22 hi0 hz0 hz1 hz2 rfl v5 _ _ rfl HO5.out b _ (n'-r) (co-r) (out.drop r) rfl (HDr.out.ext HE5.out) (by omega) (by omega) (HE5.out.size) ?_;intro v6 w6 hown6 hg6;have HE6:=zZ (ab.grown HE5.out hg6 (aq HO5.out));have HO6:=zZ hown6;clear hown6 hg6))
       go_roundw
       case rel =>
        refine⟨i+1,n'+1,out.take r++[(i:Int)]++out.drop r,by go_num,by omega,by simp;omega,by simp;omega,by omega,⟨⟨?_,HS.out.put HV.out.2.2 (by have:=HL.out;omega) hb.out (by have:=HI.out.len;omega) HH.out.1 HH.out.2,(HE.out.trans HXe.out).trans HE6.out⟩⟩⟩;have h5:=cd HO6.out (base':=w.heap.size) (by have:=HE.out.size;have:=HXe.out.size;omega);have e:0+r+1+(n'-r)=(out.take r++[(i:Int)]++out.drop r).length:=by simp;omega
        rw[e]at h5;simpa using h5
       case measure=>simp[intOf];omega
     ·have HH:Bx ((∀x,out[r]?=some x->tz l (i:Int) x=true)/\∀x,r≠0->out[r-1]?=some x->tz l (i:Int) x=false):=⟨⟨HX.out.2,fun x h=>absurd (by omega) h⟩⟩
      have hxd:ab w1 wr.drew:=HX.out.1.drew;have kS:True:=trivial;go_upto_region 9 with (fail)
      refine zR 99 (fun _=>True) ?_;refine zS 3 [(0,28),(1,29),(2,30)] kS ?_;iterate 3 refine zT ?_
      refine zN (zS 14 [(3,31),(4,32),(5,33),(6,34),(7,35),(8,36),(9,37),(10,38),(11,39),(12,40),(13,41),(14,42),(15,43),(16,44)] kS ?_);iterate 14 (apply zK;exact⟨rfl,rfl⟩;simp only[kA];exact rfl)
      refine zN (zS 1 [(17,45)] kS ?_);refine zT ?_;refine zN (zD ?_);obtain⟨w3,hw3⟩:=nm (wr.drew:World);rw[<-hw3]at hxd;have HXe:Bx (ab w1 w3):=⟨hxd⟩
      rw[<-hw3];clear hw3 hxd HX HE2 kS;have HIr:=zZ ((HI.out.ext HXe.out).take hr);have HDr:=zZ ((HI.out.ext HXe.out).drop hr);have hso:=HO.out;go_wp2_with (first
       |(at_builtin;refine dh _ rfl (.tmp 48) (.tmp 51) 22 rfl w3.heap.size 3 i0 _ 8 underlying22 hi0 hz0 hz1 hz2 rfl (E none 0 0) 0 [] rfl (yZ _ _ _ _) b Ao r co (out.take r) rfl HIr.out (by omega) (by omega) (zX _) ?_;intro v4 w4 hown4 hg4;have HE4:=zZ (ab.grown (zE w3) hg4 (by simp[Value.ownBlock]));have HO4:=zZ hown4;clear hown4 hg4)
       |(at_builtin;refine aF _ rfl (.tmp 53) (.tmp 55) 22 rfl w3.heap.size 3 i0 _ 8 underlying22 hi0 hz0 hz1 hz2 rfl v4 _ _ rfl (HO4.out.alloc _) _ _ rfl (by simp;rfl) rfl (by omega) (by omega) (by have:=HE4.out.size;simp;omega) ?_;intro v5 w5 hown5 hg5;have HE5:=zZ (ab.grown (HE4.out.alloc _) hg5 (aq HO4.out));have HO5:=zZ hown5;clear hown5 hg5)
       |(at_builtin;refine dh _ rfl (.tmp 57) (.tmp 60) 22 rfl w3.heap.size 3 i0 _ 8 underlying22 hi0 hz0 hz1 hz2 rfl v5 _ _ rfl HO5.out b _ (n'-r) (co-r) (out.drop r) rfl (HDr.out.ext HE5.out) (by omega) (by omega) (HE5.out.size) ?_;intro v6 w6 hown6 hg6;have HE6:=zZ (ab.grown HE5.out hg6 (aq HO5.out));have HO6:=zZ hown6;clear hown6 hg6))
      go_roundw
      case rel =>
       refine⟨i+1,n'+1,out.take r++[(i:Int)]++out.drop r,by go_num,by omega,by simp;omega,by simp;omega,by omega,⟨⟨?_,HS.out.put HV.out.2.2 (by have:=HL.out;omega) hb.out (by have:=HI.out.len;omega) HH.out.1 HH.out.2,(HE.out.trans HXe.out).trans HE6.out⟩⟩⟩;have h5:=cd HO6.out (base':=w.heap.size) (by have:=HE.out.size;have:=HXe.out.size;omega);have e:0+r+1+(n'-r)=(out.take r++[(i:Int)]++out.drop r).length:=by simp;omega
       rw[e]at h5;simpa using h5
      case measure=>simp[intOf];omega
  ·obtain rfl:i=n:=by omega
   obtain⟨Ao,co,hu⟩:=J9 HR.out.1;have hno:out.length=no:=by omega
   rw[hno]at hu;subst hu;clear hno;go_wp2_with fail;go_ret2
   exact⟨_,out,rfl,HR.out.1,by rw[HL.out];exact HR.out.2.1,HR.out.2.2⟩
theorem DU(l:List UInt8):(ba l).toList=l:=by rw[ByteArray.toList_eq];simp[ba]
theorem J4{xt xs xq xk xct xts xtq xlp xlc xlg xlv yt ys yq yk yct yts ytq ylp ylc ylg ylv:Int}{xstr ystr:List UInt8}{xch ych:List Int}:((⟨⟨xt,xs,xq⟩,xk,xstr,xct,xch,⟨xts,xtq⟩,⟨xlp,xlc,xlg,xlv⟩⟩:aj)=⟨⟨yt,ys,yq⟩,yk,ystr,yct,ych,⟨yts,ytq⟩,⟨ylp,ylc,ylg,ylv⟩⟩) ↔
  (xt=yt/\xs=ys/\xq=yq)/\xk=yk/\(ba xstr).toList=(ba ystr).toList/\xct=yct/\xch=ych/\(xts=yts/\xtq=ytq)/\(xlp=ylp/\xlc=ylc/\xlg=ylg/\xlv=ylv):=by
 rw[aj.eq_iff,bN.eq_iff,gT.eq_iff,cJ.eq_iff,DU,DU]
theorem oY(xt xs xq xk xct xts xtq xlp xlc xlg xlv yt ys yq yk yct yts ytq ylp ylc ylg ylv:Int)(xstr ystr:List UInt8)(xch ych:List Int)(xA yA:Option Addr)(xn xcc yn ycc:Nat)(w:World)(ha:ak p w (E xA xn xcc) xch)(hb:ak q w (E yA yn ycc) ych) :
  Calls prog 24 #[.agg #[B D xt,B D xs,B D xq,B D xk,.string (ba xstr),B D xct,E xA xn xcc,B D xts,B D xtq,B D xlp,B D xlc,B D xlg,B D xlv],.agg #[B D yt,B D ys,B D yq,B D yk,.string (ba ystr),B D yct,E yA yn ycc,B D yts,B D ytq,B D ylp,B D ylc,B D ylg,B D ylv]] w fun e w'=>e=.returned (.bool (decide ((⟨⟨xt,xs,xq⟩,xk,xstr,xct,xch,⟨xts,xtq⟩,⟨xlp,xlc,xlg,xlv⟩⟩:aj)=⟨⟨yt,ys,yq⟩,yk,ystr,yct,ych,⟨yts,ytq⟩,⟨ylp,ylc,ylg,ylv⟩⟩)))/\ab w w':=by
 have e1:=fun W=>vx xt xs xq yt ys yq W;have e2:=fun W=>jW xts xtq yts ytq W;have e3:=fun W=>ox xlp xlc xlg xlv ylp ylc ylg ylv W;have g1:=nt;have g2:=fC;have g3:=ij;have HA:Bx (ak p w (E xA xn xcc) xch/\ak q w (E yA yn ycc) ych):=⟨⟨ha,hb⟩⟩
 clear ha hb;go_enter func24,ntmps24
 go_wp2_with (go_at_call 40;refine (rP _ _ xch ych _ (HA.out.1.ext (((zE _).alloc _).alloc _)) (HA.out.2.ext (((zE _).alloc _).alloc _))).mono ?_;rintro e w1 ⟨rfl,hx1⟩;have HE:=zZ ((((zE w).alloc _).alloc _).trans hx1);have q07:w1.cell? ⟨w.heap.size,7,none⟩=some (B D xts):=hx1.cell (by simp[go_sem,yI,yH]);have q08:w1.cell? ⟨w.heap.size,8,none⟩=some (B D xtq):=hx1.cell (by simp[go_sem,yI,yH]);have q09:w1.cell? ⟨w.heap.size,9,none⟩=some (B D xlp):=hx1.cell (by simp[go_sem,yI,yH]);have q010:w1.cell? ⟨w.heap.size,10,none⟩=some (B D xlc):=hx1.cell (by simp[go_sem,yI,yH]);have q011:w1.cell? ⟨w.heap.size,11,none⟩=some (B D xlg):=hx1.cell (by simp[go_sem,yI,yH]);have q012:w1.cell? ⟨w.heap.size,12,none⟩=some (B D xlv):=hx1.cell (by simp[go_sem,yI,yH]);have q17:w1.cell? ⟨w.heap.size+1,7,none⟩=some (B D yts):=hx1.cell (by simp[go_sem,yI,yH]);have q18:w1.cell? ⟨w.heap.size+1,8,none⟩=some (B D ytq):=hx1.cell (by simp[go_sem,yI,yH]);have q19:w1.cell? ⟨w.heap.size+1,9,none⟩=some (B D ylp):=hx1.cell (by simp[go_sem,yI,yH]);have q110:w1.cell? ⟨w.heap.size+1,10,none⟩=some (B D ylc):=hx1.cell (by simp[go_sem,yI,yH]);have q111:w1.cell? ⟨w.heap.size+1,11,none⟩=some (B D ylg):=hx1.cell (by simp[go_sem,yI,yH]);have q112:w1.cell? ⟨w.heap.size+1,12,none⟩=some (B D ylv):=hx1.cell (by simp[go_sem,yI,yH]);clear hx1);all_goals (go_ret;refine⟨aa ?_,?_⟩)
 all_goals (first|exact HE.out|exact ((zE _).alloc _).alloc _|(rw[yE];simp only[decide_eq_true_eq,J4];simp_all)|skip)
 all_goals trace_state
theorem dN(t s q k ct ts tq lp lc lg lv:Int)(b:ByteArray)(A:Option Addr)(n cc:Nat)(w:World) :
  Calls prog 30 #[.agg #[B D t,B D s,B D q,B D k,.string b,B D ct,E A n cc,B D ts,B D tq,B D lp,B D lc,B D lg,B D lv]] w fun e w'=>e=.returned (.agg #[B D s,B D q])/\ab w w':=by
 go_enter func30,ntmps30
 go_wp2_with fail;exact bodyPost_ret (v:=.agg #[B D s,B D q]) (by simp[results,results30,go_sem]) rfl ⟨rfl,((zE _).alloc _).alloc _⟩
theorem Bv(s q s' q':Int)(w:World) :
  Calls prog 121 #[.agg #[B D s,B D q],.agg #[B D s',B D q']] w fun e w'=>e=.returned (.bool (et ⟨s,q⟩ ⟨s',q'⟩))/\ab w w':=by
 go_enter func121,ntmps121
 go_wp2
 all_goals (go_ret;exact⟨aa (by first|(rw[yE];simp[et];omega)|simp_all [et]),((zE _).alloc _).alloc _⟩)
theorem um(c g ct s q c' g' ct' s' q':Int)(A A':Option Addr)(n cc n' cc':Nat)(w:World) :
  Calls prog 122 #[.agg #[B D c,B D g,B D ct,E A n cc,B D s,B D q],.agg #[B D c',B D g',B D ct',E A' n' cc',B D s',B D q']] w fun e w'=>e=.returned (.bool (decide (c<c'\/(c=c'/\g<g'))))/\ab w w':=by
 go_enter func122,ntmps122
 go_wp2
 all_goals (go_ret;exact⟨aa (by first|(rw[yE];simp;omega)|simp_all),((zE _).alloc _).alloc _⟩)
theorem Fw(v:Value)(s:dl)(c:Int)(w:World)(hs:aR p w v s) :
  Calls prog 82 #[v,B D c] w fun e w'=>(∃a b d:Int,e=.returned (.tuple #[.agg #[B D a,B D b,B D d],.bool (fo s.xp c).isSome])/\(fo s.xp c).getD ⟨0,0,0⟩=⟨a,b,d⟩)/\ab w w':=by
 obtain⟨vP,vB,vX,rfl,hP,hB,hX,hnum⟩:=hs;obtain⟨AP,nP,cP,rfl,-⟩:=hP.open_;obtain⟨AB,nB,cB,rfl,-⟩:=hB.open_;obtain⟨A,n,cc,rfl,hnc,hcc,hnn,HL⟩:=hX.open_;have HX:Bx (jh p w (E A n cc) s.xp):=⟨hX⟩
 have HF:Bx (aA w ((w.alloc (.cells #[B D s.num,E AP nP cP,E AB nB cB,E A n cc] 27)).alloc (.cells #[B D 0,B D 0,B D 0] 90)) [(w.heap.size,#[B D s.num,E AP nP cP,E AB nB cB,E A n cc],27),(w.heap.size+1,#[B D 0,B D 0,B D 0],90)]):=⟨((aA.start w).push _ _ rfl).push _ _ (by simp)⟩
 clear hP hB hX hnum;go_enter func82,ntmps82
 go_upto_region 1 with (fail)
 obtain⟨w1,hw1⟩:=nm (((w.alloc (.cells #[B D s.num,E AP nP cP,E AB nB cB,E A n cc] 27)).alloc (.cells #[B D 0,B D 0,B D 0] 90)):World);rw[<-hw1]at HF;rw[<-hw1];clear hw1;have b3:=(HF.out.at_ 0 rfl).c 3 rfl;obtain⟨z0,z1,z2⟩:=(HF.out.at_ 1 rfl).p3 rfl;have f0:=(HF.out.at_ 1 rfl).froz;have f1:=f0;have f2:=f0;go_wp2_with fail;go_loop [6] (fun s6=>∃k:Nat,s6=B D k/\k<=n/\Bx (∀(j:Nat) x,j<k->s.xp[j]?=some x->decide (x.cand=c)=false)) (fun k=>n-(intOf k).toNat)
 case atStart=>exact⟨0,rfl,by omega,⟨fun j x hj=>by omega⟩⟩
 case round =>
  obtain⟨k,rfl,hk,HN⟩:=hrel;by_cases hkn:k<n
  ·obtain⟨b,off,_,_,rfl,-⟩:=HX.out.at_ hkn;obtain⟨cs,⟨xc,xe,xv⟩,-,hc0,hR,hx⟩:=(HX.out.ext (lR.stab p) HF.out.xt).cell_ hkn;obtain⟨x0,x1,x2⟩:=qx hc0 hR;simp only at x0 x1 x2;clear hc0 hR;by_cases hcx:xc=c
   ·have HFD:Bx (fo s.xp c=some ⟨xc,xe,xv⟩):=⟨by unfold fo;exact ja hx.out (decide_eq_true hcx) fun j y hj hy=>HN.out j y hj hy⟩
    have hcb:(xc==c)=true:=by rw[hcx];simp
    replace hcx:=zZ hcx;go_wp2_with fail;have h9:=HF.out.setAll 1 rfl [B D xc,B D xe,B D xv] rfl;refine bodyPost_ret (v:=.tuple #[.agg #[B D xc,B D xe,B D xv],.bool true]) (by simp[results,results82,go_sem,z0,z1,z2]) rfl ⟨⟨xc,xe,xv,by rw[HFD.out];rfl,by rw[HFD.out];rfl⟩,h9.xt⟩
   ·have hcb:(xc==c)=false:=beq_eq_false_iff_ne.2 hcx;replace hcx:=zZ hcx;go_wp2_with fail;go_round
    case rel=>exact⟨k+1,by go_num,by omega,⟨fun j y hj hy=>by rcases zU j k with h|h;exact HN.out j y h hy;obtain rfl:j=k:=(by omega);rw[hx.out]at hy;injection hy with hy;subst hy;exact decide_eq_false hcx.out⟩⟩
    case measure=>simp[intOf];omega
  ·obtain rfl:k=n:=by omega
   have HFD:Bx (fo s.xp c=none):=⟨by unfold fo;exact mP fun j y hy=>HN.out j y (by have:=(zY.1 hy).1;have:=HL.out;omega) hy⟩
   go_wp2_with fail;have h9:=HF.out.setAll 1 rfl [B D 0,B D 0,B D 0] rfl;refine bodyPost_ret (v:=.tuple #[.agg #[B D 0,B D 0,B D 0],.bool false]) (by simp[results,results82,go_sem,z0,z1,z2]) rfl ⟨⟨0,0,0,by rw[HFD.out];rfl,by rw[HFD.out];rfl⟩,h9.xt⟩
theorem bj.drop{α:Type}{p size:Nat}{R:World->List Value->α->Prop}{w:World}{A:Option Addr}{n c k:Nat}{xs:List α}(h:bj p size R w (E A n c) xs)(hk:k<=n):bj p size R w (E (if c=k then A else A.map (·.add (k*size))) (n-k) (c-k)) (xs.drop k):=by
 have hl:=h.len;obtain⟨A',c',hv,h1,h2,h4⟩:=h;injection hv with ha hn hc;subst ha;subst hc;have hlk:(xs.drop k).length=n-k:=by rw[wD];omega
 refine⟨_,c-k,by rw[hlk],by omega,by omega,fun i x hx=>?_⟩;rw[vR]at hx;obtain⟨b,off,cs,ha,hb,hcl,hcell,hr⟩:=h4 _ x hx;have:=(zY.1 hx).1;rw[if_neg (by omega),ha];by_cases h0:k*size=0
 ·refine⟨b,off,cs,by simp[Addr.add,h0],hb,hcl,fun j u hu=>?_,hr⟩;have:=hcell j u hu;rwa [xB,h0,yV]at this
 ·refine⟨b,off+k*size,cs,by simp[Addr.add,h0],hb,hcl,fun j u hu=>?_,hr⟩;have:=hcell j u hu;rwa [xB,<-wC off]at this
theorem Du{α:Type}{C:Nat->List Value->α->Prop}:∀(xs:List α),(∀k x,xs[k]?=some x->∃cs:List Value,cs.length=size/\C k cs x) ->
  ∃css:List (List Value),css.length=xs.length/\(∀cs∈css,cs.length=size)/\∀k cs x,css[k]?=some cs->xs[k]?=some x->C k cs x:=by
 intro xs;induction xs using ic with
 |h0=>exact fun _=>⟨[],rfl,fun cs h=>by simp at h,fun k cs x h=>by simp at h⟩
 |h1 xs x ih =>
  intro h;obtain⟨css,h1,h2,h3⟩:=ih fun k y hk=>h k y (by rw[yY (zY.1 hk).1];exact hk);obtain⟨cs,hc1,hc2⟩:=h xs.length x (by simp);refine⟨css++[cs],by simp[h1],fun z hz=>?_,fun k z y hz hy=>?_⟩
  ·rcases zM.1 hz with hz|hz
   ·exact h2 z hz
   ·obtain rfl:z=cs:=by simpa using hz
    exact hc1
  ·rcases zU k xs.length with hk|hk
   ·rw[yY (by omega)]at hz;rw[yY hk]at hy;exact h3 k z y hz hy
   ·have hk1:=(zY.1 hy).1;simp at hk1;obtain rfl:k=xs.length:=by omega
    rw[yL (by omega),h1]at hz;rw[yL (by omega)]at hy;simp at hz hy;subst hz;subst hy;exact hc2
theorem jB{css:List (List Value)}(h:∀cs∈css,cs.length=size):css.flatten.length=css.length*size:=by
 induction css with
 |nil=>simp
 |cons a l ih=>rw[wA,yU,ih fun cs hc=>h cs (by simp[hc]),h a (by simp),xQ,xB,Nat.one_mul,Nat.add_comm]
def ah{α:Type}(base e size:Nat)(R:List Value->α->Prop)(w:World)(v:Value)(xs:List α):Prop :=
 ∃css:List (List Value),css.length=xs.length/\(∀cs∈css,cs.length=size)/\w.ownsRow base e size v xs.length css.flatten/\∀(k:Nat) cs x,css[k]?=some cs->xs[k]?=some x->R cs x
section
variable {α:Type} {p base e size:Nat} {R:List Value->α->Prop} {w w':World} {v v':Value} {xs ys:List α}
theorem ah.nil:ah base e size R w (E none 0 0) ([]:List α):=⟨[],rfl,fun cs h=>by simp at h,yZ _ _ _ _,fun k cs x h=>by simp at h⟩
theorem ah.ext(h:ah base e size R w v xs)(x:ab w w'):ah base e size R w' v xs:=by obtain⟨css,a,b,c,d⟩:=h;exact⟨css,a,b,ao c x,d⟩
theorem ah.ge(h:ah base e size R w v xs):∀k,v.ownBlock=some k->base<=k:=by obtain⟨css,a,b,c,d⟩:=h;exact aq c
theorem ah.form(h:ah base e size R w v xs):∃A c,v=E A xs.length c:=by
 obtain⟨css,a,b,c,d⟩:=h;rcases c.2 with ⟨e,h0⟩|⟨g,cap,cur,e,_⟩
 ·exact⟨none,0,by rw[e,h0]⟩
 ·exact⟨_,_,e⟩
theorem ah.isS{R':World->List Value->α->Prop}(h:ah base e size R w v xs)(hsz:0<size)(hp:p<base)(hR:∀cs x,R cs x->R' w cs x):bj p size R' w v xs:=by obtain⟨css,a,b,c,d⟩:=h;exact bj.of_own css b hsz a c hp fun k cs x h1 h2=>hR _ _ (d k cs x h1 h2)
theorem ah.app{css:List (List Value)}{css2:List (List Value)}(h1:css.length=xs.length)(h2:css2.length=ys.length)(l1:∀cs∈css,cs.length=size)(l2:∀cs∈css2,cs.length=size)(r1:∀(k:Nat) cs x,css[k]?=some cs->xs[k]?=some x->R cs x)(r2:∀(k:Nat) cs x,css2[k]?=some cs->ys[k]?=some x->R cs x)(ho:w.ownsRow base e size v (xs.length+ys.length) (css.flatten++css2.flatten)):ah base e size R w v (xs++ys):=by
 refine⟨css++css2,by simp[h1,h2],fun cs hc=>?_,by rw[List.flatten_append,yU];exact ho,fun k cs x hc hx=>?_⟩
 ·rcases zM.1 hc with hc|hc
  ·exact l1 cs hc
  ·exact l2 cs hc
 ·rcases zU k xs.length with hk|hk
  ·rw[yY (by omega)]at hc;rw[yY hk]at hx;exact r1 k cs x hc hx
  ·rw[yL (by omega),h1]at hc;rw[yL hk]at hx;exact r2 _ cs x hc hx
end
theorem dq{P:Program}{α:Type}(w:World){ops:Array Oper}{rest:List Oper}{o:Oper}{a:Act}{Q:Exit->Act->World->Prop}(hgd:o.guard=none)(s x:Operand)(t:TypeId)(ho:o.op=.call { callee:=.builtin .append,args:=#[s,x],argTypes:=#[t,t] })(base:Nat)(e:TypeId)(i:TypeInfo)(z:Value)(size bytes:Nat)(ht:P.underlying t=some (.slice e))(hi:P.info? e=some i)(hz:i.zero=some z)(hsize:i.size=size)(hby:i.bytes=bytes)(hzs:z.cells.size=size)(hsz:0<size)(R:List Value->α->Prop)(v:Value)(xs:List α)(hs:a.eval s=v)(hown:ah base e size R w v xs)(g:Nat)(us:Array Value)(t':TypeId)(y:α)(hx:a.eval x=E (some ⟨g,0,none⟩) 1 1)(hu:w.heap[g]?=some (.cells us t' (0,0)))(hul:us.size=size)(h1:∀u∈us.toList,u.oneCell'=true)(hR:R us.toList y)(hn:xs.length<=1000000)(hb:bytes<=1000)(hbase:base<=w.heap.size)(h:∀v' w',ah base e size R w' v' (xs++[y])->w.grownBy w' v.ownBlock->wpList P ops Q rest (a.put o.dst v') w'):wpList P ops Q (o::rest) a w:=by
 obtain⟨css,h2,h3,h4,h5⟩:=hown;refine cZ w hgd s x t ho base e i z size bytes ht hi hz hsize hby hzs hsz v xs.length css.flatten hs h4 g us t' hx hu hul h1 hn hb hbase fun v' w' ho hg=>h v' w' (ah.app (css2:=[us.toList]) h2 (by simp) h3 (fun cs hc=>?_) h5 (fun k cs x hc hx=>?_) (by simpa using ho)) hg
 ·obtain rfl:cs=us.toList:=by simpa using hc
  simpa using hul
 ·obtain rfl:k=0:=by have:=(zY.1 hx).1;simp at this;exact this
  simp at hc hx;subst hc;subst hx;exact hR
theorem dI{P:Program}{α:Type}(w:World){ops:Array Oper}{rest:List Oper}{o:Oper}{a:Act}{Q:Exit->Act->World->Prop}(hgd:o.guard=none)(s x:Operand)(t:TypeId)(ho:o.op=.call { callee:=.builtin .append,args:=#[s,x],argTypes:=#[t,t] })(base:Nat)(e:TypeId)(i:TypeInfo)(z:Value)(size bytes:Nat)(ht:P.underlying t=some (.slice e))(hi:P.info? e=some i)(hz:i.zero=some z)(hsize:i.size=size)(hby:i.bytes=bytes)(hzs:z.cells.size=size)(hsz:0<size)(R:List Value->α->Prop)(h1:∀cs x,R cs x->∀u∈cs,u.oneCell'=true)(v:Value)(xs:List α)(hs:a.eval s=v)(hown:ah base e size R w v xs)(p:Nat)(A:Option Addr)(m c:Nat)(ys:List α)(hx:a.eval x=E A m c)(hr:bj p size (fun _=>R) w (E A m c) ys)(hn:xs.length+m<=1000000)(hb:bytes<=1000)(hbase:base<=w.heap.size)(h:∀v' w',ah base e size R w' v' (xs++ys)->w.grownBy w' v.ownBlock->wpList P ops Q rest (a.put o.dst v') w'):wpList P ops Q (o::rest) a w:=by
 have hl:=hr.len;obtain⟨css,h2,h3,h4,h5⟩:=hown;rcases vE m with h0|h0
 ·subst h0;obtain rfl:ys=[]:=xZ hl;rcases A with _|ad
  ·refine wpList_plain hgd fun K hK=>?_;have hrun:=n8 (P:=P) w base t o.type e i size ht hi v _ _ h4 c;unfold Oper.wp;simp[execOp,ho,resolve,invoke,builtin,hs,hx,hrun,Result.andThen];exact hK _ _ (h v w (by rw[xN];exact⟨css,h2,h3,h4,h5⟩) (uU _ _))
  ·refine wpList_append_own w hgd s x t ho base e i z size bytes ht hi hz hsize hby hzs hsz v _ _ hs h4 ad 0 c [] hx (by simp) (by simp) (by simp) (by unfold maxLen;omega) ?_ hbase (fun v' w' g2 g3 _=>h v' w' (ah.app (css2:=[]) h2 rfl h3 (fun cs hc=>by simp at hc) h5 (fun k cs x hc=>by simp at hc) (by simpa using g2)) g3);have:(xs.length+0)*bytes<=(xs.length+0)*1000:=wB _ hb;omega
 ·obtain⟨A',c',hv,k1,k2,k4⟩:=hr;injection hv with ha _ _;subst ha;obtain⟨b,off,cs0,hA,_,_,_,_⟩:=k4 0 ys[0] (zV (by omega));subst hA;obtain⟨css2,g1,g2,g3⟩:=Du (size:=size) (C:=fun k cs x=>R cs x/\∀j u,cs[j]?=some u->w.cell? ⟨b,off+k*size+j,none⟩=some u) ys (fun k x hk=>by
   obtain⟨b',off',cs,hA,_,hcl,hcc,hR⟩:=k4 k x hk;injection hA with hA;injection hA with q1 q2;subst q1;subst q2;exact⟨cs,hcl,hR,hcc⟩)
  refine wpList_append_own w hgd s x t ho base e i z size bytes ht hi hz hsize hby hzs hsz v _ _ hs h4 ⟨b,off,none⟩ m c css2.flatten hx ?_ ?_ ?_ (by unfold maxLen;omega) ?_ hbase (fun v' w' q2 q3 _=>h v' w' (ah.app h2 g1 h3 g2 h5 (fun k cs x hc hx=>(g3 k cs x hc hx).1) (by rw[hl];exact q2)) q3)
  ·rw[jB g2,g1,hl]
  ·intro j u hj;have hsj:j/size<css2.length:=by
    have hj':=(zY.1 hj).1;rw[jB g2]at hj';exact Nat.div_lt_of_lt_mul (by rw[wM];exact hj')
   have hjm:j%size<size:=xI _ hsz;have e1:j/size*size+j%size=j:=by rw[wM];exact Nat.div_add_mod _ _
   have hf:=ll (f:=fun cs:List Value=>cs) (ys:=css2) g2 (zV hsj) hjm;simp only[List.map_id']at hf;rw[e1,hj]at hf;have:=(g3 (j/size) _ (ys[j/size]'(by omega)) (zV hsj) (zV (by omega))).2 (j%size) u hf.symm;rw[wC,e1]at this;rw[fa];exact this
  ·intro u hu;obtain⟨cs,hc,hu⟩:=List.mem_flatten.1 hu;obtain⟨k,hk⟩:=zH hc;have hk':=(zY.1 hk).1;exact h1 _ _ (g3 k cs (ys[k]'(by omega)) hk (zV (by omega))).1 u hu
  ·have:(xs.length+m)*bytes<=(xs.length+m)*1000:=wB _ hb;omega
end Go.Proofs.YtkaajgoeahahpaaGreatDoor

