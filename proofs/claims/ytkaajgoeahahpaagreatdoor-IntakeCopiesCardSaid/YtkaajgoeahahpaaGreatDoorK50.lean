import Derived.Test.YtkaajgoeahahpaaGreatDoorK32
import Derived.Test.YtkaajgoeahahpaaGreatDoorInlW
import Derived.Test.YtkaajgoeahahpaaGreatDoorK34
set_option linter.all false
set_option maxRecDepth 100000
set_option maxHeartbeats 0
namespace Go.Proofs.YtkaajgoeahahpaaGreatDoor
open Go.RowKit
variable {base c e g j n p size:Nat} {w w':World} {u v:Value}
def Lq(base:Nat):World->List Value->(aj×Value)->Prop:=fun w cs y=>cs=fZ y/\fu w base y.2 y.1.ch/\iu y.1
structure Cr (p base:Nat) (w:World) (v:Value) (ys:List (aj×Value)):Prop where
 rd:bj p 13 (Lq base) w v ys
 kd:ar base w v ys\/∃A n,v=.slice A n n
section
variable {p base:Nat} {w w':World} {v:Value} {ys:List (aj×Value)}
theorem Lq.stab(hp:p<base):lV p (Lq base):=by rintro w w' cs y ⟨h1,h2,h3⟩ e;exact⟨h1,h2.xt e hp,h3⟩
theorem Cr.xt(h:Cr p base w v ys)(hx:XT p w w')(hp:p<base):Cr p base w' v ys :=
 ⟨h.rd.xt (Lq.stab hp) hx,h.kd.imp (fun k=>k.xt hx hp) id⟩
theorem Cr.isCs(h:Cr p base w v ys)(hp:p<base):au p w v (ys.map Prod.fst):=by obtain⟨A,c,hv,h1,h2,h4⟩:=h.rd;refine⟨A,c,by rw[zJ];exact hv,by rw[zJ];exact h1,h2,fun k x hx=>?_⟩;rw[zP,yO]at hx;obtain⟨y,hy,rfl⟩:=hx;obtain⟨b,off,cs,ha,hb,hcl,hcell,rfl,hch,hk⟩:=h4 k y hy;exact⟨b,off,fZ y,ha,hb,hcl,hcell,y.2,rfl,hch.isI hp,hk.wf hch.2.2⟩
theorem Cr.form(h:Cr p base w v ys):∃A c,v=.slice A ys.length c:=by obtain⟨A,c,hv,_⟩:=h.rd;exact⟨A,c,hv⟩
end
theorem qL{size:Nat}:∀(css:List (List Value)),(∀cs∈css,cs.length=size)->∀(k j:Nat) (cs:List Value) (u:Value),css[k]?=some cs->j<size->css.flatten.set (k*size+j) u=(css.set k (cs.set j u)).flatten
 |[],_,k,j,cs,u,h,_=>by simp at h
 |a::l,hl,0,j,cs,u,h,hj=>by
  simp at h;subst h;have ha:=hl a (by simp);simp only[vQ,yV,wA,vA];rw[List.set_append_left _ _ (by omega)]
 |a::l,hl,k+1,j,cs,u,h,hj=>by
  have ha:=hl a (by simp);simp at h;have ih:=qL l (fun c hc=>hl c (by simp[hc])) k j cs u h hj;simp only[wA,List.set_cons_succ];have e:(k+1)*size+j=a.length+(k*size+j):=by rw[xB,ha];omega
  rw[e,vO _ _ (by omega),Nat.add_sub_cancel_left,ih]
theorem ah.setElem{α:Type}{k:Nat}{R:List Value->α->Prop}{xs:List α}{x':α}(h:ah base e size R w (.slice (some ⟨g,0,none⟩) n c) xs)(hk:k<n)(hj:j<size)(hR:∀cs x,xs[k]?=some x->R cs x->R (cs.set j u) x'):ah base e size R (w.setCell ⟨g,k*size+j,none⟩ u) (.slice (some ⟨g,0,none⟩) n c) (xs.set k x'):=by
 obtain⟨css,h1,h2,h3,h4⟩:=h;rcases h3.2 with ⟨e0,_⟩|⟨g',cap,cur,e0,hb,hh,hn,hm,hs,ht⟩
 ·cases e0
 injection e0 with a1 a2 a3;injection a1 with a1;injection a1 with a1;subst a1;subst a3;have hkc:k<css.length:=by omega
 have hck:css[k]?=some css[k]:=zV hkc;have hxk:xs[k]?=some xs[k]:=zV (by omega);have hlc:=h2 _ (zW hck);refine⟨css.set k (css[k].set j u),by simp[h1],fun cs hcs=>?_,⟨?_,.inr ⟨g,c,cur.setIfInBounds (k*size+j) u,by rw[yF,<-a2],hb,?_,by simpa using hn,hm,by simpa using hs,?_⟩⟩,fun i cs x hcs hx=>?_⟩
 ·rcases uW hcs with hm'|rfl
  ·exact h2 cs hm'
  ·simpa using hlc
 ·rw[<-qL css h2 k j css[k] u hck hj,yF,yF];exact h3.1
 ·exact bn hh u
 ·rw[<-qL css h2 k j css[k] u hck hj,yF,tY,List.take_set,ht]
 ·rw[yD]at hcs hx;by_cases hik:k=i
  ·subst hik;rw[if_pos rfl,if_pos (by omega)]at hcs;rw[if_pos rfl,if_pos (by omega)]at hx;injection hcs with hcs;injection hx with hx;subst hcs;subst hx;exact hR _ _ hxk (h4 k _ _ hck hxk)
  ·rw[if_neg hik]at hcs hx;exact h4 i cs x hcs hx
theorem ah.xt{α:Type}{R:List Value->α->Prop}{xs:List α}(h:ah base e size R w v xs)(hx:XT p w w')(hp:p<base):ah base e size R w' v xs:=by obtain⟨css,a,b,c,d⟩:=h;exact⟨css,a,b,dD c hx hp,d⟩
theorem qP{α β:Type}{f:α->List β}{m:Nat}:∀(l:List α),(∀x∈l,(f x).length<=m)->(l.flatMap f).length<=l.length*m
 |[],_=>by simp
 |a::l,h=>by
  have h1:=qP l fun x hx=>h x (by simp[hx]);have h2:=h a (by simp);rw[List.flatMap_cons,yU,xQ,xB];omega
theorem IE{s:dl}{L:List aj}(h:ki s L)(hw:ma s):L.length<=60:=by
 rw[h.cap.1];have h1:(iH s).length<=s.xp.length*12:=qP s.xp fun x hx=>by
  rw[zJ,wQ];unfold F9;cases e:s.bk[x.var.toNat]? with
  |none=>simp
  |some b=>simp only[Option.getD_some];exact (hw.bk b (zW e)).1
 have:=hw.xpn;omega
theorem pT.keep{w w':World}{base:Nat}{v:Value}{s:dl}(h:pT w base v s)(e:∀{e' s':Nat} {u:Value} {n:Nat} {xs:List Value},e'≠47->e'≠27->w.ownsRow base e' s' u n xs->w'.ownsRow base e' s' u n xs):pT w' base v s:=by
 obtain⟨vP,vB,vX,ys,bs,rfl,h1,h2,h3,h4,h5,h6,h7⟩:=h;exact⟨vP,vB,vX,ys,bs,rfl,e (by decide) (by decide) h1,h2,fun y hy=>e (by decide) (by decide) (h3 y hy),e (by decide) (by decide) h4,h5,fun y hy=>(h6 y hy).keep fun {e' u n xs} he k=>by
  rcases he with rfl|rfl
  ·exact e (by decide) (by decide) k
  ·exact e (by decide) (by decide) k,e (by decide) (by decide) h7⟩
theorem pT.xt{q:Nat}{s:dl}(h:pT w base v s)(hx:XT q w w')(hq:q<base):pT w' base v s:=h.keep fun _ _ k=>dD k hx hq
theorem pT.forms{s:dl}(h:pT w base v s):∃AP cP AB cB AX cX,v=.agg #[.int .i64 s.num,.slice AP s.pap.length cP,.slice AB s.bk.length cB,.slice AX s.xp.length cX]:=by obtain⟨vP,vB,vX,ys,bs,rfl,h1,h2,h3,h4,h5,h6,h7⟩:=h;obtain⟨AP,cP,rfl⟩:=h1.form;obtain⟨AB,cB,rfl⟩:=h4.form;obtain⟨AX,cX,rfl⟩:=h7.form;refine⟨AP,cP,AB,cB,AX,cX,?_⟩;rw[<-h2,<-h5,zJ,zJ]
def i9(p:Nat)(w w':World):Prop:=∀(a:Addr) (x:Int),a.block≠p->w.cell? a=some (.int .i64 x)->∃y:Int,(aU x->aU y)/\w'.cell? a=some (.int .i64 y)
theorem wj{α β:Type}{P:Nat->β->Prop}:∀(xs:List α),(∀k x,xs[k]?=some x->∃y,P k y)->∃ys:List β,ys.length=xs.length/\∀k y,ys[k]?=some y->P k y:=by
 intro xs;induction xs using ic with
 |h0=>exact fun _=>⟨[],rfl,fun k y h=>by simp at h⟩
 |h1 xs x ih =>
  intro h;obtain⟨ys,h1,h2⟩:=ih fun k y hk=>h k y (by rw[yY (zY.1 hk).1];exact hk);obtain⟨y,hy⟩:=h xs.length x (by simp);refine⟨ys++[y],by simp[h1],fun k z hz=>?_⟩;rcases zU k ys.length with hk|hk
  ·rw[yY hk]at hz;exact h2 k z hz
  ·have:=(zY.1 hz).1;simp at this;obtain rfl:k=ys.length:=by omega
   simp at hz;subst hz;rw[h1];exact hy
theorem ak.keepInt{l:List Int}(h:ak p w v l)(hk:i9 p w w'):∃l',ak p w' v l'/\l'.length=l.length:=by
 obtain⟨A,c,hv,h1,h2,h3,h4,h5⟩:=h;obtain⟨l',hl,hP⟩:=wj (P:=fun k y=>aU y/\∃b off,A=some ⟨b,off,none⟩/\b≠p/\w'.cell? ⟨b,off+k,none⟩=some (.int .i64 y)) l fun k x hx=>by obtain⟨b,off,ha,hb,hc⟩:=h5 k x hx;obtain⟨y,hy,hy2⟩:=hk _ _ hb hc;exact⟨y,hy (h4 x (zW hx)),b,off,ha,hb,hy2⟩
 refine⟨l',⟨A,c,by rw[hl];exact hv,by rw[hl];exact h1,h2,by rw[hl];exact h3,fun x hx=>?_,fun k x hx=>(hP k x hx).2⟩,hl⟩;obtain⟨k,hk'⟩:=zH hx;exact (hP k x hk').1
def Fq(p base:Nat)(w:World)(v:Value)(n:Nat):Prop:=∃pgs,pgs.length=n/\Ce p w v pgs/\∀(a:Addr) m c,v=.slice (some a) m c->base<=a.block
theorem Fq.of_own{w11:World}{pgs:List Pg}(h:ah base 72 6 (lO p w11) w v pgs)(hp:p<base)(hx:XT p w11 w):Fq p base w v pgs.length:=by
 refine⟨pgs,rfl,h.isS (by decide) hp fun cs x ⟨u,e,hi,hw⟩=>⟨u,e,hi.xt hx,hw⟩,fun a m c e=>?_⟩;obtain⟨css,a',b',c',d⟩:=h;rcases c'.2 with ⟨e0,_⟩|⟨g,cap,cur,e0,hg,_⟩
 ·rw[e0]at e;cases e
 ·rw[e0]at e;cases e;exact hg
theorem Fq.drop{p base n:Nat}{w:World}{A:Option Addr}{c k:Nat}(h:Fq p base w (.slice A n c) n)(hk:k<=n):Fq p base w (.slice (if c=k then A else A.map (·.add (k*6))) (n-k) (c-k)) (n-k):=by
 obtain⟨pgs,hl,hs,hb⟩:=h;refine⟨pgs.drop k,by rw[wD,hl],hs.drop hk,fun a m c' e=>?_⟩;injection e with e1 e2 e3;split at e1
 ·exact hb a n c (by rw[e1])
 ·cases A with
  |none=>cases e1
  |some a0 =>
   simp only[Option.map_some,Option.some.injEq]at e1;have h0:=hb a0 n c rfl;rw[<-e1];unfold Addr.add;split<;>exact h0
theorem Fq.xt{p base n:Nat}{w w':World}{v:Value}(h:Fq p base w v n)(hx:XT p w w'):Fq p base w' v n:=by obtain⟨pgs,hl,hs,hb⟩:=h;exact⟨pgs,hl,hs.xt (lO.stab p) hx,hb⟩
theorem Fq.keep(h:Fq p base w v n)(hk:i9 p w w')(hb:∀k,base<=k->k<w.heap.size->w'.heap[k]?=w.heap[k]?):Fq p base w' v n:=by
 obtain⟨pgs,hl,⟨A,c,hv,h1,h2,h4⟩,hbb⟩:=h;obtain⟨pgs',hl',hP⟩:=wj (P:=fun k (y:Pg)=>∃b off u,A=some ⟨b,off,none⟩/\b≠p/\(∀j z,(y.cells u)[j]?=some z->w'.cell? ⟨b,off+k*6+j,none⟩=some z)/\ak p w' u y.ch/\y.wf) pgs fun k x hx=>by obtain⟨b,off,cs,ha,hbp,hcl,hcell,u,rfl,hi,hw⟩:=h4 k x hx;obtain⟨l',hi',hll⟩:=hi.keepInt hk;refine⟨⟨x.cand,x.page,x.cont,l',x.scan⟩,b,off,u,ha,hbp,fun j z hz=>?_,hi',⟨hw.1,hw.2.1,hw.2.2.1,hw.2.2.2.1,by rw[hll];exact hw.2.2.2.2⟩⟩;have hc:=hcell j z hz;have hlt:=bK hc;simp only at hlt;have hge:=hbb ⟨b,off,none⟩ pgs.length c (by rw[hv,ha]);unfold World.cell? at hc⊢;simp only at hc⊢;rw[hb b hge hlt];exact hc
 refine⟨pgs',by rw[hl',hl],⟨A,c,by rw[hl'];exact hv,by rw[hl'];exact h1,h2,fun k x hx=>?_⟩,hbb⟩;obtain⟨b,off,u,ha,hbp,hcell,hi,hw⟩:=hP k x hx;exact⟨b,off,x.cells u,ha,hbp,rfl,hcell,u,rfl,hi,hw⟩
def Kt(p base:Nat)(w:World)(v:Value)(sts:List dF):Prop:=rA p w v sts/\∀(a:Addr) m c,v=.slice (some a) m c->base<=a.block
theorem Kt.of_own{w11:World}{sts:List dF}(h:ah base 67 7 (cU w11) w v sts)(hp:p<base):Kt p base w v sts:=by
 refine⟨h.isS (by decide) hp fun cs x hr=>hr,fun a m c e=>?_⟩;obtain⟨css,a',b',c',d⟩:=h;rcases c'.2 with ⟨e0,_⟩|⟨g,cap,cur,e0,hg,_⟩
 ·rw[e0]at e;cases e
 ·rw[e0]at e;cases e;exact hg
theorem Kt.keep{sts:List dF}(h:Kt p base w v sts)(hb:∀k,base<=k->k<w.heap.size->w'.heap[k]?=w.heap[k]?):Kt p base w' v sts:=by obtain⟨⟨A,c,hv,h1,h2,h4⟩,hbb⟩:=h;refine⟨⟨A,c,hv,h1,h2,fun k x hx=>?_⟩,hbb⟩;obtain⟨b,off,cs,ha,hbp,hcl,hcell,hr⟩:=h4 k x hx;refine⟨b,off,cs,ha,hbp,hcl,fun j z hz=>?_,hr⟩;have hc:=hcell j z hz;have hlt:=bK hc;simp only at hlt;have hge:=hbb ⟨b,off,none⟩ sts.length c (by rw[hv,ha]);unfold World.cell? at hc⊢;simp only at hc hge⊢;rw[hb b hge hlt];exact hc
theorem i9.trans{p:Nat}{w w1 w2:World}(h:i9 p w w1)(k:i9 p w1 w2):i9 p w w2:=fun a x ha hc=>by obtain⟨y,h1,hy⟩:=h a x ha hc;obtain⟨z,h2,hz⟩:=k a y ha hy;exact⟨z,fun h=>h2 (h1 h),hz⟩
theorem i9.blk{cs cs':Array Value}{t:TypeId}(hb:Bk w g cs t)(hb':Bk w' g cs' t)(hn:∀(i:Nat) (x:Int),cs[i]?=some (.int .i64 x)->∃y:Int,aU y/\cs'[i]?=some (.int .i64 y))(ho:∀k,k≠g->w'.heap[k]?=w.heap[k]?):i9 p w w':=by
 intro a x ha hc;by_cases hg:a.block=g
 ·have h1:w.heap[a.block]?=some (.cells cs t (0,0)):=by rw[hg];exact hb
  have h2:w'.heap[a.block]?=some (.cells cs' t (0,0)):=by rw[hg];exact hb'
  unfold World.cell? at hc⊢;rw[h1]at hc;rw[h2];simp only at hc⊢;split at hc
  ·cases hc
  ·rename_i hs
   obtain⟨y,h64,hy⟩:=hn _ _ hc;exact⟨y,fun _=>h64,by rw[if_neg hs];exact hy⟩
 ·refine⟨x,fun h=>h,?_⟩;unfold World.cell? at hc⊢;rw[ho _ hg];exact hc
theorem ah.row{α:Type}{A:Option Addr}{R:List Value->α->Prop}{xs:List α}(h:ah base e size R w (.slice A n c) xs)(hn:0<n):∃g cur,A=some ⟨g,0,none⟩/\base<=g/\Bk w g cur e:=by
 obtain⟨css,h1,h2,h3,h4⟩:=h;rcases h3.2 with ⟨e0,_⟩|⟨g,cap,cur,e0,hb,hh,_⟩
 ·injection e0 with _ e2 _;omega
 ·injection e0 with e1 e2 e3;exact⟨g,cur,e1,hb,hh⟩
theorem Ci{P:Program}{α:Type}{ops:Array Oper}{o:Oper}{a:Act}{K:Act->World->Prop}{Q:Exit->Act->World->Prop}{E:Prop}(hgd:o.guard=none)(s x:Operand)(t:TypeId)(ho:o.op=.call { callee:=.builtin .append,args:=#[s,x],argTypes:=#[t,t] })(base:Nat)(e:TypeId)(i:TypeInfo)(z:Value)(size bytes:Nat)(ht:P.underlying t=some (.slice e))(hi:P.info? e=some i)(hz:i.zero=some z)(hsize:i.size=size)(hby:i.bytes=bytes)(hzs:z.cells.size=size)(hsz:0<size)(R:List Value->α->Prop)(A:Option Addr)(n c:Nat)(xs:List α)(hs:a.eval s=.slice A n c)(hn:xs.length=n)(hown:ah base e size R w (.slice A n c) xs)(g:Nat)(us:List Value)(y:α)(hx:a.eval x=.slice (some ⟨g,0,none⟩) 1 1)(hnews:∀j u,us[j]?=some u->w.cell? ((⟨g,0,none⟩:Addr).add j)=some u)(hul:us.length=size)(h1:∀u∈us,u.oneCell'=true)(hR:R us y)(hn1:n<=1000000)(hb:bytes<=1000)(hbase:base<=w.heap.size)(h:∀g' c' w',ah base e size R w' (.slice (some ⟨g',0,none⟩) (n+1) c') (xs++[y])->w.grownBy w' (Value.slice A n c).ownBlock->K (a.put o.dst (.slice (some ⟨g',0,none⟩) (n+1) c')) w') :
  if Region.wanted o (yielded ops a.tmps)=true then Oper.wp P o a w K Q else E:=by
 subst hn;obtain⟨css,h2,h3,h4,h5⟩:=hown;have hbb:(xs.length+1)*bytes<=(xs.length+1)*1000:=wB _ hb;refine step_append_lies w hgd s x t ho base e i z size bytes ht hi hz hsize hby hzs hsz (.slice A xs.length c) xs.length css.flatten hs h4 ⟨g,0,none⟩ 1 1 us hx (by omega) hnews h1 (by omega) (by unfold maxLen;omega) (by omega) hbase w.heap.size rfl fun g' c' w' ho hg _ _=>h g' c' w' (ah.app (css2:=[us]) h2 (by simp) h3 (fun cs hc=>?_) h5 (fun k cs x hc hx=>?_) (by simpa using ho)) hg
 ·obtain rfl:cs=us:=by simpa using hc
  exact hul
 ·obtain rfl:k=0:=by have:=(zY.1 hx).1;simp at this;exact this
  simp at hc hx;subst hc;subst hx;exact hR
structure Ir (p gS gI:Nat) (w w11 wx:World) (cS:Array Value) (vS vG:Value) (s:dl) (t:r6):Prop where
 fr:Fr p w wx [(w.heap.size,#[.int .i64 0,.slice none 0 0,.slice none 0 0,.slice none 0 0],27),(w.heap.size+1,#[.slice none 0 0,.slice none 0 0],59),(gS,cS,27),(gI,#[vS,vG],59)]
 x:XT p w11 wx
 hg:w.heap.size+1+1<=w11.heap.size
 st:ah w11.heap.size 67 7 (cU w11) wx vS t.sts
 pg:ah w11.heap.size 72 6 (lO p w11) wx vG t.pgs
 sit:pT wx (w.heap.size+1+1) (.agg cS) s
 wf:ma s
 len:t.sts.length<=300/\t.pgs.length<=300
structure Jz (p gS gI b:Nat) (w wx:World) (cS:Array Value) (vS vG:Value) (s:dl) (sts:List dF) (nG:Nat):Prop where
 fr:Fr p w wx [(w.heap.size,#[.int .i64 0,.slice none 0 0,.slice none 0 0,.slice none 0 0],27),(w.heap.size+1,#[.slice none 0 0,.slice none 0 0],59),(gS,cS,27),(gI,#[vS,vG],59)]
 hg:w.heap.size+1+1<=b
 ss:Kt p b wx vS sts
 gs:Fq p b wx vG nG
 sit:∃bs,w.heap.size+1+1<=bs/\pT wx bs (.agg cS) s
 wf:ma s
 len:sts.length<=1000/\nG<=1000
section
variable {p gS gI:Nat} {w w11 wx w':World} {cS:Array Value} {vS vG:Value} {s:dl} {t:r6}
theorem Ir.lt(h:Ir p gS gI w w11 wx cS vS vG s t):p<w11.heap.size:=by have:=h.fr.hp;have:=h.hg;omega
theorem Ir.step(h:Ir p gS gI w w11 wx cS vS vG s t)(hx:XT p wx w')(ht:bz w' p):Ir p gS gI w w11 w' cS vS vG s t :=
 ⟨h.fr.step hx ht,h.x.trans hx,h.hg,h.st.xt hx h.lt,h.pg.xt hx h.lt,h.sit.xt hx (by have:=h.fr.hp;omega),h.wf,h.len⟩
theorem Ir.ext(h:Ir p gS gI w w11 wx cS vS vG s t)(hx:ab wx w'):Ir p gS gI w w11 w' cS vS vG s t:=h.step hx.xt (h.fr.tp.ext hx)
theorem Ir.fin(h:Ir p gS gI w w11 wx cS vS vG s t):Jz p gS gI w11.heap.size w wx cS vS vG s t.sts t.pgs.length :=
 ⟨h.fr,h.hg,Kt.of_own h.st h.lt,Fq.of_own h.pg h.lt h.x,⟨_,zX _,h.sit⟩,h.wf,by have:=h.len;omega⟩
theorem Jz.ext{b nG:Nat}{sts:List dF}(h:Jz p gS gI b w wx cS vS vG s sts nG)(hx:ab wx w'):Jz p gS gI b w w' cS vS vG s sts nG:=by refine⟨h.fr.ext hx,h.hg,⟨?_,h.ss.2⟩,h.gs.xt hx.xt,(by obtain⟨bs,h1,h2⟩:=h.sit;exact⟨bs,h1,h2.xt (q:=p) hx.xt (by have:=h.fr.hp;omega)⟩),h.wf,h.len⟩;obtain⟨A,c,hv,h1,h2,h4⟩:=h.ss.1;refine⟨A,c,hv,h1,h2,fun k x hk=>?_⟩;obtain⟨b',off,cs,ha,hbp,hcl,hcell,hr⟩:=h4 k x hk;exact⟨b',off,cs,ha,hbp,hcl,fun j z hz=>hx.cell (hcell j z hz),hr⟩
end
theorem LF.far{p:Nat}{w wx:World}{L:BL}(h:LF p w wx L){a:Addr}(ha:∀(k:Nat) x,L[k]?=some x->x.1≠a.block)(hg:w.heap.size<=a.block)(u:Value):LF p w (wx.setCell a u) L :=
 ⟨⟨h.fr.tp.setNew (by have:=h.fr.hp;omega) u,h.fr.xt.setNew hg u,h.fr.hp,h.fr.bl.far ha u⟩,h.tb0,h.p2⟩
theorem rm{m:Nat}{xs:List Value}(h:w.ownsRow base e size (.slice (some ⟨g,0,none⟩) n c) m xs):∃cur,Bk w g cur e/\base<=g:=by
 rcases h.2 with ⟨e0,_⟩|⟨g',cap,cur,e0,hb,hh,_⟩
 ·cases e0
 ·injection e0 with a1 a2 a3;injection a1 with a1;injection a1 with a1;subst a1;exact⟨cur,hh,hb⟩
theorem ar.setStr{cc:Nat}{ys:List (aj×Value)}{c:aj}{str:List UInt8}(h:ar base w (.slice (some ⟨g,0,none⟩) n cc) ys)(hj:ys[j]?=some (c,u))(hjn:j<n)(hs:str.length<=1000) :
  ar base (w.setCell ⟨g,j*13+4,none⟩ (.string (ba str))) (.slice (some ⟨g,0,none⟩) n cc) (ys.set j ({ c with str:=str },u)):=by
 obtain⟨cur,hb,-⟩:=rm h.own.own;have h0:ah base 47 13 (fun cs (y:aj×Value)=>cs=fZ y) w (.slice (some ⟨g,0,none⟩) n cc) ys :=
  ⟨ys.map fZ,by simp,fun cs hc=>by obtain⟨y,-,rfl⟩:=zF.1 hc;rfl,h.own,fun k cs x hcs hx=>by rw[zP,hx]at hcs;injection hcs with hcs;exact hcs.symm⟩
 have h1:=h0.setElem (j:=4) (u:=.string (ba str)) (x':=({ c with str:=str },u)) hjn (by decide) fun cs x hx hr=>by
  rw[hj]at hx;injection hx with hx;subst hx;subst hr
  simp[fZ,aj.cells,J6]
 refine⟨?_,fun y hy=>?_⟩
 ·obtain⟨css,e1,e2,e3,e4⟩:=h1;have e5:css=(ys.set j ({ c with str:=str },u)).map fZ:=by
   refine xW fun i=>?_;rw[zP];rcases zU i css.length with hi|hi
   ·obtain⟨a,ha⟩:∃a,css[i]?=some a:=⟨_,zV hi⟩
    obtain⟨b,hb'⟩:∃b,(ys.set j ({ c with str:=str },u))[i]?=some b:=⟨_,zV (by omega)⟩
    rw[ha,hb',e4 i a b ha hb'];rfl
   ·rw[zC hi,zC (by omega)];rfl
  rw[e5]at e3;exact e3
 ·have hm:y∈ys\/y=({ c with str:=str },u):=by
   rcases uW hy with h2|h2
   ·exact .inl h2
   ·exact .inr h2
  rcases hm with hm|rfl
  ·obtain⟨h2,h3⟩:=h.el y hm;exact⟨h2.far hb (by decide) _ _,h3⟩
  ·obtain⟨h2,h3⟩:=h.el _ (zW hj);exact⟨h2.far hb (by decide) _ _,⟨h3.st,h3.kind,hs,h3.cont,h3.tgt,h3.lab⟩⟩
theorem BF{ys:List (aj×Value)}{c:aj}:(ys.set j (c,u)).map Prod.fst=(ys.map Prod.fst).set j c:=by rw[wX]
theorem Jv{α:Type}{R:List Value->α->Prop}{xs:List α}(h:ah base e size R w (.slice (some ⟨g,0,none⟩) n c) xs):g<w.heap.size:=by obtain⟨css,-,-,h3,-⟩:=h;exact (rm h3).elim fun _ h=>h.1.lt
theorem Fn{P:Program}{α:Type}{ops:Array Oper}{o:Oper}{a:Act}{K:Act->World->Prop}{Q:Exit->Act->World->Prop}{E:Prop}(hgd:o.guard=none)(s x:Operand)(t:TypeId)(ho:o.op=.call { callee:=.builtin .append,args:=#[s,x],argTypes:=#[t,t] })(base:Nat)(e:TypeId)(i:TypeInfo)(z:Value)(size bytes:Nat)(ht:P.underlying t=some (.slice e))(hi:P.info? e=some i)(hz:i.zero=some z)(hsize:i.size=size)(hby:i.bytes=bytes)(hzs:z.cells.size=size)(hsz:0<size)(R:List Value->α->Prop)(h1:∀cs x,R cs x->∀u∈cs,u.oneCell'=true)(v:Value)(xs:List α)(hs:a.eval s=v)(hown:ah base e size R w v xs)(p b off m c:Nat)(ys:List α)(hx:a.eval x=.slice (some ⟨b,off,none⟩) m c)(hr:bj p size (fun _=>R) w (.slice (some ⟨b,off,none⟩) m c) ys)(hm:0<m)(hn:xs.length+m<=1000000)(hb:bytes<=1000)(hbase:base<=w.heap.size)(h:∀g' c' w',ah base e size R w' (.slice (some ⟨g',0,none⟩) (xs.length+m) c') (xs++ys)->w.grownBy w' v.ownBlock->K (a.put o.dst (.slice (some ⟨g',0,none⟩) (xs.length+m) c')) w') :
  if Region.wanted o (yielded ops a.tmps)=true then Oper.wp P o a w K Q else E:=by
 have hl:=hr.len;obtain⟨css,h2,h3,h4,h5⟩:=hown;obtain⟨A',c',hv,k1,k2,k4⟩:=hr;injection hv with ha _ _;subst ha;obtain⟨css2,g1,g2,g3⟩:=Du (size:=size) (C:=fun k cs x=>R cs x/\∀j u,cs[j]?=some u->w.cell? ⟨b,off+k*size+j,none⟩=some u) ys (fun k x hk=>by obtain⟨b',off',cs,hA,_,hcl,hcc,hR⟩:=k4 k x hk;injection hA with hA;injection hA with q1 q2;subst q1;subst q2;exact⟨cs,hcl,hR,hcc⟩)
 refine step_append_lies w hgd s x t ho base e i z size bytes ht hi hz hsize hby hzs hsz v _ _ hs h4 ⟨b,off,none⟩ m c css2.flatten hx ?_ ?_ ?_ hm (by unfold maxLen;omega) ?_ hbase w.heap.size rfl (fun g' c' w' q2 q3 _ _=>h g' c' w' (ah.app h2 g1 h3 g2 h5 (fun k cs x hc hx=>(g3 k cs x hc hx).1) (by rw[hl];exact q2)) q3)
 ·rw[jB g2,g1,hl]
 ·intro j u hj;have hsj:j/size<css2.length:=by
   have hj':=(zY.1 hj).1;rw[jB g2]at hj';exact Nat.div_lt_of_lt_mul (by rw[wM];exact hj')
  have hjm:j%size<size:=xI _ hsz;have e1:j/size*size+j%size=j:=by rw[wM];exact Nat.div_add_mod _ _
  have hf:=ll (f:=fun cs:List Value=>cs) (ys:=css2) g2 (zV hsj) hjm;simp only[List.map_id']at hf;rw[e1,hj]at hf;have:=(g3 (j/size) _ (ys[j/size]'(by omega)) (zV hsj) (zV (by omega))).2 (j%size) u hf.symm;rw[wC,e1]at this;rw[fa];exact this
 ·intro u hu;obtain⟨cs,hc,hu⟩:=List.mem_flatten.1 hu;obtain⟨k,hk⟩:=zH hc;have hk':=(zY.1 hk).1;exact h1 _ _ (g3 k cs (ys[k]'(by omega)) hk (zV (by omega))).1 u hu
 ·have:(xs.length+m)*bytes<=(xs.length+m)*1000:=wB _ hb;omega
theorem Hm:∀cs x,bR p w cs x->∀u∈cs,u.oneCell'=true:=by rintro cs x ⟨u,rfl,hi,-⟩ y hy;obtain⟨A,n,c,rfl,-⟩:=hi.open_;simp only[aj.cells,yM,wL,or_false]at hy;rcases hy with rfl|rfl|rfl|rfl|rfl|rfl|rfl|rfl|rfl|rfl|rfl|rfl|rfl<;>first|rfl|simp[sv,Value.oneCell']
theorem au.at_world{l:List aj}(h:au p w v l):bj p 13 (fun _=>bR p w) w v l:=by obtain⟨A,c,hv,h1,h2,h4⟩:=h;exact⟨A,c,hv,h1,h2,h4⟩
theorem EI{α:Type}{R:List Value->α->Prop}(w:World):ah w.heap.size e size R (w.alloc (.cells #[] e)) (.slice (some ⟨w.heap.size,0,none⟩) 0 0) [] :=
 ⟨[],rfl,fun cs h=>by simp at h,uT w #[] 0 (zX _) (by unfold maxLen;omega) (by simp),fun k cs x h=>by simp at h⟩
structure jr (s:dl) (C:List aj):Prop where
 ids:FB C
 one:∀(i k:Nat) x y,(af s C)[i]?=some x->(af s C)[k]?=some y->x.fit=true->y.fit=true->y.lab=x.lab->k=i
section
variable {s:dl} {C:List aj}
theorem jr.state(h:jr s C){i:Nat}{x:dH}(hx:(af s C)[i]?=some x)(hf:x.fit=true):cR (af s C) i x=1:=by
 have only:∀(k:Nat) y,(af s C)[k]?=some y->dB x y=true->k=i:=by intro k y hy hs;unfold dB at hs;simp only[yT,decide_eq_true_eq]at hs;exact h.one i k x y hx hy hf hs.1 hs.2
 unfold cR;rw[if_pos hf];unfold dL;rw[if_neg,if_neg]
 ·simp only[Bool.not_eq_true,wO];intro y hy;obtain⟨k,hk⟩:=zH hy;rw[yB]at hk;split at hk
  ·rename_i hki
   cases hs:dB x y with
   |false=>simp
   |true=>have:=only k y hk hs;omega
  ·cases hk
 ·simp only[Bool.not_eq_true,wO,yT,not_and];intro y hy hs;obtain⟨k,hk⟩:=zH hy;obtain rfl:=only k y hk hs;rw[hx]at hk;injection hk with hk;subst hk;unfold en;simp
theorem jr.pg1(h:jr s C)(k:Nat):pg1 (af s C) k=((af s C)[k]?).bind fun x=>if x.fit then some (Gs x) else none:=by
 unfold Go.Proofs.YtkaajgoeahahpaaGreatDoor.pg1;cases hx:(af s C)[k]? with
 |none=>rfl
 |some x =>
  simp only[uL];cases hf:x.fit with
  |true =>
   have e:=(de hx).2;have hk1:x.cap.kind=1:=by rw[e]at hf;exact (lK hf).1
   rw[if_pos ⟨hk1,h.state hx hf⟩];rfl
  |false =>
   rw[if_neg]
   ·rfl
   ·rintro⟨_,hu⟩;have:=(ro hx hu).1;rw[hf]at this;cases this
theorem jr.len_to(h:jr s C):∀k,(bW (af s C) k).length=(((af s C).take k).filter dH.fit).length
 |0=>rfl
 |k+1=>by
  rw[jO,yU,h.len_to k,h.pg1];rcases hx:(af s C)[k]? with _|x
  ·have hl:=List.getElem?_eq_none_iff.1 hx;rw[xV (by omega),xV (by omega)];rfl
  ·rw[ax hx,xM,yU];simp only[uL];cases hf:x.fit<;>simp[hf]
theorem jr.len(h:jr s C):(cQ s C).pgs.length=(C.filter fun c=>(aM s C c).fit).length:=by rw[Ec,h.len_to,xV (by rw[jw];exact zX _)];unfold af;rw[List.filter_map,zJ];rfl
theorem jr.mem_sts(h:jr s C){c:aj}(hc:c∈C)(hk:c.kind=1):(⟨c.id,if (aM s C c).fit then 1 else (aM s C c).st,(aM s C c).lab⟩:dF)∈(cQ s C).sts:=by
 obtain⟨i,hi⟩:=zH hc;have hr:=lL (s:=s) hi;refine Go.Proofs.YtkaajgoeahahpaaGreatDoor.mem_sts.2 ⟨i,_,hr,by rw[ff];exact hk,?_⟩;unfold lN;rw[ff];cases hf:(aM s C c).fit with
 |true=>rw[h.state hr hf];rfl
 |false=>unfold cR;rw[hf];rfl
theorem yi(hi:FB C)(h:∀c∈C,∀d∈C,(aM s C c).fit=true->(aM s C d).fit=true->(aM s C d).lab=(aM s C c).lab->c=d):jr s C:=by
 refine⟨hi,fun i k x y hx hy hfx hfy hl=>?_⟩;obtain⟨h1,h2⟩:=de hx;obtain⟨h3,h4⟩:=de hy;rw[h2]at hfx hl;rw[h4]at hfy hl;have he:=h _ (zW h1) _ (zW h3) hfx hfy hl;rw[<-he]at h3;rcases xO i k with e|e|e
 ·exact absurd rfl (kO hi h1 h3 e)
 ·exact e.symm
 ·exact absurd rfl (kO hi h3 h1 e)
end
theorem DI{α:Type}[DecidableEq α]:∀(l:List α) (x:α),l.Nodup->x∈l->(l.filter fun y=>!decide (y=x)).length+1=l.length
 |[],x,_,h=>absurd h (by simp)
 |y::l,x,hn,h=>by
  have h1:=uQ.1 hn;by_cases e:y=x
  ·subst e;have:l.filter (fun z=>!decide (z=y))=l:=List.filter_eq_self.2 fun z hz=>by
    have:z≠y:=fun e=>h1.1 (e▸hz);simp[this]
   rw[uB (by simp),this];rfl
  ·have hx:x∈l:=by
    rcases yM.1 h with h|h
    ·exact absurd h.symm e
    ·exact h
   rw[uC (by simp[e])];have:=DI l x h1.2 hx;simp only[xQ];omega
section
variable {s:dl} {C:List aj} {c1 c2 e:aj}
structure DG (s:dl) (C:List aj) (c2:aj) (lab:cJ) (labs:aj->cJ):Prop where
 ids:FB C
 mem:c2∈C
 all:∀c∈C,c.kind=1/\(c≠c2->dR c.str=some (labs c)/\bH s (labs c) c.ch=true/\labs c≠lab)
 no:dR c2.str=none
 fits:bH s lab c2.ch=true
 inj:∀c∈C,∀d∈C,c≠c2->d≠c2->labs c=labs d->c=d
variable {lab:cJ} {labs:aj->cJ}
theorem DG.dec(h:DG s C c2 lab labs)(id:gT):C.filter (fH id)=[]:=by rw[List.filter_eq_nil_iff];intro d hd;unfold fH;rw[(h.all d hd).1];simp
theorem DG.label(h:DG s C c2 lab labs){c:aj}(hc:c∈C):aQ C c.id=if c=c2 then (cJ.zero,4) else (labs c,0):=by
 unfold aQ;rw[o6 h.ids hc (h.all c hc).1,h.dec];unfold iI;by_cases e:c=c2
 ·rw[if_pos e,e];simp[h.no]
 ·rw[if_neg e];simp[((h.all c hc).2 e).1]
theorem DG.scn(h:DG s C c2 lab labs){c:aj}(hc:c∈C):aM s C c=if c=c2 then ⟨c,cJ.zero,4,false⟩ else ⟨c,labs c,0,true⟩:=by
 have h1:=h.all c hc;unfold aM;rw[if_pos h1.1,h.label hc];by_cases e:c=c2
 ·rw[if_pos e,if_pos e];simp
 ·rw[if_neg e,if_neg e];simp[(h1.2 e).2.1]
theorem DG.alone(h:DG s C c2 lab labs):jr s C:=by
 refine yi h.ids fun c hc d hd hfc hfd hl=>?_;rw[h.scn hc]at hfc hl;rw[h.scn hd]at hfd hl;by_cases e:c=c2
 ·rw[if_pos e]at hfc;cases hfc
 ·by_cases e':d=c2
  ·rw[if_pos e']at hfd;cases hfd
  ·rw[if_neg e,if_neg e']at hl;exact h.inj c hc d hd e e' hl.symm
theorem DG.len(h:DG s C c2 lab labs):(cQ s C).pgs.length+1=C.length:=by
 rw[h.alone.len];have:(C.filter fun c=>(aM s C c).fit)=C.filter fun c=>!decide (c=c2):=by refine List.filter_congr fun c hc=>?_;rw[h.scn hc];by_cases e:c=c2<;>simp[e]
 rw[this];exact DI C c2 (h.ids.imp fun {a b} hab e=>hab (by rw[e])) h.mem
theorem DG.state(h:DG s C c2 lab labs):(⟨c2.id,4,cJ.zero⟩:dF)∈(cQ s C).sts:=by have:=h.alone.mem_sts h.mem (h.all c2 h.mem).1;rw[h.scn h.mem,if_pos rfl]at this;exact this
structure pr (s:dl) (C:List aj) (c2:aj) (lab:cJ) (labs:aj->cJ) (e:aj):Prop extends DG s C c2 lab labs where
 ke:e.kind=2
 tgt:e.tgt=c2.id
 labE:e.lab=lab
 new:∀c∈C,c.id≠e.id
theorem pr.scn'(h:pr s C c2 lab labs e){c:aj}(hc:c∈C):aM s (C++[e]) c=⟨c,if c=c2 then lab else labs c,0,true⟩:=by
 have hs:∀x∈[e],dm c.id x=false:=fun x hx=>by
  obtain rfl:x=e:=by simpa using hx
  unfold dm;rw[h.ke];rfl
 have h1:=h.all c hc;have hl:aQ (C++[e]) c.id=(if c=c2 then lab else labs c,0):=by
  by_cases he:c=c2
  ·have hd:([e].filter (fH c.id)).getLast?=some e:=by
    rw[uC (by unfold fH;rw[h.ke,h.tgt,he];simp)];rfl
   rw[De hs hd,o6 h.ids hc h1.1,if_pos he];unfold iI;simp[h.ke,h.labE]
  ·rw[CU hs,h.label hc,if_neg he,if_neg he];intro x hx;obtain rfl:x=e:=by simpa using hx
   have q:decide (x.tgt=c.id)=false:=decide_eq_false fun h2=>he (KK h.ids hc h.mem (by rw[<-h2,h.tgt]));unfold fH;rw[q];simp
 unfold aM;rw[if_pos h1.1,hl];by_cases he:c=c2
 ·simp only[if_pos he];rw[he,h.fits];simp
 ·simp only[if_neg he];simp[(h1.2 he).2.1]
theorem pr.scnE(h:pr s C c2 lab labs e):aM s (C++[e]) e=⟨e,cJ.zero,0,false⟩:=by unfold aM;rw[if_neg (by rw[h.ke];omega)]
theorem pr.ids'(h:pr s C c2 lab labs e):FB (C++[e]):=by
 refine xJ.2 ⟨h.ids,wR _ _,fun a ha b hb=>?_⟩;obtain rfl:b=e:=by simpa using hb
 exact h.new a ha
theorem pr.alone'(h:pr s C c2 lab labs e):jr s (C++[e]):=by
 refine yi h.ids' fun c hc d hd hfc hfd hl=>?_;have key:∀{z:aj},z∈C++[e]->(aM s (C++[e]) z).fit=true->z∈C:=fun {z} hz hf=>by
  rcases zM.1 hz with hz|hz
  ·exact hz
  ·obtain rfl:z=e:=by simpa using hz
   rw[h.scnE]at hf;cases hf
 have hc':=key hc hfc;have hd':=key hd hfd;rw[h.scn' hc',h.scn' hd']at hl;simp only at hl;by_cases e1:c=c2
 ·by_cases e2:d=c2
  ·rw[e1,e2]
  ·rw[if_pos e1,if_neg e2]at hl;exact absurd hl ((h.all d hd').2 e2).2.2
 ·by_cases e2:d=c2
  ·rw[if_neg e1,if_pos e2]at hl;exact absurd hl.symm ((h.all c hc').2 e1).2.2
  ·rw[if_neg e1,if_neg e2]at hl;exact h.inj c hc' d hd' e1 e2 hl.symm
theorem pr.len'(h:pr s C c2 lab labs e):(cQ s (C++[e])).pgs.length=C.length:=by
 rw[h.alone'.len,xM];have h1:(C.filter fun c=>(aM s (C++[e]) c).fit)=C:=List.filter_eq_self.2 fun c hc=>by rw[h.scn' hc]
 have h2:([e].filter fun c=>(aM s (C++[e]) c).fit)=[]:=by rw[uB (by rw[h.scnE];simp)];rfl
 rw[h1,h2,xN]
theorem pr.state'(h:pr s C c2 lab labs e):(⟨c2.id,1,lab⟩:dF)∈(cQ s (C++[e])).sts:=by have:=h.alone'.mem_sts (zM.2 (.inl h.mem)) (h.all c2 h.mem).1;rw[h.scn' h.mem]at this;simpa using this
end
end Go.Proofs.YtkaajgoeahahpaaGreatDoor

