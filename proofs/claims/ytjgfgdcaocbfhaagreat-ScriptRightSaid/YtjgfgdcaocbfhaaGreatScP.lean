import Derived.Test.YtjgfgdcaocbfhaaGreatRefQ
set_option linter.all false
set_option maxRecDepth 100000
set_option maxHeartbeats 0
namespace Go.Proofs.YtjgfgdcaocbfhaaGreat
open Go.Value renaming int→B,slice→D
open Go.IntKind renaming i64→C
open Go.RowKit
variable {b base c1 c2 c3 e g i j k n n1 n2 n3 nG p size:Nat} {w w':World} {u v:Value} {cs cur:Array Value} {t:TypeId} {a1 a2 a3:Option Addr}
theorem pJ{size:Nat}:∀(css:List (List Value)),(∀cs∈css,cs.length=size)→∀(k j:Nat) (cs:List Value) (u:Value),css[k]?=some cs→j<size→css.flatten.set (k*size+j) u=(css.set k (cs.set j u)).flatten
 |[],_,k,j,cs,u,h,_=>by simp at h
 |a::l,hl,0,j,cs,u,h,hj=>by
  simp at h;subst h;have ha:=hl a (by simp);simp only[Nat.zero_mul,yV,wO,List.set_cons_zero];rw[List.set_append_left _ _ (by omega)]
 |a::l,hl,k+1,j,cs,u,h,hj=>by
  have ha:=hl a (by simp);simp at h;have ih:=pJ l (fun c hc=>hl c (by simp[hc])) k j cs u h hj;simp only[wO,List.set_cons_succ];have e:(k+1)*size+j=a.length+(k*size+j):=by rw[xQ,ha];omega
  rw[e,List.set_append_right _ _ (by omega),Nat.add_sub_cancel_left,ih]
theorem ay.setElem{α:Type}{c:Nat}{R:List Value→α→Prop}{xs:List α}{x':α}(h:ay base e size R w (D (some ⟨g,0,none⟩) n c) xs)(hk:k<n)(hj:j<size)(hR:∀cs x,xs[k]?=some x→R cs x→R (cs.set j u) x'):ay base e size R (w.setCell ⟨g,k*size+j,none⟩ u) (D (some ⟨g,0,none⟩) n c) (xs.set k x'):=by
 obtain⟨css,h1,h2,h3,h4⟩:=h;rcases h3.2 with ⟨e0,_⟩|⟨g',cap,cur,e0,hb,hh,hn,hm,hs,ht⟩
 ·cases e0
 injection e0 with a1 a2 a3;injection a1 with a1;injection a1 with a1;subst a1;subst a3;have hkc:k<css.length:=by omega
 have hck:css[k]?=some css[k]:=zW hkc;have hxk:xs[k]?=some xs[k]:=zW (by omega);have hlc:=h2 _ (zU hck);refine⟨css.set k (css[k].set j u),by simp[h1],fun cs hcs=>?_,⟨?_,.inr ⟨g,c,cur.setIfInBounds (k*size+j) u,by rw[xO,←a2],hb,?_,by simpa using hn,hm,by simpa using hs,?_⟩⟩,fun i cs x hcs hx=>?_⟩
 ·rcases List.mem_or_eq_of_mem_set hcs with hm'|rfl
  ·exact h2 cs hm'
  ·simpa using hlc
 ·rw[←pJ css h2 k j css[k] u hck hj,xO,xO];exact h3.1
 ·exact dS hh u
 ·rw[←pJ css h2 k j css[k] u hck hj,xO,Array.toList_setIfInBounds,List.take_set,ht]
 ·rw[List.getElem?_set]at hcs hx;by_cases hik:k=i
  ·subst hik;rw[if_pos rfl,if_pos (by omega)]at hcs;rw[if_pos rfl,if_pos (by omega)]at hx;injection hcs with hcs;injection hx with hx;subst hcs;subst hx;exact hR _ _ hxk (h4 k _ _ hck hxk)
  ·rw[if_neg hik]at hcs hx;exact h4 i cs x hcs hx
theorem ay.xt{α:Type}{R:List Value→α→Prop}{xs:List α}(h:ay base e size R w v xs)(hx:XT p w w')(hp:p<base):ay base e size R w' v xs:=by obtain⟨css,a,b,c,d⟩:=h;exact⟨css,a,b,dJ c hx hp,d⟩
def Gz(t:en):Prop:=(∀x∈t.sts,1≤x.state∧x.state≤6)∧fJ t.sts=t.pgs.length
def Hm(p:Nat)(n:Int)(v:Value)(w':World):Prop:=∃vS vI s t,v=.tuple #[vS,vI]∧aN p w' vS s∧bN p w' vI t∧t.sts.length≤1000∧t.pgs.length≤1000∧(n=0→Gz t)
theorem nT{α β:Type}{f:α→List β}{m:Nat}:∀(l:List α),(∀x∈l,(f x).length≤m)→(l.flatMap f).length≤l.length*m
 |[],_=>by simp
 |a::l,h=>by
  have h1:=nT l fun x hx=>h x (by simp[hx]);have h2:=h a (by simp);rw[List.flatMap_cons,zI,xT,xQ];omega
theorem Gm{s:aZ}{L:List aF}(h:De s L)(hw:jE s):L.length≤60:=by
 rw[h.cap.1];have h1:(jB s).length≤s.xp.length*12:=nT s.xp fun x hx=>by
  rw[zM,wM];unfold fA;cases e:s.bk[x.var.toNat]? with
  |none=>simp
  |some b=>simp only[Option.getD_some];exact (hw.bk b (zU e)).1
 have:=hw.xpn;omega
theorem Hf(s:aZ)(l:List aF):Gz (if aw s=0 then eX s (bR l) else ⟨[],[]⟩):=by
 by_cases h:aw s=0
 ·rw[if_pos h];exact⟨fun x hx=>GG hx,by unfold fJ pV;exact Ef⟩
 ·rw[if_neg h];exact⟨fun x hx=>by simp at hx,rfl⟩
theorem DK(s:aZ)(l:List aF)(hl:l.length≤300):(if aw s=0 then eX s (bR l) else ⟨[],[]⟩).sts.length≤300∧(if aw s=0 then eX s (bR l) else ⟨[],[]⟩).pgs.length≤300:=by
 by_cases h:aw s=0
 ·rw[if_pos h];have h1:=uu l;have h2:=kC (bi s (bR l)) (bR l).length;have h3:=mp (bi s (bR l)) (bR l).length;exact⟨by unfold eX;simp only;omega,by unfold eX;simp only;omega⟩
 ·rw[if_neg h];simp
theorem zh{P:Program}(w:World){ops:Array Oper}{rest:List Oper}{o:Oper}{a:Act}{Q:Exit→Act→World→Prop}(hgd:o.guard=none)(s x:Operand)(t:TypeId)(ho:o.op=.call { callee:=.builtin .append,args:=#[s,x],argTypes:=#[t,t] }){v':Value}{vs vx:Value}(hs:a.eval s=vs)(hx:a.eval x=vx)(hrun:(Builtin.append_ #[t,t] o.type #[vs,vx]).run P w=.ok v' w')(h:wpList P ops Q rest (a.put o.dst v') w'):wpList P ops Q (o::rest) a w :=
 wpList_plain hgd fun K hK=>oD s x t ho hs hx hrun (hK _ _ h)
theorem ef.keep{w w':World}{base:Nat}{v:Value}{s:aZ}(h:ef w base v s)(e:∀{e' s':Nat} {u:Value} {n:Nat} {xs:List Value},e'≠111→e'≠27→w.ownsRow base e' s' u n xs→w'.ownsRow base e' s' u n xs):ef w' base v s:=by
 obtain⟨vP,vB,vX,ys,bs,rfl,h1,h2,h3,h4,h5,h6,h7⟩:=h;exact⟨vP,vB,vX,ys,bs,rfl,e (by decide) (by decide) h1,h2,fun y hy=>e (by decide) (by decide) (h3 y hy),e (by decide) (by decide) h4,h5,fun y hy=>(h6 y hy).keep fun {e' u n xs} he k=>by
  rcases he with rfl|rfl
  ·exact e (by decide) (by decide) k
  ·exact e (by decide) (by decide) k,e (by decide) (by decide) h7⟩
theorem ef.xt{q:Nat}{s:aZ}(h:ef w base v s)(hx:XT q w w')(hq:q<base):ef w' base v s:=h.keep fun _ _ k=>dJ k hx hq
theorem ef.grownC{s:aZ}{row:Option Nat}(h:ef w base v s)(hg:w.grownBy w' row)(hr:∀(g:Nat) (cs:Array Value) (t:TypeId),Bk w g cs t→t≠111→row≠some g):ef w' base v s:=h.keep fun h1 _ ho=>aE ho hg fun k hk e=>by
 rcases ho.2 with ⟨e0,_⟩|⟨g,cap,cur,e0,_,hh,_⟩
 ·rw[e0]at hk;cases hk
 ·rw[e0]at hk;simp only[Value.ownBlock]at hk;injection hk with hk;subst hk;exact hr g cur _ hh h1 e
theorem ef.forms{s:aZ}(h:ef w base v s):∃AP cP AB cB AX cX,v=.agg #[B C s.num,D AP s.pap.length cP,D AB s.bk.length cB,D AX s.xp.length cX]:=by obtain⟨vP,vB,vX,ys,bs,rfl,h1,h2,h3,h4,h5,h6,h7⟩:=h;obtain⟨AP,cP,rfl⟩:=h1.form;obtain⟨AB,cB,rfl⟩:=h4.form;obtain⟨AX,cX,rfl⟩:=h7.form;refine⟨AP,cP,AB,cB,AX,cX,?_⟩;rw[←h2,←h5,zM,zM]
def dd(p:Nat)(w w':World):Prop:=∀(a:Addr) (x:Int),a.block≠p→w.cell? a=some (B C x)→∃y:Int,(aC x→aC y)∧w'.cell? a=some (B C y)
theorem nO{α β:Type}{P:Nat→β→Prop}:∀(xs:List α),(∀k x,xs[k]?=some x→∃y,P k y)→∃ys:List β,ys.length=xs.length∧∀k y,ys[k]?=some y→P k y:=by
 intro xs;induction xs using jN with
 |h0=>exact fun _=>⟨[],rfl,fun k y h=>by simp at h⟩
 |h1 xs x ih =>
  intro h;obtain⟨ys,h1,h2⟩:=ih fun k y hk=>h k y (by rw[zH (zY.1 hk).1];exact hk);obtain⟨y,hy⟩:=h xs.length x (by simp);refine⟨ys++[y],by simp[h1],fun k z hz=>?_⟩;rcases zV k ys.length with hk|hk
  ·rw[zH hk]at hz;exact h2 k z hz
  ·have:=(zY.1 hz).1;simp at this;obtain rfl:k=ys.length:=by omega
   simp at hz;subst hz;rw[h1];exact hy
theorem ao.keepInt{l:List Int}(h:ao p w v l)(hk:dd p w w'):∃l',ao p w' v l'∧l'.length=l.length:=by
 obtain⟨A,c,hv,h1,h2,h3,h4,h5⟩:=h;obtain⟨l',hl,hP⟩:=nO (P:=fun k y=>aC y∧∃b off,A=some ⟨b,off,none⟩∧b≠p∧w'.cell? ⟨b,off+k,none⟩=some (B C y)) l fun k x hx=>by obtain⟨b,off,ha,hb,hc⟩:=h5 k x hx;obtain⟨y,hy,hy2⟩:=hk _ _ hb hc;exact⟨y,hy (h4 x (zU hx)),b,off,ha,hb,hy2⟩
 refine⟨l',⟨A,c,by rw[hl];exact hv,by rw[hl];exact h1,h2,by rw[hl];exact h3,fun x hx=>?_,fun k x hx=>(hP k x hx).2⟩,hl⟩;obtain⟨k,hk'⟩:=yZ hx;exact (hP k x hk').1
def sJ(p base:Nat)(w:World)(v:Value)(n:Nat):Prop:=∃pgs,pgs.length=n∧ke p w v pgs∧∀(a:Addr) m c,v=D (some a) m c→base≤a.block
theorem sJ.of_own{w11:World}{pgs:List Pg}(h:ay base 77 6 (j3 p w11) w v pgs)(hp:p<base)(hx:XT p w11 w):sJ p base w v pgs.length:=by
 refine⟨pgs,rfl,h.isS (by decide) hp fun cs x ⟨u,e,hi,hw⟩=>⟨u,e,hi.xt hx,hw⟩,fun a m c e=>?_⟩;obtain⟨css,a',b',c',d⟩:=h;rcases c'.2 with ⟨e0,_⟩|⟨g,cap,cur,e0,hg,_⟩
 ·rw[e0]at e;cases e
 ·rw[e0]at e;cases e;exact hg
theorem sJ.drop{p base n:Nat}{w:World}{A:Option Addr}{c k:Nat}(h:sJ p base w (D A n c) n)(hk:k≤n):sJ p base w (D (if c=k then A else A.map (·.add (k*6))) (n-k) (c-k)) (n-k):=by
 obtain⟨pgs,hl,hs,hb⟩:=h;refine⟨pgs.drop k,by rw[xS,hl],hs.drop hk,fun a m c' e=>?_⟩;injection e with e1 e2 e3;split at e1
 ·exact hb a n c (by rw[e1])
 ·cases A with
  |none=>cases e1
  |some a0 =>
   simp only[Option.map_some,Option.some.injEq]at e1;have h0:=hb a0 n c rfl;rw[←e1];unfold Addr.add;split<;>exact h0
theorem sJ.xt{p base n:Nat}{w w':World}{v:Value}(h:sJ p base w v n)(hx:XT p w w'):sJ p base w' v n:=by obtain⟨pgs,hl,hs,hb⟩:=h;exact⟨pgs,hl,hs.xt (j3.stab p) hx,hb⟩
theorem sJ.keep(h:sJ p base w v n)(hk:dd p w w')(hb:∀k,base≤k→k<w.heap.size→w'.heap[k]?=w.heap[k]?):sJ p base w' v n:=by
 obtain⟨pgs,hl,⟨A,c,hv,h1,h2,h4⟩,hbb⟩:=h;obtain⟨pgs',hl',hP⟩:=nO (P:=fun k (y:Pg)=>∃b off u,A=some ⟨b,off,none⟩∧b≠p∧(∀j z,(y.cells u)[j]?=some z→w'.cell? ⟨b,off+k*6+j,none⟩=some z)∧ao p w' u y.ch∧y.wf) pgs fun k x hx=>by obtain⟨b,off,cs,ha,hbp,hcl,hcell,u,rfl,hi,hw⟩:=h4 k x hx;obtain⟨l',hi',hll⟩:=hi.keepInt hk;refine⟨⟨x.cand,x.page,x.cont,l',x.scan⟩,b,off,u,ha,hbp,fun j z hz=>?_,hi',⟨hw.1,hw.2.1,hw.2.2.1,hw.2.2.2.1,by rw[hll];exact hw.2.2.2.2⟩⟩;have hc:=hcell j z hz;have hlt:=bZ hc;simp only at hlt;have hge:=hbb ⟨b,off,none⟩ pgs.length c (by rw[hv,ha]);unfold World.cell? at hc⊢;simp only at hc⊢;rw[hb b hge hlt];exact hc
 refine⟨pgs',by rw[hl',hl],⟨A,c,by rw[hl'];exact hv,by rw[hl'];exact h1,h2,fun k x hx=>?_⟩,hbb⟩;obtain⟨b,off,u,ha,hbp,hcell,hi,hw⟩:=hP k x hx;exact⟨b,off,x.cells u,ha,hbp,rfl,hcell,u,rfl,hi,hw⟩
def Br(p base:Nat)(w:World)(v:Value)(sts:List aY):Prop:=eF p w v sts∧∀(a:Addr) m c,v=D (some a) m c→base≤a.block
theorem Br.of_own{w11:World}{sts:List aY}(h:ay base 75 7 (cQ w11) w v sts)(hp:p<base):Br p base w v sts:=by
 refine⟨h.isS (by decide) hp fun cs x hr=>hr,fun a m c e=>?_⟩;obtain⟨css,a',b',c',d⟩:=h;rcases c'.2 with ⟨e0,_⟩|⟨g,cap,cur,e0,hg,_⟩
 ·rw[e0]at e;cases e
 ·rw[e0]at e;cases e;exact hg
theorem Br.keep{sts:List aY}(h:Br p base w v sts)(hb:∀k,base≤k→k<w.heap.size→w'.heap[k]?=w.heap[k]?):Br p base w' v sts:=by obtain⟨⟨A,c,hv,h1,h2,h4⟩,hbb⟩:=h;refine⟨⟨A,c,hv,h1,h2,fun k x hx=>?_⟩,hbb⟩;obtain⟨b,off,cs,ha,hbp,hcl,hcell,hr⟩:=h4 k x hx;refine⟨b,off,cs,ha,hbp,hcl,fun j z hz=>?_,hr⟩;have hc:=hcell j z hz;have hlt:=bZ hc;simp only at hlt;have hge:=hbb ⟨b,off,none⟩ sts.length c (by rw[hv,ha]);unfold World.cell? at hc⊢;simp only at hc hge⊢;rw[hb b hge hlt];exact hc
theorem dd.trans{w1 w2:World}(h:dd p w w1)(k:dd p w1 w2):dd p w w2:=fun a x ha hc=>by obtain⟨y,h1,hy⟩:=h a x ha hc;obtain⟨z,h2,hz⟩:=k a y ha hy;exact⟨z,fun h=>h2 (h1 h),hz⟩
theorem dd.blk{cs':Array Value}(hb:Bk w g cs t)(hb':Bk w' g cs' t)(hn:∀(i:Nat) (x:Int),cs[i]?=some (B C x)→∃y:Int,aC y∧cs'[i]?=some (B C y))(ho:∀k,k≠g→w'.heap[k]?=w.heap[k]?):dd p w w':=by
 intro a x ha hc;by_cases hg:a.block=g
 ·have h1:w.heap[a.block]?=some (.cells cs t (0,0)):=by rw[hg];exact hb
  have h2:w'.heap[a.block]?=some (.cells cs' t (0,0)):=by rw[hg];exact hb'
  unfold World.cell? at hc⊢;rw[h1]at hc;rw[h2];simp only at hc⊢;split at hc
  ·cases hc
  ·rename_i hs
   obtain⟨y,h64,hy⟩:=hn _ _ hc;exact⟨y,fun _=>h64,by rw[if_neg hs];exact hy⟩
 ·refine⟨x,fun h=>h,?_⟩;unfold World.cell? at hc⊢;rw[ho _ hg];exact hc
theorem XT.others(h:XT p w w'):∀k,k<w.heap.size→k≠p→w'.heap[k]?=w.heap[k]?:=fun k hk hne=>h.block k hk (fun e=>hne (by cases e;rfl))
theorem iZ(b:Nat):∀(vs:List Value) (w:World) (i:Nat),(cZ w b i vs).heap.size=w.heap.size
 |[],w,i=>rfl
 |u::vs,w,i=>by
  unfold cZ;rw[iZ b vs];simp
theorem kM(b:Nat):∀(vs:List Value) (w:World) (i:Nat),XT b w (cZ w b i vs)
 |[],w,i=>XT.refl _ _
 |u::vs,w,i=>by
  unfold cZ;exact (XT.setCell (XT.refl b w) (a:=⟨b,i,none⟩) rfl u).trans (kM b vs _ _)
theorem Gr{o:Nat}{k:IntKind}{x:Int}(hB:Bk w g #[D a1 n1 c1,D a2 n2 c2] t)(hc:w.cell? ⟨g,o,none⟩=some (.int k x)):False:=by
 have h1:w.heap[g]?=some (.cells #[D a1 n1 c1,D a2 n2 c2] t (0,0)):=hB;unfold World.cell? at hc;rw[h1]at hc;simp only at hc;split at hc
 ·cases hc
 ·rcases (show o=0∨o=1∨2≤o by omega) with rfl|rfl|h
  ·simp at hc
  ·simp at hc
  ·rw[yM (by simp;omega)]at hc;cases hc
theorem sJ.keepI(h:sJ p base w v n)(hB:Bk w g #[D a1 n1 c1,D a2 n2 c2] t)(hk:dd p w w')(hb:∀k,base≤k→k<w.heap.size→k≠g→w'.heap[k]?=w.heap[k]?):sJ p base w' v n:=by
 obtain⟨pgs,hl,⟨A,c,hv,h1,h2,h4⟩,hbb⟩:=h;obtain⟨pgs',hl',hP⟩:=nO (P:=fun k (y:Pg)=>∃b off u,A=some ⟨b,off,none⟩∧b≠p∧(∀j z,(y.cells u)[j]?=some z→w'.cell? ⟨b,off+k*6+j,none⟩=some z)∧ao p w' u y.ch∧y.wf) pgs fun k x hx=>by
  obtain⟨b,off,cs,ha,hbp,hcl,hcell,u,rfl,hi,hw⟩:=h4 k x hx;obtain⟨l',hi',hll⟩:=hi.keepInt hk;have hng:b≠g:=fun e=>by subst e;exact Gr hB (hcell 0 (B C x.cand) rfl)
  refine⟨⟨x.cand,x.page,x.cont,l',x.scan⟩,b,off,u,ha,hbp,fun j z hz=>?_,hi',⟨hw.1,hw.2.1,hw.2.2.1,hw.2.2.2.1,by rw[hll];exact hw.2.2.2.2⟩⟩;have hc:=hcell j z hz;have hlt:=bZ hc;simp only at hlt;have hge:=hbb ⟨b,off,none⟩ pgs.length c (by rw[hv,ha]);unfold World.cell? at hc⊢;simp only at hc⊢;rw[hb b hge hlt hng];exact hc
 refine⟨pgs',by rw[hl',hl],⟨A,c,by rw[hl'];exact hv,by rw[hl'];exact h1,h2,fun k x hx=>?_⟩,hbb⟩;obtain⟨b,off,u,ha,hbp,hcell,hi,hw⟩:=hP k x hx;exact⟨b,off,x.cells u,ha,hbp,rfl,hcell,u,rfl,hi,hw⟩
theorem Br.keepI{sts:List aY}(h:Br p base w v sts)(hB:Bk w g #[D a1 n1 c1,D a2 n2 c2] t)(hb:∀k,base≤k→k<w.heap.size→k≠g→w'.heap[k]?=w.heap[k]?):Br p base w' v sts:=by
 obtain⟨⟨A,c,hv,h1,h2,h4⟩,hbb⟩:=h;refine⟨⟨A,c,hv,h1,h2,fun k x hx=>?_⟩,hbb⟩;obtain⟨b,off,cs,ha,hbp,hcl,hcell,hr⟩:=h4 k x hx;have hng:b≠g:=fun e=>by subst e;obtain⟨rfl,-⟩:=hr;exact Gr hB (hcell 0 (B C x.scan.s) rfl)
 refine⟨b,off,cs,ha,hbp,hcl,fun j z hz=>?_,hr⟩;have hc:=hcell j z hz;have hlt:=bZ hc;simp only at hlt;have hge:=hbb ⟨b,off,none⟩ sts.length c (by rw[hv,ha]);unfold World.cell? at hc⊢;simp only at hc hge⊢;rw[hb b hge hlt hng];exact hc
theorem ef.farT{s:aZ}(h:ef w base v s)(hb:Bk w b cs t)(ht:t=31∨t=75∨t=77):ef (w.setCell ⟨b,i,none⟩ u) base v s:=by
 have e:∀{e' s':Nat} {u':Value} {n:Nat} {xs:List Value},e'≠31→e'≠75→e'≠77→w.ownsRow base e' s' u' n xs→(w.setCell ⟨b,i,none⟩ u).ownsRow base e' s' u' n xs:=fun he he2 he3 k=>bm (a:=⟨b,i,none⟩) k (ex (b:=b) (cs:=cs) k hb fun e=>by
  rcases ht with rfl|rfl|rfl
  ·exact he e.symm
  ·exact he2 e.symm
  ·exact he3 e.symm) u
 obtain⟨vP,vB,vX,ys,bs,rfl,h1,h2,h3,h4,h5,h6,h7⟩:=h;exact⟨vP,vB,vX,ys,bs,rfl,e (by decide) (by decide) (by decide) h1,h2,fun y hy=>e (by decide) (by decide) (by decide) (h3 y hy),e (by decide) (by decide) (by decide) h4,h5,fun y hy=>(h6 y hy).keep fun {e' u n xs} he k=>by
  rcases he with rfl|rfl
  ·exact e (by decide) (by decide) (by decide) k
  ·exact e (by decide) (by decide) (by decide) k,e (by decide) (by decide) (by decide) h7⟩
theorem ef.farI{s:aZ}(h:ef w base v s)(hb:Bk w b cs 31):ef (w.setCell ⟨b,i,none⟩ u) base v s:=h.farT hb (.inl rfl)
theorem ay.row{α:Type}{c:Nat}{A:Option Addr}{R:List Value→α→Prop}{xs:List α}(h:ay base e size R w (D A n c) xs)(hn:0<n):∃g cur,A=some ⟨g,0,none⟩∧base≤g∧Bk w g cur e:=by
 obtain⟨css,h1,h2,h3,h4⟩:=h;rcases h3.2 with ⟨e0,_⟩|⟨g,cap,cur,e0,hb,hh,_⟩
 ·injection e0 with _ e2 _;omega
 ·injection e0 with e1 e2 e3;exact⟨g,cur,e1,hb,hh⟩
theorem ay.farT{α:Type}{R:List Value→α→Prop}{xs:List α}(h:ay base e size R w v xs)(hb:Bk w b cs t)(ht:t≠e):ay base e size R (w.setCell ⟨b,i,none⟩ u) v xs:=by obtain⟨css,h1,h2,h3,h4⟩:=h;exact⟨css,h1,h2,bm (a:=⟨b,i,none⟩) h3 (ex (b:=b) (cs:=cs) h3 hb ht) u,h4⟩
theorem E7{a b c d e f g:Int}(h1:aC a)(h2:aC b)(h3:aC c)(h4:aC d)(h5:aC e)(h6:aC f)(h7:aC g):aY.wf ⟨⟨a,b⟩,c,⟨d,e,f,g⟩⟩:=⟨⟨h1,h2⟩,h3,h4,h5,h6,h7⟩
theorem CL(x:Int):aC (IntKind.i64.wrap x):=by rw[IntKind.wrap_i64];unfold aC;omega
theorem ku{P:Program}{α:Type}{ops:Array Oper}{o:Oper}{a:Act}{K:Act→World→Prop}{Q:Exit→Act→World→Prop}{E:Prop}(hgd:o.guard=none)(s x:Operand)(t:TypeId)(ho:o.op=.call { callee:=.builtin .append,args:=#[s,x],argTypes:=#[t,t] })(base:Nat)(e:TypeId)(i:TypeInfo)(z:Value)(size bytes:Nat)(ht:P.underlying t=some (.slice e))(hi:P.info? e=some i)(hz:i.zero=some z)(hsize:i.size=size)(hby:i.bytes=bytes)(hzs:z.cells.size=size)(hsz:0<size)(R:List Value→α→Prop)(A:Option Addr)(n c:Nat)(xs:List α)(hs:a.eval s=D A n c)(hn:xs.length=n)(hown:ay base e size R w (D A n c) xs)(g:Nat)(us:List Value)(y:α)(hx:a.eval x=D (some ⟨g,0,none⟩) 1 1)(hnews:∀j u,us[j]?=some u→w.cell? ((⟨g,0,none⟩:Addr).add j)=some u)(hul:us.length=size)(h1:∀u∈us,u.oneCell'=true)(hR:R us y)(hn1:n≤1000000)(hb:bytes≤1000)(hbase:base≤w.heap.size)(h:∀g' c' w',ay base e size R w' (D (some ⟨g',0,none⟩) (n+1) c') (xs++[y])→w.grownBy w' (Value.slice A n c).ownBlock→K (a.put o.dst (D (some ⟨g',0,none⟩) (n+1) c')) w') :
  if Region.wanted o (yielded ops a.tmps)=true then Oper.wp P o a w K Q else E:=by
 subst hn;obtain⟨css,h2,h3,h4,h5⟩:=hown;have hbb:(xs.length+1)*bytes≤(xs.length+1)*1000:=wP _ hb;refine step_append_lies w hgd s x t ho base e i z size bytes ht hi hz hsize hby hzs hsz (D A xs.length c) xs.length css.flatten hs h4 ⟨g,0,none⟩ 1 1 us hx (by omega) hnews h1 (by omega) (by unfold maxLen;omega) (by omega) hbase w.heap.size rfl fun g' c' w' ho hg _ _=>h g' c' w' (ay.app (css2:=[us]) h2 (by simp) h3 (fun cs hc=>?_) h5 (fun k cs x hc hx=>?_) (by simpa using ho)) hg
 ·obtain rfl:cs=us:=by simpa using hc
  exact hul
 ·obtain rfl:k=0:=by have:=(zY.1 hx).1;simp at this;exact this
  simp at hc hx;subst hc;subst hx;exact hR
structure ni (p gS gI:Nat) (w w11 wx:World) (cS:Array Value) (vS vG:Value) (s:aZ) (t:en):Prop where
 fr:Fr p w wx [(w.heap.size,#[B C 0,D none 0 0,D none 0 0,D none 0 0],27),(w.heap.size+1,#[D none 0 0,D none 0 0],31),(gS,cS,27),(gI,#[vS,vG],31)]
 x:XT p w11 wx
 hg:w.heap.size+1+1≤w11.heap.size
 st:ay w11.heap.size 75 7 (cQ w11) wx vS t.sts
 pg:ay w11.heap.size 77 6 (j3 p w11) wx vG t.pgs
 sit:ef wx (w.heap.size+1+1) (.agg cS) s
 wf:jE s
 len:t.sts.length≤300∧t.pgs.length≤300
structure lO (p gS gI b:Nat) (w wx:World) (cS:Array Value) (vS vG:Value) (s:aZ) (sts:List aY) (nG:Nat):Prop where
 fr:Fr p w wx [(w.heap.size,#[B C 0,D none 0 0,D none 0 0,D none 0 0],27),(w.heap.size+1,#[D none 0 0,D none 0 0],31),(gS,cS,27),(gI,#[vS,vG],31)]
 hg:w.heap.size+1+1≤b
 ss:Br p b wx vS sts
 gs:sJ p b wx vG nG
 sit:∃bs,w.heap.size+1+1≤bs∧ef wx bs (.agg cS) s
 wf:jE s
 len:sts.length≤1000∧nG≤1000
section
variable {p gS gI:Nat} {w w11 wx w':World} {cS:Array Value} {vS vG:Value} {s:aZ} {t:en}
theorem ni.lt(h:ni p gS gI w w11 wx cS vS vG s t):p<w11.heap.size:=by have:=h.fr.hp;have:=h.hg;omega
theorem ni.step(h:ni p gS gI w w11 wx cS vS vG s t)(hx:XT p wx w')(ht:bt w' p):ni p gS gI w w11 w' cS vS vG s t :=
 ⟨h.fr.step hx ht,h.x.trans hx,h.hg,h.st.xt hx h.lt,h.pg.xt hx h.lt,h.sit.xt hx (by have:=h.fr.hp;omega),h.wf,h.len⟩
theorem ni.ext(h:ni p gS gI w w11 wx cS vS vG s t)(hx:ab wx w'):ni p gS gI w w11 w' cS vS vG s t:=h.step hx.xt (h.fr.tp.ext hx)
theorem ni.fin(h:ni p gS gI w w11 wx cS vS vG s t):lO p gS gI w11.heap.size w wx cS vS vG s t.sts t.pgs.length :=
 ⟨h.fr,h.hg,Br.of_own h.st h.lt,sJ.of_own h.pg h.lt h.x,⟨_,zX _,h.sit⟩,h.wf,by have:=h.len;omega⟩
theorem lO.ext{b nG:Nat}{sts:List aY}(h:lO p gS gI b w wx cS vS vG s sts nG)(hx:ab wx w'):lO p gS gI b w w' cS vS vG s sts nG:=by refine⟨h.fr.ext hx,h.hg,⟨?_,h.ss.2⟩,h.gs.xt hx.xt,(by obtain⟨bs,h1,h2⟩:=h.sit;exact⟨bs,h1,h2.xt (q:=p) hx.xt (by have:=h.fr.hp;omega)⟩),h.wf,h.len⟩;obtain⟨A,c,hv,h1,h2,h4⟩:=h.ss.1;refine⟨A,c,hv,h1,h2,fun k x hk=>?_⟩;obtain⟨b',off,cs,ha,hbp,hcl,hcell,hr⟩:=h4 k x hk;exact⟨b',off,cs,ha,hbp,hcl,fun j z hz=>hx.cell (hcell j z hz),hr⟩
theorem Gv{cs':Array Value}{tyA tyB:TypeId}(h:Bk w b cs tyA)(h':Bk w b cs' tyB):tyA=tyB:=by
 have e:(some (Obj.cells cs tyA (0,0)))=some (.cells cs' tyB (0,0)):=by rw[←(show w.heap[b]?=_ from h),←(show w.heap[b]?=_ from h')]
 injection e with e;injection e
theorem ni.frFar{ty:TypeId}(h:ni p gS gI w w11 wx cS vS vG s t)(hb:Bk wx g cur ty)(hge:w11.heap.size≤g)(ht:ty≠27∧ty≠31):Fr p w (wx.setCell ⟨g,i,none⟩ u) [(w.heap.size,#[B C 0,D none 0 0,D none 0 0,D none 0 0],27),(w.heap.size+1,#[D none 0 0,D none 0 0],31),(gS,cS,27),(gI,#[vS,vG],31)]:=by
 have hhg:=h.hg;have hhp:=h.fr.hp;refine⟨h.fr.tp.setNew (by simp only;omega) u,h.fr.xt.setNew (by simp only;omega) u,h.fr.hp,h.fr.bl.far (fun k x hk e=>?_) u⟩;have hbx:=h.fr.bl.at_ k hk;simp only at e;rw[e]at hbx;have hty:=Gv hb hbx;match k,hk with
 |0,hk=>(simp at hk;subst hk;exact ht.1 hty)
 |1,hk=>(simp at hk;subst hk;exact ht.2 hty)
 |2,hk=>(simp at hk;subst hk;exact ht.1 hty)
 |3,hk=>(simp at hk;subst hk;exact ht.2 hty)
theorem ni.setSt{nS cs:Nat}{x':aY}(h:ni p gS gI w w11 wx cS (D (some ⟨g,0,none⟩) nS cs) vG s t)(hb:Bk wx g cur 75)(hge:w11.heap.size≤g)(hk:k<nS)(hj:j<7)(hR:∀csx x,t.sts[k]?=some x→cQ w11 csx x→cQ w11 (csx.set j u) x'):ni p gS gI w w11 (wx.setCell ⟨g,k*7+j,none⟩ u) cS (D (some ⟨g,0,none⟩) nS cs) vG s ⟨t.sts.set k x',t.pgs⟩ :=
 ⟨h.frFar hb hge (by decide),h.x.setNew (by simp only;omega) u,h.hg,h.st.setElem hk hj hR,h.pg.farT hb (by decide),h.sit.farT hb (.inr (.inl rfl)),h.wf,by have:=h.len;simpa using this⟩
theorem ni.setPg{cs:Nat}{x':Pg}(h:ni p gS gI w w11 wx cS vS (D (some ⟨g,0,none⟩) nG cs) s t)(hb:Bk wx g cur 77)(hge:w11.heap.size≤g)(hk:k<nG)(hj:j<6)(hR:∀csx x,t.pgs[k]?=some x→j3 p w11 csx x→j3 p w11 (csx.set j u) x'):ni p gS gI w w11 (wx.setCell ⟨g,k*6+j,none⟩ u) cS vS (D (some ⟨g,0,none⟩) nG cs) s ⟨t.sts,t.pgs.set k x'⟩ :=
 ⟨h.frFar hb hge (by decide),h.x.setNew (by simp only;omega) u,h.hg,h.st.farT hb (by decide),h.pg.setElem hk hj hR,h.sit.farT hb (.inr (.inr rfl)),h.wf,by have:=h.len;simpa using this⟩
theorem vh{tyA:TypeId}(hB:Bk w g #[D a1 n1 c1,D a2 n2 c2] tyA):dd p w (w.setCell ⟨g,i,none⟩ (D a3 n3 c3)):=by
 refine dd.blk hB (hB.set i _) (fun j x hx=>?_) fun k hk=>?_
 ·exfalso;rcases (show j=0∨j=1∨2≤j by omega) with rfl|rfl|h
  ·simp at hx
  ·simp at hx
  ·rw[yM (by simp;omega)]at hx;cases hx
 ·by_cases hl:k<w.heap.size
  ·exact (XT.setCell (XT.refl g w) (a:=⟨g,i,none⟩) rfl _).others k hl hk
  ·rw[yM (by simp;omega),yM (by omega)]
theorem lO.setG{nG2:Nat}{sts:List aY}(h:lO p gS gI b w wx cS (D a1 n1 c1) (D a2 n2 c2) s sts nG)(hg:sJ p b wx (D a3 n3 c3) nG2)(hn:nG2≤1000) :
  lO p gS gI b w (wx.setCell ⟨gI,1,none⟩ (D a3 n3 c3)) cS (D a1 n1 c1) (D a3 n3 c3) s sts nG2:=by
 have hB:=h.fr.at_ 3 rfl;have hx:∀k,b≤k→k<wx.heap.size→k≠gI→(wx.setCell ⟨gI,1,none⟩ (D a3 n3 c3)).heap[k]?=wx.heap[k]?:=fun k _ hl hk=>(XT.setCell (XT.refl gI wx) (a:=⟨gI,1,none⟩) rfl _).others k hl hk;exact⟨h.fr.set 3 rfl 1 _,h.hg,h.ss.keepI hB hx,hg.keepI hB (vh hB) hx,(by obtain⟨bs,h1,h2⟩:=h.sit;exact⟨bs,h1,h2.farI hB⟩),h.wf,by have:=h.len;omega⟩
theorem ef.grownS{z:Value}{xs:List Value}{s:aZ}(h:ef w base v s)(ho:w.ownsRow b 75 size z n xs)(hg:w.grownBy w' z.ownBlock):ef w' base v s:=by
 have e:∀{e' s':Nat} {u':Value} {n:Nat} {xs:List Value},e'≠75→w.ownsRow base e' s' u' n xs→w'.ownsRow base e' s' u' n xs:=fun he k=>aE k hg (bE k ho he);obtain⟨vP,vB,vX,ys,bs,rfl,h1,h2,h3,h4,h5,h6,h7⟩:=h;exact⟨vP,vB,vX,ys,bs,rfl,e (by decide) h1,h2,fun y hy=>e (by decide) (h3 y hy),e (by decide) h4,h5,fun y hy=>(h6 y hy).keep fun {e' u n xs} he k=>by
  rcases he with rfl|rfl
  ·exact e (by decide) k
  ·exact e (by decide) k,e (by decide) h7⟩
theorem ay.grownQ{α:Type}{e2 s2:Nat}{R:List Value→α→Prop}{z:Value}{xs:List α}{ys:List Value}(h:ay base e size R w v xs)(ho:w.ownsRow b e2 s2 z n2 ys)(hg:w.grownBy w' z.ownBlock)(ht:e≠e2):ay base e size R w' v xs:=by obtain⟨css,h1,h2,h3,h4⟩:=h;exact⟨css,h1,h2,aE h3 hg (bE h3 ho ht),h4⟩
theorem ni.frPush(h:ni p gS gI w w11 wx cS (D a1 n1 c1) (D a2 n2 c2) s t)(hg:wx.grownBy w' (Value.slice a1 n1 c1).ownBlock):Fr p w w' [(w.heap.size,#[B C 0,D none 0 0,D none 0 0,D none 0 0],27),(w.heap.size+1,#[D none 0 0,D none 0 0],31),(gS,cS,27),(gI,#[(D a1 n1 c1),(D a2 n2 c2)],31)]:=by
 obtain⟨css,g1,g2,g3,g4⟩:=h.st;have hge:=ar g3;have hhg:=h.hg;exact h.fr.grown hg (fun k x hk e=>by
  rcases g3.2 with ⟨e0,_⟩|⟨g,cap,cur,e0,_,hh,_⟩
  ·rw[e0]at e;cases e
  ·rw[e0]at e;simp only[Value.ownBlock]at e;injection e with e;have hbx:=h.fr.bl.at_ (b:=x.1) (cs:=x.2.1) (t:=x.2.2) k hk;rw[←e]at hbx;have hty:=Gv hh hbx;match k,hk with
   |0,hk=>(simp at hk;subst hk;revert hty;simp only;decide)
   |1,hk=>(simp at hk;subst hk;revert hty;simp only;decide)
   |2,hk=>(simp at hk;subst hk;revert hty;simp only;decide)
   |3,hk=>(simp at hk;subst hk;revert hty;simp only;decide)) (fun k hk=>by have:=hge k hk;omega)
theorem ni.pushSt{y:aY}(h:ni p gS gI w w11 wx cS (D a1 n1 c1) (D a2 n2 c2) s t)(ho:ay w11.heap.size 75 7 (cQ w11) w' (D a3 n3 c3) (t.sts++[y]))(hg:wx.grownBy w' (Value.slice a1 n1 c1).ownBlock) :
  lO p gS gI w11.heap.size w (w'.setCell ⟨gI,0,none⟩ (D a3 n3 c3)) cS (D a3 n3 c3) (D a2 n2 c2) s (t.sts++[y]) t.pgs.length:=by
 obtain⟨css,g1,g2,g3,g4⟩:=h.st;have hge:=ar g3;have hf:=h.frPush hg;have hB:=hf.at_ 3 rfl;have hx:∀k,w11.heap.size≤k→k<w'.heap.size→k≠gI→(w'.setCell ⟨gI,0,none⟩ (D a3 n3 c3)).heap[k]?=w'.heap[k]?:=fun k _ hl hk=>(XT.setCell (XT.refl gI w') (a:=⟨gI,0,none⟩) rfl _).others k hl hk;have hx1:XT p w11 w':=h.x.grown hg hge;exact⟨hf.set 3 rfl 0 _,h.hg,(Br.of_own ho h.lt).keepI hB hx,(sJ.of_own (h.pg.grownQ g3 hg (by decide)) h.lt hx1).keepI hB (vh hB) hx,⟨_,zX _,(h.sit.grownS g3 hg).farI hB⟩,h.wf,by have:=h.len;simp;omega⟩
theorem lO.putS{b2:Nat}{AP AB AX BP BB BX:Option Addr}{cP cB cX dP dB dX:Nat}{s2:aZ}{sts:List aY}(h:lO p gS gI b w wx #[B C s.num,D AP s.pap.length cP,D AB s.bk.length cB,D AX s.xp.length cX] vS vG s sts nG)(hg:gS<b)(hg2:gS<b2)(hb2:w.heap.size+1+1≤b2)(hv:ef wx b2 (.agg #[B C s2.num,D BP s2.pap.length dP,D BB s2.bk.length dB,D BX s2.xp.length dX]) s2)(hw:jE s2) :
  lO p gS gI b w (cZ wx gS 0 [B C s2.num,D BP s2.pap.length dP,D BB s2.bk.length dB,D BX s2.xp.length dX]) #[B C s2.num,D BP s2.pap.length dP,D BB s2.bk.length dB,D BX s2.xp.length dX] vS vG s2 sts nG:=by
 have hB:=h.fr.at_ 2 rfl;have hf:=h.fr.setAll 2 rfl [B C s2.num,D BP s2.pap.length dP,D BB s2.bk.length dB,D BX s2.xp.length dX] rfl;have x1:=kM gS [B C s2.num,D BP s2.pap.length dP,D BB s2.bk.length dB,D BX s2.xp.length dX] wx 0;obtain⟨w1,hw1⟩:=nm (cZ wx gS 0 [B C s2.num,D BP s2.pap.length dP,D BB s2.bk.length dB,D BX s2.xp.length dX]);rw[←hw1]at hf x1⊢;have hz1:w1.heap.size=wx.heap.size:=by rw[hw1,iZ]
 have k1:∀k,b≤k→k<wx.heap.size→w1.heap[k]?=wx.heap[k]?:=fun k hk hl=>x1.others k hl (by omega);have hnum:aC s2.num:=by have:=hw.num;exact⟨by omega,by omega⟩
 have i1:dd p wx w1:=dd.blk hB (hf.at_ 2 rfl) (fun i x hx=>by
  rcases xW i with h0|h0
  ·subst h0;exact⟨s2.num,hnum,rfl⟩
  ·exfalso;rcases (show i=1∨i=2∨i=3∨4≤i by omega) with rfl|rfl|rfl|h4
   ·simp at hx
   ·simp at hx
   ·simp at hx
   ·rw[yM (by simp;omega)]at hx;cases hx) (fun k hk=>by
  by_cases hl:k<wx.heap.size
  ·exact x1.others k hl hk
  ·rw[yM (by omega),yM (by omega)])
 exact⟨hf,h.hg,h.ss.keep k1,h.gs.keep i1 k1,⟨b2,hb2,hv.xt x1 hg2⟩,hw,h.len⟩
theorem lO.done{sts:List aY}{AP AB AX AS AG:Option Addr}{cP cB cX nS cs nG' cg:Nat}{n:Int}(h:lO p gS gI b w wx #[B C s.num,D AP s.pap.length cP,D AB s.bk.length cB,D AX s.xp.length cX] (D AS nS cs) (D AG nG' cg) s sts nG)(ha:n=0→(∀x∈sts,1≤x.state∧x.state≤6)∧fJ sts=nG) :
  fX p w (fun v w'=>Hm p n v w') (.returned (.tuple #[.agg #[B C s.num,D AP s.pap.length cP,D AB s.bk.length cB,D AX s.xp.length cX],.agg #[D AS nS cs,D AG nG' cg]])) (cZ (cZ wx w.heap.size 0 [B C s.num,D AP s.pap.length cP,D AB s.bk.length cB,D AX s.xp.length cX]) (w.heap.size+1) 0 [D AS nS cs,D AG nG' cg]):=by
 have hf1:=h.fr.setAll 0 rfl [B C s.num,D AP s.pap.length cP,D AB s.bk.length cB,D AX s.xp.length cX] rfl;have hf2:=hf1.setAll 1 rfl [D AS nS cs,D AG nG' cg] rfl;have x1:=kM w.heap.size [B C s.num,D AP s.pap.length cP,D AB s.bk.length cB,D AX s.xp.length cX] wx 0;obtain⟨w1,hw1⟩:=nm (cZ wx w.heap.size 0 [B C s.num,D AP s.pap.length cP,D AB s.bk.length cB,D AX s.xp.length cX]);rw[←hw1]at hf1 hf2 x1⊢;have x2:=kM (w.heap.size+1) [D AS nS cs,D AG nG' cg] w1 0;obtain⟨w2,hw2⟩:=nm (cZ w1 (w.heap.size+1) 0 [D AS nS cs,D AG nG' cg]);rw[←hw2]at hf2 x2⊢;have hhg:=h.hg;have hhp:=h.fr.hp;have hs1:=x1.size;have hz1:w1.heap.size=wx.heap.size:=by rw[hw1,iZ]
 have hz2:w2.heap.size=w1.heap.size:=by rw[hw2,iZ]
 have k1:∀k,b≤k→k<wx.heap.size→w2.heap[k]?=wx.heap[k]?:=fun k hk hl=>by rw[x2.others k (by omega) (by omega),x1.others k hl (by omega)]
 have hnum:aC s.num:=by have:=h.wf.num;exact⟨by omega,by omega⟩
 have i1:dd p wx w1:=dd.blk (h.fr.at_ 0 rfl) (hf1.at_ 0 rfl) (fun i x hx=>by
  rcases xW i with h0|h0
  ·subst h0;exact⟨s.num,hnum,rfl⟩
  ·exfalso;rcases (show i=1∨i=2∨i=3∨4≤i by omega) with rfl|rfl|rfl|h4
   ·simp at hx
   ·simp at hx
   ·simp at hx
   ·rw[yM (by simp;omega)]at hx;cases hx) (fun k hk=>by
  by_cases hl:k<wx.heap.size
  ·exact x1.others k hl hk
  ·rw[yM (by omega),yM (by omega)])
 have i2:dd p w1 w2:=dd.blk (hf1.at_ 1 rfl) (hf2.at_ 1 rfl) (fun i x hx=>by
  exfalso;rcases (show i=0∨i=1∨2≤i by omega) with rfl|rfl|h4
  ·simp at hx
  ·simp at hx
  ·rw[yM (by simp;omega)]at hx;cases hx) (fun k hk=>by
  by_cases hl:k<w1.heap.size
  ·exact x2.others k hl hk
  ·rw[yM (by omega),yM (by omega)])
 obtain⟨bs,hbs,hsv⟩:=h.sit;have hsit:=(((hsv.xt x1 (by omega)).xt x2 (by omega)).isSit h.wf (p:=p) (by omega))
 obtain⟨pgs,hl,hpg,-⟩:=h.gs.keep (i1.trans i2) k1;have hst:=(h.ss.keep k1).1;refine⟨_,rfl,⟨_,_,s,⟨sts,pgs⟩,rfl,hsit,⟨_,_,rfl,hst,hpg⟩,by have:=h.len;simp only;omega,by have:=h.len;simp only;omega,fun e=>?_⟩,hf2.tp,hf2.xt⟩;obtain⟨a1,a2⟩:=ha e;exact⟨a1,by rw[a2];exact hl.symm⟩
end
end Go.Proofs.YtjgfgdcaocbfhaaGreat

