import Derived.Test.YtjgfgdcaocbfhaaGreatCapS
set_option linter.all false
set_option maxRecDepth 100000
set_option maxHeartbeats 0
namespace Go.Proofs.YtjgfgdcaocbfhaaGreat
open Go.RowKit _root_.Go.Proofs.Tryz
variable {g k n:Nat} {w:World}
def ba(l:List UInt8):ByteArray:=⟨l.toArray⟩
theorem Ij(l:List UInt8):bl (ba l)=l:=by simp[bl,ba]
theorem DY(b:ByteArray):ba (bl b)=b:=by cases b;simp[bl,ba]
theorem Tryz.infoCap:(prog.info? 111).map (fun i=>(i.zero,i.size,i.bytes))=some (some (.agg #[.int .i64 0,.int .i64 0,.int .i64 0,.int .i64 0,.string ⟨#[]⟩,.int .i64 0,.slice none 0 0,.int .i64 0,.int .i64 0,.int .i64 0,.int .i64 0,.int .i64 0,.int .i64 0]),13,128):=by kernel_rfl
def eM(y:aF×Value):List Value:=y.1.cells y.2
structure fK (c:aF):Prop where
 st:Ga c.st
 kind:aC c.kind
 str:c.str.length≤1000
 cont:aC c.cont
 tgt:c.tgt.wf
 lab:c.lab.wf
theorem fK.wf{c:aF}(h:fK c)(hc:c.ch.length≤200):c.wf:=⟨h.st.1,h.kind,h.str,h.cont,h.tgt,h.lab,by omega⟩
structure aq (base:Nat) (w:World) (v:Value) (ys:List (aF×Value)):Prop where
 own:aL base 111 13 eM w v ys
 el:∀y∈ys,eY w base y.2 y.1.ch∧fK y.1
section
variable {p base:Nat} {w w':World} {v v':Value} {ys:List (aF×Value)}
theorem aq.nil(base:Nat)(w:World):aq base w (.slice none 0 0) []:=⟨aL.nil,fun y h=>by simp at h⟩
theorem aq.xt(h:aq base w v ys)(hx:XT p w w')(hp:p<base):aq base w' v ys:=⟨h.own.xt hx hp,fun y hy=>⟨(h.el y hy).1.xt hx hp,(h.el y hy).2⟩⟩
theorem aq.ext(h:aq base w v ys)(hx:ab w w'):aq base w' v ys:=⟨h.own.ext hx,fun y hy=>⟨(h.el y hy).1.ext hx,(h.el y hy).2⟩⟩
theorem aq.far{g:Nat}{cs:Array Value}{t:TypeId}(h:aq base w v ys)(hb:Bk w g cs t)(ht:t≠3)(hv:v.ownBlock≠some g)(i:Nat)(u:Value):aq base (w.setCell ⟨g,i,none⟩ u) v ys :=
 ⟨bm (a:=⟨g,i,none⟩) h.own hv u,fun y hy=>⟨(h.el y hy).1.far hb ht i u,(h.el y hy).2⟩⟩
theorem aq.sets{cs:Array Value}{t:TypeId}(h:aq base w v ys)(hb:Bk w g cs t)(ht:t≠3)(hv:v.ownBlock≠some g)(i:Nat)(vs:List Value):aq base (cZ w g i vs) v ys:=by
 induction vs generalizing w cs i with
 |nil=>exact h
 |cons u vs ih=>exact ih (h.far hb ht hv i u) (hb.set i u) (i+1)
theorem aq.push{y:aF×Value}(h:aq base w v ys)(hg:w.grownBy w' v.ownBlock)(ho:w'.ownsRow base 111 13 v' (ys.length+1) ((ys.map eM).flatten++eM y))(hc:eY w base y.2 y.1.ch)(hk:fK y.1):aq base w' v' (ys++[y]):=by
 refine⟨aL.push ho,fun z hz=>?_⟩;rcases zC.1 hz with hz|hz
 ·exact⟨(h.el z hz).1.apart h.own (by decide) hg,(h.el z hz).2⟩
 ·obtain rfl:z=y:=by simpa using hz
  exact⟨hc.apart h.own (by decide) hg,hk⟩
theorem aq.grownI{b:Nat}{z:Value}{xs:List Value}(h:aq base w v ys)(ho:w.ownsRow b 3 1 z n xs)(hg:w.grownBy w' z.ownBlock)(hne:∀y∈ys,∀k,y.2.ownBlock=some k→z.ownBlock≠some k):aq base w' v ys :=
 ⟨a8 h.own ho (by decide) hg,fun y hy=>⟨⟨aE (h.el y hy).1.1 hg (hne y hy),(h.el y hy).1.2⟩,(h.el y hy).2⟩⟩
theorem aq.form(h:aq base w v ys):∃A c,v=.slice A ys.length c:=h.own.form
theorem aq.base_{b:Nat}(h:aq base w v ys)(hb:b≤base):aq b w v ys:=⟨bo h.own hb,fun y hy=>⟨(h.el y hy).1.base_ hb,(h.el y hy).2⟩⟩
theorem aq.isCs(h:aq base w v ys)(hp:p<base):fE p w v (ys.map Prod.fst):=by
 refine bg.of_own (e:=111) (ys.map eM) (fun cs hcs=>by obtain⟨y,_,rfl⟩:=zJ.1 hcs;rfl) (by decide) (by simp) (by rw[zM];exact h.own) hp ?_;intro k cs x hcs hx;simp only[zL,yI]at hcs hx;obtain⟨y,hy,rfl⟩:=hcs;obtain⟨z,hz,rfl⟩:=hx;rw[hy]at hz;injection hz with hz;subst hz
 have hm:=h.el y (zU hy);exact⟨y.2,rfl,hm.1.isI hp,hm.2.wf hm.1.2.2⟩
end
theorem sq{α:Type}{f:α→List Value}{size:Nat}{ys:List α}(hf:∀y∈ys,(f y).length=size){j:Nat}{y:α}(hk:ys[k]?=some y)(hj:j<size):(ys.map f).flatten[k*size+j]?=(f y)[j]?:=by
 induction ys generalizing k with
 |nil=>cases hk
 |cons a l ih =>
  have ha:(f a).length=size:=hf a (by simp);rw[xI,wO];cases k with
  |zero=>simp at hk;subst hk;rw[Nat.zero_mul,yV,zH (by omega)]
  |succ k =>
   rw[yT (by rw[ha,xQ];omega)];have:(k+1)*size+j-(f a).length=k*size+j:=by rw[ha,xQ];omega
   rw[this];exact ih (fun y hy=>hf y (by simp[hy])) (by simpa using hk)
theorem aL.cell{α:Type}{base e size:Nat}{f:α→List Value}{cap:Nat}{ys:List α}(h:aL base e size f w (.slice (some ⟨g,0,none⟩) n cap) ys)(hf:∀y∈ys,(f y).length=size){j:Nat}{y:α}(hk:ys[k]?=some y)(hj:j<size){u:Value}(hu:(f y)[j]?=some u) :
  w.cell? ⟨g,k*size+j,none⟩=some u:=by
 have hlt:k*size+j<ys.length*size:=by have h1:=(zY.1 hk).1;have:(k+1)*size≤ys.length*size:=Nat.mul_le_mul_right _ h1;rw[xQ]at this;omega
 have hn:n=ys.length:=by obtain⟨A,c,e⟩:=h.form;injection e
 subst hn;rw[World.ownsRow.cellAt h _ hlt,sq hf hk hj,hu]
theorem aq.cells{base:Nat}{cap:Nat}{ys:List (aF×Value)}(h:aq base w (.slice (some ⟨g,0,none⟩) n cap) ys)(hk:k<ys.length) :
  ∃(c:aF) (A:Option Addr) (cc:Nat),ys[k]?=some (c,.slice A c.ch.length cc)∧eY w base (.slice A c.ch.length cc) c.ch∧fK c∧w.cell? ⟨g,k*13,none⟩=some (.int .i64 c.st.t)∧w.cell? ⟨g,k*13+1,none⟩=some (.int .i64 c.st.s)∧w.cell? ⟨g,k*13+2,none⟩=some (.int .i64 c.st.q)∧w.cell? ⟨g,k*13+3,none⟩=some (.int .i64 c.kind)∧w.cell? ⟨g,k*13+4,none⟩=some (.string (ba c.str))∧w.cell? ⟨g,k*13+5,none⟩=some (.int .i64 c.cont)∧w.cell? ⟨g,k*13+6,none⟩=some (.slice A c.ch.length cc)∧w.cell? ⟨g,k*13+7,none⟩=some (.int .i64 c.tgt.s)∧w.cell? ⟨g,k*13+8,none⟩=some (.int .i64 c.tgt.q)∧w.cell? ⟨g,k*13+9,none⟩=some (.int .i64 c.lab.p)∧w.cell? ⟨g,k*13+10,none⟩=some (.int .i64 c.lab.c)∧w.cell? ⟨g,k*13+11,none⟩=some (.int .i64 c.lab.g)∧w.cell? ⟨g,k*13+12,none⟩=some (.int .i64 c.lab.v):=by
 obtain⟨y,hy⟩:∃y,ys[k]?=some y:=⟨_,zW hk⟩
 obtain⟨c,u⟩:=y;have hm:=h.el _ (zU hy);obtain⟨A,cc,hu⟩:=hm.1.form;simp only at hu;subst hu;have key:=fun (j:Nat) (hj:j<13) (u:Value) (hu:(eM (c,.slice A c.ch.length cc))[j]?=some u)=>h.own.cell (fun y _=>rfl) hy hj hu;exact⟨c,A,cc,hy,hm.1,hm.2,key 0 (by omega) _ rfl,key 1 (by omega) _ rfl,key 2 (by omega) _ rfl,key 3 (by omega) _ rfl,key 4 (by omega) _ rfl,key 5 (by omega) _ rfl,key 6 (by omega) _ rfl,key 7 (by omega) _ rfl,key 8 (by omega) _ rfl,key 9 (by omega) _ rfl,key 10 (by omega) _ rfl,key 11 (by omega) _ rfl,key 12 (by omega) _ rfl⟩
structure fc (p:Nat) (w wx:World) (sb:Nat×Array Value×TypeId) (g:Nat) (v:Value) (ys:List (aF×Value)) (c:aF) (A:Option Addr) (cc:Nat):Prop where
 fr:Fr p w wx [sb,(g,#[.int .i64 c.st.t,.int .i64 c.st.s,.int .i64 c.st.q,.int .i64 c.kind,.string (ba c.str),.int .i64 c.cont,.slice A c.ch.length cc,.int .i64 c.tgt.s,.int .i64 c.tgt.q,.int .i64 c.lab.p,.int .i64 c.lab.c,.int .i64 c.lab.g,.int .i64 c.lab.v],111)]
 row:aq w.heap.size wx v ys
 ch:eY wx w.heap.size (.slice A c.ch.length cc) c.ch
 ok:fK c
 ap:v.ownBlock≠some g
section
variable {p:Nat} {w wx w':World} {sb:Nat×Array Value×TypeId} {g:Nat} {v:Value} {ys:List (aF×Value)} {c c':aF} {A A':Option Addr} {cc cc':Nat}
theorem fc.step(h:fc p w wx sb g v ys c A cc)(hx:XT p wx w')(ht:bt w' p):fc p w w' sb g v ys c A cc :=
 ⟨h.fr.step hx ht,h.row.xt hx h.fr.hp,h.ch.xt hx h.fr.hp,h.ok,h.ap⟩
theorem fc.ext(h:fc p w wx sb g v ys c A cc)(hx:ab wx w'):fc p w w' sb g v ys c A cc:=h.step hx.xt (h.fr.tp.ext hx)
theorem fc.upd(h:fc p w wx sb g v ys c A cc)(i:Nat)(vs:List Value)(hf:Fr p w (cZ wx g i vs) [sb,(g,#[.int .i64 c'.st.t,.int .i64 c'.st.s,.int .i64 c'.st.q,.int .i64 c'.kind,.string (ba c'.str),.int .i64 c'.cont,.slice A' c'.ch.length cc',.int .i64 c'.tgt.s,.int .i64 c'.tgt.q,.int .i64 c'.lab.p,.int .i64 c'.lab.c,.int .i64 c'.lab.g,.int .i64 c'.lab.v],111)])(hc:eY wx w.heap.size (.slice A' c'.ch.length cc') c'.ch)(hk:fK c') :
  fc p w (cZ wx g i vs) sb g v ys c' A' cc' :=
 ⟨hf,h.row.sets (h.fr.at_ 1 rfl) (by decide) h.ap i vs,eo hc (h.fr.at_ 1 rfl) (by decide) i vs,hk,h.ap⟩
theorem fc.cells(h:fc p w wx sb g v ys c A cc):wx.cell? ⟨g,0,none⟩=some (.int .i64 c.st.t)∧wx.cell? ⟨g,1,none⟩=some (.int .i64 c.st.s)∧wx.cell? ⟨g,2,none⟩=some (.int .i64 c.st.q)∧wx.cell? ⟨g,3,none⟩=some (.int .i64 c.kind)∧wx.cell? ⟨g,4,none⟩=some (.string (ba c.str))∧wx.cell? ⟨g,5,none⟩=some (.int .i64 c.cont)∧wx.cell? ⟨g,6,none⟩=some (.slice A c.ch.length cc)∧wx.cell? ⟨g,7,none⟩=some (.int .i64 c.tgt.s)∧wx.cell? ⟨g,8,none⟩=some (.int .i64 c.tgt.q)∧wx.cell? ⟨g,9,none⟩=some (.int .i64 c.lab.p)∧wx.cell? ⟨g,10,none⟩=some (.int .i64 c.lab.c)∧wx.cell? ⟨g,11,none⟩=some (.int .i64 c.lab.g)∧wx.cell? ⟨g,12,none⟩=some (.int .i64 c.lab.v) :=
 have b:=h.fr.at_ 1 rfl;⟨b.c 0 rfl,b.c 1 rfl,b.c 2 rfl,b.c 3 rfl,b.c 4 rfl,b.c 5 rfl,b.c 6 rfl,b.c 7 rfl,b.c 8 rfl,b.c 9 rfl,b.c 10 rfl,b.c 11 rfl,b.c 12 rfl⟩
end
theorem sZ{p:Nat}{wx w':World}{sb:Nat×Array Value×TypeId}{v v':Value}{ys:List (aF×Value)}{y:aF×Value}(hr:aq w.heap.size wx v ys)(hf:Fr p w wx [sb])(hsb:sb.2.2≠111)(hg:wx.grownBy w' v.ownBlock)(ho:w'.ownsRow w.heap.size 111 13 v' (ys.length+1) ((ys.map eM).flatten++eM y))(hc:eY wx w.heap.size y.2 y.1.ch)(hk:fK y.1):aq w.heap.size w' v' (ys++[y])∧Fr p w w' [sb]:=by
 refine⟨hr.push hg ho hc hk,hf.grown hg (fun k x hx=>?_) (ar hr.own)⟩;obtain rfl:x=sb:=by
  cases k with
  |zero=>simpa using hx.symm
  |succ k=>simp at hx
 exact ex hr.own (hf.at_ 0 (b:=x.1) (cs:=x.2.1) (t:=x.2.2) rfl) hsb
end Go.Proofs.YtjgfgdcaocbfhaaGreat

