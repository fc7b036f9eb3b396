import Derived.Deep.AppendLies
import Derived.Test.YtkaajgoeahahpaaGreatDoorK0
set_option linter.all false
set_option maxRecDepth 100000
set_option maxHeartbeats 0
namespace Go.Proofs.YtkaajgoeahahpaaGreatDoor
open Go.Value renaming int→B,slice→D
open Go.IntKind renaming i64→C
open Go.RowKit
variable {b base c e k n off p size:Nat} {w w1:World} {v:Value} {us xs:List Value} {code var:Int}
def lV{α:Type}(p:Nat)(R:World->List Value->α->Prop):Prop:=∀w w' cs x,R w cs x->XT p w w'->R w' cs x
def bj{α:Type}(p size:Nat)(R:World->List Value->α->Prop)(w:World)(v:Value)(xs:List α):Prop :=
 ∃(A:Option Addr) (c:Nat),v=D A xs.length c/\xs.length<=c/\c<=9223372036854775807 /\
  ∀k x,xs[k]?=some x->∃b off cs,A=some ⟨b,off,none⟩/\b≠p/\cs.length=size/\(∀j u,cs[j]?=some u->w.cell? ⟨b,off+k*size+j,none⟩=some u)/\R w cs x
section
variable {α:Type} {p size:Nat} {R:World->List Value->α->Prop} {w w':World} {v:Value} {xs:List α}
theorem bj.xt(h:bj p size R w v xs)(hR:lV p R)(e:XT p w w'):bj p size R w' v xs:=by obtain⟨A,c,hv,h1,h2,h4⟩:=h;exact⟨A,c,hv,h1,h2,fun k x hx=>by obtain⟨b,off,cs,ha,hb,hl,hc,hr⟩:=h4 k x hx;exact⟨b,off,cs,ha,hb,hl,fun j u hu=>e.cell (hc j u hu) hb,hR _ _ _ _ hr e⟩⟩
theorem bj.ext(h:bj p size R w v xs)(hR:lV p R)(e:ab w w'):bj p size R w' v xs:=h.xt hR e.xt
theorem bj.open_(h:bj p size R w v xs):∃(A:Option Addr) (n c:Nat),v=D A n c/\n<=c/\c<=9223372036854775807/\n<=9223372036854775807/\Hid (xs.length=n):=by obtain⟨A,c,hv,h1,h2,h4⟩:=h;exact⟨A,xs.length,c,hv,h1,h2,by omega,rfl⟩
theorem bj.len{A:Option Addr}(h:bj p size R w (D A n c) xs):xs.length=n:=by obtain⟨A',c',hv,_⟩:=h;injection hv with _ hn _;exact hn.symm
theorem bj.at_{A:Option Addr}(h:bj p size R w (D A n c) xs)(hk:k<n) :
  ∃(b off:Nat) (cs:List Value) (x:α),A=some ⟨b,off,none⟩/\cs.length=size/\(∀j u,cs[j]?=some u->w.cell? ⟨b,off+k*size+j,none⟩=some u)/\R w cs x/\Hid (xs[k]?=some x):=by
 have hl:=h.len;obtain⟨A',c',hv,h1,h2,h4⟩:=h;injection hv with ha _ _;subst ha;have hk':k<xs.length:=by omega
 obtain⟨b,off,cs,ha,_,hcl,hc,hr⟩:=h4 k _ (zV hk');exact⟨b,off,cs,xs[k],ha,hcl,hc,hr,zV hk'⟩
theorem bj.cell_(h:bj p size R w (D (some ⟨b,off,none⟩) n c) xs)(hk:k<n) :
  ∃(cs:List Value) (x:α),cs.length=size/\(∀j u,cs[j]?=some u->w.cell? ⟨b,off+k*size+j,none⟩=some u)/\R w cs x/\Hid (xs[k]?=some x):=by
 obtain⟨b',off',cs,x,ha,r⟩:=h.at_ hk;injection ha with ha;injection ha with hb ho;subst hb;subst ho;exact⟨cs,x,r⟩
theorem bj.nil(p size:Nat)(R:World->List Value->α->Prop)(w:World):bj p size R w (D none 0 0) [] :=
 ⟨none,0,rfl,zX _,by omega,fun k x hx=>by simp at hx⟩
theorem bj.of_own(css:List (List Value))(hcs:∀cs∈css,cs.length=size)(hsz:0<size)(hlen:css.length=xs.length)(h:w.ownsRow base e size v xs.length css.flatten)(hp:p<base)(hR:∀(k:Nat) cs x,css[k]?=some cs->xs[k]?=some x->R w cs x):bj p size R w v xs:=by
 rcases h.2 with ⟨rfl,h0⟩|⟨g,cap,cur,rfl,hg,hh,hnc,hcm,hcz,htk⟩
 ·obtain rfl:xs=[]:=xZ h0;exact bj.nil p size R w
 ·refine⟨_,cap,rfl,hnc,hcm,fun k x hx=>?_⟩;have hk:=(zY.1 hx).1;have hk':k<css.length:=by omega
  refine⟨g,0,css[k],rfl,by omega,hcs _ (xC hk'),fun j u hu=>?_,hR k _ x (zV hk') hx⟩;have hj:=(zY.1 hu).1;rw[hcs _ (xC hk')]at hj;have hlt:k*size+j<xs.length*size:=by have:(k+1)*size<=xs.length*size:=uH _ hk;rw[xB]at this;omega
  rw[yV,h.cellAt _ hlt];have key:∀(l:List (List Value)),(∀cs∈l,cs.length=size)->∀i j (hi:i<l.length),j<size->l.flatten[i*size+j]?=(l[i])[j]?:=by
   intro l;induction l with
   |nil=>intro _ i j hi;simp at hi
   |cons a l ih =>
    intro hl i j hi hj;have ha:a.length=size:=hl a (by simp);rw[wA];cases i with
    |zero=>simp only[vQ,yV];rw[yY (by omega)];rfl
    |succ i =>
     rw[yL (by rw[ha,xB];omega)];have:(i+1)*size+j-a.length=i*size+j:=by rw[ha,xB];omega
     rw[this,ih (fun cs hc=>hl cs (by simp[hc])) i j (by simpa using hi) hj];rfl
  rw[key css hcs k j hk' hj];exact hu
end
def RI(p:Nat):World->List Value->List Int->Prop:=fun w cs l=>∃u,cs=[u]/\ak p w u l
theorem RI.stab(p:Nat):lV p (RI p):=by rintro w w' cs l ⟨u,rfl,h⟩ e;exact⟨u,rfl,h.xt e⟩
abbrev oc (p:Nat):World->Value->List (List Int)->Prop:=bj p 1 (RI p)
theorem bj.page{xs:List (List Int)}(h:oc p w (D (some ⟨b,off,none⟩) n c) xs)(hk:k<n) :
  ∃(u:Value) (l:List Int),w.cell? ⟨b,off+k,none⟩=some u/\ak p w u l/\Hid (xs[k]?=some l):=by
 obtain⟨cs,l,hl,hc,⟨u,rfl,hi⟩,hx⟩:=h.cell_ hk;refine⟨u,l,?_,hi,hx⟩;have:=hc 0 u rfl;simpa using this
theorem AY(us:List Value):(us.map fun u=>[u]).flatten=us:=by induction us<;>simp_all
def rh(H:Nat)(v:Value):Prop:=∀k,v.ownBlock=some k->k<H
def eU(p base eS eI:Nat)(w:World)(v:Value)(ls:List (List Int)):Prop :=
 ∃(us:List Value) (H:Nat),us.length=ls.length/\w.ownsRow base eS 1 v ls.length us/\base<=H/\H<=w.heap.size /\
  (∀j u l,us[j]?=some u->ls[j]?=some l->j+1<ls.length->w.ownsRow base eI 1 u l.length (l.map (Value.int .i64))/\rh H u) /\
  (∀u l,us[ls.length-1]?=some u->ls[ls.length-1]?=some l->w.ownsRow H eI 1 u l.length (l.map (Value.int .i64)))
section
variable {p base eS eI:Nat} {w w':World} {v:Value} {ls:List (List Int)}
theorem FU(h:w.ownsRow base e size v n xs):rh w.heap.size v:=fun k hk=>(h.lt k hk).2
theorem eU.nil(p base eS eI:Nat)(w:World)(hb:base<=w.heap.size):eU p base eS eI w (D none 0 0) [] :=
 ⟨[],w.heap.size,rfl,yZ _ _ _ _,hb,zX _,fun j u l hu=>by simp at hu,fun u l hu=>by simp at hu⟩
theorem eU.isP(h:eU p base eS eI w v ls)(hp:p<base)(hb:∀l∈ls,∀x∈l,aU x)(hl:∀l∈ls,l.length<=9223372036854775807):oc p w v ls:=by
 obtain⟨us,H,hus,hown,hbH,hH,hold,hlast⟩:=h;refine bj.of_own (e:=eS) (us.map fun u=>[u]) (by simp) (by decide) (by simpa using hus) ?_ hp ?_
 ·rw[AY];exact hown
 ·intro k cs x hcs hx;simp only[zP,yO]at hcs;obtain⟨u,hu,rfl⟩:=hcs;have hk:=(zY.1 hx).1;refine⟨u,rfl,?_⟩;by_cases e:k+1<ls.length
  ·exact ak.of_own (hold k u x hu hx e).1 hp (hb x (zW hx)) (hl x (zW hx))
  ·obtain rfl:k=ls.length-1:=by omega
   exact ak.of_own (hlast u x hu hx) (by omega) (hb x (zW hx)) (hl x (zW hx))
theorem eU.keep(h:eU p base eS eI w v ls)(hs:w.heap.size<=w'.heap.size)(e:∀k,base<=k->k<w.heap.size->w'.heap[k]?=w.heap[k]?):eU p base eS eI w' v ls:=by
 have tr:∀{b e' n:Nat} {u:Value} {xs:List Value},base<=b->w.ownsRow b e' 1 u n xs->w'.ownsRow b e' 1 u n xs:=by
  intro b e' n u xs hb h;rcases h with ⟨h1,h2|⟨g,cap,cur,hv,hg,hh,r⟩⟩
  ·exact⟨h1,.inl h2⟩
  ·exact⟨h1,.inr ⟨g,cap,cur,hv,hg,(e g (by omega) (al hh)).trans hh,r⟩⟩
 obtain⟨us,H,hus,hown,hbH,hH,hold,hlast⟩:=h;exact⟨us,H,hus,tr (zX _) hown,hbH,by omega,fun j u l hu hl hj=>⟨tr (zX _) (hold j u l hu hl hj).1,(hold j u l hu hl hj).2⟩,fun u l hu hl=>tr hbH (hlast u l hu hl)⟩
theorem eU.ext(h:eU p base eS eI w v ls)(e:ab w w'):eU p base eS eI w' v ls:=h.keep e.size fun k _ hk=>e.block k hk
theorem eU.own(h:eU p base eS eI w v ls):∃us,us.length=ls.length/\w.ownsRow base eS 1 v ls.length us:=by obtain⟨us,H,hus,hown,_⟩:=h;exact⟨us,hus,hown⟩
end
theorem aJ{w':World}{row:Option Nat}(h:w.ownsRow base e size v n xs)(hg:w.grownBy w' row)(hne:∀k,v.ownBlock=some k->row≠some k):w'.ownsRow base e size v n xs:=by
 refine h.kept hg ?_;cases hb:v.ownBlock with
 |none=>exact .inl rfl
 |some k=>exact .inr (fun e=>hne k hb e.symm)
theorem cA{b1 b2 e1 e2 s1 s2 n1 n2:Nat}{v1 v2:Value}{x1 x2:List Value}(h1:w.ownsRow b1 e1 s1 v1 n1 x1)(h2:w.ownsRow b2 e2 s2 v2 n2 x2)(hne:e1≠e2):∀k,v1.ownBlock=some k->v2.ownBlock≠some k:=by
 intro k hk hk2;rcases h1.2 with ⟨rfl,_⟩|⟨g1,c1,cu1,rfl,_,hh1,_⟩
 ·simp[Value.ownBlock]at hk
 rcases h2.2 with ⟨rfl,_⟩|⟨g2,c2,cu2,rfl,_,hh2,_⟩
 ·simp[Value.ownBlock]at hk2
 have e1':g1=k:=by simpa[Value.ownBlock] using hk
 have e2':g2=k:=by simpa[Value.ownBlock] using hk2
 subst e1';subst e2';rw[hh1]at hh2;injection hh2 with hh2;injection hh2 with _ he;exact hne he
section
variable {p base eS eI:Nat} {w w':World} {v v':Value} {ls:List (List Int)}
theorem eU.new(h:eU p base eS eI w v ls)(hne:eS≠eI)(hus:w.ownsRow base eS 1 v ls.length us)(hg:w.grownBy w' v.ownBlock)(h':w'.ownsRow base eS 1 v' (ls.length+1) (us++[D none 0 0])) :
  eU p base eS eI w' v' (ls++[[]]):=by
 obtain⟨us0,H,hl0,hown,hbH,hH,hold,hlast⟩:=h;obtain rfl:us0=us:=by
  have a:=hown.2;have b:=hus.2
  rcases a with ⟨rfl,h0⟩|⟨g,cap,cur,rfl,_,hh,_,_,_,ht⟩
  ·have h1:=hown.1;have h2:=hus.1;rw[h0]at h1 h2
   have e1:us0=[]:=xZ (by simpa using h1);have e2:us=[]:=xZ (by simpa using h2);rw[e1,e2]
  ·rcases b with ⟨e,_⟩|⟨g',cap',cur',e,_,hh',_,_,_,ht'⟩
   ·cases e
   ·injection e with e1 e2 e3;injection e1 with e1;injection e1 with e1;subst e1;rw[hh]at hh';injection hh' with hh';injection hh' with hc;subst hc;exact ht.symm.trans ht'
 have keep:∀{b n:Nat} {u:Value} {xs:List Value},w.ownsRow b eI 1 u n xs->w'.ownsRow b eI 1 u n xs:=fun hu =>aJ hu hg (fun k hk=>cA hu hown (Ne.symm hne) k hk)
 have hsz:=hg.size;refine⟨us0++[D none 0 0],w'.heap.size,by simp[hl0],by simpa using h',by omega,zX _,?_,?_⟩
 ·intro j u l hu hl hj;simp at hj;have hj':j<ls.length:=by omega
  rw[yY (by omega)]at hu;rw[yY hj']at hl;by_cases e:j+1<ls.length
  ·obtain⟨a,b⟩:=hold j u l hu hl e;exact⟨keep a,fun k hk=>by have:=b k hk;omega⟩
  ·obtain rfl:j=ls.length-1:=by omega
   have a:=hlast u l hu hl;exact⟨cd (keep a) hbH,fun k hk=>by have:=(a.lt k hk).2;omega⟩
 ·intro u l hu hl;simp at hu hl;rw[yL (by omega)]at hu;simp[hl0]at hu;subst hu;subst hl;exact yZ _ _ _ _
theorem eU.push{g cap H:Nat}{u u':Value}{l:List Int}{x:Int}(h:eU p base eS eI w (D (some ⟨g,0,none⟩) ls.length cap) ls)(hne:eS≠eI)(h0:ls≠[])(hs:ab w w1)(hu:us[ls.length-1]?=some u)(hl:ls[ls.length-1]?=some l)(hus:w.ownsRow base eS 1 (D (some ⟨g,0,none⟩) ls.length cap) ls.length us)(hg:w1.grownBy w' u.ownBlock)(h':w'.ownsRow H eI 1 u' (l.length+1) ((l++[x]).map (Value.int .i64)))(hH:w.ownsRow H eI 1 u l.length (l.map (Value.int .i64)))(hbH:base<=H)(hHw:H<=w.heap.size)(hold:∀j u l,us[j]?=some u->ls[j]?=some l->j+1<ls.length->w.ownsRow base eI 1 u l.length (l.map (Value.int .i64))/\rh H u) :
  eU p base eS eI (w'.setCell ⟨g,ls.length-1,none⟩ u') (D (some ⟨g,0,none⟩) ls.length cap) (ls.set (ls.length-1) (l++[x])):=by
 have hp:0<ls.length:=List.length_pos_iff.2 h0;have hlen:us.length=ls.length:=by simpa using hus.1
 have o1:w1.ownsRow base eS 1 (D (some ⟨g,0,none⟩) ls.length cap) ls.length us:=ao hus hs;have o2:w'.ownsRow base eS 1 (D (some ⟨g,0,none⟩) ls.length cap) ls.length us:=aJ o1 hg fun k hk=>cA o1 (ao hH hs) hne k hk;obtain⟨o3,g3⟩:=o2.stored (ls.length-1) u';have kp:∀{b n:Nat} {z:Value} {xs:List Value},w'.ownsRow b eI 1 z n xs->(w'.setCell ⟨g,ls.length-1,none⟩ u').ownsRow b eI 1 z n xs:=fun hz =>aJ hz g3 (fun k hk e=>cA hz o2 (Ne.symm hne) k hk (by simpa[Value.ownBlock] using e))
 have hsz:w.heap.size<=w'.heap.size:=yR hs.size hg.size;refine⟨us.set (ls.length-1) u',H,by simp[hlen],by simpa using o3,hbH,by have:=g3.size;omega,?_,?_⟩
 ·intro j z m hz hm hj;simp at hj;rw[wW (by omega)]at hz hm;obtain⟨a,b⟩:=hold j z m hz hm hj;refine⟨kp (aJ (ao a hs) hg fun k hk e=>?_),b⟩;have h1:=b k hk;have h2:=(hH.lt k e).1;omega
 ·intro z m hz hm;simp only[yF]at hz hm;rw[wU (by omega)]at hz hm;have e1:=xF hz;have e2:=xF hm;subst e1;subst e2;have:=kp h';simpa using this
theorem eU.parts(h:eU p base eS eI w v ls):∃(us:List Value) (H:Nat),us.length=ls.length/\w.ownsRow base eS 1 v ls.length us/\base<=H/\H<=w.heap.size /\
  (∀j u l,us[j]?=some u->ls[j]?=some l->j+1<ls.length->w.ownsRow base eI 1 u l.length (l.map (Value.int .i64))/\rh H u) /\
  (∀u l,us[ls.length-1]?=some u->ls[ls.length-1]?=some l->w.ownsRow H eI 1 u l.length (l.map (Value.int .i64))):=h
end
open _root_.Go.Proofs.Tryz
structure av where
 kind:Int
 max:Int
 topic:Int
 obj:Int
 opts:Int
 key:Int
def av.cells(q:av):List Value:=[B C q.kind,B C q.max,B C q.topic,B C q.obj,B C q.opts,B C q.key]
def av.wf(q:av):Prop:=aU q.kind/\aU q.max/\aU q.topic/\aU q.obj/\aU q.opts/\aU q.key
def bC:World->List Value->av->Prop:=fun _ cs q=>cs=q.cells/\q.wf
theorem bC.stab(p:Nat):lV p bC:=fun _ _ _ _ h _=>h
def lm(q:av):Bool:=decide (1<=q.max/\q.max<=40/\0<=q.topic/\q.topic<16/\0<=q.obj/\q.obj<6/\((q.kind=1/\q.opts=0/\q.key=0)\/(q.kind=2/\2<=q.opts/\q.opts<=5/\0<=q.key/\q.key<q.opts)))
theorem k8{q:av}(h:lm q=true):1<=q.max/\q.max<=40/\0<=q.topic/\q.topic<16/\0<=q.obj/\q.obj<6/\((q.kind=1/\q.opts=0/\q.key=0)\/(q.kind=2/\2<=q.opts/\q.opts<=5/\0<=q.key/\q.key<q.opts)):=by simpa[lm] using h
def db(q:av):Int:=if lm q=false then 0 else if q.kind=2 then 2+q.opts else min (2+q.max) 30
theorem qp(q:av):0<=db q/\db q<=30:=by
 unfold db;cases h:lm q with
 |false=>simp
 |true =>
  have:=k8 h;simp only[Bool.true_eq_false,if_false];split<;>omega
theorem gw(q:av)(w:World) :
  Calls prog 123 #[.agg #[B C q.kind,B C q.max,B C q.topic,B C q.obj,B C q.opts,B C q.key]] w fun e w'=>e=.returned (.bool (lm q))/\ab w w':=by
 obtain⟨k,m,t,o,n,y⟩:=q;go_enter func123,ntmps123
 go_wp2
 all_goals (go_ret;exact⟨aa (by (try simp only[beq_iff_eq,beq_eq_false_iff_ne]at *);rw[yE];simp[lm];omega),(zE _).alloc _⟩)
theorem fG(q:av)(w:World) :
  Calls prog 89 #[.agg #[B C q.kind,B C q.max,B C q.topic,B C q.obj,B C q.opts,B C q.key]] w fun e w'=>e=.returned (.bool (lm q))/\ab w w':=by
 obtain⟨k,m,t,o,n,y⟩:=q;go_enter func89,ntmps89
 go_wp2
 all_goals (go_ret;exact⟨aa (by (try simp only[beq_iff_eq,beq_eq_false_iff_ne]at *);rw[yE];simp[lm];omega),(zE _).alloc _⟩)
theorem K3{o:Obj}{a b c d e f:Value}{t:TypeId}(ho:o=.cells #[a,b,c,d,e,f] t)(h:ab (w.alloc o) w1) :
  w1.cell? ⟨w.heap.size,0,none⟩=some a/\w1.cell? ⟨w.heap.size,1,none⟩=some b/\w1.cell? ⟨w.heap.size,2,none⟩=some c/\w1.cell? ⟨w.heap.size,3,none⟩=some d/\w1.cell? ⟨w.heap.size,4,none⟩=some e/\w1.cell? ⟨w.heap.size,5,none⟩=some f:=by
 subst ho;have hb:=h.blk (heap_alloc_new w _);refine⟨?_,?_,?_,?_,?_,?_⟩<;>(rw[cell_of_row w1 w.heap.size _ _ t (0,0) hb];rfl)
theorem Gk(q:av)(w:World) :
  Calls prog 86 #[.agg #[B C q.kind,B C q.max,B C q.topic,B C q.obj,B C q.opts,B C q.key]] w fun e w'=>e=.returned (B C (db q))/\ab w w':=by
 cases hv:lm q with
 |false =>
  have HV:=zZ hv;clear hv;go_enter func86,ntmps86
  go_wp2_with fail;refine (gw q _).mono ?_;rintro e w1 ⟨rfl,hx1⟩;rw[HV.out];go_wp2_with fail;go_ret
  exact⟨ag (by simp[db,HV.out]),ab.trans ((zE _).alloc _) hx1⟩
 |true =>
  have HV:=zZ hv;have hb:=k8 hv;clear hv;have HN:Hid (db q=if q.kind=2 then 2+q.opts else min (2+q.max) 30):=by show db q=_;unfold db;rw[if_neg (by simp[HV.out])]
  have hk:q.kind=1\/q.kind=2:=by omega
  obtain⟨k,m,t,o,n,y⟩:=q;simp only at hb hk;obtain⟨h1,h2,h3,h4,h5,h6,h7⟩:=hb;rcases hk with rfl|rfl;all_goals
   have HE:=zZ h7;clear h7;have hn5:n<=5:=by have:=HE.out;omega
   have hn0:0<=n:=by have:=HE.out;omega
   go_enter func86,ntmps86
   go_wp2_with fail;refine (gw ⟨_,m,t,o,n,y⟩ _).mono ?_;rintro e w1 ⟨rfl,hx1⟩;rw[HV.out];obtain⟨c0,c1,c2,c3,c4,c5⟩:=K3 rfl hx1;go_wp2_with fail;all_goals (go_ret;exact⟨ag (by rw[HN.out];simp;try omega),ab.trans ((zE _).alloc _) hx1⟩)
theorem sA(q:av)(w:World) :
  Calls prog 88 #[.agg #[B C q.kind,B C q.max,B C q.topic,B C q.obj,B C q.opts,B C q.key]] w fun e w'=>e=.returned (B C (db q))/\ab w w':=by
 cases hv:lm q with
 |false =>
  have HV:=zZ hv;clear hv;go_enter func88,ntmps88
  go_wp2_with fail;refine (fG q _).mono ?_;rintro e w1 ⟨rfl,hx1⟩;rw[HV.out];go_wp2_with fail;go_ret
  exact⟨ag (by simp[db,HV.out]),ab.trans ((zE _).alloc _) hx1⟩
 |true =>
  have HV:=zZ hv;have hb:=k8 hv;clear hv;have HN:Hid (db q=if q.kind=2 then 2+q.opts else min (2+q.max) 30):=by show db q=_;unfold db;rw[if_neg (by simp[HV.out])]
  have hk:q.kind=1\/q.kind=2:=by omega
  obtain⟨k,m,t,o,n,y⟩:=q;simp only at hb hk;obtain⟨h1,h2,h3,h4,h5,h6,h7⟩:=hb;rcases hk with rfl|rfl;all_goals
   have HE:=zZ h7;clear h7;have hn5:n<=5:=by have:=HE.out;omega
   have hn0:0<=n:=by have:=HE.out;omega
   go_enter func88,ntmps88
   go_wp2_with fail;refine (fG ⟨_,m,t,o,n,y⟩ _).mono ?_;rintro e w1 ⟨rfl,hx1⟩;rw[HV.out];obtain⟨c0,c1,c2,c3,c4,c5⟩:=K3 rfl hx1;go_wp2_with fail;all_goals (go_ret;exact⟨ag (by rw[HN.out];simp;try omega),ab.trans ((zE _).alloc _) hx1⟩)
abbrev oa (p:Nat):World->Value->List av->Prop:=bj p 6 bC
theorem bj.part{ps:List av}(h:oa p w (D (some ⟨b,off,none⟩) n c) ps)(hk:k<n) :
  ∃q:av,w.cell? ⟨b,off+k*6,none⟩=some (B C q.kind)/\w.cell? ⟨b,off+k*6+1,none⟩=some (B C q.max)/\w.cell? ⟨b,off+k*6+2,none⟩=some (B C q.topic) /\
   w.cell? ⟨b,off+k*6+3,none⟩=some (B C q.obj)/\w.cell? ⟨b,off+k*6+4,none⟩=some (B C q.opts)/\w.cell? ⟨b,off+k*6+5,none⟩=some (B C q.key)/\Hid q.wf/\Hid (ps[k]?=some q):=by
 obtain⟨cs,q,hl,hc,⟨rfl,hw⟩,hx⟩:=h.cell_ hk;exact⟨q,hc 0 _ rfl,hc 1 _ rfl,hc 2 _ rfl,hc 3 _ rfl,hc 4 _ rfl,hc 5 _ rfl,hw,hx⟩
def tN(ps:List av)(k:Nat):Int:=((ps.take k).map av.max).sum
def sm(ps:List av):Int:=(ps.map av.max).sum
theorem sQ{ps:List av}{q:av}{s:Int}(hs:s=tN ps k)(h:ps[k]?=some q):s+q.max=tN ps (k+1):=by subst hs;unfold tN;rw[ax h];simp
theorem JM{ps:List av}{s:Int}(hl:ps.length=n)(hs:s=tN ps n):s=sm ps:=by subst hs;unfold tN sm;rw[bh hl]
theorem ve(v:Value)(ps:List av)(w:World)(h:oa p w v ps)(hb:∀q∈ps,0<=q.max/\q.max<=40)(hl24:ps.length<=24) :
  Calls prog 124 #[v] w fun e w'=>e=.returned (B C (sm ps))/\ab w w':=by
 obtain⟨A,n,c,rfl,hnc,hc,hnn,HL⟩:=h.open_;have hn24:n<=24:=by have:=HL.out;omega
 have H:=zZ h;have HB:=zZ hb;clear h hb;go_enter func124,ntmps124
 go_wp2_with fail;go_loopw [3,8] (fun s i wr=>∃(k:Nat) (t:Int),k<=n/\0<=t/\t<=40*k/\i=B C k/\s=B C t/\Hid (t=tN ps k)/\Hid (ab w wr)) (fun _ i _=>n-(intOf i).toNat)
 case atStart=>exact⟨0,0,xL _,by omega,by omega,rfl,rfl,by simp[Hid,tN],zE _⟩
 case round =>
  obtain⟨k,t,hk,ht0,ht1,rfl,rfl,HT,HE⟩:=hrel;by_cases hlt:k<n
  ·obtain⟨b,off,cs0,q0,rfl,_⟩:=H.out.at_ hlt;obtain⟨q,c0,c1,c2,c3,c4,c5,hw,HX⟩:=(H.out.ext (bC.stab p) HE.out).part hlt;have hbq:=HB.out q (zW HX.out);go_wp2_with fail;go_roundw
   case rel=>exact⟨k+1,t+q.max,by omega,by omega,by omega,by go_num,rfl,sQ HT.out HX.out,HE.out.alloc _⟩
   case measure=>simp[intOf];omega
  ·obtain rfl:k=n:=by omega
   go_wp2_with fail;go_ret
   exact⟨ag (JM HL.out HT.out),HE.out⟩
def fD(code var:Int)(ps:List av):Bool:=decide (0<=code/\code<=31/\0<=var/\var<4/\1<=ps.length/\ps.length<=24)&&(ps.all lm&&decide (sm ps<=200))
theorem AH{ps:List av}(hl:ps.length=n)(h:¬(0<=code/\code<=31/\0<=var/\var<4/\1<=n/\n<=24)):false=fD code var ps:=by unfold fD;rw[hl];simp[h]
theorem BP{ps:List av}{q:av}(h:ps[k]?=some q)(hq:lm q=false):false=fD code var ps:=by
 have:ps.all lm=false:=by rw[wT];exact⟨q,zW h,by simp[hq]⟩
 unfold fD;simp[this]
theorem DJ{ps:List av}(hl:ps.length=n)(h:0<=code/\code<=31/\0<=var/\var<4/\1<=n/\n<=24)(ha:ps.all lm=true):decide (sm ps<=200)=fD code var ps:=by unfold fD;rw[hl,ha,decide_eq_true h];simp
theorem mD{ps:List av}(h:fD code var ps=true):0<=code/\code<=31/\0<=var/\var<4/\1<=ps.length/\ps.length<=24/\ps.all lm=true/\sm ps<=200:=by unfold fD at h;simp only[yT,decide_eq_true_eq]at h;obtain⟨⟨a,b,c,d,e,f⟩,g,i⟩:=h;exact⟨a,b,c,d,e,f,g,i⟩
theorem su{f:av->Bool}{l:List av}{x:av}(h:l[k]?=some x):(l.take (k+1)).all f=((l.take k).all f&&f x):=by rw[ax h];simp
theorem Lc{o:Obj}{a b c:Value}{t:TypeId}(ho:o=.cells #[a,b,c] t)(h:ab (w.alloc o) w1) :
  w1.cell? ⟨w.heap.size,0,none⟩=some a/\w1.cell? ⟨w.heap.size,1,none⟩=some b/\w1.cell? ⟨w.heap.size,2,none⟩=some c:=by
 subst ho;exact Hd (h.blk (heap_alloc_new w _))
theorem kP(code var:Int)(v:Value)(ps:List av)(w:World)(h:oa p w v ps) :
  Calls prog 85 #[.agg #[B C code,B C var,v]] w fun e w'=>e=.returned (.bool (fD code var ps))/\ab w w':=by
 obtain⟨A,n,c,rfl,hnc,hc,hnn,HL⟩:=h.open_;have H:=zZ h;clear h;by_cases hh:0<=code/\code<=31/\0<=var/\var<4/\1<=n/\n<=24
 ·have HH:=zZ hh;obtain⟨h1,h2,h3,h4,h5,h6⟩:=hh;have hE0:ab w (w.alloc (.cells #[B C code,B C var,D A n c] 84)):=(zE _).alloc _;have HE0:=zZ hE0;clear hE0;go_enter func85,ntmps85
  go_wp2_with fail;go_loopw [36] (fun i wr=>∃(k:Nat),k<=n/\i=B C k/\Hid ((ps.take k).all lm=true)/\Hid (ab (w.alloc (.cells #[B C code,B C var,D A n c] 84)) wr)) (fun i _=>n-(intOf i).toNat)
  case atStart=>exact⟨0,xL _,rfl,by simp[Hid],zE _⟩
  case round =>
   obtain⟨k,hk,rfl,HA,HE⟩:=hrel;by_cases hlt:k<n
   ·obtain⟨b,off,cs0,q0,rfl,_⟩:=H.out.at_ hlt;obtain⟨q,c0,c1,c2,c3,c4,c5,hw,HX⟩:=((H.out.ext (bC.stab p) HE0.out).ext (bC.stab p) HE.out).part hlt;cases hv:lm q with
    |false =>
     have HV:=zZ hv;clear hv;go_wp2_with fail;refine (gw q _).mono ?_;rintro e w1 ⟨rfl,hx1⟩;rw[HV.out];go_wp2_with fail;go_ret
     exact⟨aa (BP HX.out HV.out),(HE0.out.trans (HE.out.alloc _)).trans hx1⟩
    |true =>
     have HV:=zZ hv;clear hv;go_wp2_with fail;refine (gw q _).mono ?_;rintro e w1 ⟨rfl,hx1⟩;rw[HV.out];go_wp2_with fail;go_roundw
     case rel=>exact⟨k+1,by omega,by go_num,by show (ps.take (k+1)).all lm=true;rw[su HX.out,HA.out,HV.out];rfl,(HE.out.alloc _).trans hx1⟩
     case measure=>simp[intOf];omega
   ·obtain rfl:k=n:=by omega
    have hall:ps.all lm=true:=by have:=HA.out;rw[bh HL.out]at this;exact this
    have HALL:=zZ hall;obtain⟨c0,c1,c2⟩:=Lc rfl HE.out;clear hall;go_wp2_with fail;refine (ve _ ps _ ((H.out.ext (bC.stab p) HE0.out).ext (bC.stab p) HE.out) (fun q hq=>by have:=k8 (xS.1 HALL.out q hq);omega) (by have:=HL.out;omega)).mono ?_;rintro e w1 ⟨rfl,hx1⟩;go_wp2_with fail;go_ret
    exact⟨aa (DJ HL.out HH.out HALL.out),(HE0.out.trans HE.out).trans hx1⟩
 ·have HH:=zZ (AH HL.out hh);by_cases h1:0<=code/\code<=31/\0<=var/\var<4
  ·have h5:n<1\/24<n:=by omega
   clear hh;go_enter func85,ntmps85
   go_wp2_with fail;all_goals (go_ret;exact⟨aa HH.out,(zE _).alloc _⟩)
  ·clear hh;have h1':code<0\/31<code\/var<0\/4<=var:=by omega
   clear h1;go_enter func85,ntmps85
   go_wp2_with fail;all_goals (go_ret;exact⟨aa HH.out,(zE _).alloc _⟩)
theorem fc(code var:Int)(v:Value)(ps:List av)(w:World)(h:oa p w v ps) :
  Calls prog 51 #[.agg #[B C code,B C var,v]] w fun e w'=>e=.returned (.bool (fD code var ps))/\ab w w':=by
 obtain⟨A,n,c,rfl,hnc,hc,hnn,HL⟩:=h.open_;have H:=zZ h;clear h;by_cases hh:0<=code/\code<=31/\0<=var/\var<4/\1<=n/\n<=24
 ·have HH:=zZ hh;obtain⟨h1,h2,h3,h4,h5,h6⟩:=hh;have hE0:ab w (w.alloc (.cells #[B C code,B C var,D A n c] 84)):=(zE _).alloc _;have HE0:=zZ hE0;clear hE0;go_enter func51,ntmps51
  go_wp2_with fail;go_loopw [3,4] (fun s i wr=>∃(k:Nat) (t:Int),k<=n/\0<=t/\t<=40*k/\i=B C k/\s=B C t/\Hid (t=tN ps k)/\Hid ((ps.take k).all lm=true)/\Hid (ab (w.alloc (.cells #[B C code,B C var,D A n c] 84)) wr)) (fun _ i _=>n-(intOf i).toNat)
  case atStart=>exact⟨0,0,xL _,by omega,by omega,rfl,rfl,by simp[Hid,tN],by simp[Hid],zE _⟩
  case round =>
   obtain⟨k,t,hk,ht0,ht1,rfl,rfl,HT,HA,HE⟩:=hrel;obtain⟨b0,b1,b2⟩:=Lc rfl HE.out;by_cases hlt:k<n
   ·obtain⟨b,off,cs0,q0,rfl,_⟩:=H.out.at_ hlt;have HI:=zZ ((H.out.ext (bC.stab p) HE0.out).ext (bC.stab p) HE.out);obtain⟨q,c0,c1,c2,c3,c4,c5,hw,HX⟩:=HI.out.part hlt;cases hv:lm q with
    |false =>
     have HV:=zZ hv;clear hv;go_wp2_with fail;refine (fG q _).mono ?_;rintro e w1 ⟨rfl,hx1⟩;rw[HV.out];go_wp2_with fail;go_ret
     exact⟨aa (BP HX.out HV.out),(HE0.out.trans HE.out).trans hx1⟩
    |true =>
     have HV:=zZ hv;have hbq:=k8 hv;clear hv;go_wp2_with fail;refine (fG q _).mono ?_;rintro e w1 ⟨rfl,hx1⟩;rw[HV.out];have d2:=hx1.cell b2;have e1:=hx1.cell c1;clear b0 b1 b2 c0 c1 c2 c3 c4 c5;go_wp2_with fail;go_roundw
     case rel=>exact⟨k+1,t+q.max,by omega,by omega,by omega,by go_num,rfl,sQ HT.out HX.out,by show (ps.take (k+1)).all lm=true;rw[su HX.out,HA.out,HV.out];rfl,HE.out.trans hx1⟩
     case measure=>simp[intOf];omega
   ·obtain rfl:k=n:=by omega
    have HALL:Hid (ps.all lm=true):=by have:=HA.out;rw[bh HL.out]at this;exact this
    go_wp2_with fail;go_ret
    exact⟨aa (by rw[<-DJ HL.out HH.out HALL.out,JM HL.out HT.out]),HE0.out.trans HE.out⟩
 ·have HH:=zZ (AH HL.out hh);by_cases h1:0<=code/\code<=31/\0<=var/\var<4
  ·have h5:n<1\/24<n:=by omega
   clear hh;go_enter func51,ntmps51
   go_wp2_with fail;all_goals (go_ret;exact⟨aa HH.out,(zE _).alloc _⟩)
  ·clear hh;have h1':code<0\/31<code\/var<0\/4<=var:=by omega
   clear h1;go_enter func51,ntmps51
   go_wp2_with fail;all_goals (go_ret;exact⟨aa HH.out,(zE _).alloc _⟩)
def jf(base eS eI H:Nat)(w:World)(v:Value)(ls:List (List Int)):Prop :=
 ∃us:List Value,us.length=ls.length/\w.ownsRow base eS 1 v ls.length us/\base<=H/\H<=w.heap.size /\
  ∀(j:Nat) (u:Value) (l:List Int),us[j]?=some u->ls[j]?=some l->w.ownsRow base eI 1 u l.length (l.map (Value.int .i64))/\rh H u
section
variable {base eS eI H:Nat} {w w':World} {v v':Value} {ls:List (List Int)}
theorem jf.own(h:jf base eS eI H w v ls):∃us,us.length=ls.length/\w.ownsRow base eS 1 v ls.length us:=by obtain⟨us,a,b,_⟩:=h;exact⟨us,a,b⟩
theorem jf.ext(h:jf base eS eI H w v ls)(e:ab w w'):jf base eS eI H w' v ls:=by obtain⟨us,a,b,c,d,f⟩:=h;exact⟨us,a,ao b e,c,yR d e.size,fun j u l hu hl=>⟨ao (f j u l hu hl).1 e,(f j u l hu hl).2⟩⟩
theorem jf.keep(h:jf base eS eI H w v ls)(hs:w.heap.size<=w'.heap.size)(e:∀k,base<=k->k<w.heap.size->w'.heap[k]?=w.heap[k]?):jf base eS eI H w' v ls:=by
 have tr:∀{e' n:Nat} {u:Value} {xs:List Value},w.ownsRow base e' 1 u n xs->w'.ownsRow base e' 1 u n xs:=by
  intro e' n u xs h;rcases h with ⟨h1,h2|⟨g,cap,cur,hv,hg,hh,r⟩⟩
  ·exact⟨h1,.inl h2⟩
  ·exact⟨h1,.inr ⟨g,cap,cur,hv,hg,(e g (by omega) (al hh)).trans hh,r⟩⟩
 obtain⟨us,a,b,c,d,f⟩:=h;exact⟨us,a,tr b,c,by omega,fun j u l hu hl=>⟨tr (f j u l hu hl).1,(f j u l hu hl).2⟩⟩
theorem jf.up(h:jf base eS eI H w v ls){H':Nat}(h1:H<=H')(h2:H'<=w.heap.size):jf base eS eI H' w v ls:=by obtain⟨us,a,b,c,d,f⟩:=h;exact⟨us,a,b,by omega,h2,fun j u l hu hl=>⟨(f j u l hu hl).1,fun k hk=>by have:=(f j u l hu hl).2 k hk;omega⟩⟩
theorem jf.apart(h:jf base eS eI H w v ls)(hne:eS≠eI){u:Value}(hu:w.ownsRow H eI 1 u n xs)(hg:w.grownBy w' u.ownBlock):jf base eS eI H w' v ls:=by obtain⟨us,a,b,c,d,f⟩:=h;refine⟨us,a,aJ b hg (fun k hk=>cA b hu hne k hk),c,yR d hg.size,fun j z l hz hl=>⟨aJ (f j z l hz hl).1 hg (fun k hk e=>?_),(f j z l hz hl).2⟩⟩;have h1:=(f j z l hz hl).2 k hk;have h2:=(hu.lt k e).1;omega
theorem rR{us':List Value}(a:w.ownsRow base e size v n us)(b:w.ownsRow base e size v n us'):us=us':=by
 rcases a.2 with ⟨rfl,h0⟩|⟨g,cap,cur,rfl,_,hh,_,_,_,ht⟩
 ·have h1:=a.1;have h2:=b.1;rw[h0]at h1 h2
  have e1:us=[]:=xZ (by simpa using h1);have e2:us'=[]:=xZ (by simpa using h2);rw[e1,e2]
 ·rcases b.2 with ⟨e,_⟩|⟨g',cap',cur',e,_,hh',_,_,_,ht'⟩
  ·cases e
  ·injection e with e1 e2 e3;injection e1 with e1;injection e1 with e1;subst e1;rw[hh]at hh';injection hh' with hh';injection hh' with hc;subst hc;exact ht.symm.trans ht'
theorem jf.push(h:jf base eS eI H w v ls)(hne:eS≠eI)(hus:w.ownsRow base eS 1 v ls.length us){u:Value}{l:List Int}(hu:w.ownsRow base eI 1 u l.length (l.map (Value.int .i64)))(hg:w.grownBy w' v.ownBlock)(h':w'.ownsRow base eS 1 v' (ls.length+1) (us++[u])):jf base eS eI w'.heap.size w' v' (ls++[l]):=by
 obtain⟨us0,a,b,c,d,f⟩:=h;obtain rfl:=rR b hus;have keep:∀{z:Value} {n:Nat} {xs:List Value},w.ownsRow base eI 1 z n xs->w'.ownsRow base eI 1 z n xs:=fun hz =>aJ hz hg (fun k hk=>cA hz b (Ne.symm hne) k hk)
 have hs:=hg.size;refine⟨us0++[u],by simp[a],by simpa using h',by omega,zX _,fun j z m hz hm=>?_⟩;rcases zU j ls.length with hj|hj
 ·rw[yY (by omega)]at hz;rw[yY hj]at hm;exact⟨keep (f j z m hz hm).1,fun k hk=>by have:=(f j z m hz hm).2 k hk;omega⟩
 ·rw[yL (by omega)]at hz;rw[yL hj]at hm;have hj0:j-ls.length=0:=by
   have:=(zY.1 hm).1;simp at this;omega
  rw[a,hj0]at hz;rw[hj0]at hm;simp at hz hm;subst hz;subst hm;exact⟨keep hu,FU (keep hu)⟩
theorem jf.isP(h:jf base eS eI H w v ls)(hp:p<base)(hb:∀l∈ls,∀x∈l,aU x)(hl:∀l∈ls,l.length<=9223372036854775807):oc p w v ls:=by obtain⟨us,a,b,c,d,f⟩:=h;refine bj.of_own (e:=eS) (us.map fun u=>[u]) (by simp) (by decide) (by simpa using a) (by rw[AY];exact b) hp ?_;intro k cs x hcs hx;simp only[zP,yO]at hcs;obtain⟨u,hu,rfl⟩:=hcs;exact⟨u,rfl,ak.of_own (f k u x hu hx).1 hp (hb x (zW hx)) (hl x (zW hx))⟩
theorem jf.one(w:World)(base eS eI:Nat)(hb:base<=w.heap.size):jf base eS eI (w.heap.size+1) (w.alloc (.cells #[D none 0 0] eS)) (D (some ⟨w.heap.size,0,none⟩) 1 1) [[]]:=by
 refine⟨[D none 0 0],rfl,?_,by omega,by simp,fun j u l hu hl=>?_⟩
 ·exact uT w #[D none 0 0] 1 hb (by unfold maxLen;omega) rfl
 ·have hj:j=0:=by have:=(zY.1 hu).1;simp at this;omega
  subst hj;simp at hu hl;subst hu;subst hl;exact⟨yZ _ _ _ _,fun k hk=>by simp[Value.ownBlock]at hk⟩
end
theorem eU.step{eS eI g j cap:Nat}{d:List (List Int)}{c:List Int}(h:eU p base eS eI w (D (some ⟨g,0,none⟩) (j+1) cap) (d++[c]))(hd:d.length=j)(hne:eS≠eI) :
  ∃(A:Option Addr) (n cu H:Nat),w.cell? ⟨g,j,none⟩=some (D A n cu)/\c.length=n/\base<=g/\base<=H/\H<=w.heap.size/\w.ownsRow H eI 1 (D A n cu) n (c.map (Value.int .i64)) /\
   ∀(w1 w2:World) (u':Value) (x:Int),ab w w1->w1.grownBy w2 (Value.slice A n cu).ownBlock->w2.ownsRow H eI 1 u' (n+1) (c.map (Value.int .i64)++[B C x]) ->
    w2.cell? ⟨g,j,none⟩=some (D A n cu)/\w2.frozen? ⟨g,j,none⟩=false/\eU p base eS eI (w2.setCell ⟨g,j,none⟩ u') (D (some ⟨g,0,none⟩) (j+1) cap) (d++[c++[x]]):=by
 have hls:(d++[c]).length=j+1:=by simp[hd]
 have hl1:(d++[c]).length-1=j:=by omega
 obtain⟨us,H,hus,hown,hbH,hH,hold,hlast⟩:=h.parts;have hcj:(d++[c])[(d++[c]).length-1]?=some c:=by rw[hl1,yL (by omega)];simp[hd]
 have hj:j<us.length:=by omega
 have huj:us[(d++[c]).length-1]?=some us[j]:=by rw[hl1];exact zV hj
 have ho:=hlast _ c huj hcj;obtain⟨A,n,cu,hv,hn⟩:∃A n cu,us[j]=D A n cu/\c.length=n:=by
  rcases ho.2 with ⟨e,h0⟩|⟨g',cap',cur,e,_⟩
  ·exact⟨none,0,0,e,h0⟩
  ·exact⟨_,_,cap',e,rfl⟩
 rw[hv]at ho huj;rw[hn]at ho;rw[hls]at hown;have hcell:w.cell? ⟨g,j,none⟩=some (D A n cu):=by rw[hown.cellAt j (by omega),zV hj,hv]
 have hbg:base<=g:=(hown.lt g rfl).1;refine⟨A,n,cu,H,hcell,hn,hbg,hbH,hH,ho,fun w1 w2 u' x hs hg h'=>?_⟩;have o1:=ao hown hs;have o2:w2.ownsRow base eS 1 (D (some ⟨g,0,none⟩) (j+1) cap) (j+1) us:=aJ o1 hg fun k hk=>cA o1 (ao ho hs) hne k hk;refine⟨by rw[o2.cellAt j (by omega),zV hj,hv],o2.frozenAt j,?_⟩;subst hn;have hp:=eU.push (p:=p) (x:=x) (u':=u') (w1:=w1) (w':=w2) (ls:=d++[c]) (us:=us) (u:=D A c.length cu) (l:=c) (H:=H) (g:=g) (cap:=cap) (w:=w) (base:=base) (eS:=eS) (eI:=eI)
  (by rw[hls];exact h) hne (by simp) hs huj hcj (by rw[hls];exact hown) hg (by simpa using h') ho hbH hH hold
 rw[hl1,hls]at hp;have e:(d++[c]).set j (c++[x])=d++[c++[x]]:=by rw[vO _ _ (by omega)];simp[hd]
 rw[e]at hp;exact hp
theorem eU.two(p:Nat)(w:World)(base eS eI:Nat)(hb:base<=w.heap.size):eU p base eS eI (w.alloc (.cells #[D none 0 0,D none 0 0] eS)) (D (some ⟨w.heap.size,0,none⟩) 2 2) [[],[]]:=by
 refine⟨[D none 0 0,D none 0 0],w.heap.size+1,rfl,?_,by omega,by simp,fun j u l hu hl hj=>?_,fun u l hu hl=>?_⟩
 ·exact uT w #[D none 0 0,D none 0 0] 2 hb (by unfold maxLen;omega) rfl
 ·simp at hj;obtain rfl:j=0:=by omega
  simp at hu hl;subst hu;subst hl;exact⟨yZ _ _ _ _,fun k hk=>by simp[Value.ownBlock]at hk⟩
 ·simp at hu hl;subst hu;subst hl;exact yZ _ _ _ _
theorem eU.form{eS eI:Nat}{ls:List (List Int)}{m:Nat}(h:eU p base eS eI w v ls)(hm:ls.length=m+1):∃g cap,v=D (some ⟨g,0,none⟩) (m+1) cap:=by obtain⟨us,_,hown⟩:=h.own;obtain⟨g,cap,hv,_⟩:=di hown (by omega);rw[hm]at hv;exact⟨g,cap,hv⟩
end Go.Proofs.YtkaajgoeahahpaaGreatDoor

