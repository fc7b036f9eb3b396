import Derived.Test.YtkaajgoeahahpaaGreatDoorK1
set_option linter.all false
set_option maxRecDepth 100000
set_option maxHeartbeats 0
namespace Go.Proofs.YtkaajgoeahahpaaGreatDoor
open Go.RowKit
variable {code var:Int}
theorem J3{l:List Int}{k:Nat}{x:Int}(h:l[k]?=some x):l.getD k 0=x:=by simp[List.getD,h]
def gs(ns:List Int):Nat->List (List Int)×List Int×Int
 |0=>([[]],[],0)
 |k+1=>if 30<(gs ns k).2.2+ns.getD k 0 then ((gs ns k).1++[(gs ns k).2.1],[(k:Int)],ns.getD k 0) else ((gs ns k).1,(gs ns k).2.1++[(k:Int)],(gs ns k).2.2+ns.getD k 0)
def iW(ns:List Int):List (List Int):=(gs ns ns.length).1++[(gs ns ns.length).2.1]
def Ev(ls:List (List Int)):List (List Int):=ls++List.replicate ((4-ls.length%4)%4) []
def ai(ps:List av):List (List Int):=Ev (iW (ps.map db))
section
variable {ns:List Int} {k:Nat} {d:List (List Int)} {c:List Int} {s x:Int}
theorem CV(h:gs ns k=(d,c,s))(hx:ns[k]?=some x)(hf:s+x<=30):gs ns (k+1)=(d,c++[(k:Int)],s+x):=by unfold gs;rw[h];simp only;rw[J3 hx,if_neg (by omega)]
theorem CL(h:gs ns k=(d,c,s))(hx:ns[k]?=some x)(hf:30<s+x):gs ns (k+1)=(d++[c],[(k:Int)],x):=by unfold gs;rw[h];simp only;rw[J3 hx,if_pos hf]
end
theorem Kb(ns:List Int)(hn:∀x∈ns,0<=x/\x<=30):∀k,k<=ns.length->0<=(gs ns k).2.2/\(gs ns k).2.2<=30/\(gs ns k).1.length<=k+1/\(gs ns k).2.1.length<=k /\
  (∀l∈(gs ns k).1,∀y∈l,0<=y/\y<k)/\(∀y∈(gs ns k).2.1,0<=y/\y<k)/\(∀l∈(gs ns k).1,l.length<=k)/\((gs ns k).2.1=[]->(gs ns k).2.2=0/\k=0):=by
 intro k;induction k with
 |zero=>intro _;simp[gs]
 |succ k ih =>
  intro hk;obtain⟨h1,h2,h3,h4,h5,h6,h7,h8⟩:=ih (by omega);have hkl:k<ns.length:=by omega
  have hx:ns[k]?=some ns[k]:=zV hkl;have hb:=hn _ (xC hkl);obtain⟨d,c,s,e⟩:∃d c s,gs ns k=(d,c,s):=⟨_,_,_,rfl⟩
  rw[e]at h1 h2 h3 h4 h5 h6 h7 h8;simp only at h1 h2 h3 h4 h5 h6 h7 h8;by_cases hf:s+ns[k]<=30
  ·rw[CV e hx hf];simp only;refine⟨by omega,by omega,by omega,by simp;omega,?_,?_,fun l hl=>by have:=h7 l hl;omega,fun h=>by simp at h⟩
   ·intro l hl y hy;have:=h5 l hl y hy;omega
   ·intro y hy;rcases zM.1 hy with hy|hy
    ·have:=h6 y hy;omega
    ·simp at hy;omega
  ·rw[CL e hx (by omega)];simp only;refine⟨by omega,by omega,by simp;omega,by simp,?_,?_,?_,fun h=>by simp at h⟩
   ·intro l hl y hy;rcases zM.1 hl with hl|hl
    ·have:=h5 l hl y hy;omega
    ·simp at hl;subst hl;have:=h6 y hy;omega
   ·intro y hy;simp at hy;omega
   ·intro l hl;rcases zM.1 hl with hl|hl
    ·have:=h7 l hl;omega
    ·simp at hl;subst hl;omega
theorem Ij{ls:List (List Int)}(h:ls.length%4≠0):Ev (ls++[[]])=Ev ls:=by
 unfold Ev;have e:(4-ls.length%4)%4=(4-(ls++[[]]).length%4)%4+1:=by simp;omega
 rw[e,xY,vD];rfl
theorem Hn{ls:List (List Int)}(h:ls.length%4=0):Ev ls=ls:=by unfold Ev;simp[h]
theorem rY(ps:List av):∀x∈ps.map db,0<=x/\x<=30:=by intro x hx;obtain⟨q,_,rfl⟩:=zF.1 hx;exact qp q
theorem qW(ps:List av):(iW (ps.map db)).length<=ps.length+2/\(∀l∈iW (ps.map db),l.length<=ps.length/\∀y∈l,0<=y/\y<ps.length):=by
 have h:=Kb (ps.map db) (rY ps) (ps.map db).length (zX _);obtain⟨_,_,h3,h4,h5,h6,h7,_⟩:=h;unfold iW;simp only[zJ]at *;refine⟨by simp;omega,fun l hl=>?_⟩;rcases zM.1 hl with hl|hl
 ·exact⟨h7 l hl,h5 l hl⟩
 ·simp at hl;subst hl;exact⟨h4,h6⟩
theorem m7(ps:List av):(ai ps).length<=ps.length+5/\(∀l∈ai ps,l.length<=ps.length/\∀y∈l,0<=y/\y<ps.length):=by
 obtain⟨h1,h2⟩:=qW ps;unfold ai Ev;refine⟨by simp;omega,fun l hl=>?_⟩;rcases zM.1 hl with hl|hl
 ·exact h2 l hl
 ·rw[List.mem_replicate]at hl;rw[hl.2];simp
theorem nY{ps:List av}{k:Nat}{q:av}(h:ps[k]?=some q):(ps.map db)[k]?=some (db q):=by simp[h]
theorem Co{ps:List av}{n:Nat}{d:List (List Int)}{c:List Int}{s:Int}(hl:ps.length=n)(h:gs (ps.map db) n=(d,c,s)):d++[c]=iW (ps.map db):=by unfold iW;rw[zJ,hl,h]
def nA(ns:List Int)(nx k:Nat):Int:=((ns.drop nx).take k).sum
def nf(ns:List Int)(nx:Nat)(pg:List Int)(k:Nat):Prop:=nx+k<=ns.length/\∀i y,i<k->pg[i]?=some y->y=((nx+i:Nat):Int)
def oW(ns:List Int)(nx:Nat)(pg:List Int):Prop:=nf ns nx pg pg.length/\nA ns nx pg.length<=30
def eh(ns:List Int):Nat->List (List Int)->Prop
 |nx,[]=>nx=ns.length
 |nx,pg::rest=>oW ns nx pg/\eh ns (nx+pg.length) rest
def Fd(code var:Int)(ps:List av)(pgs:List (List Int)):Prop :=
 fD code var ps=true/\pgs.length<=12/\pgs.length%4=0/\(∀l,pgs[0]?=some l->l=[])/\eh (ps.map db) 0 pgs
open Classical in
noncomputable def jH(code var:Int)(ps:List av)(pgs:List (List Int)):Bool:=decide (Fd code var ps pgs)
theorem qh{ps:List av}{pgs:List (List Int)}(h:Fd code var ps pgs):jH code var ps pgs=true:=by unfold jH;simp[h]
theorem dE{ps:List av}{pgs:List (List Int)}(h:¬Fd code var ps pgs):jH code var ps pgs=false:=by unfold jH;simp[h]
theorem J0{ps:List av}{pgs:List (List Int)}(h:jH code var ps pgs=true):Fd code var ps pgs:=by unfold jH at h;simpa using h
section
variable {ns:List Int} {nx k:Nat} {pg:List Int} {x y:Int}
theorem oN(ns:List Int)(nx:Nat):nA ns nx 0=0:=by simp[nA]
theorem lx(h:ns[nx+k]?=some x):nA ns nx (k+1)=nA ns nx k+x:=by
 unfold nA;have h':(ns.drop nx)[k]?=some x:=by rw[vR];exact h
 rw[ax h'];simp
theorem uy(hn:∀x∈ns,0<=x/\x<=30)(nx:Nat):∀k,0<=nA ns nx k/\nA ns nx k<=30*k:=by
 intro k;induction k with
 |zero=>simp[nA]
 |succ k ih =>
  cases h:ns[nx+k]? with
  |some x =>
   have:=hn x (zW h);rw[lx h];omega
  |none =>
   have e:nA ns nx (k+1)=nA ns nx k:=by
    unfold nA;have hl:(ns.drop nx).length<=k:=by rw[wD];have:=List.getElem?_eq_none_iff.1 h;omega
    rw[xV (by omega),xV hl]
   rw[e];omega
theorem rN(h:nx<=ns.length)(pg:List Int):nf ns nx pg 0:=⟨by omega,fun i y hi=>by omega⟩
theorem qK(h:nf ns nx pg k)(hy:pg[k]?=some y)(he:y=((nx+k:Nat):Int))(hlt:nx+k<ns.length):nf ns nx pg (k+1):=by
 refine⟨by omega,fun i z hi hz=>?_⟩;by_cases e:i=k
 ·subst e;rw[hy]at hz;rw[<-xF hz];exact he
 ·exact h.2 i z (by omega) hz
theorem D7(hy:pg[k]?=some y)(h:y≠((nx+k:Nat):Int)\/ns.length<=nx+k):¬oW ns nx pg:=by
 intro hc;have hk:=(zY.1 hy).1;rcases h with h|h
 ·exact h (hc.1.2 k y hk hy)
 ·have:=hc.1.1;omega
end
def kZ(code var:Int)(ps:List av)(pgs:List (List Int))(i nx:Nat):Prop:=(eh (ps.map db) 0 pgs↔eh (ps.map db) nx (pgs.drop i))
theorem kZ.start(code var:Int)(ps:List av)(pgs:List (List Int)):kZ code var ps pgs 0 0:=by unfold kZ;simp
section
variable {code var:Int} {ps:List av} {pgs:List (List Int)} {i nx:Nat} {pg:List Int}
theorem Do{α:Type}{l:List α}{i:Nat}{x:α}(h:l[i]?=some x):l.drop i=x::l.drop (i+1):=by obtain⟨hi,rfl⟩:=zY.1 h;exact vZ hi
theorem kZ.next(h:kZ code var ps pgs i nx)(hp:pgs[i]?=some pg)(hk:oW (ps.map db) nx pg):kZ code var ps pgs (i+1) (nx+pg.length):=by
 unfold kZ at *
 rw[h,Do hp];exact⟨fun a=>a.2,fun a=>⟨hk,a⟩⟩
theorem kZ.bad(h:kZ code var ps pgs i nx)(hp:pgs[i]?=some pg)(hk:¬oW (ps.map db) nx pg):¬Fd code var ps pgs:=by rintro⟨_,_,_,_,ho⟩;unfold kZ at h;rw[h,Do hp]at ho;exact hk ho.1
theorem kZ.fin(h:kZ code var ps pgs i nx)(hi:pgs.length=i):eh (ps.map db) 0 pgs↔nx=ps.length:=by unfold kZ at h;rw[h,uF (by omega)];simp[eh]
end
structure lY where
 part:Int
 opt:Int
def Ko:World->List Value->lY->Prop:=fun _ cs q=>cs=[.int .i64 q.part,.int .i64 q.opt]/\aU q.part/\aU q.opt
theorem Ko.stab(p:Nat):lV p Ko:=fun _ _ _ _ h _=>h
abbrev Lg (p:Nat):World->Value->List lY->Prop:=bj p 2 Ko
def KF(fs:List lY)(k:Nat):Prop:=k=0\/∀a b,fs[k]?=some a->fs[k-1]?=some b->a.part≠b.part
noncomputable instance (fs:List lY) (k:Nat):Decidable (KF fs k):=Classical.propDecidable _
theorem cZ{P:Program}(w:World){ops:Array Oper}{rest:List Oper}{o:Oper}{a:Act}{Q:Exit->Act->World->Prop}(hgd:o.guard=none)(s x:Operand)(t:TypeId)(ho:o.op=.call { callee:=.builtin .append,args:=#[s,x],argTypes:=#[t,t] })(base:Nat)(e:TypeId)(i:TypeInfo)(z:Value)(size bytes:Nat)(ht:P.underlying t=some (.slice e))(hi:P.info? e=some i)(hz:i.zero=some z)(hsize:i.size=size)(hby:i.bytes=bytes)(hzs:z.cells.size=size)(hsz:0<size)(v:Value)(n:Nat)(xs:List Value)(hs:a.eval s=v)(hown:w.ownsRow base e size v n xs)(g:Nat)(us:Array Value)(t':TypeId)(hx:a.eval x=.slice (some ⟨g,0,none⟩) 1 1)(hu:w.heap[g]?=some (.cells us t' (0,0)))(hul:us.size=size)(h1:∀u∈us.toList,u.oneCell'=true)(hn:n<=1000000)(hb:bytes<=1000)(hbase:base<=w.heap.size)(h:∀v' w',w'.ownsRow base e size v' (n+1) (xs++us.toList)->w.grownBy w' v.ownBlock->wpList P ops Q rest (a.put o.dst v') w'):wpList P ops Q (o::rest) a w:=by
 refine wpList_append_own w hgd s x t ho base e i z size bytes ht hi hz hsize hby hzs hsz v n xs hs hown ⟨g,0,none⟩ 1 1 us.toList hx (by simp[hul]) (World.news_of_block hu) h1 (by unfold maxLen;omega) ?_ hbase (fun v' w' h2 h3 _=>h v' w' h2 h3);have:(n+1)*bytes<=(n+1)*1000:=wB _ hb;omega
end Go.Proofs.YtkaajgoeahahpaaGreatDoor

