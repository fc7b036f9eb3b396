import Derived.Test.YtjgfgdcaocbfhaaGreatH0
import Derived.Laws.StructEq
set_option linter.all false
set_option maxRecDepth 100000
set_option maxHeartbeats 0
namespace Go.Proofs.YtjgfgdcaocbfhaaGreat
open Go.RowKit
variable {base i j k:Nat} {code var x:Int} {w:World} {v:Value} {pg:List Int}
theorem Gp{l:List Int}(h:l[k]?=some x):l.getD k 0=x:=by simp[List.getD,h]
def gs(ns:List Int):Nat→List (List Int)×List Int×Int
 |0=>([[]],[],0)
 |k+1=>if 30<(gs ns k).2.2+ns.getD k 0 then ((gs ns k).1++[(gs ns k).2.1],[(k:Int)],ns.getD k 0) else ((gs ns k).1,(gs ns k).2.1++[(k:Int)],(gs ns k).2.2+ns.getD k 0)
def gR(ns:List Int):List (List Int):=(gs ns ns.length).1++[(gs ns ns.length).2.1]
def CN(ls:List (List Int)):List (List Int):=ls++List.replicate ((4-ls.length%4)%4) []
def af(ps:List ai):List (List Int):=CN (gR (ps.map cm))
section
variable {ns:List Int} {k:Nat} {d:List (List Int)} {c:List Int} {s x:Int}
theorem yz(h:gs ns k=(d,c,s))(hx:ns[k]?=some x)(hf:s+x≤30):gs ns (k+1)=(d,c++[(k:Int)],s+x):=by unfold gs;rw[h];simp only;rw[Gp hx,if_neg (by omega)]
theorem xi(h:gs ns k=(d,c,s))(hx:ns[k]?=some x)(hf:30<s+x):gs ns (k+1)=(d++[c],[(k:Int)],x):=by unfold gs;rw[h];simp only;rw[Gp hx,if_pos hf]
end
theorem GV(ns:List Int)(hn:∀x∈ns,0≤x∧x≤30):∀k,k≤ns.length→0≤(gs ns k).2.2∧(gs ns k).2.2≤30∧(gs ns k).1.length≤k+1∧(gs ns k).2.1.length≤k ∧
  (∀l∈(gs ns k).1,∀y∈l,0≤y∧y<k)∧(∀y∈(gs ns k).2.1,0≤y∧y<k)∧(∀l∈(gs ns k).1,l.length≤k)∧((gs ns k).2.1=[]→(gs ns k).2.2=0∧k=0):=by
 intro k;induction k with
 |zero=>intro _;simp[gs]
 |succ k ih =>
  intro hk;obtain⟨h1,h2,h3,h4,h5,h6,h7,h8⟩:=ih (by omega);have hkl:k<ns.length:=by omega
  have hx:ns[k]?=some ns[k]:=zW hkl;have hb:=hn _ (xX hkl);obtain⟨d,c,s,e⟩:∃d c s,gs ns k=(d,c,s):=⟨_,_,_,rfl⟩
  rw[e]at h1 h2 h3 h4 h5 h6 h7 h8;simp only at h1 h2 h3 h4 h5 h6 h7 h8;by_cases hf:s+ns[k]≤30
  ·rw[yz e hx hf];simp only;refine⟨by omega,by omega,by omega,by simp;omega,?_,?_,fun l hl=>by have:=h7 l hl;omega,fun h=>by simp at h⟩
   ·intro l hl y hy;have:=h5 l hl y hy;omega
   ·intro y hy;rcases zC.1 hy with hy|hy
    ·have:=h6 y hy;omega
    ·simp at hy;omega
  ·rw[xi e hx (by omega)];simp only;refine⟨by omega,by omega,by simp;omega,by simp,?_,?_,?_,fun h=>by simp at h⟩
   ·intro l hl y hy;rcases zC.1 hl with hl|hl
    ·have:=h5 l hl y hy;omega
    ·simp at hl;subst hl;have:=h6 y hy;omega
   ·intro y hy;simp at hy;omega
   ·intro l hl;rcases zC.1 hl with hl|hl
    ·have:=h7 l hl;omega
    ·simp at hl;subst hl;omega
theorem E0{ls:List (List Int)}(h:ls.length%4≠0):CN (ls++[[]])=CN ls:=by
 unfold CN;have e:(4-ls.length%4)%4=(4-(ls++[[]]).length%4)%4+1:=by simp;omega
 rw[e,xV,List.replicate_succ];rfl
theorem EW{ls:List (List Int)}(h:ls.length%4=0):CN ls=ls:=by unfold CN;simp[h]
theorem pO(ps:List ai):∀x∈ps.map cm,0≤x∧x≤30:=by intro x hx;obtain⟨q,_,rfl⟩:=zJ.1 hx;exact nD q
theorem pb(ps:List ai):(gR (ps.map cm)).length≤ps.length+2∧(∀l∈gR (ps.map cm),l.length≤ps.length∧∀y∈l,0≤y∧y<ps.length):=by
 have h:=GV (ps.map cm) (pO ps) (ps.map cm).length (zX _);obtain⟨_,_,h3,h4,h5,h6,h7,_⟩:=h;unfold gR;simp only[zM]at *;refine⟨by simp;omega,fun l hl=>?_⟩;rcases zC.1 hl with hl|hl
 ·exact⟨h7 l hl,h5 l hl⟩
 ·simp at hl;subst hl;exact⟨h4,h6⟩
theorem lh(ps:List ai):(af ps).length≤ps.length+5∧(∀l∈af ps,l.length≤ps.length∧∀y∈l,0≤y∧y<ps.length):=by
 obtain⟨h1,h2⟩:=pb ps;unfold af CN;refine⟨by simp;omega,fun l hl=>?_⟩;rcases zC.1 hl with hl|hl
 ·exact h2 l hl
 ·rw[List.mem_replicate]at hl;rw[hl.2];simp
theorem kY{ps:List ai}{q:ai}(h:ps[k]?=some q):(ps.map cm)[k]?=some (cm q):=by simp[h]
theorem vO{ps:List ai}{n:Nat}{d:List (List Int)}{c:List Int}{s:Int}(hl:ps.length=n)(h:gs (ps.map cm) n=(d,c,s)):d++[c]=gR (ps.map cm):=by unfold gR;rw[zM,hl,h]
def lA(ns:List Int)(nx k:Nat):Int:=((ns.drop nx).take k).sum
def kV(ns:List Int)(nx:Nat)(pg:List Int)(k:Nat):Prop:=nx+k≤ns.length∧∀i y,i<k→pg[i]?=some y→y=((nx+i:Nat):Int)
def kz(ns:List Int)(nx:Nat)(pg:List Int):Prop:=kV ns nx pg pg.length∧lA ns nx pg.length≤30
def cT(ns:List Int):Nat→List (List Int)→Prop
 |nx,[]=>nx=ns.length
 |nx,pg::rest=>kz ns nx pg∧cT ns (nx+pg.length) rest
def CU(code var:Int)(ps:List ai)(pgs:List (List Int)):Prop :=
 d9 code var ps=true∧pgs.length≤12∧pgs.length%4=0∧(∀l,pgs[0]?=some l→l=[])∧cT (ps.map cm) 0 pgs
open Classical in
noncomputable def eU(code var:Int)(ps:List ai)(pgs:List (List Int)):Bool:=decide (CU code var ps pgs)
theorem nt{ps:List ai}{pgs:List (List Int)}(h:CU code var ps pgs):eU code var ps pgs=true:=by unfold eU;simp[h]
theorem cN{ps:List ai}{pgs:List (List Int)}(h:¬CU code var ps pgs):eU code var ps pgs=false:=by unfold eU;simp[h]
theorem jg{ps:List ai}{pgs:List (List Int)}(h:eU code var ps pgs=true):CU code var ps pgs:=by unfold eU at h;simpa using h
section
variable {ns:List Int} {nx k:Nat} {pg:List Int} {x y:Int}
theorem mw(ns:List Int)(nx:Nat):lA ns nx 0=0:=by simp[lA]
theorem jL(h:ns[nx+k]?=some x):lA ns nx (k+1)=lA ns nx k+x:=by
 unfold lA;have h':(ns.drop nx)[k]?=some x:=by rw[xB];exact h
 rw[ag h'];simp
theorem nR(h:nx≤ns.length)(pg:List Int):kV ns nx pg 0:=⟨by omega,fun i y hi=>by omega⟩
theorem pn(h:kV ns nx pg k)(hy:pg[k]?=some y)(he:y=((nx+k:Nat):Int))(hlt:nx+k<ns.length):kV ns nx pg (k+1):=by
 refine⟨by omega,fun i z hi hz=>?_⟩;by_cases e:i=k
 ·subst e;rw[hy]at hz;rw[←xN hz];exact he
 ·exact h.2 i z (by omega) hz
theorem Aj(hy:pg[k]?=some y)(h:y≠((nx+k:Nat):Int)∨ns.length≤nx+k):¬kz ns nx pg:=by
 intro hc;have hk:=(zY.1 hy).1;rcases h with h|h
 ·exact h (hc.1.2 k y hk hy)
 ·have:=hc.1.1;omega
end
def jo(code var:Int)(ps:List ai)(pgs:List (List Int))(i nx:Nat):Prop:=(cT (ps.map cm) 0 pgs↔cT (ps.map cm) nx (pgs.drop i))
theorem jo.start(code var:Int)(ps:List ai)(pgs:List (List Int)):jo code var ps pgs 0 0:=by unfold jo;simp
section
variable {code var:Int} {ps:List ai} {pgs:List (List Int)} {i nx:Nat} {pg:List Int}
theorem Bm{α:Type}{l:List α}{x:α}(h:l[i]?=some x):l.drop i=x::l.drop (i+1):=by obtain⟨hi,rfl⟩:=zY.1 h;exact List.drop_eq_getElem_cons hi
theorem jo.next(h:jo code var ps pgs i nx)(hp:pgs[i]?=some pg)(hk:kz (ps.map cm) nx pg):jo code var ps pgs (i+1) (nx+pg.length):=by
 unfold jo at *
 rw[h,Bm hp];exact⟨fun a=>a.2,fun a=>⟨hk,a⟩⟩
theorem jo.bad(h:jo code var ps pgs i nx)(hp:pgs[i]?=some pg)(hk:¬kz (ps.map cm) nx pg):¬CU code var ps pgs:=by rintro⟨_,_,_,_,ho⟩;unfold jo at h;rw[h,Bm hp]at ho;exact hk ho.1
theorem jo.fin(h:jo code var ps pgs i nx)(hi:pgs.length=i):cT (ps.map cm) 0 pgs↔nx=ps.length:=by unfold jo at h;rw[h,List.drop_of_length_le (by omega)];simp[cT]
end
structure eh where
 part:Int
 opt:Int
def rB:World→List Value→eh→Prop:=fun _ cs q=>cs=[.int .i64 q.part,.int .i64 q.opt]∧aC q.part∧aC q.opt
theorem rB.stab(p:Nat):kc p rB:=fun _ _ _ _ h _=>h
abbrev GW (p:Nat):World→Value→List eh→Prop:=bg p 2 rB
theorem bg.fld{p:Nat}{b off n c:Nat}{fs:List eh}(h:GW p w (.slice (some ⟨b,off,none⟩) n c) fs)(hk:k<n) :
  ∃q:eh,w.cell? ⟨b,off+k*2,none⟩=some (.int .i64 q.part)∧w.cell? ⟨b,off+k*2+1,none⟩=some (.int .i64 q.opt)∧Hid (fs[k]?=some q)∧aC q.part∧aC q.opt:=by
 obtain⟨cs,q,hl,hc,⟨rfl,hw⟩,hx⟩:=h.cell_ hk;exact⟨q,hc 0 _ rfl,hc 1 _ rfl,hx,hw⟩
def fk(fs:List eh)(k:Nat):Prop:=k=0∨∀a b,fs[k]?=some a→fs[k-1]?=some b→a.part≠b.part
noncomputable instance (fs:List eh) (k:Nat):Decidable (fk fs k):=Classical.propDecidable _
noncomputable def dY(fs:List eh)(cs:List Int):Nat→List (List Int)
 |0=>[]
 |k+1=>if fk fs k then dY fs cs k++[[cs.getD k 0]]
   else (dY fs cs k).dropLast++[(dY fs cs k).getLastD []++[cs.getD k 0]]
theorem EH{fs:List eh}{cs:List Int}(h:fk fs k)(hx:cs[k]?=some x):dY fs cs (k+1)=dY fs cs k++[[x]]:=by rw[dY,if_pos h,yD,hx];rfl
theorem Fp{fs:List eh}{cs:List Int}{d:List (List Int)}{c:List Int}(h:¬fk fs k)(hx:cs[k]?=some x)(hd:dY fs cs k=d++[c]):dY fs cs (k+1)=d++[c++[x]]:=by rw[dY,if_neg h,yD,hx,hd];simp
theorem kE{fs:List eh}{cs:List Int}{a b:Nat}(hb:b≤cs.length)(h1:fk fs a)(hab:a<b)(h2:∀k,a<k→k<b→¬fk fs k):dY fs cs b=dY fs cs a++[(cs.take b).drop a]:=by
 obtain⟨m,rfl⟩:∃m,b=a+1+m:=⟨b-a-1,by omega⟩
 induction m with
 |zero =>
  rw[yP,EH h1 (zW (by omega))];congr 2
  rw[vY (by omega),List.drop_append_of_le_length (by simp;omega)];simp
 |succ m ih =>
  have e:=ih (by omega) (by omega) (fun k hk hk'=>h2 k hk (by omega));have:=Fp (h2 (a+1+m) (by omega) (by omega)) (zW (show a+1+m<cs.length by omega)) e;rw[show a+1+(m+1)=a+1+m+1 by omega,this];congr 2
  rw[vY (show a+1+m<cs.length by omega),List.drop_append_of_le_length (by simp;omega)]
theorem aH{P:Program}(w:World){ops:Array Oper}{rest:List Oper}{o:Oper}{a:Act}{Q:Exit→Act→World→Prop}(hgd:o.guard=none)(s x:Operand)(t:TypeId)(ho:o.op=.call { callee:=.builtin .append,args:=#[s,x],argTypes:=#[t,t] })(base:Nat)(e:TypeId)(i:TypeInfo)(z:Value)(size bytes:Nat)(ht:P.underlying t=some (.slice e))(hi:P.info? e=some i)(hz:i.zero=some z)(hsize:i.size=size)(hby:i.bytes=bytes)(hzs:z.cells.size=size)(hsz:0<size)(v:Value)(n:Nat)(xs:List Value)(hs:a.eval s=v)(hown:w.ownsRow base e size v n xs)(g:Nat)(us:Array Value)(t':TypeId)(hx:a.eval x=.slice (some ⟨g,0,none⟩) 1 1)(hu:w.heap[g]?=some (.cells us t' (0,0)))(hul:us.size=size)(h1:∀u∈us.toList,u.oneCell'=true)(hn:n≤1000000)(hb:bytes≤1000)(hbase:base≤w.heap.size)(h:∀v' w',w'.ownsRow base e size v' (n+1) (xs++us.toList)→w.grownBy w' v.ownBlock→wpList P ops Q rest (a.put o.dst v') w'):wpList P ops Q (o::rest) a w:=by
 refine wpList_append_own w hgd s x t ho base e i z size bytes ht hi hz hsize hby hzs hsz v n xs hs hown ⟨g,0,none⟩ 1 1 us.toList hx (by simp[hul]) (World.news_of_block hu) h1 (by unfold maxLen;omega) ?_ hbase (fun v' w' h2 h3 _=>h v' w' h2 h3);have:(n+1)*bytes≤(n+1)*1000:=wP _ hb;omega
open _root_.Go.Proofs.Tryz
theorem Tryz.infoF:(prog.info? 157).map (fun i=>(i.zero,i.size,i.bytes))=some (some (.agg #[.int .i64 0,.int .i64 0]),2,16):=by kernel_rfl
def eh.cs(q:eh):List Value:=[.int .i64 q.part,.int .i64 q.opt]
theorem GW.of_own{p base e:Nat}{w:World}{v:Value}{fs:List eh}(h:w.ownsRow base e 2 v fs.length (fs.map eh.cs).flatten)(hp:p<base)(hb:∀q∈fs,aC q.part∧aC q.opt):GW p w v fs:=by refine bg.of_own (e:=e) (fs.map eh.cs) (by simp[eh.cs]) (by decide) (by simp) h hp ?_;intro k cs x hcs hx;simp only[zL,yI]at hcs;obtain⟨q,hq,rfl⟩:=hcs;rw[hx]at hq;injection hq with hq;subst hq;exact⟨rfl,hb _ (zU hx)⟩
def jH(base:Nat)(w:World)(v:Value)(fs:List eh):Prop:=w.ownsRow base 157 2 v fs.length (fs.map eh.cs).flatten
theorem jH.nil(base:Nat)(w:World):jH base w (.slice none 0 0) []:=yW _ _ _ _
theorem jH.own{fs:List eh}(h:jH base w v fs):w.ownsRow base 157 2 v fs.length (fs.map eh.cs).flatten:=h
theorem jH.isF{p:Nat}{fs:List eh}(h:jH base w v fs)(hp:p<base)(hb:∀q∈fs,aC q.part∧aC q.opt):GW p w v fs:=GW.of_own h hp hb
theorem jH.push{fs:List eh}{a b:Int}(h:w.ownsRow base 157 2 v (fs.length+1) ((fs.map eh.cs).flatten++[.int .i64 a,.int .i64 b])):jH base w v (fs++[⟨a,b⟩]):=by unfold jH;simpa[eh.cs] using h
def gz(ps:List ai)(x:Int):List eh:=match ps[x.toNat]? with
 |some q=>if q.kind=2 then (List.range q.opts.toNat).map fun k:Nat=>⟨x,(k:Int)⟩ else []
 |none=>[]
def cW(ps:List ai)(pg:List Int):List eh:=(pg.map (gz ps)).flatten
noncomputable def aA(code var:Int)(ps:List ai)(pgs:List (List Int))(page:Int):List eh :=
 if eU code var ps pgs=true∧0≤page then (match pgs[page.toNat]? with|some pg=>cW ps pg|none=>[]) else []
theorem jP{ps:List ai}(h:pg[k]?=some x):cW ps (pg.take (k+1))=cW ps (pg.take k)++gz ps x:=by unfold cW;rw[ag h];simp
theorem qg{ps:List ai}{q:ai}(h:ps[j]?=some q)(hk:q.kind≠2):gz ps (j:Int)=[]:=by unfold gz;simp[h,hk]
theorem mg{ps:List ai}{q:ai}(h:ps[j]?=some q)(hk:q.kind=2):gz ps (j:Int)=(List.range q.opts.toNat).map fun k:Nat=>⟨(j:Int),(k:Int)⟩:=by unfold gz;simp[h,hk]
theorem pG(x:Int)(j:Nat):((List.range (j+1)).map fun k:Nat=>(⟨x,(k:Int)⟩:eh))=((List.range j).map fun k:Nat=>⟨x,(k:Int)⟩)++[⟨x,(j:Int)⟩]:=by rw[yC];simp
theorem qB{ps:List ai}{q:eh}(h:q∈gz ps x):q.part=x∧∃r,ps[x.toNat]?=some r∧r.kind=2∧0≤q.opt∧q.opt<r.opts:=by
 unfold gz at h;split at h
 ·rename_i r hr
  split at h
  ·rename_i hk
   obtain⟨k,hk',rfl⟩:=zJ.1 h;refine⟨rfl,r,hr,hk,by simp,?_⟩;have:=zB.1 hk';simp only;omega
  ·cases h
 ·cases h
theorem eA{ps:List ai}{pgs:List (List Int)}(h:eU code var ps pgs=true)(hp:pgs[i]?=some pg) :
  pg.length≤24∧∀(k:Nat) (x:Int),pg[k]?=some x→∃(j:Nat) (q:ai),x=j∧ps[j]?=some q∧j<24∧j4 q=true:=by
 have hb:=jg h;obtain⟨hv,_,_,_,hok⟩:=hb;have hps:=(iV hv).2.2.2.2.2.1;have hall:=(iV hv).2.2.2.2.2.2.1;have key:∀(l:List (List Int)) (nx i:Nat) (pg:List Int),cT (ps.map cm) nx l→l[i]?=some pg→∃a,kz (ps.map cm) a pg:=by
  intro l;induction l with
  |nil=>intro nx i pg _ h;simp at h
  |cons p l ih =>
   intro nx i pg ho h;cases i with
   |zero=>simp at h;subst h;exact⟨nx,ho.1⟩
   |succ i=>exact ih _ i pg ho.2 (by simpa using h)
 obtain⟨a,ha⟩:=key pgs 0 i pg hok hp;have h1:=ha.1.1;simp at h1;refine⟨by omega,fun k x hx=>?_⟩;have hk:=(zY.1 hx).1;have hxe:=ha.1.2 k x hk hx;have hlt:a+k<ps.length:=by omega
 exact⟨a+k,ps[a+k],hxe,zW hlt,by omega,yS.1 hall _ (xX hlt)⟩
theorem tO{ps:List ai}{q:eh}(h:q∈cW ps pg):∃x∈pg,q∈gz ps x:=by unfold cW at h;obtain⟨l,hl,hq⟩:=List.mem_flatten.1 h;obtain⟨x,hx,rfl⟩:=zJ.1 hl;exact⟨x,hx,hq⟩
theorem dE{ps:List ai}{pgs:List (List Int)}(h:eU code var ps pgs=true)(hp:pgs[j]?=some pg):aA code var ps pgs (j:Int)=cW ps pg:=by unfold aA;rw[if_pos ⟨h,by omega⟩];simp[hp]
theorem gK{ps:List ai}{pgs:List (List Int)}{page:Int}(h:¬(eU code var ps pgs=true∧0≤page∧page<pgs.length)):aA code var ps pgs page=[]:=by
 unfold aA;split
 ·rename_i hc
  have hnl:¬page<pgs.length:=fun hlt=>h ⟨hc.1,hc.2,hlt⟩;rw[yH (by omega)]
 ·rfl
theorem ot{ps:List ai}{pgs:List (List Int)}(h:eU code var ps pgs=true)(hp:pgs[i]?=some pg):∀q∈cW ps pg,aC q.part∧aC q.opt:=by intro q hq;obtain⟨x,hx,hq⟩:=tO hq;obtain⟨k,hk⟩:=yZ hx;obtain⟨j,r,rfl,hj,hj24,hr⟩:=(eA h hp).2 k x hk;obtain⟨h1,r',hr',hk2,h2,h3⟩:=qB hq;simp at hr';rw[hj]at hr';injection hr' with hr';subst hr';have:=je hr;unfold aC;omega
def gF{α:Type}(lt:α→α→Bool)(x:α):List α→List α
 |[]=>[x]
 |y::l=>if lt y x then y::gF lt x l else x::y::l
def bz{α:Type}(lt:α→α→Bool)(l:List α):List α:=l.foldl (fun a x=>gF lt x a) []
def fB{α:Type}(lt:α→α→Bool)(l:List α):Prop:=l.Pairwise (fun a b=>lt a b=true)
structure ue {α:Type} (lt:α→α→Bool):Prop where
 irr:∀a,lt a a=false
 tr:∀a b c,lt a b=true→lt b c=true→lt a c=true
section
variable {α:Type} {lt:α→α→Bool} {l l':List α} {x y:α}
theorem ue.asym(h:ue lt){a b:α}(h1:lt a b=true):lt b a=false:=by
 cases h2:lt b a with
 |false=>rfl
 |true=>have:=h.tr a b a h1 h2;rw[h.irr]at this;exact this.symm
theorem iz(x:α):∀l:List α,(gF lt x l).Perm (x::l)
 |[]=>List.Perm.refl _
 |y::l=>by
  unfold gF;split
  ·exact ((iz x l).cons y).trans (List.Perm.swap x y l)
  ·exact List.Perm.refl _
theorem pK(x:α)(l:List α):(gF lt x l).length=l.length+1:=by rw[(iz x l).length_eq];rfl
theorem oE{z:α}(h:z∈gF lt x l):z=x∨z∈l:=by have:=(iz x l).mem_iff.1 h;simpa using this
theorem DL(O:ue lt)(h:fB lt l)(hx:∀z∈l,lt z x=true∨lt x z=true):fB lt (gF lt x l):=by
 induction l with
 |nil=>exact List.pairwise_singleton _ _
 |cons y l ih =>
  have h1:=xZ.1 h;unfold gF;split
  ·rename_i hy
   refine xZ.2 ⟨fun z hz=>?_,ih h1.2 fun z hz=>hx z (by simp[hz])⟩;rcases oE hz with rfl|hz
   ·exact hy
   ·exact h1.1 z hz
  ·rename_i hy
   have hxy:lt x y=true:=by
    rcases hx y (by simp) with h2|h2
    ·exact absurd h2 hy
    ·exact h2
   refine xZ.2 ⟨fun z hz=>?_,h⟩;rcases yG.1 hz with rfl|hz
   ·exact hxy
   ·exact O.tr x y z hxy (h1.1 z hz)
theorem gn(l:List α)(x:α):bz lt (l++[x])=gF lt x (bz lt l):=by unfold bz;rw[List.foldl_append];rfl
theorem jN{P:List α→Prop}(h0:P [])(h1:∀l x,P l→P (l++[x]))(l:List α):P l:=by
 have:∀k,k≤l.length→P (l.take k):=by
  intro k;induction k with
  |zero=>intro _;simpa using h0
  |succ k ih =>
   intro hk;rw[vY (by omega)];exact h1 _ _ (ih (by omega))
 have:=this l.length (zX _);rwa [xM (zX _)]at this
theorem fg(l:List α):(bz lt l).Perm l:=by
 induction l using jN with
 |h0=>exact List.Perm.refl _
 |h1 l x ih=>rw[gn];exact (iz x _).trans ((ih.cons x).trans (List.perm_append_singleton x l).symm)
theorem Ei(O:ue lt)(h:fB lt l)(h':fB lt l')(hp:l.Perm l'):l=l':=by
 induction l generalizing l' with
 |nil=>exact hp.nil_eq
 |cons a l ih =>
  cases l' with
  |nil=>exact absurd hp.length_eq (by simp)
  |cons b l' =>
   have h1:=xZ.1 h;have h2:=xZ.1 h';have hab:a=b:=by
    have ha:a∈b::l':=hp.mem_iff.1 (by simp);have hb:b∈a::l:=hp.mem_iff.2 (by simp);rcases yG.1 ha with e|e
    ·exact e
    ·rcases yG.1 hb with e'|e'
     ·exact e'.symm
     ·have k1:=h2.1 a e;have k2:=h1.1 b e';rw[O.asym k2]at k1;cases k1
   subst hab;rw[ih h1.2 h2.2 ((List.perm_cons a).1 hp)]
theorem fB.nodup(O:ue lt)(h:fB lt l):l.Nodup:=h.imp fun {a b} hab e=>by subst e;rw[O.irr]at hab;cases hab
theorem fB.at_(h:fB lt l)(hi:l[i]?=some x)(hj:l[j]?=some y)(hij:i<j):lt x y=true:=by obtain⟨h1,rfl⟩:=zY.1 hi;obtain⟨h2,rfl⟩:=zY.1 hj;exact wN.1 h i j h1 h2 hij
theorem ju(O:ue lt)(h:∀(i:Nat) x y,l[i]?=some x→l[i+1]?=some y→lt x y=true):fB lt l:=by
 refine wN.2 fun i j hi hj hij=>?_;have:∀d,∀(hd:i+d+1<l.length),lt l[i] l[i+d+1]=true:=by
  intro d;induction d with
  |zero=>intro hd;exact h i _ _ (zW hi) (zW hd)
  |succ d ih =>
   intro hd;refine O.tr _ _ _ (ih (by omega)) (h (i+d+1) _ _ (zW (by omega)) (zW hd))
 obtain⟨d,rfl⟩:∃d,j=i+d+1:=⟨j-i-1,by omega⟩
 exact this d hj
theorem fB.sub(h:fB lt l)(hs:l'.Sublist l):fB lt l':=h.sublist hs
theorem fB.drop(h:fB lt l)(k:Nat):fB lt (l.drop k):=h.sub (List.drop_sublist k l)
theorem fB.take(h:fB lt l)(k:Nat):fB lt (l.take k):=h.sub (List.take_sublist k l)
theorem fB.snoc(h:fB lt l)(hx:∀z∈l,lt z x=true):fB lt (l++[x]):=by
 refine List.pairwise_append.2 ⟨h,List.pairwise_singleton _ _,fun a ha b hb=>?_⟩;obtain rfl:b=x:=by simpa using hb
 exact hx a ha
theorem jK(h1:∀i y,i<k→l[i]?=some y→lt y x=true)(h2:∀y,l[k]?=some y→lt y x=false)(hk:k≤l.length):gF lt x l=l.take k++[x]++l.drop k:=by
 induction l generalizing k with
 |nil =>
  obtain rfl:k=0:=by simpa using hk
  rfl
 |cons y l ih =>
  cases k with
  |zero =>
   unfold gF;rw[h2 y rfl];rfl
  |succ k =>
   unfold gF;rw[h1 0 y (by omega) rfl,if_pos rfl,ih (k:=k) (fun i z hi hz=>h1 (i+1) z (by omega) (by simpa using hz)) (fun z hz=>h2 z (by simpa using hz)) (by simpa using hk)];rfl
theorem iY{f:α→Bool}(h:l[k]?=some x)(hx:f x=true)(hn:∀i y,i<k→l[i]?=some y→f y=false):l.find? f=some x:=by
 induction l generalizing k with
 |nil=>cases h
 |cons y l ih =>
  cases k with
  |zero=>simp at h;subst h;rw[List.find?_cons_of_pos hx]
  |succ k =>
   rw[List.find?_cons_of_neg (by rw[hn 0 y (by omega) rfl];simp)];exact ih (by simpa using h) (fun i z hi hz=>hn (i+1) z (by omega) (by simpa using hz))
theorem lT{f:α→Bool}(hn:∀(i:Nat) y,l[i]?=some y→f y=false):l.find? f=none:=by rw[List.find?_eq_none];intro y hy;obtain⟨i,hi⟩:=yZ hy;rw[hn i y hi];simp
theorem AV(O:ue lt)(h:fB lt l)(h':fB lt l')(hm:∀z,z∈l↔z∈l'):l=l' :=
 Ei O h h' ((List.perm_ext_iff_of_nodup (h.nodup O) (h'.nodup O)).2 hm)
end
def rY{α:Type}[DecidableEq α](lt:α→α→Bool)(x:α)(l:List α):List α:=if x∈l then l else gF lt x l
def mF{α:Type}[DecidableEq α](lt:α→α→Bool)(l:List α):List α:=l.foldl (fun a x=>rY lt x a) []
section
variable {α:Type} [DecidableEq α] {lt:α→α→Bool} {l l':List α} {x y:α}
theorem DC{z:α}:z∈rY lt x l↔z=x∨z∈l:=by
 unfold rY;split
 ·rename_i h
  constructor
  ·exact .inr
  ·rintro (rfl|h');exact h;exact h'
 ·rw[(iz x l).mem_iff];simp
theorem jV(l:List α)(x:α):mF lt (l++[x])=rY lt x (mF lt l):=by unfold mF;rw[List.foldl_append];rfl
theorem lJ{z:α}:z∈mF lt l↔z∈l:=by
 induction l using jN with
 |h0=>exact Iff.rfl
 |h1 l x ih=>rw[jV,DC,ih];simp[or_comm]
theorem uh(O:ue lt)(h:∀a∈l,∀b∈l,a≠b→lt a b=true∨lt b a=true):fB lt (mF lt l):=by
 induction l using jN with
 |h0=>exact List.Pairwise.nil
 |h1 l x ih =>
  rw[jV];have ih':=ih fun a ha b hb=>h a (by simp[ha]) b (by simp[hb]);unfold rY;split
  ·exact ih'
  ·rename_i hx
   exact DL O ih' fun z hz=>h z (by simp[lJ.1 hz]) x (by simp) (fun e=>hx (e▸hz))
theorem Cf(O:ue lt)(h:fB lt l')(hm:∀z,z∈l'↔z∈l):mF lt l=l':=by
 refine AV O (uh O fun a ha b hb hab=>?_) h fun z=>by rw[lJ,hm]
 obtain⟨i,hi⟩:=yZ ((hm a).2 ha);obtain⟨j,hj⟩:=yZ ((hm b).2 hb);rcases xK i j with e|e|e
 ·exact .inl (h.at_ hi hj e)
 ·subst e;rw[hi]at hj;injection hj with hj;exact absurd hj hab
 ·exact .inr (h.at_ hj hi e)
end
structure cU where
 p:Int
 c:Int
 g:Int
 v:Int
structure jd where
 s:Int
 q:Int
structure eD where
 t:Int
 s:Int
 q:Int
structure aF where
 st:eD
 kind:Int
 str:List UInt8
 cont:Int
 ch:List Int
 tgt:jd
 lab:cU
structure aY where
 scan:jd
 state:Int
 lab:cU
structure Pg where
 cand:Int
 page:Int
 cont:Int
 ch:List Int
 scan:jd
structure dF where
 cand:Int
 cen:Int
 var:Int
structure gE where
 code:Int
 var:Int
 ps:List ai
structure aZ where
 num:Int
 pap:List gE
 bk:List (List (List Int))
 xp:List dF
structure en where
 sts:List aY
 pgs:List Pg
theorem cU.eq_iff(a b:cU):a=b↔a.p=b.p∧a.c=b.c∧a.g=b.g∧a.v=b.v:=by
 constructor
 ·rintro rfl;exact⟨rfl,rfl,rfl,rfl⟩
 ·obtain⟨⟩:=a;obtain⟨⟩:=b;rintro⟨rfl,rfl,rfl,rfl⟩;rfl
instance:DecidableEq cU:=fun a b=>decidable_of_iff _ (cU.eq_iff a b).symm
theorem jd.eq_iff(a b:jd):a=b↔a.s=b.s∧a.q=b.q:=by
 constructor
 ·rintro rfl;exact⟨rfl,rfl⟩
 ·obtain⟨⟩:=a;obtain⟨⟩:=b;rintro⟨rfl,rfl⟩;rfl
instance:DecidableEq jd:=fun a b=>decidable_of_iff _ (jd.eq_iff a b).symm
theorem eD.eq_iff(a b:eD):a=b↔a.t=b.t∧a.s=b.s∧a.q=b.q:=by
 constructor
 ·rintro rfl;exact⟨rfl,rfl,rfl⟩
 ·obtain⟨⟩:=a;obtain⟨⟩:=b;rintro⟨rfl,rfl,rfl⟩;rfl
instance:DecidableEq eD:=fun a b=>decidable_of_iff _ (eD.eq_iff a b).symm
theorem aF.eq_iff(a b:aF):a=b↔a.st=b.st∧a.kind=b.kind∧a.str=b.str∧a.cont=b.cont∧a.ch=b.ch∧a.tgt=b.tgt∧a.lab=b.lab:=by
 constructor
 ·rintro rfl;exact⟨rfl,rfl,rfl,rfl,rfl,rfl,rfl⟩
 ·obtain⟨⟩:=a;obtain⟨⟩:=b;rintro⟨h1,h2,h3,h4,h5,h6,h7⟩;simp only at h1 h2 h3 h4 h5 h6 h7;subst h1;subst h2;subst h3;subst h4;subst h5;subst h6;subst h7;rfl
instance:DecidableEq aF:=fun a b=>decidable_of_iff _ (aF.eq_iff a b).symm
theorem aY.eq_iff(a b:aY):a=b↔a.scan=b.scan∧a.state=b.state∧a.lab=b.lab:=by
 constructor
 ·rintro rfl;exact⟨rfl,rfl,rfl⟩
 ·obtain⟨⟩:=a;obtain⟨⟩:=b;rintro⟨h1,h2,h3⟩;simp only at h1 h2 h3;subst h1;subst h2;subst h3;rfl
instance:DecidableEq aY:=fun a b=>decidable_of_iff _ (aY.eq_iff a b).symm
theorem Pg.eq_iff(a b:Pg):a=b↔a.cand=b.cand∧a.page=b.page∧a.cont=b.cont∧a.ch=b.ch∧a.scan=b.scan:=by
 constructor
 ·rintro rfl;exact⟨rfl,rfl,rfl,rfl,rfl⟩
 ·obtain⟨⟩:=a;obtain⟨⟩:=b;rintro⟨h1,h2,h3,h4,h5⟩;simp only at h1 h2 h3 h4 h5;subst h1;subst h2;subst h3;subst h4;subst h5;rfl
instance:DecidableEq Pg:=fun a b=>decidable_of_iff _ (Pg.eq_iff a b).symm
def cU.zero:cU:=⟨0,0,0,0⟩
def cU.cells(l:cU):List Value:=[.int .i64 l.p,.int .i64 l.c,.int .i64 l.g,.int .i64 l.v]
def cU.val(l:cU):Value:=.agg #[.int .i64 l.p,.int .i64 l.c,.int .i64 l.g,.int .i64 l.v]
def cU.wf(l:cU):Prop:=aC l.p∧aC l.c∧aC l.g∧aC l.v
def jd.wf(l:jd):Prop:=aC l.s∧aC l.q
def eD.cells(l:eD):List Value:=[.int .i64 l.t,.int .i64 l.s,.int .i64 l.q]
def eD.wf(l:eD):Prop:=aC l.t∧aC l.s∧aC l.q
def dF.cells(l:dF):List Value:=[.int .i64 l.cand,.int .i64 l.cen,.int .i64 l.var]
def dF.wf(l:dF):Prop:=aC l.cand∧aC l.cen∧aC l.var
def aY.cells(l:aY):List Value:=[.int .i64 l.scan.s,.int .i64 l.scan.q,.int .i64 l.state,.int .i64 l.lab.p,.int .i64 l.lab.c,.int .i64 l.lab.g,.int .i64 l.lab.v]
def aY.wf(l:aY):Prop:=l.scan.wf∧aC l.state∧l.lab.wf
def aF.id(c:aF):jd:=⟨c.st.s,c.st.q⟩
noncomputable def iA(s:aZ)(i:Nat):Bool:=match s.pap[i]?,s.bk[i]? with
 |some q,some b=>d9 q.code q.var q.ps&&(decide (q.code=s.num)&&(decide (q.var=(i:Int))&&eU q.code q.var q.ps b))
 |_,_=>false
def sx(n:Nat)(x:dF):Bool:=decide (0≤x.cand∧x.cand≤9999∧1≤x.cen∧x.cen≤99∧0≤x.var∧x.var<(n:Int))
def j6(l:List dF)(i:Nat):Bool:=match l[i]?,l[i+1]? with
 |some a,some b=>decide (a.cand<b.cand)
 |_,_=>true
noncomputable def aw(s:aZ):Int :=
 if ¬(0≤s.num∧s.num≤31) then 2
 else if ¬(1≤s.pap.length∧s.pap.length≤4∧s.xp.length≤60) then 3
 else if s.bk.length≠s.pap.length then 1
 else if (List.range s.pap.length).all (iA s)=false then 1
 else if s.xp.all (sx s.pap.length)=false then 2
 else if (List.range (s.xp.length-1)).all (j6 s.xp)=false then 5
 else 0
section
variable {s:aZ}
theorem qE(h:¬(0≤s.num∧s.num≤31)):aw s=2:=by unfold aw;rw[if_pos h]
theorem ro(h:0≤s.num∧s.num≤31)(h2:¬(1≤s.pap.length∧s.pap.length≤4∧s.xp.length≤60)):aw s=3:=by unfold aw;rw[if_neg (by simpa using h),if_pos h2]
theorem tz(h:0≤s.num∧s.num≤31)(h2:1≤s.pap.length∧s.pap.length≤4∧s.xp.length≤60)(h3:s.bk.length≠s.pap.length):aw s=1:=by unfold aw;rw[if_neg (by simpa using h),if_neg (by simpa using h2),if_pos h3]
theorem ir(h:0≤s.num∧s.num≤31)(h2:1≤s.pap.length∧s.pap.length≤4∧s.xp.length≤60)(h3:s.bk.length=s.pap.length)(h4:(List.range s.pap.length).all (iA s)=false):aw s=1:=by unfold aw;rw[if_neg (by simpa using h),if_neg (by simpa using h2),if_neg (by simpa using h3),if_pos h4]
theorem kK(h:0≤s.num∧s.num≤31)(h2:1≤s.pap.length∧s.pap.length≤4∧s.xp.length≤60)(h3:s.bk.length=s.pap.length)(h4:(List.range s.pap.length).all (iA s)=true) :
  aw s=if s.xp.all (sx s.pap.length)=false then 2 else if (List.range (s.xp.length-1)).all (j6 s.xp)=false then 5 else 0:=by
 unfold aw;rw[if_neg (by simpa using h),if_neg (by simpa using h2),if_neg (by simpa using h3),if_neg (by simp[h4])]
structure cD (s:aZ):Prop where
 num:0≤s.num∧s.num≤31
 len:1≤s.pap.length∧s.pap.length≤4∧s.xp.length≤60
 bks:s.bk.length=s.pap.length
 pap:∀i,i<s.pap.length→iA s i=true
 xps:∀x∈s.xp,sx s.pap.length x=true
 asc:∀i,i+1<s.xp.length→j6 s.xp i=true
theorem eV:aw s=0↔cD s:=by
 constructor
 ·intro h;unfold aw at h;by_cases h1:0≤s.num∧s.num≤31;case neg=>rw[if_pos h1]at h;omega
  rw[if_neg (by simpa using h1)]at h;by_cases h2:1≤s.pap.length∧s.pap.length≤4∧s.xp.length≤60;case neg=>rw[if_pos h2]at h;omega
  rw[if_neg (by simpa using h2)]at h;by_cases h3:s.bk.length=s.pap.length;case neg=>rw[if_pos h3]at h;omega
  rw[if_neg (by simpa using h3)]at h;cases h4:(List.range s.pap.length).all (iA s) with
  |false=>rw[if_pos h4]at h;omega
  |true =>
   rw[if_neg (by simp[h4])]at h;cases h5:s.xp.all (sx s.pap.length) with
   |false=>rw[if_pos h5]at h;omega
   |true =>
    rw[if_neg (by simp[h5])]at h;cases h6:(List.range (s.xp.length-1)).all (j6 s.xp) with
    |false=>rw[if_pos h6]at h;omega
    |true=>exact⟨h1,h2,h3,fun i hi=>yS.1 h4 i (zB.2 hi),fun x hx=>yS.1 h5 x hx,fun i hi=>yS.1 h6 i (zB.2 (by omega))⟩
 ·intro h;rw[kK h.num h.len h.bks (yS.2 fun i hi=>h.pap i (zB.1 hi)),if_neg,if_neg]
  ·rw[yS.2 fun i hi=>h.asc i (by have:=zB.1 hi;omega)];simp
  ·rw[yS.2 h.xps];simp
end
def im(s:eD):Bool:=decide (0≤s.t∧s.t≤1000000∧0≤s.s∧s.s≤99∧0≤s.q∧s.q≤9999)
def iE(a b:eD):Bool:=decide (a.t<b.t∨(a.t=b.t∧(a.s<b.s∨(a.s=b.s∧a.q<b.q))))
def gY(a b:jd):Bool:=decide (a.s<b.s∨(a.s=b.s∧a.q<b.q))
def uZ(a b:aF):Bool:=iE a.st b.st
def qx(l:List aF)(c:aF):Bool:=im c.st&&l.all fun d=>!(im d.st&&decide (d.id=c.id))||decide (d=c)
theorem il{l:List aF}{c:aF}:qx l c=true↔im c.st=true∧∀d∈l,im d.st=true→d.id=c.id→d=c:=by
 unfold qx;rw[yY,yS];constructor
 ·rintro⟨h1,h2⟩;refine⟨h1,fun d hd hv hi=>?_⟩;have:=h2 d hd;rw[hv,decide_eq_true hi]at this;simpa using this
 ·rintro⟨h1,h2⟩;refine⟨h1,fun d hd=>?_⟩;cases hv:im d.st with
  |false=>rfl
  |true =>
   by_cases hi:d.id=c.id
   ·rw[decide_eq_true hi,decide_eq_true (h2 d hd hv hi)];rfl
   ·rw[decide_eq_false hi];rfl
def bR(l:List aF):List aF:=mF uZ (l.filter (qx l))
theorem jX:ue iE:=⟨fun a=>by unfold iE;simp,fun a b c h1 h2=>by unfold iE at *;simp only[decide_eq_true_eq]at *;omega⟩
theorem Ai:ue gY:=⟨fun a=>by unfold gY;simp,fun a b c h1 h2=>by unfold gY at *;simp only[decide_eq_true_eq]at *;omega⟩
theorem sz:ue uZ:=⟨fun a=>jX.irr a.st,fun a b c=>jX.tr a.st b.st c.st⟩
theorem AY{a b:eD}(h:a.s≠b.s∨a.q≠b.q):iE a b=true∨iE b a=true:=by unfold iE;simp only[decide_eq_true_eq];omega
theorem GM{l:List aF}{a b:aF}(ha:a∈l)(h1:qx l a=true)(hb:qx l b=true)(hi:a.id=b.id):a=b :=
 (il.1 hb).2 a ha (il.1 h1).1 hi
theorem l9{l:List aF}{c:aF}:c∈bR l↔c∈l∧qx l c=true:=by unfold bR;rw[lJ,xY]
theorem mf(l:List aF):fB uZ (bR l):=by refine uh sz fun a ha b hb hab=>?_;have h1:=xY.1 ha;have h2:=xY.1 hb;refine AY ?_;have:a.id≠b.id:=fun e=>hab (GM h1.1 h1.2 h2.2 e);rw[Ne,jd.eq_iff]at this;unfold aF.id at this;simp only at this;omega
theorem oZ{l out:List aF}(h:fB uZ out)(hm:∀c,c∈out↔c∈l∧qx l c=true):out=bR l :=
 AV sz h (mf l) fun c=>by rw[hm,l9]
end Go.Proofs.YtjgfgdcaocbfhaaGreat

