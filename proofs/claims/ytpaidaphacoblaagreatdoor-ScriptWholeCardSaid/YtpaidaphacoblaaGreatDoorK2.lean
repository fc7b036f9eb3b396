import Derived.Laws.StructEq
import Derived.Test.YtpaidaphacoblaaGreatDoorK1
set_option linter.all false
set_option maxRecDepth 100000
set_option maxHeartbeats 0
namespace Go.Proofs.YtpaidaphacoblaaGreatDoor
open Go.Value renaming int→A
open Go.IntKind renaming i64→B
open Go.RowKit
variable {w:World} {base i j k:Nat} {code var x:Int} {v:Value} {pg:List Int}
structure lY where
 part:Int
 opt:Int
def Ko:World->List Value->lY->Prop:=fun _ cs q=>cs=[A B q.part,A B q.opt]/\aU q.part/\aU q.opt
theorem Ko.stab(p:Nat):lV p Ko:=fun _ _ _ _ h _=>h
abbrev Lg (p:Nat):World->Value->List lY->Prop:=bj p 2 Ko
theorem bj.fld{p:Nat}{b off n c:Nat}{fs:List lY}(h:Lg p w (.slice (some ⟨b,off,none⟩) n c) fs)(hk:k<n) :
  ∃q:lY,w.cell? ⟨b,off+k*2,none⟩=some (A B q.part)/\w.cell? ⟨b,off+k*2+1,none⟩=some (A B q.opt)/\Hid (fs[k]?=some q)/\aU q.part/\aU q.opt:=by
 obtain⟨cs,q,hl,hc,⟨rfl,hw⟩,hx⟩:=h.cell_ hk;exact⟨q,hc 0 _ rfl,hc 1 _ rfl,hx,hw⟩
def KF(fs:List lY)(k:Nat):Prop:=k=0\/∀a b,fs[k]?=some a->fs[k-1]?=some b->a.part≠b.part
noncomputable instance (fs:List lY) (k:Nat):Decidable (KF fs k):=Classical.propDecidable _
noncomputable def j4(fs:List lY)(cs:List Int):Nat->List (List Int)
 |0=>[]
 |k+1=>if KF fs k then j4 fs cs k++[[cs.getD k 0]]
   else (j4 fs cs k).dropLast++[(j4 fs cs k).getLastD []++[cs.getD k 0]]
theorem PW{fs:List lY}{cs:List Int}(h:KF fs k)(hx:cs[k]?=some x):j4 fs cs (k+1)=j4 fs cs k++[[x]]:=by rw[j4,if_pos h,xU,hx];rfl
theorem Qr{fs:List lY}{cs:List Int}{d:List (List Int)}{c:List Int}(h:¬KF fs k)(hx:cs[k]?=some x)(hd:j4 fs cs k=d++[c]):j4 fs cs (k+1)=d++[c++[x]]:=by rw[j4,if_neg h,xU,hx,hd];simp
theorem MC{fs:List lY}{cs:List Int}{a b:Nat}(hb:b<=cs.length)(h1:KF fs a)(hab:a<b)(h2:∀k,a<k->k<b->¬KF fs k):j4 fs cs b=j4 fs cs a++[(cs.take b).drop a]:=by
 obtain⟨m,rfl⟩:∃m,b=a+1+m:=⟨b-a-1,by omega⟩
 induction m with
 |zero =>
  rw[yQ,PW h1 (zV (by omega))];congr 2
  rw[tZ (by omega),List.drop_append_of_le_length (by simp;omega)];simp
 |succ m ih =>
  have e:=ih (by omega) (by omega) (fun k hk hk'=>h2 k hk (by omega));have:=Qr (h2 (a+1+m) (by omega) (by omega)) (zV (show a+1+m<cs.length by omega)) e;rw[show a+1+(m+1)=a+1+m+1 by omega,this];congr 2
  rw[tZ (show a+1+m<cs.length by omega),List.drop_append_of_le_length (by simp;omega)]
theorem cZ{P:Program}(w:World){ops:Array Oper}{rest:List Oper}{o:Oper}{a:Act}{Q:Exit->Act->World->Prop}(hgd:o.guard=none)(s x:Operand)(t:TypeId)(ho:o.op=.call { callee:=.builtin .append,args:=#[s,x],argTypes:=#[t,t] })(base:Nat)(e:TypeId)(i:TypeInfo)(z:Value)(size bytes:Nat)(ht:P.underlying t=some (.slice e))(hi:P.info? e=some i)(hz:i.zero=some z)(hsize:i.size=size)(hby:i.bytes=bytes)(hzs:z.cells.size=size)(hsz:0<size)(v:Value)(n:Nat)(xs:List Value)(hs:a.eval s=v)(hown:w.ownsRow base e size v n xs)(g:Nat)(us:Array Value)(t':TypeId)(hx:a.eval x=.slice (some ⟨g,0,none⟩) 1 1)(hu:w.heap[g]?=some (.cells us t' (0,0)))(hul:us.size=size)(h1:∀u∈us.toList,u.oneCell'=true)(hn:n<=1000000)(hb:bytes<=1000)(hbase:base<=w.heap.size)(h:∀v' w',w'.ownsRow base e size v' (n+1) (xs++us.toList)->w.grownBy w' v.ownBlock->wpList P ops Q rest (a.put o.dst v') w'):wpList P ops Q (o::rest) a w:=by
 refine wpList_append_own w hgd s x t ho base e i z size bytes ht hi hz hsize hby hzs hsz v n xs hs hown ⟨g,0,none⟩ 1 1 us.toList hx (by simp[hul]) (World.news_of_block hu) h1 (by unfold maxLen;omega) ?_ hbase (fun v' w' h2 h3 _=>h v' w' h2 h3);have:(n+1)*bytes<=(n+1)*1000:=wB _ hb;omega
open _root_.Go.Proofs.Tryz
theorem Tryz.infoF:(prog.info? 135).map (fun i=>(i.zero,i.size,i.bytes))=some (some (.agg #[A B 0,A B 0]),2,16):=by kernel_rfl
def lY.cs(q:lY):List Value:=[A B q.part,A B q.opt]
theorem Lg.of_own{p base e:Nat}{w:World}{v:Value}{fs:List lY}(h:w.ownsRow base e 2 v fs.length (fs.map lY.cs).flatten)(hp:p<base)(hb:∀q∈fs,aU q.part/\aU q.opt):Lg p w v fs:=by refine bj.of_own (e:=e) (fs.map lY.cs) (by simp[lY.cs]) (by decide) (by simp) h hp ?_;intro k cs x hcs hx;simp only[zP,yO]at hcs;obtain⟨q,hq,rfl⟩:=hcs;rw[hx]at hq;injection hq with hq;subst hq;exact⟨rfl,hb _ (zW hx)⟩
def kI(base:Nat)(w:World)(v:Value)(fs:List lY):Prop:=w.ownsRow base 135 2 v fs.length (fs.map lY.cs).flatten
theorem kI.nil(base:Nat)(w:World):kI base w (.slice none 0 0) []:=yZ _ _ _ _
theorem kI.own{fs:List lY}(h:kI base w v fs):w.ownsRow base 135 2 v fs.length (fs.map lY.cs).flatten:=h
theorem kI.isF{p:Nat}{fs:List lY}(h:kI base w v fs)(hp:p<base)(hb:∀q∈fs,aU q.part/\aU q.opt):Lg p w v fs:=Lg.of_own h hp hb
theorem kI.push{fs:List lY}{a b:Int}(h:w.ownsRow base 135 2 v (fs.length+1) ((fs.map lY.cs).flatten++[A B a,A B b])):kI base w v (fs++[⟨a,b⟩]):=by unfold kI;simpa[lY.cs] using h
def jA(ps:List av)(x:Int):List lY:=match ps[x.toNat]? with
 |some q=>if q.kind=2 then (List.range q.opts.toNat).map fun k:Nat=>⟨x,(k:Int)⟩ else []
 |none=>[]
def dO(ps:List av)(pg:List Int):List lY:=(pg.map (jA ps)).flatten
noncomputable def dr(code var:Int)(ps:List av)(pgs:List (List Int))(page:Int):List lY :=
 if jH code var ps pgs=true/\0<=page then (match pgs[page.toNat]? with|some pg=>dO ps pg|none=>[]) else []
theorem lI{ps:List av}(h:pg[k]?=some x):dO ps (pg.take (k+1))=dO ps (pg.take k)++jA ps x:=by unfold dO;rw[ax h];simp
theorem qZ{ps:List av}{q:av}(h:ps[j]?=some q)(hk:q.kind≠2):jA ps (j:Int)=[]:=by unfold jA;simp[h,hk]
theorem ot{ps:List av}{q:av}(h:ps[j]?=some q)(hk:q.kind=2):jA ps (j:Int)=(List.range q.opts.toNat).map fun k:Nat=>⟨(j:Int),(k:Int)⟩:=by unfold jA;simp[h,hk]
theorem rE(x:Int)(j:Nat):((List.range (j+1)).map fun k:Nat=>(⟨x,(k:Int)⟩:lY))=((List.range j).map fun k:Nat=>⟨x,(k:Int)⟩)++[⟨x,(j:Int)⟩]:=by rw[xP];simp
theorem Er{ps:List av}{q:lY}(h:q∈jA ps x):q.part=x/\∃r,ps[x.toNat]?=some r/\r.kind=2/\0<=q.opt/\q.opt<r.opts:=by
 unfold jA at h;split at h
 ·rename_i r hr
  split at h
  ·rename_i hk
   obtain⟨k,hk',rfl⟩:=zF.1 h;refine⟨rfl,r,hr,hk,by simp,?_⟩;have:=yX.1 hk';simp only;omega
  ·cases h
 ·cases h
theorem jL{ps:List av}{pgs:List (List Int)}(h:jH code var ps pgs=true)(hp:pgs[i]?=some pg) :
  pg.length<=24/\∀(k:Nat) (x:Int),pg[k]?=some x->∃(j:Nat) (q:av),x=j/\ps[j]?=some q/\j<24/\lm q=true:=by
 have hb:=J0 h;obtain⟨hv,_,_,_,hok⟩:=hb;have hps:=(mD hv).2.2.2.2.2.1;have hall:=(mD hv).2.2.2.2.2.2.1;have key:∀(l:List (List Int)) (nx i:Nat) (pg:List Int),eh (ps.map db) nx l->l[i]?=some pg->∃a,oW (ps.map db) a pg:=by
  intro l;induction l with
  |nil=>intro nx i pg _ h;simp at h
  |cons p l ih =>
   intro nx i pg ho h;cases i with
   |zero=>simp at h;subst h;exact⟨nx,ho.1⟩
   |succ i=>exact ih _ i pg ho.2 (by simpa using h)
 obtain⟨a,ha⟩:=key pgs 0 i pg hok hp;have h1:=ha.1.1;simp at h1;refine⟨by omega,fun k x hx=>?_⟩;have hk:=(zY.1 hx).1;have hxe:=ha.1.2 k x hk hx;have hlt:a+k<ps.length:=by omega
 exact⟨a+k,ps[a+k],hxe,zV hlt,by omega,xS.1 hall _ (xC hlt)⟩
theorem G4{ps:List av}{q:lY}(h:q∈dO ps pg):∃x∈pg,q∈jA ps x:=by unfold dO at h;obtain⟨l,hl,hq⟩:=List.mem_flatten.1 h;obtain⟨x,hx,rfl⟩:=zF.1 hl;exact⟨x,hx,hq⟩
theorem gn{ps:List av}{pgs:List (List Int)}(h:jH code var ps pgs=true)(hp:pgs[j]?=some pg):dr code var ps pgs (j:Int)=dO ps pg:=by unfold dr;rw[if_pos ⟨h,by omega⟩];simp[hp]
theorem jb{ps:List av}{pgs:List (List Int)}{page:Int}(h:¬(jH code var ps pgs=true/\0<=page/\page<pgs.length)):dr code var ps pgs page=[]:=by
 unfold dr;split
 ·rename_i hc
  have hnl:¬page<pgs.length:=fun hlt=>h ⟨hc.1,hc.2,hlt⟩;rw[zC (by omega)]
 ·rfl
theorem rO{ps:List av}{pgs:List (List Int)}(h:jH code var ps pgs=true)(hp:pgs[i]?=some pg):∀q∈dO ps pg,aU q.part/\aU q.opt:=by intro q hq;obtain⟨x,hx,hq⟩:=G4 hq;obtain⟨k,hk⟩:=zH hx;obtain⟨j,r,rfl,hj,hj24,hr⟩:=(jL h hp).2 k x hk;obtain⟨h1,r',hr',hk2,h2,h3⟩:=Er hq;simp at hr';rw[hj]at hr';injection hr' with hr';subst hr';have:=k8 hr;unfold aU;omega
def jV{α:Type}(lt:α->α->Bool)(x:α):List α->List α
 |[]=>[x]
 |y::l=>if lt y x then y::jV lt x l else x::y::l
def bE{α:Type}(lt:α->α->Bool)(l:List α):List α:=l.foldl (fun a x=>jV lt x a) []
def iT{α:Type}(lt:α->α->Bool)(l:List α):Prop:=l.Pairwise (fun a b=>lt a b=true)
structure xj {α:Type} (lt:α->α->Bool):Prop where
 irr:∀a,lt a a=false
 tr:∀a b c,lt a b=true->lt b c=true->lt a c=true
section
variable {α:Type} {lt:α->α->Bool} {l l':List α} {x y:α}
theorem xj.asym(h:xj lt){a b:α}(h1:lt a b=true):lt b a=false:=by
 cases h2:lt b a with
 |false=>rfl
 |true=>have:=h.tr a b a h1 h2;rw[h.irr]at this;exact this.symm
theorem jl(x:α):∀l:List α,(jV lt x l).Perm (x::l)
 |[]=>wN _
 |y::l=>by
  unfold jV;split
  ·exact ((jl x l).cons y).trans (List.Perm.swap x y l)
  ·exact wN _
theorem FT(x:α)(l:List α):(jV lt x l).length=l.length+1:=by rw[(jl x l).length_eq];rfl
theorem Gw{z:α}(h:z∈jV lt x l):z=x\/z∈l:=by have:=(jl x l).mem_iff.1 h;simpa using this
theorem yh(O:xj lt)(h:iT lt l)(hx:∀z∈l,lt z x=true\/lt x z=true):iT lt (jV lt x l):=by
 induction l with
 |nil=>exact wR _ _
 |cons y l ih =>
  have h1:=xK.1 h;unfold jV;split
  ·rename_i hy
   refine xK.2 ⟨fun z hz=>?_,ih h1.2 fun z hz=>hx z (by simp[hz])⟩;rcases Gw hz with rfl|hz
   ·exact hy
   ·exact h1.1 z hz
  ·rename_i hy
   have hxy:lt x y=true:=by
    rcases hx y (by simp) with h2|h2
    ·exact absurd h2 hy
    ·exact h2
   refine xK.2 ⟨fun z hz=>?_,h⟩;rcases yM.1 hz with rfl|hz
   ·exact hxy
   ·exact O.tr x y z hxy (h1.1 z hz)
theorem fY(l:List α)(x:α):bE lt (l++[x])=jV lt x (bE lt l):=by unfold bE;rw[uR];rfl
theorem ic{P:List α->Prop}(h0:P [])(h1:∀l x,P l->P (l++[x]))(l:List α):P l:=by
 have:∀k,k<=l.length->P (l.take k):=by
  intro k;induction k with
  |zero=>intro _;simpa using h0
  |succ k ih =>
   intro hk;rw[tZ (by omega)];exact h1 _ _ (ih (by omega))
 have:=this l.length (zX _);rwa [xV (zX _)]at this
theorem fX(l:List α):(bE lt l).Perm l:=by
 induction l using ic with
 |h0=>exact wN _
 |h1 l x ih=>rw[fY];exact (jl x _).trans ((ih.cons x).trans (List.perm_append_singleton x l).symm)
theorem sY(O:xj lt)(h:l.Pairwise fun a b=>lt a b=true\/lt b a=true):iT lt (bE lt l):=by
 induction l using ic with
 |h0=>exact xE
 |h1 l x ih =>
  rw[fY];rw[xJ]at h;refine yh O (ih h.1) fun z hz=>?_;exact h.2.2 z ((fX l).mem_iff.1 hz) x (by simp)
theorem Ad(O:xj lt)(h:iT lt l)(h':iT lt l')(hp:l.Perm l'):l=l':=by
 induction l generalizing l' with
 |nil=>exact hp.nil_eq
 |cons a l ih =>
  cases l' with
  |nil=>exact absurd hp.length_eq (by simp)
  |cons b l' =>
   have h1:=xK.1 h;have h2:=xK.1 h';have hab:a=b:=by
    have ha:a∈b::l':=hp.mem_iff.1 (by simp);have hb:b∈a::l:=hp.mem_iff.2 (by simp);rcases yM.1 ha with e|e
    ·exact e
    ·rcases yM.1 hb with e'|e'
     ·exact e'.symm
     ·have k1:=h2.1 a e;have k2:=h1.1 b e';rw[O.asym k2]at k1;cases k1
   subst hab;rw[ih h1.2 h2.2 ((List.perm_cons a).1 hp)]
theorem qz(O:xj lt)(h:iT lt l')(hp:l'.Perm l):bE lt l=l':=by refine Ad O (sY O ?_) h ((fX l).trans hp.symm);have:l'.Pairwise fun a b=>lt a b=true\/lt b a=true:=h.imp fun hab=>.inl hab;exact (hp.pairwise_iff (fun hab=>Or.comm.1 hab)).1 this
theorem iT.nodup(O:xj lt)(h:iT lt l):l.Nodup:=h.imp fun {a b} hab e=>by subst e;rw[O.irr]at hab;cases hab
theorem iT.at_(h:iT lt l)(hi:l[i]?=some x)(hj:l[j]?=some y)(hij:i<j):lt x y=true:=by obtain⟨h1,rfl⟩:=zY.1 hi;obtain⟨h2,rfl⟩:=zY.1 hj;exact xX.1 h i j h1 h2 hij
theorem pA(O:xj lt)(h:∀(i:Nat) x y,l[i]?=some x->l[i+1]?=some y->lt x y=true):iT lt l:=by
 refine xX.2 fun i j hi hj hij=>?_;have:∀d,∀(hd:i+d+1<l.length),lt l[i] l[i+d+1]=true:=by
  intro d;induction d with
  |zero=>intro hd;exact h i _ _ (zV hi) (zV hd)
  |succ d ih =>
   intro hd;refine O.tr _ _ _ (ih (by omega)) (h (i+d+1) _ _ (zV (by omega)) (zV hd))
 obtain⟨d,rfl⟩:∃d,j=i+d+1:=⟨j-i-1,by omega⟩
 exact this d hj
theorem iT.sub(h:iT lt l)(hs:l'.Sublist l):iT lt l':=h.sublist hs
theorem iT.snoc(h:iT lt l)(hx:∀z∈l,lt z x=true):iT lt (l++[x]):=by
 refine xJ.2 ⟨h,wR _ _,fun a ha b hb=>?_⟩;obtain rfl:b=x:=by simpa using hb
 exact hx a ha
theorem ja{f:α->Bool}(h:l[k]?=some x)(hx:f x=true)(hn:∀i y,i<k->l[i]?=some y->f y=false):l.find? f=some x:=by
 induction l generalizing k with
 |nil=>cases h
 |cons y l ih =>
  cases k with
  |zero=>simp at h;subst h;rw[List.find?_cons_of_pos hx]
  |succ k =>
   rw[List.find?_cons_of_neg (by rw[hn 0 y (by omega) rfl];simp)];exact ih (by simpa using h) (fun i z hi hz=>hn (i+1) z (by omega) (by simpa using hz))
theorem mP{f:α->Bool}(hn:∀(i:Nat) y,l[i]?=some y->f y=false):l.find? f=none:=by rw[List.find?_eq_none];intro y hy;obtain⟨i,hi⟩:=zH hy;rw[hn i y hi];simp
theorem IB(O:xj lt)(h:iT lt l)(h':iT lt l')(hm:∀z,z∈l↔z∈l'):l=l' :=
 Ad O h h' ((List.perm_ext_iff_of_nodup (h.nodup O) (h'.nodup O)).2 hm)
end
def Fp{α:Type}[DecidableEq α](lt:α->α->Bool)(x:α)(l:List α):List α:=if x∈l then l else jV lt x l
def CS{α:Type}[DecidableEq α](lt:α->α->Bool)(l:List α):List α:=l.foldl (fun a x=>Fp lt x a) []
section
variable {α:Type} [DecidableEq α] {lt:α->α->Bool} {l l':List α} {x y:α}
theorem FO{z:α}:z∈Fp lt x l↔z=x\/z∈l:=by
 unfold Fp;split
 ·rename_i h
  constructor
  ·exact .inr
  ·rintro (rfl|h');exact h;exact h'
 ·rw[(jl x l).mem_iff];simp
theorem oJ(l:List α)(x:α):CS lt (l++[x])=Fp lt x (CS lt l):=by unfold CS;rw[uR];rfl
theorem Cd{z:α}:z∈CS lt l↔z∈l:=by
 induction l using ic with
 |h0=>exact Iff.rfl
 |h1 l x ih=>rw[oJ,FO,ih];simp[or_comm]
theorem Gu(O:xj lt)(h:∀a∈l,∀b∈l,a≠b->lt a b=true\/lt b a=true):iT lt (CS lt l):=by
 induction l using ic with
 |h0=>exact xE
 |h1 l x ih =>
  rw[oJ];have ih':=ih fun a ha b hb=>h a (by simp[ha]) b (by simp[hb]);unfold Fp;split
  ·exact ih'
  ·rename_i hx
   exact yh O ih' fun z hz=>h z (by simp[Cd.1 hz]) x (by simp) (fun e=>hx (e▸hz))
theorem OZ(O:xj lt)(h:iT lt l')(hm:∀z,z∈l'↔z∈l):CS lt l=l':=by
 refine IB O (Gu O fun a ha b hb hab=>?_) h fun z=>by rw[Cd,hm]
 obtain⟨i,hi⟩:=zH ((hm a).2 ha);obtain⟨j,hj⟩:=zH ((hm b).2 hb);rcases xO i j with e|e|e
 ·exact .inl (h.at_ hi hj e)
 ·subst e;rw[hi]at hj;injection hj with hj;exact absurd hj hab
 ·exact .inr (h.at_ hj hi e)
end
end Go.Proofs.YtpaidaphacoblaaGreatDoor

