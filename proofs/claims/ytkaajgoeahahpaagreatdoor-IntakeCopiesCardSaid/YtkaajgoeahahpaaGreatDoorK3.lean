import Derived.Laws.StructEq
import Derived.Test.YtkaajgoeahahpaaGreatDoorK2
set_option linter.all false
set_option maxRecDepth 100000
set_option maxHeartbeats 0
namespace Go.Proofs.YtkaajgoeahahpaaGreatDoor
open Go.Value renaming int→A
open Go.IntKind renaming i64→B
open Go.RowKit _root_.Go.Proofs.Tryz
variable {base i j k:Nat} {w:World} {v:Value} {pg:List Int} {code var:Int}
theorem Tryz.infoF:(prog.info? 167).map (fun i=>(i.zero,i.size,i.bytes))=some (some (.agg #[A B 0,A B 0]),2,16):=by kernel_rfl
def lY.cs(q:lY):List Value:=[A B q.part,A B q.opt]
theorem Lg.of_own{p base e:Nat}{w:World}{v:Value}{fs:List lY}(h:w.ownsRow base e 2 v fs.length (fs.map lY.cs).flatten)(hp:p<base)(hb:∀q∈fs,aU q.part/\aU q.opt):Lg p w v fs:=by refine bj.of_own (e:=e) (fs.map lY.cs) (by simp[lY.cs]) (by decide) (by simp) h hp ?_;intro k cs x hcs hx;simp only[zP,yO]at hcs;obtain⟨q,hq,rfl⟩:=hcs;rw[hx]at hq;injection hq with hq;subst hq;exact⟨rfl,hb _ (zW hx)⟩
def kI(base:Nat)(w:World)(v:Value)(fs:List lY):Prop:=w.ownsRow base 167 2 v fs.length (fs.map lY.cs).flatten
theorem kI.nil(base:Nat)(w:World):kI base w (.slice none 0 0) []:=yZ _ _ _ _
theorem kI.own{fs:List lY}(h:kI base w v fs):w.ownsRow base 167 2 v fs.length (fs.map lY.cs).flatten:=h
theorem kI.isF{p:Nat}{fs:List lY}(h:kI base w v fs)(hp:p<base)(hb:∀q∈fs,aU q.part/\aU q.opt):Lg p w v fs:=Lg.of_own h hp hb
theorem kI.push{fs:List lY}{a b:Int}(h:w.ownsRow base 167 2 v (fs.length+1) ((fs.map lY.cs).flatten++[A B a,A B b])):kI base w v (fs++[⟨a,b⟩]):=by unfold kI;simpa[lY.cs] using h
def jA(ps:List av)(x:Int):List lY:=match ps[x.toNat]? with
 |some q=>if q.kind=2 then (List.range q.opts.toNat).map fun k:Nat=>⟨x,(k:Int)⟩ else []
 |none=>[]
def dO(ps:List av)(pg:List Int):List lY:=(pg.map (jA ps)).flatten
noncomputable def dr(code var:Int)(ps:List av)(pgs:List (List Int))(page:Int):List lY :=
 if jH code var ps pgs=true/\0<=page then (match pgs[page.toNat]? with|some pg=>dO ps pg|none=>[]) else []
theorem lI{ps:List av}{x:Int}(h:pg[k]?=some x):dO ps (pg.take (k+1))=dO ps (pg.take k)++jA ps x:=by unfold dO;rw[ax h];simp
theorem qZ{ps:List av}{q:av}(h:ps[j]?=some q)(hk:q.kind≠2):jA ps (j:Int)=[]:=by unfold jA;simp[h,hk]
theorem ot{ps:List av}{q:av}(h:ps[j]?=some q)(hk:q.kind=2):jA ps (j:Int)=(List.range q.opts.toNat).map fun k:Nat=>⟨(j:Int),(k:Int)⟩:=by unfold jA;simp[h,hk]
theorem rE(x:Int)(j:Nat):((List.range (j+1)).map fun k:Nat=>(⟨x,(k:Int)⟩:lY))=((List.range j).map fun k:Nat=>⟨x,(k:Int)⟩)++[⟨x,(j:Int)⟩]:=by rw[xP];simp
theorem Er{ps:List av}{x:Int}{q:lY}(h:q∈jA ps x):q.part=x/\∃r,ps[x.toNat]?=some r/\r.kind=2/\0<=q.opt/\q.opt<r.opts:=by
 unfold jA at h;split at h
 ·rename_i r hr
  split at h
  ·rename_i hk
   obtain⟨k,hk',rfl⟩:=zF.1 h;refine⟨rfl,r,hr,hk,by simp,?_⟩;have:=yX.1 hk';simp only;omega
  ·cases h
 ·cases h
theorem jL{ps:List av}{pgs:List (List Int)}(h:jH code var ps pgs=true)(hp:pgs[i]?=some pg) :
  pg.length<=24/\∀(k:Nat) (x:Int),pg[k]?=some x->∃(j:Nat) (q:av),x=j/\ps[j]?=some q/\j<24/\lm q=true:=by
 have hb:=J0 h;obtain⟨hv,_,_,_,hok⟩:=hb;have hps:=(mD hv).2.2.2.2.2.1;have hall:=(mD hv).2.2.2.2.2.2.1;have key:∀(l:List (List Int)) (nx i:Nat) (pg:List Int),eh (ps.map db) nx l->l[i]?=some pg->∃a,oW (ps.map db) a pg:=by
  intro l;induction l with
  |nil=>intro nx i pg _ h;simp at h
  |cons p l ih =>
   intro nx i pg ho h;cases i with
   |zero=>simp at h;subst h;exact⟨nx,ho.1⟩
   |succ i=>exact ih _ i pg ho.2 (by simpa using h)
 obtain⟨a,ha⟩:=key pgs 0 i pg hok hp;have h1:=ha.1.1;simp at h1;refine⟨by omega,fun k x hx=>?_⟩;have hk:=(zY.1 hx).1;have hxe:=ha.1.2 k x hk hx;have hlt:a+k<ps.length:=by omega
 exact⟨a+k,ps[a+k],hxe,zV hlt,by omega,xS.1 hall _ (xC hlt)⟩
theorem G4{ps:List av}{q:lY}(h:q∈dO ps pg):∃x∈pg,q∈jA ps x:=by unfold dO at h;obtain⟨l,hl,hq⟩:=List.mem_flatten.1 h;obtain⟨x,hx,rfl⟩:=zF.1 hl;exact⟨x,hx,hq⟩
theorem gn{ps:List av}{pgs:List (List Int)}(h:jH code var ps pgs=true)(hp:pgs[j]?=some pg):dr code var ps pgs (j:Int)=dO ps pg:=by unfold dr;rw[if_pos ⟨h,by omega⟩];simp[hp]
theorem jb{ps:List av}{pgs:List (List Int)}{page:Int}(h:¬(jH code var ps pgs=true/\0<=page/\page<pgs.length)):dr code var ps pgs page=[]:=by
 unfold dr;split
 ·rename_i hc
  have hnl:¬page<pgs.length:=fun hlt=>h ⟨hc.1,hc.2,hlt⟩;rw[zC (by omega)]
 ·rfl
theorem rO{ps:List av}{pgs:List (List Int)}(h:jH code var ps pgs=true)(hp:pgs[i]?=some pg):∀q∈dO ps pg,aU q.part/\aU q.opt:=by intro q hq;obtain⟨x,hx,hq⟩:=G4 hq;obtain⟨k,hk⟩:=zH hx;obtain⟨j,r,rfl,hj,hj24,hr⟩:=(jL h hp).2 k x hk;obtain⟨h1,r',hr',hk2,h2,h3⟩:=Er hq;simp at hr';rw[hj]at hr';injection hr' with hr';subst hr';have:=k8 hr;unfold aU;omega
def jV{α:Type}(lt:α->α->Bool)(x:α):List α->List α
 |[]=>[x]
 |y::l=>if lt y x then y::jV lt x l else x::y::l
def bE{α:Type}(lt:α->α->Bool)(l:List α):List α:=l.foldl (fun a x=>jV lt x a) []
def iT{α:Type}(lt:α->α->Bool)(l:List α):Prop:=l.Pairwise (fun a b=>lt a b=true)
structure xj {α:Type} (lt:α->α->Bool):Prop where
 irr:∀a,lt a a=false
 tr:∀a b c,lt a b=true->lt b c=true->lt a c=true
section
variable {α:Type} {lt:α->α->Bool} {l l':List α} {x y:α}
theorem xj.asym(h:xj lt){a b:α}(h1:lt a b=true):lt b a=false:=by
 cases h2:lt b a with
 |false=>rfl
 |true=>have:=h.tr a b a h1 h2;rw[h.irr]at this;exact this.symm
theorem jl(x:α):∀l:List α,(jV lt x l).Perm (x::l)
 |[]=>wN _
 |y::l=>by
  unfold jV;split
  ·exact ((jl x l).cons y).trans (List.Perm.swap x y l)
  ·exact wN _
theorem FT(x:α)(l:List α):(jV lt x l).length=l.length+1:=by rw[(jl x l).length_eq];rfl
theorem Gw{z:α}(h:z∈jV lt x l):z=x\/z∈l:=by have:=(jl x l).mem_iff.1 h;simpa using this
theorem yh(O:xj lt)(h:iT lt l)(hx:∀z∈l,lt z x=true\/lt x z=true):iT lt (jV lt x l):=by
 induction l with
 |nil=>exact wR _ _
 |cons y l ih =>
  have h1:=xK.1 h;unfold jV;split
  ·rename_i hy
   refine xK.2 ⟨fun z hz=>?_,ih h1.2 fun z hz=>hx z (by simp[hz])⟩;rcases Gw hz with rfl|hz
   ·exact hy
   ·exact h1.1 z hz
  ·rename_i hy
   have hxy:lt x y=true:=by
    rcases hx y (by simp) with h2|h2
    ·exact absurd h2 hy
    ·exact h2
   refine xK.2 ⟨fun z hz=>?_,h⟩;rcases yM.1 hz with rfl|hz
   ·exact hxy
   ·exact O.tr x y z hxy (h1.1 z hz)
theorem fY(l:List α)(x:α):bE lt (l++[x])=jV lt x (bE lt l):=by unfold bE;rw[uR];rfl
theorem ic{P:List α->Prop}(h0:P [])(h1:∀l x,P l->P (l++[x]))(l:List α):P l:=by
 have:∀k,k<=l.length->P (l.take k):=by
  intro k;induction k with
  |zero=>intro _;simpa using h0
  |succ k ih =>
   intro hk;rw[tZ (by omega)];exact h1 _ _ (ih (by omega))
 have:=this l.length (zX _);rwa [xV (zX _)]at this
theorem fX(l:List α):(bE lt l).Perm l:=by
 induction l using ic with
 |h0=>exact wN _
 |h1 l x ih=>rw[fY];exact (jl x _).trans ((ih.cons x).trans (List.perm_append_singleton x l).symm)
theorem sY(O:xj lt)(h:l.Pairwise fun a b=>lt a b=true\/lt b a=true):iT lt (bE lt l):=by
 induction l using ic with
 |h0=>exact xE
 |h1 l x ih =>
  rw[fY];rw[xJ]at h;refine yh O (ih h.1) fun z hz=>?_;exact h.2.2 z ((fX l).mem_iff.1 hz) x (by simp)
theorem Ad(O:xj lt)(h:iT lt l)(h':iT lt l')(hp:l.Perm l'):l=l':=by
 induction l generalizing l' with
 |nil=>exact hp.nil_eq
 |cons a l ih =>
  cases l' with
  |nil=>exact absurd hp.length_eq (by simp)
  |cons b l' =>
   have h1:=xK.1 h;have h2:=xK.1 h';have hab:a=b:=by
    have ha:a∈b::l':=hp.mem_iff.1 (by simp);have hb:b∈a::l:=hp.mem_iff.2 (by simp);rcases yM.1 ha with e|e
    ·exact e
    ·rcases yM.1 hb with e'|e'
     ·exact e'.symm
     ·have k1:=h2.1 a e;have k2:=h1.1 b e';rw[O.asym k2]at k1;cases k1
   subst hab;rw[ih h1.2 h2.2 ((List.perm_cons a).1 hp)]
theorem qz(O:xj lt)(h:iT lt l')(hp:l'.Perm l):bE lt l=l':=by refine Ad O (sY O ?_) h ((fX l).trans hp.symm);have:l'.Pairwise fun a b=>lt a b=true\/lt b a=true:=h.imp fun hab=>.inl hab;exact (hp.pairwise_iff (fun hab=>Or.comm.1 hab)).1 this
theorem iT.nodup(O:xj lt)(h:iT lt l):l.Nodup:=h.imp fun {a b} hab e=>by subst e;rw[O.irr]at hab;cases hab
theorem iT.at_(h:iT lt l)(hi:l[i]?=some x)(hj:l[j]?=some y)(hij:i<j):lt x y=true:=by obtain⟨h1,rfl⟩:=zY.1 hi;obtain⟨h2,rfl⟩:=zY.1 hj;exact xX.1 h i j h1 h2 hij
theorem iT.inj(O:xj lt)(h:iT lt l){i j:Nat}(hi:l[i]?=some x)(hj:l[j]?=some x):i=j:=by
 rcases xO i j with h1|h1|h1
 ·have:=h.at_ hi hj h1;rw[O.irr]at this;cases this
 ·exact h1
 ·have:=h.at_ hj hi h1;rw[O.irr]at this;cases this
theorem pA(O:xj lt)(h:∀(i:Nat) x y,l[i]?=some x->l[i+1]?=some y->lt x y=true):iT lt l:=by
 refine xX.2 fun i j hi hj hij=>?_;have:∀d,∀(hd:i+d+1<l.length),lt l[i] l[i+d+1]=true:=by
  intro d;induction d with
  |zero=>intro hd;exact h i _ _ (zV hi) (zV hd)
  |succ d ih =>
   intro hd;refine O.tr _ _ _ (ih (by omega)) (h (i+d+1) _ _ (zV (by omega)) (zV hd))
 obtain⟨d,rfl⟩:∃d,j=i+d+1:=⟨j-i-1,by omega⟩
 exact this d hj
theorem iT.sub(h:iT lt l)(hs:l'.Sublist l):iT lt l':=h.sublist hs
theorem iT.drop(h:iT lt l)(k:Nat):iT lt (l.drop k):=h.sub (List.drop_sublist k l)
theorem iT.take(h:iT lt l)(k:Nat):iT lt (l.take k):=h.sub (List.take_sublist k l)
theorem iT.snoc(h:iT lt l)(hx:∀z∈l,lt z x=true):iT lt (l++[x]):=by
 refine xJ.2 ⟨h,wR _ _,fun a ha b hb=>?_⟩;obtain rfl:b=x:=by simpa using hb
 exact hx a ha
theorem ja{f:α->Bool}(h:l[k]?=some x)(hx:f x=true)(hn:∀i y,i<k->l[i]?=some y->f y=false):l.find? f=some x:=by
 induction l generalizing k with
 |nil=>cases h
 |cons y l ih =>
  cases k with
  |zero=>simp at h;subst h;rw[List.find?_cons_of_pos hx]
  |succ k =>
   rw[List.find?_cons_of_neg (by rw[hn 0 y (by omega) rfl];simp)];exact ih (by simpa using h) (fun i z hi hz=>hn (i+1) z (by omega) (by simpa using hz))
theorem mP{f:α->Bool}(hn:∀(i:Nat) y,l[i]?=some y->f y=false):l.find? f=none:=by rw[List.find?_eq_none];intro y hy;obtain⟨i,hi⟩:=zH hy;rw[hn i y hi];simp
theorem G7{f:α->Bool}(h:l[k]?=some x)(hx:f x=true)(hu:∀(i:Nat) y,l[i]?=some y->f y=true->i=k):l.find? f=some x :=
 ja h hx fun i y hi hy=>by
  cases e:f y with
  |false=>rfl
  |true=>have:=hu i y hy e;omega
theorem IB(O:xj lt)(h:iT lt l)(h':iT lt l')(hm:∀z,z∈l↔z∈l'):l=l' :=
 Ad O h h' ((List.perm_ext_iff_of_nodup (h.nodup O) (h'.nodup O)).2 hm)
end
def Fp{α:Type}[DecidableEq α](lt:α->α->Bool)(x:α)(l:List α):List α:=if x∈l then l else jV lt x l
def CS{α:Type}[DecidableEq α](lt:α->α->Bool)(l:List α):List α:=l.foldl (fun a x=>Fp lt x a) []
section
variable {α:Type} [DecidableEq α] {lt:α->α->Bool} {l l':List α} {x y:α}
theorem FO{z:α}:z∈Fp lt x l↔z=x\/z∈l:=by
 unfold Fp;split
 ·rename_i h
  constructor
  ·exact .inr
  ·rintro (rfl|h');exact h;exact h'
 ·rw[(jl x l).mem_iff];simp
theorem oJ(l:List α)(x:α):CS lt (l++[x])=Fp lt x (CS lt l):=by unfold CS;rw[uR];rfl
theorem Cd{z:α}:z∈CS lt l↔z∈l:=by
 induction l using ic with
 |h0=>exact Iff.rfl
 |h1 l x ih=>rw[oJ,FO,ih];simp[or_comm]
theorem Gu(O:xj lt)(h:∀a∈l,∀b∈l,a≠b->lt a b=true\/lt b a=true):iT lt (CS lt l):=by
 induction l using ic with
 |h0=>exact xE
 |h1 l x ih =>
  rw[oJ];have ih':=ih fun a ha b hb=>h a (by simp[ha]) b (by simp[hb]);unfold Fp;split
  ·exact ih'
  ·rename_i hx
   exact yh O ih' fun z hz=>h z (by simp[Cd.1 hz]) x (by simp) (fun e=>hx (e▸hz))
end
structure cJ where
 p:Int
 c:Int
 g:Int
 v:Int
structure gT where
 s:Int
 q:Int
structure bN where
 t:Int
 s:Int
 q:Int
structure aj where
 st:bN
 kind:Int
 str:List UInt8
 cont:Int
 ch:List Int
 tgt:gT
 lab:cJ
structure dF where
 scan:gT
 state:Int
 lab:cJ
structure Pg where
 cand:Int
 page:Int
 cont:Int
 ch:List Int
 scan:gT
structure fv where
 cand:Int
 cen:Int
 var:Int
structure je where
 code:Int
 var:Int
 ps:List av
structure dl where
 num:Int
 pap:List je
 bk:List (List (List Int))
 xp:List fv
structure r6 where
 sts:List dF
 pgs:List Pg
theorem cJ.eq_iff(a b:cJ):a=b↔a.p=b.p/\a.c=b.c/\a.g=b.g/\a.v=b.v:=by
 constructor
 ·rintro rfl;exact⟨rfl,rfl,rfl,rfl⟩
 ·obtain⟨⟩:=a;obtain⟨⟩:=b;rintro⟨rfl,rfl,rfl,rfl⟩;rfl
instance:DecidableEq cJ:=fun a b=>decidable_of_iff _ (cJ.eq_iff a b).symm
theorem gT.eq_iff(a b:gT):a=b↔a.s=b.s/\a.q=b.q:=by
 constructor
 ·rintro rfl;exact⟨rfl,rfl⟩
 ·obtain⟨⟩:=a;obtain⟨⟩:=b;rintro⟨rfl,rfl⟩;rfl
instance:DecidableEq gT:=fun a b=>decidable_of_iff _ (gT.eq_iff a b).symm
theorem bN.eq_iff(a b:bN):a=b↔a.t=b.t/\a.s=b.s/\a.q=b.q:=by
 constructor
 ·rintro rfl;exact⟨rfl,rfl,rfl⟩
 ·obtain⟨⟩:=a;obtain⟨⟩:=b;rintro⟨rfl,rfl,rfl⟩;rfl
instance:DecidableEq bN:=fun a b=>decidable_of_iff _ (bN.eq_iff a b).symm
theorem aj.eq_iff(a b:aj):a=b↔a.st=b.st/\a.kind=b.kind/\a.str=b.str/\a.cont=b.cont/\a.ch=b.ch/\a.tgt=b.tgt/\a.lab=b.lab:=by
 constructor
 ·rintro rfl;exact⟨rfl,rfl,rfl,rfl,rfl,rfl,rfl⟩
 ·obtain⟨⟩:=a;obtain⟨⟩:=b;rintro⟨h1,h2,h3,h4,h5,h6,h7⟩;simp only at h1 h2 h3 h4 h5 h6 h7;subst h1;subst h2;subst h3;subst h4;subst h5;subst h6;subst h7;rfl
instance:DecidableEq aj:=fun a b=>decidable_of_iff _ (aj.eq_iff a b).symm
theorem dF.eq_iff(a b:dF):a=b↔a.scan=b.scan/\a.state=b.state/\a.lab=b.lab:=by
 constructor
 ·rintro rfl;exact⟨rfl,rfl,rfl⟩
 ·obtain⟨⟩:=a;obtain⟨⟩:=b;rintro⟨h1,h2,h3⟩;simp only at h1 h2 h3;subst h1;subst h2;subst h3;rfl
instance:DecidableEq dF:=fun a b=>decidable_of_iff _ (dF.eq_iff a b).symm
theorem Pg.eq_iff(a b:Pg):a=b↔a.cand=b.cand/\a.page=b.page/\a.cont=b.cont/\a.ch=b.ch/\a.scan=b.scan:=by
 constructor
 ·rintro rfl;exact⟨rfl,rfl,rfl,rfl,rfl⟩
 ·obtain⟨⟩:=a;obtain⟨⟩:=b;rintro⟨h1,h2,h3,h4,h5⟩;simp only at h1 h2 h3 h4 h5;subst h1;subst h2;subst h3;subst h4;subst h5;rfl
instance:DecidableEq Pg:=fun a b=>decidable_of_iff _ (Pg.eq_iff a b).symm
def cJ.zero:cJ:=⟨0,0,0,0⟩
def gT.zero:gT:=⟨0,0⟩
def cJ.cells(l:cJ):List Value:=[A B l.p,A B l.c,A B l.g,A B l.v]
def cJ.val(l:cJ):Value:=.agg #[A B l.p,A B l.c,A B l.g,A B l.v]
def cJ.wf(l:cJ):Prop:=aU l.p/\aU l.c/\aU l.g/\aU l.v
def gT.cells(l:gT):List Value:=[A B l.s,A B l.q]
def gT.wf(l:gT):Prop:=aU l.s/\aU l.q
def bN.cells(l:bN):List Value:=[A B l.t,A B l.s,A B l.q]
def bN.wf(l:bN):Prop:=aU l.t/\aU l.s/\aU l.q
def fv.cells(l:fv):List Value:=[A B l.cand,A B l.cen,A B l.var]
def fv.wf(l:fv):Prop:=aU l.cand/\aU l.cen/\aU l.var
def dF.cells(l:dF):List Value:=[A B l.scan.s,A B l.scan.q,A B l.state,A B l.lab.p,A B l.lab.c,A B l.lab.g,A B l.lab.v]
def dF.wf(l:dF):Prop:=l.scan.wf/\aU l.state/\l.lab.wf
def aj.id(c:aj):gT:=⟨c.st.s,c.st.q⟩
noncomputable def jK(s:dl)(i:Nat):Bool:=match s.pap[i]?,s.bk[i]? with
 |some q,some b=>fD q.code q.var q.ps&&(decide (q.code=s.num)&&(decide (q.var=(i:Int))&&jH q.code q.var q.ps b))
 |_,_=>false
def ud(n:Nat)(x:fv):Bool:=decide (0<=x.cand/\x.cand<=9999/\1<=x.cen/\x.cen<=99/\0<=x.var/\x.var<(n:Int))
def lW(l:List fv)(i:Nat):Bool:=match l[i]?,l[i+1]? with
 |some a,some b=>decide (a.cand<b.cand)
 |_,_=>true
noncomputable def aC(s:dl):Int :=
 if ¬(0<=s.num/\s.num<=31) then 2
 else if ¬(1<=s.pap.length/\s.pap.length<=4/\s.xp.length<=60) then 3
 else if s.bk.length≠s.pap.length then 1
 else if (List.range s.pap.length).all (jK s)=false then 1
 else if s.xp.all (ud s.pap.length)=false then 2
 else if (List.range (s.xp.length-1)).all (lW s.xp)=false then 5
 else 0
section
variable {s:dl}
theorem tk(h:¬(0<=s.num/\s.num<=31)):aC s=2:=by unfold aC;rw[if_pos h]
theorem te(h:0<=s.num/\s.num<=31)(h2:¬(1<=s.pap.length/\s.pap.length<=4/\s.xp.length<=60)):aC s=3:=by unfold aC;rw[if_neg (by simpa using h),if_pos h2]
theorem AV(h:0<=s.num/\s.num<=31)(h2:1<=s.pap.length/\s.pap.length<=4/\s.xp.length<=60)(h3:s.bk.length≠s.pap.length):aC s=1:=by unfold aC;rw[if_neg (by simpa using h),if_neg (by simpa using h2),if_pos h3]
theorem jn(h:0<=s.num/\s.num<=31)(h2:1<=s.pap.length/\s.pap.length<=4/\s.xp.length<=60)(h3:s.bk.length=s.pap.length)(h4:(List.range s.pap.length).all (jK s)=false):aC s=1:=by unfold aC;rw[if_neg (by simpa using h),if_neg (by simpa using h2),if_neg (by simpa using h3),if_pos h4]
theorem mF(h:0<=s.num/\s.num<=31)(h2:1<=s.pap.length/\s.pap.length<=4/\s.xp.length<=60)(h3:s.bk.length=s.pap.length)(h4:(List.range s.pap.length).all (jK s)=true) :
  aC s=if s.xp.all (ud s.pap.length)=false then 2 else if (List.range (s.xp.length-1)).all (lW s.xp)=false then 5 else 0:=by
 unfold aC;rw[if_neg (by simpa using h),if_neg (by simpa using h2),if_neg (by simpa using h3),if_neg (by simp[h4])]
structure dU (s:dl):Prop where
 num:0<=s.num/\s.num<=31
 len:1<=s.pap.length/\s.pap.length<=4/\s.xp.length<=60
 bks:s.bk.length=s.pap.length
 pap:∀i,i<s.pap.length->jK s i=true
 xps:∀x∈s.xp,ud s.pap.length x=true
 asc:∀i,i+1<s.xp.length->lW s.xp i=true
theorem iL:aC s=0↔dU s:=by
 constructor
 ·intro h;unfold aC at h;by_cases h1:0<=s.num/\s.num<=31;case neg=>rw[if_pos h1]at h;omega
  rw[if_neg (by simpa using h1)]at h;by_cases h2:1<=s.pap.length/\s.pap.length<=4/\s.xp.length<=60;case neg=>rw[if_pos h2]at h;omega
  rw[if_neg (by simpa using h2)]at h;by_cases h3:s.bk.length=s.pap.length;case neg=>rw[if_pos h3]at h;omega
  rw[if_neg (by simpa using h3)]at h;cases h4:(List.range s.pap.length).all (jK s) with
  |false=>rw[if_pos h4]at h;omega
  |true =>
   rw[if_neg (by simp[h4])]at h;cases h5:s.xp.all (ud s.pap.length) with
   |false=>rw[if_pos h5]at h;omega
   |true =>
    rw[if_neg (by simp[h5])]at h;cases h6:(List.range (s.xp.length-1)).all (lW s.xp) with
    |false=>rw[if_pos h6]at h;omega
    |true=>exact⟨h1,h2,h3,fun i hi=>xS.1 h4 i (yX.2 hi),fun x hx=>xS.1 h5 x hx,fun i hi=>xS.1 h6 i (yX.2 (by omega))⟩
 ·intro h;rw[mF h.num h.len h.bks (xS.2 fun i hi=>h.pap i (yX.1 hi)),if_neg,if_neg]
  ·rw[xS.2 fun i hi=>h.asc i (by have:=yX.1 hi;omega)];simp
  ·rw[xS.2 h.xps];simp
end
def dT(s:bN):Bool:=decide (0<=s.t/\s.t<=1000000/\0<=s.s/\s.s<=99/\0<=s.q/\s.q<=9999)
def gY(a b:bN):Bool:=decide (a.t<b.t\/(a.t=b.t/\(a.s<b.s\/(a.s=b.s/\a.q<b.q))))
def et(a b:gT):Bool:=decide (a.s<b.s\/(a.s=b.s/\a.q<b.q))
def rV(a b:aj):Bool:=gY a.st b.st
def qC(l:List aj)(c:aj):Bool:=dT c.st&&l.all fun d=>!(dT d.st&&decide (d.id=c.id))||decide (d=c)
theorem eu{l:List aj}{c:aj}:qC l c=true↔dT c.st=true/\∀d∈l,dT d.st=true->d.id=c.id->d=c:=by
 unfold qC;rw[yT,xS];constructor
 ·rintro⟨h1,h2⟩;refine⟨h1,fun d hd hv hi=>?_⟩;have:=h2 d hd;rw[hv,decide_eq_true hi]at this;simpa using this
 ·rintro⟨h1,h2⟩;refine⟨h1,fun d hd=>?_⟩;cases hv:dT d.st with
  |false=>rfl
  |true =>
   by_cases hi:d.id=c.id
   ·rw[decide_eq_true hi,decide_eq_true (h2 d hd hv hi)];rfl
   ·rw[decide_eq_false hi];rfl
def ay(l:List aj):List aj:=CS rV (l.filter (qC l))
theorem eF:xj gY:=⟨fun a=>by unfold gY;simp,fun a b c h1 h2=>by unfold gY at *;simp only[decide_eq_true_eq]at *;omega⟩
theorem qo:xj et:=⟨fun a=>by unfold et;simp,fun a b c h1 h2=>by unfold et at *;simp only[decide_eq_true_eq]at *;omega⟩
theorem qk:xj rV:=⟨fun a=>eF.irr a.st,fun a b c=>eF.tr a.st b.st c.st⟩
theorem Jo{a b:gT}(h:a≠b):et a b=true\/et b a=true:=by rw[Ne,gT.eq_iff]at h;unfold et;simp only[decide_eq_true_eq];omega
theorem uu{a b:bN}(h:a.s≠b.s\/a.q≠b.q):gY a b=true\/gY b a=true:=by unfold gY;simp only[decide_eq_true_eq];omega
theorem GK{l:List aj}{a b:aj}(ha:a∈l)(h1:qC l a=true)(hb:qC l b=true)(hi:a.id=b.id):a=b :=
 (eu.1 hb).2 a ha (eu.1 h1).1 hi
theorem gf{l:List aj}{c:aj}:c∈ay l↔c∈l/\qC l c=true:=by unfold ay;rw[Cd,xR]
theorem jE(l:List aj):iT rV (ay l):=by refine Gu qk fun a ha b hb hab=>?_;have h1:=xR.1 ha;have h2:=xR.1 hb;refine uu ?_;have:a.id≠b.id:=fun e=>hab (GK h1.1 h1.2 h2.2 e);rw[Ne,gT.eq_iff]at this;unfold aj.id at this;simp only at this;omega
theorem ir{l out:List aj}(h:iT rV out)(hm:∀c,c∈out↔c∈l/\qC l c=true):out=ay l :=
 IB qk h (jE l) fun c=>by rw[hm,gf]
theorem sD{l l':List aj}(h:∀c,c∈l↔c∈l'):ay l=ay l':=by refine ir (jE l) fun c=>?_;rw[gf,h];refine and_congr_right fun _=>?_;rw[eu,eu];exact and_congr_right fun _=>⟨fun k d hd=>k d ((h d).2 hd),fun k d hd=>k d ((h d).1 hd)⟩
theorem sN{l:List aj}:(ay l).Pairwise fun a b=>a.id≠b.id:=by refine (jE l).imp_of_mem fun {a b} ha hb hab e=>?_;have h1:=gf.1 ha;have h2:=gf.1 hb;have:=GK h1.1 h1.2 h2.2 e;subst this;rw[qk.irr]at hab;cases hab
end Go.Proofs.YtkaajgoeahahpaaGreatDoor

