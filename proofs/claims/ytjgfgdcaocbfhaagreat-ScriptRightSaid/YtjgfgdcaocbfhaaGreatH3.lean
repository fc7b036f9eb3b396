import Derived.Test.YtjgfgdcaocbfhaaGreatH2
import Derived.Lib.Strings
import Derived.Lib.IndexBytes
import Derived.Deep.RegionLaw
set_option linter.all false
set_option maxRecDepth 100000
set_option maxHeartbeats 0
namespace Go.Proofs.YtjgfgdcaocbfhaaGreat
open Go.Value renaming int→B,slice→D
open Go.IntKind renaming i64→C
open Go.RowKit
variable {b base e g k n p size:Nat} {w:World} {a:Addr} {u0 u1 u10 u2 u3 u4 u5 u6 u7 u8 u9 v:Value} {r xs:List Value} {cs:Array Value} {t:TypeId}
def gF{α:Type}(lt:α→α→Bool)(x:α):List α→List α
 |[]=>[x]
 |y::l=>if lt y x then y::gF lt x l else x::y::l
def bz{α:Type}(lt:α→α→Bool)(l:List α):List α:=l.foldl (fun a x=>gF lt x a) []
def fB{α:Type}(lt:α→α→Bool)(l:List α):Prop:=l.Pairwise (fun a b=>lt a b=true)
structure ue {α:Type} (lt:α→α→Bool):Prop where
 irr:∀a,lt a a=false
 tr:∀a b c,lt a b=true→lt b c=true→lt a c=true
section
variable {α:Type} {lt:α→α→Bool} {l l':List α} {x y:α}
theorem ue.asym(h:ue lt){a b:α}(h1:lt a b=true):lt b a=false:=by
 cases h2:lt b a with
 |false=>rfl
 |true=>have:=h.tr a b a h1 h2;rw[h.irr]at this;exact this.symm
theorem iz(x:α):∀l:List α,(gF lt x l).Perm (x::l)
 |[]=>List.Perm.refl _
 |y::l=>by
  unfold gF;split
  ·exact ((iz x l).cons y).trans (List.Perm.swap x y l)
  ·exact List.Perm.refl _
theorem pK(x:α)(l:List α):(gF lt x l).length=l.length+1:=by rw[(iz x l).length_eq];rfl
theorem oE{z:α}(h:z∈gF lt x l):z=x∨z∈l:=by have:=(iz x l).mem_iff.1 h;simpa using this
theorem DL(O:ue lt)(h:fB lt l)(hx:∀z∈l,lt z x=true∨lt x z=true):fB lt (gF lt x l):=by
 induction l with
 |nil=>exact List.pairwise_singleton _ _
 |cons y l ih =>
  have h1:=xZ.1 h;unfold gF;split
  ·rename_i hy
   refine xZ.2 ⟨fun z hz=>?_,ih h1.2 fun z hz=>hx z (by simp[hz])⟩;rcases oE hz with rfl|hz
   ·exact hy
   ·exact h1.1 z hz
  ·rename_i hy
   have hxy:lt x y=true:=by
    rcases hx y (by simp) with h2|h2
    ·exact absurd h2 hy
    ·exact h2
   refine xZ.2 ⟨fun z hz=>?_,h⟩;rcases yG.1 hz with rfl|hz
   ·exact hxy
   ·exact O.tr x y z hxy (h1.1 z hz)
theorem gn(l:List α)(x:α):bz lt (l++[x])=gF lt x (bz lt l):=by unfold bz;rw[List.foldl_append];rfl
theorem jN{P:List α→Prop}(h0:P [])(h1:∀l x,P l→P (l++[x]))(l:List α):P l:=by
 have:∀k,k≤l.length→P (l.take k):=by
  intro k;induction k with
  |zero=>intro _;simpa using h0
  |succ k ih =>
   intro hk;rw[vY (by omega)];exact h1 _ _ (ih (by omega))
 have:=this l.length (zX _);rwa [xM (zX _)]at this
theorem fg(l:List α):(bz lt l).Perm l:=by
 induction l using jN with
 |h0=>exact List.Perm.refl _
 |h1 l x ih=>rw[gn];exact (iz x _).trans ((ih.cons x).trans (List.perm_append_singleton x l).symm)
theorem Ei(O:ue lt)(h:fB lt l)(h':fB lt l')(hp:l.Perm l'):l=l':=by
 induction l generalizing l' with
 |nil=>exact hp.nil_eq
 |cons a l ih =>
  cases l' with
  |nil=>exact absurd hp.length_eq (by simp)
  |cons b l' =>
   have h1:=xZ.1 h;have h2:=xZ.1 h';have hab:a=b:=by
    have ha:a∈b::l':=hp.mem_iff.1 (by simp);have hb:b∈a::l:=hp.mem_iff.2 (by simp);rcases yG.1 ha with e|e
    ·exact e
    ·rcases yG.1 hb with e'|e'
     ·exact e'.symm
     ·have k1:=h2.1 a e;have k2:=h1.1 b e';rw[O.asym k2]at k1;cases k1
   subst hab;rw[ih h1.2 h2.2 ((List.perm_cons a).1 hp)]
theorem fB.nodup(O:ue lt)(h:fB lt l):l.Nodup:=h.imp fun {a b} hab e=>by subst e;rw[O.irr]at hab;cases hab
theorem fB.at_(h:fB lt l){i j:Nat}(hi:l[i]?=some x)(hj:l[j]?=some y)(hij:i<j):lt x y=true:=by obtain⟨h1,rfl⟩:=zY.1 hi;obtain⟨h2,rfl⟩:=zY.1 hj;exact wN.1 h i j h1 h2 hij
theorem ju(O:ue lt)(h:∀(i:Nat) x y,l[i]?=some x→l[i+1]?=some y→lt x y=true):fB lt l:=by
 refine wN.2 fun i j hi hj hij=>?_;have:∀d,∀(hd:i+d+1<l.length),lt l[i] l[i+d+1]=true:=by
  intro d;induction d with
  |zero=>intro hd;exact h i _ _ (zW hi) (zW hd)
  |succ d ih =>
   intro hd;refine O.tr _ _ _ (ih (by omega)) (h (i+d+1) _ _ (zW (by omega)) (zW hd))
 obtain⟨d,rfl⟩:∃d,j=i+d+1:=⟨j-i-1,by omega⟩
 exact this d hj
theorem fB.sub(h:fB lt l)(hs:l'.Sublist l):fB lt l':=h.sublist hs
theorem fB.drop(h:fB lt l)(k:Nat):fB lt (l.drop k):=h.sub (List.drop_sublist k l)
theorem fB.take(h:fB lt l)(k:Nat):fB lt (l.take k):=h.sub (List.take_sublist k l)
theorem fB.snoc(h:fB lt l)(hx:∀z∈l,lt z x=true):fB lt (l++[x]):=by
 refine List.pairwise_append.2 ⟨h,List.pairwise_singleton _ _,fun a ha b hb=>?_⟩;obtain rfl:b=x:=by simpa using hb
 exact hx a ha
theorem jK(h1:∀i y,i<k→l[i]?=some y→lt y x=true)(h2:∀y,l[k]?=some y→lt y x=false)(hk:k≤l.length):gF lt x l=l.take k++[x]++l.drop k:=by
 induction l generalizing k with
 |nil =>
  obtain rfl:k=0:=by simpa using hk
  rfl
 |cons y l ih =>
  cases k with
  |zero =>
   unfold gF;rw[h2 y rfl];rfl
  |succ k =>
   unfold gF;rw[h1 0 y (by omega) rfl,if_pos rfl,ih (k:=k) (fun i z hi hz=>h1 (i+1) z (by omega) (by simpa using hz)) (fun z hz=>h2 z (by simpa using hz)) (by simpa using hk)];rfl
theorem iY{f:α→Bool}(h:l[k]?=some x)(hx:f x=true)(hn:∀i y,i<k→l[i]?=some y→f y=false):l.find? f=some x:=by
 induction l generalizing k with
 |nil=>cases h
 |cons y l ih =>
  cases k with
  |zero=>simp at h;subst h;rw[List.find?_cons_of_pos hx]
  |succ k =>
   rw[List.find?_cons_of_neg (by rw[hn 0 y (by omega) rfl];simp)];exact ih (by simpa using h) (fun i z hi hz=>hn (i+1) z (by omega) (by simpa using hz))
theorem lT{f:α→Bool}(hn:∀(i:Nat) y,l[i]?=some y→f y=false):l.find? f=none:=by rw[List.find?_eq_none];intro y hy;obtain⟨i,hi⟩:=yZ hy;rw[hn i y hi];simp
theorem AV(O:ue lt)(h:fB lt l)(h':fB lt l')(hm:∀z,z∈l↔z∈l'):l=l' :=
 Ei O h h' ((List.perm_ext_iff_of_nodup (h.nodup O) (h'.nodup O)).2 hm)
end
def rY{α:Type}[DecidableEq α](lt:α→α→Bool)(x:α)(l:List α):List α:=if x∈l then l else gF lt x l
def mF{α:Type}[DecidableEq α](lt:α→α→Bool)(l:List α):List α:=l.foldl (fun a x=>rY lt x a) []
section
variable {α:Type} [DecidableEq α] {lt:α→α→Bool} {l l':List α} {x y:α}
theorem DC{z:α}:z∈rY lt x l↔z=x∨z∈l:=by
 unfold rY;split
 ·rename_i h
  constructor
  ·exact .inr
  ·rintro (rfl|h');exact h;exact h'
 ·rw[(iz x l).mem_iff];simp
theorem jV(l:List α)(x:α):mF lt (l++[x])=rY lt x (mF lt l):=by unfold mF;rw[List.foldl_append];rfl
theorem lJ{z:α}:z∈mF lt l↔z∈l:=by
 induction l using jN with
 |h0=>exact Iff.rfl
 |h1 l x ih=>rw[jV,DC,ih];simp[or_comm]
theorem uh(O:ue lt)(h:∀a∈l,∀b∈l,a≠b→lt a b=true∨lt b a=true):fB lt (mF lt l):=by
 induction l using jN with
 |h0=>exact List.Pairwise.nil
 |h1 l x ih =>
  rw[jV];have ih':=ih fun a ha b hb=>h a (by simp[ha]) b (by simp[hb]);unfold rY;split
  ·exact ih'
  ·rename_i hx
   exact DL O ih' fun z hz=>h z (by simp[lJ.1 hz]) x (by simp) (fun e=>hx (e▸hz))
theorem Cf(O:ue lt)(h:fB lt l')(hm:∀z,z∈l'↔z∈l):mF lt l=l':=by
 refine AV O (uh O fun a ha b hb hab=>?_) h fun z=>by rw[lJ,hm]
 obtain⟨i,hi⟩:=yZ ((hm a).2 ha);obtain⟨j,hj⟩:=yZ ((hm b).2 hb);rcases xK i j with e|e|e
 ·exact .inl (h.at_ hi hj e)
 ·subst e;rw[hi]at hj;injection hj with hj;exact absurd hj hab
 ·exact .inr (h.at_ hj hi e)
end
structure cU where
 p:Int
 c:Int
 g:Int
 v:Int
structure jd where
 s:Int
 q:Int
structure eD where
 t:Int
 s:Int
 q:Int
structure aF where
 st:eD
 kind:Int
 str:List UInt8
 cont:Int
 ch:List Int
 tgt:jd
 lab:cU
structure aY where
 scan:jd
 state:Int
 lab:cU
structure Pg where
 cand:Int
 page:Int
 cont:Int
 ch:List Int
 scan:jd
structure dF where
 cand:Int
 cen:Int
 var:Int
structure gE where
 code:Int
 var:Int
 ps:List ai
structure aZ where
 num:Int
 pap:List gE
 bk:List (List (List Int))
 xp:List dF
structure en where
 sts:List aY
 pgs:List Pg
theorem cU.eq_iff(a b:cU):a=b↔a.p=b.p∧a.c=b.c∧a.g=b.g∧a.v=b.v:=by
 constructor
 ·rintro rfl;exact⟨rfl,rfl,rfl,rfl⟩
 ·obtain⟨⟩:=a;obtain⟨⟩:=b;rintro⟨rfl,rfl,rfl,rfl⟩;rfl
instance:DecidableEq cU:=fun a b=>decidable_of_iff _ (cU.eq_iff a b).symm
theorem jd.eq_iff(a b:jd):a=b↔a.s=b.s∧a.q=b.q:=by
 constructor
 ·rintro rfl;exact⟨rfl,rfl⟩
 ·obtain⟨⟩:=a;obtain⟨⟩:=b;rintro⟨rfl,rfl⟩;rfl
instance:DecidableEq jd:=fun a b=>decidable_of_iff _ (jd.eq_iff a b).symm
theorem eD.eq_iff(a b:eD):a=b↔a.t=b.t∧a.s=b.s∧a.q=b.q:=by
 constructor
 ·rintro rfl;exact⟨rfl,rfl,rfl⟩
 ·obtain⟨⟩:=a;obtain⟨⟩:=b;rintro⟨rfl,rfl,rfl⟩;rfl
instance:DecidableEq eD:=fun a b=>decidable_of_iff _ (eD.eq_iff a b).symm
theorem aF.eq_iff(a b:aF):a=b↔a.st=b.st∧a.kind=b.kind∧a.str=b.str∧a.cont=b.cont∧a.ch=b.ch∧a.tgt=b.tgt∧a.lab=b.lab:=by
 constructor
 ·rintro rfl;exact⟨rfl,rfl,rfl,rfl,rfl,rfl,rfl⟩
 ·obtain⟨⟩:=a;obtain⟨⟩:=b;rintro⟨h1,h2,h3,h4,h5,h6,h7⟩;simp only at h1 h2 h3 h4 h5 h6 h7;subst h1;subst h2;subst h3;subst h4;subst h5;subst h6;subst h7;rfl
instance:DecidableEq aF:=fun a b=>decidable_of_iff _ (aF.eq_iff a b).symm
theorem aY.eq_iff(a b:aY):a=b↔a.scan=b.scan∧a.state=b.state∧a.lab=b.lab:=by
 constructor
 ·rintro rfl;exact⟨rfl,rfl,rfl⟩
 ·obtain⟨⟩:=a;obtain⟨⟩:=b;rintro⟨h1,h2,h3⟩;simp only at h1 h2 h3;subst h1;subst h2;subst h3;rfl
instance:DecidableEq aY:=fun a b=>decidable_of_iff _ (aY.eq_iff a b).symm
theorem Pg.eq_iff(a b:Pg):a=b↔a.cand=b.cand∧a.page=b.page∧a.cont=b.cont∧a.ch=b.ch∧a.scan=b.scan:=by
 constructor
 ·rintro rfl;exact⟨rfl,rfl,rfl,rfl,rfl⟩
 ·obtain⟨⟩:=a;obtain⟨⟩:=b;rintro⟨h1,h2,h3,h4,h5⟩;simp only at h1 h2 h3 h4 h5;subst h1;subst h2;subst h3;subst h4;subst h5;rfl
instance:DecidableEq Pg:=fun a b=>decidable_of_iff _ (Pg.eq_iff a b).symm
def cU.zero:cU:=⟨0,0,0,0⟩
def cU.cells(l:cU):List Value:=[B C l.p,B C l.c,B C l.g,B C l.v]
def cU.val(l:cU):Value:=.agg #[B C l.p,B C l.c,B C l.g,B C l.v]
def cU.wf(l:cU):Prop:=aC l.p∧aC l.c∧aC l.g∧aC l.v
def jd.wf(l:jd):Prop:=aC l.s∧aC l.q
def eD.cells(l:eD):List Value:=[B C l.t,B C l.s,B C l.q]
def eD.wf(l:eD):Prop:=aC l.t∧aC l.s∧aC l.q
def dF.cells(l:dF):List Value:=[B C l.cand,B C l.cen,B C l.var]
def dF.wf(l:dF):Prop:=aC l.cand∧aC l.cen∧aC l.var
def aY.cells(l:aY):List Value:=[B C l.scan.s,B C l.scan.q,B C l.state,B C l.lab.p,B C l.lab.c,B C l.lab.g,B C l.lab.v]
def aY.wf(l:aY):Prop:=l.scan.wf∧aC l.state∧l.lab.wf
def aF.id(c:aF):jd:=⟨c.st.s,c.st.q⟩
noncomputable def iA(s:aZ)(i:Nat):Bool:=match s.pap[i]?,s.bk[i]? with
 |some q,some b=>d9 q.code q.var q.ps&&(decide (q.code=s.num)&&(decide (q.var=(i:Int))&&eU q.code q.var q.ps b))
 |_,_=>false
def sx(n:Nat)(x:dF):Bool:=decide (0≤x.cand∧x.cand≤9999∧1≤x.cen∧x.cen≤99∧0≤x.var∧x.var<(n:Int))
def j6(l:List dF)(i:Nat):Bool:=match l[i]?,l[i+1]? with
 |some a,some b=>decide (a.cand<b.cand)
 |_,_=>true
noncomputable def aw(s:aZ):Int :=
 if ¬(0≤s.num∧s.num≤31) then 2
 else if ¬(1≤s.pap.length∧s.pap.length≤4∧s.xp.length≤60) then 3
 else if s.bk.length≠s.pap.length then 1
 else if (List.range s.pap.length).all (iA s)=false then 1
 else if s.xp.all (sx s.pap.length)=false then 2
 else if (List.range (s.xp.length-1)).all (j6 s.xp)=false then 5
 else 0
section
variable {s:aZ}
theorem qE(h:¬(0≤s.num∧s.num≤31)):aw s=2:=by unfold aw;rw[if_pos h]
theorem ro(h:0≤s.num∧s.num≤31)(h2:¬(1≤s.pap.length∧s.pap.length≤4∧s.xp.length≤60)):aw s=3:=by unfold aw;rw[if_neg (by simpa using h),if_pos h2]
theorem tz(h:0≤s.num∧s.num≤31)(h2:1≤s.pap.length∧s.pap.length≤4∧s.xp.length≤60)(h3:s.bk.length≠s.pap.length):aw s=1:=by unfold aw;rw[if_neg (by simpa using h),if_neg (by simpa using h2),if_pos h3]
theorem ir(h:0≤s.num∧s.num≤31)(h2:1≤s.pap.length∧s.pap.length≤4∧s.xp.length≤60)(h3:s.bk.length=s.pap.length)(h4:(List.range s.pap.length).all (iA s)=false):aw s=1:=by unfold aw;rw[if_neg (by simpa using h),if_neg (by simpa using h2),if_neg (by simpa using h3),if_pos h4]
theorem kK(h:0≤s.num∧s.num≤31)(h2:1≤s.pap.length∧s.pap.length≤4∧s.xp.length≤60)(h3:s.bk.length=s.pap.length)(h4:(List.range s.pap.length).all (iA s)=true) :
  aw s=if s.xp.all (sx s.pap.length)=false then 2 else if (List.range (s.xp.length-1)).all (j6 s.xp)=false then 5 else 0:=by
 unfold aw;rw[if_neg (by simpa using h),if_neg (by simpa using h2),if_neg (by simpa using h3),if_neg (by simp[h4])]
structure cD (s:aZ):Prop where
 num:0≤s.num∧s.num≤31
 len:1≤s.pap.length∧s.pap.length≤4∧s.xp.length≤60
 bks:s.bk.length=s.pap.length
 pap:∀i,i<s.pap.length→iA s i=true
 xps:∀x∈s.xp,sx s.pap.length x=true
 asc:∀i,i+1<s.xp.length→j6 s.xp i=true
theorem eV:aw s=0↔cD s:=by
 constructor
 ·intro h;unfold aw at h;by_cases h1:0≤s.num∧s.num≤31;case neg=>rw[if_pos h1]at h;omega
  rw[if_neg (by simpa using h1)]at h;by_cases h2:1≤s.pap.length∧s.pap.length≤4∧s.xp.length≤60;case neg=>rw[if_pos h2]at h;omega
  rw[if_neg (by simpa using h2)]at h;by_cases h3:s.bk.length=s.pap.length;case neg=>rw[if_pos h3]at h;omega
  rw[if_neg (by simpa using h3)]at h;cases h4:(List.range s.pap.length).all (iA s) with
  |false=>rw[if_pos h4]at h;omega
  |true =>
   rw[if_neg (by simp[h4])]at h;cases h5:s.xp.all (sx s.pap.length) with
   |false=>rw[if_pos h5]at h;omega
   |true =>
    rw[if_neg (by simp[h5])]at h;cases h6:(List.range (s.xp.length-1)).all (j6 s.xp) with
    |false=>rw[if_pos h6]at h;omega
    |true=>exact⟨h1,h2,h3,fun i hi=>yS.1 h4 i (zB.2 hi),fun x hx=>yS.1 h5 x hx,fun i hi=>yS.1 h6 i (zB.2 (by omega))⟩
 ·intro h;rw[kK h.num h.len h.bks (yS.2 fun i hi=>h.pap i (zB.1 hi)),if_neg,if_neg]
  ·rw[yS.2 fun i hi=>h.asc i (by have:=zB.1 hi;omega)];simp
  ·rw[yS.2 h.xps];simp
end
def im(s:eD):Bool:=decide (0≤s.t∧s.t≤1000000∧0≤s.s∧s.s≤99∧0≤s.q∧s.q≤9999)
def iE(a b:eD):Bool:=decide (a.t<b.t∨(a.t=b.t∧(a.s<b.s∨(a.s=b.s∧a.q<b.q))))
def gY(a b:jd):Bool:=decide (a.s<b.s∨(a.s=b.s∧a.q<b.q))
def uZ(a b:aF):Bool:=iE a.st b.st
def qx(l:List aF)(c:aF):Bool:=im c.st&&l.all fun d=>!(im d.st&&decide (d.id=c.id))||decide (d=c)
theorem il{l:List aF}{c:aF}:qx l c=true↔im c.st=true∧∀d∈l,im d.st=true→d.id=c.id→d=c:=by
 unfold qx;rw[yY,yS];constructor
 ·rintro⟨h1,h2⟩;refine⟨h1,fun d hd hv hi=>?_⟩;have:=h2 d hd;rw[hv,decide_eq_true hi]at this;simpa using this
 ·rintro⟨h1,h2⟩;refine⟨h1,fun d hd=>?_⟩;cases hv:im d.st with
  |false=>rfl
  |true =>
   by_cases hi:d.id=c.id
   ·rw[decide_eq_true hi,decide_eq_true (h2 d hd hv hi)];rfl
   ·rw[decide_eq_false hi];rfl
def bR(l:List aF):List aF:=mF uZ (l.filter (qx l))
theorem jX:ue iE:=⟨fun a=>by unfold iE;simp,fun a b c h1 h2=>by unfold iE at *;simp only[decide_eq_true_eq]at *;omega⟩
theorem Ai:ue gY:=⟨fun a=>by unfold gY;simp,fun a b c h1 h2=>by unfold gY at *;simp only[decide_eq_true_eq]at *;omega⟩
theorem sz:ue uZ:=⟨fun a=>jX.irr a.st,fun a b c=>jX.tr a.st b.st c.st⟩
theorem AY{a b:eD}(h:a.s≠b.s∨a.q≠b.q):iE a b=true∨iE b a=true:=by unfold iE;simp only[decide_eq_true_eq];omega
theorem GM{l:List aF}{a b:aF}(ha:a∈l)(h1:qx l a=true)(hb:qx l b=true)(hi:a.id=b.id):a=b :=
 (il.1 hb).2 a ha (il.1 h1).1 hi
theorem l9{l:List aF}{c:aF}:c∈bR l↔c∈l∧qx l c=true:=by unfold bR;rw[lJ,xY]
theorem mf(l:List aF):fB uZ (bR l):=by refine uh sz fun a ha b hb hab=>?_;have h1:=xY.1 ha;have h2:=xY.1 hb;refine AY ?_;have:a.id≠b.id:=fun e=>hab (GM h1.1 h1.2 h2.2 e);rw[Ne,jd.eq_iff]at this;unfold aF.id at this;simp only at this;omega
theorem oZ{l out:List aF}(h:fB uZ out)(hm:∀c,c∈out↔c∈l∧qx l c=true):out=bR l :=
 AV sz h (mf l) fun c=>by rw[hm,l9]
def bl(s:ByteArray):List UInt8:=s.data.toList
theorem aU(s:ByteArray):(bl s).length=s.size:=(Lib.size_eq s).symm
theorem Hp(l:List UInt8):bl ⟨l.toArray⟩=l:=by simp[bl]
theorem mc(a b:ByteArray):bl (a++b)=bl a++bl b:=by simp[bl,ByteArray.data_append]
theorem EC(s:ByteArray)(a b:Nat):bl (s.extract a b)=((bl s).drop a).take (b-a):=Lib.extract_data s a b
theorem lu(s:ByteArray)(a:Nat):bl (s.extract a s.size)=(bl s).drop a:=Lib.extract_to_end s a
theorem uv(s:ByteArray)(b:Nat):bl (s.extract 0 b)=(bl s).take b:=by rw[EC];simp
theorem qK{s:ByteArray}(h:k<s.size):(bl s)[k]?=some s[k]:=Lib.data_getElem? s k h
theorem Hs{x:UInt8}(hn:n<256):(((x.toNat:Nat):Int)!=(n:Int))=!(x==UInt8.ofNat n):=by
 by_cases h:x=UInt8.ofNat n
 ·subst h;have e:(UInt8.ofNat n).toNat=n:=by rw[UInt8.toNat_ofNat'];exact Nat.mod_eq_of_lt hn
  rw[e];simp
 ·have h1:x.toNat≠n:=fun e=>h (by rw[←e,UInt8.ofNat_toNat]);have h2:(x==UInt8.ofNat n)=false:=by simpa using h
  rw[h2,bne_iff_ne.2 (by omega)];rfl
theorem If{x:UInt8}(hn:n<256):(((x.toNat:Nat):Int)==(n:Int))=(x==UInt8.ofNat n):=by have:=Hs (x:=x) hn;rw[bne,Bool.not_eq_eq_eq_not,Bool.not_not]at this;exact this
open _root_.Go.Proofs.Tryz
def cK(w:World)(b:Nat)(q:ai):Prop:=w.heap[b]?=some (.cells #[B C q.kind,B C q.max,B C q.topic,B C q.obj,B C q.opts,B C q.key] 86 (0,0))
theorem cK.cells{q:ai}(h:cK w b q) :
  w.cell? ⟨b,0,none⟩=some (B C q.kind)∧w.cell? ⟨b,1,none⟩=some (B C q.max)∧w.cell? ⟨b,2,none⟩=some (B C q.topic)∧w.cell? ⟨b,3,none⟩=some (B C q.obj)∧w.cell? ⟨b,4,none⟩=some (B C q.opts)∧w.cell? ⟨b,5,none⟩=some (B C q.key) :=
 ⟨ak h (i:=0) rfl,ak h (i:=1) rfl,ak h (i:=2) rfl,ak h (i:=3) rfl,ak h (i:=4) rfl,ak h (i:=5) rfl⟩
theorem cK.froz{q:ai}(h:cK w b q)(i:Nat):w.frozen? ⟨b,i,none⟩=false:=ax h i
theorem cK.lt{q:ai}(h:cK w b q):b<w.heap.size:=by
 rcases zV b w.heap.size with hlt|hge
 ·exact hlt
 ·unfold cK at h;rw[yM hge]at h;cases h
theorem cK.xt{w':World}{q:ai}(h:cK w b q)(hx:XT p w w')(hb:b≠p):cK w' b q:=hx.blk h hb
theorem cK.ext{w':World}{q:ai}(h:cK w b q)(hx:ab w w'):cK w' b q:=hx.blk h
theorem cK.far{q:ai}(h:cK w b q)(ha:b≠a.block)(u:Value):cK (w.setCell a u) b q :=
 (xE _ _ _ _ ha).trans h
theorem cK.set0{q:ai}(h:cK w b q)(x:Int):cK (w.setCell ⟨b,0,none⟩ (B C x)) b { q with kind:=x }:=by unfold cK at *;rw[dS h];rfl
theorem cK.set1{q:ai}(h:cK w b q)(x:Int):cK (w.setCell ⟨b,1,none⟩ (B C x)) b { q with max:=x }:=by unfold cK at *;rw[dS h];rfl
theorem cK.set2{q:ai}(h:cK w b q)(x:Int):cK (w.setCell ⟨b,2,none⟩ (B C x)) b { q with topic:=x }:=by unfold cK at *;rw[dS h];rfl
theorem cK.set3{q:ai}(h:cK w b q)(x:Int):cK (w.setCell ⟨b,3,none⟩ (B C x)) b { q with obj:=x }:=by unfold cK at *;rw[dS h];rfl
theorem cK.set4{q:ai}(h:cK w b q)(x:Int):cK (w.setCell ⟨b,4,none⟩ (B C x)) b { q with opts:=x }:=by unfold cK at *;rw[dS h];rfl
theorem cK.set5{q:ai}(h:cK w b q)(x:Int):cK (w.setCell ⟨b,5,none⟩ (B C x)) b { q with key:=x }:=by unfold cK at *;rw[dS h];rfl
def Iq(n:Int)(v:Value):Prop:=∃q:ai,v=.agg #[B C q.kind,B C q.max,B C q.topic,B C q.obj,B C q.opts,B C q.key]∧q.wf∧(n=0→j4 q=true∧q.max≤12)
theorem EE(p:Nat)(n:Int)(w:World)(h:bt w p)(hn:0≤n)(hn':n≤1000000000) :
  Calls prog 85 #[.pointer (some ⟨p,0,none⟩),B C n] w (fX p w fun v _=>Iq n v):=by
 have hlt:=h.lt;have HT0:=zZ (h.ext ((zE _).alloc (.cells #[B C 0,B C 0,B C 0,B C 0,B C 0,B C 0] 86)));have HB0:Hid (cK (w.alloc (.cells #[B C 0,B C 0,B C 0,B C 0,B C 0,B C 0] 86)) w.heap.size ⟨0,0,0,0,0,0⟩):=heap_alloc_new w _;clear h;go_enter func85,ntmps85
 go_wp2_with fail;refine (am p _ _ _ HT0.out (by omega) (by omega) (by omega) (by omega)).mono ?_;rintro e w1 ⟨v1,rfl,⟨m,rfl,hm1,hm2⟩,HT1,HX1⟩;go_wp2_with fail;refine (au p _ _ HT1 (by omega)).mono ?_;rintro e w2 ⟨v2,rfl,⟨t,rfl,ht1,ht2⟩,HT2,HX2⟩;go_wp2_with fail;refine (au p _ _ HT2 (by omega)).mono ?_;rintro e w3 ⟨v3,rfl,⟨o,rfl,ho1,ho2⟩,HT3,HX3⟩;have HX:=zZ ((HX1.trans HX2).trans HX3);have HB3:=zZ (HB0.out.xt HX.out (by omega));have hs3:=HB3.out.lt;have HT3':=zZ HT3;have HQ:Hid (cK (w3.alloc (.cells #[B C 1,B C m,B C t,B C o,B C 0,B C 0] 86)) w3.heap.size ⟨1,m,t,o,0,0⟩):=heap_alloc_new w3 _;have HE:Hid (ab w3 (w3.alloc (.cells #[B C 1,B C m,B C t,B C o,B C 0,B C 0] 86))):=(zE _).alloc _;have HXA:Hid (XT p w w3):=((XT.refl _ _).alloc _).trans HX.out;clear HT1 HT2 HT3 HX1 HX2 HX3 HT0 HB0 HX;go_upto_region 2 with (fail)
 replace HB3:=zZ (HB3.out.ext HE.out);replace HT3':=zZ (HT3'.out.ext HE.out);replace HXA:=zZ (HXA.out.ext HE.out);generalize hW:w3.alloc (.cells #[B C 1,B C m,B C t,B C o,B C 0,B C 0] 86)=W at *
 clear hW HE;go_wp2_with fail;refine (au p _ _ HT3'.out (by omega)).mono ?_;rintro e w4 ⟨v4,rfl,⟨k,rfl,hk1,hk2⟩,HT4,HX4⟩;replace HX4:=zZ HX4;replace HT4:=zZ HT4;replace HB3:=zZ ((HB3.out.xt HX4.out (by omega)));replace HQ:=zZ ((HQ.out.xt HX4.out (by omega)));replace HXA:=zZ (HXA.out.trans HX4.out);clear HX4 HT3';go_upto_if 15 with (fail)
 go_cut [] (fun wx=>∃q:ai,Hid (cK wx w3.heap.size q∧(j4 q=true∧q.max≤12)∧cK wx w.heap.size ⟨0,0,0,0,0,0⟩∧bt wx p∧XT p w wx))
 case first =>
  by_cases hk:k=0
  ·subst hk;go_wp2_with fail;refine (am p _ _ _ HT4.out (by omega) (by omega) (by omega) (by omega)).mono ?_;rintro e w5 ⟨v5,rfl,⟨y,rfl,hy1,hy2⟩,HT5,HX5⟩;replace HX5:=zZ HX5;replace HT5:=zZ HT5;replace HB3:=zZ ((HB3.out.xt HX5.out (by omega)));replace HQ:=zZ ((HQ.out.xt HX5.out (by omega)));replace HXA:=zZ (HXA.out.trans HX5.out);obtain⟨c0,c1,c2,c3,c4,c5⟩:=HQ.out.cells;have f0:=HQ.out.froz 0;have f4:=HQ.out.froz 4;have g0:Hid (cK ((w5.setCell ⟨w3.heap.size,0,none⟩ (B C 2)).setCell ⟨w3.heap.size,4,none⟩ (B C y)) w3.heap.size ⟨2,m,t,o,y,0⟩):=(HQ.out.set0 2).set4 y;have hb3:Hid (cK ((w5.setCell ⟨w3.heap.size,0,none⟩ (B C 2)).setCell ⟨w3.heap.size,4,none⟩ (B C y)) w.heap.size ⟨0,0,0,0,0,0⟩):=(HB3.out.far (by simp;omega) _).far (by simp;omega) _;have ht:Hid (bt ((w5.setCell ⟨w3.heap.size,0,none⟩ (B C 2)).setCell ⟨w3.heap.size,4,none⟩ (B C y)) p):=(HT5.out.setNew (by simp;omega) _).setNew (by simp;omega) _;have hxa:Hid (XT p w ((w5.setCell ⟨w3.heap.size,0,none⟩ (B C 2)).setCell ⟨w3.heap.size,4,none⟩ (B C y))):=(HXA.out.setNew (by simp;omega) _).setNew (by simp;omega) _;go_wp2_with fail;generalize hW:(w5.setCell ⟨w3.heap.size,0,none⟩ (B C 2)).setCell ⟨w3.heap.size,4,none⟩ (B C y)=W5 at *
   clear hW;refine (au p _ _ ht.out (by omega)).mono ?_;rintro e w6 ⟨v6,rfl,⟨z,rfl,hz1,hz2⟩,HT6,HX6⟩;go_wp2_with fail;refine (am p _ _ _ HT6 (by omega) (by omega) (by omega) (by omega)).mono ?_;rintro e w7 ⟨v7,rfl,⟨x,rfl,hx1,hx2⟩,HT7,HX7⟩;have HX:=zZ (HX6.trans HX7);replace g0:=zZ ((g0.out.xt HX.out (by omega)));replace hb3:=zZ ((hb3.out.xt HX.out (by omega)));replace hxa:=zZ (hxa.out.trans HX.out);obtain⟨d0,d1,d2,d3,d4,d5⟩:=g0.out.cells;have f1:=g0.out.froz 1;have f5:=g0.out.froz 5;go_wp2_with fail;go_meet
   refine⟨⟨2,x,t,o,y,z⟩,(g0.out.set5 z).set1 x,?_,(hb3.out.far (by simp;omega) _).far (by simp;omega) _,(HT7.setNew (by simp;omega) _).setNew (by simp;omega) _,(hxa.out.setNew (by simp;omega) _).setNew (by simp;omega) _⟩;exact⟨by simp[j4];omega,by simp;omega⟩
  ·have hk0:(k==0)=false:=by simpa using hk
   clear hk;go_wp2_with fail;go_meet
   refine⟨⟨1,m,t,o,0,0⟩,HQ.out,?_,HB3.out,HT4.out,HXA.out⟩;exact⟨by simp[j4];omega,by simp;omega⟩
 case rest =>
 obtain⟨q,HC⟩:=hcut;clear HB3 HQ HXA HT4;obtain⟨h1,h2,h3,h4,h5⟩:=HC.out;replace h1:=zZ h1;replace h2:=zZ h2;replace h3:=zZ h3;replace h4:=zZ h4;replace h5:=zZ h5;clear HC;go_upto_region 5 with (fail)
 go_cut [34] (fun s34 wx=>∃b:Bool,s34=.bool b∧Hid ((b=true→0<n)∧bt wx p∧XT p wc wx))
 case first =>
  by_cases hn0:0<n
  ·go_wp2_with fail;refine (dR _ _ _ h4.out (by omega) (by omega)).mono ?_;rintro e w4 ⟨v4,rfl,⟨b,rfl⟩,HT4,HX4⟩;go_wp2_with fail;go_meet
   exact⟨b,rfl,fun _=>hn0,HT4,HX4⟩
  ·go_wp2_with fail;go_meet
   exact⟨false,rfl,(fun h=>(by cases h)),h4.out,XT.refl _ _⟩
 case rest =>
 obtain⟨b,rfl,HR⟩:=hcut;replace h1:=zZ ((h1.out.xt HR.out.2.2 (by omega)));replace h3:=zZ ((h3.out.xt HR.out.2.2 (by omega)));replace h5:=zZ (h5.out.trans HR.out.2.2);have HT:=zZ HR.out.2.1;have HN:=zZ HR.out.1;clear HR h4;go_upto_if 34 with (fail)
 go_cut [] (fun wx=>∃q':ai,Hid (cK wx w3.heap.size q'∧q'.wf∧(n=0→j4 q'=true∧q'.max≤12)∧cK wx w.heap.size ⟨0,0,0,0,0,0⟩∧bt wx p∧XT p w wx))
 case first =>
  have hwf:q.wf:=by have:=je h2.out.1;unfold ai.wf aC;omega
  replace hwf:=zZ hwf;cases b
  ·go_wp2_with fail;go_meet
   exact⟨q,h1.out,hwf.out,fun _=>h2.out,h3.out,HT.out,h5.out⟩
  ·have hn0:0<n:=HN.out rfl;go_wp2_with fail;refine (au p _ _ HT.out (by omega)).mono ?_;rintro e w6 ⟨v6,rfl,⟨z,rfl,hz1,hz2⟩,HT6,HX6⟩;replace HT6:=zZ HT6;replace HX6:=zZ HX6;replace h1:=zZ ((h1.out.xt HX6.out (by omega)));replace h3:=zZ ((h3.out.xt HX6.out (by omega)));replace h5:=zZ (h5.out.trans HX6.out);have hzz:z=0∨z=1∨z=2∨z=3∨z=4∨z=5:=by omega
   clear hz1 hz2 HT HN;rcases hzz with rfl|rfl|rfl|rfl|rfl|rfl
   ·go_wp2_with fail;refine (am p _ _ _ HT6.out (by omega) (by omega) (by omega) (by omega)).mono ?_;rintro e w7 ⟨v7,rfl,⟨x,rfl,hx1,hx2⟩,HT7,HX7⟩;replace HT7:=zZ HT7;replace HX7:=zZ HX7;replace h1:=zZ ((h1.out.xt HX7.out (by omega)));replace h3:=zZ ((h3.out.xt HX7.out (by omega)));replace h5:=zZ (h5.out.trans HX7.out);obtain⟨d0,d1,d2,d3,d4,d5⟩:=h1.out.cells;have f0:=h1.out.froz 0;go_wp2_with fail;go_meet
    refine⟨{ q with kind:=x },h1.out.set0 x,?_,fun h=>absurd h (by omega),h3.out.far (by simp;omega) _,HT7.out.setNew (by simp;omega) _,h5.out.setNew (by simp;omega) _⟩;have:=hwf.out;unfold ai.wf aC at *;simp only;omega
   ·go_wp2_with fail;refine (cn p _ [0,40,41,-1] _ (HT6.out.ext ((zE _).alloc _)) (ao.litg _ _ _ rfl HT6.out.lt (by decide) (by decide)) (by simp)).mono ?_;rintro e w7 ⟨v7,rfl,⟨x,rfl,hx⟩,HT7,HX7⟩;have hxi:aC x:=(by decide:∀y∈([0,40,41,-1]:List Int),aC y) x hx;replace HT7:=zZ HT7;replace hxi:=zZ hxi;have HX8:=zZ ((ab.xt (p:=p) ((zE w6).alloc _)).trans HX7);clear hx HX7;replace h1:=zZ ((h1.out.xt HX8.out (by omega)));replace h3:=zZ ((h3.out.xt HX8.out (by omega)));replace h5:=zZ (h5.out.trans HX8.out);obtain⟨d0,d1,d2,d3,d4,d5⟩:=h1.out.cells;have f0:=h1.out.froz 1;go_wp2_with fail;go_meet
    refine⟨{ q with max:=x },h1.out.set1 x,?_,fun h=>absurd h (by omega),h3.out.far (by simp;omega) _,HT7.out.setNew (by simp;omega) _,h5.out.setNew (by simp;omega) _⟩;have:=hwf.out;have:=hxi.out;unfold ai.wf aC at *;simp only;omega
   ·go_wp2_with fail;refine (oJ p _ HT6.out).mono ?_;rintro e w7 ⟨v7,rfl,⟨x,rfl,hxi⟩,HT7,HX7⟩;replace HT7:=zZ HT7;replace HX7:=zZ HX7;replace hxi:=zZ hxi;replace h1:=zZ ((h1.out.xt HX7.out (by omega)));replace h3:=zZ ((h3.out.xt HX7.out (by omega)));replace h5:=zZ (h5.out.trans HX7.out);obtain⟨d0,d1,d2,d3,d4,d5⟩:=h1.out.cells;have f0:=h1.out.froz 2;go_wp2_with fail;go_meet
    refine⟨{ q with topic:=x },h1.out.set2 x,?_,fun h=>absurd h (by omega),h3.out.far (by simp;omega) _,HT7.out.setNew (by simp;omega) _,h5.out.setNew (by simp;omega) _⟩;have:=hwf.out;have:=hxi.out;unfold ai.wf aC at *;simp only;omega
   ·go_wp2_with fail;refine (oJ p _ HT6.out).mono ?_;rintro e w7 ⟨v7,rfl,⟨x,rfl,hxi⟩,HT7,HX7⟩;replace HT7:=zZ HT7;replace HX7:=zZ HX7;replace hxi:=zZ hxi;replace h1:=zZ ((h1.out.xt HX7.out (by omega)));replace h3:=zZ ((h3.out.xt HX7.out (by omega)));replace h5:=zZ (h5.out.trans HX7.out);obtain⟨d0,d1,d2,d3,d4,d5⟩:=h1.out.cells;have f0:=h1.out.froz 3;go_wp2_with fail;go_meet
    refine⟨{ q with obj:=x },h1.out.set3 x,?_,fun h=>absurd h (by omega),h3.out.far (by simp;omega) _,HT7.out.setNew (by simp;omega) _,h5.out.setNew (by simp;omega) _⟩;have:=hwf.out;have:=hxi.out;unfold ai.wf aC at *;simp only;omega
   ·go_wp2_with fail;refine (am p _ _ _ HT6.out (by omega) (by omega) (by omega) (by omega)).mono ?_;rintro e w7 ⟨v7,rfl,⟨x,rfl,hx1,hx2⟩,HT7,HX7⟩;replace HT7:=zZ HT7;replace HX7:=zZ HX7;replace h1:=zZ ((h1.out.xt HX7.out (by omega)));replace h3:=zZ ((h3.out.xt HX7.out (by omega)));replace h5:=zZ (h5.out.trans HX7.out);obtain⟨d0,d1,d2,d3,d4,d5⟩:=h1.out.cells;have f0:=h1.out.froz 4;go_wp2_with fail;go_meet
    refine⟨{ q with opts:=x },h1.out.set4 x,?_,fun h=>absurd h (by omega),h3.out.far (by simp;omega) _,HT7.out.setNew (by simp;omega) _,h5.out.setNew (by simp;omega) _⟩;have:=hwf.out;unfold ai.wf aC at *;simp only;omega
   ·go_wp2_with fail;refine (am p _ _ _ HT6.out (by omega) (by omega) (by omega) (by omega)).mono ?_;rintro e w7 ⟨v7,rfl,⟨x,rfl,hx1,hx2⟩,HT7,HX7⟩;replace HT7:=zZ HT7;replace HX7:=zZ HX7;replace h1:=zZ ((h1.out.xt HX7.out (by omega)));replace h3:=zZ ((h3.out.xt HX7.out (by omega)));replace h5:=zZ (h5.out.trans HX7.out);obtain⟨d0,d1,d2,d3,d4,d5⟩:=h1.out.cells;have f0:=h1.out.froz 5;go_wp2_with fail;go_meet
    refine⟨{ q with key:=x },h1.out.set5 x,?_,fun h=>absurd h (by omega),h3.out.far (by simp;omega) _,HT7.out.setNew (by simp;omega) _,h5.out.setNew (by simp;omega) _⟩;have:=hwf.out;unfold ai.wf aC at *;simp only;omega
 case rest =>
 obtain⟨q',HC⟩:=hcut;clear h1 h2 h3 h5 HT HN;obtain⟨h1,h2,h3,h4,h5,h6⟩:=HC.out;replace h1:=zZ h1;replace h2:=zZ h2;replace h3:=zZ h3;replace h4:=zZ h4;replace h5:=zZ h5;replace h6:=zZ h6;clear HC;obtain⟨d0,d1,d2,d3,d4,d5⟩:=h1.out.cells;obtain⟨e0,e1,e2,e3,e4,e5⟩:=h4.out.cells;have f0:=h4.out.froz 0;have f1:=h4.out.froz 1;have f2:=h4.out.froz 2;have f3:=h4.out.froz 3;have f4:=h4.out.froz 4;have f5:=h4.out.froz 5;go_wp2_with fail;refine bodyPost_ret (v:=.agg #[B C q'.kind,B C q'.max,B C q'.topic,B C q'.obj,B C q'.opts,B C q'.key]) (by simp[results,results85,go_sem,e0,e1,e2,e3,e4,e5]) rfl ⟨_,rfl,⟨q',rfl,h2.out,h3.out⟩,?_,?_⟩
 ·exact (((((h5.out.setNew hlt _).setNew hlt _).setNew hlt _).setNew hlt _).setNew hlt _).setNew hlt _
 ·exact (((((h6.out.setNew (zX _) _).setNew (zX _) _).setNew (zX _) _).setNew (zX _) _).setNew (zX _) _).setNew (zX _) _
theorem Tryz.infoQ:(prog.info? 86).map (fun i=>(i.zero,i.size,i.bytes))=some (some (.agg #[B C 0,B C 0,B C 0,B C 0,B C 0,B C 0]),6,48):=by kernel_rfl
theorem nN(h:w.ownsRow base e size v n xs)(ha:v.ownBlock≠some a.block)(u:Value):(w.setCell a u).ownsRow base e size v n xs :=
 aE h (XT.setCell (XT.refl a.block w) rfl u) (fun k hk e=>ha (by rw[hk];exact e.symm))
def ew(w:World)(b:Nat)(code var:Int)(v:Value):Prop:=w.heap[b]?=some (.cells #[B C code,B C var,v] 89 (0,0))
section
variable {w w':World} {b p:Nat} {code var:Int} {v:Value}
theorem ew.cells(h:ew w b code var v):w.cell? ⟨b,0,none⟩=some (B C code)∧w.cell? ⟨b,1,none⟩=some (B C var)∧w.cell? ⟨b,2,none⟩=some v:=AI h
theorem ew.froz(h:ew w b code var v)(i:Nat):w.frozen? ⟨b,i,none⟩=false:=ax h i
theorem ew.lt(h:ew w b code var v):b<w.heap.size:=bK h
theorem ew.xt(h:ew w b code var v)(hx:XT p w w')(hb:b≠p):ew w' b code var v:=hx.blk h hb
theorem ew.ext(h:ew w b code var v)(hx:ab w w'):ew w' b code var v:=hx.blk h
theorem ew.far(h:ew w b code var v)(ha:b≠a.block)(u:Value):ew (w.setCell a u) b code var v:=(xE _ _ _ _ ha).trans h
theorem ew.set2(h:ew w b code var v)(x:Value):ew (w.setCell ⟨b,2,none⟩ x) b code var x:=by unfold ew at *;rw[dS h];rfl
theorem ew.grown(h:ew w b code var v){row:Option Nat}(hg:w.grownBy w' row)(hr:row≠some b):ew w' b code var v:=(hg.block b (bK h) (fun e=>hr e.symm)).trans h
end
def dK(base:Nat)(w:World)(v:Value)(ps:List ai):Prop:=w.ownsRow base 86 6 v ps.length (ps.map ai.cells).flatten
section
variable {w w':World} {base p:Nat} {v:Value} {ps:List ai}
theorem dK.isQ(h:dK base w v ps)(hp:p<base)(hb:∀q∈ps,q.wf):kr p w v ps:=by refine bg.of_own (e:=86) (ps.map ai.cells) (by simp[ai.cells]) (by decide) (by simp) h hp ?_;intro k cs x hcs hx;simp only[zL,yI]at hcs;obtain⟨q,hq,rfl⟩:=hcs;rw[hx]at hq;injection hq with hq;subst hq;exact⟨rfl,hb _ (zU hx)⟩
theorem dK.own(h:dK base w v ps):w.ownsRow base 86 6 v ps.length (ps.map ai.cells).flatten:=h
theorem dK.isOwn(h:w.ownsRow base 86 6 v n (ps.map ai.cells).flatten)(hn:ps.length=n):dK base w v ps:=by subst hn;exact h
theorem dK.form(h:dK base w v ps):∃A c,v=D A ps.length c:=by
 rcases h.2 with ⟨rfl,h0⟩|⟨g,cap,cur,rfl,_⟩
 ·exact⟨none,0,by rw[h0]⟩
 ·exact⟨_,_,rfl⟩
theorem dK.push{q:ai}(hn:ps.length=n)(h:w.ownsRow base 86 6 v (n+1) ((ps.map ai.cells).flatten++[B C q.kind,B C q.max,B C q.topic,B C q.obj,B C q.opts,B C q.key])):dK base w v (ps++[q]):=by unfold dK;subst hn;simpa[ai.cells] using h
theorem dK.nil(base:Nat)(w:World):dK base w (D none 0 0) []:=yW _ _ _ _
theorem dK.base_ne(h:dK base w v ps){s:Nat}(hb:w.heap[b]?=some (.cells cs e (0,0)))(he:e≠86):v.ownBlock≠some b:=by
 intro hk;rcases h.2 with ⟨rfl,_⟩|⟨g,c1,cu1,rfl,_,hh1,_⟩
 ·simp[Value.ownBlock]at hk
 have e1:g=b:=by simpa[Value.ownBlock] using hk
 subst e1;rw[hh1]at hb;injection hb with hb;injection hb with _ h2;exact he h2.symm
end
def GY(w:World)(base:Nat)(code var:Int)(v:Value):Prop:=∃pv ps,v=.agg #[B C code,B C var,pv]∧dK base w pv ps∧1≤ps.length∧ps.length≤6∧∀q∈ps,j4 q=true∧q.max≤12
theorem GB{q:ai}(h:j4 q=true):q.wf:=by have:=je h;unfold ai.wf aC;omega
theorem CC(p:Nat)(code var:Int)(w:World)(h:bt w p) :
  Calls prog 48 #[.pointer (some ⟨p,0,none⟩),B C code,B C var] w (fX p w fun v w'=>GY w' w.heap.size code var v):=by
 have hlt:=h.lt;obtain⟨iQ,hiQ,hy0,hy1,hy2⟩:=info_parts Tryz.infoQ;have HE:Hid (ab w ((w.alloc (.cells #[B C 0,B C 0,D none 0 0] 89)).alloc (.cells #[B C code,B C var,D none 0 0] 89))):=((zE _).alloc _).alloc _;have HB0:Hid (ew ((w.alloc (.cells #[B C 0,B C 0,D none 0 0] 89)).alloc (.cells #[B C code,B C var,D none 0 0] 89)) w.heap.size 0 0 (D none 0 0)):=ew.ext (heap_alloc_new w _) ((zE _).alloc _);have HB1:Hid (ew ((w.alloc (.cells #[B C 0,B C 0,D none 0 0] 89)).alloc (.cells #[B C code,B C var,D none 0 0] 89)) (w.heap.size+1) code var (D none 0 0)):=by
  have:=heap_alloc_new (w.alloc (.cells #[B C 0,B C 0,D none 0 0] 89)) (.cells #[B C code,B C var,D none 0 0] 89);show ew _ _ _ _ _
  simpa[ew] using this
 have HT:=zZ (h.ext HE.out);have HXA:Hid (XT p w ((w.alloc (.cells #[B C 0,B C 0,D none 0 0] 89)).alloc (.cells #[B C code,B C var,D none 0 0] 89))):=HE.out.xt;clear h HE;go_enter func48,ntmps48
 go_wp2_with fail;generalize hW:(w.alloc (.cells #[B C 0,B C 0,D none 0 0] 89)).alloc (.cells #[B C code,B C var,D none 0 0] 89)=W at *
 clear hW;refine (am p _ _ _ HT.out (by omega) (by omega) (by omega) (by omega)).mono ?_;rintro e w1 ⟨v1,rfl,⟨r,rfl,hr1,hr2⟩,HT1,HX1⟩;obtain⟨r,rfl⟩:=zG (show 0≤r by omega);replace HT1:=zZ HT1;replace HX1:=zZ HX1;replace HB0:=zZ ((HB0.out.xt HX1.out (by omega)));replace HB1:=zZ ((HB1.out.xt HX1.out (by omega)));replace HXA:=zZ (HXA.out.trans HX1.out);clear HT HX1;have hr6:r≤6:=by omega
 have hr0:1≤r:=by omega
 clear hr1 hr2;go_wp2_with fail;go_loopw [8] (fun s8 wr=>∃(k:Nat) (A:Option Addr) (n c:Nat) (ps:List ai),s8=B C k∧n+k=r∧Hid (ps.length=n∧ew wr w.heap.size 0 0 (D none 0 0)∧ew wr (w.heap.size+1) code var (D A n c)∧dK w.heap.size wr (D A n c) ps∧(∀q∈ps,j4 q=true∧q.max≤12)∧bt wr p∧XT p w wr)) (fun i _=>(intOf i).toNat)
 case atStart=>exact⟨r,none,0,0,[],rfl,by omega,rfl,HB0.out,HB1.out,dK.nil _ _,by simp,HT1.out,HXA.out⟩
 case round =>
  obtain⟨k,A,n,c,ps,rfl,hk,HR⟩:=hrel;clear HB0 HB1 HXA HT1;obtain⟨q1,q2,q3,q4,q5,q6,q7⟩:=HR.out;have hne:=q4.base_ne (s:=0) q3 (by decide);have hb8:=q3.lt;replace q1:=zZ q1;replace q2:=zZ q2;replace q3:=zZ q3;replace q4:=zZ q4;replace q5:=zZ q5;replace q6:=zZ q6;replace q7:=zZ q7;replace hne:=zZ hne;clear HR;by_cases hk0:0<k
  ·obtain⟨c0,c1,c2⟩:=q3.out.cells;have hn6:n≤6:=by omega
   have HO:Hid (wr.ownsRow w.heap.size 86 6 (D A n c) n (ps.map ai.cells).flatten):=by have:=q4.out.own;rw[q1.out]at this;exact this
   go_upto_region 5 with (fail)
   go_region_law (first
    |(go_simp;go_at_call 85;refine (EE p _ _ (q6.out.ext (zE _).drew) (by omega) (by omega)).mono ?_;rintro e w2 ⟨v2,rfl,⟨q,rfl,hq1,hq2⟩,HT2,HX2'⟩;have HX2:=zZ ((ab.xt (p:=p) ((zE wr).drew)).trans HX2');have hs2:=HX2.out.size;have d2:=HX2.out.cell c2 (by simp;omega);have e2:∀o,(w2.alloc o).cell? ⟨w.heap.size+1,2,none⟩=some (D A n c):=(fun o=>ab.cell ((zE _).alloc o) d2);clear HX2')
    |(refine step_append_lies _ (by rfl) _ _ _ (by rfl) w.heap.size 86 iQ _ 6 48 underlying87 hiQ hy0 hy1 hy2 rfl (by omega) (D A n c) n _ (by rfl) ((dJ HO.out HX2.out hlt).alloc _) ⟨w2.heap.size,0,none⟩ 1 1 _ (by rfl) (by rfl) (World.news_of_block (heap_alloc_new w2 _)) (by simp[Value.oneCell']) (by omega) (by unfold maxLen;omega) (by omega) (by simp;omega) (w2.heap.size+1) (by simp) ?_;intro gg cap w3 hown3 hgrow hat hlt3;have HG:=zZ (((q3.out.xt HX2.out (by omega)).ext ((zE _).alloc _)).grown hgrow hne.out);obtain⟨z0,z1,z2⟩:=HG.out.cells;have zf:=HG.out.froz 2;have HO3:=zZ hown3;have HGR:=zZ hgrow;clear hown3 hgrow))
   all_goals go_wp2_with fail
   all_goals
    go_roundw
    case rel =>
     refine⟨k-1,_,n+1,cap,ps++[q],by congr;omega,by omega,by have:=q1.out;simp;omega,?_,HG.out.set2 _,?_,?_,?_,?_⟩
     ·refine ew.far (ew.grown ((q2.out.xt HX2.out (by omega)).ext ((zE _).alloc _)) HGR.out ?_) (by simp) _;exact dK.base_ne (s:=0) (dK.isOwn (dJ HO.out HX2.out hlt) q1.out) (q2.out.xt HX2.out (by omega)) (by decide)
     ·have ha:=dK.base_ne (s:=0) (dK.push (q:=q) q1.out HO3.out) HG.out (by decide);exact nN (a:=⟨w.heap.size+1,2,none⟩) (dK.push q1.out HO3.out).own ha _
     ·intro x hx;rcases zC.1 hx with hx|hx
      ·exact q5.out x hx
      ·simp at hx;subst hx;exact hq2 rfl
     ·refine bt.setNew ((HT2.ext ((zE _).alloc _)).grown HGR.out (fun k hk=>?_)) (by simp;omega) _;have:=ar HO.out k hk;omega
     ·exact XT.setNew (XT.grown ((q7.out.trans HX2.out).alloc _) HGR.out (ar HO.out)) (by simp) _
    case measure=>simp[intOf];omega
  ·obtain rfl:k=0:=by omega
   obtain⟨c0,c1,c2⟩:=q3.out.cells;obtain⟨d0,d1,d2⟩:=q2.out.cells;have f0:=q2.out.froz 0;have f1:=q2.out.froz 1;have f2:=q2.out.froz 2;go_wp2_with fail;refine bodyPost_ret (v:=.agg #[B C code,B C var,D A n c]) (by simp[results,results48,go_sem,c0,c1,c2,d0,d1,d2]) rfl ⟨_,rfl,⟨_,ps,rfl,?_,?_,?_,q5.out⟩,?_,?_⟩
   ·have ha:=q4.out.base_ne (s:=0) q2.out (by decide);exact nN (nN (nN q4.out.own ha _) ha _) ha _
   ·have:=q1.out;omega
   ·have:=q1.out;omega
   ·exact ((q6.out.setNew hlt _).setNew hlt _).setNew hlt _
   ·exact ((q7.out.setNew (zX _) _).setNew (zX _) _).setNew (zX _) _
theorem ex{t:Nat}(h:w.ownsRow base e size v n xs)(hb:w.heap[b]?=some (.cells cs t (0,0)))(he:t≠e):v.ownBlock≠some b:=by
 intro hk;rcases h.2 with ⟨rfl,_⟩|⟨g,c1,cu1,rfl,_,hh1,_⟩
 ·simp[Value.ownBlock]at hk
 have e1:g=b:=by simpa[Value.ownBlock] using hk
 subst e1;rw[hh1]at hb;injection hb with hb;injection hb with _ h2;exact he h2.symm
theorem bm(h:w.ownsRow base e size v n xs)(ha:v.ownBlock≠some a.block)(u:Value):(w.setCell a u).ownsRow base e size v n xs :=
 aE h (XT.setCell (XT.refl a.block w) rfl u) (fun k hk e=>ha (by rw[hk];exact e.symm))
def mZ(base eS eI:Nat)(w:World)(v:Value)(ls:List (List Int)):Prop :=
 ∃us:List Value,us.length=ls.length∧w.ownsRow base eS 1 v ls.length us ∧
  (∀(j:Nat) (u:Value) (l:List Int),us[j]?=some u→ls[j]?=some l→w.ownsRow base eI 1 u l.length (l.map (Value.int .i64))) ∧
  (∀(i j:Nat) (u u':Value) (k:Nat),i≠j→us[i]?=some u→us[j]?=some u'→u.ownBlock=some k→u'.ownBlock≠some k)
section
variable {base eS eI p:Nat} {w w':World} {v v':Value} {ls:List (List Int)}
theorem mZ.nil(base eS eI:Nat)(w:World):mZ base eS eI w (D none 0 0) [] :=
 ⟨[],rfl,yW _ _ _ _,fun j u l hu=>by simp at hu,fun i j u u' k _ hu=>by simp at hu⟩
theorem mZ.own(h:mZ base eS eI w v ls):∃us,us.length=ls.length∧w.ownsRow base eS 1 v ls.length us:=by obtain⟨us,a,b,_⟩:=h;exact⟨us,a,b⟩
end
theorem bg.take{α:Type}{R:World→List Value→α→Prop}{A:Option Addr}{c:Nat}{xs:List α}(h:bg p size R w (D A n c) xs)(hk:k≤n):bg p size R w (D A k c) (xs.take k):=by
 have hl:=h.len;obtain⟨A',c',hv,h1,h2,h4⟩:=h;injection hv with ha hn hc;subst ha;subst hc;refine⟨A,c,by rw[zF];congr;omega,by rw[zF];omega,h2,fun i x hx=>h4 i x ?_⟩;rw[yB]at hx;split at hx
 ·exact hx
 ·cases hx
theorem ao.re{q:Nat}{l:List Int}(h:ao p w v l)(hq:w.heap.size≤q):ao q w v l:=by obtain⟨A,c,hv,h1,h2,h3,h5,h4⟩:=h;exact⟨A,c,hv,h1,h2,h3,h5,fun k x hx=>by obtain⟨b,off,ha,hb,hc⟩:=h4 k x hx;have:=bZ hc;simp at this;exact⟨b,off,ha,by omega,hc⟩⟩
theorem E8{cap:Nat}(h:w.ownsRow base e size (D (some ⟨g,0,none⟩) n cap) n xs)(hk:k≤n):w.ownsRow base e size (D (some ⟨g,0,none⟩) k cap) k (xs.take (k*size)):=by
 have hl:=h.1;have hks:k*size≤n*size:=Nat.mul_le_mul_right _ hk;refine⟨by rw[zF,hl];exact Nat.min_eq_left hks,?_⟩;rcases h.2 with ⟨e,_⟩|⟨g',cap',cur,e,hg,hh,hnc,hcm,hcs,ht⟩
 ·cases e
 ·injection e with e1 e2 e3;subst e3;injection e1 with e1;injection e1 with e1;subst e1;refine .inr ⟨g,cap,cur,rfl,hg,hh,by omega,hcm,hcs,?_⟩;rw[←ht,List.take_take,Nat.min_eq_left hks]
theorem sw{m cap:Nat}(h:w.ownsRow base e size (D (some ⟨g,0,none⟩) n cap) m xs):n≤cap∧cap≤9223372036854775807:=by
 rcases h.2 with ⟨e,_⟩|⟨g',cap',cur,e,hg,hh,hnc,hcm,hcs,ht⟩
 ·cases e
 ·injection e with e1 e2 e3;subst e2;subst e3;exact⟨hnc,hcm⟩
structure Bx (p:Prop):Prop where
 out:p
theorem bx{p:Prop}(h:p):Bx p:=⟨h⟩
def sv(l:List UInt8):Value:=.string ⟨l.toArray⟩
theorem Hw(s:ByteArray):Value.string s=sv (bl s):=by unfold sv bl;rw[show (⟨s.data.toList.toArray⟩:ByteArray)=s by cases s;simp]
def aF.cells(c:aF)(u:Value):List Value:=[B C c.st.t,B C c.st.s,B C c.st.q,B C c.kind,sv c.str,B C c.cont,u,B C c.tgt.s,B C c.tgt.q,B C c.lab.p,B C c.lab.c,B C c.lab.g,B C c.lab.v]
def aF.wf(c:aF):Prop:=c.st.wf∧aC c.kind∧c.str.length≤1000∧aC c.cont∧c.tgt.wf∧c.lab.wf∧c.ch.length≤1000
def Pg.cells(c:Pg)(u:Value):List Value:=[B C c.cand,B C c.page,B C c.cont,u,B C c.scan.s,B C c.scan.q]
def Pg.wf(c:Pg):Prop:=aC c.cand∧aC c.page∧aC c.cont∧c.scan.wf∧c.ch.length≤1000
def uQ(p:Nat):World→List Value→gE→Prop:=fun w cs q=>∃u,cs=[B C q.code,B C q.var,u]∧kr p w u q.ps∧aC q.code∧aC q.var
def GE(p:Nat):World→List Value→List (List Int)→Prop:=fun w cs b=>∃u,cs=[u]∧kL p w u b
def iK:World→List Value→dF→Prop:=fun _ cs x=>cs=x.cells∧x.wf
def ly(p:Nat):World→List Value→aF→Prop:=fun w cs c=>∃u,cs=c.cells u∧ao p w u c.ch∧c.wf
def cQ:World→List Value→aY→Prop:=fun _ cs x=>cs=x.cells∧x.wf
def j3(p:Nat):World→List Value→Pg→Prop:=fun w cs c=>∃u,cs=c.cells u∧ao p w u c.ch∧c.wf
def xu:World→List Value→eD→Prop:=fun _ cs x=>cs=x.cells∧x.wf
theorem uQ.stab(p:Nat):kc p (uQ p):=by rintro w w' cs l ⟨u,rfl,h,h1,h2⟩ e;exact⟨u,rfl,h.xt (aI.stab p) e,h1,h2⟩
theorem GE.stab(p:Nat):kc p (GE p):=by rintro w w' cs l ⟨u,rfl,h⟩ e;exact⟨u,rfl,h.xt (RI.stab p) e⟩
theorem iK.stab(p:Nat):kc p iK:=fun _ _ _ _ h _=>h
theorem cQ.stab(p:Nat):kc p cQ:=fun _ _ _ _ h _=>h
theorem xu.stab(p:Nat):kc p xu:=fun _ _ _ _ h _=>h
theorem ly.stab(p:Nat):kc p (ly p):=by rintro w w' cs l ⟨u,rfl,h,h1⟩ e;exact⟨u,rfl,h.xt e,h1⟩
theorem j3.stab(p:Nat):kc p (j3 p):=by rintro w w' cs l ⟨u,rfl,h,h1⟩ e;exact⟨u,rfl,h.xt e,h1⟩
abbrev hY (p:Nat):World→Value→List gE→Prop:=bg p 3 (uQ p)
abbrev gm (p:Nat):World→Value→List (List (List Int))→Prop:=bg p 1 (GE p)
abbrev d7 (p:Nat):World→Value→List dF→Prop:=bg p 3 iK
abbrev fE (p:Nat):World→Value→List aF→Prop:=bg p 13 (ly p)
abbrev eF (p:Nat):World→Value→List aY→Prop:=bg p 7 cQ
abbrev ke (p:Nat):World→Value→List Pg→Prop:=bg p 6 (j3 p)
abbrev pT (p:Nat):World→Value→List eD→Prop:=bg p 3 xu
def aN(p:Nat)(w:World)(v:Value)(s:aZ):Prop :=
 ∃vP vB vX,v=.agg #[B C s.num,vP,vB,vX]∧hY p w vP s.pap∧gm p w vB s.bk∧d7 p w vX s.xp∧aC s.num
def bN(p:Nat)(w:World)(v:Value)(i:en):Prop:=∃vS vG,v=.agg #[vS,vG]∧eF p w vS i.sts∧ke p w vG i.pgs
section
variable {p:Nat} {w w':World} {v:Value} {s:aZ} {i:en}
theorem aN.xt(h:aN p w v s)(e:XT p w w'):aN p w' v s:=by obtain⟨vP,vB,vX,h0,h1,h2,h3,h4⟩:=h;exact⟨vP,vB,vX,h0,h1.xt (uQ.stab p) e,h2.xt (GE.stab p) e,h3.xt (iK.stab p) e,h4⟩
theorem aN.ext(h:aN p w v s)(e:ab w w'):aN p w' v s:=h.xt e.xt
theorem bN.xt(h:bN p w v i)(e:XT p w w'):bN p w' v i:=by obtain⟨vS,vG,h0,h1,h2⟩:=h;exact⟨vS,vG,h0,h1.xt (cQ.stab p) e,h2.xt (j3.stab p) e⟩
theorem bN.ext(h:bN p w v i)(e:ab w w'):bN p w' v i:=h.xt e.xt
end
def Bk(w:World)(g:Nat)(cs:Array Value)(t:TypeId):Prop:=w.heap[g]?=some (.cells cs t (0,0))
section
variable {w w':World} {g p:Nat} {cs:Array Value} {t:TypeId}
theorem Bk.new(w:World)(cs:Array Value)(t:TypeId):Bk (w.alloc (.cells cs t)) w.heap.size cs t:=heap_alloc_new w _
theorem Bk.cell(h:Bk w g cs t){i:Nat}{u:Value}(hi:cs[i]?=some u):w.cell? ⟨g,i,none⟩=some u:=ak h hi
theorem Bk.froz(h:Bk w g cs t)(i:Nat):w.frozen? ⟨g,i,none⟩=false:=ax h i
theorem Bk.lt(h:Bk w g cs t):g<w.heap.size:=bK h
theorem Bk.xt(h:Bk w g cs t)(hx:XT p w w')(hb:g≠p):Bk w' g cs t:=hx.blk h hb
theorem Bk.ext(h:Bk w g cs t)(hx:ab w w'):Bk w' g cs t:=hx.blk h
theorem Bk.far(h:Bk w g cs t)(ha:g≠a.block)(u:Value):Bk (w.setCell a u) g cs t:=(xE _ _ _ _ ha).trans h
theorem Bk.set(h:Bk w g cs t)(i:Nat)(u:Value):Bk (w.setCell ⟨g,i,none⟩ u) g (cs.setIfInBounds i u) t:=by unfold Bk at *;rw[dS h]
theorem Bk.grown(h:Bk w g cs t){row:Option Nat}(hg:w.grownBy w' row)(hr:row≠some g):Bk w' g cs t:=(hg.block g (bK h) (fun e=>hr e.symm)).trans h
theorem Bk.alloc(h:Bk w g cs t)(o:Obj):Bk (w.alloc o) g cs t:=h.ext ((zE _).alloc o)
end
def aL{α:Type}(base:Nat)(e size:Nat)(f:α→List Value)(w:World)(v:Value)(xs:List α):Prop:=w.ownsRow base e size v xs.length (xs.map f).flatten
section
variable {α:Type} {base e size p:Nat} {f:α→List Value} {w w':World} {v:Value} {xs:List α}
theorem aL.own(h:aL base e size f w v xs):w.ownsRow base e size v xs.length (xs.map f).flatten:=h
theorem aL.nil:aL base e size f w (D none 0 0) ([]:List α):=yW _ _ _ _
theorem aL.push{x:α}(h:w.ownsRow base e size v (xs.length+1) ((xs.map f).flatten++f x)):aL base e size f w v (xs++[x]):=by unfold aL;simpa using h
theorem aL.ext(h:aL base e size f w v xs)(hx:ab w w'):aL base e size f w' v xs:=ac h hx
theorem aL.xt(h:aL base e size f w v xs)(hx:XT p w w')(hp:p<base):aL base e size f w' v xs:=dJ h hx hp
theorem aL.isS{q:Nat}{R:World→List Value→α→Prop}(h:aL base e size f w v xs)(hp:q<base)(hsz:0<size)(hf:∀x∈xs,(f x).length=size)(hR:∀x∈xs,R w (f x) x):bg q size R w v xs:=by refine bg.of_own (e:=e) (xs.map f) (by simpa using hf) hsz (by simp) h hp ?_;intro k cs x hcs hx;simp only[zL,yI]at hcs;obtain⟨y,hy,rfl⟩:=hcs;rw[hx]at hy;injection hy with hy;subst hy;exact hR _ (zU hx)
theorem aL.form(h:aL base e size f w v xs):∃A c,v=D A xs.length c:=by
 rcases h.2 with ⟨e,h0⟩|⟨g,cap,cur,e,_⟩
 ·exact⟨none,0,by rw[e,h0]⟩
 ·exact⟨_,_,e⟩
end
theorem Bk.p2(h:Bk w g cs t)(e:cs.toList=u0::u1::r):w.cell? ⟨g,0,none⟩=some u0∧w.cell? ⟨g,1,none⟩=some u1:=by
 obtain rfl:cs=⟨u0::u1::r⟩:=by rw[←e]
 exact⟨h.cell (i:=0) rfl,h.cell (i:=1) rfl⟩
theorem Bk.p3(h:Bk w g cs t)(e:cs.toList=u0::u1::u2::r):w.cell? ⟨g,0,none⟩=some u0∧w.cell? ⟨g,1,none⟩=some u1∧w.cell? ⟨g,2,none⟩=some u2:=by
 obtain rfl:cs=⟨u0::u1::u2::r⟩:=by rw[←e]
 exact⟨h.cell (i:=0) rfl,h.cell (i:=1) rfl,h.cell (i:=2) rfl⟩
theorem Bk.p4(h:Bk w g cs t)(e:cs.toList=u0::u1::u2::u3::r):w.cell? ⟨g,0,none⟩=some u0∧w.cell? ⟨g,1,none⟩=some u1∧w.cell? ⟨g,2,none⟩=some u2∧w.cell? ⟨g,3,none⟩=some u3:=by
 obtain rfl:cs=⟨u0::u1::u2::u3::r⟩:=by rw[←e]
 exact⟨h.cell (i:=0) rfl,h.cell (i:=1) rfl,h.cell (i:=2) rfl,h.cell (i:=3) rfl⟩
theorem Bk.p5(h:Bk w g cs t)(e:cs.toList=u0::u1::u2::u3::u4::r):w.cell? ⟨g,0,none⟩=some u0∧w.cell? ⟨g,1,none⟩=some u1∧w.cell? ⟨g,2,none⟩=some u2∧w.cell? ⟨g,3,none⟩=some u3∧w.cell? ⟨g,4,none⟩=some u4:=by
 obtain rfl:cs=⟨u0::u1::u2::u3::u4::r⟩:=by rw[←e]
 exact⟨h.cell (i:=0) rfl,h.cell (i:=1) rfl,h.cell (i:=2) rfl,h.cell (i:=3) rfl,h.cell (i:=4) rfl⟩
theorem Bk.p6(h:Bk w g cs t)(e:cs.toList=u0::u1::u2::u3::u4::u5::r):w.cell? ⟨g,0,none⟩=some u0∧w.cell? ⟨g,1,none⟩=some u1∧w.cell? ⟨g,2,none⟩=some u2∧w.cell? ⟨g,3,none⟩=some u3∧w.cell? ⟨g,4,none⟩=some u4∧w.cell? ⟨g,5,none⟩=some u5:=by
 obtain rfl:cs=⟨u0::u1::u2::u3::u4::u5::r⟩:=by rw[←e]
 exact⟨h.cell (i:=0) rfl,h.cell (i:=1) rfl,h.cell (i:=2) rfl,h.cell (i:=3) rfl,h.cell (i:=4) rfl,h.cell (i:=5) rfl⟩
theorem Bk.p7(h:Bk w g cs t)(e:cs.toList=u0::u1::u2::u3::u4::u5::u6::r):w.cell? ⟨g,0,none⟩=some u0∧w.cell? ⟨g,1,none⟩=some u1∧w.cell? ⟨g,2,none⟩=some u2∧w.cell? ⟨g,3,none⟩=some u3∧w.cell? ⟨g,4,none⟩=some u4∧w.cell? ⟨g,5,none⟩=some u5∧w.cell? ⟨g,6,none⟩=some u6:=by
 obtain rfl:cs=⟨u0::u1::u2::u3::u4::u5::u6::r⟩:=by rw[←e]
 exact⟨h.cell (i:=0) rfl,h.cell (i:=1) rfl,h.cell (i:=2) rfl,h.cell (i:=3) rfl,h.cell (i:=4) rfl,h.cell (i:=5) rfl,h.cell (i:=6) rfl⟩
theorem Bk.p8(h:Bk w g cs t)(e:cs.toList=u0::u1::u2::u3::u4::u5::u6::u7::r):w.cell? ⟨g,0,none⟩=some u0∧w.cell? ⟨g,1,none⟩=some u1∧w.cell? ⟨g,2,none⟩=some u2∧w.cell? ⟨g,3,none⟩=some u3∧w.cell? ⟨g,4,none⟩=some u4∧w.cell? ⟨g,5,none⟩=some u5∧w.cell? ⟨g,6,none⟩=some u6∧w.cell? ⟨g,7,none⟩=some u7:=by
 obtain rfl:cs=⟨u0::u1::u2::u3::u4::u5::u6::u7::r⟩:=by rw[←e]
 exact⟨h.cell (i:=0) rfl,h.cell (i:=1) rfl,h.cell (i:=2) rfl,h.cell (i:=3) rfl,h.cell (i:=4) rfl,h.cell (i:=5) rfl,h.cell (i:=6) rfl,h.cell (i:=7) rfl⟩
theorem Bk.p9(h:Bk w g cs t)(e:cs.toList=u0::u1::u2::u3::u4::u5::u6::u7::u8::r):w.cell? ⟨g,0,none⟩=some u0∧w.cell? ⟨g,1,none⟩=some u1∧w.cell? ⟨g,2,none⟩=some u2∧w.cell? ⟨g,3,none⟩=some u3∧w.cell? ⟨g,4,none⟩=some u4∧w.cell? ⟨g,5,none⟩=some u5∧w.cell? ⟨g,6,none⟩=some u6∧w.cell? ⟨g,7,none⟩=some u7∧w.cell? ⟨g,8,none⟩=some u8:=by
 obtain rfl:cs=⟨u0::u1::u2::u3::u4::u5::u6::u7::u8::r⟩:=by rw[←e]
 exact⟨h.cell (i:=0) rfl,h.cell (i:=1) rfl,h.cell (i:=2) rfl,h.cell (i:=3) rfl,h.cell (i:=4) rfl,h.cell (i:=5) rfl,h.cell (i:=6) rfl,h.cell (i:=7) rfl,h.cell (i:=8) rfl⟩
theorem Bk.p10(h:Bk w g cs t)(e:cs.toList=u0::u1::u2::u3::u4::u5::u6::u7::u8::u9::r):w.cell? ⟨g,0,none⟩=some u0∧w.cell? ⟨g,1,none⟩=some u1∧w.cell? ⟨g,2,none⟩=some u2∧w.cell? ⟨g,3,none⟩=some u3∧w.cell? ⟨g,4,none⟩=some u4∧w.cell? ⟨g,5,none⟩=some u5∧w.cell? ⟨g,6,none⟩=some u6∧w.cell? ⟨g,7,none⟩=some u7∧w.cell? ⟨g,8,none⟩=some u8∧w.cell? ⟨g,9,none⟩=some u9:=by
 obtain rfl:cs=⟨u0::u1::u2::u3::u4::u5::u6::u7::u8::u9::r⟩:=by rw[←e]
 exact⟨h.cell (i:=0) rfl,h.cell (i:=1) rfl,h.cell (i:=2) rfl,h.cell (i:=3) rfl,h.cell (i:=4) rfl,h.cell (i:=5) rfl,h.cell (i:=6) rfl,h.cell (i:=7) rfl,h.cell (i:=8) rfl,h.cell (i:=9) rfl⟩
theorem Bk.p11(h:Bk w g cs t)(e:cs.toList=u0::u1::u2::u3::u4::u5::u6::u7::u8::u9::u10::r):w.cell? ⟨g,0,none⟩=some u0∧w.cell? ⟨g,1,none⟩=some u1∧w.cell? ⟨g,2,none⟩=some u2∧w.cell? ⟨g,3,none⟩=some u3∧w.cell? ⟨g,4,none⟩=some u4∧w.cell? ⟨g,5,none⟩=some u5∧w.cell? ⟨g,6,none⟩=some u6∧w.cell? ⟨g,7,none⟩=some u7∧w.cell? ⟨g,8,none⟩=some u8∧w.cell? ⟨g,9,none⟩=some u9∧w.cell? ⟨g,10,none⟩=some u10:=by
 obtain rfl:cs=⟨u0::u1::u2::u3::u4::u5::u6::u7::u8::u9::u10::r⟩:=by rw[←e]
 exact⟨h.cell (i:=0) rfl,h.cell (i:=1) rfl,h.cell (i:=2) rfl,h.cell (i:=3) rfl,h.cell (i:=4) rfl,h.cell (i:=5) rfl,h.cell (i:=6) rfl,h.cell (i:=7) rfl,h.cell (i:=8) rfl,h.cell (i:=9) rfl,h.cell (i:=10) rfl⟩
theorem Bk.p12{u11:Value}(h:Bk w g cs t)(e:cs.toList=u0::u1::u2::u3::u4::u5::u6::u7::u8::u9::u10::u11::r):w.cell? ⟨g,0,none⟩=some u0∧w.cell? ⟨g,1,none⟩=some u1∧w.cell? ⟨g,2,none⟩=some u2∧w.cell? ⟨g,3,none⟩=some u3∧w.cell? ⟨g,4,none⟩=some u4∧w.cell? ⟨g,5,none⟩=some u5∧w.cell? ⟨g,6,none⟩=some u6∧w.cell? ⟨g,7,none⟩=some u7∧w.cell? ⟨g,8,none⟩=some u8∧w.cell? ⟨g,9,none⟩=some u9∧w.cell? ⟨g,10,none⟩=some u10∧w.cell? ⟨g,11,none⟩=some u11:=by
 obtain rfl:cs=⟨u0::u1::u2::u3::u4::u5::u6::u7::u8::u9::u10::u11::r⟩:=by rw[←e]
 exact⟨h.cell (i:=0) rfl,h.cell (i:=1) rfl,h.cell (i:=2) rfl,h.cell (i:=3) rfl,h.cell (i:=4) rfl,h.cell (i:=5) rfl,h.cell (i:=6) rfl,h.cell (i:=7) rfl,h.cell (i:=8) rfl,h.cell (i:=9) rfl,h.cell (i:=10) rfl,h.cell (i:=11) rfl⟩
theorem Bk.p13{u11 u12:Value}(h:Bk w g cs t)(e:cs.toList=u0::u1::u2::u3::u4::u5::u6::u7::u8::u9::u10::u11::u12::r):w.cell? ⟨g,0,none⟩=some u0∧w.cell? ⟨g,1,none⟩=some u1∧w.cell? ⟨g,2,none⟩=some u2∧w.cell? ⟨g,3,none⟩=some u3∧w.cell? ⟨g,4,none⟩=some u4∧w.cell? ⟨g,5,none⟩=some u5∧w.cell? ⟨g,6,none⟩=some u6∧w.cell? ⟨g,7,none⟩=some u7∧w.cell? ⟨g,8,none⟩=some u8∧w.cell? ⟨g,9,none⟩=some u9∧w.cell? ⟨g,10,none⟩=some u10∧w.cell? ⟨g,11,none⟩=some u11∧w.cell? ⟨g,12,none⟩=some u12:=by
 obtain rfl:cs=⟨u0::u1::u2::u3::u4::u5::u6::u7::u8::u9::u10::u11::u12::r⟩:=by rw[←e]
 exact⟨h.cell (i:=0) rfl,h.cell (i:=1) rfl,h.cell (i:=2) rfl,h.cell (i:=3) rfl,h.cell (i:=4) rfl,h.cell (i:=5) rfl,h.cell (i:=6) rfl,h.cell (i:=7) rfl,h.cell (i:=8) rfl,h.cell (i:=9) rfl,h.cell (i:=10) rfl,h.cell (i:=11) rfl,h.cell (i:=12) rfl⟩
theorem Bk.c(h:Bk w g cs t)(i:Nat){u:Value}(hi:cs[i]?=some u):w.cell? ⟨g,i,none⟩=some u:=h.cell hi
end Go.Proofs.YtjgfgdcaocbfhaaGreat

