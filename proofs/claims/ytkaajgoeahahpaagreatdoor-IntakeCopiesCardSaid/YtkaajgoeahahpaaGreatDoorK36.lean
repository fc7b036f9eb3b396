import Derived.Test.YtkaajgoeahahpaaGreatDoorK35
import Derived.Lib.SlicesCompact
set_option linter.all false
set_option maxRecDepth 100000
set_option maxHeartbeats 0
namespace Go.Proofs.YtkaajgoeahahpaaGreatDoor
open Go.Value renaming int→B
open Go.IntKind renaming i64→C
open Go.RowKit Go.Lib Go.Sort
def gN(w w':World):Prop:=∃(q:Nat) (os:Array Obj),w'=Go.Sort.grow (w.drewN q) os
section
variable {w w1 w2:World}
theorem gN.refl(w:World):gN w w:=⟨0,#[],by rw[Go.Sort.grow_empty];rfl⟩
theorem gN.drew(h:gN w w1):gN w w1.drew:=by obtain⟨q,os,rfl⟩:=h;exact⟨q+1,os,rfl⟩
theorem gN.alloc(h:gN w w1)(o:Obj):gN w (w1.alloc o):=by obtain⟨q,os,rfl⟩:=h;exact⟨q,os++#[o],by rw[Go.Sort.alloc_eq_grow,Go.Sort.grow_grow]⟩
theorem gN.trans(h:gN w w1)(k:gN w1 w2):gN w w2:=by
 obtain⟨q,os,rfl⟩:=h;obtain⟨q',os',rfl⟩:=k;exact⟨q+q',os++os',by
  show Go.Sort.grow (Go.Sort.grow ((w.drewN q).drewN q') os) os'=_
  rw[Go.Sort.grow_grow,World.drewN_drewN]⟩
theorem gN.ext(h:gN w w1):ab w w1:=by
 obtain⟨q,os,rfl⟩:=h;exact⟨rfl,rfl,rfl,by simp[Go.Sort.grow],fun i hi=>by
  show ((w.drewN q).heap++os)[i]?=_
  rw[Array.getElem?_append_left (by show i<w.heap.size;omega)];rfl⟩
end
def nV(i:Nat):Value:=B C (i:Int)
theorem qX(N g:Nat)(cb:Array Value)(cf:Nat->Nat->Int)(v:Value)(ks:List Nat)(base:Nat)(w:World)(hn:ks.length<=1000000)(hk:∀k∈ks,k<N)(irr:∀x,x<N->¬cf x x<0)(tr:∀x y z,x<N->y<N->z<N->cf x y<0->cf y z<0->cf x z<0)(ntr:∀x y z,x<N->y<N->z<N->¬cf x y<0->¬cf y z<0->¬cf x z<0)(eg:∀args w,(callFunc g args).run Tryz.prog w=.ok (.enter g args) w)(hown:w.ownsRow base 3 1 v ks.length (ks.map nV))(hc:∀w1,w.grownBy w1 v.ownBlock->∀x y,x<N->y<N->Calls Tryz.prog g (#[B C (x:Int),B C (y:Int)]++cb) w1 fun e w2=>e=.returned (B C (cf x y))/\gN w1 w2) :
  Calls Tryz.prog 136 #[v,.func (.func g) #[] cb] w fun e w'=>e=.returned (.tuple #[])/\∃ks':List Nat,ks'.Perm ks/\(ks'.Pairwise fun a b=>¬cf b a<0)/\w'.ownsRow base 3 1 v ks.length (ks'.map nV)/\w.grownBy w' v.ownBlock:=by
 rcases vE ks.length with h0|h0
 ·obtain rfl:ks=[]:=xZ h0;obtain⟨A,c,rfl⟩:∃A c,v=.slice A 0 c:=by
   rcases hown.2 with ⟨e,_⟩|⟨g',cap,cur,e,_⟩
   ·exact⟨none,0,e⟩
   ·exact⟨_,_,e⟩
  refine (AnyF.slices_SortFunc_none (ρ:=jG) { BB with } A c (.func (.func g) #[] cb) w).mono ?_;rintro e w' ⟨rfl,rfl⟩;exact⟨rfl,[],wN _,xE,hown,uU _ _⟩
 ·obtain⟨k0,t,rfl⟩:∃k0 t,ks=k0::t:=by cases ks with
   |nil=>simp at h0
   |cons a b=>exact⟨a,b,rfl⟩
  have hN:0<N:=by have:=hk k0 (by simp);omega
  let α:={ k:Nat // k<N }
  haveI:Inhabited α:=⟨⟨0,hN⟩⟩
  let enc:α->Value:=fun x=>nV x.1
  obtain⟨xs,hxs⟩:∃xs:List α,xs.map (·.1)=k0::t:=⟨(k0::t).attach.map fun x=>⟨x.1,hk x.1 x.2⟩,by simp⟩
  generalize k0::t=ks at *
  have hen:ks.map nV=xs.map enc:=by rw[<-hxs,vY];rfl
  have hxl:xs.length=ks.length:=by rw[<-hxs];simp
  rw[hen]at hown;obtain⟨G,cap,rfl⟩:∃G cap,v=.slice (some ⟨G,0,none⟩) ks.length cap:=by
   rcases hown.2 with ⟨_,e⟩|⟨g',cap,cur,e,_⟩
   ·omega
   ·exact⟨_,_,e⟩
  obtain⟨hH,hb,_,hback⟩:=Hq enc hown;have hO:SWO (ltOf fun x y:α=>cf x.1 y.1):=⟨fun x=>by have:=irr x.1 x.2;simp[ltOf,this],fun x y z h1 h2=>by
   simp only[ltOf,decide_eq_true_eq]at *;exact tr _ _ _ x.2 y.2 z.2 h1 h2,fun x y z h1 h2=>by
   simp only[ltOf,decide_eq_false_iff_not]at *;exact ntr _ _ _ x.2 y.2 z.2 h1 h2⟩
  have hd:xs.toArray.size=ks.length:=by simp[hxl]
  have hcmp:CmpLays1 Tryz.prog g cb enc (fun x y:α=>cf x.1 y.1) G 0 xs.toArray.size w:=by intro m os dk hs x y;have:=hc _ (hback dk (by omega) m os).2 x.1 y.1 x.2 y.2;exact this
  have hs:=Any.slices_SortFunc (ρ:=jG) BB enc (fun _=>rfl) (fun x y:α=>cf x.1 y.1) hO g cb G 0 cap xs.toArray w eg hcmp hH hb (by omega);rw[hd]at hs;refine hs.mono ?_;rintro e w' ⟨rfl,d',n,os,hp,hsrt,rfl⟩;rw[<-hd]at hp hsrt;have hsz:d'.size=xs.toArray.size:=hp.1;have hpl:=D8 hp;rw[<-hsz]at hsrt;have hpw:=JU hsrt;obtain⟨h1,h2⟩:=hback d' (by omega) n os;refine⟨rfl,d'.toList.map (·.1),?_,?_,?_,h2⟩
  ·have:=hpl.map (·.1);simp only at this;rw[hxs]at this;exact this
  ·rw[uK];exact hpw.imp fun {a b} h=>by simpa[ltOf] using h
  ·rw[vY];exact h1
end Go.Proofs.YtkaajgoeahahpaaGreatDoor

namespace Go.Proofs.YtkaajgoeahahpaaGreatDoor
open Go.Value renaming int→B
open Go.IntKind renaming i64→C
open Go.RowKit
variable {i:Nat} {ks:List Nat}
def tF{α:Type}(xs:List α)(cf:α->Int)(i:Nat)(b:Bool):Prop:=i<=xs.length/\(b=true->∃x,xs[i]?=some x/\cf x=0)/\(b=false->∀x∈xs,cf x≠0)
structure Ae {α:Type} (xs:List α) (cf:α->Int):Prop where
 lo:∀(a b:Nat) x y,a<b->xs[a]?=some x->xs[b]?=some y->cf y<=0->cf x<0
 hi:∀(a b:Nat) x y,a<b->xs[a]?=some x->xs[b]?=some y->0<=cf x->0<cf y
theorem Jh{α:Type}{lt:α->α->Bool}{xs:List α}{cf:α->Int}(h:iT lt xs)(h1:∀x y,lt x y=true->cf y<=0->cf x<0)(h2:∀x y,lt x y=true->0<=cf x->0<cf y):Ae xs cf :=
 ⟨fun _ _ x y hab hx hy=>h1 x y (h.at_ hx hy hab),fun _ _ x y hab hx hy=>h2 x y (h.at_ hx hy hab)⟩
structure C9 {α:Type} (xs:List α) (cf:α->Int) (lo hi:Nat):Prop where
 le:lo<=hi
 len:hi<=xs.length
 low:∀(t:Nat) x,t<lo->xs[t]?=some x->cf x<0
 high:∀(t:Nat) x,hi<=t->xs[t]?=some x->0<=cf x
section
variable {α:Type} {xs:List α} {cf:α->Int} {lo hi h:Nat} {x:α}
theorem C9.start(xs:List α)(cf:α->Int):C9 xs cf 0 xs.length:=⟨by omega,by omega,fun t x ht=>by omega,fun t x ht hx=>by have:=(zY.1 hx).1;omega⟩
theorem C9.up(b:C9 xs cf lo hi)(m:Ae xs cf)(h1:h<hi)(hx:xs[h]?=some x)(hc:cf x<0):C9 xs cf (h+1) hi :=
 ⟨h1,b.len,fun t y ht hy=>by
  rcases zU t h with k|k
  ·exact m.lo t h y x k hy hx (by omega)
  ·obtain rfl:t=h:=by omega
   rw[hx]at hy;injection hy with hy;subst hy;exact hc,b.high⟩
theorem C9.down(b:C9 xs cf lo hi)(m:Ae xs cf)(h1:lo<=h)(h2:h<hi)(hx:xs[h]?=some x)(hc:0<=cf x):C9 xs cf lo h :=
 ⟨h1,by have:=b.len;omega,b.low,fun t y ht hy=>by
  rcases zU h t with k|k
  ·have:=m.hi h t x y k hx hy hc;omega
  ·obtain rfl:t=h:=by omega
   rw[hx]at hy;injection hy with hy;subst hy;exact hc⟩
theorem C9.hit(b:C9 xs cf lo lo)(hx:xs[lo]?=some x)(hc:cf x=0):tF xs cf lo true:=⟨b.len,fun _=>⟨x,hx,hc⟩,fun h=>by cases h⟩
theorem C9.miss(b:C9 xs cf lo lo)(m:Ae xs cf)(hx:∀y,xs[lo]?=some y->cf y≠0):tF xs cf lo false:=by
 refine⟨b.len,(fun h=>by cases h),fun _ y hy=>?_⟩;obtain⟨t,ht⟩:=zH hy;rcases xO t lo with k|k|k
 ·have:=b.low t y k ht;omega
 ·subst k;exact hx y ht
 ·obtain⟨z,hz⟩:∃z,xs[lo]?=some z:=⟨_,zV (by have:=(zY.1 ht).1;omega)⟩
  have h1:=b.high lo z (zX _) hz;have:=m.hi lo t z y k hz ht h1;omega
theorem tF.find{f:α->Bool}{b:Bool}(h:tF xs cf i b)(m:Ae xs cf)(hf:∀x∈xs,f x=true↔cf x=0):(b=true->∃x,xs[i]?=some x/\xs.find? f=some x)/\(b=false->xs.find? f=none):=by
 refine⟨fun hb=>?_,fun hb=>?_⟩
 ·obtain⟨x,hx,hc⟩:=h.2.1 hb;refine⟨x,hx,ja hx ((hf x (zW hx)).2 hc) fun j y hj hy=>?_⟩;have:=m.lo j i y x hj hy hx (by omega);cases e:f y with
  |false=>rfl
  |true=>have:=(hf y (zW hy)).1 e;omega
 ·refine mP fun j y hy=>?_;have:=h.2.2 hb y (zW hy);cases e:f y with
  |false=>rfl
  |true=>exact absurd ((hf y (zW hy)).1 e) this
end
open _root_.Go.Proofs.Tryz
theorem sB(a:Int)(w:World):Calls prog 119 #[B C a] w fun e w'=>e=.returned (.bool false)/\w=w':=by
 have h:(a != a)=false:=by simp
 go_enter func119,ntmps119
 go_wp2
 go_ret
 exact⟨rfl,rfl⟩
theorem fN(a b:Int)(w:World):Calls prog 75 #[B C a,B C b] w fun e w'=>e=.returned (B C (bg a b))/\w=w':=by
 go_enter func75,ntmps75
 go_wp2_with fail;refine (sB a _).mono ?_;rintro e w1 ⟨rfl,rfl⟩;go_wp2_with fail;refine (sB b _).mono ?_;rintro e w1 ⟨rfl,rfl⟩;rcases bJ a b with ⟨h,e⟩|⟨h,e⟩|⟨h,e⟩
 ·go_wp2
  go_ret
  exact⟨ag e.symm,rfl⟩
 ·subst h;have h1:decide (a<a)=false:=decide_eq_false (Int.lt_irrefl a);go_wp2
  go_ret
  exact⟨ag e.symm,rfl⟩
 ·have h1:decide (a<b)=false:=decide_eq_false (by omega);have h2:decide (b<a)=true:=decide_eq_true h;go_wp2
  go_ret
  exact⟨ag e.symm,rfl⟩
def nz(x:Int):Bool:=decide (x≠0)
theorem GS(v:Value)(l:List Int)(w:World){p:Nat}(h:ak p w v l):Calls prog 74 #[v] w fun e w'=>e=.returned (B C ((l.find? nz).getD 0))/\w=w':=by
 obtain⟨A,n,c,rfl,hnc,hc,hnn,HL⟩:=h.open_;have H:=zZ h;clear h;go_enter func74,ntmps74
 go_wp2
 go_loop [8] (fun i=>∃k:Nat,k<=n/\i=B C k/\Hid (∀(j:Nat) y,j<k->l[j]?=some y->nz y=false)) (fun i=>n-(intOf i).toNat)
 case atStart=>exact⟨0,xL _,rfl,fun j y hj=>by omega⟩
 case round =>
  obtain⟨k,hk,rfl,HK⟩:=hrel;by_cases hlt:k<n
  ·obtain⟨b,off,y,rfl,hcy,HY,hy1,hy2⟩:=H.out.at_ hlt;by_cases e:y=0
   ·have e1:(y != 0)=false:=by simp[e]
    have E:=zZ e;clear e;go_wp2
    go_round
    case rel=>exact⟨k+1,by omega,by go_num,fun j z hj hz=>by
     rcases zU j k with h|h
     ·exact HK.out j z h hz
     ·obtain rfl:j=k:=by omega
      rw[HY.out]at hz;injection hz with hz;subst hz;unfold nz;simp[E.out]⟩
    case measure=>simp[intOf];omega
   ·have e1:(y != 0)=true:=by simp[e]
    have E:=zZ e;clear e;go_wp2
    go_ret
    exact⟨ag (by rw[ja HY.out (by unfold nz;simp[E.out]) (HK.out)];rfl),rfl⟩
  ·obtain rfl:k=n:=by omega
   go_wp2
   go_ret
   exact⟨ag (by rw[mP (fun j y hy=>HK.out j y (by have:=(zY.1 hy).1;have:=HL.out;omega) hy)];rfl),rfl⟩
def eR(a b c d:Int):Int:=if bg a c≠0 then bg a c else bg b d
theorem uw(a b c d:Int):(([bg a c,bg b d]:List Int).find? nz).getD 0=eR a b c d:=by
 unfold eR nz;by_cases h:bg a c=0
 ·by_cases h2:bg b d=0<;>simp[h,h2]
 ·simp[h]
theorem cT(a b c d:Int):((a<c\/(a=c/\b<d))/\eR a b c d=-1)\/((a=c/\b=d)/\eR a b c d=0)\/((c<a\/(a=c/\d<b))/\eR a b c d=1):=by unfold eR;rcases bJ a c with ⟨h,e⟩|⟨h,e⟩|⟨h,e⟩<;>rcases bJ b d with ⟨h',e'⟩|⟨h',e'⟩|⟨h',e'⟩<;>rw[e,e']<;>simp<;>omega
theorem gC(a b:Int):-1<=bg a b/\bg a b<=1:=by rcases bJ a b with ⟨h,e⟩|⟨h,e⟩|⟨h,e⟩<;>omega
theorem qd(x y:Int)(w:World)(g c:Nat)(hx:-1<=x/\x<=1)(hy:-1<=y/\y<=1)(h:Bk w g #[B C x,B C y] 3):Calls prog 74 #[.slice (some ⟨g,0,none⟩) 2 2] w fun e w'=>e=.returned (B C (([x,y].find? nz).getD 0))/\w=w':=by
 refine GS (p:=g+1) _ [x,y] w ⟨some ⟨g,0,none⟩,2,rfl,zX _,by decide,by simp,fun z hz=>?_,fun k z hz=>?_⟩
 ·simp only[yM,wL,or_false]at hz;rcases hz with rfl|rfl<;>constructor<;>omega
 ·match k,hz with
  |0,hz=>simp at hz;subst hz;exact⟨g,0,rfl,by omega,h.c 0 rfl⟩
  |1,hz=>simp at hz;subst hz;exact⟨g,0,rfl,by omega,h.c 1 rfl⟩
  |k+2,hz=>simp at hz
theorem AA(a b d c:Int)(w:World):Calls prog 113 #[.agg #[B C a,B C b,B C d],B C c] w fun e w'=>e=.returned (B C (bg a c))/\ab w w':=by
 go_enter func113,ntmps113
 go_wp2_with fail;refine (fN a c _).mono ?_;rintro e w1 ⟨rfl,rfl⟩;go_wp2_with fail;go_ret
 exact⟨rfl,(zE _).alloc _⟩
def ef(S:List bN)(i:Nat):bN:=S[i]?.getD ⟨0,0,0⟩
def od(cl:List Int)(i:Nat):Int:=cl[i]?.getD 0
def gu(S:List bN)(i:Nat):gT:=⟨(ef S i).s,(ef S i).q⟩
def rZ(S:List bN)(i j:Nat):Bool:=et (gu S i) (gu S j)||(decide (gu S i=gu S j)&&decide (i<j))
def fU(S:List bN)(k:Nat):List Nat:=(List.range k).filter fun i=>dT (ef S i)
def qA(S:List bN)(cl:List Int)(F:List (Nat×Bool))(i:Nat):List (Nat×Bool):=match F.getLast? with
 |none=>F++[(i,false)]
 |some g=>if gu S g.1=gu S i then (if ef S g.1=ef S i/\od cl g.1=od cl i then F else F.dropLast++[(g.1,true)]) else F++[(i,false)]
def bZ(S:List bN)(cl:List Int)(ks:List Nat):List (Nat×Bool):=ks.foldl (qA S cl) []
def eN(F:List (Nat×Bool)):List Nat:=F.filterMap fun g=>if g.2 then none else some g.1
structure F6 (S:List bN) (cl:List Int) (ks:List Nat) (F:List (Nat×Bool)):Prop where
 asc:F.Pairwise fun a b=>et (gu S a.1) (gu S b.1)=true
 mem:∀g∈F,g.1∈ks/\(∀j∈ks,gu S j=gu S g.1->g.1<=j)/\(g.2=true↔∃j∈ks,gu S j=gu S g.1/\¬(ef S g.1=ef S j/\od cl g.1=od cl j))
 cov:∀j∈ks,∃g∈F,gu S g.1=gu S j
 top:∀g,F.getLast?=some g->∀j∈ks,gu S j=gu S g.1\/et (gu S j) (gu S g.1)=true
section
variable {S:List bN} {cl:List Int}
theorem iK(ks:List Nat)(i:Nat):bZ S cl (ks++[i])=qA S cl (bZ S cl ks) i:=by unfold bZ;rw[uR];rfl
theorem mM(a:gT):et a a=false:=qo.irr a
theorem F6.fresh{F:List (Nat×Bool)}(h:F6 S cl ks F)(hn:∀j∈ks,et (gu S j) (gu S i)=true):F6 S cl (ks++[i]) (F++[(i,false)]):=by
 have hne:∀j∈ks,gu S j≠gu S i:=fun j hj e=>by have:=hn j hj;rw[e,mM]at this;cases this
 refine⟨?_,fun g hg=>?_,fun j hj=>?_,fun g hg j hj=>?_⟩
 ·rw[xJ];refine⟨h.asc,wR _ _,fun a ha b hb=>?_⟩;obtain rfl:b=(i,false):=by simpa using hb
  exact hn a.1 (h.mem a ha).1
 ·rcases zM.1 hg with hg|hg
  ·obtain⟨h1,h2,h3⟩:=h.mem g hg;refine⟨xH _ h1,fun j hj e=>?_,?_⟩
   ·rcases zM.1 hj with hj|hj
    ·exact h2 j hj e
    ·obtain rfl:j=i:=by simpa using hj
     exact absurd e.symm (hne g.1 h1)
   ·rw[h3];constructor
    ·rintro⟨j,hj,h⟩;exact⟨j,xH _ hj,h⟩
    ·rintro⟨j,hj,e,h⟩;rcases zM.1 hj with hj|hj
     ·exact⟨j,hj,e,h⟩
     ·obtain rfl:j=i:=by simpa using hj
      exact absurd e.symm (hne g.1 h1)
  ·obtain rfl:g=(i,false):=by simpa using hg
   refine⟨by simp,fun j hj e=>?_,?_⟩
   ·rcases zM.1 hj with hj|hj
    ·exact absurd e (hne j hj)
    ·obtain rfl:j=i:=by simpa using hj
     exact zX _
   ·simp only[Bool.false_eq_true,false_iff];rintro⟨j,hj,e,h⟩;rcases zM.1 hj with hj|hj
    ·exact absurd e (hne j hj)
    ·obtain rfl:j=i:=by simpa using hj
     exact h ⟨rfl,rfl⟩
 ·rcases zM.1 hj with hj|hj
  ·obtain⟨g,hg,e⟩:=h.cov j hj;exact⟨g,xH _ hg,e⟩
  ·obtain rfl:j=i:=by simpa using hj
   exact⟨(j,false),by simp,rfl⟩
 ·obtain rfl:g=(i,false):=by simpa using hg.symm
  rcases zM.1 hj with hj|hj
  ·exact .inr (hn j hj)
  ·obtain rfl:j=i:=by simpa using hj
   exact .inl rfl
theorem KG:∀(ks:List Nat),ks.Pairwise (fun a b=>rZ S a b=true)->F6 S cl ks (bZ S cl ks):=by
 intro ks;induction ks using ic with
 |h0=>exact fun _=>⟨xE,fun g hg=>by simp[bZ]at hg,fun j hj=>by simp at hj,fun g _ j hj=>by simp at hj⟩
 |h1 ks i ih =>
  intro hp;obtain⟨p1,-,p3⟩:=xJ.1 hp;have hi:∀j∈ks,et (gu S j) (gu S i)=true\/(gu S j=gu S i/\j<i):=fun j hj=>by have:=p3 j hj i (by simp);unfold rZ at this;simpa using this
  have h:=ih p1;rw[iK];unfold qA;cases hl:(bZ S cl ks).getLast? with
  |none =>
   have hF:bZ S cl ks=[]:=List.getLast?_eq_none_iff.1 hl;have hks:ks=[]:=by
    cases hk:ks with
    |nil=>rfl
    |cons a t=>obtain⟨g,hg,_⟩:=h.cov a (by rw[hk];simp);rw[hF]at hg;simp at hg
   simp only;refine h.fresh fun j hj=>by rw[hks]at hj;simp at hj
  |some g =>
   simp only;obtain⟨F',hF⟩:∃F',bZ S cl ks=F'++[g]:=⟨_,(List.getLast?_eq_some_iff.1 hl).choose_spec⟩
   have hgm:g∈bZ S cl ks:=by rw[hF];simp
   obtain⟨g1,g2,g3⟩:=h.mem g hgm;by_cases e:gu S g.1=gu S i
   ·rw[if_pos e];have hgi:g.1<=i:=by
     rcases hi g.1 g1 with h'|h'
     ·rw[e,mM]at h';cases h'
     ·omega
    have key:∀b,(b=true↔∃j∈ks++[i],gu S j=gu S g.1/\¬(ef S g.1=ef S j/\od cl g.1=od cl j))->F6 S cl (ks++[i]) (F'++[(g.1,b)]):=by
     intro b hb;have ha:=h.asc;rw[hF,xJ]at ha;have hF':∀x∈F',et (gu S x.1) (gu S g.1)=true:=fun x hx=>ha.2.2 x hx g (by simp);refine⟨?_,fun x hx=>?_,fun j hj=>?_,fun x hx j hj=>?_⟩
     ·rw[xJ];refine⟨ha.1,wR _ _,fun a ha b hb=>?_⟩;obtain rfl:=by simpa using hb
      exact hF' a ha
     ·rcases zM.1 hx with hx|hx
      ·obtain⟨x1,x2,x3⟩:=h.mem x (by rw[hF];exact xH _ hx);have hne:gu S i≠gu S x.1:=fun e'=>by have:=hF' x hx;rw[e,e',mM]at this;cases this
       refine⟨xH _ x1,fun j hj e'=>?_,?_⟩
       ·rcases zM.1 hj with hj|hj
        ·exact x2 j hj e'
        ·obtain rfl:j=i:=by simpa using hj
         exact absurd e' hne
       ·rw[x3];constructor
        ·rintro⟨j,hj,h⟩;exact⟨j,xH _ hj,h⟩
        ·rintro⟨j,hj,e',h⟩;rcases zM.1 hj with hj|hj
         ·exact⟨j,hj,e',h⟩
         ·obtain rfl:j=i:=by simpa using hj
          exact absurd e' hne
      ·obtain rfl:x=(g.1,b):=by simpa using hx
       refine⟨xH _ g1,fun j hj e'=>?_,hb⟩;rcases zM.1 hj with hj|hj
       ·exact g2 j hj e'
       ·obtain rfl:j=i:=by simpa using hj
        exact hgi
     ·have hcov:∀j',gu S j'=gu S g.1->∃g'∈F'++[(g.1,b)],gu S g'.1=gu S j':=fun j' e'=>⟨(g.1,b),by simp,e'.symm⟩
      rcases zM.1 hj with hj|hj
      ·obtain⟨x,hx,ex⟩:=h.cov j hj;rw[hF]at hx;rcases zM.1 hx with hx|hx
       ·exact⟨x,xH _ hx,ex⟩
       ·obtain rfl:x=g:=by simpa using hx
        exact hcov j ex.symm
      ·obtain rfl:j=i:=by simpa using hj
       exact hcov j e.symm
     ·obtain rfl:x=(g.1,b):=by simpa using hx.symm
      rcases zM.1 hj with hj|hj
      ·exact h.top g hl j hj
      ·obtain rfl:j=i:=by simpa using hj
       exact .inl e.symm
    by_cases hs:ef S g.1=ef S i/\od cl g.1=od cl i
    ·rw[if_pos hs];have:=key g.2 (by
      rw[g3];constructor
      ·rintro⟨j,hj,h⟩;exact⟨j,xH _ hj,h⟩
      ·rintro⟨j,hj,e',h⟩;rcases zM.1 hj with hj|hj
       ·exact⟨j,hj,e',h⟩
       ·obtain rfl:j=i:=by simpa using hj
        exact absurd hs h)
     rw[hF];exact this
    ·rw[if_neg hs];have:=key true (by simp only[true_iff];exact⟨i,by simp,e.symm,hs⟩);rw[hF,List.dropLast_concat];exact this
   ·rw[if_neg e];refine h.fresh fun j hj=>?_;have hlt:et (gu S g.1) (gu S i)=true:=by
     rcases hi g.1 g1 with h'|h'
     ·exact h'
     ·exact absurd h'.1 e
    rcases h.top g hl j hj with h'|h'
    ·rw[h'];exact hlt
    ·exact qo.tr _ _ _ h' hlt
theorem mI{a:bN}(h:S[i]?=some a):ef S i=a:=by unfold ef;rw[h];rfl
theorem i8(h:i<S.length):S[i]?=some (ef S i):=by unfold ef;rw[zV h];rfl
theorem DO(h:i<cl.length):cl[i]?=some (od cl i):=by unfold od;rw[zV h];rfl
theorem jS{j:Nat}:gu S i=gu S j↔(ef S i).s=(ef S j).s/\(ef S i).q=(ef S j).q:=by unfold gu;rw[gT.eq_iff]
theorem ov{k:Nat}:i∈fU S k↔i<k/\dT (ef S i)=true:=by unfold fU;rw[xR,yX]
theorem jN(hl:cl.length=S.length)(hp:ks.Perm (fU S S.length))(ha:ks.Pairwise (fun a b=>rZ S a b=true)) :
  i∈eN (bZ S cl ks)↔i<S.length/\iR S cl i=true:=by
 have G:=KG (cl:=cl) ks ha;have hm:∀j,j∈ks↔j<S.length/\dT (ef S j)=true:=fun j=>by rw[hp.mem_iff,ov]
 have hag:∀i j,i<S.length->j<S.length->Gg S cl i j=(dT (ef S j)&&(iz (ef S i) (ef S j) (od cl i) (od cl j)||(decide (j<i)&&decide (ef S j=ef S i)))) :=
  fun i j hi hj=>jU (i8 hi) (i8 hj) (DO (by omega)) (DO (by omega))
 unfold eN;rw[List.mem_filterMap];constructor
 ·rintro⟨g,hg,he⟩;obtain⟨g1,g2,g3⟩:=G.mem g hg;cases hd:g.2 with
  |true=>rw[hd]at he;simp at he
  |false =>
   rw[hd]at he g3;obtain rfl:g.1=i:=by simpa using he
   obtain⟨k1,k2⟩:=(hm g.1).1 g1;refine⟨k1,(gR (i8 k1)).2 ⟨k2,fun j hj=>?_⟩⟩;rw[hag _ _ k1 hj];cases hv:dT (ef S j) with
   |false=>rfl
   |true =>
    have hjk:=(hm j).2 ⟨hj,hv⟩;rw[yK,vU];constructor
    ·unfold iz;rw[decide_eq_false_iff_not];rintro⟨e1,e2,e3⟩;have hn:¬(ef S g.1=ef S j/\od cl g.1=od cl j):=by
      rintro⟨q1,q2⟩;rw[q1]at e3;rcases e3 with e3|e3
      ·exact e3 rfl
      ·exact e3 q2
     have:=g3.2 ⟨j,hjk,jS.2 ⟨e1.symm,e2.symm⟩,hn⟩;cases this
    ·by_cases hji:j<g.1
     ·rw[decide_eq_true hji,yK,decide_eq_false_iff_not];intro e;have:=g2 j hjk (jS.2 ⟨by rw[e],by rw[e]⟩);omega
     ·rw[decide_eq_false hji];rfl
 ·rintro⟨hi,hc⟩;obtain⟨c1,c2⟩:=(gR (i8 hi)).1 hc;obtain⟨g,hg,e⟩:=G.cov i ((hm i).2 ⟨hi,c1⟩);obtain⟨g1,g2,g3⟩:=G.mem g hg;have hgl:=(hm g.1).1 g1;have hle:=g2 i ((hm i).2 ⟨hi,c1⟩) e.symm;have no:∀j,j<S.length->dT (ef S j)=true->gu S i=gu S j->ef S i=ef S j/\od cl i=od cl j/\¬j<i:=by
   intro j hj hv hid;have:=c2 j hj;rw[hag _ _ hi hj,hv,yK,vU]at this;obtain⟨t1,t2⟩:=this;unfold iz at t1;rw[decide_eq_false_iff_not]at t1;obtain⟨i1,i2⟩:=jS.1 hid;have ht:(ef S i).t=(ef S j).t:=by
    by_cases e:(ef S i).t=(ef S j).t
    ·exact e
    ·exact absurd ⟨i1,i2,.inl e⟩ t1
   have hk:od cl i=od cl j:=by
    by_cases e:od cl i=od cl j
    ·exact e
    ·exact absurd ⟨i1,i2,.inr e⟩ t1
   have hs:ef S i=ef S j:=(bN.eq_iff _ _).2 ⟨ht,i1,i2⟩;refine⟨hs,hk,fun hji=>?_⟩;rw[decide_eq_true hji,hs,decide_eq_true rfl]at t2;cases t2
  have hgi:g.1=i:=by have:=(no g.1 hgl.1 hgl.2 e.symm).2.2;omega
  refine⟨g,hg,?_⟩;have hd:g.2=false:=by
   cases hd:g.2 with
   |false=>rfl
   |true =>
    obtain⟨j,hj,e',hn⟩:=g3.1 hd;obtain⟨j1,j2⟩:=(hm j).1 hj;rw[hgi]at e' hn;obtain⟨q1,q2,_⟩:=no j j1 j2 e'.symm;exact absurd ⟨q1,q2⟩ hn
  rw[hd,hgi];rfl
theorem mQ(ha:ks.Pairwise (fun a b=>rZ S a b=true)):(eN (bZ S cl ks)).Nodup:=by
 have G:=KG (cl:=cl) ks ha;unfold eN List.Nodup;rw[List.pairwise_filterMap];refine G.asc.imp fun {a b} h x hx y hy=>?_;split at hx
 ·cases hx
 ·split at hy
  ·cases hy
  ·injection hx with hx;injection hy with hy;subst hx;subst hy;intro e;rw[e,mM]at h;cases h
theorem BY(hl:cl.length=S.length)(hp:ks.Perm (fU S S.length))(ha:ks.Pairwise (fun a b=>rZ S a b=true)) :
  ((eN (bZ S cl ks)).map fun i:Nat=>(i:Int)).Perm (kh S cl S.length):=by
 unfold kh;refine List.Perm.map _ ((List.perm_ext_iff_of_nodup (mQ ha) (List.Nodup.sublist List.filter_sublist List.nodup_range)).2 fun i=>?_);rw[jN hl hp ha,xR,yX]
end
def Df(l:List aj)(cls:List Int):Prop:=cls.length=l.length/\∀(i:Nat) (a:aj),l[i]?=some a->∃(c:Nat) (b:aj),c<=i/\l[c]?=some b/\b.st=a.st/\(∀(j:Nat) (d:aj),j<c->l[j]?=some d->d.st≠a.st)/\cls[i]?=some (if b=a then 0 else 1)
theorem BC{l:List aj}{cls:List Int}(hc:Df l cls){a:aj}(ha:l[i]?=some a):iR (l.map aj.st) cls i=true↔qC l a=true/\∀j,j<i->l[j]?≠some a:=by
 have hil:=(zY.1 ha).1;have hst:(l.map aj.st)[i]?=some a.st:=by simp[ha]
 obtain⟨ci,bi,hci,hbi,hsi,hni,hxi⟩:=hc.2 i a ha;rw[gR hst,eu];constructor
 ·rintro⟨h1,h2⟩;have hfirst:ci=i:=by
   rcases zU ci i with hlt|hge
   ·have hcl:=(zY.1 hbi).1;have hag:=h2 ci (by simpa using hcl);obtain⟨_,_,_,_,_,_,hxc⟩:=hc.2 ci bi hbi;rw[jU hst (b:=bi.st) (by simp[hbi]) hxi hxc,hsi,h1,yK,vU]at hag;have:=hag.2;rw[decide_eq_true hlt,decide_eq_true rfl]at this;cases this
   ·omega
  subst hfirst;rw[ha]at hbi;injection hbi with hbi;subst hbi;refine⟨⟨h1,fun d hd hv hid=>?_⟩,fun j hj e=>hni j a hj e rfl⟩;obtain⟨k,hk⟩:=zH hd;have hkl:=(zY.1 hk).1;obtain⟨ck,bk,hck,hbk,hsk,hnk,hxk⟩:=hc.2 k d hk;have hag:=h2 k (by simpa using hkl);rw[jU hst (b:=d.st) (by simp[hk]) hxi hxk,hv,yK,vU]at hag;have h3:=hag.1;unfold iz at h3;rw[decide_eq_false_iff_not]at h3;have hid':d.st.s=a.st.s/\d.st.q=a.st.q:=by unfold aj.id at hid;rw[gT.eq_iff]at hid;exact hid
  have ht:a.st.t=d.st.t:=by
   by_cases e:a.st.t=d.st.t
   ·exact e
   ·exact absurd ⟨hid'.1.symm,hid'.2.symm,.inl e⟩ h3
  have hda:d.st=a.st:=(bN.eq_iff _ _).2 ⟨ht.symm,hid'.1,hid'.2⟩;have hcc:ck=ci:=by
   rcases xO ck ci with h|h|h
   ·exact absurd (hsk.trans hda) (hni ck bk h hbk)
   ·exact h
   ·exact absurd hda.symm (hnk ci a h ha)
  subst hcc;rw[ha]at hbk;injection hbk with hbk;subst hbk;by_cases e:a=d
  ·exact e.symm
  ·have hne:(if a=a then (0:Int) else 1)≠(if a=d then 0 else 1):=by rw[if_pos rfl,if_neg e];decide
   exact absurd ⟨hid'.1.symm,hid'.2.symm,.inr hne⟩ h3
 ·rintro⟨⟨h1,h2⟩,h3⟩;refine⟨h1,fun k hk=>?_⟩;have hkl:k<l.length:=by simpa using hk
  have hd:l[k]?=some (l[k]'hkl):=zV _;generalize l[k]'hkl=d at hd;obtain⟨ck,bk,hck,hbk,hsk,hnk,hxk⟩:=hc.2 k d hd;rw[jU hst (b:=d.st) (by simp[hd]) hxi hxk];cases hv:dT d.st with
  |false=>rfl
  |true =>
   rw[yK,vU];have key:∀(x:Nat) (y:aj),l[x]?=some y->dT y.st=true->y.id=a.id->y=a:=fun x y hx=>h2 y (zW hx);constructor
   ·unfold iz;rw[decide_eq_false_iff_not];rintro⟨e1,e2,e3⟩;have e4:=key k d hd hv (by unfold aj.id;rw[gT.eq_iff];exact⟨e1.symm,e2.symm⟩);subst e4;have ebi:bi=d:=key ci bi hbi (by rw[hsi];exact h1) (by unfold aj.id;rw[hsi]);have ebk:bk=d:=key ck bk hbk (by rw[hsk];exact h1) (by unfold aj.id;rw[hsk]);rw[ebi,ebk]at e3;rcases e3 with e3|e3<;>exact e3 rfl
   ·by_cases hki:k<i
    ·rw[decide_eq_true hki,yK,decide_eq_false_iff_not];intro e;have e4:=key k d hd hv (by unfold aj.id;rw[e]);exact h3 k hki (by rw[hd,e4])
    ·rw[decide_eq_false hki];rfl
theorem Hv{α:Type}{l:List α}{a:α}(h:a∈l):∃i:Nat,l[i]?=some a/\∀j:Nat,j<i->l[j]?≠some a:=by
 induction l with
 |nil=>simp at h
 |cons x t ih =>
  by_cases e:x=a
  ·exact⟨0,by simp[e],fun j hj=>by omega⟩
  ·obtain⟨i,h1,h2⟩:=ih (by rcases yM.1 h with h|h;exact absurd h.symm e;exact h);refine⟨i+1,by simpa using h1,fun j hj=>?_⟩;match j with
   |0=>simpa using e
   |j+1=>simpa using h2 j (by omega)
theorem Ew{l:List aj}{cls:List Int}(hc:Df l cls){out:List Int}(h:eQ (l.map aj.st) cls l.length out):eM l out=ay l:=by
 refine ir ?_ fun a=>?_
 ·unfold iT eM;rw[List.pairwise_filterMap];refine h.asc.imp_of_mem fun {x y} hx hy hxy a ha b hb=>?_;obtain⟨i,rfl,_,_⟩:=h.mem.1 hx;obtain⟨j,rfl,_,_⟩:=h.mem.1 hy;rw[yC]at ha hb;rw[pi (a:=a.st) (b:=b.st) (by simp[ha]) (by simp[hb])]at hxy;exact hxy
 ·unfold eM;rw[List.mem_filterMap];constructor
  ·rintro⟨x,hx,ha⟩;obtain⟨i,rfl,hi,hci⟩:=h.mem.1 hx;rw[yC]at ha;exact⟨zW ha,((BC hc ha).1 hci).1⟩
  ·rintro⟨hm,hcn⟩;obtain⟨i,hi,hn⟩:=Hv hm;exact⟨(i:Int),h.mem.2 ⟨i,rfl,(zY.1 hi).1,(BC hc hi).2 ⟨hcn,hn⟩⟩,by rw[yC];exact hi⟩
end Go.Proofs.YtkaajgoeahahpaaGreatDoor

