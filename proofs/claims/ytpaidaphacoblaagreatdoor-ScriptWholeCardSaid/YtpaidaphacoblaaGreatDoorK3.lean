import Derived.Test.YtpaidaphacoblaaGreatDoorK2
import Derived.Lib.Strings
import Derived.Lib.IndexBytes
import Derived.Deep.RegionLaw
set_option linter.all false
set_option maxRecDepth 100000
set_option maxHeartbeats 0
namespace Go.Proofs.YtpaidaphacoblaaGreatDoor
open Go.Value renaming int→B,slice→D
open Go.IntKind renaming i64→C
open Go.RowKit
variable {b base e n size:Nat} {w:World} {a:Addr} {v:Value} {xs:List Value}
structure cJ where
 p:Int
 c:Int
 g:Int
 v:Int
structure gT where
 s:Int
 q:Int
structure bN where
 t:Int
 s:Int
 q:Int
structure aj where
 st:bN
 kind:Int
 str:List UInt8
 cont:Int
 ch:List Int
 tgt:gT
 lab:cJ
structure dF where
 scan:gT
 state:Int
 lab:cJ
structure Pg where
 cand:Int
 page:Int
 cont:Int
 ch:List Int
 scan:gT
structure fv where
 cand:Int
 cen:Int
 var:Int
structure je where
 code:Int
 var:Int
 ps:List av
structure dl where
 num:Int
 pap:List je
 bk:List (List (List Int))
 xp:List fv
structure r6 where
 sts:List dF
 pgs:List Pg
theorem cJ.eq_iff(a b:cJ):a=b↔a.p=b.p/\a.c=b.c/\a.g=b.g/\a.v=b.v:=by
 constructor
 ·rintro rfl;exact⟨rfl,rfl,rfl,rfl⟩
 ·obtain⟨⟩:=a;obtain⟨⟩:=b;rintro⟨rfl,rfl,rfl,rfl⟩;rfl
instance:DecidableEq cJ:=fun a b=>decidable_of_iff _ (cJ.eq_iff a b).symm
theorem gT.eq_iff(a b:gT):a=b↔a.s=b.s/\a.q=b.q:=by
 constructor
 ·rintro rfl;exact⟨rfl,rfl⟩
 ·obtain⟨⟩:=a;obtain⟨⟩:=b;rintro⟨rfl,rfl⟩;rfl
instance:DecidableEq gT:=fun a b=>decidable_of_iff _ (gT.eq_iff a b).symm
theorem bN.eq_iff(a b:bN):a=b↔a.t=b.t/\a.s=b.s/\a.q=b.q:=by
 constructor
 ·rintro rfl;exact⟨rfl,rfl,rfl⟩
 ·obtain⟨⟩:=a;obtain⟨⟩:=b;rintro⟨rfl,rfl,rfl⟩;rfl
instance:DecidableEq bN:=fun a b=>decidable_of_iff _ (bN.eq_iff a b).symm
theorem aj.eq_iff(a b:aj):a=b↔a.st=b.st/\a.kind=b.kind/\a.str=b.str/\a.cont=b.cont/\a.ch=b.ch/\a.tgt=b.tgt/\a.lab=b.lab:=by
 constructor
 ·rintro rfl;exact⟨rfl,rfl,rfl,rfl,rfl,rfl,rfl⟩
 ·obtain⟨⟩:=a;obtain⟨⟩:=b;rintro⟨h1,h2,h3,h4,h5,h6,h7⟩;simp only at h1 h2 h3 h4 h5 h6 h7;subst h1;subst h2;subst h3;subst h4;subst h5;subst h6;subst h7;rfl
instance:DecidableEq aj:=fun a b=>decidable_of_iff _ (aj.eq_iff a b).symm
theorem dF.eq_iff(a b:dF):a=b↔a.scan=b.scan/\a.state=b.state/\a.lab=b.lab:=by
 constructor
 ·rintro rfl;exact⟨rfl,rfl,rfl⟩
 ·obtain⟨⟩:=a;obtain⟨⟩:=b;rintro⟨h1,h2,h3⟩;simp only at h1 h2 h3;subst h1;subst h2;subst h3;rfl
instance:DecidableEq dF:=fun a b=>decidable_of_iff _ (dF.eq_iff a b).symm
theorem Pg.eq_iff(a b:Pg):a=b↔a.cand=b.cand/\a.page=b.page/\a.cont=b.cont/\a.ch=b.ch/\a.scan=b.scan:=by
 constructor
 ·rintro rfl;exact⟨rfl,rfl,rfl,rfl,rfl⟩
 ·obtain⟨⟩:=a;obtain⟨⟩:=b;rintro⟨h1,h2,h3,h4,h5⟩;simp only at h1 h2 h3 h4 h5;subst h1;subst h2;subst h3;subst h4;subst h5;rfl
instance:DecidableEq Pg:=fun a b=>decidable_of_iff _ (Pg.eq_iff a b).symm
def cJ.zero:cJ:=⟨0,0,0,0⟩
def cJ.val(l:cJ):Value:=.agg #[B C l.p,B C l.c,B C l.g,B C l.v]
def cJ.wf(l:cJ):Prop:=aU l.p/\aU l.c/\aU l.g/\aU l.v
def gT.wf(l:gT):Prop:=aU l.s/\aU l.q
def bN.cells(l:bN):List Value:=[B C l.t,B C l.s,B C l.q]
def bN.wf(l:bN):Prop:=aU l.t/\aU l.s/\aU l.q
def fv.cells(l:fv):List Value:=[B C l.cand,B C l.cen,B C l.var]
def fv.wf(l:fv):Prop:=aU l.cand/\aU l.cen/\aU l.var
def dF.cells(l:dF):List Value:=[B C l.scan.s,B C l.scan.q,B C l.state,B C l.lab.p,B C l.lab.c,B C l.lab.g,B C l.lab.v]
def dF.wf(l:dF):Prop:=l.scan.wf/\aU l.state/\l.lab.wf
def aj.id(c:aj):gT:=⟨c.st.s,c.st.q⟩
noncomputable def jK(s:dl)(i:Nat):Bool:=match s.pap[i]?,s.bk[i]? with
 |some q,some b=>fD q.code q.var q.ps&&(decide (q.code=s.num)&&(decide (q.var=(i:Int))&&jH q.code q.var q.ps b))
 |_,_=>false
def ud(n:Nat)(x:fv):Bool:=decide (0<=x.cand/\x.cand<=9999/\1<=x.cen/\x.cen<=99/\0<=x.var/\x.var<(n:Int))
def lW(l:List fv)(i:Nat):Bool:=match l[i]?,l[i+1]? with
 |some a,some b=>decide (a.cand<b.cand)
 |_,_=>true
noncomputable def aC(s:dl):Int :=
 if ¬(0<=s.num/\s.num<=31) then 2
 else if ¬(1<=s.pap.length/\s.pap.length<=4/\s.xp.length<=60) then 3
 else if s.bk.length≠s.pap.length then 1
 else if (List.range s.pap.length).all (jK s)=false then 1
 else if s.xp.all (ud s.pap.length)=false then 2
 else if (List.range (s.xp.length-1)).all (lW s.xp)=false then 5
 else 0
section
variable {s:dl}
theorem tk(h:¬(0<=s.num/\s.num<=31)):aC s=2:=by unfold aC;rw[if_pos h]
theorem te(h:0<=s.num/\s.num<=31)(h2:¬(1<=s.pap.length/\s.pap.length<=4/\s.xp.length<=60)):aC s=3:=by unfold aC;rw[if_neg (by simpa using h),if_pos h2]
theorem AV(h:0<=s.num/\s.num<=31)(h2:1<=s.pap.length/\s.pap.length<=4/\s.xp.length<=60)(h3:s.bk.length≠s.pap.length):aC s=1:=by unfold aC;rw[if_neg (by simpa using h),if_neg (by simpa using h2),if_pos h3]
theorem jn(h:0<=s.num/\s.num<=31)(h2:1<=s.pap.length/\s.pap.length<=4/\s.xp.length<=60)(h3:s.bk.length=s.pap.length)(h4:(List.range s.pap.length).all (jK s)=false):aC s=1:=by unfold aC;rw[if_neg (by simpa using h),if_neg (by simpa using h2),if_neg (by simpa using h3),if_pos h4]
theorem mF(h:0<=s.num/\s.num<=31)(h2:1<=s.pap.length/\s.pap.length<=4/\s.xp.length<=60)(h3:s.bk.length=s.pap.length)(h4:(List.range s.pap.length).all (jK s)=true) :
  aC s=if s.xp.all (ud s.pap.length)=false then 2 else if (List.range (s.xp.length-1)).all (lW s.xp)=false then 5 else 0:=by
 unfold aC;rw[if_neg (by simpa using h),if_neg (by simpa using h2),if_neg (by simpa using h3),if_neg (by simp[h4])]
structure dU (s:dl):Prop where
 num:0<=s.num/\s.num<=31
 len:1<=s.pap.length/\s.pap.length<=4/\s.xp.length<=60
 bks:s.bk.length=s.pap.length
 pap:∀i,i<s.pap.length->jK s i=true
 xps:∀x∈s.xp,ud s.pap.length x=true
 asc:∀i,i+1<s.xp.length->lW s.xp i=true
theorem iL:aC s=0↔dU s:=by
 constructor
 ·intro h;unfold aC at h;by_cases h1:0<=s.num/\s.num<=31;case neg=>rw[if_pos h1]at h;omega
  rw[if_neg (by simpa using h1)]at h;by_cases h2:1<=s.pap.length/\s.pap.length<=4/\s.xp.length<=60;case neg=>rw[if_pos h2]at h;omega
  rw[if_neg (by simpa using h2)]at h;by_cases h3:s.bk.length=s.pap.length;case neg=>rw[if_pos h3]at h;omega
  rw[if_neg (by simpa using h3)]at h;cases h4:(List.range s.pap.length).all (jK s) with
  |false=>rw[if_pos h4]at h;omega
  |true =>
   rw[if_neg (by simp[h4])]at h;cases h5:s.xp.all (ud s.pap.length) with
   |false=>rw[if_pos h5]at h;omega
   |true =>
    rw[if_neg (by simp[h5])]at h;cases h6:(List.range (s.xp.length-1)).all (lW s.xp) with
    |false=>rw[if_pos h6]at h;omega
    |true=>exact⟨h1,h2,h3,fun i hi=>xS.1 h4 i (yX.2 hi),fun x hx=>xS.1 h5 x hx,fun i hi=>xS.1 h6 i (yX.2 (by omega))⟩
 ·intro h;rw[mF h.num h.len h.bks (xS.2 fun i hi=>h.pap i (yX.1 hi)),if_neg,if_neg]
  ·rw[xS.2 fun i hi=>h.asc i (by have:=yX.1 hi;omega)];simp
  ·rw[xS.2 h.xps];simp
end
def dT(s:bN):Bool:=decide (0<=s.t/\s.t<=1000000/\0<=s.s/\s.s<=99/\0<=s.q/\s.q<=9999)
def gY(a b:bN):Bool:=decide (a.t<b.t\/(a.t=b.t/\(a.s<b.s\/(a.s=b.s/\a.q<b.q))))
def et(a b:gT):Bool:=decide (a.s<b.s\/(a.s=b.s/\a.q<b.q))
def rV(a b:aj):Bool:=gY a.st b.st
def qC(l:List aj)(c:aj):Bool:=dT c.st&&l.all fun d=>!(dT d.st&&decide (d.id=c.id))||decide (d=c)
theorem eu{l:List aj}{c:aj}:qC l c=true↔dT c.st=true/\∀d∈l,dT d.st=true->d.id=c.id->d=c:=by
 unfold qC;rw[yT,xS];constructor
 ·rintro⟨h1,h2⟩;refine⟨h1,fun d hd hv hi=>?_⟩;have:=h2 d hd;rw[hv,decide_eq_true hi]at this;simpa using this
 ·rintro⟨h1,h2⟩;refine⟨h1,fun d hd=>?_⟩;cases hv:dT d.st with
  |false=>rfl
  |true =>
   by_cases hi:d.id=c.id
   ·rw[decide_eq_true hi,decide_eq_true (h2 d hd hv hi)];rfl
   ·rw[decide_eq_false hi];rfl
def ay(l:List aj):List aj:=CS rV (l.filter (qC l))
theorem eF:xj gY:=⟨fun a=>by unfold gY;simp,fun a b c h1 h2=>by unfold gY at *;simp only[decide_eq_true_eq]at *;omega⟩
theorem qo:xj et:=⟨fun a=>by unfold et;simp,fun a b c h1 h2=>by unfold et at *;simp only[decide_eq_true_eq]at *;omega⟩
theorem qk:xj rV:=⟨fun a=>eF.irr a.st,fun a b c=>eF.tr a.st b.st c.st⟩
theorem Jo{a b:gT}(h:a≠b):et a b=true\/et b a=true:=by rw[Ne,gT.eq_iff]at h;unfold et;simp only[decide_eq_true_eq];omega
theorem uu{a b:bN}(h:a.s≠b.s\/a.q≠b.q):gY a b=true\/gY b a=true:=by unfold gY;simp only[decide_eq_true_eq];omega
theorem GK{l:List aj}{a b:aj}(ha:a∈l)(h1:qC l a=true)(hb:qC l b=true)(hi:a.id=b.id):a=b :=
 (eu.1 hb).2 a ha (eu.1 h1).1 hi
theorem gf{l:List aj}{c:aj}:c∈ay l↔c∈l/\qC l c=true:=by unfold ay;rw[Cd,xR]
theorem jE(l:List aj):iT rV (ay l):=by refine Gu qk fun a ha b hb hab=>?_;have h1:=xR.1 ha;have h2:=xR.1 hb;refine uu ?_;have:a.id≠b.id:=fun e=>hab (GK h1.1 h1.2 h2.2 e);rw[Ne,gT.eq_iff]at this;unfold aj.id at this;simp only at this;omega
theorem ir{l out:List aj}(h:iT rV out)(hm:∀c,c∈out↔c∈l/\qC l c=true):out=ay l :=
 IB qk h (jE l) fun c=>by rw[hm,gf]
theorem sD{l l':List aj}(h:∀c,c∈l↔c∈l'):ay l=ay l':=by refine ir (jE l) fun c=>?_;rw[gf,h];refine and_congr_right fun _=>?_;rw[eu,eu];exact and_congr_right fun _=>⟨fun k d hd=>k d ((h d).2 hd),fun k d hd=>k d ((h d).1 hd)⟩
theorem sN{l:List aj}:(ay l).Pairwise fun a b=>a.id≠b.id:=by refine (jE l).imp_of_mem fun {a b} ha hb hab e=>?_;have h1:=gf.1 ha;have h2:=gf.1 hb;have:=GK h1.1 h1.2 h2.2 e;subst this;rw[qk.irr]at hab;cases hab
def bl(s:ByteArray):List UInt8:=s.data.toList
theorem aO(s:ByteArray):(bl s).length=s.size:=(Lib.size_eq s).symm
theorem Dz(l:List UInt8):bl ⟨l.toArray⟩=l:=by simp[bl]
theorem pj(a b:ByteArray):bl (a++b)=bl a++bl b:=by simp[bl,ByteArray.data_append]
theorem Hs(s:ByteArray)(a b:Nat):bl (s.extract a b)=((bl s).drop a).take (b-a):=Lib.extract_data s a b
theorem lF(s:ByteArray)(a:Nat):bl (s.extract a s.size)=(bl s).drop a:=Lib.extract_to_end s a
theorem sJ(s:ByteArray)(b:Nat):bl (s.extract 0 b)=(bl s).take b:=by rw[Hs];simp
theorem nJ{s:ByteArray}{k:Nat}(h:k<s.size):(bl s)[k]?=some s[k]:=Lib.data_getElem? s k h
theorem Lb{x:UInt8}(hn:n<256):(((x.toNat:Nat):Int)!=(n:Int))=!(x==UInt8.ofNat n):=by
 by_cases h:x=UInt8.ofNat n
 ·subst h;have e:(UInt8.ofNat n).toNat=n:=by rw[UInt8.toNat_ofNat'];exact Nat.mod_eq_of_lt hn
  rw[e];simp
 ·have h1:x.toNat≠n:=fun e=>h (by rw[<-e,UInt8.ofNat_toNat]);have h2:(x==UInt8.ofNat n)=false:=by simpa using h
  rw[h2,bne_iff_ne.2 (by omega)];rfl
theorem K1{x:UInt8}(hn:n<256):(((x.toNat:Nat):Int)==(n:Int))=(x==UInt8.ofNat n):=by have:=Lb (x:=x) hn;rw[bne,Bool.not_eq_eq_eq_not,Bool.not_not]at this;exact this
open _root_.Go.Proofs.Tryz
def dd(w:World)(b:Nat)(q:av):Prop:=w.heap[b]?=some (.cells #[B C q.kind,B C q.max,B C q.topic,B C q.obj,B C q.opts,B C q.key] 119 (0,0))
theorem dd.cells{q:av}(h:dd w b q) :
  w.cell? ⟨b,0,none⟩=some (B C q.kind)/\w.cell? ⟨b,1,none⟩=some (B C q.max)/\w.cell? ⟨b,2,none⟩=some (B C q.topic)/\w.cell? ⟨b,3,none⟩=some (B C q.obj)/\w.cell? ⟨b,4,none⟩=some (B C q.opts)/\w.cell? ⟨b,5,none⟩=some (B C q.key) :=
 ⟨ac h (i:=0) rfl,ac h (i:=1) rfl,ac h (i:=2) rfl,ac h (i:=3) rfl,ac h (i:=4) rfl,ac h (i:=5) rfl⟩
theorem dd.froz{q:av}(h:dd w b q)(i:Nat):w.frozen? ⟨b,i,none⟩=false:=ae h i
theorem dd.lt{q:av}(h:dd w b q):b<w.heap.size:=by
 rcases zU b w.heap.size with hlt|hge
 ·exact hlt
 ·unfold dd at h;rw[wY hge]at h;cases h
theorem dd.xt{w':World}{p:Nat}{q:av}(h:dd w b q)(hx:XT p w w')(hb:b≠p):dd w' b q:=hx.blk h hb
theorem dd.ext{w':World}{q:av}(h:dd w b q)(hx:ab w w'):dd w' b q:=hx.blk h
theorem dd.far{q:av}(h:dd w b q)(ha:b≠a.block)(u:Value):dd (w.setCell a u) b q :=
 (yP _ _ _ _ ha).trans h
theorem dd.set0{q:av}(h:dd w b q)(x:Int):dd (w.setCell ⟨b,0,none⟩ (B C x)) b { q with kind:=x }:=by unfold dd at *;rw[bn h];rfl
theorem dd.set1{q:av}(h:dd w b q)(x:Int):dd (w.setCell ⟨b,1,none⟩ (B C x)) b { q with max:=x }:=by unfold dd at *;rw[bn h];rfl
theorem dd.set2{q:av}(h:dd w b q)(x:Int):dd (w.setCell ⟨b,2,none⟩ (B C x)) b { q with topic:=x }:=by unfold dd at *;rw[bn h];rfl
theorem dd.set3{q:av}(h:dd w b q)(x:Int):dd (w.setCell ⟨b,3,none⟩ (B C x)) b { q with obj:=x }:=by unfold dd at *;rw[bn h];rfl
theorem dd.set4{q:av}(h:dd w b q)(x:Int):dd (w.setCell ⟨b,4,none⟩ (B C x)) b { q with opts:=x }:=by unfold dd at *;rw[bn h];rfl
theorem dd.set5{q:av}(h:dd w b q)(x:Int):dd (w.setCell ⟨b,5,none⟩ (B C x)) b { q with key:=x }:=by unfold dd at *;rw[bn h];rfl
def Lj(n:Int)(v:Value):Prop:=∃q:av,v=.agg #[B C q.kind,B C q.max,B C q.topic,B C q.obj,B C q.opts,B C q.key]/\q.wf/\(n=0->lm q=true/\q.max<=12)
theorem G0(p:Nat)(n:Int)(w:World)(h:bz w p)(hn:0<=n)(hn':n<=1000000000) :
  Calls prog 53 #[.pointer (some ⟨p,0,none⟩),B C n] w (iN p w fun v _=>Lj n v):=by
 have hlt:=h.lt;have HT0:=zZ (h.ext ((zE _).alloc (.cells #[B C 0,B C 0,B C 0,B C 0,B C 0,B C 0] 119)));have HB0:Hid (dd (w.alloc (.cells #[B C 0,B C 0,B C 0,B C 0,B C 0,B C 0] 119)) w.heap.size ⟨0,0,0,0,0,0⟩):=heap_alloc_new w _;clear h;go_enter func53,ntmps53
 go_wp2_with fail;refine (az p _ _ _ HT0.out (by omega) (by omega) (by omega) (by omega)).mono ?_;rintro e w1 ⟨v1,rfl,⟨m,rfl,hm1,hm2⟩,HT1,HX1⟩;go_wp2_with fail;refine (am p _ _ HT1 (by omega)).mono ?_;rintro e w2 ⟨v2,rfl,⟨t,rfl,ht1,ht2⟩,HT2,HX2⟩;go_wp2_with fail;refine (am p _ _ HT2 (by omega)).mono ?_;rintro e w3 ⟨v3,rfl,⟨o,rfl,ho1,ho2⟩,HT3,HX3⟩;have HX:=zZ ((HX1.trans HX2).trans HX3);have HB3:=zZ (HB0.out.xt HX.out (by omega));have hs3:=HB3.out.lt;have HT3':=zZ HT3;have HQ:Hid (dd (w3.alloc (.cells #[B C 1,B C m,B C t,B C o,B C 0,B C 0] 119)) w3.heap.size ⟨1,m,t,o,0,0⟩):=heap_alloc_new w3 _;have HE:Hid (ab w3 (w3.alloc (.cells #[B C 1,B C m,B C t,B C o,B C 0,B C 0] 119))):=(zE _).alloc _;have HXA:Hid (XT p w w3):=((XT.refl _ _).alloc _).trans HX.out;clear HT1 HT2 HT3 HX1 HX2 HX3 HT0 HB0 HX;go_upto_region 2 with (fail)
 replace HB3:=zZ (HB3.out.ext HE.out);replace HT3':=zZ (HT3'.out.ext HE.out);replace HXA:=zZ (HXA.out.ext HE.out);generalize hW:w3.alloc (.cells #[B C 1,B C m,B C t,B C o,B C 0,B C 0] 119)=W at *
 clear hW HE;go_wp2_with fail;refine (am p _ _ HT3'.out (by omega)).mono ?_;rintro e w4 ⟨v4,rfl,⟨k,rfl,hk1,hk2⟩,HT4,HX4⟩;replace HX4:=zZ HX4;replace HT4:=zZ HT4;replace HB3:=zZ ((HB3.out.xt HX4.out (by omega)));replace HQ:=zZ ((HQ.out.xt HX4.out (by omega)));replace HXA:=zZ (HXA.out.trans HX4.out);clear HX4 HT3';go_upto_if 15 with (fail)
 go_cut [] (fun wx=>∃q:av,Hid (dd wx w3.heap.size q/\(lm q=true/\q.max<=12)/\dd wx w.heap.size ⟨0,0,0,0,0,0⟩/\bz wx p/\XT p w wx))
 case first =>
  by_cases hk:k=0
  ·subst hk;go_wp2_with fail;refine (az p _ _ _ HT4.out (by omega) (by omega) (by omega) (by omega)).mono ?_;rintro e w5 ⟨v5,rfl,⟨y,rfl,hy1,hy2⟩,HT5,HX5⟩;replace HX5:=zZ HX5;replace HT5:=zZ HT5;replace HB3:=zZ ((HB3.out.xt HX5.out (by omega)));replace HQ:=zZ ((HQ.out.xt HX5.out (by omega)));replace HXA:=zZ (HXA.out.trans HX5.out);obtain⟨c0,c1,c2,c3,c4,c5⟩:=HQ.out.cells;have f0:=HQ.out.froz 0;have f4:=HQ.out.froz 4;have g0:Hid (dd ((w5.setCell ⟨w3.heap.size,0,none⟩ (B C 2)).setCell ⟨w3.heap.size,4,none⟩ (B C y)) w3.heap.size ⟨2,m,t,o,y,0⟩):=(HQ.out.set0 2).set4 y;have hb3:Hid (dd ((w5.setCell ⟨w3.heap.size,0,none⟩ (B C 2)).setCell ⟨w3.heap.size,4,none⟩ (B C y)) w.heap.size ⟨0,0,0,0,0,0⟩):=(HB3.out.far (by simp;omega) _).far (by simp;omega) _;have ht:Hid (bz ((w5.setCell ⟨w3.heap.size,0,none⟩ (B C 2)).setCell ⟨w3.heap.size,4,none⟩ (B C y)) p):=(HT5.out.setNew (by simp;omega) _).setNew (by simp;omega) _;have hxa:Hid (XT p w ((w5.setCell ⟨w3.heap.size,0,none⟩ (B C 2)).setCell ⟨w3.heap.size,4,none⟩ (B C y))):=(HXA.out.setNew (by simp;omega) _).setNew (by simp;omega) _;go_wp2_with fail;generalize hW:(w5.setCell ⟨w3.heap.size,0,none⟩ (B C 2)).setCell ⟨w3.heap.size,4,none⟩ (B C y)=W5 at *
   clear hW;refine (am p _ _ ht.out (by omega)).mono ?_;rintro e w6 ⟨v6,rfl,⟨z,rfl,hz1,hz2⟩,HT6,HX6⟩;go_wp2_with fail;refine (az p _ _ _ HT6 (by omega) (by omega) (by omega) (by omega)).mono ?_;rintro e w7 ⟨v7,rfl,⟨x,rfl,hx1,hx2⟩,HT7,HX7⟩;have HX:=zZ (HX6.trans HX7);replace g0:=zZ ((g0.out.xt HX.out (by omega)));replace hb3:=zZ ((hb3.out.xt HX.out (by omega)));replace hxa:=zZ (hxa.out.trans HX.out);obtain⟨d0,d1,d2,d3,d4,d5⟩:=g0.out.cells;have f1:=g0.out.froz 1;have f5:=g0.out.froz 5;go_wp2_with fail;go_meet
   refine⟨⟨2,x,t,o,y,z⟩,(g0.out.set5 z).set1 x,?_,(hb3.out.far (by simp;omega) _).far (by simp;omega) _,(HT7.setNew (by simp;omega) _).setNew (by simp;omega) _,(hxa.out.setNew (by simp;omega) _).setNew (by simp;omega) _⟩;exact⟨by simp[lm];omega,by simp;omega⟩
  ·have hk0:(k==0)=false:=by simpa using hk
   clear hk;go_wp2_with fail;go_meet
   refine⟨⟨1,m,t,o,0,0⟩,HQ.out,?_,HB3.out,HT4.out,HXA.out⟩;exact⟨by simp[lm];omega,by simp;omega⟩
 case rest =>
 obtain⟨q,HC⟩:=hcut;clear HB3 HQ HXA HT4;obtain⟨h1,h2,h3,h4,h5⟩:=HC.out;replace h1:=zZ h1;replace h2:=zZ h2;replace h3:=zZ h3;replace h4:=zZ h4;replace h5:=zZ h5;clear HC;go_upto_region 5 with (fail)
 go_cut [34] (fun s34 wx=>∃b:Bool,s34=.bool b/\Hid ((b=true->0<n)/\bz wx p/\XT p wc wx))
 case first =>
  by_cases hn0:0<n
  ·go_wp2_with fail;refine (fe _ _ _ h4.out (by omega) (by omega)).mono ?_;rintro e w4 ⟨v4,rfl,⟨b,rfl⟩,HT4,HX4⟩;go_wp2_with fail;go_meet
   exact⟨b,rfl,fun _=>hn0,HT4,HX4⟩
  ·go_wp2_with fail;go_meet
   exact⟨false,rfl,(fun h=>(by cases h)),h4.out,XT.refl _ _⟩
 case rest =>
 obtain⟨b,rfl,HR⟩:=hcut;replace h1:=zZ ((h1.out.xt HR.out.2.2 (by omega)));replace h3:=zZ ((h3.out.xt HR.out.2.2 (by omega)));replace h5:=zZ (h5.out.trans HR.out.2.2);have HT:=zZ HR.out.2.1;have HN:=zZ HR.out.1;clear HR h4;go_upto_if 34 with (fail)
 go_cut [] (fun wx=>∃q':av,Hid (dd wx w3.heap.size q'/\q'.wf/\(n=0->lm q'=true/\q'.max<=12)/\dd wx w.heap.size ⟨0,0,0,0,0,0⟩/\bz wx p/\XT p w wx))
 case first =>
  have hwf:q.wf:=by have:=k8 h2.out.1;unfold av.wf aU;omega
  replace hwf:=zZ hwf;cases b
  ·go_wp2_with fail;go_meet
   exact⟨q,h1.out,hwf.out,fun _=>h2.out,h3.out,HT.out,h5.out⟩
  ·have hn0:0<n:=HN.out rfl;go_wp2_with fail;refine (am p _ _ HT.out (by omega)).mono ?_;rintro e w6 ⟨v6,rfl,⟨z,rfl,hz1,hz2⟩,HT6,HX6⟩;replace HT6:=zZ HT6;replace HX6:=zZ HX6;replace h1:=zZ ((h1.out.xt HX6.out (by omega)));replace h3:=zZ ((h3.out.xt HX6.out (by omega)));replace h5:=zZ (h5.out.trans HX6.out);have hzz:z=0\/z=1\/z=2\/z=3\/z=4\/z=5:=by omega
   clear hz1 hz2 HT HN;rcases hzz with rfl|rfl|rfl|rfl|rfl|rfl
   ·go_wp2_with fail;refine (az p _ _ _ HT6.out (by omega) (by omega) (by omega) (by omega)).mono ?_;rintro e w7 ⟨v7,rfl,⟨x,rfl,hx1,hx2⟩,HT7,HX7⟩;replace HT7:=zZ HT7;replace HX7:=zZ HX7;replace h1:=zZ ((h1.out.xt HX7.out (by omega)));replace h3:=zZ ((h3.out.xt HX7.out (by omega)));replace h5:=zZ (h5.out.trans HX7.out);obtain⟨d0,d1,d2,d3,d4,d5⟩:=h1.out.cells;have f0:=h1.out.froz 0;go_wp2_with fail;go_meet
    refine⟨{ q with kind:=x },h1.out.set0 x,?_,fun h=>absurd h (by omega),h3.out.far (by simp;omega) _,HT7.out.setNew (by simp;omega) _,h5.out.setNew (by simp;omega) _⟩;have:=hwf.out;unfold av.wf aU at *;simp only;omega
   ·go_wp2_with fail;refine (dt p _ [0,40,41,-1] _ (HT6.out.ext ((zE _).alloc _)) (ak.litg _ _ _ rfl HT6.out.lt (by decide) (by decide)) (by simp)).mono ?_;rintro e w7 ⟨v7,rfl,⟨x,rfl,hx⟩,HT7,HX7⟩;have hxi:aU x:=(by decide:∀y∈([0,40,41,-1]:List Int),aU y) x hx;replace HT7:=zZ HT7;replace hxi:=zZ hxi;have HX8:=zZ ((ab.xt (p:=p) ((zE w6).alloc _)).trans HX7);clear hx HX7;replace h1:=zZ ((h1.out.xt HX8.out (by omega)));replace h3:=zZ ((h3.out.xt HX8.out (by omega)));replace h5:=zZ (h5.out.trans HX8.out);obtain⟨d0,d1,d2,d3,d4,d5⟩:=h1.out.cells;have f0:=h1.out.froz 1;go_wp2_with fail;go_meet
    refine⟨{ q with max:=x },h1.out.set1 x,?_,fun h=>absurd h (by omega),h3.out.far (by simp;omega) _,HT7.out.setNew (by simp;omega) _,h5.out.setNew (by simp;omega) _⟩;have:=hwf.out;have:=hxi.out;unfold av.wf aU at *;simp only;omega
   ·go_wp2_with fail;refine (AU p _ HT6.out).mono ?_;rintro e w7 ⟨v7,rfl,⟨x,rfl,hxi⟩,HT7,HX7⟩;replace HT7:=zZ HT7;replace HX7:=zZ HX7;replace hxi:=zZ hxi;replace h1:=zZ ((h1.out.xt HX7.out (by omega)));replace h3:=zZ ((h3.out.xt HX7.out (by omega)));replace h5:=zZ (h5.out.trans HX7.out);obtain⟨d0,d1,d2,d3,d4,d5⟩:=h1.out.cells;have f0:=h1.out.froz 2;go_wp2_with fail;go_meet
    refine⟨{ q with topic:=x },h1.out.set2 x,?_,fun h=>absurd h (by omega),h3.out.far (by simp;omega) _,HT7.out.setNew (by simp;omega) _,h5.out.setNew (by simp;omega) _⟩;have:=hwf.out;have:=hxi.out;unfold av.wf aU at *;simp only;omega
   ·go_wp2_with fail;refine (AU p _ HT6.out).mono ?_;rintro e w7 ⟨v7,rfl,⟨x,rfl,hxi⟩,HT7,HX7⟩;replace HT7:=zZ HT7;replace HX7:=zZ HX7;replace hxi:=zZ hxi;replace h1:=zZ ((h1.out.xt HX7.out (by omega)));replace h3:=zZ ((h3.out.xt HX7.out (by omega)));replace h5:=zZ (h5.out.trans HX7.out);obtain⟨d0,d1,d2,d3,d4,d5⟩:=h1.out.cells;have f0:=h1.out.froz 3;go_wp2_with fail;go_meet
    refine⟨{ q with obj:=x },h1.out.set3 x,?_,fun h=>absurd h (by omega),h3.out.far (by simp;omega) _,HT7.out.setNew (by simp;omega) _,h5.out.setNew (by simp;omega) _⟩;have:=hwf.out;have:=hxi.out;unfold av.wf aU at *;simp only;omega
   ·go_wp2_with fail;refine (az p _ _ _ HT6.out (by omega) (by omega) (by omega) (by omega)).mono ?_;rintro e w7 ⟨v7,rfl,⟨x,rfl,hx1,hx2⟩,HT7,HX7⟩;replace HT7:=zZ HT7;replace HX7:=zZ HX7;replace h1:=zZ ((h1.out.xt HX7.out (by omega)));replace h3:=zZ ((h3.out.xt HX7.out (by omega)));replace h5:=zZ (h5.out.trans HX7.out);obtain⟨d0,d1,d2,d3,d4,d5⟩:=h1.out.cells;have f0:=h1.out.froz 4;go_wp2_with fail;go_meet
    refine⟨{ q with opts:=x },h1.out.set4 x,?_,fun h=>absurd h (by omega),h3.out.far (by simp;omega) _,HT7.out.setNew (by simp;omega) _,h5.out.setNew (by simp;omega) _⟩;have:=hwf.out;unfold av.wf aU at *;simp only;omega
   ·go_wp2_with fail;refine (az p _ _ _ HT6.out (by omega) (by omega) (by omega) (by omega)).mono ?_;rintro e w7 ⟨v7,rfl,⟨x,rfl,hx1,hx2⟩,HT7,HX7⟩;replace HT7:=zZ HT7;replace HX7:=zZ HX7;replace h1:=zZ ((h1.out.xt HX7.out (by omega)));replace h3:=zZ ((h3.out.xt HX7.out (by omega)));replace h5:=zZ (h5.out.trans HX7.out);obtain⟨d0,d1,d2,d3,d4,d5⟩:=h1.out.cells;have f0:=h1.out.froz 5;go_wp2_with fail;go_meet
    refine⟨{ q with key:=x },h1.out.set5 x,?_,fun h=>absurd h (by omega),h3.out.far (by simp;omega) _,HT7.out.setNew (by simp;omega) _,h5.out.setNew (by simp;omega) _⟩;have:=hwf.out;unfold av.wf aU at *;simp only;omega
 case rest =>
 obtain⟨q',HC⟩:=hcut;clear h1 h2 h3 h5 HT HN;obtain⟨h1,h2,h3,h4,h5,h6⟩:=HC.out;replace h1:=zZ h1;replace h2:=zZ h2;replace h3:=zZ h3;replace h4:=zZ h4;replace h5:=zZ h5;replace h6:=zZ h6;clear HC;obtain⟨d0,d1,d2,d3,d4,d5⟩:=h1.out.cells;obtain⟨e0,e1,e2,e3,e4,e5⟩:=h4.out.cells;have f0:=h4.out.froz 0;have f1:=h4.out.froz 1;have f2:=h4.out.froz 2;have f3:=h4.out.froz 3;have f4:=h4.out.froz 4;have f5:=h4.out.froz 5;go_wp2_with fail;refine bodyPost_ret (v:=.agg #[B C q'.kind,B C q'.max,B C q'.topic,B C q'.obj,B C q'.opts,B C q'.key]) (by simp[results,results53,go_sem,e0,e1,e2,e3,e4,e5]) rfl ⟨_,rfl,⟨q',rfl,h2.out,h3.out⟩,?_,?_⟩
 ·exact (((((h5.out.setNew hlt _).setNew hlt _).setNew hlt _).setNew hlt _).setNew hlt _).setNew hlt _
 ·exact (((((h6.out.setNew (zX _) _).setNew (zX _) _).setNew (zX _) _).setNew (zX _) _).setNew (zX _) _).setNew (zX _) _
theorem Tryz.infoQ:(prog.info? 119).map (fun i=>(i.zero,i.size,i.bytes))=some (some (.agg #[B C 0,B C 0,B C 0,B C 0,B C 0,B C 0]),6,48):=by kernel_rfl
theorem pX(h:w.ownsRow base e size v n xs)(ha:v.ownBlock≠some a.block)(u:Value):(w.setCell a u).ownsRow base e size v n xs :=
 aJ h (XT.setCell (XT.refl a.block w) rfl u) (fun k hk e=>ha (by rw[hk];exact e.symm))
def dK(w:World)(b:Nat)(code var:Int)(v:Value):Prop:=w.heap[b]?=some (.cells #[B C code,B C var,v] 64 (0,0))
section
variable {w w':World} {b p:Nat} {code var:Int} {v:Value}
theorem dK.cells(h:dK w b code var v):w.cell? ⟨b,0,none⟩=some (B C code)/\w.cell? ⟨b,1,none⟩=some (B C var)/\w.cell? ⟨b,2,none⟩=some v:=Hd h
theorem dK.froz(h:dK w b code var v)(i:Nat):w.frozen? ⟨b,i,none⟩=false:=ae h i
theorem dK.lt(h:dK w b code var v):b<w.heap.size:=al h
theorem dK.xt(h:dK w b code var v)(hx:XT p w w')(hb:b≠p):dK w' b code var v:=hx.blk h hb
theorem dK.ext(h:dK w b code var v)(hx:ab w w'):dK w' b code var v:=hx.blk h
theorem dK.far(h:dK w b code var v)(ha:b≠a.block)(u:Value):dK (w.setCell a u) b code var v:=(yP _ _ _ _ ha).trans h
theorem dK.set2(h:dK w b code var v)(x:Value):dK (w.setCell ⟨b,2,none⟩ x) b code var x:=by unfold dK at *;rw[bn h];rfl
theorem dK.grown(h:dK w b code var v){row:Option Nat}(hg:w.grownBy w' row)(hr:row≠some b):dK w' b code var v:=(hg.block b (al h) (fun e=>hr e.symm)).trans h
end
def dZ(base:Nat)(w:World)(v:Value)(ps:List av):Prop:=w.ownsRow base 119 6 v ps.length (ps.map av.cells).flatten
section
variable {w w':World} {base p:Nat} {v:Value} {ps:List av}
theorem dZ.isQ(h:dZ base w v ps)(hp:p<base)(hb:∀q∈ps,q.wf):oa p w v ps:=by refine bj.of_own (e:=119) (ps.map av.cells) (by simp[av.cells]) (by decide) (by simp) h hp ?_;intro k cs x hcs hx;simp only[zP,yO]at hcs;obtain⟨q,hq,rfl⟩:=hcs;rw[hx]at hq;injection hq with hq;subst hq;exact⟨rfl,hb _ (zW hx)⟩
theorem dZ.own(h:dZ base w v ps):w.ownsRow base 119 6 v ps.length (ps.map av.cells).flatten:=h
theorem dZ.isOwn(h:w.ownsRow base 119 6 v n (ps.map av.cells).flatten)(hn:ps.length=n):dZ base w v ps:=by subst hn;exact h
theorem dZ.form(h:dZ base w v ps):∃A c,v=D A ps.length c:=by
 rcases h.2 with ⟨rfl,h0⟩|⟨g,cap,cur,rfl,_⟩
 ·exact⟨none,0,by rw[h0]⟩
 ·exact⟨_,_,rfl⟩
theorem dZ.push{q:av}(hn:ps.length=n)(h:w.ownsRow base 119 6 v (n+1) ((ps.map av.cells).flatten++[B C q.kind,B C q.max,B C q.topic,B C q.obj,B C q.opts,B C q.key])):dZ base w v (ps++[q]):=by unfold dZ;subst hn;simpa[av.cells] using h
theorem dZ.nil(base:Nat)(w:World):dZ base w (D none 0 0) []:=yZ _ _ _ _
theorem dZ.base_ne(h:dZ base w v ps){s:Nat}{cs:Array Value}(hb:w.heap[b]?=some (.cells cs e (0,0)))(he:e≠119):v.ownBlock≠some b:=by
 intro hk;rcases h.2 with ⟨rfl,_⟩|⟨g,c1,cu1,rfl,_,hh1,_⟩
 ·simp[Value.ownBlock]at hk
 have e1:g=b:=by simpa[Value.ownBlock] using hk
 subst e1;rw[hh1]at hb;injection hb with hb;injection hb with _ h2;exact he h2.symm
end
def Kc(w:World)(base:Nat)(code var:Int)(v:Value):Prop:=∃pv ps,v=.agg #[B C code,B C var,pv]/\dZ base w pv ps/\1<=ps.length/\ps.length<=6/\∀q∈ps,lm q=true/\q.max<=12
theorem JS{q:av}(h:lm q=true):q.wf:=by have:=k8 h;unfold av.wf aU;omega
theorem Fm(p:Nat)(code var:Int)(w:World)(h:bz w p) :
  Calls prog 22 #[.pointer (some ⟨p,0,none⟩),B C code,B C var] w (iN p w fun v w'=>Kc w' w.heap.size code var v):=by
 have hlt:=h.lt;obtain⟨iQ,hiQ,hy0,hy1,hy2⟩:=info_parts Tryz.infoQ;have HE:Hid (ab w ((w.alloc (.cells #[B C 0,B C 0,D none 0 0] 64)).alloc (.cells #[B C code,B C var,D none 0 0] 64))):=((zE _).alloc _).alloc _;have HB0:Hid (dK ((w.alloc (.cells #[B C 0,B C 0,D none 0 0] 64)).alloc (.cells #[B C code,B C var,D none 0 0] 64)) w.heap.size 0 0 (D none 0 0)):=dK.ext (heap_alloc_new w _) ((zE _).alloc _);have HB1:Hid (dK ((w.alloc (.cells #[B C 0,B C 0,D none 0 0] 64)).alloc (.cells #[B C code,B C var,D none 0 0] 64)) (w.heap.size+1) code var (D none 0 0)):=by
  have:=heap_alloc_new (w.alloc (.cells #[B C 0,B C 0,D none 0 0] 64)) (.cells #[B C code,B C var,D none 0 0] 64);show dK _ _ _ _ _
  simpa[dK] using this
 have HT:=zZ (h.ext HE.out);have HXA:Hid (XT p w ((w.alloc (.cells #[B C 0,B C 0,D none 0 0] 64)).alloc (.cells #[B C code,B C var,D none 0 0] 64))):=HE.out.xt;clear h HE;go_enter func22,ntmps22
 go_wp2_with fail;generalize hW:(w.alloc (.cells #[B C 0,B C 0,D none 0 0] 64)).alloc (.cells #[B C code,B C var,D none 0 0] 64)=W at *
 clear hW;refine (az p _ _ _ HT.out (by omega) (by omega) (by omega) (by omega)).mono ?_;rintro e w1 ⟨v1,rfl,⟨r,rfl,hr1,hr2⟩,HT1,HX1⟩;obtain⟨r,rfl⟩:=zG (show 0<=r by omega);replace HT1:=zZ HT1;replace HX1:=zZ HX1;replace HB0:=zZ ((HB0.out.xt HX1.out (by omega)));replace HB1:=zZ ((HB1.out.xt HX1.out (by omega)));replace HXA:=zZ (HXA.out.trans HX1.out);clear HT HX1;have hr6:r<=6:=by omega
 have hr0:1<=r:=by omega
 clear hr1 hr2;go_wp2_with fail;go_loopw [8] (fun s8 wr=>∃(k:Nat) (A:Option Addr) (n c:Nat) (ps:List av),s8=B C k/\n+k=r/\Hid (ps.length=n/\dK wr w.heap.size 0 0 (D none 0 0)/\dK wr (w.heap.size+1) code var (D A n c)/\dZ w.heap.size wr (D A n c) ps/\(∀q∈ps,lm q=true/\q.max<=12)/\bz wr p/\XT p w wr)) (fun i _=>(intOf i).toNat)
 case atStart=>exact⟨r,none,0,0,[],rfl,by omega,rfl,HB0.out,HB1.out,dZ.nil _ _,by simp,HT1.out,HXA.out⟩
 case round =>
  obtain⟨k,A,n,c,ps,rfl,hk,HR⟩:=hrel;clear HB0 HB1 HXA HT1;obtain⟨q1,q2,q3,q4,q5,q6,q7⟩:=HR.out;have hne:=q4.base_ne (s:=0) q3 (by decide);have hb8:=q3.lt;replace q1:=zZ q1;replace q2:=zZ q2;replace q3:=zZ q3;replace q4:=zZ q4;replace q5:=zZ q5;replace q6:=zZ q6;replace q7:=zZ q7;replace hne:=zZ hne;clear HR;by_cases hk0:0<k
  ·obtain⟨c0,c1,c2⟩:=q3.out.cells;have hn6:n<=6:=by omega
   have HO:Hid (wr.ownsRow w.heap.size 119 6 (D A n c) n (ps.map av.cells).flatten):=by have:=q4.out.own;rw[q1.out]at this;exact this
   go_upto_region 5 with (fail)
   go_region_law (first
    |(go_simp;go_at_call 53;refine (G0 p _ _ (q6.out.ext (zE _).drew) (by omega) (by omega)).mono ?_;rintro e w2 ⟨v2,rfl,⟨q,rfl,hq1,hq2⟩,HT2,HX2'⟩;have HX2:=zZ ((ab.xt (p:=p) ((zE wr).drew)).trans HX2');have hs2:=HX2.out.size;have d2:=HX2.out.cell c2 (by simp;omega);have e2:∀o,(w2.alloc o).cell? ⟨w.heap.size+1,2,none⟩=some (D A n c):=(fun o=>ab.cell ((zE _).alloc o) d2);clear HX2')
    |(refine step_append_lies _ (by rfl) _ _ _ (by rfl) w.heap.size 119 iQ _ 6 48 underlying62 hiQ hy0 hy1 hy2 rfl (by omega) (D A n c) n _ (by rfl) ((dD HO.out HX2.out hlt).alloc _) ⟨w2.heap.size,0,none⟩ 1 1 _ (by rfl) (by rfl) (World.news_of_block (heap_alloc_new w2 _)) (by simp[Value.oneCell']) (by omega) (by unfold maxLen;omega) (by omega) (by simp;omega) (w2.heap.size+1) (by simp) ?_;intro gg cap w3 hown3 hgrow hat hlt3;have HG:=zZ (((q3.out.xt HX2.out (by omega)).ext ((zE _).alloc _)).grown hgrow hne.out);obtain⟨z0,z1,z2⟩:=HG.out.cells;have zf:=HG.out.froz 2;have HO3:=zZ hown3;have HGR:=zZ hgrow;clear hown3 hgrow))
   all_goals go_wp2_with fail
   all_goals
    go_roundw
    case rel =>
     refine⟨k-1,_,n+1,cap,ps++[q],by congr;omega,by omega,by have:=q1.out;simp;omega,?_,HG.out.set2 _,?_,?_,?_,?_⟩
     ·refine dK.far (dK.grown ((q2.out.xt HX2.out (by omega)).ext ((zE _).alloc _)) HGR.out ?_) (by simp) _;exact dZ.base_ne (s:=0) (dZ.isOwn (dD HO.out HX2.out hlt) q1.out) (q2.out.xt HX2.out (by omega)) (by decide)
     ·have ha:=dZ.base_ne (s:=0) (dZ.push (q:=q) q1.out HO3.out) HG.out (by decide);exact pX (a:=⟨w.heap.size+1,2,none⟩) (dZ.push q1.out HO3.out).own ha _
     ·intro x hx;rcases zM.1 hx with hx|hx
      ·exact q5.out x hx
      ·simp at hx;subst hx;exact hq2 rfl
     ·refine bz.setNew ((HT2.ext ((zE _).alloc _)).grown HGR.out (fun k hk=>?_)) (by simp;omega) _;have:=aq HO.out k hk;omega
     ·exact XT.setNew (XT.grown ((q7.out.trans HX2.out).alloc _) HGR.out (aq HO.out)) (by simp) _
    case measure=>simp[intOf];omega
  ·obtain rfl:k=0:=by omega
   obtain⟨c0,c1,c2⟩:=q3.out.cells;obtain⟨d0,d1,d2⟩:=q2.out.cells;have f0:=q2.out.froz 0;have f1:=q2.out.froz 1;have f2:=q2.out.froz 2;go_wp2_with fail;refine bodyPost_ret (v:=.agg #[B C code,B C var,D A n c]) (by simp[results,results22,go_sem,c0,c1,c2,d0,d1,d2]) rfl ⟨_,rfl,⟨_,ps,rfl,?_,?_,?_,q5.out⟩,?_,?_⟩
   ·have ha:=q4.out.base_ne (s:=0) q2.out (by decide);exact pX (pX (pX q4.out.own ha _) ha _) ha _
   ·have:=q1.out;omega
   ·have:=q1.out;omega
   ·exact ((q6.out.setNew hlt _).setNew hlt _).setNew hlt _
   ·exact ((q7.out.setNew (zX _) _).setNew (zX _) _).setNew (zX _) _
theorem aG{t:Nat}{cs:Array Value}(h:w.ownsRow base e size v n xs)(hb:w.heap[b]?=some (.cells cs t (0,0)))(he:t≠e):v.ownBlock≠some b:=by
 intro hk;rcases h.2 with ⟨rfl,_⟩|⟨g,c1,cu1,rfl,_,hh1,_⟩
 ·simp[Value.ownBlock]at hk
 have e1:g=b:=by simpa[Value.ownBlock] using hk
 subst e1;rw[hh1]at hb;injection hb with hb;injection hb with _ h2;exact he h2.symm
theorem aN(h:w.ownsRow base e size v n xs)(ha:v.ownBlock≠some a.block)(u:Value):(w.setCell a u).ownsRow base e size v n xs :=
 aJ h (XT.setCell (XT.refl a.block w) rfl u) (fun k hk e=>ha (by rw[hk];exact e.symm))
def lT(base eS eI:Nat)(w:World)(v:Value)(ls:List (List Int)):Prop :=
 ∃us:List Value,us.length=ls.length/\w.ownsRow base eS 1 v ls.length us /\
  (∀(j:Nat) (u:Value) (l:List Int),us[j]?=some u->ls[j]?=some l->w.ownsRow base eI 1 u l.length (l.map (Value.int .i64))) /\
  (∀(i j:Nat) (u u':Value) (k:Nat),i≠j->us[i]?=some u->us[j]?=some u'->u.ownBlock=some k->u'.ownBlock≠some k)
section
variable {base eS eI p:Nat} {w w':World} {v v':Value} {ls:List (List Int)}
theorem lT.nil(base eS eI:Nat)(w:World):lT base eS eI w (D none 0 0) [] :=
 ⟨[],rfl,yZ _ _ _ _,fun j u l hu=>by simp at hu,fun i j u u' k _ hu=>by simp at hu⟩
theorem lT.own(h:lT base eS eI w v ls):∃us,us.length=ls.length/\w.ownsRow base eS 1 v ls.length us:=by obtain⟨us,a,b,_⟩:=h;exact⟨us,a,b⟩
theorem lT.row{g cap j:Nat}(h:lT base eS eI w (D (some ⟨g,0,none⟩) n cap) ls)(hn:ls.length=n)(hne:eS≠eI)(hj:j<n) :
  ∃(A:Option Addr) (m cu:Nat) (l:List Int),ls[j]?=some l/\l.length=m/\w.cell? ⟨g,j,none⟩=some (D A m cu)/\w.frozen? ⟨g,j,none⟩=false/\base<=g/\g<w.heap.size/\w.ownsRow base eI 1 (D A m cu) m (l.map (Value.int .i64)) /\
   lT base eS eI (w.setCell ⟨g,j,none⟩ (D none 0 0)) (D (some ⟨g,0,none⟩) n cap) (ls.set j []) /\
   ∀(p:Nat) (w1 w2:World) (g' c':Nat) (x:Int),XT p w w1->p<base->w1.grownBy w2 (Value.slice A m cu).ownBlock->w2.ownsRow base eI 1 (D (some ⟨g',0,none⟩) (m+1) c') (m+1) (l.map (Value.int .i64)++[B C x]) ->
    ((Value.slice A m cu).ownBlock=some g'\/w.heap.size<=g') ->
    w2.cell? ⟨g,j,none⟩=some (D A m cu)/\w2.frozen? ⟨g,j,none⟩=false/\lT base eS eI (w2.setCell ⟨g,j,none⟩ (D (some ⟨g',0,none⟩) (m+1) c')) (D (some ⟨g,0,none⟩) n cap) (ls.set j (l++[x])):=by
 obtain⟨us,a,b,c,d⟩:=h;subst hn;have hj':j<us.length:=by omega
 have huj:us[j]?=some us[j]:=zV hj';have hlj:ls[j]?=some ls[j]:=zV hj;have ho:=c j _ _ huj hlj;obtain⟨A,m,cu,hv,hm⟩:∃A m cu,us[j]=D A m cu/\(ls[j]).length=m:=by
  rcases ho.2 with ⟨e,h0⟩|⟨g',cap',cur,e,_⟩
  ·exact⟨none,0,0,e,h0⟩
  ·exact⟨_,_,cap',e,rfl⟩
 rw[hv,hm]at ho;rw[hv]at huj;have hcell:w.cell? ⟨g,j,none⟩=some (D A m cu):=by rw[b.cellAt j (by omega)];exact huj
 have hbg:=b.lt g rfl;refine⟨A,m,cu,ls[j],hlj,hm,hcell,b.frozenAt j,hbg.1,hbg.2,ho,?_,fun p w1 w2 g' c' x hx hp hg h' hat=>?_⟩
 ·obtain⟨o3,g3⟩:=b.stored j (D none 0 0);have kp:∀{z:Value} {n:Nat} {xs:List Value},w.ownsRow base eI 1 z n xs->(w.setCell ⟨g,j,none⟩ (D none 0 0)).ownsRow base eI 1 z n xs:=fun hz =>
   aJ hz g3 (fun k hk e=>cA hz b (Ne.symm hne) k hk (by simpa[Value.ownBlock] using e))
  refine⟨us.set j (D none 0 0),by simp[a],by simpa using o3,fun i u l hu hl=>?_,fun i i' u u' k hii hu hu' hk=>?_⟩
  ·by_cases e:i=j
   ·subst e;rw[wU (by omega)]at hu hl;injection hu with hu;injection hl with hl;subst hu;subst hl;exact yZ _ _ _ _
   ·rw[wW (Ne.symm e)]at hu hl;exact kp (c i u l hu hl)
  ·by_cases e:i=j
   ·subst e;rw[wU (by omega)]at hu;injection hu with hu;subst hu;simp[Value.ownBlock]at hk
   ·rw[wW (Ne.symm e)]at hu;by_cases e':i'=j
    ·subst e';rw[wU (by omega)]at hu';injection hu' with hu';subst hu';simp[Value.ownBlock]
    ·rw[wW (Ne.symm e')]at hu';exact d i i' u u' k hii hu hu' hk
 ·have o1:=dD b hx hp;have ho1:=dD ho hx hp;have o2:w2.ownsRow base eS 1 (D (some ⟨g,0,none⟩) ls.length cap) ls.length us:=aJ o1 hg fun k hk=>cA o1 ho1 hne k hk;obtain⟨o3,g3⟩:=o2.stored j (D (some ⟨g',0,none⟩) (m+1) c');have kp:∀{z:Value} {n:Nat} {xs:List Value},w2.ownsRow base eI 1 z n xs->(w2.setCell ⟨g,j,none⟩ (D (some ⟨g',0,none⟩) (m+1) c')).ownsRow base eI 1 z n xs:=fun hz =>
   aJ hz g3 (fun k hk e=>cA hz o2 (Ne.symm hne) k hk (by simpa[Value.ownBlock] using e))
  refine⟨by rw[o2.cellAt j (by omega)];exact huj,o2.frozenAt j,us.set j (D (some ⟨g',0,none⟩) (m+1) c'),by simp[a],by simpa using o3,fun i u l hu hl=>?_,fun i i' u u' k hii hu hu' hk=>?_⟩
  ·by_cases e:i=j
   ·subst e;rw[wU (by omega)]at hu hl;injection hu with hu;injection hl with hl;subst hu;subst hl;have:=kp h';simpa[hm] using this
   ·rw[wW (Ne.symm e)]at hu hl;exact kp (aJ (dD (c i u l hu hl) hx hp) hg fun k hk=>d i j u _ k e hu huj hk)
  ·by_cases e:i=j
   ·subst e;rw[wU (by omega)]at hu;injection hu with hu;subst hu;rw[wW hii]at hu';have hk':g'=k:=by simpa[Value.ownBlock] using hk
    subst hk';rcases hat with hat|hat
    ·exact d i i' _ u' g' hii huj hu' hat
    ·intro hk2;have hi':=(zY.1 hu').1;have:=(c i' u' _ hu' (zV (show i'<ls.length by omega))).lt g' hk2;omega
   ·rw[wW (Ne.symm e)]at hu;by_cases e':i'=j
    ·subst e';rw[wU (by omega)]at hu';injection hu' with hu';subst hu';intro hk2;have hk':g'=k:=by simpa[Value.ownBlock] using hk2
     subst hk';rcases hat with hat|hat
     ·exact d i i' u _ g' hii hu huj hk hat
     ·have hi:=(zY.1 hu).1;have:=(c i u _ hu (zV (show i<ls.length by omega))).lt g' hk;omega
    ·rw[wW (Ne.symm e')]at hu';exact d i i' u u' k hii hu hu' hk
end
end Go.Proofs.YtpaidaphacoblaaGreatDoor

