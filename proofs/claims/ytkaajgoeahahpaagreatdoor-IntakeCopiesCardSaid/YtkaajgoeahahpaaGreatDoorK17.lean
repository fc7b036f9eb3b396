import Derived.Deep.RegionLaw
import Derived.Test.YtkaajgoeahahpaaGreatDoorK3
import Derived.Test.YtkaajgoeahahpaaGreatDoorK9
set_option linter.all false
set_option maxRecDepth 100000
set_option maxHeartbeats 0
namespace Go.Proofs.YtkaajgoeahahpaaGreatDoor
open Go.Value renaming int→B,slice→D
open Go.IntKind renaming i64→C
open Go.RowKit _root_.Go.Proofs.Tryz
variable {w:World} {b fuel g i n:Nat} {a:Addr} {u0 u1 u10 u2 u3 u4 u5 u6 u7 u8 u9 v:Value} {cs:Array Value} {t:TypeId} {r:List Value} {listed:Array Bool}
def dd(w:World)(b:Nat)(q:av):Prop:=w.heap[b]?=some (.cells #[B C q.kind,B C q.max,B C q.topic,B C q.obj,B C q.opts,B C q.key] 131 (0,0))
theorem dd.cells{q:av}(h:dd w b q) :
  w.cell? ⟨b,0,none⟩=some (B C q.kind)/\w.cell? ⟨b,1,none⟩=some (B C q.max)/\w.cell? ⟨b,2,none⟩=some (B C q.topic)/\w.cell? ⟨b,3,none⟩=some (B C q.obj)/\w.cell? ⟨b,4,none⟩=some (B C q.opts)/\w.cell? ⟨b,5,none⟩=some (B C q.key) :=
 ⟨ac h (i:=0) rfl,ac h (i:=1) rfl,ac h (i:=2) rfl,ac h (i:=3) rfl,ac h (i:=4) rfl,ac h (i:=5) rfl⟩
theorem dd.froz{q:av}(h:dd w b q)(i:Nat):w.frozen? ⟨b,i,none⟩=false:=ae h i
theorem dd.lt{q:av}(h:dd w b q):b<w.heap.size:=by
 rcases zU b w.heap.size with hlt|hge
 ·exact hlt
 ·unfold dd at h;rw[wY hge]at h;cases h
theorem dd.xt{w':World}{p:Nat}{q:av}(h:dd w b q)(hx:XT p w w')(hb:b≠p):dd w' b q:=hx.blk h hb
theorem dd.ext{w':World}{q:av}(h:dd w b q)(hx:ab w w'):dd w' b q:=hx.blk h
theorem dd.far{q:av}(h:dd w b q)(ha:b≠a.block)(u:Value):dd (w.setCell a u) b q :=
 (yP _ _ _ _ ha).trans h
theorem dd.set0{q:av}(h:dd w b q)(x:Int):dd (w.setCell ⟨b,0,none⟩ (B C x)) b { q with kind:=x }:=by unfold dd at *;rw[bn h];rfl
theorem dd.set1{q:av}(h:dd w b q)(x:Int):dd (w.setCell ⟨b,1,none⟩ (B C x)) b { q with max:=x }:=by unfold dd at *;rw[bn h];rfl
theorem dd.set2{q:av}(h:dd w b q)(x:Int):dd (w.setCell ⟨b,2,none⟩ (B C x)) b { q with topic:=x }:=by unfold dd at *;rw[bn h];rfl
theorem dd.set3{q:av}(h:dd w b q)(x:Int):dd (w.setCell ⟨b,3,none⟩ (B C x)) b { q with obj:=x }:=by unfold dd at *;rw[bn h];rfl
theorem dd.set4{q:av}(h:dd w b q)(x:Int):dd (w.setCell ⟨b,4,none⟩ (B C x)) b { q with opts:=x }:=by unfold dd at *;rw[bn h];rfl
theorem dd.set5{q:av}(h:dd w b q)(x:Int):dd (w.setCell ⟨b,5,none⟩ (B C x)) b { q with key:=x }:=by unfold dd at *;rw[bn h];rfl
def Lj(n:Int)(v:Value):Prop:=∃q:av,v=.agg #[B C q.kind,B C q.max,B C q.topic,B C q.obj,B C q.opts,B C q.key]/\q.wf/\(n=0->lm q=true/\q.max<=12)
theorem G0(p:Nat)(n:Int)(w:World)(h:bz w p)(hn:0<=n)(hn':n<=1000000000) :
  Calls prog 87 #[.pointer (some ⟨p,0,none⟩),B C n] w (iN p w fun v _=>Lj n v):=by
 have hlt:=h.lt;have HT0:=zZ (h.ext ((zE _).alloc (.cells #[B C 0,B C 0,B C 0,B C 0,B C 0,B C 0] 131)));have HB0:Hid (dd (w.alloc (.cells #[B C 0,B C 0,B C 0,B C 0,B C 0,B C 0] 131)) w.heap.size ⟨0,0,0,0,0,0⟩):=heap_alloc_new w _;clear h;go_enter func87,ntmps87
 go_wp2_with fail;refine (az p _ _ _ HT0.out (by omega) (by omega) (by omega) (by omega)).mono ?_;rintro e w1 ⟨v1,rfl,⟨m,rfl,hm1,hm2⟩,HT1,HX1⟩;go_wp2_with fail;refine (am p _ _ HT1 (by omega)).mono ?_;rintro e w2 ⟨v2,rfl,⟨t,rfl,ht1,ht2⟩,HT2,HX2⟩;go_wp2_with fail;refine (am p _ _ HT2 (by omega)).mono ?_;rintro e w3 ⟨v3,rfl,⟨o,rfl,ho1,ho2⟩,HT3,HX3⟩;have HX:=zZ ((HX1.trans HX2).trans HX3);have HB3:=zZ (HB0.out.xt HX.out (by omega));have hs3:=HB3.out.lt;have HT3':=zZ HT3;have HQ:Hid (dd (w3.alloc (.cells #[B C 1,B C m,B C t,B C o,B C 0,B C 0] 131)) w3.heap.size ⟨1,m,t,o,0,0⟩):=heap_alloc_new w3 _;have HE:Hid (ab w3 (w3.alloc (.cells #[B C 1,B C m,B C t,B C o,B C 0,B C 0] 131))):=(zE _).alloc _;have HXA:Hid (XT p w w3):=((XT.refl _ _).alloc _).trans HX.out;clear HT1 HT2 HT3 HX1 HX2 HX3 HT0 HB0 HX;go_upto_region 2 with (fail)
 replace HB3:=zZ (HB3.out.ext HE.out);replace HT3':=zZ (HT3'.out.ext HE.out);replace HXA:=zZ (HXA.out.ext HE.out);generalize hW:w3.alloc (.cells #[B C 1,B C m,B C t,B C o,B C 0,B C 0] 131)=W at *
 clear hW HE;go_wp2_with fail;refine (am p _ _ HT3'.out (by omega)).mono ?_;rintro e w4 ⟨v4,rfl,⟨k,rfl,hk1,hk2⟩,HT4,HX4⟩;replace HX4:=zZ HX4;replace HT4:=zZ HT4;replace HB3:=zZ ((HB3.out.xt HX4.out (by omega)));replace HQ:=zZ ((HQ.out.xt HX4.out (by omega)));replace HXA:=zZ (HXA.out.trans HX4.out);clear HX4 HT3';go_upto_if 15 with (fail)
 go_cut [] (fun wx=>∃q:av,Hid (dd wx w3.heap.size q/\(lm q=true/\q.max<=12)/\dd wx w.heap.size ⟨0,0,0,0,0,0⟩/\bz wx p/\XT p w wx))
 case first =>
  by_cases hk:k=0
  ·subst hk;go_wp2_with fail;refine (az p _ _ _ HT4.out (by omega) (by omega) (by omega) (by omega)).mono ?_;rintro e w5 ⟨v5,rfl,⟨y,rfl,hy1,hy2⟩,HT5,HX5⟩;replace HX5:=zZ HX5;replace HT5:=zZ HT5;replace HB3:=zZ ((HB3.out.xt HX5.out (by omega)));replace HQ:=zZ ((HQ.out.xt HX5.out (by omega)));replace HXA:=zZ (HXA.out.trans HX5.out);obtain⟨c0,c1,c2,c3,c4,c5⟩:=HQ.out.cells;have f0:=HQ.out.froz 0;have f4:=HQ.out.froz 4;have g0:Hid (dd ((w5.setCell ⟨w3.heap.size,0,none⟩ (B C 2)).setCell ⟨w3.heap.size,4,none⟩ (B C y)) w3.heap.size ⟨2,m,t,o,y,0⟩):=(HQ.out.set0 2).set4 y;have hb3:Hid (dd ((w5.setCell ⟨w3.heap.size,0,none⟩ (B C 2)).setCell ⟨w3.heap.size,4,none⟩ (B C y)) w.heap.size ⟨0,0,0,0,0,0⟩):=(HB3.out.far (by simp;omega) _).far (by simp;omega) _;have ht:Hid (bz ((w5.setCell ⟨w3.heap.size,0,none⟩ (B C 2)).setCell ⟨w3.heap.size,4,none⟩ (B C y)) p):=(HT5.out.setNew (by simp;omega) _).setNew (by simp;omega) _;have hxa:Hid (XT p w ((w5.setCell ⟨w3.heap.size,0,none⟩ (B C 2)).setCell ⟨w3.heap.size,4,none⟩ (B C y))):=(HXA.out.setNew (by simp;omega) _).setNew (by simp;omega) _;go_wp2_with fail;generalize hW:(w5.setCell ⟨w3.heap.size,0,none⟩ (B C 2)).setCell ⟨w3.heap.size,4,none⟩ (B C y)=W5 at *
   clear hW;refine (am p _ _ ht.out (by omega)).mono ?_;rintro e w6 ⟨v6,rfl,⟨z,rfl,hz1,hz2⟩,HT6,HX6⟩;go_wp2_with fail;refine (az p _ _ _ HT6 (by omega) (by omega) (by omega) (by omega)).mono ?_;rintro e w7 ⟨v7,rfl,⟨x,rfl,hx1,hx2⟩,HT7,HX7⟩;have HX:=zZ (HX6.trans HX7);replace g0:=zZ ((g0.out.xt HX.out (by omega)));replace hb3:=zZ ((hb3.out.xt HX.out (by omega)));replace hxa:=zZ (hxa.out.trans HX.out);obtain⟨d0,d1,d2,d3,d4,d5⟩:=g0.out.cells;have f1:=g0.out.froz 1;have f5:=g0.out.froz 5;go_wp2_with fail;go_meet
   refine⟨⟨2,x,t,o,y,z⟩,(g0.out.set5 z).set1 x,?_,(hb3.out.far (by simp;omega) _).far (by simp;omega) _,(HT7.setNew (by simp;omega) _).setNew (by simp;omega) _,(hxa.out.setNew (by simp;omega) _).setNew (by simp;omega) _⟩;exact⟨by simp[lm];omega,by simp;omega⟩
  ·have hk0:(k==0)=false:=by simpa using hk
   clear hk;go_wp2_with fail;go_meet
   refine⟨⟨1,m,t,o,0,0⟩,HQ.out,?_,HB3.out,HT4.out,HXA.out⟩;exact⟨by simp[lm];omega,by simp;omega⟩
 case rest =>
 obtain⟨q,HC⟩:=hcut;clear HB3 HQ HXA HT4;obtain⟨h1,h2,h3,h4,h5⟩:=HC.out;replace h1:=zZ h1;replace h2:=zZ h2;replace h3:=zZ h3;replace h4:=zZ h4;replace h5:=zZ h5;clear HC;go_upto_region 5 with (fail)
 go_cut [34] (fun s34 wx=>∃b:Bool,s34=.bool b/\Hid ((b=true->0<n)/\bz wx p/\XT p wc wx))
 case first =>
  by_cases hn0:0<n
  ·go_wp2_with fail;refine (fe _ _ _ h4.out (by omega) (by omega)).mono ?_;rintro e w4 ⟨v4,rfl,⟨b,rfl⟩,HT4,HX4⟩;go_wp2_with fail;go_meet
   exact⟨b,rfl,fun _=>hn0,HT4,HX4⟩
  ·go_wp2_with fail;go_meet
   exact⟨false,rfl,(fun h=>(by cases h)),h4.out,XT.refl _ _⟩
 case rest =>
 obtain⟨b,rfl,HR⟩:=hcut;replace h1:=zZ ((h1.out.xt HR.out.2.2 (by omega)));replace h3:=zZ ((h3.out.xt HR.out.2.2 (by omega)));replace h5:=zZ (h5.out.trans HR.out.2.2);have HT:=zZ HR.out.2.1;have HN:=zZ HR.out.1;clear HR h4;go_upto_if 34 with (fail)
 go_cut [] (fun wx=>∃q':av,Hid (dd wx w3.heap.size q'/\q'.wf/\(n=0->lm q'=true/\q'.max<=12)/\dd wx w.heap.size ⟨0,0,0,0,0,0⟩/\bz wx p/\XT p w wx))
 case first =>
  have hwf:q.wf:=by have:=k8 h2.out.1;unfold av.wf aU;omega
  replace hwf:=zZ hwf;cases b
  ·go_wp2_with fail;go_meet
   exact⟨q,h1.out,hwf.out,fun _=>h2.out,h3.out,HT.out,h5.out⟩
  ·have hn0:0<n:=HN.out rfl;go_wp2_with fail;refine (am p _ _ HT.out (by omega)).mono ?_;rintro e w6 ⟨v6,rfl,⟨z,rfl,hz1,hz2⟩,HT6,HX6⟩;replace HT6:=zZ HT6;replace HX6:=zZ HX6;replace h1:=zZ ((h1.out.xt HX6.out (by omega)));replace h3:=zZ ((h3.out.xt HX6.out (by omega)));replace h5:=zZ (h5.out.trans HX6.out);have hzz:z=0\/z=1\/z=2\/z=3\/z=4\/z=5:=by omega
   clear hz1 hz2 HT HN;rcases hzz with rfl|rfl|rfl|rfl|rfl|rfl
   ·go_wp2_with fail;refine (az p _ _ _ HT6.out (by omega) (by omega) (by omega) (by omega)).mono ?_;rintro e w7 ⟨v7,rfl,⟨x,rfl,hx1,hx2⟩,HT7,HX7⟩;replace HT7:=zZ HT7;replace HX7:=zZ HX7;replace h1:=zZ ((h1.out.xt HX7.out (by omega)));replace h3:=zZ ((h3.out.xt HX7.out (by omega)));replace h5:=zZ (h5.out.trans HX7.out);obtain⟨d0,d1,d2,d3,d4,d5⟩:=h1.out.cells;have f0:=h1.out.froz 0;go_wp2_with fail;go_meet
    refine⟨{ q with kind:=x },h1.out.set0 x,?_,fun h=>absurd h (by omega),h3.out.far (by simp;omega) _,HT7.out.setNew (by simp;omega) _,h5.out.setNew (by simp;omega) _⟩;have:=hwf.out;unfold av.wf aU at *;simp only;omega
   ·go_wp2_with fail;refine (dt p _ [0,40,41,-1] _ (HT6.out.ext ((zE _).alloc _)) (ak.litg _ _ _ rfl HT6.out.lt (by decide) (by decide)) (by simp)).mono ?_;rintro e w7 ⟨v7,rfl,⟨x,rfl,hx⟩,HT7,HX7⟩;have hxi:aU x:=(by decide:∀y∈([0,40,41,-1]:List Int),aU y) x hx;replace HT7:=zZ HT7;replace hxi:=zZ hxi;have HX8:=zZ ((ab.xt (p:=p) ((zE w6).alloc _)).trans HX7);clear hx HX7;replace h1:=zZ ((h1.out.xt HX8.out (by omega)));replace h3:=zZ ((h3.out.xt HX8.out (by omega)));replace h5:=zZ (h5.out.trans HX8.out);obtain⟨d0,d1,d2,d3,d4,d5⟩:=h1.out.cells;have f0:=h1.out.froz 1;go_wp2_with fail;go_meet
    refine⟨{ q with max:=x },h1.out.set1 x,?_,fun h=>absurd h (by omega),h3.out.far (by simp;omega) _,HT7.out.setNew (by simp;omega) _,h5.out.setNew (by simp;omega) _⟩;have:=hwf.out;have:=hxi.out;unfold av.wf aU at *;simp only;omega
   ·go_wp2_with fail;refine (AU p _ HT6.out).mono ?_;rintro e w7 ⟨v7,rfl,⟨x,rfl,hxi⟩,HT7,HX7⟩;replace HT7:=zZ HT7;replace HX7:=zZ HX7;replace hxi:=zZ hxi;replace h1:=zZ ((h1.out.xt HX7.out (by omega)));replace h3:=zZ ((h3.out.xt HX7.out (by omega)));replace h5:=zZ (h5.out.trans HX7.out);obtain⟨d0,d1,d2,d3,d4,d5⟩:=h1.out.cells;have f0:=h1.out.froz 2;go_wp2_with fail;go_meet
    refine⟨{ q with topic:=x },h1.out.set2 x,?_,fun h=>absurd h (by omega),h3.out.far (by simp;omega) _,HT7.out.setNew (by simp;omega) _,h5.out.setNew (by simp;omega) _⟩;have:=hwf.out;have:=hxi.out;unfold av.wf aU at *;simp only;omega
   ·go_wp2_with fail;refine (AU p _ HT6.out).mono ?_;rintro e w7 ⟨v7,rfl,⟨x,rfl,hxi⟩,HT7,HX7⟩;replace HT7:=zZ HT7;replace HX7:=zZ HX7;replace hxi:=zZ hxi;replace h1:=zZ ((h1.out.xt HX7.out (by omega)));replace h3:=zZ ((h3.out.xt HX7.out (by omega)));replace h5:=zZ (h5.out.trans HX7.out);obtain⟨d0,d1,d2,d3,d4,d5⟩:=h1.out.cells;have f0:=h1.out.froz 3;go_wp2_with fail;go_meet
    refine⟨{ q with obj:=x },h1.out.set3 x,?_,fun h=>absurd h (by omega),h3.out.far (by simp;omega) _,HT7.out.setNew (by simp;omega) _,h5.out.setNew (by simp;omega) _⟩;have:=hwf.out;have:=hxi.out;unfold av.wf aU at *;simp only;omega
   ·go_wp2_with fail;refine (az p _ _ _ HT6.out (by omega) (by omega) (by omega) (by omega)).mono ?_;rintro e w7 ⟨v7,rfl,⟨x,rfl,hx1,hx2⟩,HT7,HX7⟩;replace HT7:=zZ HT7;replace HX7:=zZ HX7;replace h1:=zZ ((h1.out.xt HX7.out (by omega)));replace h3:=zZ ((h3.out.xt HX7.out (by omega)));replace h5:=zZ (h5.out.trans HX7.out);obtain⟨d0,d1,d2,d3,d4,d5⟩:=h1.out.cells;have f0:=h1.out.froz 4;go_wp2_with fail;go_meet
    refine⟨{ q with opts:=x },h1.out.set4 x,?_,fun h=>absurd h (by omega),h3.out.far (by simp;omega) _,HT7.out.setNew (by simp;omega) _,h5.out.setNew (by simp;omega) _⟩;have:=hwf.out;unfold av.wf aU at *;simp only;omega
   ·go_wp2_with fail;refine (az p _ _ _ HT6.out (by omega) (by omega) (by omega) (by omega)).mono ?_;rintro e w7 ⟨v7,rfl,⟨x,rfl,hx1,hx2⟩,HT7,HX7⟩;replace HT7:=zZ HT7;replace HX7:=zZ HX7;replace h1:=zZ ((h1.out.xt HX7.out (by omega)));replace h3:=zZ ((h3.out.xt HX7.out (by omega)));replace h5:=zZ (h5.out.trans HX7.out);obtain⟨d0,d1,d2,d3,d4,d5⟩:=h1.out.cells;have f0:=h1.out.froz 5;go_wp2_with fail;go_meet
    refine⟨{ q with key:=x },h1.out.set5 x,?_,fun h=>absurd h (by omega),h3.out.far (by simp;omega) _,HT7.out.setNew (by simp;omega) _,h5.out.setNew (by simp;omega) _⟩;have:=hwf.out;unfold av.wf aU at *;simp only;omega
 case rest =>
 obtain⟨q',HC⟩:=hcut;clear h1 h2 h3 h5 HT HN;obtain⟨h1,h2,h3,h4,h5,h6⟩:=HC.out;replace h1:=zZ h1;replace h2:=zZ h2;replace h3:=zZ h3;replace h4:=zZ h4;replace h5:=zZ h5;replace h6:=zZ h6;clear HC;obtain⟨d0,d1,d2,d3,d4,d5⟩:=h1.out.cells;obtain⟨e0,e1,e2,e3,e4,e5⟩:=h4.out.cells;have f0:=h4.out.froz 0;have f1:=h4.out.froz 1;have f2:=h4.out.froz 2;have f3:=h4.out.froz 3;have f4:=h4.out.froz 4;have f5:=h4.out.froz 5;go_wp2_with fail;refine bodyPost_ret (v:=.agg #[B C q'.kind,B C q'.max,B C q'.topic,B C q'.obj,B C q'.opts,B C q'.key]) (by simp[results,results87,go_sem,e0,e1,e2,e3,e4,e5]) rfl ⟨_,rfl,⟨q',rfl,h2.out,h3.out⟩,?_,?_⟩
 ·exact (((((h5.out.setNew hlt _).setNew hlt _).setNew hlt _).setNew hlt _).setNew hlt _).setNew hlt _
 ·exact (((((h6.out.setNew (zX _) _).setNew (zX _) _).setNew (zX _) _).setNew (zX _) _).setNew (zX _) _).setNew (zX _) _
theorem Tryz.infoQ:(prog.info? 131).map (fun i=>(i.zero,i.size,i.bytes))=some (some (.agg #[B C 0,B C 0,B C 0,B C 0,B C 0,B C 0]),6,48):=by kernel_rfl
theorem pX{base e size:Nat}{xs:List Value}(h:w.ownsRow base e size v n xs)(ha:v.ownBlock≠some a.block)(u:Value):(w.setCell a u).ownsRow base e size v n xs :=
 aJ h (XT.setCell (XT.refl a.block w) rfl u) (fun k hk e=>ha (by rw[hk];exact e.symm))
def dK(w:World)(b:Nat)(code var:Int)(v:Value):Prop:=w.heap[b]?=some (.cells #[B C code,B C var,v] 84 (0,0))
section
variable {w w':World} {b p:Nat} {code var:Int} {v:Value}
theorem dK.cells(h:dK w b code var v):w.cell? ⟨b,0,none⟩=some (B C code)/\w.cell? ⟨b,1,none⟩=some (B C var)/\w.cell? ⟨b,2,none⟩=some v:=Hd h
theorem dK.froz(h:dK w b code var v)(i:Nat):w.frozen? ⟨b,i,none⟩=false:=ae h i
theorem dK.lt(h:dK w b code var v):b<w.heap.size:=al h
theorem dK.xt(h:dK w b code var v)(hx:XT p w w')(hb:b≠p):dK w' b code var v:=hx.blk h hb
theorem dK.ext(h:dK w b code var v)(hx:ab w w'):dK w' b code var v:=hx.blk h
theorem dK.far(h:dK w b code var v)(ha:b≠a.block)(u:Value):dK (w.setCell a u) b code var v:=(yP _ _ _ _ ha).trans h
theorem dK.set2(h:dK w b code var v)(x:Value):dK (w.setCell ⟨b,2,none⟩ x) b code var x:=by unfold dK at *;rw[bn h];rfl
theorem dK.grown(h:dK w b code var v){row:Option Nat}(hg:w.grownBy w' row)(hr:row≠some b):dK w' b code var v:=(hg.block b (al h) (fun e=>hr e.symm)).trans h
end
def dZ(base:Nat)(w:World)(v:Value)(ps:List av):Prop:=w.ownsRow base 131 6 v ps.length (ps.map av.cells).flatten
section
variable {w w':World} {base p:Nat} {v:Value} {ps:List av}
theorem dZ.isQ(h:dZ base w v ps)(hp:p<base)(hb:∀q∈ps,q.wf):oa p w v ps:=by refine bj.of_own (e:=131) (ps.map av.cells) (by simp[av.cells]) (by decide) (by simp) h hp ?_;intro k cs x hcs hx;simp only[zP,yO]at hcs;obtain⟨q,hq,rfl⟩:=hcs;rw[hx]at hq;injection hq with hq;subst hq;exact⟨rfl,hb _ (zW hx)⟩
theorem dZ.own(h:dZ base w v ps):w.ownsRow base 131 6 v ps.length (ps.map av.cells).flatten:=h
theorem dZ.isOwn(h:w.ownsRow base 131 6 v n (ps.map av.cells).flatten)(hn:ps.length=n):dZ base w v ps:=by subst hn;exact h
theorem dZ.form(h:dZ base w v ps):∃A c,v=D A ps.length c:=by
 rcases h.2 with ⟨rfl,h0⟩|⟨g,cap,cur,rfl,_⟩
 ·exact⟨none,0,by rw[h0]⟩
 ·exact⟨_,_,rfl⟩
theorem dZ.push{q:av}(hn:ps.length=n)(h:w.ownsRow base 131 6 v (n+1) ((ps.map av.cells).flatten++[B C q.kind,B C q.max,B C q.topic,B C q.obj,B C q.opts,B C q.key])):dZ base w v (ps++[q]):=by unfold dZ;subst hn;simpa[av.cells] using h
theorem dZ.nil(base:Nat)(w:World):dZ base w (D none 0 0) []:=yZ _ _ _ _
theorem dZ.base_ne(h:dZ base w v ps){e s:Nat}(hb:w.heap[b]?=some (.cells cs e (0,0)))(he:e≠131):v.ownBlock≠some b:=by
 intro hk;rcases h.2 with ⟨rfl,_⟩|⟨g,c1,cu1,rfl,_,hh1,_⟩
 ·simp[Value.ownBlock]at hk
 have e1:g=b:=by simpa[Value.ownBlock] using hk
 subst e1;rw[hh1]at hb;injection hb with hb;injection hb with _ h2;exact he h2.symm
end
def Kc(w:World)(base:Nat)(code var:Int)(v:Value):Prop:=∃pv ps,v=.agg #[B C code,B C var,pv]/\dZ base w pv ps/\1<=ps.length/\ps.length<=6/\∀q∈ps,lm q=true/\q.max<=12
theorem JS{q:av}(h:lm q=true):q.wf:=by have:=k8 h;unfold av.wf aU;omega
theorem Fm(p:Nat)(code var:Int)(w:World)(h:bz w p) :
  Calls prog 46 #[.pointer (some ⟨p,0,none⟩),B C code,B C var] w (iN p w fun v w'=>Kc w' w.heap.size code var v):=by
 have hlt:=h.lt;obtain⟨iQ,hiQ,hy0,hy1,hy2⟩:=info_parts Tryz.infoQ;have HE:Hid (ab w ((w.alloc (.cells #[B C 0,B C 0,D none 0 0] 84)).alloc (.cells #[B C code,B C var,D none 0 0] 84))):=((zE _).alloc _).alloc _;have HB0:Hid (dK ((w.alloc (.cells #[B C 0,B C 0,D none 0 0] 84)).alloc (.cells #[B C code,B C var,D none 0 0] 84)) w.heap.size 0 0 (D none 0 0)):=dK.ext (heap_alloc_new w _) ((zE _).alloc _);have HB1:Hid (dK ((w.alloc (.cells #[B C 0,B C 0,D none 0 0] 84)).alloc (.cells #[B C code,B C var,D none 0 0] 84)) (w.heap.size+1) code var (D none 0 0)):=by
  have:=heap_alloc_new (w.alloc (.cells #[B C 0,B C 0,D none 0 0] 84)) (.cells #[B C code,B C var,D none 0 0] 84);show dK _ _ _ _ _
  simpa[dK] using this
 have HT:=zZ (h.ext HE.out);have HXA:Hid (XT p w ((w.alloc (.cells #[B C 0,B C 0,D none 0 0] 84)).alloc (.cells #[B C code,B C var,D none 0 0] 84))):=HE.out.xt;clear h HE;go_enter func46,ntmps46
 go_wp2_with fail;generalize hW:(w.alloc (.cells #[B C 0,B C 0,D none 0 0] 84)).alloc (.cells #[B C code,B C var,D none 0 0] 84)=W at *
 clear hW;refine (az p _ _ _ HT.out (by omega) (by omega) (by omega) (by omega)).mono ?_;rintro e w1 ⟨v1,rfl,⟨r,rfl,hr1,hr2⟩,HT1,HX1⟩;obtain⟨r,rfl⟩:=zG (show 0<=r by omega);replace HT1:=zZ HT1;replace HX1:=zZ HX1;replace HB0:=zZ ((HB0.out.xt HX1.out (by omega)));replace HB1:=zZ ((HB1.out.xt HX1.out (by omega)));replace HXA:=zZ (HXA.out.trans HX1.out);clear HT HX1;have hr6:r<=6:=by omega
 have hr0:1<=r:=by omega
 clear hr1 hr2;go_wp2_with fail;go_loopw [8] (fun s8 wr=>∃(k:Nat) (A:Option Addr) (n c:Nat) (ps:List av),s8=B C k/\n+k=r/\Hid (ps.length=n/\dK wr w.heap.size 0 0 (D none 0 0)/\dK wr (w.heap.size+1) code var (D A n c)/\dZ w.heap.size wr (D A n c) ps/\(∀q∈ps,lm q=true/\q.max<=12)/\bz wr p/\XT p w wr)) (fun i _=>(intOf i).toNat)
 case atStart=>exact⟨r,none,0,0,[],rfl,by omega,rfl,HB0.out,HB1.out,dZ.nil _ _,by simp,HT1.out,HXA.out⟩
 case round =>
  obtain⟨k,A,n,c,ps,rfl,hk,HR⟩:=hrel;clear HB0 HB1 HXA HT1;obtain⟨q1,q2,q3,q4,q5,q6,q7⟩:=HR.out;have hne:=q4.base_ne (s:=0) q3 (by decide);have hb8:=q3.lt;replace q1:=zZ q1;replace q2:=zZ q2;replace q3:=zZ q3;replace q4:=zZ q4;replace q5:=zZ q5;replace q6:=zZ q6;replace q7:=zZ q7;replace hne:=zZ hne;clear HR;by_cases hk0:0<k
  ·obtain⟨c0,c1,c2⟩:=q3.out.cells;have hn6:n<=6:=by omega
   have HO:Hid (wr.ownsRow w.heap.size 131 6 (D A n c) n (ps.map av.cells).flatten):=by have:=q4.out.own;rw[q1.out]at this;exact this
   go_upto_region 5 with (fail)
   go_region_law (first
    |(go_simp;go_at_call 87;refine (G0 p _ _ (q6.out.ext (zE _).drew) (by omega) (by omega)).mono ?_;rintro e w2 ⟨v2,rfl,⟨q,rfl,hq1,hq2⟩,HT2,HX2'⟩;have HX2:=zZ ((ab.xt (p:=p) ((zE wr).drew)).trans HX2');have hs2:=HX2.out.size;have d2:=HX2.out.cell c2 (by simp;omega);have e2:∀o,(w2.alloc o).cell? ⟨w.heap.size+1,2,none⟩=some (D A n c):=(fun o=>ab.cell ((zE _).alloc o) d2);clear HX2')
    |(refine step_append_lies _ (by rfl) _ _ _ (by rfl) w.heap.size 131 iQ _ 6 48 underlying82 hiQ hy0 hy1 hy2 rfl (by omega) (D A n c) n _ (by rfl) ((dD HO.out HX2.out hlt).alloc _) ⟨w2.heap.size,0,none⟩ 1 1 _ (by rfl) (by rfl) (World.news_of_block (heap_alloc_new w2 _)) (by simp[Value.oneCell']) (by omega) (by unfold maxLen;omega) (by omega) (by simp;omega) (w2.heap.size+1) (by simp) ?_;intro gg cap w3 hown3 hgrow hat hlt3;have HG:=zZ (((q3.out.xt HX2.out (by omega)).ext ((zE _).alloc _)).grown hgrow hne.out);obtain⟨z0,z1,z2⟩:=HG.out.cells;have zf:=HG.out.froz 2;have HO3:=zZ hown3;have HGR:=zZ hgrow;clear hown3 hgrow))
   all_goals go_wp2_with fail
   all_goals
    go_roundw
    case rel =>
     refine⟨k-1,_,n+1,cap,ps++[q],by congr;omega,by omega,by have:=q1.out;simp;omega,?_,HG.out.set2 _,?_,?_,?_,?_⟩
     ·refine dK.far (dK.grown ((q2.out.xt HX2.out (by omega)).ext ((zE _).alloc _)) HGR.out ?_) (by simp) _;exact dZ.base_ne (s:=0) (dZ.isOwn (dD HO.out HX2.out hlt) q1.out) (q2.out.xt HX2.out (by omega)) (by decide)
     ·have ha:=dZ.base_ne (s:=0) (dZ.push (q:=q) q1.out HO3.out) HG.out (by decide);exact pX (a:=⟨w.heap.size+1,2,none⟩) (dZ.push q1.out HO3.out).own ha _
     ·intro x hx;rcases zM.1 hx with hx|hx
      ·exact q5.out x hx
      ·simp at hx;subst hx;exact hq2 rfl
     ·refine bz.setNew ((HT2.ext ((zE _).alloc _)).grown HGR.out (fun k hk=>?_)) (by simp;omega) _;have:=aq HO.out k hk;omega
     ·exact XT.setNew (XT.grown ((q7.out.trans HX2.out).alloc _) HGR.out (aq HO.out)) (by simp) _
    case measure=>simp[intOf];omega
  ·obtain rfl:k=0:=by omega
   obtain⟨c0,c1,c2⟩:=q3.out.cells;obtain⟨d0,d1,d2⟩:=q2.out.cells;have f0:=q2.out.froz 0;have f1:=q2.out.froz 1;have f2:=q2.out.froz 2;go_wp2_with fail;refine bodyPost_ret (v:=.agg #[B C code,B C var,D A n c]) (by simp[results,results46,go_sem,c0,c1,c2,d0,d1,d2]) rfl ⟨_,rfl,⟨_,ps,rfl,?_,?_,?_,q5.out⟩,?_,?_⟩
   ·have ha:=q4.out.base_ne (s:=0) q2.out (by decide);exact pX (pX (pX q4.out.own ha _) ha _) ha _
   ·have:=q1.out;omega
   ·have:=q1.out;omega
   ·exact ((q6.out.setNew hlt _).setNew hlt _).setNew hlt _
   ·exact ((q7.out.setNew (zX _) _).setNew (zX _) _).setNew (zX _) _
def sv(l:List UInt8):Value:=.string ⟨l.toArray⟩
theorem Lf(s:ByteArray):Value.string s=sv (bl s):=by unfold sv bl;rw[show (⟨s.data.toList.toArray⟩:ByteArray)=s by cases s;simp]
def aj.cells(c:aj)(u:Value):List Value:=[B C c.st.t,B C c.st.s,B C c.st.q,B C c.kind,sv c.str,B C c.cont,u,B C c.tgt.s,B C c.tgt.q,B C c.lab.p,B C c.lab.c,B C c.lab.g,B C c.lab.v]
def aj.wf(c:aj):Prop:=c.st.wf/\aU c.kind/\c.str.length<=1000/\aU c.cont/\c.tgt.wf/\c.lab.wf/\c.ch.length<=1000
def Pg.cells(c:Pg)(u:Value):List Value:=[B C c.cand,B C c.page,B C c.cont,u,B C c.scan.s,B C c.scan.q]
def Pg.wf(c:Pg):Prop:=aU c.cand/\aU c.page/\aU c.cont/\c.scan.wf/\c.ch.length<=1000
def BQ(p:Nat):World->List Value->je->Prop:=fun w cs q=>∃u,cs=[B C q.code,B C q.var,u]/\oa p w u q.ps/\aU q.code/\aU q.var
def JY(p:Nat):World->List Value->List (List Int)->Prop:=fun w cs b=>∃u,cs=[u]/\oc p w u b
def lR:World->List Value->fv->Prop:=fun _ cs x=>cs=x.cells/\x.wf
def bR(p:Nat):World->List Value->aj->Prop:=fun w cs c=>∃u,cs=c.cells u/\ak p w u c.ch/\c.wf
def cU:World->List Value->dF->Prop:=fun _ cs x=>cs=x.cells/\x.wf
def lO(p:Nat):World->List Value->Pg->Prop:=fun w cs c=>∃u,cs=c.cells u/\ak p w u c.ch/\c.wf
def oT:World->List Value->bN->Prop:=fun _ cs x=>cs=x.cells/\x.wf
theorem BQ.stab(p:Nat):lV p (BQ p):=by rintro w w' cs l ⟨u,rfl,h,h1,h2⟩ e;exact⟨u,rfl,h.xt (bC.stab p) e,h1,h2⟩
theorem JY.stab(p:Nat):lV p (JY p):=by rintro w w' cs l ⟨u,rfl,h⟩ e;exact⟨u,rfl,h.xt (RI.stab p) e⟩
theorem lR.stab(p:Nat):lV p lR:=fun _ _ _ _ h _=>h
theorem cU.stab(p:Nat):lV p cU:=fun _ _ _ _ h _=>h
theorem oT.stab(p:Nat):lV p oT:=fun _ _ _ _ h _=>h
theorem bR.stab(p:Nat):lV p (bR p):=by rintro w w' cs l ⟨u,rfl,h,h1⟩ e;exact⟨u,rfl,h.xt e,h1⟩
theorem lO.stab(p:Nat):lV p (lO p):=by rintro w w' cs l ⟨u,rfl,h,h1⟩ e;exact⟨u,rfl,h.xt e,h1⟩
abbrev jg (p:Nat):World->Value->List je->Prop:=bj p 3 (BQ p)
abbrev l9 (p:Nat):World->Value->List (List (List Int))->Prop:=bj p 1 (JY p)
abbrev jh (p:Nat):World->Value->List fv->Prop:=bj p 3 lR
abbrev au (p:Nat):World->Value->List aj->Prop:=bj p 13 (bR p)
abbrev rA (p:Nat):World->Value->List dF->Prop:=bj p 7 cU
abbrev Ce (p:Nat):World->Value->List Pg->Prop:=bj p 6 (lO p)
abbrev oI (p:Nat):World->Value->List bN->Prop:=bj p 3 oT
def aR(p:Nat)(w:World)(v:Value)(s:dl):Prop :=
 ∃vP vB vX,v=.agg #[B C s.num,vP,vB,vX]/\jg p w vP s.pap/\l9 p w vB s.bk/\jh p w vX s.xp/\aU s.num
def aK(p:Nat)(w:World)(v:Value)(i:r6):Prop:=∃vS vG,v=.agg #[vS,vG]/\rA p w vS i.sts/\Ce p w vG i.pgs
section
variable {p:Nat} {w w':World} {v:Value} {s:dl} {i:r6}
theorem aR.xt(h:aR p w v s)(e:XT p w w'):aR p w' v s:=by obtain⟨vP,vB,vX,h0,h1,h2,h3,h4⟩:=h;exact⟨vP,vB,vX,h0,h1.xt (BQ.stab p) e,h2.xt (JY.stab p) e,h3.xt (lR.stab p) e,h4⟩
theorem aR.ext(h:aR p w v s)(e:ab w w'):aR p w' v s:=h.xt e.xt
theorem aK.xt(h:aK p w v i)(e:XT p w w'):aK p w' v i:=by obtain⟨vS,vG,h0,h1,h2⟩:=h;exact⟨vS,vG,h0,h1.xt (cU.stab p) e,h2.xt (lO.stab p) e⟩
theorem aK.ext(h:aK p w v i)(e:ab w w'):aK p w' v i:=h.xt e.xt
end
def Bk(w:World)(g:Nat)(cs:Array Value)(t:TypeId):Prop:=w.heap[g]?=some (.cells cs t (0,0))
section
variable {w w':World} {g p:Nat} {cs:Array Value} {t:TypeId}
theorem Bk.new(w:World)(cs:Array Value)(t:TypeId):Bk (w.alloc (.cells cs t)) w.heap.size cs t:=heap_alloc_new w _
theorem Bk.cell(h:Bk w g cs t){u:Value}(hi:cs[i]?=some u):w.cell? ⟨g,i,none⟩=some u:=ac h hi
theorem Bk.froz(h:Bk w g cs t)(i:Nat):w.frozen? ⟨g,i,none⟩=false:=ae h i
theorem Bk.lt(h:Bk w g cs t):g<w.heap.size:=al h
theorem Bk.xt(h:Bk w g cs t)(hx:XT p w w')(hb:g≠p):Bk w' g cs t:=hx.blk h hb
theorem Bk.ext(h:Bk w g cs t)(hx:ab w w'):Bk w' g cs t:=hx.blk h
theorem Bk.far(h:Bk w g cs t)(ha:g≠a.block)(u:Value):Bk (w.setCell a u) g cs t:=(yP _ _ _ _ ha).trans h
theorem Bk.set(h:Bk w g cs t)(i:Nat)(u:Value):Bk (w.setCell ⟨g,i,none⟩ u) g (cs.setIfInBounds i u) t:=by unfold Bk at *;rw[bn h]
theorem Bk.grown(h:Bk w g cs t){row:Option Nat}(hg:w.grownBy w' row)(hr:row≠some g):Bk w' g cs t:=(hg.block g (al h) (fun e=>hr e.symm)).trans h
theorem Bk.alloc(h:Bk w g cs t)(o:Obj):Bk (w.alloc o) g cs t:=h.ext ((zE _).alloc o)
end
def da{α:Type}(base:Nat)(e size:Nat)(f:α->List Value)(w:World)(v:Value)(xs:List α):Prop:=w.ownsRow base e size v xs.length (xs.map f).flatten
section
variable {α:Type} {base e size p:Nat} {f:α->List Value} {w w':World} {v:Value} {xs:List α}
theorem da.own(h:da base e size f w v xs):w.ownsRow base e size v xs.length (xs.map f).flatten:=h
theorem da.nil:da base e size f w (D none 0 0) ([]:List α):=yZ _ _ _ _
theorem da.push{x:α}(h:w.ownsRow base e size v (xs.length+1) ((xs.map f).flatten++f x)):da base e size f w v (xs++[x]):=by unfold da;simpa using h
theorem da.ext(h:da base e size f w v xs)(hx:ab w w'):da base e size f w' v xs:=ao h hx
theorem da.xt(h:da base e size f w v xs)(hx:XT p w w')(hp:p<base):da base e size f w' v xs:=dD h hx hp
theorem da.isS{q:Nat}{R:World->List Value->α->Prop}(h:da base e size f w v xs)(hp:q<base)(hsz:0<size)(hf:∀x∈xs,(f x).length=size)(hR:∀x∈xs,R w (f x) x):bj q size R w v xs:=by refine bj.of_own (e:=e) (xs.map f) (by simpa using hf) hsz (by simp) h hp ?_;intro k cs x hcs hx;simp only[zP,yO]at hcs;obtain⟨y,hy,rfl⟩:=hcs;rw[hx]at hy;injection hy with hy;subst hy;exact hR _ (zW hx)
theorem da.form(h:da base e size f w v xs):∃A c,v=D A xs.length c:=by
 rcases h.2 with ⟨e,h0⟩|⟨g,cap,cur,e,_⟩
 ·exact⟨none,0,by rw[e,h0]⟩
 ·exact⟨_,_,e⟩
end
theorem Bk.p2(h:Bk w g cs t)(e:cs.toList=u0::u1::r):w.cell? ⟨g,0,none⟩=some u0/\w.cell? ⟨g,1,none⟩=some u1:=by
 obtain rfl:cs=⟨u0::u1::r⟩:=by rw[<-e]
 exact⟨h.cell (i:=0) rfl,h.cell (i:=1) rfl⟩
theorem Bk.p3(h:Bk w g cs t)(e:cs.toList=u0::u1::u2::r):w.cell? ⟨g,0,none⟩=some u0/\w.cell? ⟨g,1,none⟩=some u1/\w.cell? ⟨g,2,none⟩=some u2:=by
 obtain rfl:cs=⟨u0::u1::u2::r⟩:=by rw[<-e]
 exact⟨h.cell (i:=0) rfl,h.cell (i:=1) rfl,h.cell (i:=2) rfl⟩
theorem Bk.p4(h:Bk w g cs t)(e:cs.toList=u0::u1::u2::u3::r):w.cell? ⟨g,0,none⟩=some u0/\w.cell? ⟨g,1,none⟩=some u1/\w.cell? ⟨g,2,none⟩=some u2/\w.cell? ⟨g,3,none⟩=some u3:=by
 obtain rfl:cs=⟨u0::u1::u2::u3::r⟩:=by rw[<-e]
 exact⟨h.cell (i:=0) rfl,h.cell (i:=1) rfl,h.cell (i:=2) rfl,h.cell (i:=3) rfl⟩
theorem Bk.p5(h:Bk w g cs t)(e:cs.toList=u0::u1::u2::u3::u4::r):w.cell? ⟨g,0,none⟩=some u0/\w.cell? ⟨g,1,none⟩=some u1/\w.cell? ⟨g,2,none⟩=some u2/\w.cell? ⟨g,3,none⟩=some u3/\w.cell? ⟨g,4,none⟩=some u4:=by
 obtain rfl:cs=⟨u0::u1::u2::u3::u4::r⟩:=by rw[<-e]
 exact⟨h.cell (i:=0) rfl,h.cell (i:=1) rfl,h.cell (i:=2) rfl,h.cell (i:=3) rfl,h.cell (i:=4) rfl⟩
theorem Bk.p6(h:Bk w g cs t)(e:cs.toList=u0::u1::u2::u3::u4::u5::r):w.cell? ⟨g,0,none⟩=some u0/\w.cell? ⟨g,1,none⟩=some u1/\w.cell? ⟨g,2,none⟩=some u2/\w.cell? ⟨g,3,none⟩=some u3/\w.cell? ⟨g,4,none⟩=some u4/\w.cell? ⟨g,5,none⟩=some u5:=by
 obtain rfl:cs=⟨u0::u1::u2::u3::u4::u5::r⟩:=by rw[<-e]
 exact⟨h.cell (i:=0) rfl,h.cell (i:=1) rfl,h.cell (i:=2) rfl,h.cell (i:=3) rfl,h.cell (i:=4) rfl,h.cell (i:=5) rfl⟩
theorem Bk.p7(h:Bk w g cs t)(e:cs.toList=u0::u1::u2::u3::u4::u5::u6::r):w.cell? ⟨g,0,none⟩=some u0/\w.cell? ⟨g,1,none⟩=some u1/\w.cell? ⟨g,2,none⟩=some u2/\w.cell? ⟨g,3,none⟩=some u3/\w.cell? ⟨g,4,none⟩=some u4/\w.cell? ⟨g,5,none⟩=some u5/\w.cell? ⟨g,6,none⟩=some u6:=by
 obtain rfl:cs=⟨u0::u1::u2::u3::u4::u5::u6::r⟩:=by rw[<-e]
 exact⟨h.cell (i:=0) rfl,h.cell (i:=1) rfl,h.cell (i:=2) rfl,h.cell (i:=3) rfl,h.cell (i:=4) rfl,h.cell (i:=5) rfl,h.cell (i:=6) rfl⟩
theorem Bk.p8(h:Bk w g cs t)(e:cs.toList=u0::u1::u2::u3::u4::u5::u6::u7::r):w.cell? ⟨g,0,none⟩=some u0/\w.cell? ⟨g,1,none⟩=some u1/\w.cell? ⟨g,2,none⟩=some u2/\w.cell? ⟨g,3,none⟩=some u3/\w.cell? ⟨g,4,none⟩=some u4/\w.cell? ⟨g,5,none⟩=some u5/\w.cell? ⟨g,6,none⟩=some u6/\w.cell? ⟨g,7,none⟩=some u7:=by
 obtain rfl:cs=⟨u0::u1::u2::u3::u4::u5::u6::u7::r⟩:=by rw[<-e]
 exact⟨h.cell (i:=0) rfl,h.cell (i:=1) rfl,h.cell (i:=2) rfl,h.cell (i:=3) rfl,h.cell (i:=4) rfl,h.cell (i:=5) rfl,h.cell (i:=6) rfl,h.cell (i:=7) rfl⟩
theorem Bk.p9(h:Bk w g cs t)(e:cs.toList=u0::u1::u2::u3::u4::u5::u6::u7::u8::r):w.cell? ⟨g,0,none⟩=some u0/\w.cell? ⟨g,1,none⟩=some u1/\w.cell? ⟨g,2,none⟩=some u2/\w.cell? ⟨g,3,none⟩=some u3/\w.cell? ⟨g,4,none⟩=some u4/\w.cell? ⟨g,5,none⟩=some u5/\w.cell? ⟨g,6,none⟩=some u6/\w.cell? ⟨g,7,none⟩=some u7/\w.cell? ⟨g,8,none⟩=some u8:=by
 obtain rfl:cs=⟨u0::u1::u2::u3::u4::u5::u6::u7::u8::r⟩:=by rw[<-e]
 exact⟨h.cell (i:=0) rfl,h.cell (i:=1) rfl,h.cell (i:=2) rfl,h.cell (i:=3) rfl,h.cell (i:=4) rfl,h.cell (i:=5) rfl,h.cell (i:=6) rfl,h.cell (i:=7) rfl,h.cell (i:=8) rfl⟩
theorem Bk.p10(h:Bk w g cs t)(e:cs.toList=u0::u1::u2::u3::u4::u5::u6::u7::u8::u9::r):w.cell? ⟨g,0,none⟩=some u0/\w.cell? ⟨g,1,none⟩=some u1/\w.cell? ⟨g,2,none⟩=some u2/\w.cell? ⟨g,3,none⟩=some u3/\w.cell? ⟨g,4,none⟩=some u4/\w.cell? ⟨g,5,none⟩=some u5/\w.cell? ⟨g,6,none⟩=some u6/\w.cell? ⟨g,7,none⟩=some u7/\w.cell? ⟨g,8,none⟩=some u8/\w.cell? ⟨g,9,none⟩=some u9:=by
 obtain rfl:cs=⟨u0::u1::u2::u3::u4::u5::u6::u7::u8::u9::r⟩:=by rw[<-e]
 exact⟨h.cell (i:=0) rfl,h.cell (i:=1) rfl,h.cell (i:=2) rfl,h.cell (i:=3) rfl,h.cell (i:=4) rfl,h.cell (i:=5) rfl,h.cell (i:=6) rfl,h.cell (i:=7) rfl,h.cell (i:=8) rfl,h.cell (i:=9) rfl⟩
theorem Bk.p11(h:Bk w g cs t)(e:cs.toList=u0::u1::u2::u3::u4::u5::u6::u7::u8::u9::u10::r):w.cell? ⟨g,0,none⟩=some u0/\w.cell? ⟨g,1,none⟩=some u1/\w.cell? ⟨g,2,none⟩=some u2/\w.cell? ⟨g,3,none⟩=some u3/\w.cell? ⟨g,4,none⟩=some u4/\w.cell? ⟨g,5,none⟩=some u5/\w.cell? ⟨g,6,none⟩=some u6/\w.cell? ⟨g,7,none⟩=some u7/\w.cell? ⟨g,8,none⟩=some u8/\w.cell? ⟨g,9,none⟩=some u9/\w.cell? ⟨g,10,none⟩=some u10:=by
 obtain rfl:cs=⟨u0::u1::u2::u3::u4::u5::u6::u7::u8::u9::u10::r⟩:=by rw[<-e]
 exact⟨h.cell (i:=0) rfl,h.cell (i:=1) rfl,h.cell (i:=2) rfl,h.cell (i:=3) rfl,h.cell (i:=4) rfl,h.cell (i:=5) rfl,h.cell (i:=6) rfl,h.cell (i:=7) rfl,h.cell (i:=8) rfl,h.cell (i:=9) rfl,h.cell (i:=10) rfl⟩
theorem Bk.p12{u11:Value}(h:Bk w g cs t)(e:cs.toList=u0::u1::u2::u3::u4::u5::u6::u7::u8::u9::u10::u11::r):w.cell? ⟨g,0,none⟩=some u0/\w.cell? ⟨g,1,none⟩=some u1/\w.cell? ⟨g,2,none⟩=some u2/\w.cell? ⟨g,3,none⟩=some u3/\w.cell? ⟨g,4,none⟩=some u4/\w.cell? ⟨g,5,none⟩=some u5/\w.cell? ⟨g,6,none⟩=some u6/\w.cell? ⟨g,7,none⟩=some u7/\w.cell? ⟨g,8,none⟩=some u8/\w.cell? ⟨g,9,none⟩=some u9/\w.cell? ⟨g,10,none⟩=some u10/\w.cell? ⟨g,11,none⟩=some u11:=by
 obtain rfl:cs=⟨u0::u1::u2::u3::u4::u5::u6::u7::u8::u9::u10::u11::r⟩:=by rw[<-e]
 exact⟨h.cell (i:=0) rfl,h.cell (i:=1) rfl,h.cell (i:=2) rfl,h.cell (i:=3) rfl,h.cell (i:=4) rfl,h.cell (i:=5) rfl,h.cell (i:=6) rfl,h.cell (i:=7) rfl,h.cell (i:=8) rfl,h.cell (i:=9) rfl,h.cell (i:=10) rfl,h.cell (i:=11) rfl⟩
theorem Bk.p13{u11 u12:Value}(h:Bk w g cs t)(e:cs.toList=u0::u1::u2::u3::u4::u5::u6::u7::u8::u9::u10::u11::u12::r):w.cell? ⟨g,0,none⟩=some u0/\w.cell? ⟨g,1,none⟩=some u1/\w.cell? ⟨g,2,none⟩=some u2/\w.cell? ⟨g,3,none⟩=some u3/\w.cell? ⟨g,4,none⟩=some u4/\w.cell? ⟨g,5,none⟩=some u5/\w.cell? ⟨g,6,none⟩=some u6/\w.cell? ⟨g,7,none⟩=some u7/\w.cell? ⟨g,8,none⟩=some u8/\w.cell? ⟨g,9,none⟩=some u9/\w.cell? ⟨g,10,none⟩=some u10/\w.cell? ⟨g,11,none⟩=some u11/\w.cell? ⟨g,12,none⟩=some u12:=by
 obtain rfl:cs=⟨u0::u1::u2::u3::u4::u5::u6::u7::u8::u9::u10::u11::u12::r⟩:=by rw[<-e]
 exact⟨h.cell (i:=0) rfl,h.cell (i:=1) rfl,h.cell (i:=2) rfl,h.cell (i:=3) rfl,h.cell (i:=4) rfl,h.cell (i:=5) rfl,h.cell (i:=6) rfl,h.cell (i:=7) rfl,h.cell (i:=8) rfl,h.cell (i:=9) rfl,h.cell (i:=10) rfl,h.cell (i:=11) rfl,h.cell (i:=12) rfl⟩
theorem Bk.c(h:Bk w g cs t)(i:Nat){u:Value}(hi:cs[i]?=some u):w.cell? ⟨g,i,none⟩=some u:=h.cell hi
section
variable {P:Program} {ops:Array Oper} {Q:Exit->Act->World->Prop} {md:Region.Mode} {SS:Array Bool->World->Prop}
def fO(P:Program)(md:Region.Mode)(ops:Array Oper)(Q:Exit->Act->World->Prop)(SS:Array Bool->World->Prop):Nat->Array Bool->Act->World->Prop
 |0,listed,a,w=>Region.ready md ops listed=[]/\Q .normal a w
 |fuel+1,listed,a,w =>
  (Region.ready md ops listed=[]->Q .normal a w) /\
  ∀i∈Region.ready md ops listed,wpOp P ops Q i (fun a' w'=>SS (listed.setIfInBounds i true) w'/\fO P md ops Q SS fuel (listed.setIfInBounds i true) a' w') a w
theorem rF:∀(fuel:Nat) (listed:Array Bool) (a:Act) (w:World),fO P md ops Q SS fuel listed a w->wpAny P md ops Q fuel listed a w
 |0,_,_,_,h=>h
 |fuel+1,_,_,_,h=>⟨h.1,fun i hi=>wpOp_mono (fun a' w' h'=>rF fuel _ a' w' h'.2) (h.2 i hi)⟩
theorem vw{kk:Nat}{oi:Oper}{U:World->Prop}(hi:ops[i]?=some oi)(hsel:∀(j:Nat) (o:Oper) cs b,ops[j]?=some o->o.op≠.select cs b)(hQ:∀c a w,Q (.panic c) (a.put oi.dst v) w->Q (.panic c) a w)(hkw:∀ok,ops[kk]?=some ok->∃e∈ok.after,Region.binds md e=true/\e.on=i)(hU:∀l w,l.getD kk false=false->SS l w->U w)(hp:∀l w,SS (l.setIfInBounds i true) w↔SS l w) :
  ∀(fuel:Nat) (listed:Array Bool) (a:Act) (w:World),
   (∀j oj,ops[j]?=some oj->j≠i->listed.getD j true=false->(∀e∈oj.after,Region.binds md e=true->e.on≠i)->oi.apart ops oj=true) ->
   i∈Region.ready md ops listed->YieldsIf P ops U oi v a->listed.getD kk false=false->SS listed w ->
   fO P md ops Q SS fuel (listed.setIfInBounds i true) (a.put oi.dst v) w->fO P md ops Q SS (fuel+1) listed a w:=by
 intro fuel;induction fuel with
 |zero =>
  intro listed a w _ hr hy hu hS H;refine⟨fun h=>(by rw[h]at hr;cases hr),fun j hj=>?_⟩;by_cases hji:j=i
  ·subst hji;exact hy.wpOp hi (hU _ _ hu hS) ⟨(hp _ _).2 hS,H⟩
  ·have:=ready_mono hj hji;rw[H.1]at this;cases this
 |succ fuel ih =>
  intro listed a w hfree hr hy hu hS H;refine⟨fun h=>(by rw[h]at hr;cases hr),fun j hj=>?_⟩;by_cases hji:j=i
  ·subst hji;exact hy.wpOp hi (hU _ _ hu hS) ⟨(hp _ _).2 hS,H⟩
  ·have hh:=H.2 j (ready_mono hj hji);obtain⟨hjun,oj,hoj,hall⟩:=mem_ready.1 hj;have hnot:∀e∈oj.after,Region.binds md e=true->e.on≠i:=fun e he hb heq=>by
    have h1:=hall e he hb;have h0:=(mem_ready.1 hr).1;rw[heq]at h1;rcases zU i listed.size with h'|h'
    ·simp[h']at h0 h1;rw[h0]at h1;cases h1
    ·simp[wY h']at h1
   have hjk:j≠kk:=fun e=>by subst e;obtain⟨x,hx,hb,ho⟩:=hkw oj hoj;exact hnot x hx hb ho
   have h2:=wpOp_putIf hoj (hfree j oj hoj hji hjun hnot) (fun cs b=>hsel i oi cs b hi) (fun cs b=>hsel j oj cs b hoj) hQ hy hh;have hfree':∀m om,ops[m]?=some om->m≠i->(listed.setIfInBounds j true).getD m true=false ->
     (∀e∈om.after,Region.binds md e=true->e.on≠i)->oi.apart ops om=true:=fun m om hm hmi hun hno=>by
    refine hfree m om hm hmi ?_ hno;by_cases hjm:j=m
    ·subst hjm;exact hjun
    ·rw[getD_set_ne true hjm]at hun;exact hun
   have hcomm:∀l:Array Bool,(l.setIfInBounds i true).setIfInBounds j true=(l.setIfInBounds j true).setIfInBounds i true:=fun l=>Array.setIfInBounds_comm _ _ (Ne.symm hji);refine wpOp_mono (fun a' w' h3=>?_) h2;obtain⟨h4,h5,h6⟩:_/\SS ((listed.setIfInBounds i true).setIfInBounds j true) w'/\fO P md ops Q SS fuel ((listed.setIfInBounds i true).setIfInBounds j true) (a'.put oi.dst v) w':=⟨h3.1,h3.2.1,h3.2.2⟩
   rw[hcomm]at h5 h6;have h7:=(hp _ _).1 h5;exact⟨h7,ih (listed.setIfInBounds j true) a' w' hfree' (ready_mono hr (Ne.symm hji)) h4 (by rw[bO hjk];exact hu) h7 h6⟩
theorem bT(U:World->Prop)(kk i:Nat)(d:Option Tmp){oi:Oper}{a:Act}{w:World}(hi:ops[i]?=some oi)(hd:oi.dst=d)(hs:Region.noSelect ops=true)(hf:Region.free md ops listed i=true)(hr:(Region.ready md ops listed).contains i=true)(hkw:rU md ops kk i=true)(hu:listed.getD kk false=false)(hQ:∀c a w,Q (.panic c) (a.put d v) w->Q (.panic c) a w)(hw:Region.wanted oi (yielded ops a.tmps)=true)(hU:∀l w,l.getD kk false=false->SS l w->U w)(hp:∀l w,SS (l.setIfInBounds i true) w↔SS l w)(hy:∀w,U w->(execOp a.eval oi).run P w=.ok (.value v) w)(hS:SS listed w)(h:fO P md ops Q SS fuel (listed.setIfInBounds i true) (a.put d v) w):fO P md ops Q SS (fuel+1) listed a w:=by
 subst hd;exact vw hi (uE hs) hQ (jP hkw) hU hp fuel listed a w (Region.free_spec hi hf) (by simpa using hr) (.inl ⟨hw,hy⟩) hu hS h
theorem cn(i:Nat){o:Oper}{a:Act}{w:World}(hr:Region.ready md ops listed=[i])(ho:ops[i]?=some o)(h:∀K':Act->World->Prop,Shut (∀a w,SS (listed.setIfInBounds i true) w->fO P md ops Q SS fuel (listed.setIfInBounds i true) a w->K' a w)->if Region.wanted o (yielded ops a.tmps)=true then Oper.wp P o a w K' Q else K' (a.put o.dst undef) w) :
  fO P md ops Q SS (fuel+1) listed a w:=by
 refine⟨fun h0=>(by rw[hr]at h0;cases h0),fun j hj=>?_⟩;rw[hr]at hj;obtain rfl:j=i:=by simpa using hj
 exact wpOp_step ho (fun K' hK=>h K' (fun a w hS hW=>hK a w ⟨hS,hW⟩))
theorem qD(i j:Nat){o o':Oper}{a:Act}{w:World}(hr:Region.ready md ops listed=[i,j])(ho:ops[i]?=some o)(ho':ops[j]?=some o')(h:∀K':Act->World->Prop,Shut (∀a w,SS (listed.setIfInBounds i true) w->fO P md ops Q SS fuel (listed.setIfInBounds i true) a w->K' a w)->if Region.wanted o (yielded ops a.tmps)=true then Oper.wp P o a w K' Q else K' (a.put o.dst undef) w)(h':∀K':Act->World->Prop,Shut (∀a w,SS (listed.setIfInBounds j true) w->fO P md ops Q SS fuel (listed.setIfInBounds j true) a w->K' a w)->if Region.wanted o' (yielded ops a.tmps)=true then Oper.wp P o' a w K' Q else K' (a.put o'.dst undef) w) :
  fO P md ops Q SS (fuel+1) listed a w:=by
 refine⟨fun h0=>(by rw[hr]at h0;cases h0),fun m hm=>?_⟩;rw[hr]at hm;rcases yM.1 hm with rfl|hm
 ·exact wpOp_step ho (fun K' hK=>h K' (fun a w hS hW=>hK a w ⟨hS,hW⟩))
 ·obtain rfl:m=j:=by simpa using hm
  exact wpOp_step ho' (fun K' hK=>h' K' (fun a w hS hW=>hK a w ⟨hS,hW⟩))
theorem kN{listed:Array Bool}{a:Act}{w:World}(hr:Region.ready md ops listed=[])(h:Q .normal a w) :
  ∀fuel,fO P md ops Q SS fuel listed a w
 |0=>⟨hr,h⟩
 |_+1=>⟨fun _=>h,by rw[hr];simp⟩
theorem Ca(SS:Array Bool->World->Prop){id:Nat}{a:Act}(hm:P.follows .mixedOrders=true)(h:fO P .any ops Q SS ops.size (Array.replicate ops.size false) a w.drew):(Code.region id ops true).wp P Q a w :=
 wp_region_any hm (rF _ _ _ _ h)
def xw(k:Nat)(S:World->Prop)(m:Nat)(T:World->Prop)(l:Array Bool)(w:World):Prop:=(l.getD k false=false->S w)/\(l.getD m false=false->T w)
theorem xw.put{k m:Nat}{S T:World->Prop}(hk:i≠k)(hm:i≠m)(l:Array Bool)(w:World):xw k S m T (l.setIfInBounds i true) w↔xw k S m T l w:=by unfold xw;rw[bO hk,bO hm]
end
end Go.Proofs.YtkaajgoeahahpaaGreatDoor

