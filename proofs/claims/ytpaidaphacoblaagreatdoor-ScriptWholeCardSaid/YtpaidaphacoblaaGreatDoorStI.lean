import Derived.StillTailTactics
import Derived.BigRegion
import Derived.Test.YtpaidaphacoblaaGreatDoorK18
set_option linter.all false
set_option maxRecDepth 100000
set_option maxHeartbeats 0
namespace Go.Proofs.YtpaidaphacoblaaGreatDoor
open Go.Value renaming int→B
open Go.IntKind renaming i64→C
open Go.RowKit _root_.Go.Proofs.Tryz
def dz(d:List F)(i:Nat):Int:=((d.getD i 0).n:Int)
theorem fT(d:List F)(i:Nat):0<=dz d i/\dz d i<32:=by have:=(d.getD i 0).lt;unfold dz;omega
def fK(d:List F):Int:=1024*dz d 1+32*dz d 2+dz d 3
def iZ(s:List UInt8)(p c g v n k:Int):Prop :=
 (iM s≠0->p=0/\c=0/\g=0/\v=0/\n=0/\k=iM s) /\
 (iM s=0->∃d er kk,Fy (bY (jmq s)) d er kk/\(kk≠0->p=0/\c=0/\g=0/\v=0/\n=0/\k=25) /\
  (kk=0->(9999<fK d->p=0/\c=0/\g=0/\v=0/\n=0/\k=2)/\(fK d<=9999->p=dz d 0/\c=fK d/\g=dz d 4/\v=dz d 5/\n=er/\k=0)))
theorem tm{s:List UInt8}{p c g v n k p' c' g' v' n' k':Int}(h:iZ s p c g v n k)(h':iZ s p' c' g' v' n' k'):p=p'/\c=c'/\g=g'/\v=v'/\n=n'/\k=k':=by
 by_cases hu:iM s=0
 ·obtain⟨d,er,kk,h1,h2,h3⟩:=h.2 hu;obtain⟨d',er',kk',h1',h2',h3'⟩:=h'.2 hu;obtain⟨rfl,rfl,rfl⟩:=Gx h1 h1';by_cases hk:kk=0
  ·by_cases hc:fK d<=9999
   ·have:=(h3 hk).2 hc;have:=(h3' hk).2 hc;omega
   ·have:=(h3 hk).1 (by omega);have:=(h3' hk).1 (by omega);omega
  ·have:=h2 hk;have:=h2' hk;omega
 ·have:=h.1 hu;have:=h'.1 hu;omega
def DD(s:List UInt8)(w:World)(e:Ending)(w':World):Prop :=
 ∃p c g v n k,e=.returned (.tuple #[.agg #[B C p,B C c,B C g,B C v],B C n,B C k])/\iZ s p c g v n k/\aU p/\aU c/\aU g/\aU v/\aU n/\aU k/\ab w w'
theorem JT{l:List Int}{d:List F}{er k:Int}(hw:cD (-1) l=true)(h:Fy l d er k):(k=0/\d.length=l.length-6/\0<=er/\er<=6)\/(k=25/\d=[]/\er=0):=by
 rcases h.2 hw with ⟨cw,n,h1,h2,h3,h4⟩|⟨h1,h2,h3,h4⟩
 ·have hn:n<=6:=by have:=h1.near;omega
  exact .inl ⟨h4,by rw[h2,yW,h1.len];omega,by omega,by omega⟩
 ·exact .inr ⟨h4,h2,h3⟩
theorem Ib{p:Nat}{w:World}{A:Option Addr}{n c:Nat}{d:List F}(h:ak p w (.slice A n c) (wI d))(hn:d.length=6):∃b off,A=some ⟨b,off,none⟩/\n=6/\∀k,k<6->w.cell? ⟨b,off+k,none⟩=some (B C (dz d k)):=by
 have h6:n=6:=by have:=h.len;rw[aT]at this;omega
 obtain⟨b,off,rfl,_⟩:=qy h (k:=0) (by omega);refine⟨b,off,rfl,h6,fun k hk=>?_⟩;obtain⟨b',off',h1,h2⟩:=qy h (k:=k) (by omega);injection h1 with h1;injection h1 with hb ho;subst hb;subst ho;exact h2
theorem Gl(s:ByteArray)(w:World)(hT:cK w):Calls prog 64 #[.string s] w (DD (bl s) w):=by
 have HT:Bx (cK w):=⟨hT⟩
 clear hT;have HE0:Bx (ab w (w.alloc (.cells #[B C 0,B C 0,B C 0,B C 0] 39))):=⟨(zE _).alloc _⟩
 go_enter func64,ntmps64
 go_wp2_with fail;refine (BX s _).mono ?_;rintro e w1 ⟨t,k,rfl,hk,ht,hx1⟩;have hbk:=hx1.blk (heap_alloc_new w _);have HX:Bx (ab w w1):=⟨HE0.out.trans hx1⟩
 have HBT:Bx (bl t=jmq (bl s)):=⟨ht⟩
 have HK:Bx (k=iM (bl s)):=⟨hk⟩
 have HBK:Bx (w1.heap[w.heap.size]?=some (.cells #[B C 0,B C 0,B C 0,B C 0] 39 (0,0))):=⟨hbk⟩
 clear hx1 ht hk hbk HE0;by_cases hu:k=0
 ·subst hu;have HST:Bx (bd (bl t)=true):=⟨by rw[HBT.out];exact tA HK.out.symm⟩
  go_wp2_with fail;refine (FY t _).mono ?_;rintro e w2 ⟨A2,n2,c2,k2,rfl,hk2,hi2,hx2⟩;rw[(lD HST.out).2]at hk2;rw[(lD HST.out).1,HBT.out]at hi2;subst hk2;have HI:Bx (ak w2.heap.size w2 (.slice A2 n2 c2) (bY (jmq (bl s)))):=⟨hi2⟩
  replace HX:Bx (ab w w2):=⟨HX.out.trans hx2⟩
  replace HBK:Bx (w2.heap[w.heap.size]?=some (.cells #[B C 0,B C 0,B C 0,B C 0] 39 (0,0))):=⟨hx2.blk HBK.out⟩
  clear hi2 hx2;go_wp2_with fail;refine (K8 _ _ _ (HT.out.ext HX.out) HI.out).mono ?_;rintro e w3 ⟨A3,n3,c3,d,er,kk,rfl,hi3,hx3,f3,t3⟩;have HDF:Bx (Fy (bY (jmq (bl s))) d er kk):=⟨⟨f3,t3⟩⟩
  have HI3:Bx (ak w3.heap.size w3 (.slice A3 n3 c3) (wI d)):=⟨hi3⟩
  replace HX:Bx (ab w w3):=⟨HX.out.trans hx3⟩
  replace HBK:Bx (w3.heap[w.heap.size]?=some (.cells #[B C 0,B C 0,B C 0,B C 0] 39 (0,0))):=⟨hx3.blk HBK.out⟩
  have HWW:Bx (cD (-1) (bY (jmq (bl s)))=true):=⟨mE (by rw[<-HBT.out];exact HST.out)⟩
  clear hi3 hx3 f3 t3 HI;have z0:=ac HBK.out (i:=0) rfl;have z1:=ac HBK.out (i:=1) rfl;have z2:=ac HBK.out (i:=2) rfl;have z3:=ac HBK.out (i:=3) rfl;have f0:=ae HBK.out 0;have f1:=ae HBK.out 1;have f2:=ae HBK.out 2;have f3:=ae HBK.out 3;rcases JT HWW.out HDF.out with ⟨rfl,hl,her0,her6⟩|⟨rfl,hd,he⟩
  ·rw[dc]at hl;obtain⟨b,off,rfl,rfl,hcd⟩:=Ib HI3.out hl;have c0:=hcd 0 (by omega);have c1:=hcd 1 (by omega);have c2:=hcd 2 (by omega);have c3:=hcd 3 (by omega);have c4:=hcd 4 (by omega);have c5:=hcd 5 (by omega);rw[yQ]at c0;clear hcd hl;obtain⟨d0l,d0h⟩:=fT d 0;obtain⟨d1l,d1h⟩:=fT d 1;obtain⟨d2l,d2h⟩:=fT d 2;obtain⟨d3l,d3h⟩:=fT d 3;obtain⟨d4l,d4h⟩:=fT d 4;obtain⟨d5l,d5h⟩:=fT d 5;have HCZ:Bx ((dz d 1*32+dz d 2)*32+dz d 3=fK d):=⟨by unfold fK;omega⟩
   have HRF:Bx (∀p c g v n k,(9999<fK d->p=0/\c=0/\g=0/\v=0/\n=0/\k=2)->(fK d<=9999->p=dz d 0/\c=fK d/\g=dz d 4/\v=dz d 5/\n=er/\k=0)->iZ (bl s) p c g v n k):=⟨fun p c g v n k g1 g2=>⟨fun h=>absurd HK.out.symm h,fun _=>⟨d,er,0,HDF.out,fun h=>absurd rfl h,fun _=>⟨g1,g2⟩⟩⟩⟩
   generalize dz d 0=x0 at *
   generalize dz d 1=x1 at *
   generalize dz d 2=x2 at *
   generalize dz d 3=x3 at *
   generalize dz d 4=x4 at *
   generalize dz d 5=x5 at *
   generalize fK d=cz at *
   have e1:IntKind.i64.wrap (x1*32)=x1*32:=yN _ (by omega);have e2:IntKind.i64.wrap (x1*32+x2)=x1*32+x2:=yN _ (by omega);have e3:IntKind.i64.wrap ((x1*32+x2)*32)=(x1*32+x2)*32:=yN _ (by omega);have e4:IntKind.i64.wrap ((x1*32+x2)*32+x3)=cz:=by rw[yN _ (by omega)];exact HCZ.out
   have hz1:cz<=32767:=by have:=HCZ.out;omega
   have hz0:0<=cz:=by have:=HCZ.out;omega
   clear HT HI3 HDF HWW HBT HK HST;go_wp2_with fail;go_quiet (fail)
   clear e1 e2 e3 e4;replace HBK:Bx ((w3.drewN nq).heap[w.heap.size]?=some (.cells #[B C 0,B C 0,B C 0,B C 0] 39 (0,0))):=HBK;replace HX:Bx (ab w (w3.drewN nq)):=⟨HX.out.drewN _⟩
   replace c0:(w3.drewN nq).cell? ⟨b,off,none⟩=_:=c0;replace c4:(w3.drewN nq).cell? ⟨b,off+4,none⟩=_:=c4;replace c5:(w3.drewN nq).cell? ⟨b,off+5,none⟩=_:=c5;replace z0:(w3.drewN nq).cell? ⟨w.heap.size,0,none⟩=_:=z0;replace z1:(w3.drewN nq).cell? ⟨w.heap.size,1,none⟩=_:=z1;replace z2:(w3.drewN nq).cell? ⟨w.heap.size,2,none⟩=_:=z2;replace z3:(w3.drewN nq).cell? ⟨w.heap.size,3,none⟩=_:=z3;replace f0:(w3.drewN nq).frozen? ⟨w.heap.size,0,none⟩=_:=f0;replace f1:(w3.drewN nq).frozen? ⟨w.heap.size,1,none⟩=_:=f1;replace f2:(w3.drewN nq).frozen? ⟨w.heap.size,2,none⟩=_:=f2;replace f3:(w3.drewN nq).frozen? ⟨w.heap.size,3,none⟩=_:=f3;clear c1 c2 c3;generalize w3.drewN nq=w4 at *
   clear HCZ;by_cases hcz:9999<cz
   ·go_wp2_with fail;refine bodyPost_ret (v:=.tuple #[.agg #[B C 0,B C 0,B C 0,B C 0],B C 0,B C 2]) (by simp[results,results64,go_sem,z0,z1,z2,z3]) rfl ⟨0,0,0,0,0,2,rfl,HRF.out _ _ _ _ _ _ (fun _=>⟨rfl,rfl,rfl,rfl,rfl,rfl⟩) (fun h=>by omega),by decide,by decide,by decide,by decide,by decide,by decide,?_⟩;exact (((HX.out.setCell (zX _) _).setCell (zX _) _).setCell (zX _) _).setCell (zX _) _
   ·go_wp2_with fail;go_region
    go_wp2_with fail;refine bodyPost_ret (v:=.tuple #[.agg #[B C x0,B C cz,B C x4,B C x5],B C er,B C 0]) (by simp[results,results64,go_sem,z0,z1,z2,z3]) rfl ⟨x0,cz,x4,x5,er,0,rfl,HRF.out _ _ _ _ _ _ (fun h=>by omega) (fun _=>⟨rfl,rfl,rfl,rfl,rfl,rfl⟩),⟨by omega,by omega⟩,⟨by omega,by omega⟩,⟨by omega,by omega⟩,⟨by omega,by omega⟩,⟨by omega,by omega⟩,by decide,?_⟩;exact ab.drew ((((HX.out.setCell (zX _) _).setCell (zX _) _).setCell (zX _) _).setCell (zX _) _)
  ·subst hd;subst he;have HRF:Bx (iZ (bl s) 0 0 0 0 0 25):=⟨⟨fun h=>absurd HK.out.symm h,fun _=>⟨[],0,25,HDF.out,fun _=>⟨rfl,rfl,rfl,rfl,rfl,rfl⟩,fun h=>by omega⟩⟩⟩
   clear HT HI3 HDF HWW HBT HK HST;go_wp2_with fail;refine bodyPost_ret (v:=.tuple #[.agg #[B C 0,B C 0,B C 0,B C 0],B C 0,B C 25]) (by simp[results,results64,go_sem,z0,z1,z2,z3]) rfl ⟨0,0,0,0,0,25,rfl,HRF.out,by decide,by decide,by decide,by decide,by decide,by decide,?_⟩;exact (((HX.out.setCell (zX _) _).setCell (zX _) _).setCell (zX _) _).setCell (zX _) _
 ·have e1:(k != 0)=true:=bne_iff_ne.2 hu;have HRF:Bx (iZ (bl s) 0 0 0 0 0 k):=⟨⟨fun _=>⟨rfl,rfl,rfl,rfl,rfl,HK.out⟩,fun h=>absurd (HK.out.trans h) hu⟩⟩
  have hk:aU k:=by have:=HK.out;unfold iM at this;constructor<;>(split at this<;>(try split at this)<;>(try split at this)<;>omega)
  have HKI:Bx (aU k):=⟨hk⟩
  have z0:=ac HBK.out (i:=0) rfl;have z1:=ac HBK.out (i:=1) rfl;have z2:=ac HBK.out (i:=2) rfl;have z3:=ac HBK.out (i:=3) rfl;have f0:=ae HBK.out 0;have f1:=ae HBK.out 1;have f2:=ae HBK.out 2;have f3:=ae HBK.out 3;clear HT HBT HK hk;go_wp2_with fail;refine bodyPost_ret (v:=.tuple #[.agg #[B C 0,B C 0,B C 0,B C 0],B C 0,B C k]) (by simp[results,results64,go_sem,z0,z1,z2,z3]) rfl ⟨0,0,0,0,0,k,rfl,HRF.out,by decide,by decide,by decide,by decide,by decide,HKI.out,?_⟩;exact (((HX.out.setCell (zX _) _).setCell (zX _) _).setCell (zX _) _).setCell (zX _) _
end Go.Proofs.YtpaidaphacoblaaGreatDoor

