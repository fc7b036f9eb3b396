import Derived.Test.YtpaidaphacoblaaGreatDoorK25
import Derived.Test.YtpaidaphacoblaaGreatDoorCapU
set_option linter.all false
set_option maxRecDepth 100000
set_option maxHeartbeats 0
namespace Go.Proofs.YtpaidaphacoblaaGreatDoor
open Go.Value renaming int→B,slice→D
open Go.IntKind renaming i64→C
open Go.RowKit
variable {k p:Nat} {w wx:World}
def lZ(s:dl)(x:fv)(k:Nat):List cJ:=(List.range k).map fun g:Nat=>⟨s.num,x.cand,(g:Int),x.var⟩
def fB(s:dl)(i:Nat):List cJ:=(s.xp.take i).flatMap fun x=>lZ s x (F9 s x.var)
section
variable {s:dl} {i k:Nat} {x:fv}
theorem Dd(s:dl)(x:fv):lZ s x 0=[]:=rfl
theorem pw(h:s.xp[i]?=some x):fB s (i+1)=fB s i++lZ s x (F9 s x.var):=by unfold fB;rw[ax h,List.flatMap_append];simp
theorem C6(s:dl):fB s s.xp.length=iH s:=by unfold fB iH;rw[List.take_length];rfl
theorem Di(s:dl)(x:fv)(k:Nat):lZ s x (k+1)=lZ s x k++[⟨s.num,x.cand,(k:Int),x.var⟩]:=by unfold lZ;rw[xP];simp
theorem tg(s:dl)(x:fv)(k:Nat):(lZ s x k).length=k:=by unfold lZ;simp
theorem Kf(h:dU s)(hx:x∈s.xp):F9 s x.var<=12:=by have:=rL h hx;obtain⟨q,b,_,hb,hv,_⟩:=rT h this.2.2.1 this.2.2.2.1;rw[uo hb];exact (mR hv).2
theorem mh(h:dU s):∀i,(fB s i).length<=12*i
 |0=>by simp[fB]
 |i+1=>by
  have ih:=mh h i;cases hx:s.xp[i]? with
  |none =>
   have:fB s (i+1)=fB s i:=by unfold fB;rw[xV (by have:=List.getElem?_eq_none_iff.1 hx;omega),xV (List.getElem?_eq_none_iff.1 hx)]
   rw[this];omega
  |some x =>
   rw[pw hx,yU,tg];have:=Kf h (zW hx);omega
end
open _root_.Go.Proofs.Tryz
theorem lJ{bB oB nB cB r:Nat}{bks:List (List (List Int))}{bk:List (List Int)}(hB:l9 p w (D (some ⟨bB,oB,none⟩) nB cB) bks)(hr:bks[r]?=some bk)(hx:XT p w wx) :
  ∃A n c,wx.cell? ⟨bB,oB+r,none⟩=some (D A n c)/\oc p wx (D A n c) bk/\Hid (bk.length=n):=by
 have hl:=hB.len;have hrn:r<nB:=by have:=(zY.1 hr).1;omega
 obtain⟨cs,b,-,hc,hR,hx'⟩:=(hB.xt (JY.stab p) hx).cell_ hrn;have e:=hx'.out;rw[hr]at e;injection e with e;subst e;obtain⟨A,n,c,h0,hI⟩:=Hw hc hR;rw[wH]at h0;exact⟨A,n,c,h0,hI,hI.len⟩
theorem kn{bP oP nP cP r:Nat}{ps:List je}{q:je}(hB:jg p w (D (some ⟨bP,oP,none⟩) nP cP) ps)(hr:ps[r]?=some q)(hx:XT p w wx) :
  ∃A n c,wx.cell? ⟨bP,oP+r*3,none⟩=some (B C q.code)/\wx.cell? ⟨bP,oP+r*3+1,none⟩=some (B C q.var)/\wx.cell? ⟨bP,oP+r*3+2,none⟩=some (D A n c)/\oa p wx (D A n c) q.ps/\aU q.code/\aU q.var:=by
 have hl:=hB.len;have hrn:r<nP:=by have:=(zY.1 hr).1;omega
 obtain⟨cs,b,-,hc,hR,hx'⟩:=(hB.xt (BQ.stab p) hx).cell_ hrn;have e:=hx'.out;rw[hr]at e;injection e with e;subst e;exact GP hc hR
theorem yu{l:List Int}{x:Int}(h:l.all fE=true)(hx:x∈([0,0,1,9,8,4]:List Int)):(l++[x]).all fE=true:=by rw[List.all_append,h,yK];have:=(by decide:∀x∈([0,0,1,9,8,4]:List Int),fE x=true) x hx;simp[this]
theorem E2(p:Nat)(v:Value)(s:dl)(w:World)(h:bz w p)(hs:aR p w v s)(hok:dU s) :
  Calls prog 8 #[.pointer (some ⟨p,0,none⟩),v] w (iN p w fun v w'=>∃ys,ar w.heap.size w' v ys/\ki s (ys.map Prod.fst)):=by
 obtain⟨iC,hiC,hC0,hC1,hC2⟩:=info_parts Tryz.infoCap;obtain⟨i0,hi0,hz0,hz1,hz2⟩:=info_parts Tryz.infoI;obtain⟨vP,vB,vX,rfl,hP,hB,hX,hnum⟩:=hs;obtain⟨AP,nP,cP,rfl,-,-,-,HLP⟩:=hP.open_;obtain⟨AB,nB,cB,rfl,-,-,-,HLB⟩:=hB.open_;obtain⟨AX,nX,cX,rfl,hnX,hcX,hmX,HLX⟩:=hX.open_;have hlt:=h.lt;have hPB:=hok.bks;have hnum':=hok.num;have hxn:nX<=60:=by have:=hok.len;have:=HLX.out;omega
 have HK:Bx (dU s):=⟨hok⟩
 have HR0:Bx (jg p w (D AP nP cP) s.pap/\l9 p w (D AB nB cB) s.bk/\jh p w (D AX nX cX) s.xp):=⟨⟨hP,hB,hX⟩⟩
 have HPB:Bx (s.bk.length=s.pap.length):=⟨hPB⟩
 obtain⟨hnum1,hnum2⟩:=hnum';obtain⟨w1,hw1⟩:=nm ((w.alloc (.cells #[.int .i64 s.num,D AP nP cP,D AB nB cB,D AX nX cX] 29)):World);have HF:Bx (Fr p w w1 [(w.heap.size,#[.int .i64 s.num,D AP nP cP,D AB nB cB,D AX nX cX],29)]):=⟨by rw[hw1];exact (Fr.start h).push _ _ rfl⟩
 clear hP hB hX hnum hok h hPB;go_enter func8,ntmps8
 go_upto_region 2 with (fail)
 rw[<-hw1];clear hw1;go_wp2_with fail;go_loopw [5,6] (fun s5 s6 wr=>∃(i no:Nat) (ys:List (aj×Value)) (Ao:Option Addr) (co:Nat),s5=D Ao no co/\s6=.int .i64 i/\i<=nX/\ys.length<=no/\no<=ys.length/\Bx (ar w.heap.size wr (D Ao no co) ys/\Fr p w wr [(w.heap.size,#[.int .i64 s.num,D AP nP cP,D AB nB cB,D AX nX cX],29)]/\nO s (fB s i) (ys.map Prod.fst))) (fun _ i _=>nX-(intOf i).toNat)
 case atStart=>exact⟨0,0,[],none,0,rfl,rfl,by omega,by simp,by simp,⟨⟨ar.nil _ _,HF.out,nO.nil s⟩⟩⟩
 case round =>
  obtain⟨i,no,ys,Ao,co,rfl,rfl,hi,hy1,hy2,HR⟩:=hrel;clear HF;obtain⟨b0,b1,b2,b3⟩:=(HR.out.2.1.at_ 0 rfl).p4 rfl;by_cases hin:i<nX
  ·obtain⟨bX,oX,_,_,rfl,-⟩:=HR0.out.2.2.at_ hin;obtain⟨csX,⟨xc,xe,xv⟩,-,hcX',hRX,hxX⟩:=(HR0.out.2.2.xt (lR.stab p) HR.out.2.1.xt).cell_ hin;obtain⟨x0,x1,x2⟩:=qx hcX' hRX;have hxm:(⟨xc,xe,xv⟩:fv)∈s.xp:=zW hxX.out;have hxb:=rL HK.out hxm;simp only at hxb x0 x1 x2;obtain⟨xb1,xb2,xb3,xb4,xb5,xb6⟩:=hxb;have HXM:Bx ((⟨xc,xe,xv⟩:fv)∈s.xp/\s.xp[i]?=some ⟨xc,xe,xv⟩):=⟨⟨hxm,hxX.out⟩⟩
   obtain⟨q,bk,hq,hbk,hbv,hvp,-,-⟩:=rT HK.out xb3 xb4;obtain⟨r,rfl⟩:=zG xb3;have hrP:r<nP:=by have:=HLP.out;omega
   have hrB:r<nB:=by have:=HLB.out;have:=HPB.out;omega
   obtain⟨bP,oP,_,_,rfl,-⟩:=HR0.out.1.at_ hrP;obtain⟨bB,oB,_,_,rfl,-⟩:=HR0.out.2.1.at_ hrB;have hbk12:=mR hbv;rw[yC]at hq hbk;have HQ:Bx (s.pap[r]?=some q/\s.bk[r]?=some bk/\F9 s (r:Int)=bk.length):=⟨⟨hq,hbk,by unfold F9;rw[yC,hbk];rfl⟩⟩
   obtain⟨np,hnp⟩:=nm bk.length;have hnp12:np<=12:=by omega
   have HNP:Bx (np=bk.length):=⟨hnp⟩
   have hno0:no<=720:=by have h1:=HR.out.2.2.1;have h2:=mh HK.out i;rw[zJ]at h1;omega
   clear hxX hxm hcX' hRX hq hbk hbv hvp hbk12 hnp;obtain⟨wo,hwo⟩:=nm (wr:World);obtain⟨wx1,hwx1⟩:=nm ((wr.alloc (.cells #[.int .i64 xc,.int .i64 xe,.int .i64 (r:Int)] 56)):World);obtain⟨gx,hgx⟩:=nm wr.heap.size;have hxx1:ab wr wx1:=by rw[hwx1];exact (zE _).alloc _
   have HF1:Bx (Fr p w wx1 [(w.heap.size,#[.int .i64 s.num,D (some ⟨bP,oP,none⟩) nP cP,D (some ⟨bB,oB,none⟩) nB cB,D (some ⟨bX,oX,none⟩) nX cX],29),(gx,#[.int .i64 xc,.int .i64 xe,.int .i64 (r:Int)],56)]):=⟨by rw[hwx1,hgx];exact HR.out.2.1.new _ _⟩
   have HO1:Bx (ar w.heap.size wx1 (D Ao no co) ys/\nO s (fB s i) (ys.map Prod.fst)):=⟨HR.out.1.ext hxx1,HR.out.2.2⟩
   go_upto_region 6 with (fail)
   rw[<-hwx1,<-hgx];clear hwx1 hgx hxx1 hwo HR x0 x1 x2 b0 b1 b2 b3;go_wp2_with fail;go_loopw [5,8] (fun s5 s8 wr=>∃(k no:Nat) (ys:List (aj×Value)) (Ao:Option Addr) (co:Nat),s5=D Ao no co/\s8=.int .i64 k/\k<=np/\ys.length<=no/\no<=ys.length/\Bx (ar w.heap.size wr (D Ao no co) ys/\Fr p w wr [(w.heap.size,#[.int .i64 s.num,D (some ⟨bP,oP,none⟩) nP cP,D (some ⟨bB,oB,none⟩) nB cB,D (some ⟨bX,oX,none⟩) nX cX],29),(gx,#[.int .i64 xc,.int .i64 xe,.int .i64 (r:Int)],56)]/\nO s (fB s i++lZ s ⟨xc,xe,r⟩ k) (ys.map Prod.fst))) (fun _ i _=>np-(intOf i).toNat)
   case atStart=>exact⟨0,no,ys,_,_,rfl,rfl,by omega,by omega,by omega,⟨⟨HO1.out.1,HF1.out,by rw[Dd,xN];exact HO1.out.2⟩⟩⟩
   case round =>
    clear HF1 HO1 hy1 hy2 hno0;clear ys;obtain⟨k,no,ys,Ao,co,rfl,rfl,hk,hy1,hy2,HR⟩:=hrel;have hno0:no<=800:=by have h1:=HR.out.2.2.1;have h2:=mh HK.out i;rw[zJ,yU,tg]at h1;omega
    obtain⟨Ab,nb,cb,kb,-,hbn⟩:=lJ HR0.out.2.1 HQ.out.2.1 HR.out.2.1.xt;have hnb1:nb<=np:=by have:=hbn.out;have:=HNP.out;omega
    have hnb2:np<=nb:=by have:=hbn.out;have:=HNP.out;omega
    have s2:=(HR.out.2.1.at_ 0 rfl).c 2 rfl;have s0:=(HR.out.2.1.at_ 0 rfl).c 0 rfl;have e0:=(HR.out.2.1.at_ 1 rfl).c 0 rfl;have e2:=(HR.out.2.1.at_ 1 rfl).c 2 rfl;by_cases hkn:k<np
    ·have hkb:k<nb:=by omega
     have HLS:Bx ((⟨s.num,xc,(k:Int),(r:Int)⟩:cJ)∈iH s):=⟨rK.2 ⟨_,HXM.out.1,k,by have:=HQ.out.2.2;have:=HNP.out;simp only;omega,rfl⟩⟩
     have HLB1:Bx (dj s.num xc (k:Int) (r:Int)=true):=⟨Br HK.out HLS.out⟩
     have hx9:ab wr (wr.alloc (.cells #[.int .i64 s.num,.int .i64 xc,.int .i64 (k:Int),.int .i64 (r:Int)] 39)):=(zE _).alloc _;have H9:Bx (ar w.heap.size (wr.alloc (.cells #[.int .i64 s.num,.int .i64 xc,.int .i64 (k:Int),.int .i64 (r:Int)] 39)) (D Ao no co) ys/\Fr p w (wr.alloc (.cells #[.int .i64 s.num,.int .i64 xc,.int .i64 (k:Int),.int .i64 (r:Int)] 39)) [(w.heap.size,#[.int .i64 s.num,D (some ⟨bP,oP,none⟩) nP cP,D (some ⟨bB,oB,none⟩) nB cB,D (some ⟨bX,oX,none⟩) nX cX],29),(gx,#[.int .i64 xc,.int .i64 xe,.int .i64 (r:Int)],56)]):=⟨HR.out.1.ext hx9,HR.out.2.1.ext hx9⟩
     have HWT:Bx (nO s (fB s i++lZ s ⟨xc,xe,r⟩ k) (ys.map Prod.fst)):=⟨HR.out.2.2⟩
     clear HR hx9;go_wp2_with fail;refine (sX s.num xc k r _).mono ?_;rintro e w3 ⟨b,kk,rfl,-,hb,hx3⟩;have HD:Bx (bl b=eH (mH s.num xc k r)):=⟨by rw[hb,ni HLB1.out]⟩
     have hbs:b.size<=1000:=by rw[<-aO,hb];exact AK _ _ _ _
     have HR3:=bx (H9.out.2.ext hx3);have HO3:=bx (H9.out.1.ext hx3);clear H9 hx3 hb kb s2 s0 e0 e2;go_upto_region 11 with (fail)
     go_cut [12] (fun s12 wx=>∃(gc:Nat) (t:Int),s12=.pointer (some ⟨gc,0,none⟩)/\0<=t/\t<=24/\Bx (ar w.heap.size wx (D Ao no co) ys/\Fr p w wx [(w.heap.size,#[.int .i64 s.num,D (some ⟨bP,oP,none⟩) nP cP,D (some ⟨bB,oB,none⟩) nB cB,D (some ⟨bX,oX,none⟩) nX cX],29),(gx,#[.int .i64 xc,.int .i64 xe,.int .i64 (r:Int)],56),(gc,#[.int .i64 t,.int .i64 1,.int .i64 (no:Int),.int .i64 1,.string b,.int .i64 (100*xc+(k:Int)),D none 0 0,.int .i64 0,.int .i64 0,.int .i64 0,.int .i64 0,.int .i64 0,.int .i64 0],41)]/\(Value.slice Ao no co).ownBlock≠some gc))
     case first =>
      have m1:IntKind.i64.wrap (100*xc)=100*xc:=yN _ (by omega);have m2:IntKind.i64.wrap (100*xc+(k:Int))=100*xc+(k:Int):=yN _ (by omega);refine zR 13 (fun w'=>w'.cell? ⟨gx,0,none⟩=some (.int .i64 xc)) ?_;obtain⟨wd,hwd⟩:=nm (w3.drew:World);have hxd:ab w3 wd:=by rw[hwd];exact (zE _).drew
      have HF0:=bx (HR3.out.ext hxd);have HO0:=bx (HO3.out.ext hxd);rw[<-hwd];clear hwd hxd;have kS0:wd.cell? ⟨gx,0,none⟩=some (.int .i64 xc):=(HF0.out.at_ 1 rfl).c 0 rfl;refine zS 9 [(0,51),(2,53),(5,56),(6,57),(9,60),(3,54),(7,58),(8,59),(10,61)] kS0 ?_;iterate 9 refine zT ?_
      refine zN (an 1 12 (by kernel_rfl) rfl rfl (fun K hK=>?_) (fun K hK=>?_))
      ·go_simp;refine (az p 0 24 _ HF0.out.tp (by omega) (by omega) (by omega) (by omega)).mono ?_;rintro e wq1 ⟨v1,rfl,⟨t,rfl,ht1,ht2⟩,HT1,HX1⟩;have HF1:=bx (HF0.out.step HX1 HT1);have HO1:=bx (HO0.out.xt HX1 hlt);have kS1:wq1.cell? ⟨gx,0,none⟩=some (.int .i64 xc):=(HF1.out.at_ 1 rfl).c 0 rfl;clear HF0 HO0 kS0 HX1 HT1;refine hK.out _ _ (fun _=>(kS1)) ?_;clear hK K;try simp only[kA]
       refine zS 2 [(4,55),(11,62)] kS1 ?_;iterate 2 refine zT ?_
       refine zN (zO 12 (fun K hK=>?_));go_simp;obtain⟨wq2,hwq2⟩:=nm ((wq1.alloc (.cells #[.int .i64 0,.int .i64 0,.int .i64 0,.int .i64 0,.string ⟨#[]⟩,.int .i64 0,D none 0 0,.int .i64 0,.int .i64 0,.int .i64 0,.int .i64 0,.int .i64 0,.int .i64 0] 41)):World);have hx2:ab wq1 wq2:=by rw[hwq2];exact (zE _).alloc _
       obtain⟨gk2,hg2⟩:=nm wq1.heap.size;have HF2:Bx (Fr p w wq2 [(w.heap.size,#[.int .i64 s.num,D (some ⟨bP,oP,none⟩) nP cP,D (some ⟨bB,oB,none⟩) nB cB,D (some ⟨bX,oX,none⟩) nX cX],29),(gx,#[.int .i64 xc,.int .i64 xe,.int .i64 (r:Int)],56),(gk2,#[.int .i64 0,.int .i64 0,.int .i64 0,.int .i64 0,.string ⟨#[]⟩,.int .i64 0,D none 0 0,.int .i64 0,.int .i64 0,.int .i64 0,.int .i64 0,.int .i64 0,.int .i64 0],41)]):=⟨by rw[hwq2];exact HF1.out.push _ _ hg2.symm⟩
       have HO2:=bx (HO1.out.ext hx2);have HG2:Bx ((Value.slice Ao no co).ownBlock≠some gk2):=⟨fun e=>by have:=(HO1.out.own.own.lt _ e).2;omega⟩
       rw[<-hwq2,<-hg2];clear hwq2 hg2 hx2;have kS2:wq2.cell? ⟨gx,0,none⟩=some (.int .i64 xc):=(HF2.out.at_ 1 rfl).c 0 rfl;clear HF1 HO1 kS1;refine hK.out _ _ (fun _=>(kS2)) ?_;clear hK K;try simp only[kA]
       refine zO 13 (fun K hK=>?_);obtain⟨z0,z1,z2,z3,z4,z5,z6,z7,z8,z9,z10,z11,z12⟩:=(HF2.out.at_ 2 rfl).p13 rfl;have f0:=(HF2.out.at_ 2 rfl).froz;have f1:=f0;have f2:=f0;have f3:=f0;have f4:=f0;have f5:=f0;have f6:=f0;have f7:=f0;have f8:=f0;have f9:=f0;have f10:=f0;have f11:=f0;have f12:=f0;go_simp;refine hK.out _ _ (fun h=>absurd rfl h) ?_;clear hK K;refine zD ?_;go_wp2_with fail;go_meet
       have e1:=HF2.out.setAll 2 rfl [.int .i64 t,.int .i64 1,.int .i64 (no:Int),.int .i64 1,.string b,.int .i64 (100*xc+(k:Int)),D none 0 0,.int .i64 0,.int .i64 0,.int .i64 0,.int .i64 0,.int .i64 0,.int .i64 0] rfl;have e2:=HO2.out.sets (HF2.out.at_ 2 rfl) (by decide) HG2.out 0 [.int .i64 t,.int .i64 1,.int .i64 (no:Int),.int .i64 1,.string b,.int .i64 (100*xc+(k:Int)),D none 0 0,.int .i64 0,.int .i64 0,.int .i64 0,.int .i64 0,.int .i64 0,.int .i64 0];exact⟨gk2,t,rfl,ht1,by omega,⟨⟨e2,e1,HG2.out⟩⟩⟩
      ·go_simp;obtain⟨wq3,hwq3⟩:=nm ((wd.alloc (.cells #[.int .i64 0,.int .i64 0,.int .i64 0,.int .i64 0,.string ⟨#[]⟩,.int .i64 0,D none 0 0,.int .i64 0,.int .i64 0,.int .i64 0,.int .i64 0,.int .i64 0,.int .i64 0] 41)):World);have hx3:ab wd wq3:=by rw[hwq3];exact (zE _).alloc _
       obtain⟨gk3,hg3⟩:=nm wd.heap.size;have HF3:Bx (Fr p w wq3 [(w.heap.size,#[.int .i64 s.num,D (some ⟨bP,oP,none⟩) nP cP,D (some ⟨bB,oB,none⟩) nB cB,D (some ⟨bX,oX,none⟩) nX cX],29),(gx,#[.int .i64 xc,.int .i64 xe,.int .i64 (r:Int)],56),(gk3,#[.int .i64 0,.int .i64 0,.int .i64 0,.int .i64 0,.string ⟨#[]⟩,.int .i64 0,D none 0 0,.int .i64 0,.int .i64 0,.int .i64 0,.int .i64 0,.int .i64 0,.int .i64 0],41)]):=⟨by rw[hwq3];exact HF0.out.push _ _ hg3.symm⟩
       have HO3:=bx (HO0.out.ext hx3);have HG3:Bx ((Value.slice Ao no co).ownBlock≠some gk3):=⟨fun e=>by have:=(HO0.out.own.own.lt _ e).2;omega⟩
       rw[<-hwq3,<-hg3];clear hwq3 hg3 hx3;have kS3:wq3.cell? ⟨gx,0,none⟩=some (.int .i64 xc):=(HF3.out.at_ 1 rfl).c 0 rfl;clear HF0 HO0 kS0;refine hK.out _ _ (fun _=>(kS3)) ?_;clear hK K;try simp only[kA]
       refine zO 1 (fun K hK=>?_);go_simp;refine (az p 0 24 _ HF3.out.tp (by omega) (by omega) (by omega) (by omega)).mono ?_;rintro e wq4 ⟨v4,rfl,⟨t,rfl,ht1,ht2⟩,HT4,HX4⟩;have HO4:=bx (HO3.out.xt HX4 hlt);have HF4:=bx (HF3.out.step HX4 HT4);have HG4:Bx ((Value.slice Ao no co).ownBlock≠some gk3):=⟨HG3.out⟩
       have kS4:wq4.cell? ⟨gx,0,none⟩=some (.int .i64 xc):=(HF4.out.at_ 1 rfl).c 0 rfl;clear HO3 HF3 HG3 kS3 HX4 HT4;refine hK.out _ _ (fun _=>(kS4)) ?_;clear hK K;try simp only[kA]
       refine zS 2 [(4,55),(11,62)] kS4 ?_;iterate 2 refine zT ?_
       refine zN (zO 13 (fun K hK=>?_));obtain⟨z0,z1,z2,z3,z4,z5,z6,z7,z8,z9,z10,z11,z12⟩:=(HF4.out.at_ 2 rfl).p13 rfl;have f0:=(HF4.out.at_ 2 rfl).froz;have f1:=f0;have f2:=f0;have f3:=f0;have f4:=f0;have f5:=f0;have f6:=f0;have f7:=f0;have f8:=f0;have f9:=f0;have f10:=f0;have f11:=f0;have f12:=f0;go_simp;refine hK.out _ _ (fun h=>absurd rfl h) ?_;clear hK K;refine zD ?_;go_wp2_with fail;go_meet
       have e1:=HF4.out.setAll 2 rfl [.int .i64 t,.int .i64 1,.int .i64 (no:Int),.int .i64 1,.string b,.int .i64 (100*xc+(k:Int)),D none 0 0,.int .i64 0,.int .i64 0,.int .i64 0,.int .i64 0,.int .i64 0,.int .i64 0] rfl;have e2:=HO4.out.sets (HF4.out.at_ 2 rfl) (by decide) HG4.out 0 [.int .i64 t,.int .i64 1,.int .i64 (no:Int),.int .i64 1,.string b,.int .i64 (100*xc+(k:Int)),D none 0 0,.int .i64 0,.int .i64 0,.int .i64 0,.int .i64 0,.int .i64 0,.int .i64 0];exact⟨gk3,t,rfl,ht1,by omega,⟨⟨e2,e1,HG4.out⟩⟩⟩
     case rest =>
     obtain⟨gc,t,rfl,ht1,ht2,HR4⟩:=hcut;clear HR3 HO3;obtain⟨Aq,nq,cq,p0,p1,p2,hIQ,hq1,hq2⟩:=kn HR0.out.1 HQ.out.1 HR4.out.2.1.xt;obtain⟨Ab,nb,cb,kb,hIB,-⟩:=lJ HR0.out.2.1 HQ.out.2.1 HR4.out.2.1.xt;have HIQ:Bx (oa p wc (D Aq nq cq) q.ps/\oc p wc (D Ab nb cb) bk):=⟨⟨hIQ,hIB⟩⟩
     clear hIQ hIB hq1 hq2;go_upto_region 12 with (fail)
     go_cut [13] (fun s13 wx=>∃m:Nat,s13=.int .i64 m/\m<=120/\Hid ((dr q.code q.var q.ps bk k).length=m)/\Bx (ar w.heap.size wx (D Ao no co) ys/\Fr p w wx [(w.heap.size,#[.int .i64 s.num,D (some ⟨bP,oP,none⟩) nP cP,D (some ⟨bB,oB,none⟩) nB cB,D (some ⟨bX,oX,none⟩) nX cX],29),(gx,#[.int .i64 xc,.int .i64 xe,.int .i64 (r:Int)],56),(gc,#[.int .i64 t,.int .i64 1,.int .i64 (no:Int),.int .i64 1,.string b,.int .i64 (100*xc+(k:Int)),D none 0 0,.int .i64 0,.int .i64 0,.int .i64 0,.int .i64 0,.int .i64 0,.int .i64 0],41)]))
     case first =>
      have hF:=HR4.out.2.1.drew;have kS:wc.drew.cell? ⟨w.heap.size,1,none⟩=some (D (some ⟨bP,oP,none⟩) nP cP)/\wc.drew.cell? ⟨w.heap.size,2,none⟩=some (D (some ⟨bB,oB,none⟩) nB cB)/\wc.drew.cell? ⟨gx,2,none⟩=some (.int .i64 (r:Int)) /\
       wc.drew.cell? ⟨bP,oP+r*3,none⟩=some (.int .i64 q.code)/\wc.drew.cell? ⟨bP,oP+r*3+1,none⟩=some (.int .i64 q.var)/\wc.drew.cell? ⟨bP,oP+r*3+2,none⟩=some (D Aq nq cq)/\wc.drew.cell? ⟨bB,oB+r,none⟩=some (D Ab nb cb) :=
       ⟨(hF.at_ 0 rfl).c 1 rfl,(hF.at_ 0 rfl).c 2 rfl,(hF.at_ 1 rfl).c 2 rfl,p0,p1,p2,kb⟩
      clear p0 p1 p2 kb hF;refine zR 15 (fun w'=>w'.cell? ⟨w.heap.size,1,none⟩=some (D (some ⟨bP,oP,none⟩) nP cP)/\w'.cell? ⟨w.heap.size,2,none⟩=some (D (some ⟨bB,oB,none⟩) nB cB)/\w'.cell? ⟨gx,2,none⟩=some (.int .i64 (r:Int))/\w'.cell? ⟨bP,oP+r*3,none⟩=some (.int .i64 q.code)/\w'.cell? ⟨bP,oP+r*3+1,none⟩=some (.int .i64 q.var)/\w'.cell? ⟨bP,oP+r*3+2,none⟩=some (D Aq nq cq)/\w'.cell? ⟨bB,oB+r,none⟩=some (D Ab nb cb)) ?_;refine zS 13 [(0,63),(1,64),(2,65),(3,66),(4,67),(5,68),(6,69),(7,70),(8,71),(9,72),(10,73),(11,74),(12,75)] kS ?_;iterate 13 refine zT ?_
      refine zN (zO 13 (fun K hK=>?_));go_simp;refine (ko q.code q.var k _ _ q.ps bk _ (p:=p) HR4.out.2.1.drew.lt (HIQ.out.1.ext (bC.stab p) ((zE _).drew)) (HIQ.out.2.ext (RI.stab p) ((zE _).drew)) ⟨by omega,by omega⟩).mono ?_;rintro e w4 ⟨v4,rfl,hI4,hx4⟩;obtain⟨A4,n4,c4,rfl,hn4c,hc4,hn4m,HL4⟩:=hI4.open_;have hn4:n4<=120:=by have:=HL4.out;have:=pH q.code q.var q.ps bk k;omega
      refine hK.out _ _ (fun _=>(⟨hx4.cell kS.1,hx4.cell kS.2.1,hx4.cell kS.2.2.1,hx4.cell kS.2.2.2.1,hx4.cell kS.2.2.2.2.1,hx4.cell kS.2.2.2.2.2.1,hx4.cell kS.2.2.2.2.2.2⟩)) ?_;clear hK K;try simp only[kA]
      refine zO 14 (fun K hK=>?_);go_simp;refine hK.out _ _ (fun _=>(⟨hx4.cell kS.1,hx4.cell kS.2.1,hx4.cell kS.2.2.1,hx4.cell kS.2.2.2.1,hx4.cell kS.2.2.2.2.1,hx4.cell kS.2.2.2.2.2.1,hx4.cell kS.2.2.2.2.2.2⟩)) ?_;clear hK K;try simp only[kA]
      refine zO 15 (fun K hK=>?_);go_simp;refine hK.out _ _ (fun h=>absurd rfl h) ?_;clear hK K;refine zD ?_;go_wp2_with fail;go_meet
      exact⟨n4,rfl,hn4,HL4,⟨(HR4.out.1.ext ((zE _).drew)).ext hx4,HR4.out.2.1.drew.ext hx4⟩⟩
     case rest =>
     obtain⟨m,rfl,hm,HM,HR5⟩:=hcut;have HAP:Bx ((Value.slice Ao no co).ownBlock≠some gc):=⟨HR4.out.2.2⟩
     clear HR4 HIQ p0 p1 p2 kb;go_wp2_with fail;obtain⟨h0,hh0⟩:=nm wc.heap.size;have hw0:w.heap.size<=h0:=by have:=HR5.out.2.xt.size;omega
     have HLT:Bx (∀y∈ys,∀k,y.2.ownBlock=some k->k<h0):=⟨fun y hy k hk'=>by have:=FU (HR5.out.1.el y hy).1.1 k hk';omega⟩
     have hh0':h0<=wc.heap.size:=by omega
     clear hh0;go_loopw [13] (fun s13 wr=>∃(j nc:Nat) (ch:List Int) (A:Option Addr) (cc:Nat),s13=.int .i64 j/\nc+j<=m/\m<=nc+j/\ch.length<=nc/\nc<=ch.length/\Bx (ar w.heap.size wr (D Ao no co) ys/\Fr p w wr [(w.heap.size,#[.int .i64 s.num,D (some ⟨bP,oP,none⟩) nP cP,D (some ⟨bB,oB,none⟩) nB cB,D (some ⟨bX,oX,none⟩) nX cX],29),(gx,#[.int .i64 xc,.int .i64 xe,.int .i64 (r:Int)],56),(gc,#[.int .i64 t,.int .i64 1,.int .i64 (no:Int),.int .i64 1,.string b,.int .i64 (100*xc+(k:Int)),D A nc cc,.int .i64 0,.int .i64 0,.int .i64 0,.int .i64 0,.int .i64 0,.int .i64 0],41)]/\fu wr h0 (D A nc cc) ch/\ch.all fE=true/\h0<=wr.heap.size)) (fun j _=>(intOf j).toNat)
     case atStart=>exact⟨m,0,[],none,0,rfl,by omega,by omega,by simp,by simp,⟨⟨HR5.out.1,HR5.out.2,fu.nil _ _,rfl,hh0'⟩⟩⟩
     case round =>
      clear HR5 hh0';obtain⟨j,nc,ch,A,cc,rfl,hj1,hj2,hc1,hc2,HR6⟩:=hrel;by_cases hj0:0<j
      ·go_upto_region 15 with (fail)
       have kS:wr.drew.cell? ⟨gc,6,none⟩=some (D A nc cc):=(HR6.out.2.1.drew.at_ 2 rfl).c 6 rfl;refine zR 8 (fun w'=>w'.cell? ⟨gc,6,none⟩=some (D A nc cc)) ?_;refine zS 3 [(0,82),(1,83),(2,84)] kS ?_;iterate 3 refine zT ?_
       refine zN (zO 3 (fun K hK=>?_));go_simp;obtain⟨wl,hwl⟩:=nm ((wr.alloc (.cells #[.int .i64 0,.int .i64 0,.int .i64 1,.int .i64 9,.int .i64 8,.int .i64 4] 3)).drew:World);have hxl:ab wr wl:=by rw[hwl];exact ((zE _).alloc _).drew
       have H7:Bx (ar w.heap.size wl (D Ao no co) ys/\Fr p w wl [(w.heap.size,#[.int .i64 s.num,D (some ⟨bP,oP,none⟩) nP cP,D (some ⟨bB,oB,none⟩) nB cB,D (some ⟨bX,oX,none⟩) nX cX],29),(gx,#[.int .i64 xc,.int .i64 xe,.int .i64 (r:Int)],56),(gc,#[.int .i64 t,.int .i64 1,.int .i64 (no:Int),.int .i64 1,.string b,.int .i64 (100*xc+(k:Int)),D A nc cc,.int .i64 0,.int .i64 0,.int .i64 0,.int .i64 0,.int .i64 0,.int .i64 0],41)]/\fu wl h0 (D A nc cc) ch/\h0<=wl.heap.size):=⟨HR6.out.1.ext hxl,HR6.out.2.1.ext hxl,HR6.out.2.2.1.ext hxl,yR HR6.out.2.2.2.2 hxl.size⟩
       have HV:Bx (ch.all fE=true):=⟨HR6.out.2.2.2.1⟩
       have HI7:Bx (ak p wl (D (some ⟨wr.heap.size,0,none⟩) 6 6) [0,0,1,9,8,4]):=⟨by rw[hwl];exact (ak.lit [0,0,1,9,8,4] _ HR6.out.2.1.lt (by decide) (by decide)).ext ((zE _).drew)⟩
       rw[<-hwl];clear hwl hxl kS HR6;have kS:wl.cell? ⟨gc,6,none⟩=some (D A nc cc):=(H7.out.2.1.at_ 2 rfl).c 6 rfl;refine hK.out _ _ (fun _=>kS) ?_;clear hK K;try simp only[kA]
       refine zO 4 (fun K hK=>?_);go_simp;refine (dt p _ [0,0,1,9,8,4] _ H7.out.2.1.tp HI7.out (by simp)).mono ?_;rintro e w8 ⟨v8,rfl,⟨y,rfl,hy⟩,HT8,HX8⟩;have HY:Bx (y∈([0,0,1,9,8,4]:List Int)):=⟨hy⟩
       have H8:Bx (ar w.heap.size w8 (D Ao no co) ys/\Fr p w w8 [(w.heap.size,#[.int .i64 s.num,D (some ⟨bP,oP,none⟩) nP cP,D (some ⟨bB,oB,none⟩) nB cB,D (some ⟨bX,oX,none⟩) nX cX],29),(gx,#[.int .i64 xc,.int .i64 xe,.int .i64 (r:Int)],56),(gc,#[.int .i64 t,.int .i64 1,.int .i64 (no:Int),.int .i64 1,.string b,.int .i64 (100*xc+(k:Int)),D A nc cc,.int .i64 0,.int .i64 0,.int .i64 0,.int .i64 0,.int .i64 0,.int .i64 0],41)]/\fu w8 h0 (D A nc cc) ch/\h0<=w8.heap.size):=⟨H7.out.1.xt HX8 hlt,H7.out.2.1.step HX8 HT8,H7.out.2.2.1.xt HX8 (by omega),yR H7.out.2.2.2 HX8.size⟩
       clear H7 HI7 HT8 HX8 kS hy;have kS:w8.cell? ⟨gc,6,none⟩=some (D A nc cc):=(H8.out.2.1.at_ 2 rfl).c 6 rfl;refine hK.out _ _ (fun _=>kS) ?_;clear hK K;try simp only[kA]
       refine zO 5 (fun K hK=>?_);go_simp;obtain⟨w9,hw9⟩:=nm ((w8.alloc (.cells #[.int .i64 y] 3)):World);have hx9:ab w8 w9:=by rw[hw9];exact (zE _).alloc _
       obtain⟨g9,hg9⟩:=nm w8.heap.size;have H9:Bx (ar w.heap.size w9 (D Ao no co) ys/\Fr p w w9 [(w.heap.size,#[.int .i64 s.num,D (some ⟨bP,oP,none⟩) nP cP,D (some ⟨bB,oB,none⟩) nB cB,D (some ⟨bX,oX,none⟩) nX cX],29),(gx,#[.int .i64 xc,.int .i64 xe,.int .i64 (r:Int)],56),(gc,#[.int .i64 t,.int .i64 1,.int .i64 (no:Int),.int .i64 1,.string b,.int .i64 (100*xc+(k:Int)),D A nc cc,.int .i64 0,.int .i64 0,.int .i64 0,.int .i64 0,.int .i64 0,.int .i64 0],41)]/\fu w9 h0 (D A nc cc) ch/\h0<=w9.heap.size):=⟨H8.out.1.ext hx9,H8.out.2.1.ext hx9,H8.out.2.2.1.ext hx9,yR H8.out.2.2.2 hx9.size⟩
       have B9:Bx (Bk w9 g9 #[.int .i64 y] 3):=⟨by rw[hw9,hg9];exact Bk.new w8 _ _⟩
       rw[<-hw9,<-hg9];clear hw9 hg9 hx9 H8 kS;have kS:w9.cell? ⟨gc,6,none⟩=some (D A nc cc):=(H9.out.2.1.at_ 2 rfl).c 6 rfl;refine hK.out _ _ (fun _=>kS) ?_;clear hK K;try simp only[kA]
       refine zO 6 (fun K hK=>?_);have hown0:w9.ownsRow h0 3 1 (D A nc cc) nc (ch.map (Value.int .i64)):=by
        have h1:=H9.out.2.2.1.1;have e:ch.length=nc:=by omega
        rw[e]at h1;exact h1
       refine step_append_lies _ (by rfl) _ _ _ (by rfl) h0 3 i0 _ 1 8 underlying22 hi0 hz0 hz1 hz2 rfl (by omega) (D A nc cc) nc (ch.map (Value.int .i64)) (by rfl) hown0 ⟨g9,0,none⟩ 1 1 [.int .i64 y] (by rfl) (by rfl) (World.news_of_block (cs:=#[.int .i64 y]) (t:=3) (fr:=(0,0)) B9.out) (by simp[Value.oneCell']) (by omega) (by unfold maxLen;omega) (by omega) H9.out.2.2.2 w9.heap.size rfl ?_;intro g10 c10 w10 hown10 hgrow10 _ hlt10;have H10:Bx (ar w.heap.size w10 (D Ao no co) ys/\Fr p w w10 [(w.heap.size,#[.int .i64 s.num,D (some ⟨bP,oP,none⟩) nP cP,D (some ⟨bB,oB,none⟩) nB cB,D (some ⟨bX,oX,none⟩) nX cX],29),(gx,#[.int .i64 xc,.int .i64 xe,.int .i64 (r:Int)],56),(gc,#[.int .i64 t,.int .i64 1,.int .i64 (no:Int),.int .i64 1,.string b,.int .i64 (100*xc+(k:Int)),D A nc cc,.int .i64 0,.int .i64 0,.int .i64 0,.int .i64 0,.int .i64 0,.int .i64 0],41)]/\fu w10 h0 (D (some ⟨g10,0,none⟩) (nc+1) c10) (ch++[y])/\h0<=w10.heap.size):=by
        refine⟨⟨?_,?_,?_,yR H9.out.2.2.2 hgrow10.size⟩⟩
        ·exact H9.out.1.grownI hown0 hgrow10 fun y hy k hk1 hk2=>by have h1:=HLT.out y hy k hk1;have h2:=(hown0.lt k hk2).1;omega
        ·refine H9.out.2.1.grown hgrow10 (fun k x hx=>?_) (fun k hk'=>by have:=aq hown0 k hk';omega);refine aG hown0 (H9.out.2.1.at_ (b:=x.1) (cs:=x.2.1) (t:=x.2.2) k hx) ?_;match k,hx with
         |0,hx=>simp at hx;subst hx;simp only;decide
         |1,hx=>simp at hx;subst hx;simp only;decide
         |2,hx=>simp at hx;subst hx;simp only;decide
        ·refine⟨by simpa[show nc=ch.length by omega] using hown10,fun z hz=>?_,by simp;omega⟩;rcases zM.1 hz with hz|hz
         ·exact H9.out.2.2.1.2.1 z hz
         ·obtain rfl:z=y:=by simpa using hz
          exact (by decide:∀x∈([0,0,1,9,8,4]:List Int),aU x) z HY.out
       have HV10:Bx ((ch++[y]).all fE=true):=⟨yu HV.out HY.out⟩
       clear hown10 hgrow10 hlt10 hown0 H9 B9 kS HV HY;have kS:w10.cell? ⟨gc,6,none⟩=some (D A nc cc):=(H10.out.2.1.at_ 2 rfl).c 6 rfl;have kf:=(H10.out.2.1.at_ 2 rfl).froz;refine hK.out _ _ (fun _=>kS) ?_;clear hK K;try simp only[kA]
       refine zS 1 [(7,89)] kS ?_;refine zT ?_;refine zN (zO 8 (fun K hK=>?_));go_simp;refine hK.out _ _ (fun h=>absurd rfl h) ?_;clear hK K;refine zD ?_;go_wp2_with fail;go_roundw
       case rel=>exact⟨j-1,nc+1,ch++[y],some ⟨g10,0,none⟩,c10,by congr;omega,by omega,by omega,by simp;omega,by simp;omega,⟨⟨H10.out.1.far (H10.out.2.1.at_ 2 rfl) (by decide) HAP.out 6 _,H10.out.2.1.set 2 rfl 6 _,H10.out.2.2.1.far (H10.out.2.1.at_ 2 rfl) (by decide) 6 _,HV10.out,by simp[World.setCell];exact H10.out.2.2.2⟩⟩⟩
       case measure=>simp[intOf];omega
      ·have hnm:nc=m:=by omega
       have HC6:Bx (fu wr w.heap.size (D A nc cc) ch/\ch.all fE=true/\ch.length=nc/\nc=m):=⟨HR6.out.2.2.1.base_ hw0,HR6.out.2.2.2.1,by omega,hnm⟩
       have H7:Bx (ar w.heap.size wr (D Ao no co) ys/\Fr p w wr [(w.heap.size,#[.int .i64 s.num,D (some ⟨bP,oP,none⟩) nP cP,D (some ⟨bB,oB,none⟩) nB cB,D (some ⟨bX,oX,none⟩) nX cX],29),(gx,#[.int .i64 xc,.int .i64 xe,.int .i64 (r:Int)],56),(gc,#[.int .i64 t,.int .i64 1,.int .i64 (no:Int),.int .i64 1,.string b,.int .i64 (100*xc+(k:Int)),D A nc cc,.int .i64 0,.int .i64 0,.int .i64 0,.int .i64 0,.int .i64 0,.int .i64 0],41)]):=⟨HR6.out.1,HR6.out.2.1⟩
       clear HR6 hnm;obtain⟨z0,z1,z2,z3,z4,z5,z6,z7,z8,z9,z10,z11,z12⟩:=(H7.out.2.at_ 2 rfl).p13 rfl;obtain rfl:no=ys.length:=by omega
       clear hy1 hy2;have HNW:Bx (ar w.heap.size wr (D Ao ys.length co) ys/\KWw s ys.length ⟨s.num,xc,k,r⟩ ⟨⟨t,1,ys.length⟩,1,bl b,100*xc+k,ch,⟨0,0⟩,⟨0,0,0,0⟩⟩/\iu ⟨⟨t,1,ys.length⟩,1,bl b,100*xc+k,ch,⟨0,0⟩,⟨0,0,0,0⟩⟩):=by
        refine⟨H7.out.1,⟨rfl,rfl,rfl,⟨ht1,ht2⟩,HD.out,rfl,?_,HC6.out.2.1⟩,⟨mv ⟨by omega,by omega⟩ ⟨by omega,by omega⟩ ⟨by omega,by omega⟩,IX,?_,⟨by simp only;omega,by simp only;omega⟩,Jb,aI⟩⟩
        ·intro q' b' hq' hb';simp only[yC]at hq' hb';rw[HQ.out.1]at hq';rw[HQ.out.2.1]at hb';injection hq' with hq';injection hb' with hb';subst hq';subst hb';have:=HM.out;have:=HC6.out.2.2;simp only;omega
        ·show (bl b).length<=1000
         rw[aO];exact hbs
       go_wp2_with (at_builtin;go_loud (refine cZ _ rfl (.tmp 90) (.tmp 92) 31 rfl w.heap.size 41 iC _ 13 128 underlying31 hiC hC0 hC1 hC2 rfl (by omega) (D Ao ys.length co) ys.length (ys.map fZ).flatten rfl (H7.out.1.own.ext ((zE _).alloc _)) _ #[.int .i64 t,.int .i64 1,.int .i64 (ys.length:Int),.int .i64 1,.string b,.int .i64 (100*xc+(k:Int)),D A nc cc,.int .i64 0,.int .i64 0,.int .i64 0,.int .i64 0,.int .i64 0,.int .i64 0] _ rfl (heap_alloc_new _ _) rfl (by simp[Value.oneCell']) (by omega) (by omega) (by have:=H7.out.2.xt.size;simp;omega) ?_;intro v18 w18 hown18 hg18;obtain⟨g18,cap18,rfl,_,_⟩:=di hown18 (by omega)));have H18:Bx (ar w.heap.size w18 (D (some ⟨g18,0,none⟩) (ys.length+1) cap18) (ys++[(⟨⟨t,1,ys.length⟩,1,bl b,100*xc+k,ch,⟨0,0⟩,⟨0,0,0,0⟩⟩,D A nc cc)])/\Fr p w w18 [(w.heap.size,#[.int .i64 s.num,D (some ⟨bP,oP,none⟩) nP cP,D (some ⟨bB,oB,none⟩) nB cB,D (some ⟨bX,oX,none⟩) nX cX],29),(gx,#[.int .i64 xc,.int .i64 xe,.int .i64 (r:Int)],56)]):=by
        have hr0:=H7.out.1.ext ((zE wr).alloc (.cells #[.int .i64 t,.int .i64 1,.int .i64 (ys.length:Int),.int .i64 1,.string b,.int .i64 (100*xc+(k:Int)),D A nc cc,.int .i64 0,.int .i64 0,.int .i64 0,.int .i64 0,.int .i64 0,.int .i64 0] 41));refine⟨⟨hr0.push hg18 ?_ (HC6.out.1.ext ((zE _).alloc _)) HNW.out.2.2,?_⟩⟩
        ·rw[Lf]at hown18;exact hown18
        ·refine ((H7.out.2.take 2).ext ((zE _).alloc _)).grown hg18 (fun k x hx=>?_) (aq hr0.own);refine aG hr0.own (((H7.out.2.take 2).ext ((zE _).alloc _)).at_ (b:=x.1) (cs:=x.2.1) (t:=x.2.2) k hx) ?_;match k,hx with
         |0,hx=>simp at hx;subst hx;simp only;decide
         |1,hx=>simp at hx;subst hx;simp only;decide
       clear hown18 hg18 H7 z0 z1 z2 z3 z4 z5 z6 z7 z8 z9 z10 z11 z12;go_roundw
       case rel =>
        refine⟨k+1,ys.length+1,_,_,_,rfl,by go_num,by omega,?_,?_,⟨⟨H18.out.1,H18.out.2,?_⟩⟩⟩
        ·simp
        ·simp
        ·rw[Di,<-xY,yG];refine nO.snoc HWT.out ?_;rw[zJ];exact HNW.out.2.1
       case measure=>simp[intOf];omega
    ·have hkb:¬k<nb:=by omega
     go_wp2_with fail;go_roundw
     case rel =>
      obtain rfl:k=np:=by omega
      exact⟨i+1,no,ys,_,_,rfl,by go_num,by omega,by omega,by omega,⟨⟨HR.out.1,HR.out.2.1.take 1,by rw[pw HXM.out.2];have:=HR.out.2.2;rw[HNP.out,<-HQ.out.2.2]at this;exact this⟩⟩⟩
     case measure=>simp[intOf];omega
  ·obtain rfl:i=nX:=by omega
   go_wp2_with fail;go_ret
   refine⟨_,rfl,⟨ys,HR.out.1,⟨HK.out,?_⟩⟩,HR.out.2.1.tp,HR.out.2.1.xt⟩;have h3:=HR.out.2.2;rw[<-HLX.out,C6]at h3;exact h3
theorem jh.read{b off n c:Nat}{l:List fv}(h:jh p w (D (some ⟨b,off,none⟩) n c) l)(hx:XT p w wx)(hk:k<n) :
  ∃xc xe xv:Int,Hid (l[k]?=some ⟨xc,xe,xv⟩)/\wx.cell? ⟨b,off+k*3,none⟩=some (B C xc)/\wx.cell? ⟨b,off+k*3+1,none⟩=some (B C xe)/\wx.cell? ⟨b,off+k*3+2,none⟩=some (B C xv):=by
 obtain⟨cs,⟨xc,xe,xv⟩,-,hc0,hR,hx'⟩:=(h.xt (lR.stab p) hx).cell_ hk;obtain⟨x0,x1,x2⟩:=qx hc0 hR;exact⟨xc,xe,xv,hx',x0,x1,x2⟩
theorem D3{s:dl}{q:je}{b:List (List Int)}(hq:s.pap[k]?=some q)(hb:s.bk[k]?=some b):jK s k=(fD q.code q.var q.ps&&(decide (q.code=s.num)&&(decide (q.var=(k:Int))&&jH q.code q.var q.ps b))):=by unfold jK;rw[hq,hb]
theorem hD{f:Nat->Bool}(h:∀j,j<k->f j=true):(List.range k).all f=true:=xS.2 fun j hj=>h j (yX.1 hj)
noncomputable def m9(s:dl):Int:=if s.bk.length≠s.pap.length then 1 else if (List.range s.pap.length).all (jK s)=false then 1 else 0
theorem GI{s:dl}(h:s.bk.length≠s.pap.length):m9 s=1:=by unfold m9;rw[if_pos h]
theorem nw{s:dl}(h:s.bk.length=s.pap.length)(hk:k<s.pap.length)(hg:jK s k=false):m9 s=1:=by unfold m9;rw[if_neg (by simp[h]),if_pos (wT.2 ⟨k,yX.2 hk,by simp[hg]⟩)]
theorem Iw{s:dl}(h:s.bk.length=s.pap.length)(hg:∀j,j<s.pap.length->jK s j=true):m9 s=0:=by unfold m9;rw[if_neg (by simp[h]),hD hg];simp
theorem C0{s:dl}(h1:0<=s.num/\s.num<=31)(h2:1<=s.pap.length/\s.pap.length<=4/\s.xp.length<=60):(m9 s≠0->aC s=m9 s) /\
  (m9 s=0->aC s=if s.xp.all (ud s.pap.length)=false then 2 else if (List.range (s.xp.length-1)).all (lW s.xp)=false then 5 else 0):=by
 unfold m9;by_cases h3:s.bk.length=s.pap.length
 ·rw[if_neg (by simp[h3])];cases h4:(List.range s.pap.length).all (jK s) with
  |false=>rw[if_pos rfl];exact⟨fun _=>jn h1 h2 h3 h4,fun h=>by omega⟩
  |true=>rw[if_neg (by simp)];exact⟨fun h=>by omega,fun _=>mF h1 h2 h3 h4⟩
 ·rw[if_pos h3];exact⟨fun _=>AV h1 h2 h3,fun h=>by omega⟩
theorem Cj(s:dl):m9 s=0\/m9 s=1:=by
 unfold m9;split
 ·exact .inr rfl
 ·split
  ·exact .inr rfl
  ·exact .inl rfl
theorem pP(s:dl)(AP AB AX:Option Addr)(nP cP nB cB nX cX:Nat)(w:World)(hP:jg p w (D AP nP cP) s.pap)(hB:l9 p w (D AB nB cB) s.bk) :
  Calls prog 60 #[.agg #[B C s.num,D AP nP cP,D AB nB cB,D AX nX cX]] w fun e w'=>e=.returned (B C (m9 s))/\ab w w':=by
 have HLP:=zZ (show s.pap.length=nP from by obtain⟨_,_,e,_⟩:=hP;injection e with _ e _;exact e.symm);have HLB:=zZ (show s.bk.length=nB from by obtain⟨_,_,e,_⟩:=hB;injection e with _ e _;exact e.symm);have hb1:nP<=9223372036854775807:=by obtain⟨_,_,e,h1,h2,_⟩:=hP;injection e with _ e _;omega
 have hb2:nB<=9223372036854775807:=by obtain⟨_,_,e,h1,h2,_⟩:=hB;injection e with _ e _;omega
 have HR0:Bx (jg p w (D AP nP cP) s.pap/\l9 p w (D AB nB cB) s.bk):=⟨⟨hP,hB⟩⟩
 clear hP hB;obtain⟨w1,hw1⟩:=nm ((w.alloc (.cells #[B C s.num,D AP nP cP,D AB nB cB,D AX nX cX] 29)):World);have HF:Bx (aA w w1 [(w.heap.size,#[B C s.num,D AP nP cP,D AB nB cB,D AX nX cX],29)]):=⟨by rw[hw1];exact (aA.start w).push _ _ rfl⟩
 go_enter func60,ntmps60
 go_upto_region 1 with (fail)
 rw[<-hw1];clear hw1;obtain⟨z0,z1,z2,z3⟩:=(HF.out.at_ 0 rfl).p4 rfl;by_cases c3:nB=nP;case neg =>
  have c3b:((nB:Int)!=(nP:Int))=true:=by simp;omega
  have HE:=zZ (GI (s:=s) (by rw[HLP.out,HLB.out];exact c3));go_wp2_with fail;all_goals first
   |(exfalso;omega)
   |(go_ret;exact⟨ag HE.out.symm,HF.out.xt⟩)
 subst c3;have HLL:Bx (s.bk.length=s.pap.length):=⟨by rw[HLP.out,HLB.out]⟩
 go_wp2_with fail;clear z0 z1 z2 z3;go_loopw [15] (fun s15 wr=>∃k:Nat,s15=B C k/\k<=nB/\Bx (aA w wr [(w.heap.size,#[B C s.num,D AP nB cP,D AB nB cB,D AX nX cX],29)]/\∀j,j<k->jK s j=true)) (fun k _=>nB-(intOf k).toNat)
 case atStart=>exact⟨0,rfl,by omega,⟨⟨HF.out,fun j hj=>by omega⟩⟩⟩
 case round =>
  obtain⟨k,rfl,hk,HR⟩:=hrel;clear HF;by_cases hkn:k<nB
  ·obtain⟨bP,oP,_,_,rfl,-⟩:=HR0.out.1.at_ hkn;obtain⟨bB,oB,_,_,rfl,-⟩:=HR0.out.2.at_ hkn;have hqk:s.pap[k]?=some (s.pap[k]'(by have:=HLP.out;omega)):=zV _;have hbk:s.bk[k]?=some (s.bk[k]'(by have:=HLB.out;omega)):=zV _;generalize s.pap[k]'(by have:=HLP.out;omega)=q at hqk;generalize s.bk[k]'(by have:=HLB.out;omega)=bk at hbk;obtain⟨Aq,nq,cq,q0,q1,q2,hIQ,hq1,hq2⟩:=kn HR0.out.1 hqk HR.out.1.xt.xt;obtain⟨Ab,nb,cb,b0,hIB,-⟩:=lJ HR0.out.2 hbk HR.out.1.xt.xt;obtain⟨qc,qv,qs⟩:=q;simp only at q0 q1 q2 hIQ hq1 hq2;have HG:=zZ (D3 hqk hbk);have HA:Bx (∀j,j<k->jK s j=true):=⟨HR.out.2⟩
   have HIQ:Bx (oa p wr (D Aq nq cq) qs/\oc p wr (D Ab nb cb) bk):=⟨⟨hIQ,hIB⟩⟩
   have HFr:Bx (aA w wr [(w.heap.size,#[B C s.num,D (some ⟨bP,oP,none⟩) nB cP,D (some ⟨bB,oB,none⟩) nB cB,D AX nX cX],29)]):=⟨HR.out.1⟩
   have hkl:k<s.pap.length:=by have:=HLP.out;omega
   have HKL:=zZ hkl;clear hIQ hIB hqk hbk HR hkl;go_upto_region 6 with (fail)
   have HF2:Bx (aA w (wr.alloc (.cells #[B C qc,B C qv,D Aq nq cq] 64)) [(w.heap.size,#[B C s.num,D (some ⟨bP,oP,none⟩) nB cP,D (some ⟨bB,oB,none⟩) nB cB,D AX nX cX],29),(wr.heap.size,#[B C qc,B C qv,D Aq nq cq],64)]):=⟨HFr.out.push _ _ rfl⟩
   have HI:Bx (oa p (wr.alloc (.cells #[B C qc,B C qv,D Aq nq cq] 64)) (D Aq nq cq) qs/\oc p (wr.alloc (.cells #[B C qc,B C qv,D Aq nq cq] 64)) (D Ab nb cb) bk):=⟨⟨HIQ.out.1.ext (bC.stab p) ((zE _).alloc _),HIQ.out.2.ext (RI.stab p) ((zE _).alloc _)⟩⟩
   replace b0:=((zE wr).alloc (.cells #[B C qc,B C qv,D Aq nq cq] 64)).cell b0;obtain⟨w2,hw2⟩:=nm ((wr.alloc (.cells #[B C qc,B C qv,D Aq nq cq] 64)):World);rw[<-hw2]at HF2 HI b0;rw[<-hw2];clear hw2 q0 q1 q2 HFr HIQ;obtain⟨gp,hgp⟩:=nm wr.heap.size;rw[<-hgp]at HF2;rw[<-hgp];clear hgp;have s0:=(HF2.out.at_ 0 rfl).c 0 rfl;have s2:=(HF2.out.at_ 0 rfl).c 2 rfl;obtain⟨p0,p1,p2⟩:=(HF2.out.at_ 1 rfl).p3 rfl;refine zQ 99 fun wd kS=>?_;refine zS 1 [(0,20)] kS ?_;refine zT ?_ (y:=by intro wk hk;obtain⟨_,_,_,_,_,_⟩:=zkc6 hk s0 s2 p0 p1 p2 b0;go_simp;try with_reducible rfl);refine zN (zO 1 (fun K hK=>?_));go_simp;refine (kP qc qv _ qs _ (p:=p) (HI.out.1.ext (bC.stab p) kS)).mono ?_;rintro e w3 ⟨rfl,hx3⟩;have kS2:ab w2 w3:=kS.trans hx3;clear hx3;cases h1:fD qc qv qs with
   |false =>
    have HE:=zZ (nw HLL.out HKL.out (by rw[HG.out,h1];rfl));replace h1:=zZ h1;refine hK.out _ _ (fun _=>kS2) ?_;clear hK K;try simp only[kA]
    refine zS 24 [(2,22),(3,23),(4,24),(5,25),(6,26),(7,27),(8,28),(9,29),(10,30),(11,31),(12,32),(13,33),(14,34),(15,35),(16,36),(17,37),(18,38),(19,39),(20,40),(21,41),(22,42),(23,43),(24,44),(25,45)] kS2 ?_;iterate 2 refine zT ?_ (y:=by intro wk hk;obtain⟨_,_,_,_,_,_⟩:=zkc6 hk s0 s2 p0 p1 p2 b0;go_simp;try with_reducible rfl)
    iterate 5 (apply zK;exact⟨rfl,rfl⟩;simp only[kA];exact rfl)
    iterate 2 refine zT ?_ (y:=by intro wk hk;obtain⟨_,_,_,_,_,_⟩:=zkc6 hk s0 s2 p0 p1 p2 b0;go_simp;try with_reducible rfl)
    iterate 4 (apply zK;exact⟨rfl,rfl⟩;simp only[kA];exact rfl)
    iterate 2 refine zT ?_ (y:=by intro wk hk;obtain⟨_,_,_,_,_,_⟩:=zkc6 hk s0 s2 p0 p1 p2 b0;go_simp;try with_reducible rfl)
    iterate 8 (apply zK;exact⟨rfl,rfl⟩;simp only[kA];exact rfl)
    refine zT ?_ (y:=by intro wk hk;obtain⟨_,_,_,_,_,_⟩:=zkc6 hk s0 s2 p0 p1 p2 b0;go_simp;try with_reducible rfl);refine zN (zD ?_);go_wp2_with fail;go_ret
    exact⟨ag HE.out.symm,HF2.out.xt.trans kS2⟩
   |true =>
    by_cases h2:qc=s.num;case neg =>
     have h2b:(qc != s.num)=true:=by simp[h2]
     have HE:=zZ (nw HLL.out HKL.out (by rw[HG.out];simp[h2]));replace h1:=zZ h1;replace h2:=zZ h2;refine hK.out _ _ (fun _=>kS2) ?_;clear hK K;try simp only[kA]
     refine zS 24 [(2,22),(3,23),(4,24),(5,25),(6,26),(7,27),(8,28),(9,29),(10,30),(11,31),(12,32),(13,33),(14,34),(15,35),(16,36),(17,37),(18,38),(19,39),(20,40),(21,41),(22,42),(23,43),(24,44),(25,45)] kS2 ?_;iterate 9 refine zT ?_ (y:=by intro wk hk;obtain⟨_,_,_,_,_,_⟩:=zkc6 hk s0 s2 p0 p1 p2 b0;go_simp;try with_reducible rfl)
     iterate 4 (apply zK;exact⟨rfl,rfl⟩;simp only[kA];exact rfl)
     iterate 2 refine zT ?_ (y:=by intro wk hk;obtain⟨_,_,_,_,_,_⟩:=zkc6 hk s0 s2 p0 p1 p2 b0;go_simp;try with_reducible rfl)
     iterate 8 (apply zK;exact⟨rfl,rfl⟩;simp only[kA];exact rfl)
     refine zT ?_ (y:=by intro wk hk;obtain⟨_,_,_,_,_,_⟩:=zkc6 hk s0 s2 p0 p1 p2 b0;go_simp;try with_reducible rfl);refine zN (zD ?_);go_wp2_with fail;go_ret
     exact⟨ag HE.out.symm,HF2.out.xt.trans kS2⟩
    have h2b:(qc != s.num)=false:=by simp[h2]
    by_cases h3:qv=(k:Int)
    case neg =>
     have h3b:(qv != (k:Int))=true:=by simp[h3]
     have HE:=zZ (nw HLL.out HKL.out (by rw[HG.out];simp[h3]));replace h1:=zZ h1;replace h2:=zZ h2;replace h3:=zZ h3;refine hK.out _ _ (fun _=>kS2) ?_;clear hK K;try simp only[kA]
     refine zS 24 [(2,22),(3,23),(4,24),(5,25),(6,26),(7,27),(8,28),(9,29),(10,30),(11,31),(12,32),(13,33),(14,34),(15,35),(16,36),(17,37),(18,38),(19,39),(20,40),(21,41),(22,42),(23,43),(24,44),(25,45)] kS2 ?_;iterate 15 refine zT ?_ (y:=by intro wk hk;obtain⟨_,_,_,_,_,_⟩:=zkc6 hk s0 s2 p0 p1 p2 b0;go_simp;try with_reducible rfl)
     iterate 8 (apply zK;exact⟨rfl,rfl⟩;simp only[kA];exact rfl)
     refine zT ?_ (y:=by intro wk hk;obtain⟨_,_,_,_,_,_⟩:=zkc6 hk s0 s2 p0 p1 p2 b0;go_simp;try with_reducible rfl);refine zN (zD ?_);go_wp2_with fail;go_ret
     exact⟨ag HE.out.symm,HF2.out.xt.trans kS2⟩
    have h3b:(qv != (k:Int))=false:=by simp[h3]
    replace h1:=zZ h1;replace h2:=zZ h2;replace h3:=zZ h3;refine hK.out _ _ (fun _=>kS2) ?_;clear hK K;try simp only[kA]
    refine zS 21 [(2,22),(3,23),(4,24),(5,25),(6,26),(7,27),(8,28),(9,29),(10,30),(11,31),(12,32),(13,33),(14,34),(15,35),(16,36),(17,37),(18,38),(19,39),(20,40),(21,41),(22,42)] kS2 ?_;iterate 21 refine zT ?_ (y:=by intro wk hk;obtain⟨_,_,_,_,_,_⟩:=zkc6 hk s0 s2 p0 p1 p2 b0;go_simp;try with_reducible rfl)
    refine zN (zO 23 (fun K hK=>?_));go_simp;refine (kY qc qv _ _ qs bk _ (p:=p) (HI.out.1.ext (bC.stab p) kS2) (HI.out.2.ext (RI.stab p) kS2)).mono ?_;rintro e w4 ⟨rfl,hx4⟩;have kS3:ab w2 w4:=kS2.trans hx4;clear hx4;cases h4:jH qc qv qs bk with
    |false =>
     have HE:=zZ (nw HLL.out HKL.out (by rw[HG.out,h4];simp));replace h4:=zZ h4;refine hK.out _ _ (fun _=>kS3) ?_;clear hK K;try simp only[kA]
     refine zS 2 [(24,44),(25,45)] kS3 ?_;iterate 2 refine zT ?_ (y:=by intro wk hk;obtain⟨_,_,_,_,_,_⟩:=zkc6 hk s0 s2 p0 p1 p2 b0;go_simp;try with_reducible rfl)
     refine zN (zD ?_);go_wp2_with fail;go_ret
     exact⟨ag HE.out.symm,HF2.out.xt.trans kS3⟩
    |true =>
     have HT:=zZ (show jK s k=true by rw[HG.out,h1.out,h4,decide_eq_true h2.out,decide_eq_true h3.out];rfl);replace h4:=zZ h4;refine hK.out _ _ (fun _=>kS3) ?_;clear hK K;try simp only[kA]
     refine zS 2 [(24,44),(25,45)] kS3 ?_;iterate 2 refine zT ?_ (y:=by intro wk hk;obtain⟨_,_,_,_,_,_⟩:=zkc6 hk s0 s2 p0 p1 p2 b0;go_simp;try with_reducible rfl)
     refine zN (zD ?_);have HF9:Bx (aA w w4 [(w.heap.size,#[B C s.num,D (some ⟨bP,oP,none⟩) nB cP,D (some ⟨bB,oB,none⟩) nB cB,D AX nX cX],29)]):=⟨(HF2.out.ext kS3).take 1⟩
     clear kS kS2 kS3 s0 s2 p0 p1 p2 b0 h2b h3b HF2;go_wp2_with fail;go_roundw
     case rel=>exact⟨k+1,by go_num,by omega,⟨⟨HF9.out,fun j hj=>by rcases zU j k with h|h;exact HA.out j h;obtain rfl:j=k:=(by omega);exact HT.out⟩⟩⟩
     case measure=>simp[intOf];omega
  ·obtain rfl:nB=k:=by omega
   have HE:=zZ (Iw HLL.out fun j hj=>HR.out.2 j (by have:=HLP.out;omega));have HF9:=zZ HR.out.1.xt;clear HR;go_wp2_with fail;go_ret
   exact⟨ag HE.out.symm,HF9.out⟩
end Go.Proofs.YtpaidaphacoblaaGreatDoor

