import Derived.Test.YtkaajgoeahahpaaGreatDoorH19
set_option linter.all false
set_option maxRecDepth 100000
set_option maxHeartbeats 0
namespace Go.Proofs.YtkaajgoeahahpaaGreatDoor
open Go.Value renaming int→B,slice→D
open Go.IntKind renaming i64→C
open Go.RowKit _root_.Go.Proofs.Tryz
theorem rb(v0:Value)(l0:List Int)(la lb lc ld:Int)(v2:Value)(l2:List Int)(w:World)(h0:ak w.heap.size w v0 l0)(hlw:cJ.wf ⟨la,lb,lc,ld⟩)(h2:ak w.heap.size w v2 l2)(hT:cK w) :
  Calls prog 9 #[v0,.agg #[B C la,B C lb,B C lc,B C ld],v2] w fun e w'=>e=.returned (.bool true)/\ab w w':=by
 obtain⟨A2,n2,c2,rfl,-,-,hm2,HN2⟩:=h2.open_;obtain⟨u,hu⟩:=nm w;rw[<-hu]at h0 h2 hT⊢;clear hu w;go_enter func9,ntmps9
 obtain⟨gL,hgL⟩:=nm u.heap.size;obtain⟨w,hw⟩:=nm ((u.alloc (.cells #[B C la,B C lb,B C lc,B C ld] 45)):World);have HU:Bx (ab u w):=⟨by rw[hw];exact (zE _).alloc _⟩
 have H0:Bx (ak w.heap.size w v0 l0):=⟨by rw[hw];exact (h0.re (by simp)).ext ((zE _).alloc _)⟩
 have H2:Bx (ak w.heap.size w (D A2 n2 c2) l2):=⟨by rw[hw];exact (h2.re (by simp)).ext ((zE _).alloc _)⟩
 have HB:Bx (cK w):=⟨by rw[hw];exact hT.ext ((zE _).alloc _)⟩
 have HBL:Bx (Bk w gL #[B C la,B C lb,B C lc,B C ld] 45/\gL≠w.heap.size):=⟨by rw[hw,hgL];exact⟨Bk.new _ _ _,by simp⟩⟩
 have HLW:=zZ hlw;go_upto_region 1 with (fail)
 rw[<-hw,<-hgL];clear hw hgL h0 h2 hT hlw;go_wp2_with fail;refine (ib _ l0 _ H0.out).mono ?_;rintro e w1 ⟨rfl,HT1,HE1⟩;have HE:=zZ HE1;have HF1:Bx (LF w.heap.size w1 w1 []):=⟨LF.start HT1 (HB.out.ext HE1) HB.out.lt⟩
 clear HT1 HE1;go_wp2_with fail;refine (dp _ 12 _ HF1.out.fr.tp (by omega) (by omega)).mono ?_;rintro e w2 ⟨v2,rfl,⟨s,hsv,hwf,-⟩,HT2,HX2⟩;have hs2:=hsv.isSit hwf HF1.out.fr.hp;have HWF:=zZ hwf;obtain⟨AP,nP,cP,AB,nB,cB,AX,nX,cX,rfl⟩:=hs2.op;obtain⟨gS,hgS⟩:=nm w2.heap.size;obtain⟨w3,hw3⟩:=nm ((w2.alloc (.cells #[B C s.num,D AP nP cP,D AB nB cB,D AX nX cX] 27)):World);have HF3:Bx (LF w.heap.size w1 w3 [(gS,#[B C s.num,D AP nP cP,D AB nB cB,D AX nX cX],27)]):=⟨by rw[hw3];exact (HF1.out.step HX2 HT2).push _ _ hgS.symm⟩
 have HS3:Bx (aR w.heap.size w3 (.agg #[B C s.num,D AP nP cP,D AB nB cB,D AX nX cX]) s):=⟨by rw[hw3];exact hs2.ext ((zE _).alloc _)⟩
 clear hs2 hsv hwf;go_upto_region 3 with (fail)
 rw[<-hw3,<-hgS];clear hw3 hgS HT2 HX2 HF1;by_cases h60:n2<=60;case neg =>
  go_wp2_with fail;go_ret
  exact⟨rfl,HU.out.trans (HF3.out.fin HE.out)⟩
 have HBW:=bx (HBL.out.1.ext HE.out);obtain⟨z0,z1,z2,z3⟩:=(HF3.out.at_ 0 rfl).p4 rfl;go_wp2_with fail;refine (dP _ _ s 4 _ HF3.out.fr.tp HS3.out HWF.out (by omega)).mono ?_;rintro e w4 ⟨v4,rfl,⟨ys,hrow,hyl⟩,HT4,HX4⟩;have hcs:=hrow.isCs HF3.out.lt;have hyl2:(ys.map Prod.fst).length<=24:=by rw[zJ];omega
 obtain⟨l,hl⟩:=nm (ys.map Prod.fst);rw[<-hl]at hcs hyl2;obtain⟨AC,cC,rfl⟩:∃A c,v4=D A l.length c:=by obtain⟨A,n,c,rfl,-⟩:=hcs.open_;rw[hcs.len];exact⟨_,_,rfl⟩
 obtain⟨nl,hnl⟩:=nm l.length;rw[<-hnl]at hcs hyl2⊢;have HLN:=zZ hnl;have HC4:Bx (au w.heap.size w4 (D AC nl cC) l):=⟨hcs⟩
 have HF4:=bx (HF3.out.step HX4 HT4);have HS4:=bx (HS3.out.xt HX4);clear hcs hrow hyl hl hnl HT4 HX4 HF3 HS3;clear z0 z1 z2 z3;have HB4:=bx (HBW.out.xt HF4.out.fr.xt HBL.out.2);clear HBW;go_wp2_with fail;go_loopw [10] (fun s9 wr=>∃k:Nat,s9=B C k/\k<=nl/\Bx (ab w4 wr)) (fun k _=>nl-(intOf k).toNat)
 case atStart=>exact⟨0,rfl,by omega,⟨zE _⟩⟩
 case round =>
  obtain⟨k,rfl,hk,HR⟩:=hrel;by_cases hkn:k<nl
  ·obtain⟨b,off,_,_,rfl,-⟩:=HC4.out.at_ hkn;obtain⟨xt,xs,xq,xk,xct,xts,xtq,xlp,xlc,xlg,xlv,xstr,xch,xA,xn,xcc,HX,hcx,hix,hwx⟩:=au.read HC4.out (XT.refl w.heap.size w4) hkn;have HCX:=zZ hcx;have HCH:=zZ hix;obtain⟨e0,e1,e2,e3,e4,e5,e6,e7,e8,e9,e10,e11,e12⟩:=hcx.ext HR.out;obtain⟨⟨xa,xb,xc,xd⟩,st,hlab⟩:∃(x:cJ) (st:Int),aQ l ⟨xs,xq⟩=(x,st):=⟨_,_,rfl⟩
   have HLX:=zZ (jo (nk HC4.out) hlab);have HLB:=zZ hlab;clear hcx hix hwx HX hlab;go_wp2_with fail;refine (dN _ _ _ _ _ _ _ _ _ _ _ _ _ _ _ _).mono ?_;rintro e wa ⟨rfl,hxa⟩;have hra:=HR.out.trans hxa;go_wp2_with fail;refine (ms _ l xs xq _ (bj.ext HC4.out (bR.stab _) hra)).mono ?_;rintro e wb ⟨ya,yb,yc,yd,st2,rfl,h2,hxb⟩;obtain⟨⟨rfl,rfl,rfl,rfl⟩,rfl⟩:(xa=ya/\xb=yb/\xc=yc/\xd=yd)/\st=st2:=by rw[HLB.out]at h2;injection h2 with h2 h3;injection h2 with h4 h5 h6 h7;exact⟨⟨h4,h5,h6,h7⟩,h3⟩
   obtain⟨g6,hg6⟩:=nm wb.heap.size;obtain⟨w6,hw6⟩:=nm ((wb.alloc (.cells #[B C xa,B C xb,B C xc,B C xd] 45)):World);have HR6:Bx (ab w4 w6):=⟨by rw[hw6];exact hra.trans (hxb.alloc _)⟩
   have HB6:Bx (Bk w6 g6 #[B C xa,B C xb,B C xc,B C xd] 45):=⟨by rw[hw6,hg6];exact Bk.new _ _ _⟩
   clear h2 hra hxa hxb e0 e1 e2 e3 e4 e5 e6 e7 e8 e9 e10 e11 e12;go_upto_region 10 with (fail)
   rw[<-hw6,<-hg6];clear hw6 hg6;have HS6:Bx (Bk w6 gS #[B C s.num,D AP nP cP,D AB nB cB,D AX nX cX] 27):=⟨(HF4.out.at_ 0 rfl).ext HR6.out⟩
   obtain⟨z0,z1,z2,z3⟩:=(HS6.out).p4 rfl;obtain⟨i0,i1,i2,i3⟩:=(HB6.out).p4 rfl;have e6:=(HCX.out.ext HR6.out).c6;obtain⟨r,hr⟩:=nm (eC s ⟨xa,xb,xc,xd⟩ xch);have HFI:=zZ hr;clear hr;refine zQ 99 fun wd kS=>?_;refine zS 14 [(0,39),(1,40),(2,41),(3,42),(4,43),(5,44),(6,45),(8,47),(9,48),(10,49),(11,50),(12,51),(13,52),(14,53)] kS ?_;iterate 14 refine zT ?_ (y:=by intro wk hk;obtain⟨_,_,_,_,_,_,_,_⟩:=zkc8 hk z0 z1 z2 z3 i0 i1 i2 i3;have:=hk.cell e6;go_simp;try with_reducible rfl)
   refine zN (zO 7 (fun K hK=>?_));go_simp;refine (sH _ _ s xa xb xc xd xch _ (p:=w.heap.size) (q:=w.heap.size) (zB HF4.out.lt (HR6.out.trans kS).size) (HS4.out.ext (HR6.out.trans kS)) (HCH.out.ext (HR6.out.trans kS)) HLX.out).mono ?_;rintro e wa ⟨rfl,hx7⟩;have kS2:ab w6 wa:=kS.trans hx7;rw[<-HFI.out];refine hK.out _ _ (fun _=>kS2) ?_;clear hK K;try simp only[kA]
   refine zO 15 (fun K hK=>?_);go_simp;refine (pe _ _ s xa xb xc xd xch _ (p:=w.heap.size) (q:=w.heap.size) (zB HF4.out.lt (HR6.out.trans kS2).size) (HS4.out.ext (HR6.out.trans kS2)) (HCH.out.ext (HR6.out.trans kS2)) HLX.out).mono ?_;rintro e wc ⟨rfl,hx8⟩;have kS3:ab w6 wc:=kS2.trans hx8;rw[<-HFI.out];refine hK.out _ _ (fun _=>kS3) ?_;clear hK K;try simp only[kA]
   refine zS 1 [(16,55)] kS3 ?_;refine zT ?_ (y:=by intro wk hk;obtain⟨_,_,_,_,_,_,_,_⟩:=zkc8 hk z0 z1 z2 z3 i0 i1 i2 i3;have:=hk.cell e6;go_simp;try with_reducible rfl);refine zN (zD ?_);have HR7:Bx (ab w4 wc):=⟨HR6.out.trans kS3⟩
   have er:(r != r)=false:=by simp
   clear kS kS2 kS3 hx7 hx8 z0 z1 z2 z3 i0 i1 i2 i3 e6;go_wp2_with fail;go_roundw
   case rel=>exact⟨k+1,by go_num,by omega,⟨HR7.out⟩⟩
   case measure=>simp[intOf];omega
  ·have HS6:Bx (Bk wr gS #[B C s.num,D AP nP cP,D AB nB cB,D AX nX cX] 27):=⟨(HF4.out.at_ 0 rfl).ext HR.out⟩
   have HB6:=bx (HB4.out.ext HR.out);have H24:Bx (ak w.heap.size w4 (D A2 n2 c2) l2):=⟨(H2.out.ext HE.out).xt HF4.out.fr.xt⟩
   obtain⟨z0,z1,z2,z3⟩:=(HS6.out).p4 rfl;obtain⟨i0,i1,i2,i3⟩:=(HB6.out).p4 rfl;obtain⟨r,hr⟩:=nm (eC s ⟨la,lb,lc,ld⟩ l2);have HFI:=zZ hr;have er:(r==r)=true:=by simp
   clear hr;go_upto_region 12 with (fail)
   obtain⟨w6,rfl⟩:=nm wr;refine zQ 99 fun wd kS=>?_;refine zS 6 [(0,56),(1,57),(2,58),(4,60),(5,61),(6,62)] kS ?_;iterate 6 refine zT ?_ (y:=by intro wk hk;obtain⟨_,_,_,_,_,_,_,_⟩:=zkc8 hk z0 z1 z2 z3 i0 i1 i2 i3;go_simp;try with_reducible rfl)
   refine zN (zO 3 (fun K hK=>?_));go_simp;refine (sH _ _ s la lb lc ld l2 _ (p:=w.heap.size) (q:=w.heap.size) (zB HF4.out.lt (HR.out.trans kS).size) (HS4.out.ext (HR.out.trans kS)) (H24.out.ext (HR.out.trans kS)) HLW.out).mono ?_;rintro e wa ⟨rfl,hx7⟩;have kS2:ab w6 wa:=kS.trans hx7;rw[<-HFI.out];refine hK.out _ _ (fun _=>kS2) ?_;clear hK K;try simp only[kA]
   refine zO 7 (fun K hK=>?_);go_simp;refine (pe _ _ s la lb lc ld l2 _ (p:=w.heap.size) (q:=w.heap.size) (zB HF4.out.lt (HR.out.trans kS2).size) (HS4.out.ext (HR.out.trans kS2)) (H24.out.ext (HR.out.trans kS2)) HLW.out).mono ?_;rintro e wc ⟨rfl,hx8⟩;have kS3:ab w6 wc:=kS2.trans hx8;rw[<-HFI.out];refine hK.out _ _ (fun _=>kS3) ?_;clear hK K;try simp only[kA]
   refine zS 2 [(8,64),(9,65)] kS3 ?_;iterate 2 refine zT ?_ (y:=by intro wk hk;obtain⟨_,_,_,_,_,_,_,_⟩:=zkc8 hk z0 z1 z2 z3 i0 i1 i2 i3;go_simp;try with_reducible rfl)
   refine zN (zO 10 (fun K hK=>?_));go_simp;refine (cN _ (HF4.out.tb.ext (HR.out.trans kS3))).mono ?_;rintro e we ⟨rfl,hx9⟩;have kS4:ab w6 we:=kS3.trans hx9;refine hK.out _ _ (fun _=>kS4) ?_;clear hK K;try simp only[kA]
   refine zS 2 [(11,67),(12,6)] kS4 ?_;iterate 2 refine zT ?_ (y:=by intro wk hk;obtain⟨_,_,_,_,_,_,_,_⟩:=zkc8 hk z0 z1 z2 z3 i0 i1 i2 i3;go_simp;try with_reducible rfl)
   refine zN (zD ?_);go_wp2_with fail;go_ret
   exact⟨rfl,HU.out.trans ((HF4.out.fin HE.out).trans (HR.out.trans kS4))⟩
end Go.Proofs.YtkaajgoeahahpaaGreatDoor

