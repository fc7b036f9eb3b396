import Derived.Test.YtkaajgoeahahpaaGreatDoorH19
import Derived.Deep.CutBlock
set_option linter.all false
set_option maxRecDepth 100000
set_option maxHeartbeats 0
namespace Go.Proofs.YtkaajgoeahahpaaGreatDoor
open Go.Value renaming int→B,slice→D
open Go.IntKind renaming i64→C
open Go.RowKit
variable {i k:Nat}
section
variable {s:dl} {l:List aj}
theorem LQ:iT dW (cQ s l).pgs:=sY Kn KM
theorem LT{x:Pg}:x∈(cQ s l).pgs↔∃(i:Nat) (y:dH),(af s l)[i]?=some y/\y.cap.kind=1/\cR (af s l) i y=1/\x=Gs y:=by
 unfold cQ;simp only;rw[(fX _).mem_iff];unfold bW;rw[List.mem_filterMap];constructor
 ·rintro⟨i,_,hi⟩;obtain⟨y,h1,h2,h3,h4⟩:=Hi hi;exact⟨i,y,h1,h2,h3,h4⟩
 ·rintro⟨i,y,h1,h2,h3,rfl⟩;refine⟨i,yX.2 ?_,by unfold pg1;rw[h1];simp[h2,h3]⟩;have:=(zY.1 h1).1;rwa [jw]at this
theorem LZ(h:FB l){c:aj}(hc:l[i]?=some c)(hk:c.kind=1):tU (cQ s l).sts c.id=some (lN (af s l) i (aM s l c)):=by
 have hm:lN (af s l) i (aM s l c)∈(cQ s l).sts:=mem_sts.2 ⟨i,_,lL hc,by rw[ff];exact hk,rfl⟩;obtain⟨k,hk'⟩:=zH hm;refine G7 hk' (by simp[lN,ff]) fun j y hj hy=>?_;have ha:=GT (s:=s) h;have hy:y.scan=c.id:=by simpa using hy
 rcases xO j k with hlt|heq|hlt
 ·have:=ha.at_ hj hk' hlt;simp[bU,lN,ff,hy,et]at this
 ·exact heq
 ·have:=ha.at_ hk' hj hlt;simp[bU,lN,ff,hy,et]at this
theorem LS(h:FB l){c:aj}(hc:l[i]?=some c){q:Pg}(hq:q∈(cQ s l).pgs)(hs:q.scan=c.id):q=Gs (aM s l c)/\cR (af s l) i (aM s l c)=1:=by
 obtain⟨k,y,hy,-,hu,rfl⟩:=LT.1 hq;obtain⟨h1,h2⟩:=de hy;have hi:k=i:=by
  rcases xO k i with hlt|heq|hlt
  ·exact absurd hs (kO h h1 hc hlt)
  ·exact heq
  ·exact absurd hs.symm (kO h hc h1 hlt)
 subst hi;rw[hc]at h1;injection h1 with h1;rw[<-h1]at h2
 rw[<-h2];exact⟨rfl,hu⟩
def LM(l:List Pg)(id:gT)(k:Nat):Nat:=((l.take k).filter fun q=>decide (q.scan=id)).length
theorem LV(l:List Pg)(id:gT):LM l id 0=0:=by simp[LM]
theorem LO{l:List Pg}{id:gT}{q:Pg}(h:l[k]?=some q):LM l id (k+1)=LM l id k+if q.scan=id then 1 else 0:=by have hk:=(zY.1 h).1;unfold LM;rw[List.take_add_one,h,xM,yU];simp only[Option.toList_some,vJ,List.filter_nil];split<;>simp_all
theorem LW(h:FB l){c:aj}(hc:l[i]?=some c)(hk:c.kind=1):LM (cQ s l).pgs c.id (cQ s l).pgs.length=if cR (af s l) i (aM s l c)=1 then 1 else 0:=by
 unfold LM;rw[xV (zX _)];have hnd:(cQ s l).pgs.Nodup:=iT.nodup Kn LQ;have hall:∀q∈(cQ s l).pgs.filter (fun q=>decide (q.scan=c.id)),q=Gs (aM s l c):=fun q hq=>by rw[xR]at hq;exact (LS h hc hq.1 (by simpa using hq.2)).1
 have hfd:=hnd.filter (fun q=>decide (q.scan=c.id));split
 ·next hu =>
  have hm:Gs (aM s l c)∈(cQ s l).pgs.filter (fun q=>decide (q.scan=c.id)):=by rw[xR];exact⟨LT.2 ⟨i,_,lL hc,by rw[ff];exact hk,hu,rfl⟩,by simp[Gs,ff]⟩
  revert hall hfd hm
  generalize (cQ s l).pgs.filter (fun q=>decide (q.scan=c.id))=L;intro hall hfd hm;match L,hall,hfd,hm with
  |[x],_,_,_=>rfl
  |x::y::t,hall,hfd,_ =>
   have h1:=hall x (by simp);have h2:=hall y (by simp)
   exact absurd (by rw[h1,h2];simp) (uQ.1 (show (x::y::t).Nodup from hfd)).1
 ·next hu =>
  rw[List.length_eq_zero_iff,List.filter_eq_nil_iff];intro q hq hs;exact hu (LS h hc hq (by simpa using hs)).2
theorem LU(k:Nat){c:aj}(hc:l[k]?=some c):(aZ (af s l) (k+1)).length=(aZ (af s l) k).length+if c.kind=1 then 1 else 0:=by rw[kC,yU];simp only[ry,lL hc,uL,ff];split<;>rfl
theorem LR(k:Nat){c:aj}(hc:l[k]?=some c):(bW (af s l) (k+1)).length=(bW (af s l) k).length+if c.kind=1/\cR (af s l) k (aM s l c)=1 then 1 else 0:=by rw[jO,yU];simp only[pg1,lL hc,uL,ff];split<;>rfl
theorem LY(h:FB l){c:aj}(hc:l[i]?=some c)(hk:c.kind=1):∃st la lb lc ld:Int,tU (cQ s l).sts c.id=some ⟨c.id,st,⟨la,lb,lc,ld⟩⟩/\(1<=st/\st<=6) /\
  (∀q∈(cQ s l).pgs,q.scan=c.id->q.cand=lb/\q.page=lc/\q.cont=c.cont/\q.ch=c.ch)/\LM (cQ s l).pgs c.id (cQ s l).pgs.length=(if st=1 then 1 else 0) /\
  (bW (af s l) (i+1)).length=(bW (af s l) i).length+(if st=1 then 1 else 0):=by
 refine⟨cR (af s l) i (aM s l c),(aM s l c).lab.p,(aM s l c).lab.c,(aM s l c).lab.g,(aM s l c).lab.v,?_,?_,?_,LW h hc hk,?_⟩
 ·rw[LZ h hc hk];simp[lN,ff]
 ·exact Bq (lL hc) (by rw[ff];exact hk)
 ·intro q hq hs;rw[(LS h hc hq hs).1];simp[Gs,ff]
 ·rw[LR i hc];simp[hk]
end
theorem rA.read{p b off n c:Nat}{w wx:World}{l:List dF}(h:rA p w (D (some ⟨b,off,none⟩) n c) l)(hx:ab w wx)(hk:k<n) :
  ∃xs xq xt xa xb xc xd:Int,Hid (l[k]?=some ⟨⟨xs,xq⟩,xt,⟨xa,xb,xc,xd⟩⟩)/\dF.wf ⟨⟨xs,xq⟩,xt,⟨xa,xb,xc,xd⟩⟩/\wx.cell? ⟨b,off+k*7,none⟩=some (B C xs)/\wx.cell? ⟨b,off+k*7+1,none⟩=some (B C xq)/\wx.cell? ⟨b,off+k*7+2,none⟩=some (B C xt)/\wx.cell? ⟨b,off+k*7+3,none⟩=some (B C xa)/\wx.cell? ⟨b,off+k*7+4,none⟩=some (B C xb)/\wx.cell? ⟨b,off+k*7+5,none⟩=some (B C xc)/\wx.cell? ⟨b,off+k*7+6,none⟩=some (B C xd):=by
 obtain⟨cs,⟨⟨xs,xq⟩,xt,⟨xa,xb,xc,xd⟩⟩,-,hc0,⟨hcs,hw⟩,HX⟩:=(h.ext (cU.stab p) hx).cell_ hk;subst hcs;exact⟨xs,xq,xt,xa,xb,xc,xd,HX,hw,hc0 0 _ rfl,hc0 1 _ rfl,hc0 2 _ rfl,hc0 3 _ rfl,hc0 4 _ rfl,hc0 5 _ rfl,hc0 6 _ rfl⟩
theorem Ce.read{p b off n c:Nat}{w wx:World}{l:List Pg}(h:Ce p w (D (some ⟨b,off,none⟩) n c) l)(hx:ab w wx)(hk:k<n) :
  ∃(xc xg xt xs xq:Int) (xch:List Int) (A:Option Addr) (m cc:Nat),Hid (l[k]?=some ⟨xc,xg,xt,xch,⟨xs,xq⟩⟩)/\Pg.wf ⟨xc,xg,xt,xch,⟨xs,xq⟩⟩/\ak p wx (D A m cc) xch/\wx.cell? ⟨b,off+k*6,none⟩=some (B C xc)/\wx.cell? ⟨b,off+k*6+1,none⟩=some (B C xg)/\wx.cell? ⟨b,off+k*6+2,none⟩=some (B C xt)/\wx.cell? ⟨b,off+k*6+3,none⟩=some (D A m cc)/\wx.cell? ⟨b,off+k*6+4,none⟩=some (B C xs)/\wx.cell? ⟨b,off+k*6+5,none⟩=some (B C xq):=by
 obtain⟨cs,⟨xc,xg,xt,xch,⟨xs,xq⟩⟩,-,hc0,⟨u,hcs,hI,hw⟩,HX⟩:=(h.ext (lO.stab p) hx).cell_ hk;obtain⟨A,m,cc,rfl,-⟩:=hI.open_;subst hcs;exact⟨xc,xg,xt,xs,xq,xch,A,m,cc,HX,hw,hI,hc0 0 _ rfl,hc0 1 _ rfl,hc0 2 _ rfl,hc0 3 _ rfl,hc0 4 _ rfl,hc0 5 _ rfl⟩
open _root_.Go.Proofs.Tryz
theorem LN(v0:Value)(l0:List Int)(w:World)(h0:ak w.heap.size w v0 l0)(hT:cK w) :
  Calls prog 11 #[v0] w fun e w'=>e=.returned (.bool true)/\ab w w':=by
 have H0:=zZ h0;have HB:=zZ hT;clear h0 hT;go_enter func11,ntmps11
 go_wp2_with fail;refine (ib _ l0 _ H0.out).mono ?_;rintro e w1 ⟨rfl,HT1,HE1⟩;have HE:=zZ HE1;have HF1:Bx (LF w.heap.size w1 w1 []):=⟨LF.start HT1 (HB.out.ext HE1) HB.out.lt⟩
 clear HT1 HE1;go_wp2_with fail;refine (dp _ 0 _ HF1.out.fr.tp (by omega) (by omega)).mono ?_;rintro e w2 ⟨v2,rfl,⟨s,hsv,hwf,hok⟩,HT2,HX2⟩;have hs2:=hsv.isSit hwf HF1.out.fr.hp;have HWF:=zZ hwf;obtain⟨AP,nP,cP,AB,nB,cB,AX,nX,cX,rfl⟩:=hs2.op;have HOK:=zZ (hok rfl);obtain⟨gS,hgS⟩:=nm w2.heap.size;obtain⟨w3,hw3⟩:=nm ((w2.alloc (.cells #[B C s.num,D AP nP cP,D AB nB cB,D AX nX cX] 27)):World);have HF3:Bx (LF w.heap.size w1 w3 [(gS,#[B C s.num,D AP nP cP,D AB nB cB,D AX nX cX],27)]):=⟨by rw[hw3];exact (HF1.out.step HX2 HT2).push _ _ hgS.symm⟩
 have HS3:Bx (aR w.heap.size w3 (.agg #[B C s.num,D AP nP cP,D AB nB cB,D AX nX cX]) s):=⟨by rw[hw3];exact hs2.ext ((zE _).alloc _)⟩
 clear hs2 hsv hwf hok;go_upto_region 3 with (fail)
 rw[<-hw3,<-hgS];clear hw3 hgS HT2 HX2 HF1;obtain⟨z0,z1,z2,z3⟩:=(HF3.out.at_ 0 rfl).p4 rfl;go_wp2_with fail;refine (dP _ _ s 12 _ HF3.out.fr.tp HS3.out HWF.out (by omega)).mono ?_;rintro e w4 ⟨v4,rfl,⟨ys,hrow,hyl⟩,HT4,HX4⟩;have hcs:=hrow.isCs HF3.out.lt;have hyl2:(ys.map Prod.fst).length<=24:=by rw[zJ];omega
 obtain⟨l,hl⟩:=nm (ys.map Prod.fst);rw[<-hl]at hcs hyl2;obtain⟨AC,cC,rfl⟩:∃A c,v4=D A l.length c:=by obtain⟨A,n,c,rfl,-⟩:=hcs.open_;rw[hcs.len];exact⟨_,_,rfl⟩
 obtain⟨nl,hnl⟩:=nm l.length;rw[<-hnl]at hcs hyl2⊢;have HLN:=zZ hnl;have HC4:Bx (au w.heap.size w4 (D AC nl cC) l):=⟨hcs⟩
 have HF4:=bx (HF3.out.step HX4 HT4);have HS4:=bx (HS3.out.xt HX4);clear hcs hrow hyl hl hnl HT4 HX4 HF3 HS3;clear z0 z1 z2 z3;have HCK:Bx (aC s=0):=⟨iL.2 HOK.out⟩
 go_wp2_with fail;refine (rj _ l _ HF4.out.lt HC4.out (by have:=HLN.out;omega)).mono ?_;rintro e w5 ⟨⟨va,rfl,⟨bc,nc,-,rfl,hnc,hca⟩⟩,hx5⟩;have HF5:=bx (HF4.out.ext hx5);have HS5:=bx (HS4.out.ext hx5);have HC5:Bx (au w.heap.size w5 (D AC nl cC) l):=⟨bj.ext HC4.out (bR.stab _) hx5⟩
 have HK5:Bx (au w.heap.size w5 (D (some ⟨bc,0,none⟩) nc nc) (ay l)):=⟨hca⟩
 have HNC:=zZ hnc;clear hnc hca hx5 HF4 HS4 HC4;obtain⟨z0,z1,z2,z3⟩:=(HF5.out.at_ 0 rfl).p4 rfl;go_wp2_with fail;refine (aW _ _ s l _ HF5.out.lt HF5.out.tb HS5.out HC5.out (by have:=HLN.out;omega)).mono ?_;rintro e wb ⟨⟨vI,rfl,hI⟩,hx6⟩;rw[show rM s l=cQ s (ay l) from if_pos HCK.out]at hI;rw[HCK.out];obtain⟨cl,hcl⟩:=nm (ay l);have HID:Bx (FB cl):=⟨by rw[hcl];exact sN⟩
 rw[<-hcl]at hI HK5 HNC;clear hcl;obtain⟨AS,cS,AG,cG,rfl⟩:=hI.op;obtain⟨t,ht⟩:=nm (cQ s cl);rw[<-ht]at hI⊢;obtain⟨ns,hns⟩:=nm t.sts.length;obtain⟨ng,hng⟩:=nm t.pgs.length;rw[<-hns,<-hng]at hI⊢;have HTT:=zZ ht;have HNS:=zZ hns;have HNG:=zZ hng;clear ht hns hng;obtain⟨gI,hgI⟩:=nm wb.heap.size;obtain⟨w6,hw6⟩:=nm ((wb.alloc (.cells #[D AS ns cS,D AG ng cG] 59)):World);have hx56:ab w5 w6:=by rw[hw6];exact hx6.alloc _
 have HF6:Bx (LF w.heap.size w1 w6 [(gS,#[B C s.num,D AP nP cP,D AB nB cB,D AX nX cX],27),(gI,#[D AS ns cS,D AG ng cG],59)]):=⟨by rw[hw6];exact (HF5.out.ext hx6).push _ _ hgI.symm⟩
 have HI6:Bx (aK w.heap.size w6 (.agg #[D AS ns cS,D AG ng cG]) t):=⟨by rw[hw6];exact hI.ext ((zE _).alloc _)⟩
 have HC6:Bx (au w.heap.size w6 (D (some ⟨bc,0,none⟩) nc nc) cl):=⟨bj.ext HK5.out (bR.stab _) hx56⟩
 clear hI hx6 hx56;go_upto_region 6 with (fail)
 rw[<-hw6,<-hgI];clear hw6 hgI HF5 HS5 HC5 HK5 z0 z1 z2 z3 HWF HOK;have HG6:Bx (Ce w.heap.size w6 (D AG ng cG) t.pgs):=⟨by obtain⟨_,_,e,-,h⟩:=HI6.out;obtain⟨-,rfl⟩:=Kw e;exact h⟩
 have hnc6:nc<=9223372036854775807:=by obtain⟨_,_,_,e9,-,-,h9,-⟩:=HC6.out.open_;cases e9;exact h9
 have hng6:ng<=9223372036854775807:=by obtain⟨_,_,_,e9,-,-,h9,-⟩:=HG6.out.open_;cases e9;exact h9
 obtain⟨fS,hfS⟩:=nm (fun k=>(aZ (af s cl) k).length:Nat->Nat);obtain⟨fP,hfP⟩:=nm (fun k=>(bW (af s cl) k).length:Nat->Nat);have HFS:Bx (fS 0=0/\(∀k c,cl[k]?=some c->fS (k+1)=fS k+if c.kind=1 then 1 else 0)/\fS nc=ns):=⟨by rw[hfS];exact⟨rfl,fun k c h=>LU k h,by rw[HNS.out,HTT.out,ID,HNC.out]⟩⟩
 have HFP:Bx (fP 0=0/\(∀k c,cl[k]?=some c->c.kind≠1->fP (k+1)=fP k)/\fP nc=ng):=⟨by rw[hfP];exact⟨rfl,fun k c h hk=>by have:=LR (s:=s) k h;rw[if_neg (fun h=>hk h.1)]at this;exact this,by rw[HNG.out,HTT.out,Ec,HNC.out]⟩⟩
 have HON:Bx (∀k c,cl[k]?=some c->c.kind=1->∃st la lb lc ld:Int,tU t.sts c.id=some ⟨c.id,st,⟨la,lb,lc,ld⟩⟩/\(1<=st/\st<=6)/\(∀q∈t.pgs,q.scan=c.id->q.cand=lb/\q.page=lc/\q.cont=c.cont/\q.ch=c.ch)/\LM t.pgs c.id t.pgs.length=(if st=1 then 1 else 0)/\fP (k+1)=fP k+(if st=1 then 1 else 0)):=⟨by rw[hfP,HTT.out];exact fun k c h hk=>LY HID.out h hk⟩
 have HAS:Bx (iT dW t.pgs):=⟨by rw[HTT.out];exact LQ⟩
 clear hfS hfP HTT HCK HID;have i0:=(HF6.out.at_ 1 rfl).c 0 rfl;go_wp2_with fail;go_loopw [10,11,12] (fun s10 s11 s12 wr=>∃k a b:Nat,s10=B C a/\s11=B C b/\s12=B C k/\k<=nc/\a<=k/\b<=k/\Bx (a=fS k/\b=fP k/\ab w6 wr)) (fun _ _ s12 _=>nc-(intOf s12).toNat)
 case atStart=>exact⟨0,0,0,rfl,rfl,rfl,by omega,by omega,by omega,⟨HFS.out.1.symm,HFP.out.1.symm,zE _⟩⟩
 case round =>
  obtain⟨k,a,b,rfl,rfl,rfl,hk,ha,hb,HRR⟩:=hrel;obtain⟨wa,rfl⟩:=nm wr;have HR:Bx (ab w6 wa):=⟨HRR.out.2.2⟩
  clear i0;by_cases hkn:k<nc
  ·obtain⟨xt,xs,xq,xk,xct,xts,xtq,xlp,xlc,xlg,xlv,xstr,xch,xA,xn,xcc,HX,hcx,hix,hwx⟩:=au.read HC6.out HR.out.xt hkn;rw[yV]at hcx;have HCX:=zZ hcx;obtain⟨e0,e1,e2,e3,e4,e5,e6,e7,e8,e9,e10,e11,e12⟩:=hcx;have HIX:=zZ hix;clear hix hwx;by_cases hkd:xk=1;case neg =>
    have hk1:(xk != 1)=true:=by simpa using hkd
    go_wp2_with fail;go_roundw
    case rel=>exact⟨k+1,a,b,rfl,rfl,by go_num,by omega,by omega,by omega,⟨by rw[HFS.out.2.1 k _ HX.out,if_neg (by exact hkd),HRR.out.1];rfl,by rw[HFP.out.2.1 k _ HX.out hkd,HRR.out.2.1],HR.out⟩⟩
    case measure=>simp[intOf];omega
   subst hkd;obtain⟨sv,la,lb,lc,ld,h1,⟨h2,h3⟩,h4,h5,h6⟩:=HON.out k _ HX.out rfl;have HFK:Bx (fS (k+1)=fS k+1/\fP (k+1)=fP k+(if sv=1 then 1 else 0)):=⟨by rw[HFS.out.2.1 k _ HX.out,if_pos rfl],h6⟩
   have HCN:Bx (LM t.pgs ⟨xs,xq⟩ ng=(if sv=1 then 1 else 0)):=⟨by rw[HNG.out];exact h5⟩
   have HPQ:Bx (∀q∈t.pgs,q.scan=⟨xs,xq⟩->q.cand=lb/\q.page=lc/\q.cont=xct/\q.ch=xch):=⟨h4⟩
   have HST:Bx (∀wx,aK w.heap.size wx (.agg #[D AS ns cS,D AG ng cG]) t->Calls prog 38 #[.agg #[D AS ns cS,D AG ng cG],.agg #[B C xs,B C xq]] wx fun e w'=>e=.returned (.tuple #[.agg #[B C xs,B C xq,B C sv,B C la,B C lb,B C lc,B C ld],.bool true])/\ab wx w'):=⟨fun wx hx=>(mG _ t xs xq wx hx).mono (by rintro e w' ⟨⟨y,hy,rfl⟩,hw⟩;rw[show tU t.sts ⟨xs,xq⟩=_ from h1]at hy⊢;subst hy;exact⟨rfl,hw⟩)⟩
   clear h1 h4 h5 h6;obtain⟨i0,i1⟩:=(((HF6.out.at_ 1 rfl).ext HR.out)).p2 rfl;go_upto_region 14 with (fail)
   go_cut [13,14] (fun s13 s14 wx=>∃gs,s13=.pointer (some ⟨gs,0,none⟩)/\s14=.bool true/\Bx (aA wa wx [(gs,#[B C xs,B C xq,B C sv,B C la,B C lb,B C lc,B C ld],67)]))
   case first =>
     refine zQ 99 fun wd kS=>?_;have HF30:Bx (aA wa wd []):=⟨(aA.start wa).ext kS⟩
     refine zS 5 [(0,60),(1,61),(2,62),(3,63),(4,64)] kS ?_;iterate 5 refine zT ?_ (y:=by intro wk hk;obtain⟨_,_,_,_,_,_,_,_⟩:=zkc8 hk i0 i1 e0 e1 e2 e3 e4 e5;obtain⟨_,_,_,_,_,_,_⟩:=zkc7 hk e6 e7 e8 e9 e10 e11 e12;go_simp;try with_reducible rfl)
     refine zN (an 5 10 (by kernel_rfl) rfl rfl (fun K hK=>?_) (fun K hK=>?_))
     ·skip
      go_simp;refine (dN _ _ _ _ _ _ _ _ _ _ _ _ _ _ _ _).mono ?_;rintro e w31 ⟨rfl,hx⟩;have HF31:=bx (HF30.out.ext hx);clear hx;have k31:=HF31.out.xt;refine hK.out _ _ (fun _=>k31) ?_;clear hK K;try simp only[kA]
      refine an 6 10 (by kernel_rfl) rfl rfl (fun K hK=>?_) (fun K hK=>?_)
      ·skip
       go_simp;refine (HST.out _ (HI6.out.ext (HR.out.trans HF31.out.xt))).mono ?_;rintro e w32 ⟨rfl,hx⟩;have HF32:=bx (HF31.out.ext hx);clear hx;have k32:=HF32.out.xt;refine hK.out _ _ (fun _=>k32) ?_;clear hK K;try simp only[kA]
       refine zS 3 [(7,59),(8,67),(9,68)] k32 ?_;iterate 3 refine zT ?_ (y:=by intro wk hk;obtain⟨_,_,_,_,_,_,_,_⟩:=zkc8 hk i0 i1 e0 e1 e2 e3 e4 e5;obtain⟨_,_,_,_,_,_,_⟩:=zkc7 hk e6 e7 e8 e9 e10 e11 e12;go_simp;try with_reducible rfl)
       refine zN (zO 10 (fun K hK=>?_));go_simp;obtain⟨gs,hg⟩:=nm w32.heap.size;obtain⟨w33,hw33⟩:=nm ((w32.alloc (.cells #[B C 0,B C 0,B C 0,B C 0,B C 0,B C 0,B C 0] 67)):World);have HF33:Bx (aA wa w33 [(gs,#[B C 0,B C 0,B C 0,B C 0,B C 0,B C 0,B C 0],67)]):=⟨by rw[hw33];exact HF32.out.push _ _ hg.symm⟩
       rw[<-hw33,<-hg];clear hw33 hg;have k33:=HF33.out.xt;refine hK.out _ _ (fun _=>k33) ?_;clear hK K;try simp only[kA]
       obtain⟨j0,j1,j2,j3,j4,j5,j6⟩:=(HF33.out.at_ 0 rfl).p7 rfl;have f0:=(HF33.out.at_ 0 rfl).froz;have f1:=f0;have f2:=f0;have f3:=f0;have f4:=f0;have f5:=f0;have f6:=f0;refine zO 11 (fun K hK=>?_);go_simp;have hR:=HF33.out.setAll 0 rfl [B C xs,B C xq,B C sv,B C la,B C lb,B C lc,B C ld] rfl;have kR:=hR.xt;refine hK.out _ _ (fun _=>kR) ?_;clear hK K;try simp only[kA]
       refine zO 12 (fun K hK=>?_);go_simp;refine hK.out _ _ (fun _=>kR) ?_;clear hK K;try simp only[kA]
       refine zD ?_;go_wp2_with fail;go_meet
       exact⟨gs,rfl,rfl,⟨hR⟩⟩
      ·skip
       go_simp;obtain⟨gs,hg⟩:=nm w31.heap.size;obtain⟨w34,hw34⟩:=nm ((w31.alloc (.cells #[B C 0,B C 0,B C 0,B C 0,B C 0,B C 0,B C 0] 67)):World);have HF34:Bx (aA wa w34 [(gs,#[B C 0,B C 0,B C 0,B C 0,B C 0,B C 0,B C 0],67)]):=⟨by rw[hw34];exact HF31.out.push _ _ hg.symm⟩
       rw[<-hw34,<-hg];clear hw34 hg;have k34:=HF34.out.xt;refine hK.out _ _ (fun _=>k34) ?_;clear hK K;try simp only[kA]
       refine zO 6 (fun K hK=>?_);go_simp;refine (HST.out _ (HI6.out.ext (HR.out.trans HF34.out.xt))).mono ?_;rintro e w35 ⟨rfl,hx⟩;have HF35:=bx (HF34.out.ext hx);clear hx;have k35:=HF35.out.xt;refine hK.out _ _ (fun _=>k35) ?_;clear hK K;try simp only[kA]
       refine zS 3 [(7,59),(8,67),(9,68)] k35 ?_;iterate 3 refine zT ?_ (y:=by intro wk hk;obtain⟨_,_,_,_,_,_,_,_⟩:=zkc8 hk i0 i1 e0 e1 e2 e3 e4 e5;obtain⟨_,_,_,_,_,_,_⟩:=zkc7 hk e6 e7 e8 e9 e10 e11 e12;go_simp;try with_reducible rfl)
       refine zN ?_;obtain⟨j0,j1,j2,j3,j4,j5,j6⟩:=(HF35.out.at_ 0 rfl).p7 rfl;have f0:=(HF35.out.at_ 0 rfl).froz;have f1:=f0;have f2:=f0;have f3:=f0;have f4:=f0;have f5:=f0;have f6:=f0;refine zO 11 (fun K hK=>?_);go_simp;have hR:=HF35.out.setAll 0 rfl [B C xs,B C xq,B C sv,B C la,B C lb,B C lc,B C ld] rfl;have kR:=hR.xt;refine hK.out _ _ (fun _=>kR) ?_;clear hK K;try simp only[kA]
       refine zO 12 (fun K hK=>?_);go_simp;refine hK.out _ _ (fun _=>kR) ?_;clear hK K;try simp only[kA]
       refine zD ?_;go_wp2_with fail;go_meet
       exact⟨gs,rfl,rfl,⟨hR⟩⟩
     ·skip
      go_simp;obtain⟨gs,hg⟩:=nm wd.heap.size;obtain⟨w36,hw36⟩:=nm ((wd.alloc (.cells #[B C 0,B C 0,B C 0,B C 0,B C 0,B C 0,B C 0] 67)):World);have HF36:Bx (aA wa w36 [(gs,#[B C 0,B C 0,B C 0,B C 0,B C 0,B C 0,B C 0],67)]):=⟨by rw[hw36];exact HF30.out.push _ _ hg.symm⟩
      rw[<-hw36,<-hg];clear hw36 hg;have k36:=HF36.out.xt;refine hK.out _ _ (fun _=>k36) ?_;clear hK K;try simp only[kA]
      refine zO 5 (fun K hK=>?_);go_simp;refine (dN _ _ _ _ _ _ _ _ _ _ _ _ _ _ _ _).mono ?_;rintro e w37 ⟨rfl,hx⟩;have HF37:=bx (HF36.out.ext hx);clear hx;have k37:=HF37.out.xt;refine hK.out _ _ (fun _=>k37) ?_;clear hK K;try simp only[kA]
      refine zO 6 (fun K hK=>?_);go_simp;refine (HST.out _ (HI6.out.ext (HR.out.trans HF37.out.xt))).mono ?_;rintro e w38 ⟨rfl,hx⟩;have HF38:=bx (HF37.out.ext hx);clear hx;have k38:=HF38.out.xt;refine hK.out _ _ (fun _=>k38) ?_;clear hK K;try simp only[kA]
      refine zS 3 [(7,59),(8,67),(9,68)] k38 ?_;iterate 3 refine zT ?_ (y:=by intro wk hk;obtain⟨_,_,_,_,_,_,_,_⟩:=zkc8 hk i0 i1 e0 e1 e2 e3 e4 e5;obtain⟨_,_,_,_,_,_,_⟩:=zkc7 hk e6 e7 e8 e9 e10 e11 e12;go_simp;try with_reducible rfl)
      refine zN ?_;obtain⟨j0,j1,j2,j3,j4,j5,j6⟩:=(HF38.out.at_ 0 rfl).p7 rfl;have f0:=(HF38.out.at_ 0 rfl).froz;have f1:=f0;have f2:=f0;have f3:=f0;have f4:=f0;have f5:=f0;have f6:=f0;refine zO 11 (fun K hK=>?_);go_simp;have hR:=HF38.out.setAll 0 rfl [B C xs,B C xq,B C sv,B C la,B C lb,B C lc,B C ld] rfl;have kR:=hR.xt;refine hK.out _ _ (fun _=>kR) ?_;clear hK K;try simp only[kA]
      refine zO 12 (fun K hK=>?_);go_simp;refine hK.out _ _ (fun _=>kR) ?_;clear hK K;try simp only[kA]
      refine zD ?_;go_wp2_with fail;go_meet
      exact⟨gs,rfl,rfl,⟨hR⟩⟩
   case rest =>
   obtain⟨gs,rfl,rfl,HF7⟩:=hcut;obtain⟨w7,rfl⟩:=nm wc;have HR7:Bx (ab w6 w7):=⟨HR.out.trans HF7.out.xt⟩
   obtain⟨d0,d1,d2,d3,d4,d5,d6⟩:=(HF7.out.at_ 0 rfl).p7 rfl;clear i0 i1 e0 e1 e2 e3 e4 e5 e6 e7 e8 e9 e10 e11 e12;go_wp2_with fail;go_loopw [15,16] (fun s15 s16 wr=>∃j m:Nat,s15=B C m/\s16=B C j/\j<=ng/\m<=j/\Bx (m=LM t.pgs ⟨xs,xq⟩ j/\ab w7 wr)) (fun _ s16 _=>ng-(intOf s16).toNat)
   case atStart=>exact⟨0,0,rfl,rfl,by omega,by omega,⟨(LV _ _).symm,zE _⟩⟩
   case round =>
    obtain⟨j,m,rfl,rfl,hj,hm,HQ⟩:=hrel;have HR8:Bx (ab w6 wr):=⟨HR7.out.trans HQ.out.2⟩
    obtain⟨i0,i1⟩:=(((HF6.out.at_ 1 rfl).ext HR8.out)).p2 rfl;obtain⟨d0,d1,d2,d3,d4,d5,d6⟩:=(((HF7.out.at_ 0 rfl).ext HQ.out.2)).p7 rfl;by_cases hjn:j<ng
    ·obtain⟨bg,og,_,_,rfl,-⟩:=HG6.out.at_ hjn;obtain⟨pc,pg,pt,ps,pq,pch,pA,pm,pcc,HP,-,hpi,p0,p1,p2,p3,p4,p5⟩:=Ce.read HG6.out HR8.out hjn;go_upto_block 3 with (fail)
     go_cut [15] (fun s15 wx=>∃m2:Nat,s15=B C m2/\m2<=j+1/\Bx (m2=LM t.pgs ⟨xs,xq⟩ (j+1)/\ab w7 wx))
     case first =>
      obtain⟨gq,hgq⟩:=nm wr.heap.size;obtain⟨w9,hw9⟩:=nm ((wr.alloc (.cells #[B C pc,B C pg,B C pt,D pA pm pcc,B C ps,B C pq] 72)):World);have hx9:ab wr w9:=by rw[hw9];exact (zE _).alloc _
      have HR9:Bx (ab w6 w9):=⟨HR8.out.trans hx9⟩
      have HQ9:Bx (Bk w9 gq #[B C pc,B C pg,B C pt,D pA pm pcc,B C ps,B C pq] 72):=⟨by rw[hw9,hgq];exact Bk.new _ _ _⟩
      have HPI:Bx (ak w.heap.size w9 (D pA pm pcc) pch/\ak w.heap.size w9 (D xA xn xcc) xch):=⟨hpi.ext hx9,HIX.out.ext (HF7.out.xt.trans (HQ.out.2.trans hx9))⟩
      have HQX:Bx (ab w7 w9):=⟨HQ.out.2.trans hx9⟩
      go_upto_region 22 with (fail)
      rw[<-hw9,<-hgq];clear hw9 hgq hx9 hpi p0 p1 p2 p3 p4 p5 i0 i1 d0 d1 d2 d3 d4 d5 d6;obtain⟨e0,e1,e2,e3,e4,e5,e6,e7,e8,e9,e10,e11,e12⟩:=HCX.out.ext (HF7.out.xt.trans HQX.out);obtain⟨q0,q1,q2,q3,q4,q5⟩:=(HQ9.out).p6 rfl;have gI':=fC;have eI:=fun W=>jW ps pq xs xq W;go_cut [100] (fun s100 wx=>s100=.bool (decide (ps=xs/\pq=xq))/\Bx (ab w9 wx))
      case first =>
       refine zQ 99 fun wd kS=>?_;refine zS 6 [(0,93),(1,94),(2,95),(3,96),(4,97),(5,98)] kS ?_;iterate 6 refine zT ?_ (y:=by intro wk hk;obtain⟨_,_,_,_,_,_,_,_⟩:=zkc8 hk q4 q5 e0 e1 e2 e3 e4 e5;obtain⟨_,_,_,_,_,_,_⟩:=zkc7 hk e6 e7 e8 e9 e10 e11 e12;go_simp;try with_reducible rfl)
       refine zN (zO 6 (fun K hK=>?_));go_simp;refine (dN _ _ _ _ _ _ _ _ _ _ _ _ _ _ _ _).mono ?_;rintro e wb ⟨rfl,hx⟩;have kS2:ab w9 wb:=kS.trans hx;refine hK.out _ _ (fun _=>kS2) ?_;clear hK K;try simp only[kA]
       refine zS 1 [(7,100)] kS2 ?_;refine zT ?_ (y:=by intro wk hk;obtain⟨_,_,_,_,_,_,_,_⟩:=zkc8 hk q4 q5 e0 e1 e2 e3 e4 e5;obtain⟨_,_,_,_,_,_,_⟩:=zkc7 hk e6 e7 e8 e9 e10 e11 e12;go_simp;try with_reducible rfl);refine zN (zD ?_);go_wp2_with fail;go_meet
       exact⟨by simp,⟨kS2⟩⟩
      case rest =>
      obtain⟨rfl,HB9⟩:=hcut;obtain⟨wb,rfl⟩:=nm wc;clear eI q0 q1 q2 q3 q4 q5 e0 e1 e2 e3 e4 e5 e6 e7 e8 e9 e10 e11 e12;by_cases hid:ps=xs/\pq=xq
      ·obtain⟨hid1,hid2⟩:=hid;obtain rfl:=hid1.symm;obtain rfl:=hid2.symm;clear hid1 hid2;rw[show decide (xs=xs/\xq=xq)=true from by simp];obtain⟨h7,h8,h9,h10⟩:=HPQ.out _ (zW HP.out) rfl;simp only at h7 h8 h9 h10;obtain rfl:=h7.symm;obtain rfl:=h8.symm;obtain rfl:=h9.symm;obtain rfl:=h10.symm;clear h7 h8 h9 h10;have HM:Bx (m+1=LM t.pgs ⟨xs,xq⟩ (j+1)):=⟨by rw[LO HP.out,if_pos rfl,HQ.out.1]⟩
       obtain⟨e0,e1,e2,e3,e4,e5,e6,e7,e8,e9,e10,e11,e12⟩:=HCX.out.ext (HF7.out.xt.trans (HQX.out.trans HB9.out));obtain⟨q0,q1,q2,q3,q4,q5⟩:=((HQ9.out.ext HB9.out)).p6 rfl;obtain⟨d0,d1,d2,d3,d4,d5,d6⟩:=(((HF7.out.at_ 0 rfl).ext (HQX.out.trans HB9.out))).p7 rfl;have n1:(xct != xct)=false:=by simp
       have n2:(lb != lb)=false:=by simp
       have n3:(lc != lc)=false:=by simp
       go_upto_region 24 with (fail)
       refine zQ 99 fun wd kS=>?_;refine zS 16 [(0,103),(1,104),(2,105),(3,106),(4,107),(5,108),(6,109),(7,110),(8,111),(9,112),(10,113),(11,114),(12,115),(13,116),(14,117),(15,118)] kS ?_;iterate 16 refine zT ?_ (y:=by intro wk hk;obtain⟨_,_,_,_,_,_,_,_⟩:=zkc8 hk q0 q1 q2 q3 e5 e6 d4 d5;go_simp;try with_reducible rfl)
       refine zN (zO 16 (fun K hK=>?_));go_simp;refine (rP _ _ xch xch _ (HPI.out.1.ext (HB9.out.trans kS)) (HPI.out.2.ext (HB9.out.trans kS))).mono ?_;rintro e we ⟨rfl,hx⟩;have kS2:ab wb we:=kS.trans hx;rw[show decide (xch=xch)=true from decide_eq_true rfl];refine hK.out _ _ (fun _=>kS2) ?_;clear hK K;try simp only[kA]
       refine zS 18 [(17,120),(18,121),(19,122),(20,123),(21,124),(22,125),(23,126),(24,127),(25,128),(26,129),(27,130),(28,131),(29,132),(30,133),(31,134),(32,135),(33,136),(34,137)] kS2 ?_;iterate 18 refine zT ?_ (y:=by intro wk hk;obtain⟨_,_,_,_,_,_,_,_⟩:=zkc8 hk q0 q1 q2 q3 e5 e6 d4 d5;go_simp;try with_reducible rfl)
       refine zN (zD ?_);have HR10:Bx (ab w7 we):=⟨HQX.out.trans (HB9.out.trans kS2)⟩
       clear kS kS2 hx n1 n2 n3 q0 q1 q2 q3 q4 q5 d0 d1 d2 d3 d4 d5 d6 e0 e1 e2 e3 e4 e5 e6 e7 e8 e9 e10 e11 e12;go_wp2_with fail;go_meet
       have hh:=HM.out;refine⟨m+1,by go_num,by omega,⟨?_,HR10.out⟩⟩;exact hh
      ·rw[decide_eq_false hid];have HM:Bx (m=LM t.pgs ⟨xs,xq⟩ (j+1)):=⟨by rw[LO HP.out,if_neg (fun h=>hid (by injection h with h h';exact⟨h,h'⟩)),HQ.out.1];rfl⟩
       go_wp2_with fail;go_meet
       have hh:=HM.out;refine⟨m,rfl,by omega,⟨?_,HQX.out.trans HB9.out⟩⟩;exact hh
     case rest =>
     obtain⟨m2,rfl,hm2,HM2⟩:=hcut;obtain⟨we,rfl⟩:=nm wc;go_wp2_with fail;go_roundw
     case rel =>have hh:=HM2.out;refine⟨j+1,m2,rfl,by go_num,by omega,by omega,⟨?_⟩⟩;exact hh
     case measure=>simp[intOf];omega
    ·obtain rfl:j=ng:=by omega
     by_cases hs1:sv=1
     ·subst hs1;obtain rfl:m=1:=by rw[HQ.out.1,HCN.out,if_pos rfl]
      go_wp2_with fail;go_roundw
      case rel=>exact⟨k+1,a+1,b+1,by go_num,by go_num,by go_num,by omega,by omega,by omega,⟨by rw[HFK.out.1,HRR.out.1],by rw[HFK.out.2,if_pos rfl,HRR.out.2.1],HR8.out⟩⟩
      case measure=>simp[intOf];omega
     ·obtain rfl:m=0:=by rw[HQ.out.1,HCN.out,if_neg hs1]
      have hs2:(sv==1)=false:=by simpa using hs1
      go_wp2_with fail;go_roundw
      case rel=>exact⟨k+1,a+1,b,by go_num,rfl,by go_num,by omega,by omega,by omega,⟨by rw[HFK.out.1,HRR.out.1],by rw[HFK.out.2,if_neg hs1,HRR.out.2.1];rfl,HR8.out⟩⟩
      case measure=>simp[intOf];omega
  ·obtain rfl:k=nc:=by omega
   obtain rfl:a=ns:=by rw[HRR.out.1,HFS.out.2.2]
   obtain rfl:b=ng:=by rw[HRR.out.2.1,HFP.out.2.2]
   clear HRR HFS HFP HON;go_wp2_with fail;go_loopw [18] (fun s18 wr=>∃k k1:Nat,s18=B C k1/\Bx (k1=k+1)/\(k+1<=b\/k=0)/\Bx (ab wa wr)) (fun s18 _=>b-(intOf s18).toNat)
   case atStart=>exact⟨0,1,rfl,⟨rfl⟩,.inr rfl,⟨zE _⟩⟩
   case round =>
    obtain⟨k',k1,rfl,HK1,hkk,HQ⟩:=hrel;have hk1':k1<=b\/k'=0:=by have:=HK1.out;omega
    have HR8:Bx (ab w6 wr):=⟨HR.out.trans HQ.out⟩
    obtain⟨i0,i1⟩:=(((HF6.out.at_ 1 rfl).ext HR8.out)).p2 rfl;by_cases hjn:k1<b
    ·obtain⟨bg,og,_,_,rfl,-⟩:=HG6.out.at_ hjn;have hjn':k'<b:=by have:=HK1.out;omega
     have hsub:IntKind.i64.wrap ((k1:Int)-1)=(k':Int):=by rw[yN _ (by omega)];have:=HK1.out;omega
     obtain⟨xc,xg,xt,xs,xq,xch,xA,xm,xcc,HX,-,-,x0,x1,x2,x3,x4,x5⟩:=Ce.read HG6.out HR8.out hjn';obtain⟨yc,yg,yt,ys,yq,ych,yA,ym,ycc,HY,-,-,y0,y1,y2,y3,y4,y5⟩:=Ce.read HG6.out HR8.out hjn;have HLT:=HAS.out.at_ HX.out HY.out (by have:=HK1.out;omega);have HLL:=zZ HLT;clear HLT;go_upto_region 33 with (fail)
     go_cut [19,20] (fun s19 s20 wx=>∃gA gB,s19=.pointer (some ⟨gA,0,none⟩)/\s20=.pointer (some ⟨gB,0,none⟩)/\Bx (ab wr wx/\Bk wx gA #[B C xc,B C xg,B C xt,D xA xm xcc,B C xs,B C xq] 72/\Bk wx gB #[B C yc,B C yg,B C yt,D yA ym ycc,B C ys,B C yq] 72))
     case first =>
      refine zQ 99 fun wd kS=>?_;have HF30:Bx (aA wr wd []):=⟨(aA.start wr).ext kS⟩
      refine zS 11 [(0,160),(1,161),(2,162),(3,163),(4,164),(5,165),(6,166),(7,167),(8,168),(9,169),(10,170)] kS ?_;iterate 11 refine zT ?_ (y:=by intro wk hk;obtain⟨_,_,_,_,_,_,_,_⟩:=zkc8 hk i1 x0 y0 x1 y1 x2 y2 x3;obtain⟨_,_,_,_,_⟩:=zkc5 hk y3 x4 y4 x5 y5;go_simp;try with_reducible rfl)
      refine zN (an 11 12 (by kernel_rfl) rfl rfl (fun K hK=>?_) (fun K hK=>?_))
      ·skip
       go_simp;obtain⟨gA,hg⟩:=nm wd.heap.size;obtain⟨wa,hwa⟩:=nm ((wd.alloc (.cells #[B C 0,B C 0,B C 0,D none 0 0,B C 0,B C 0] 72)):World);have HFwa:Bx (aA wr wa [(gA,#[B C 0,B C 0,B C 0,D none 0 0,B C 0,B C 0],72)]):=⟨by rw[hwa];exact HF30.out.push _ _ hg.symm⟩
       rw[<-hwa,<-hg];clear hwa hg;have kwa:=HFwa.out.xt;refine hK.out _ _ (fun _=>kwa) ?_;clear hK K;try simp only[kA]
       refine zO 12 (fun K hK=>?_);go_simp;obtain⟨gB,hg⟩:=nm wa.heap.size;obtain⟨wb,hwb⟩:=nm ((wa.alloc (.cells #[B C 0,B C 0,B C 0,D none 0 0,B C 0,B C 0] 72)):World);have HFwb:Bx (aA wr wb [(gA,#[B C 0,B C 0,B C 0,D none 0 0,B C 0,B C 0],72),(gB,#[B C 0,B C 0,B C 0,D none 0 0,B C 0,B C 0],72)]):=⟨by rw[hwb];exact HFwa.out.push _ _ hg.symm⟩
       rw[<-hwb,<-hg];clear hwb hg;have kwb:=HFwb.out.xt;refine hK.out _ _ (fun _=>kwb) ?_;clear hK K;try simp only[kA]
       obtain⟨j0,j1,j2,j3,j4,j5⟩:=(HFwb.out.at_ 0 rfl).p6 rfl;have z0:=(HFwb.out.at_ 0 rfl).froz;have z1:=z0;have z2:=z0;have z3:=z0;have z4:=z0;have z5:=z0;refine zO 13 (fun K hK=>?_);go_simp;obtain⟨wS,hwS⟩:=nm ((be wb gA 0 [B C xc,B C xg,B C xt,D xA xm xcc,B C xs,B C xq]):World);have HFS:Bx (aA wr wS [(gA,#[B C xc,B C xg,B C xt,D xA xm xcc,B C xs,B C xq],72),(gB,#[B C 0,B C 0,B C 0,D none 0 0,B C 0,B C 0],72)]):=⟨by rw[hwS];exact HFwb.out.setAll 0 rfl [B C xc,B C xg,B C xt,D xA xm xcc,B C xs,B C xq] rfl⟩
       change K _ (be wb gA 0 [B C xc,B C xg,B C xt,D xA xm xcc,B C xs,B C xq]);rw[<-hwS];have kS9:=HFS.out.xt;refine hK.out _ _ (fun _=>kS9) ?_;clear hK K;try simp only[kA]
       clear hwS j0 z0 j1 z1 j2 z2 j3 z3 j4 z4 j5 z5;obtain⟨j0,j1,j2,j3,j4,j5⟩:=(HFS.out.at_ 1 rfl).p6 rfl;have z0:=(HFS.out.at_ 1 rfl).froz;have z1:=z0;have z2:=z0;have z3:=z0;have z4:=z0;have z5:=z0;refine zO 14 (fun K hK=>?_);go_simp;have hR:=HFS.out.setAll 1 rfl [B C yc,B C yg,B C yt,D yA ym ycc,B C ys,B C yq] rfl;have kT:=hR.xt;refine hK.out _ _ (fun _=>kT) ?_;clear hK K;try simp only[kA]
       refine zD ?_;go_wp2_with fail;go_meet
       exact⟨gA,gB,rfl,rfl,⟨⟨hR.xt,hR.at_ 0 rfl,hR.at_ 1 rfl⟩⟩⟩
      ·skip
       go_simp;obtain⟨gB,hg⟩:=nm wd.heap.size;obtain⟨wa,hwa⟩:=nm ((wd.alloc (.cells #[B C 0,B C 0,B C 0,D none 0 0,B C 0,B C 0] 72)):World);have HFwa:Bx (aA wr wa [(gB,#[B C 0,B C 0,B C 0,D none 0 0,B C 0,B C 0],72)]):=⟨by rw[hwa];exact HF30.out.push _ _ hg.symm⟩
       rw[<-hwa,<-hg];clear hwa hg;have kwa:=HFwa.out.xt;refine hK.out _ _ (fun _=>kwa) ?_;clear hK K;try simp only[kA]
       refine zO 11 (fun K hK=>?_);go_simp;obtain⟨gA,hg⟩:=nm wa.heap.size;obtain⟨wb,hwb⟩:=nm ((wa.alloc (.cells #[B C 0,B C 0,B C 0,D none 0 0,B C 0,B C 0] 72)):World);have HFwb:Bx (aA wr wb [(gB,#[B C 0,B C 0,B C 0,D none 0 0,B C 0,B C 0],72),(gA,#[B C 0,B C 0,B C 0,D none 0 0,B C 0,B C 0],72)]):=⟨by rw[hwb];exact HFwa.out.push _ _ hg.symm⟩
       rw[<-hwb,<-hg];clear hwb hg;have kwb:=HFwb.out.xt;refine hK.out _ _ (fun _=>kwb) ?_;clear hK K;try simp only[kA]
       obtain⟨j0,j1,j2,j3,j4,j5⟩:=(HFwb.out.at_ 1 rfl).p6 rfl;have z0:=(HFwb.out.at_ 1 rfl).froz;have z1:=z0;have z2:=z0;have z3:=z0;have z4:=z0;have z5:=z0;refine zO 13 (fun K hK=>?_);go_simp;obtain⟨wS,hwS⟩:=nm ((be wb gA 0 [B C xc,B C xg,B C xt,D xA xm xcc,B C xs,B C xq]):World);have HFS:Bx (aA wr wS [(gB,#[B C 0,B C 0,B C 0,D none 0 0,B C 0,B C 0],72),(gA,#[B C xc,B C xg,B C xt,D xA xm xcc,B C xs,B C xq],72)]):=⟨by rw[hwS];exact HFwb.out.setAll 1 rfl [B C xc,B C xg,B C xt,D xA xm xcc,B C xs,B C xq] rfl⟩
       change K _ (be wb gA 0 [B C xc,B C xg,B C xt,D xA xm xcc,B C xs,B C xq]);rw[<-hwS];have kS9:=HFS.out.xt;refine hK.out _ _ (fun _=>kS9) ?_;clear hK K;try simp only[kA]
       clear hwS j0 z0 j1 z1 j2 z2 j3 z3 j4 z4 j5 z5;obtain⟨j0,j1,j2,j3,j4,j5⟩:=(HFS.out.at_ 0 rfl).p6 rfl;have z0:=(HFS.out.at_ 0 rfl).froz;have z1:=z0;have z2:=z0;have z3:=z0;have z4:=z0;have z5:=z0;refine zO 14 (fun K hK=>?_);go_simp;have hR:=HFS.out.setAll 0 rfl [B C yc,B C yg,B C yt,D yA ym ycc,B C ys,B C yq] rfl;have kT:=hR.xt;refine hK.out _ _ (fun _=>kT) ?_;clear hK K;try simp only[kA]
       refine zD ?_;go_wp2_with fail;go_meet
       exact⟨gA,gB,rfl,rfl,⟨⟨hR.xt,hR.at_ 1 rfl,hR.at_ 0 rfl⟩⟩⟩
     case rest =>
     obtain⟨gA,gB,rfl,rfl,HAB⟩:=hcut;obtain⟨w9,rfl⟩:=nm wc;have HR9:Bx (ab wa w9):=⟨HQ.out.trans HAB.out.1⟩
     clear i0 i1 x0 x1 x2 x3 x4 x5 y0 y1 y2 y3 y4 y5;obtain⟨x0,x1,x2,x3,x4,x5⟩:=(HAB.out.2.1).p6 rfl;obtain⟨y0,y1,y2,y3,y4,y5⟩:=(HAB.out.2.2).p6 rfl;have hlt:xc<yc\/(xc=yc/\xg<yg):=by have:=HLL.out;simpa[dW] using this
     rcases hlt with hlt|⟨rfl,hlt⟩
     ·have n1:(xc==yc)=false:=by simp;omega
      go_wp2_with fail;go_roundw
      case rel=>exact⟨k'+1,k1+1,by go_num,⟨by rw[HK1.out]⟩,.inl (by have:=HK1.out;omega),⟨HR9.out⟩⟩
      case measure=>simp[intOf];omega
     ·have n1:(xc==xc)=true:=by simp
      go_wp2_with fail;go_roundw
      case rel=>exact⟨k'+1,k1+1,by go_num,⟨by rw[HK1.out]⟩,.inl (by have:=HK1.out;omega),⟨HR9.out⟩⟩
      case measure=>simp[intOf];omega
    ·have n1:((a:Int)==(a:Int))=true:=by simp
     have n2:((b:Int)==(b:Int))=true:=by simp
     go_wp2_with fail;refine (cN _ (HF6.out.tb.ext HR8.out)).mono ?_;rintro e w9 ⟨rfl,hx9⟩;go_wp2_with fail;go_ret
     exact⟨rfl,((HF6.out.fin HE.out).trans HR8.out).trans hx9⟩
end Go.Proofs.YtkaajgoeahahpaaGreatDoor

