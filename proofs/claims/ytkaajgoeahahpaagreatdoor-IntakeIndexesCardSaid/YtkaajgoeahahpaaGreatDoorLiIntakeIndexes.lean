import Derived.Test.YtkaajgoeahahpaaGreatDoorRefE
import Derived.Test.YtkaajgoeahahpaaGreatDoorAwkX
import Derived.Test.YtkaajgoeahahpaaGreatDoorSitU
import Derived.Test.YtkaajgoeahahpaaGreatDoorIdxL
set_option linter.all false
set_option maxRecDepth 100000
set_option maxHeartbeats 0
namespace Go.Proofs.YtkaajgoeahahpaaGreatDoor
open Go.Value renaming int→A,slice→C
open Go.IntKind renaming i64→B
open Go.RowKit _root_.Go.Proofs.Tryz
theorem Lx(w:World)(g:Nat)(t:TypeId)(h:Bk w g #[.string ⟨#[63]⟩,.string ⟨#[]⟩,.string ⟨#[48,49]⟩,.string ⟨#[120]⟩] t)(r:Nat)(hr:r<4):∃str:List UInt8,w.cell? ⟨g,r,none⟩=some (.string (ba str))/\str.length<=2:=by
 rcases r with _|_|_|_|r
 ·exact⟨[63],h.cell rfl,by simp⟩
 ·exact⟨[],h.cell rfl,by simp⟩
 ·exact⟨[48,49],h.cell rfl,by simp⟩
 ·exact⟨[120],h.cell rfl,by simp⟩
 ·omega
theorem mN(v0:Value)(l0:List Int)(a1:Int)(w:World)(h0:ak w.heap.size w v0 l0)(h1:aU a1)(hT:cK w) :
  Calls prog 14 #[v0,A B a1] w fun e w'=>e=.returned (.bool true)/\ab w w':=by
 have HA1:=zZ h1;clear h1;have H0:=zZ h0;have HB:=zZ hT;clear h0 hT;go_enter func14,ntmps14
 go_wp2_with fail;refine (ib _ l0 _ H0.out).mono ?_;rintro e w1 ⟨rfl,HT1,HE1⟩;have HE:=zZ HE1;have HF1:Bx (LF w.heap.size w1 w1 []):=⟨LF.start HT1 (HB.out.ext HE1) HB.out.lt⟩
 clear HT1 HE1;go_wp2_with fail;refine (dp _ 0 _ HF1.out.fr.tp (by omega) (by omega)).mono ?_;rintro e w2 ⟨v2,rfl,⟨s,hsv,hwf,hok⟩,HT2,HX2⟩;have hs2:=hsv.isSit hwf HF1.out.fr.hp;have HWF:=zZ hwf;obtain⟨AP,nP,cP,AB,nB,cB,AX,nX,cX,rfl⟩:=hs2.op;have HOK:=zZ (hok rfl);obtain⟨gS,hgS⟩:=nm w2.heap.size;obtain⟨w3,hw3⟩:=nm ((w2.alloc (.cells #[A B s.num,C AP nP cP,C AB nB cB,C AX nX cX] 27)):World);have HF3:Bx (LF w.heap.size w1 w3 [(gS,#[A B s.num,C AP nP cP,C AB nB cB,C AX nX cX],27)]):=⟨by rw[hw3];exact (HF1.out.step HX2 HT2).push _ _ hgS.symm⟩
 have HS3:Bx (aR w.heap.size w3 (.agg #[A B s.num,C AP nP cP,C AB nB cB,C AX nX cX]) s):=⟨by rw[hw3];exact hs2.ext ((zE _).alloc _)⟩
 clear hs2 hsv hwf hok;go_upto_region 3 with (fail)
 rw[<-hw3,<-hgS];clear hw3 hgS HT2 HX2 HF1;obtain⟨z0,z1,z2,z3⟩:=(HF3.out.at_ 0 rfl).p4 rfl;go_wp2_with fail;refine (E2 _ _ s _ HF3.out.fr.tp HS3.out HOK.out).mono ?_;rintro e w4 ⟨v4,rfl,⟨ys,hrow,hwho⟩,HT4,HX4⟩;obtain⟨AC,cC,rfl⟩:=hrow.form;obtain⟨l,hl⟩:=nm (ys.map Prod.fst);obtain⟨nl,hnl⟩:=nm ys.length;have hll:l.length=nl:=by rw[hl,hnl,zJ]
 rw[<-hl]at hwho;rw[<-hnl]at hrow⊢;have HWH:=zZ hwho;have hn60:nl<=60:=by rw[<-hll];exact IE hwho HWF.out
 have HLN:Bx (l.length=nl/\ys.length=nl/\ys.map Prod.fst=l):=⟨hll,hnl.symm,hl.symm⟩
 have HW4:Bx (ar w3.heap.size w4 (C AC nl cC) ys):=⟨hrow⟩
 have HF4:=bx (HF3.out.step HX4 HT4);have HX34:Bx (XT w.heap.size w3 w4):=⟨HX4⟩
 clear hrow hl hnl hll hwho HT4 HX4;clear z0 z1 z2 z3;by_cases hl0:0<nl;case neg =>
  obtain rfl:nl=0:=by omega
  go_wp2_with fail;refine (cN _ HF4.out.tb).mono ?_;rintro e w5 ⟨rfl,hx5⟩;go_wp2_with fail;go_ret
  exact⟨rfl,(HF4.out.fin HE.out).trans hx5⟩
 obtain⟨g,hg⟩:∃g,AC=some ⟨g,0,none⟩:=by obtain⟨g,cap,e,-,-⟩:=di HW4.out.own.own (by have:=HLN.out.2.1;omega);injection e with e;exact⟨g,e⟩
 subst hg;have hg3:w3.heap.size<=g:=(rm HW4.out.own.own).elim fun _ h=>h.2;have hbd:0<=eW a1 nl/\eW a1 nl<nl:=⟨vn _ _,vy _ _ (by omega)⟩
 obtain⟨j,hj⟩:=zG hbd.1;have hjn:j<nl:=by have:=hbd.2;omega
 have HJ:=zZ hj;have HG3:=zZ hg3;clear hbd hj hg3;go_wp2_with fail;refine (qb _ _ _ HA1.out.1 HA1.out.2 (by omega)).mono ?_;rintro e w5 ⟨rfl,rfl⟩;rw[HJ.out];have HC4:Bx (au w.heap.size w4 (C (some ⟨g,0,none⟩) nl cC) l):=⟨by have h:=HW4.out.isCs HF3.out.lt;rw[HLN.out.2.2]at h;exact h⟩
 obtain⟨xt,xs,xq,xk,xct,xts,xtq,xlp,xlc,xlg,xlv,xstr,xch,xA,xn,xcc,HX,hcx,-,hxw⟩:=au.read HC4.out (XT.refl w.heap.size w4) hjn;rw[yV]at hcx;have HXW:=zZ hxw;clear hxw;obtain⟨e0,e1,e2,e3,e4,e5,e6,e7,e8,e9,e10,e11,e12⟩:=hcx;have HYJ:Bx (∃u,ys[j]?=some (⟨⟨xt,xs,xq⟩,xk,xstr,xct,xch,⟨xts,xtq⟩,⟨xlp,xlc,xlg,xlv⟩⟩,u)):=⟨by have h:=HX.out;rw[<-HLN.out.2.2,zP,yO]at h;obtain⟨⟨y,u⟩,h1,h2⟩:=h;simp only at h2;subst h2;exact⟨u,h1⟩⟩
 obtain⟨⟨la,lb,lc,ld⟩,hlab⟩:∃z:cJ,z=labR ⟨⟨xt,xs,xq⟩,xk,xstr,xct,xch,⟨xts,xtq⟩,⟨xlp,xlc,xlg,xlv⟩⟩:=⟨_,rfl⟩
 have HLB:=zZ hlab;have HL0:Bx (aQ l ⟨xs,xq⟩=(⟨la,lb,lc,ld⟩,0)):=⟨by rw[hlab];exact HWH.out.cleanL.label (zW HX.out)⟩
 have HLW:=zZ (jo (nk HC4.out) HL0.out);clear hlab;go_wp2_with fail;refine (dN _ _ _ _ _ _ _ _ _ _ _ _ _ _ _ _).mono ?_;rintro e wa ⟨rfl,hxa⟩;go_wp2_with fail;refine (mK _ l xs xq _ (HF4.out.tb.ext hxa) (bj.ext HC4.out (bR.stab _) hxa)).mono ?_;rintro e wb ⟨ya,yb,yc,yd,st,rfl,h2,hxb⟩;obtain⟨⟨rfl,rfl,rfl,rfl⟩,rfl⟩:(la=ya/\lb=yb/\lc=yc/\ld=yd)/\0=st:=by rw[HL0.out]at h2;injection h2 with h2 h3;injection h2 with h4 h5 h6 h7;exact⟨⟨h4,h5,h6,h7⟩,h3⟩
 obtain⟨gL,hgL⟩:=nm wb.heap.size;obtain⟨w6,hw6⟩:=nm ((wb.alloc (.cells #[A B la,A B lb,A B lc,A B ld] 45)):World);have hx46:ab w4 w6:=by rw[hw6];exact (hxa.trans hxb).alloc _
 have HF6:Bx (LF w.heap.size w1 w6 [(gS,#[A B s.num,C AP nP cP,C AB nB cB,C AX nX cX],27),(gL,#[A B la,A B lb,A B lc,A B ld],45)]):=⟨by rw[hw6];exact (HF4.out.ext (hxa.trans hxb)).push _ _ hgL.symm⟩
 have HGL:Bx (w4.heap.size<=gL):=⟨by rw[hgL];exact (hxa.trans hxb).size⟩
 have HW6:=bx (HW4.out.ext hx46);have HX36:Bx (XT w.heap.size w3 w6):=⟨HX34.out.trans hx46.xt⟩
 have HG4:Bx (g<w4.heap.size):=⟨(rm HW4.out.own.own).elim fun _ h=>h.1.lt⟩
 clear h2 hxa hxb hx46 HL0 HC4;go_upto_region 8 with (fail)
 rw[<-hw6,<-hgL];clear hw6 hgL HF4 HW4 HX34 e0 e1 e2 e3 e4 e5 e6 e7 e8 e9 e10 e11 e12;obtain⟨gz,hgz⟩:=nm w6.heap.size;obtain⟨w7,hw7⟩:=nm ((w6.alloc (.cells #[.string ⟨#[63]⟩,.string ⟨#[]⟩,.string ⟨#[48,49]⟩,.string ⟨#[120]⟩] 9)):World);have hx67:ab w6 w7:=by rw[hw7];exact (zE _).alloc _
 have HF7:Bx (LF w.heap.size w1 w7 [(gS,#[A B s.num,C AP nP cP,C AB nB cB,C AX nX cX],27),(gL,#[A B la,A B lb,A B lc,A B ld],45),(gz,#[.string ⟨#[63]⟩,.string ⟨#[]⟩,.string ⟨#[48,49]⟩,.string ⟨#[120]⟩],9)]):=⟨by rw[hw7];exact HF6.out.push _ _ hgz.symm⟩
 go_wp2_with fail;rw[<-hw7,<-hgz];clear hw7 hgz;refine (am _ 4 _ HF7.out.fr.tp (by omega)).mono ?_;rintro e w8 ⟨v8,rfl,⟨r,rfl,hr0,hr1⟩,HT8,HX8⟩;obtain⟨r,rfl⟩:=zG hr0;have hr4:r<4:=by omega
 have HF8:=bx (HF7.out.step HX8 HT8);have HW8:Bx (ar w3.heap.size w8 (C (some ⟨g,0,none⟩) nl cC) ys):=⟨(HW6.out.ext hx67).xt HX8 HF3.out.lt⟩
 have HX38:Bx (XT w.heap.size w3 w8):=⟨(HX36.out.trans hx67.xt).trans HX8⟩
 obtain⟨str2,x0,hs2⟩:=Lx w8 gz _ (HF8.out.at_ 2 rfl) r hr4;obtain⟨c',A',cc',-,-,-,-,-,-,-,q4,-⟩:=HW8.out.cells (k:=j) (by have:=HLN.out.2.1;omega);obtain⟨cur,hbk,-⟩:=rm HW8.out.own.own;have f4:=hbk.froz (j*13+4);have HBK:=zZ hbk;clear hbk hr0 hr1 HT8 HX8 HF7 HW6 HX36 hx67 HF6;go_upto_region 9 with (fail)
 obtain⟨l2,hl2⟩:=nm (gX l j ⟨⟨xt,xs,xq⟩,xk,xstr,xct,xch,⟨xts,xtq⟩,⟨xlp,xlc,xlg,xlv⟩⟩ str2);have hx89:ab w3 w3:=zE _;obtain⟨w9,hw9⟩:=nm ((w8.setCell ⟨g,j*13+4,none⟩ (.string (ba str2))):World);have HX39:Bx (XT w.heap.size w3 w9):=⟨by rw[hw9];exact HX38.out.setNew HG3.out _⟩
 have HC9:Bx (au w.heap.size w9 (C (some ⟨g,0,none⟩) nl cC) l2):=⟨by obtain⟨u,hu⟩:=HYJ.out;have h:=(HW8.out.setStr hu hjn (by omega:str2.length<=1000)).isCs HF3.out.lt;rw[BF,HLN.out.2.2]at h;rw[hw9,hl2];exact h⟩
 have HF9:Bx (LF w.heap.size w1 w9 [(gS,#[A B s.num,C AP nP cP,C AB nB cB,C AX nX cX],27),(gL,#[A B la,A B lb,A B lc,A B ld],45)]):=⟨by
  rw[hw9];have h1:=HF3.out.fr.bl.lt 0 rfl;have h2:=HG3.out;have h3:=HG4.out;have h4:=HGL.out;have h5:=HF3.out.fr.xt.size
  refine (HF8.out.take 2).far (fun k x hx=>?_) (by simp only;omega) _;rcases k with _|_|k<;>simp at hx<;>subst hx<;>simp only<;>omega⟩
 have HS9:=bx (HS3.out.xt HX39.out);obtain⟨p1,p2,p3,p4,p5⟩:=Jl HWH.out HX.out (str:=str2) (by omega);rw[<-hl2]at p2 p3 p4 p5;rw[<-HLB.out]at p4;have HL2:Bx (l2.length=nl/\l2[j]?=some ⟨⟨xt,xs,xq⟩,xk,str2,xct,xch,⟨xts,xtq⟩,⟨xlp,xlc,xlg,xlv⟩⟩):=⟨by rw[hl2];unfold gX;exact⟨by rw[yF];exact HLN.out.1,by rw[yD,if_pos rfl,if_pos (by have:=HLN.out.1;omega)]⟩⟩
 have HCK:Bx (aC s=0):=⟨iL.2 HOK.out⟩
 obtain⟨t1,ht1⟩:=nm (cQ s (ay l2));obtain⟨t2,ht2⟩:=nm (cQ s (ay (l2++[mL ⟨⟨xt,xs,xq⟩,xk,xstr,xct,xch,⟨xts,xtq⟩,⟨xlp,xlc,xlg,xlv⟩⟩])));rw[<-ht1]at p2 p3;rw[<-ht2]at p4 p5;have HQ1:=zZ p2;have HQ2:=zZ p4;have HN1:Bx (t1.pgs.length+1=nl/\t2.pgs.length=nl):=⟨by rw[p3,p5];exact⟨HLN.out.1,HLN.out.1⟩⟩
 have HT1:=zZ ht1;have HT2:=zZ ht2;clear p1 p2 p3 p4 p5 ht1 ht2 hx89;have HST1:Bx (∀v wx,aK w.heap.size wx v t1->Calls prog 38 #[v,.agg #[A B xs,A B xq]] wx fun e w'=>e=.returned (.tuple #[.agg #[A B xs,A B xq,A B 4,A B 0,A B 0,A B 0,A B 0],.bool true])/\ab wx w'):=⟨fun v wx hx=>(mG _ t1 xs xq wx hx).mono (by rintro e w' ⟨⟨y,hy,rfl⟩,hw⟩;rw[show tU t1.sts ⟨xs,xq⟩=_ from HQ1.out]at hy⊢;subst hy;exact⟨rfl,hw⟩)⟩
 have HST2:Bx (∀v wx,aK w.heap.size wx v t2->Calls prog 38 #[v,.agg #[A B xs,A B xq]] wx fun e w'=>e=.returned (.tuple #[.agg #[A B xs,A B xq,A B 1,A B la,A B lb,A B lc,A B ld],.bool true])/\ab wx w'):=⟨fun v wx hx=>(mG _ t2 xs xq wx hx).mono (by rintro e w' ⟨⟨y,hy,rfl⟩,hw⟩;rw[show tU t2.sts ⟨xs,xq⟩=_ from HQ2.out]at hy⊢;subst hy;exact⟨rfl,hw⟩)⟩
 rw[<-hw9];clear hw9 hl2 HF8 HW8 HX38 HBK HYJ q4 f4 x0 HX39 HF3 HS3;obtain⟨z0,z1,z2,z3⟩:=(HF9.out.at_ 0 rfl).p4 rfl;go_wp2_with fail;refine (aW _ _ s l2 _ HF9.out.lt HF9.out.tb HS9.out HC9.out (by have:=HL2.out.1;omega)).mono ?_;rintro e wb ⟨⟨vI,rfl,hI⟩,hxs⟩;rw[show rM s l2=t1 from by rw[HT1.out];exact if_pos HCK.out]at hI;rw[HCK.out];obtain⟨AS,cS,AG,cG,rfl⟩:=hI.op;obtain⟨gI,hggI⟩:=nm wb.heap.size;obtain⟨w10,hw10⟩:=nm ((wb.alloc (.cells #[C AS t1.sts.length cS,C AG t1.pgs.length cG] 59)):World);have hx10:ab w9 w10:=by rw[hw10];exact hxs.alloc _
 have HF10:Bx (LF w.heap.size w1 w10 [(gS,#[A B s.num,C AP nP cP,C AB nB cB,C AX nX cX],27),(gL,#[A B la,A B lb,A B lc,A B ld],45),(gI,#[C AS t1.sts.length cS,C AG t1.pgs.length cG],59)]):=⟨by rw[hw10];exact (HF9.out.ext hxs).push _ _ hggI.symm⟩
 have HI10:Bx (aK w.heap.size w10 (.agg #[C AS t1.sts.length cS,C AG t1.pgs.length cG]) t1):=⟨by rw[hw10];exact hI.ext ((zE _).alloc _)⟩
 have HS10:=bx (HS9.out.ext hx10);have HC10:Bx (au w.heap.size w10 (C (some ⟨g,0,none⟩) nl cC) l2):=⟨bj.ext HC9.out (bR.stab _) hx10⟩
 go_upto_region 10 with (fail)
 rw[<-hw10,<-hggI];clear hw10 hggI hI hxs hx10 HF9 HS9 HC9 z0 z1 z2 z3;obtain⟨ut,us,uq,uk,uct,uts,utq,ulp,ulc,ulg,ulv,ustr,uch,uA,un,ucc,HU,hcx,-,-⟩:=au.read HC10.out (XT.refl w.heap.size w10) hjn;rw[yV]at hcx;obtain⟨rfl,rfl⟩:xs=us/\xq=uq:=by have h:=HU.out;rw[HL2.out.2]at h;injection h with h;injection h with h1;injection h1 with h2 h3 h4;exact⟨h3,h4⟩
 have HCX:=zZ hcx;obtain⟨e0,e1,e2,e3,e4,e5,e6,e7,e8,e9,e10,e11,e12⟩:=hcx;obtain⟨i0,i1⟩:=(HF10.out.at_ 2 rfl).p2 rfl;go_cut [13,14] (fun s13 s14 wx=>∃gs,s13=.pointer (some ⟨gs,0,none⟩)/\s14=.bool true/\Bx (aA w10 wx [(gs,#[A B xs,A B xq,A B 4,A B 0,A B 0,A B 0,A B 0],67)]))
 case first =>
  refine zQ 99 fun wd kS=>?_;have HF30:Bx (aA w10 wd []):=⟨(aA.start w10).ext kS⟩
  refine zS 5 [(0,61),(1,62),(2,63),(3,64),(4,65)] kS ?_;iterate 5 refine zT ?_ (y:=by intro wk hk;obtain⟨_,_,_,_,_,_,_,_⟩:=zkc8 hk i0 i1 e0 e1 e2 e3 e4 e5;obtain⟨_,_,_,_,_,_,_⟩:=zkc7 hk e6 e7 e8 e9 e10 e11 e12;go_simp;try with_reducible rfl)
  refine zN (an 5 10 (by kernel_rfl) rfl rfl (fun K hK=>?_) (fun K hK=>?_))
  ·skip
   go_simp;refine (dN _ _ _ _ _ _ _ _ _ _ _ _ _ _ _ _).mono ?_;rintro e w31 ⟨rfl,hx⟩;have HF31:=bx (HF30.out.ext hx);clear hx;have k31:=HF31.out.xt;refine hK.out _ _ (fun _=>k31) ?_;clear hK K;try simp only[kA]
   refine an 6 10 (by kernel_rfl) rfl rfl (fun K hK=>?_) (fun K hK=>?_)
   ·skip
    go_simp;refine (HST1.out _ _ (HI10.out.ext HF31.out.xt)).mono ?_;rintro e w32 ⟨rfl,hx⟩;have HF32:=bx (HF31.out.ext hx);clear hx;have k32:=HF32.out.xt;refine hK.out _ _ (fun _=>k32) ?_;clear hK K;try simp only[kA]
    refine zS 3 [(7,60),(8,68),(9,69)] k32 ?_;iterate 3 refine zT ?_ (y:=by intro wk hk;obtain⟨_,_,_,_,_,_,_,_⟩:=zkc8 hk i0 i1 e0 e1 e2 e3 e4 e5;obtain⟨_,_,_,_,_,_,_⟩:=zkc7 hk e6 e7 e8 e9 e10 e11 e12;go_simp;try with_reducible rfl)
    refine zN (zO 10 (fun K hK=>?_));go_simp;obtain⟨gs,hg⟩:=nm w32.heap.size;obtain⟨w33,hw33⟩:=nm ((w32.alloc (.cells #[A B 0,A B 0,A B 0,A B 0,A B 0,A B 0,A B 0] 67)):World);have HF33:Bx (aA w10 w33 [(gs,#[A B 0,A B 0,A B 0,A B 0,A B 0,A B 0,A B 0],67)]):=⟨by rw[hw33];exact HF32.out.push _ _ hg.symm⟩
    rw[<-hw33,<-hg];clear hw33 hg;have k33:=HF33.out.xt;refine hK.out _ _ (fun _=>k33) ?_;clear hK K;try simp only[kA]
    obtain⟨j0,j1,j2,j3,j4,j5,j6⟩:=(HF33.out.at_ 0 rfl).p7 rfl;have f0:=(HF33.out.at_ 0 rfl).froz;have f1:=f0;have f2:=f0;have f3:=f0;have f4:=f0;have f5:=f0;have f6:=f0;refine zO 11 (fun K hK=>?_);go_simp;have hR:=HF33.out.setAll 0 rfl [A B xs,A B xq,A B 4,A B 0,A B 0,A B 0,A B 0] rfl;have kR:=hR.xt;refine hK.out _ _ (fun _=>kR) ?_;clear hK K;try simp only[kA]
    refine zO 12 (fun K hK=>?_);go_simp;refine hK.out _ _ (fun _=>kR) ?_;clear hK K;try simp only[kA]
    refine zD ?_;go_wp2_with fail;go_meet
    exact⟨gs,rfl,rfl,⟨hR⟩⟩
   ·skip
    go_simp;obtain⟨gs,hg⟩:=nm w31.heap.size;obtain⟨w34,hw34⟩:=nm ((w31.alloc (.cells #[A B 0,A B 0,A B 0,A B 0,A B 0,A B 0,A B 0] 67)):World);have HF34:Bx (aA w10 w34 [(gs,#[A B 0,A B 0,A B 0,A B 0,A B 0,A B 0,A B 0],67)]):=⟨by rw[hw34];exact HF31.out.push _ _ hg.symm⟩
    rw[<-hw34,<-hg];clear hw34 hg;have k34:=HF34.out.xt;refine hK.out _ _ (fun _=>k34) ?_;clear hK K;try simp only[kA]
    refine zO 6 (fun K hK=>?_);go_simp;refine (HST1.out _ _ (HI10.out.ext HF34.out.xt)).mono ?_;rintro e w35 ⟨rfl,hx⟩;have HF35:=bx (HF34.out.ext hx);clear hx;have k35:=HF35.out.xt;refine hK.out _ _ (fun _=>k35) ?_;clear hK K;try simp only[kA]
    refine zS 3 [(7,60),(8,68),(9,69)] k35 ?_;iterate 3 refine zT ?_ (y:=by intro wk hk;obtain⟨_,_,_,_,_,_,_,_⟩:=zkc8 hk i0 i1 e0 e1 e2 e3 e4 e5;obtain⟨_,_,_,_,_,_,_⟩:=zkc7 hk e6 e7 e8 e9 e10 e11 e12;go_simp;try with_reducible rfl)
    refine zN ?_;obtain⟨j0,j1,j2,j3,j4,j5,j6⟩:=(HF35.out.at_ 0 rfl).p7 rfl;have f0:=(HF35.out.at_ 0 rfl).froz;have f1:=f0;have f2:=f0;have f3:=f0;have f4:=f0;have f5:=f0;have f6:=f0;refine zO 11 (fun K hK=>?_);go_simp;have hR:=HF35.out.setAll 0 rfl [A B xs,A B xq,A B 4,A B 0,A B 0,A B 0,A B 0] rfl;have kR:=hR.xt;refine hK.out _ _ (fun _=>kR) ?_;clear hK K;try simp only[kA]
    refine zO 12 (fun K hK=>?_);go_simp;refine hK.out _ _ (fun _=>kR) ?_;clear hK K;try simp only[kA]
    refine zD ?_;go_wp2_with fail;go_meet
    exact⟨gs,rfl,rfl,⟨hR⟩⟩
  ·skip
   go_simp;obtain⟨gs,hg⟩:=nm wd.heap.size;obtain⟨w36,hw36⟩:=nm ((wd.alloc (.cells #[A B 0,A B 0,A B 0,A B 0,A B 0,A B 0,A B 0] 67)):World);have HF36:Bx (aA w10 w36 [(gs,#[A B 0,A B 0,A B 0,A B 0,A B 0,A B 0,A B 0],67)]):=⟨by rw[hw36];exact HF30.out.push _ _ hg.symm⟩
   rw[<-hw36,<-hg];clear hw36 hg;have k36:=HF36.out.xt;refine hK.out _ _ (fun _=>k36) ?_;clear hK K;try simp only[kA]
   refine zO 5 (fun K hK=>?_);go_simp;refine (dN _ _ _ _ _ _ _ _ _ _ _ _ _ _ _ _).mono ?_;rintro e w37 ⟨rfl,hx⟩;have HF37:=bx (HF36.out.ext hx);clear hx;have k37:=HF37.out.xt;refine hK.out _ _ (fun _=>k37) ?_;clear hK K;try simp only[kA]
   refine zO 6 (fun K hK=>?_);go_simp;refine (HST1.out _ _ (HI10.out.ext HF37.out.xt)).mono ?_;rintro e w38 ⟨rfl,hx⟩;have HF38:=bx (HF37.out.ext hx);clear hx;have k38:=HF38.out.xt;refine hK.out _ _ (fun _=>k38) ?_;clear hK K;try simp only[kA]
   refine zS 3 [(7,60),(8,68),(9,69)] k38 ?_;iterate 3 refine zT ?_ (y:=by intro wk hk;obtain⟨_,_,_,_,_,_,_,_⟩:=zkc8 hk i0 i1 e0 e1 e2 e3 e4 e5;obtain⟨_,_,_,_,_,_,_⟩:=zkc7 hk e6 e7 e8 e9 e10 e11 e12;go_simp;try with_reducible rfl)
   refine zN ?_;obtain⟨j0,j1,j2,j3,j4,j5,j6⟩:=(HF38.out.at_ 0 rfl).p7 rfl;have f0:=(HF38.out.at_ 0 rfl).froz;have f1:=f0;have f2:=f0;have f3:=f0;have f4:=f0;have f5:=f0;have f6:=f0;refine zO 11 (fun K hK=>?_);go_simp;have hR:=HF38.out.setAll 0 rfl [A B xs,A B xq,A B 4,A B 0,A B 0,A B 0,A B 0] rfl;have kR:=hR.xt;refine hK.out _ _ (fun _=>kR) ?_;clear hK K;try simp only[kA]
   refine zO 12 (fun K hK=>?_);go_simp;refine hK.out _ _ (fun _=>kR) ?_;clear hK K;try simp only[kA]
   refine zD ?_;go_wp2_with fail;go_meet
   exact⟨gs,rfl,rfl,⟨hR⟩⟩
 case rest =>
 obtain⟨gs,rfl,rfl,HY1⟩:=hcut;obtain⟨w11,rfl⟩:=nm wc;have HF11:=bx (HF10.out.ext HY1.out.xt);have HS11:=bx (HS10.out.ext HY1.out.xt);have HC11:Bx (au w.heap.size w11 (C (some ⟨g,0,none⟩) nl cC) l2):=⟨bj.ext HC10.out (bR.stab _) HY1.out.xt⟩
 have HD11:Bx (Bk w11 gs #[A B xs,A B xq,A B 4,A B 0,A B 0,A B 0,A B 0] 67):=⟨HY1.out.at_ 0 rfl⟩
 replace HCX:=zZ (HCX.out.ext HY1.out.xt);clear HY1 HF10 HS10 HC10 HI10 HST1 i0 i1 e0 e1 e2 e3 e4 e5 e6 e7 e8 e9 e10 e11 e12;obtain⟨e0,e1,e2,e3,e4,e5,e6,e7,e8,e9,e10,e11,e12⟩:=HCX.out;obtain⟨b0,b1,b2,b3⟩:=(HF11.out.at_ 1 rfl).p4 rfl;obtain⟨iC,hiC,hC0,hC1,hC2⟩:=info_parts Tryz.infoCap;have hE:mL ⟨⟨xt,xs,xq⟩,xk,xstr,xct,xch,⟨xts,xtq⟩,⟨xlp,xlc,xlg,xlv⟩⟩=⟨⟨5000,0,0⟩,2,[],0,[],⟨xs,xq⟩,⟨la,lb,lc,ld⟩⟩:=by unfold mL;rw[<-HLB.out];rfl
 rw[hE]at HT2;have hpl:w.heap.size<w11.heap.size:=HF11.out.lt;go_upto_region 11 with (fail)
 refine zQ 99 fun wd kS=>?_;refine zS 7 [(1,71),(3,73),(4,74),(5,75),(6,76),(7,77),(9,79)] kS ?_;iterate 7 refine zT ?_ (y:=by intro wk hk;obtain⟨_,_,_,_,_,_,_,_⟩:=zkc8 hk e0 e1 e2 e3 e4 e5 e6 e7;obtain⟨_,_,_,_,_,_,_,_⟩:=zkc8 hk e8 e9 e10 e11 e12 b0 b1 b2;have:=hk.cell b3;go_simp;try with_reducible rfl)
 refine zN (zO 0 (fun K hK=>?_));go_simp;obtain⟨gE,hgE⟩:=nm wd.heap.size;obtain⟨wE,hwE⟩:=nm ((wd.alloc (.cells #[] 47)):World);have hxE:ab wd wE:=by rw[hwE];exact (zE _).alloc _
 have HO:Bx (ah gE 47 13 (bR w.heap.size w11) wE (C (some ⟨gE,0,none⟩) 0 0) []):=⟨by rw[hwE,hgE];exact EI wd⟩
 have hge:w11.heap.size<=gE/\gE<=wE.heap.size:=⟨by rw[hgE];exact kS.size,by rw[hgE];exact hxE.size⟩
 have kE:ab w11 wE:=kS.trans hxE;rw[<-hwE,<-hgE];clear hwE hgE hxE;refine hK.out _ _ (fun _=>kE) ?_;clear hK K;try simp only[kA]
 refine zO 2 (fun K hK=>?_);refine Fn (by rfl) (.tmp 70) (.tmp 71) 35 (by rfl) gE 47 iC _ 13 128 underlying35 hiC hC0 hC1 hC2 rfl (by omega) (bR w.heap.size w11) Hm (C (some ⟨gE,0,none⟩) 0 0) [] (by rfl) HO.out w.heap.size g 0 nl cC l2 (by rfl) (bj.ext HC11.out.at_world (fun _ _ _ _ h _=>h) kE) hl0 (by simp;omega) (by omega) hge.2 ?_;intro g2 c2 w12 hown hg12;simp only[List.length_nil,yV,List.nil_append]at hown⊢;have HO2:=zZ hown;have k12:ab w11 w12:=kE.grown hg12 (fun k hk=>by have:=HO.out.ge k hk;omega);clear hown hg12;refine hK.out _ _ (fun _=>k12) ?_;clear hK K;try simp only[kA]
 refine zO 8 (fun K hK=>?_);go_simp;refine (dN _ _ _ _ _ _ _ _ _ _ _ _ _ _ _ _).mono ?_;rintro e w13 ⟨rfl,hx13⟩;have k13:ab w11 w13:=k12.trans hx13;refine hK.out _ _ (fun _=>k13) ?_;clear hK K;try simp only[kA]
 refine zS 1 [(10,80)] k13 ?_;refine zT ?_ (y:=by intro wk hk;obtain⟨_,_,_,_,_,_,_,_⟩:=zkc8 hk e0 e1 e2 e3 e4 e5 e6 e7;obtain⟨_,_,_,_,_,_,_,_⟩:=zkc8 hk e8 e9 e10 e11 e12 b0 b1 b2;have:=hk.cell b3;go_simp;try with_reducible rfl);refine zN (zO 11 (fun K hK=>?_));go_simp;obtain⟨gq,hgq⟩:=nm w13.heap.size;obtain⟨wF,hwF⟩:=nm ((w13.alloc (.cells #[A B 5000,A B 0,A B 0,A B 2,.string ⟨#[]⟩,A B 0,C none 0 0,A B xs,A B xq,A B la,A B lb,A B lc,A B ld] 47)):World);have hxF:ab w13 wF:=by rw[hwF];exact (zE _).alloc _
 have HBF:Bx (Bk wF gq #[A B 5000,A B 0,A B 0,A B 2,.string ⟨#[]⟩,A B 0,C none 0 0,A B xs,A B xq,A B la,A B lb,A B lc,A B ld] 47):=⟨by rw[hwF,hgq];exact Bk.new _ _ _⟩
 have HO3:Bx (ah gE 47 13 (bR w.heap.size w11) wF (C (some ⟨g2,0,none⟩) nl c2) l2):=⟨(HO2.out.ext hx13).ext hxF⟩
 have kF:ab w11 wF:=k13.trans hxF;have hgF:gE<=wF.heap.size:=by have h1:=hge.1;have h2:=kF.size;have h3:=HO3.out.ge g2 rfl;have:=Jv HO3.out;omega
 rw[<-hwF,<-hgq];clear hwF hgq hxF;refine hK.out _ _ (fun _=>kF) ?_;clear hK K;try simp only[kA]
 refine zO 12 (fun K hK=>?_);refine Ci (by rfl) _ _ _ (by rfl) gE 47 iC _ 13 128 underlying35 hiC hC0 hC1 hC2 rfl (by omega) (bR w.heap.size w11) (some ⟨g2,0,none⟩) nl c2 l2 (by rfl) HL2.out.1 HO3.out gq [A B 5000,A B 0,A B 0,A B 2,.string ⟨#[]⟩,A B 0,C none 0 0,A B xs,A B xq,A B la,A B lb,A B lc,A B ld] ⟨⟨5000,0,0⟩,2,[],0,[],⟨xs,xq⟩,⟨la,lb,lc,ld⟩⟩ (by rfl) (World.news_of_block HBF.out) rfl (by simp[Value.oneCell']) ?_ (by omega) (by omega) hgF ?_
 ·exact⟨C none 0 0,rfl,ak.nil _ _,⟨(by decide:aU 5000),pM,pM⟩,(by decide:aU 2),by simp,pM,⟨HXW.out.1.2.1,HXW.out.1.2.2⟩,HLW.out,by simp⟩
 intro g3 c3 w14 hown3 hg14;have k14:ab w11 w14:=kF.grown hg14 (fun k hk=>by have h1:=HO3.out.ge k hk;have h2:=hge.1;omega);have HM14:Bx (au w.heap.size w14 (C (some ⟨g3,0,none⟩) (nl+1) c3) (l2++[⟨⟨5000,0,0⟩,2,[],0,[],⟨xs,xq⟩,⟨la,lb,lc,ld⟩⟩])):=⟨hown3.isS (by decide) (by have:=hge.1;omega) (fun cs y h=>bR.stab _ _ _ cs y h k14.xt)⟩
 refine hK.out _ _ (fun _=>k14) ?_;clear hK K;try simp only[kA]
 refine zO 13 (fun K hK=>?_);go_simp;refine hK.out _ _ (fun _=>k14) ?_;clear hK K;try simp only[kA]
 refine zD ?_;have HF14:=bx (HF11.out.ext k14);have HS14:=bx (HS11.out.ext k14);have HD14:=bx (HD11.out.ext k14);replace HCX:=zZ (HCX.out.ext k14);clear hown3 hg14 k14 kF k13 k12 kE kS hx13 HO HO2 HO3 HBF HF11 HS11 HC11 HD11 hge hgF hiC hC0 hC1 hC2 b0 b1 b2 b3 e0 e1 e2 e3 e4 e5 e6 e7 e8 e9 e10 e11 e12;go_upto_region 12 with (fail)
 obtain⟨z0,z1,z2,z3⟩:=(HF14.out.at_ 0 rfl).p4 rfl;go_wp2_with fail;refine (aW _ _ s (l2++[⟨⟨5000,0,0⟩,2,[],0,[],⟨xs,xq⟩,⟨la,lb,lc,ld⟩⟩]) _ HF14.out.lt HF14.out.tb HS14.out HM14.out (by rw[yU,HL2.out.1];show nl+1<=300;omega)).mono ?_;rintro e wb ⟨⟨vI,rfl,hI⟩,hxs⟩;rw[show rM s (l2++[⟨⟨5000,0,0⟩,2,[],0,[],⟨xs,xq⟩,⟨la,lb,lc,ld⟩⟩])=t2 from by rw[HT2.out];exact if_pos HCK.out]at hI;rw[HCK.out];obtain⟨BS,dS,BG,dG,rfl⟩:=hI.op;obtain⟨gJ,hggJ⟩:=nm wb.heap.size;obtain⟨w15,hw15⟩:=nm ((wb.alloc (.cells #[C BS t2.sts.length dS,C BG t2.pgs.length dG] 59)):World);have hx15:ab w14 w15:=by rw[hw15];exact hxs.alloc _
 have HF15:Bx (LF w.heap.size w1 w15 [(gS,#[A B s.num,C AP nP cP,C AB nB cB,C AX nX cX],27),(gL,#[A B la,A B lb,A B lc,A B ld],45),(gI,#[C AS t1.sts.length cS,C AG t1.pgs.length cG],59),(gJ,#[C BS t2.sts.length dS,C BG t2.pgs.length dG],59)]):=⟨by rw[hw15];exact (HF14.out.ext hxs).push _ _ hggJ.symm⟩
 have HI15:Bx (aK w.heap.size w15 (.agg #[C BS t2.sts.length dS,C BG t2.pgs.length dG]) t2):=⟨by rw[hw15];exact hI.ext ((zE _).alloc _)⟩
 have HD15:=bx (HD14.out.ext hx15);replace HCX:=zZ (HCX.out.ext hx15);go_upto_region 13 with (fail)
 rw[<-hw15,<-hggJ];clear hw15 hggJ hI hxs hx15 HF14 HS14 HM14 HD14 z0 z1 z2 z3;obtain⟨e0,e1,e2,e3,e4,e5,e6,e7,e8,e9,e10,e11,e12⟩:=HCX.out;obtain⟨i0,i1⟩:=(HF15.out.at_ 3 rfl).p2 rfl;go_cut [18,19] (fun s18 s19 wx=>∃gt,s18=.pointer (some ⟨gt,0,none⟩)/\s19=.bool true/\Bx (aA w15 wx [(gt,#[A B xs,A B xq,A B 1,A B la,A B lb,A B lc,A B ld],67)]))
 case first =>
  refine zQ 99 fun wd kS=>?_;have HF30:Bx (aA w15 wd []):=⟨(aA.start w15).ext kS⟩
  refine zS 5 [(0,90),(1,91),(2,92),(3,93),(4,94)] kS ?_;iterate 5 refine zT ?_ (y:=by intro wk hk;obtain⟨_,_,_,_,_,_,_,_⟩:=zkc8 hk i0 i1 e0 e1 e2 e3 e4 e5;obtain⟨_,_,_,_,_,_,_⟩:=zkc7 hk e6 e7 e8 e9 e10 e11 e12;go_simp;try with_reducible rfl)
  refine zN (an 5 10 (by kernel_rfl) rfl rfl (fun K hK=>?_) (fun K hK=>?_))
  ·skip
   go_simp;refine (dN _ _ _ _ _ _ _ _ _ _ _ _ _ _ _ _).mono ?_;rintro e w31 ⟨rfl,hx⟩;have HF31:=bx (HF30.out.ext hx);clear hx;have k31:=HF31.out.xt;refine hK.out _ _ (fun _=>k31) ?_;clear hK K;try simp only[kA]
   refine an 6 10 (by kernel_rfl) rfl rfl (fun K hK=>?_) (fun K hK=>?_)
   ·skip
    go_simp;refine (HST2.out _ _ (HI15.out.ext HF31.out.xt)).mono ?_;rintro e w32 ⟨rfl,hx⟩;have HF32:=bx (HF31.out.ext hx);clear hx;have k32:=HF32.out.xt;refine hK.out _ _ (fun _=>k32) ?_;clear hK K;try simp only[kA]
    refine zS 3 [(7,89),(8,97),(9,98)] k32 ?_;iterate 3 refine zT ?_ (y:=by intro wk hk;obtain⟨_,_,_,_,_,_,_,_⟩:=zkc8 hk i0 i1 e0 e1 e2 e3 e4 e5;obtain⟨_,_,_,_,_,_,_⟩:=zkc7 hk e6 e7 e8 e9 e10 e11 e12;go_simp;try with_reducible rfl)
    refine zN (zO 10 (fun K hK=>?_));go_simp;obtain⟨gt,hg⟩:=nm w32.heap.size;obtain⟨w33,hw33⟩:=nm ((w32.alloc (.cells #[A B 0,A B 0,A B 0,A B 0,A B 0,A B 0,A B 0] 67)):World);have HF33:Bx (aA w15 w33 [(gt,#[A B 0,A B 0,A B 0,A B 0,A B 0,A B 0,A B 0],67)]):=⟨by rw[hw33];exact HF32.out.push _ _ hg.symm⟩
    rw[<-hw33,<-hg];clear hw33 hg;have k33:=HF33.out.xt;refine hK.out _ _ (fun _=>k33) ?_;clear hK K;try simp only[kA]
    obtain⟨j0,j1,j2,j3,j4,j5,j6⟩:=(HF33.out.at_ 0 rfl).p7 rfl;have f0:=(HF33.out.at_ 0 rfl).froz;have f1:=f0;have f2:=f0;have f3:=f0;have f4:=f0;have f5:=f0;have f6:=f0;refine zO 11 (fun K hK=>?_);go_simp;have hR:=HF33.out.setAll 0 rfl [A B xs,A B xq,A B 1,A B la,A B lb,A B lc,A B ld] rfl;have kR:=hR.xt;refine hK.out _ _ (fun _=>kR) ?_;clear hK K;try simp only[kA]
    refine zO 12 (fun K hK=>?_);go_simp;refine hK.out _ _ (fun _=>kR) ?_;clear hK K;try simp only[kA]
    refine zD ?_;go_wp2_with fail;go_meet
    exact⟨gt,rfl,rfl,⟨hR⟩⟩
   ·skip
    go_simp;obtain⟨gt,hg⟩:=nm w31.heap.size;obtain⟨w34,hw34⟩:=nm ((w31.alloc (.cells #[A B 0,A B 0,A B 0,A B 0,A B 0,A B 0,A B 0] 67)):World);have HF34:Bx (aA w15 w34 [(gt,#[A B 0,A B 0,A B 0,A B 0,A B 0,A B 0,A B 0],67)]):=⟨by rw[hw34];exact HF31.out.push _ _ hg.symm⟩
    rw[<-hw34,<-hg];clear hw34 hg;have k34:=HF34.out.xt;refine hK.out _ _ (fun _=>k34) ?_;clear hK K;try simp only[kA]
    refine zO 6 (fun K hK=>?_);go_simp;refine (HST2.out _ _ (HI15.out.ext HF34.out.xt)).mono ?_;rintro e w35 ⟨rfl,hx⟩;have HF35:=bx (HF34.out.ext hx);clear hx;have k35:=HF35.out.xt;refine hK.out _ _ (fun _=>k35) ?_;clear hK K;try simp only[kA]
    refine zS 3 [(7,89),(8,97),(9,98)] k35 ?_;iterate 3 refine zT ?_ (y:=by intro wk hk;obtain⟨_,_,_,_,_,_,_,_⟩:=zkc8 hk i0 i1 e0 e1 e2 e3 e4 e5;obtain⟨_,_,_,_,_,_,_⟩:=zkc7 hk e6 e7 e8 e9 e10 e11 e12;go_simp;try with_reducible rfl)
    refine zN ?_;obtain⟨j0,j1,j2,j3,j4,j5,j6⟩:=(HF35.out.at_ 0 rfl).p7 rfl;have f0:=(HF35.out.at_ 0 rfl).froz;have f1:=f0;have f2:=f0;have f3:=f0;have f4:=f0;have f5:=f0;have f6:=f0;refine zO 11 (fun K hK=>?_);go_simp;have hR:=HF35.out.setAll 0 rfl [A B xs,A B xq,A B 1,A B la,A B lb,A B lc,A B ld] rfl;have kR:=hR.xt;refine hK.out _ _ (fun _=>kR) ?_;clear hK K;try simp only[kA]
    refine zO 12 (fun K hK=>?_);go_simp;refine hK.out _ _ (fun _=>kR) ?_;clear hK K;try simp only[kA]
    refine zD ?_;go_wp2_with fail;go_meet
    exact⟨gt,rfl,rfl,⟨hR⟩⟩
  ·skip
   go_simp;obtain⟨gt,hg⟩:=nm wd.heap.size;obtain⟨w36,hw36⟩:=nm ((wd.alloc (.cells #[A B 0,A B 0,A B 0,A B 0,A B 0,A B 0,A B 0] 67)):World);have HF36:Bx (aA w15 w36 [(gt,#[A B 0,A B 0,A B 0,A B 0,A B 0,A B 0,A B 0],67)]):=⟨by rw[hw36];exact HF30.out.push _ _ hg.symm⟩
   rw[<-hw36,<-hg];clear hw36 hg;have k36:=HF36.out.xt;refine hK.out _ _ (fun _=>k36) ?_;clear hK K;try simp only[kA]
   refine zO 5 (fun K hK=>?_);go_simp;refine (dN _ _ _ _ _ _ _ _ _ _ _ _ _ _ _ _).mono ?_;rintro e w37 ⟨rfl,hx⟩;have HF37:=bx (HF36.out.ext hx);clear hx;have k37:=HF37.out.xt;refine hK.out _ _ (fun _=>k37) ?_;clear hK K;try simp only[kA]
   refine zO 6 (fun K hK=>?_);go_simp;refine (HST2.out _ _ (HI15.out.ext HF37.out.xt)).mono ?_;rintro e w38 ⟨rfl,hx⟩;have HF38:=bx (HF37.out.ext hx);clear hx;have k38:=HF38.out.xt;refine hK.out _ _ (fun _=>k38) ?_;clear hK K;try simp only[kA]
   refine zS 3 [(7,89),(8,97),(9,98)] k38 ?_;iterate 3 refine zT ?_ (y:=by intro wk hk;obtain⟨_,_,_,_,_,_,_,_⟩:=zkc8 hk i0 i1 e0 e1 e2 e3 e4 e5;obtain⟨_,_,_,_,_,_,_⟩:=zkc7 hk e6 e7 e8 e9 e10 e11 e12;go_simp;try with_reducible rfl)
   refine zN ?_;obtain⟨j0,j1,j2,j3,j4,j5,j6⟩:=(HF38.out.at_ 0 rfl).p7 rfl;have f0:=(HF38.out.at_ 0 rfl).froz;have f1:=f0;have f2:=f0;have f3:=f0;have f4:=f0;have f5:=f0;have f6:=f0;refine zO 11 (fun K hK=>?_);go_simp;have hR:=HF38.out.setAll 0 rfl [A B xs,A B xq,A B 1,A B la,A B lb,A B lc,A B ld] rfl;have kR:=hR.xt;refine hK.out _ _ (fun _=>kR) ?_;clear hK K;try simp only[kA]
   refine zO 12 (fun K hK=>?_);go_simp;refine hK.out _ _ (fun _=>kR) ?_;clear hK K;try simp only[kA]
   refine zD ?_;go_wp2_with fail;go_meet
   exact⟨gt,rfl,rfl,⟨hR⟩⟩
 case rest =>
 obtain⟨gt,rfl,rfl,HY2⟩:=hcut;obtain⟨w16,rfl⟩:=nm wc;have HF16:=bx (HF15.out.ext HY2.out.xt);clear i0 i1 e0 e1 e2 e3 e4 e5 e6 e7 e8 e9 e10 e11 e12;obtain⟨d0,d1,d2,d3,d4,d5,d6⟩:=((HD15.out.ext HY2.out.xt)).p7 rfl;obtain⟨f0,f1,f2,f3,f4,f5,f6⟩:=(HY2.out.at_ 0 rfl).p7 rfl;obtain⟨b0,b1,b2,b3⟩:=(HF16.out.at_ 1 rfl).p4 rfl;have i1:=(HF16.out.at_ 2 rfl).c 1 rfl;have j1:=(HF16.out.at_ 3 rfl).c 1 rfl;have hsub:IntKind.i64.wrap ((nl:Int)-1)=(t1.pgs.length:Int):=by rw[yN _ (by omega)];have:=HN1.out.1;omega
 have hj2:t2.pgs.length=nl:=HN1.out.2;have eL:=fun W=>ox la lb lc ld la lb lc ld W;rw[decide_eq_true ⟨rfl,rfl,rfl,rfl⟩]at eL;have gL':=ij;go_wp2_with fail;refine (cN _ HF16.out.tb).mono ?_;rintro e w17 ⟨rfl,hx17⟩;go_wp2_with fail;go_ret
 exact⟨rfl,(HF16.out.fin HE.out).trans hx17⟩
end Go.Proofs.YtkaajgoeahahpaaGreatDoor

