import Derived.Test.YtpaidaphacoblaaGreatDoorSitU
import Derived.Test.YtpaidaphacoblaaGreatDoorTapeB
import Derived.Test.YtpaidaphacoblaaGreatDoorWhlW
import Derived.Test.YtpaidaphacoblaaGreatDoorScwW
import Derived.Test.YtpaidaphacoblaaGreatDoorK42
import Derived.Test.YtpaidaphacoblaaGreatDoorK43
import Derived.Test.YtpaidaphacoblaaGreatDoorInkG
set_option linter.all false
set_option maxRecDepth 100000
set_option maxHeartbeats 0
namespace Go.Proofs.YtpaidaphacoblaaGreatDoor
open Go.Value renaming int→A,slice→C
open Go.IntKind renaming i64→B
open Go.RowKit _root_.Go.Proofs.Tryz
set_option maxRecDepth 100000 in
set_option maxHeartbeats 16000000 in
theorem MZ(v0:Value)(l0:List Int)(w:World)(h0:ak w.heap.size w v0 l0)(hT:cK w) :
  Calls prog 3 #[v0] w fun e w'=>e=.returned (.bool true)/\ab w w':=by
 have H0:=zZ h0;have HB:=zZ hT;clear h0 hT;go_enter func3,ntmps3
 go_wp2_with fail;refine (ib _ l0 _ H0.out).mono ?_;rintro e w1 ⟨rfl,HT1,HE1⟩;have HE:=zZ HE1;have HF1:Bx (LF w.heap.size w1 w1 []):=⟨LF.start HT1 (HB.out.ext HE1) HB.out.lt⟩
 clear HT1 HE1;go_wp2_with fail;refine (dp _ 0 _ HF1.out.fr.tp (by omega) (by omega)).mono ?_;rintro e w2 ⟨v2,rfl,⟨s,hsv,hwf,hok⟩,HT2,HX2⟩;have hs2:=hsv.isSit hwf HF1.out.fr.hp;have HWF:=zZ hwf;obtain⟨AP,nP,cP,AB,nB,cB,AX,nX,cX,rfl⟩:=hs2.op;have HOK:=zZ (hok rfl);obtain⟨gS,hgS⟩:∃z,z=w2.heap.size:=⟨_,rfl⟩
 obtain⟨w3,hw3⟩:∃z:World,z=(w2.alloc (.cells #[A B s.num,C AP nP cP,C AB nB cB,C AX nX cX] 29)):=⟨_,rfl⟩
 have HF3:Bx (LF w.heap.size w1 w3 [(gS,#[A B s.num,C AP nP cP,C AB nB cB,C AX nX cX],29)]):=⟨by rw[hw3];exact (HF1.out.step HX2 HT2).push _ _ hgS.symm⟩
 have HS3:Bx (aR w.heap.size w3 (.agg #[A B s.num,C AP nP cP,C AB nB cB,C AX nX cX]) s):=⟨by rw[hw3];exact hs2.ext ((zE _).alloc _)⟩
 clear hs2 hsv hwf hok;go_upto_region 3 with (fail)
 rw[<-hw3,<-hgS];clear hw3 hgS HT2 HX2 HF1;have z0:=(HF3.out.at_ 0 rfl).cell (i:=0) rfl;have z1:=(HF3.out.at_ 0 rfl).cell (i:=1) rfl;have z2:=(HF3.out.at_ 0 rfl).cell (i:=2) rfl;have z3:=(HF3.out.at_ 0 rfl).cell (i:=3) rfl;go_wp2_with fail;refine (E2 _ _ s _ HF3.out.fr.tp HS3.out HOK.out).mono ?_;rintro e w4 ⟨v4,rfl,⟨ys,hrow,hwho⟩,HT4,HX4⟩;obtain⟨AC,cC,rfl⟩:=hrow.form;obtain⟨l,hl⟩:∃z,z=ys.map Prod.fst:=⟨_,rfl⟩
 obtain⟨nl,hnl⟩:∃z,z=ys.length:=⟨_,rfl⟩
 have hll:nl=l.length:=by rw[hl,hnl,zJ]
 have hc4:=hrow.isCs HF3.out.lt;rw[<-hl]at hwho hc4;rw[<-hnl]at hc4⊢;have HWH:=zZ hwho;have hn60:nl<=60:=by rw[hll];exact IE hwho HWF.out
 have HLN:=zZ hll;have HC4:Bx (au w.heap.size w4 (C AC nl cC) l):=⟨hc4⟩
 have HF4:Bx (LF w.heap.size w1 w4 [(gS,#[A B s.num,C AP nP cP,C AB nB cB,C AX nX cX],29)]):=⟨HF3.out.step HX4 HT4⟩
 have HS4:Bx (aR w.heap.size w4 (.agg #[A B s.num,C AP nP cP,C AB nB cB,C AX nX cX]) s):=⟨HS3.out.xt HX4⟩
 clear hrow hl hnl hll hwho HT4 HX4 hc4 z0 z1 z2 z3 HF3 HS3;go_wp2_with fail;refine (Fi _ nl _ HF4.out.fr.tp (by omega)).mono ?_;rintro e w5 ⟨v5,rfl,hmx,HT5,HX5⟩;obtain⟨Ao,no,co,ol,rfl,hio,holn,hno,hmem⟩:=hmx.isI HF4.out.lt (by omega);have HO5:Bx (ak w.heap.size w5 (C Ao no co) ol):=⟨hio⟩
 have HM5:Bx ((∀y,y∈ol↔0<=y/\y<(nl:Int))/\ol.length=no):=⟨hmem,holn⟩
 have HF5:Bx (LF w.heap.size w1 w5 [(gS,#[A B s.num,C AP nP cP,C AB nB cB,C AX nX cX],29)]):=⟨HF4.out.step HX5 HT5⟩
 have HS5:Bx (aR w.heap.size w5 (.agg #[A B s.num,C AP nP cP,C AB nB cB,C AX nX cX]) s):=⟨HS4.out.xt HX5⟩
 have HC5:Bx (au w.heap.size w5 (C AC nl cC) l):=⟨bj.xt HC4.out (bR.stab _) HX5⟩
 clear hmx hio holn hmem HT5 HX5 HF4 HS4 HC4;obtain⟨iC,hiC,hC0,hC1,hC2⟩:=info_parts Tryz.infoCap;go_wp2_with fail;go_loopw [7,8] (fun s7 s8 wr=>∃(k:Nat) (m:List aj),s8=A B k/\k<=no/\Bx (EB w.heap.size w5 wr s7 ol l k m)) (fun _ s8 _=>no-(intOf s8).toNat)
 case atStart=>exact⟨0,[],rfl,by omega,⟨EB.nil⟩⟩
 case round =>
  obtain⟨k,m,rfl,hk,HM⟩:=hrel;by_cases hkn:k<no
  ·obtain⟨bo,oo,x,rfl,x0,HXO,-⟩:=HO5.out.at_ hkn;replace x0:=HM.out.2.2.2.cell x0;obtain⟨hx0,hx1⟩:=(HM5.out.1 x).1 (zW HXO.out);obtain⟨j,rfl⟩:=zG hx0;have hjn:j<nl:=by omega
   obtain⟨b,off,_,_,rfl,-⟩:=HC5.out.at_ hjn;obtain⟨xt,xs,xq,xk,xct,xts,xtq,xlp,xlc,xlg,xlv,xstr,xch,xA,xn,xcc,HX,hcx,hix,hwx⟩:=au.read HC5.out (XT.refl w.heap.size w5) hjn;obtain⟨e0,e1,e2,e3,e4,e5,e6,e7,e8,e9,e10,e11,e12⟩:=hcx.ext HM.out.2.2.2;have HIX:Bx (bR w.heap.size w5 #[A B xt,A B xs,A B xq,A B xk,.string (ba xstr),A B xct,C xA xn xcc,A B xts,A B xtq,A B xlp,A B xlc,A B xlg,A B xlv].toList ⟨⟨xt,xs,xq⟩,xk,xstr,xct,xch,⟨xts,xtq⟩,⟨xlp,xlc,xlg,xlv⟩⟩):=⟨⟨C xA xn xcc,by simp[aj.cells,J6],hix,hwx⟩⟩
   clear hix hwx hcx hx0 hx1;go_wp2_with (at_builtin;go_loud (refine dq _ rfl (.tmp 33) (.tmp 41) 31 rfl w5.heap.size 41 iC _ 13 128 underlying31 hiC hC0 hC1 hC2 rfl (by omega) (bR w.heap.size w5) u7 m rfl (HM.out.1.ext ((zE _).alloc _)) _ #[A B xt,A B xs,A B xq,A B xk,.string (ba xstr),A B xct,C xA xn xcc,A B xts,A B xtq,A B xlp,A B xlc,A B xlg,A B xlv] _ ⟨⟨xt,xs,xq⟩,xk,xstr,xct,xch,⟨xts,xtq⟩,⟨xlp,xlc,xlg,xlv⟩⟩ rfl (heap_alloc_new _ _) rfl (by simp[Value.oneCell']) HIX.out (by have:=HM.out.2.1;omega) (by omega) (by have:=HM.out.2.2.2.size;simp;omega) ?_;intro v9 w9 hown9 hg9;have HM9:Bx (EB w.heap.size w5 w9 v9 ol l (k+1) (m++[⟨⟨xt,xs,xq⟩,xk,xstr,xct,xch,⟨xts,xtq⟩,⟨xlp,xlc,xlg,xlv⟩⟩])):=⟨HM.out.push hown9 ((HM.out.2.2.2.alloc _).grown hg9 HM.out.1.ge) HXO.out HX.out⟩;clear hown9 hg9));go_roundw
   case rel=>exact⟨k+1,_,by go_num,by omega,HM9⟩
   case measure=>simp[intOf];omega
  ·obtain rfl:k=no:=by omega
   have HMM:Bx (∀c,c∈m↔c∈l):=⟨fun c=>EB.mem (by have h:=HM.out;rw[<-HM5.out.2]at h;exact h) (by rw[<-HLN.out];exact HM5.out.1)⟩
   have HMC:Bx (au w.heap.size wr u7 m/\m.length<=300):=⟨HM.out.isCs HF5.out.lt,by have:=HM.out.2.1;omega⟩
   have HX56:=zZ HM.out.2.2.2;have HF6:Bx (LF w.heap.size w1 wr [(gS,#[A B s.num,C AP nP cP,C AB nB cB,C AX nX cX],29)]):=⟨HF5.out.ext HX56.out⟩
   have HS6:Bx (aR w.heap.size wr (.agg #[A B s.num,C AP nP cP,C AB nB cB,C AX nX cX]) s):=⟨HS5.out.ext HX56.out⟩
   have HC6:Bx (au w.heap.size wr (C AC nl cC) l):=⟨bj.ext HC5.out (bR.stab _) HX56.out⟩
   obtain⟨Am,n4,cm,rfl,-⟩:=HMC.out.1.open_;obtain⟨w6,rfl⟩:∃z,z=wr:=⟨_,rfl⟩
   clear HM HO5 HM5 HF5 HS5 HC5 HX56 hiC hC0 hC1 hC2;obtain⟨t,ht⟩:∃z,z=cQ s (ay m):=⟨_,rfl⟩
   obtain⟨p1,p2,-,-⟩:=C3 HWH.out HMM.out;rw[<-ht,<-HLN.out]at p1 p2;have HT:=zZ ht;have HTL:Bx (t.sts.length=nl/\t.pgs.length=nl):=⟨p1,p2⟩
   have HCK:Bx (aC s=0):=⟨iL.2 HOK.out⟩
   have HNB:Bx (0<=s.num/\s.num<=31):=⟨HOK.out.num⟩
   clear ht p1 p2;have z0:=(HF6.out.at_ 0 rfl).cell (i:=0) rfl;have z1:=(HF6.out.at_ 0 rfl).cell (i:=1) rfl;have z2:=(HF6.out.at_ 0 rfl).cell (i:=2) rfl;have z3:=(HF6.out.at_ 0 rfl).cell (i:=3) rfl;go_wp2_with fail;refine (aW _ _ s m _ HF6.out.lt HF6.out.tb HS6.out HMC.out.1 HMC.out.2).mono ?_;rintro e wb ⟨⟨vI,rfl,hI⟩,hxs⟩;rw[show rM s m=t from by rw[HT.out];exact if_pos HCK.out]at hI;rw[HCK.out];obtain⟨AS,cS,AG,cG,rfl⟩:=hI.op;rw[HTL.out.1,HTL.out.2]at hI⊢;obtain⟨gI,hgI⟩:∃z,z=wb.heap.size:=⟨_,rfl⟩
   obtain⟨w7,hw7⟩:∃z:World,z=(wb.alloc (.cells #[C AS nl cS,C AG nl cG] 45)):=⟨_,rfl⟩
   have hx7:ab w6 w7:=by rw[hw7];exact hxs.alloc _
   have HF7:Bx (LF w.heap.size w1 w7 [(gS,#[A B s.num,C AP nP cP,C AB nB cB,C AX nX cX],29),(gI,#[C AS nl cS,C AG nl cG],45)]):=⟨by rw[hw7];exact (HF6.out.ext hxs).push _ _ hgI.symm⟩
   have HI7:Bx (aK w.heap.size w7 (.agg #[C AS nl cS,C AG nl cG]) t):=⟨by rw[hw7];exact hI.ext ((zE _).alloc _)⟩
   have HS7:Bx (aR w.heap.size w7 (.agg #[A B s.num,C AP nP cP,C AB nB cB,C AX nX cX]) s):=⟨HS6.out.ext hx7⟩
   go_upto_region 11 with (fail)
   rw[<-hw7,<-hgI];clear hw7 hgI hI hxs hx7 HF6 HS6 HC6 HMC z0 z1 z2 z3;refine px 99 (fun w'=>Bk w' gS #[A B s.num,C AP nP cP,C AB nB cB,C AX nX cX] 29/\Bk w' gI #[C AS nl cS,C AG nl cG] 45) (by kernel_rfl) ?_;have kS:(fun w'=>Bk w' gS #[A B s.num,C AP nP cP,C AB nB cB,C AX nX cX] 29/\Bk w' gI #[C AS nl cS,C AG nl cG] 45) w7.drew:=⟨(HF7.out.at_ 0 rfl).ext (zE _).drew,(HF7.out.at_ 1 rfl).ext (zE _).drew⟩
   have kD:ab w7 w7.drew:=(zE _).drew;obtain⟨wd,hwd⟩:∃z:World,z=w7.drew:=⟨_,rfl⟩
   rw[<-hwd]at kS kD⊢;clear hwd;have HF8:Bx (LF w.heap.size w1 wd [(gS,#[A B s.num,C AP nP cP,C AB nB cB,C AX nX cX],29),(gI,#[C AS nl cS,C AG nl cG],45)]):=⟨HF7.out.ext kD⟩
   have HS8:Bx (aR w.heap.size wd (.agg #[A B s.num,C AP nP cP,C AB nB cB,C AX nX cX]) s):=⟨HS7.out.ext kD⟩
   have HI8:Bx (aK w.heap.size wd (.agg #[C AS nl cS,C AG nl cG]) t):=⟨HI7.out.ext kD⟩
   clear kD HF7 HS7 HI7;refine ur 3 [(0,50),(1,51),(2,52)] rfl (by kernel_rfl) (by kernel_rfl) (fun _ _ _ _ _ h=>h) kS ?_;iterate 3 (apply Ff;(case ho=>exact rfl);(case hw=>exact rfl);(case hy=>((intro wk hk);(try dsimp only at hk);have z0:=hk.1.cell (i:=0) rfl;have z1:=hk.1.cell (i:=1) rfl;have z2:=hk.1.cell (i:=2) rfl;have z3:=hk.1.cell (i:=3) rfl;have i0:=hk.2.cell (i:=0) rfl;have i1:=hk.2.cell (i:=1) rfl;go_simp;try with_reducible rfl));(case hput=>(simp only[Act.put,List.setIfInBounds_toArray,List.set_cons_zero,List.set_cons_succ];exact rfl)))
   refine Lh ?_;refine Cw 3 (by kernel_rfl) rfl (fun K hK=>?_);go_simp;refine (Mx _ 0 _ HF8.out.fr.tp (by omega) (by omega)).mono ?_;rintro e w9 ⟨v9,rfl,⟨td,tf,tl,rfl,-,-,-,hthr⟩,HT9,HX9⟩;have HVD:Bx (j5 td tf tl=true):=⟨OU (hthr rfl)⟩
   have HF9:Bx (LF w.heap.size w1 w9 [(gS,#[A B s.num,C AP nP cP,C AB nB cB,C AX nX cX],29),(gI,#[C AS nl cS,C AG nl cG],45)]):=⟨HF8.out.step HX9 HT9⟩
   have HS9:Bx (aR w.heap.size w9 (.agg #[A B s.num,C AP nP cP,C AB nB cB,C AX nX cX]) s):=⟨HS8.out.xt HX9⟩
   have HI9:Bx (aK w.heap.size w9 (.agg #[C AS nl cS,C AG nl cG]) t):=⟨HI8.out.xt HX9⟩
   have k9:Bk w9 gS #[A B s.num,C AP nP cP,C AB nB cB,C AX nX cX] 29/\Bk w9 gI #[C AS nl cS,C AG nl cG] 45:=⟨HF9.out.at_ 0 rfl,HF9.out.at_ 1 rfl⟩
   clear hthr HT9 HX9 HF8 HS8 HI8;refine hK.out _ _ (fun _=>k9) ?_;clear hK K;try simp only[Act.put,List.setIfInBounds_toArray,M5,List.set_cons_succ]
   refine Cw 4 (by kernel_rfl) rfl (fun K hK=>?_);go_simp;refine (MD _ _ s t td tf tl _ (p:=w.heap.size) HF9.out.lt HS9.out HI9.out (by rw[HTL.out.1];omega) (by rw[HTL.out.2];omega)).mono ?_;rintro e w10 ⟨⟨va,ya,rfl,hra,hya⟩,hx10⟩;obtain⟨q1,q2⟩:=QG HWH.out HMM.out HVD.out;rw[<-HT.out]at q1 q2;have HRW:Bx (Me w.heap.size w10 va (s.xp.map (Mk s t td tf tl))):=⟨by rw[<-q2,<-hya];exact hra.isS HF9.out.lt⟩
   obtain⟨AV,nV,cV,rfl,-⟩:=HRW.out.open_;rw[q1];have HF10:Bx (LF w.heap.size w1 w10 [(gS,#[A B s.num,C AP nP cP,C AB nB cB,C AX nX cX],29),(gI,#[C AS nl cS,C AG nl cG],45)]):=⟨HF9.out.ext hx10⟩
   have HS10:Bx (aR w.heap.size w10 (.agg #[A B s.num,C AP nP cP,C AB nB cB,C AX nX cX]) s):=⟨HS9.out.ext hx10⟩
   have k10:Bk w10 gS #[A B s.num,C AP nP cP,C AB nB cB,C AX nX cX] 29/\Bk w10 gI #[C AS nl cS,C AG nl cG] 45:=⟨HF10.out.at_ 0 rfl,HF10.out.at_ 1 rfl⟩
   clear hra hya hx10 q1 q2 HF9 HS9 HI9 k9;refine hK.out _ _ (fun _=>k10) ?_;clear hK K;try simp only[Act.put,List.setIfInBounds_toArray,M5,List.set_cons_succ]
   refine ur 3 [(5,49),(6,55),(7,56)] rfl (by kernel_rfl) (by kernel_rfl) (fun _ _ _ _ _ h=>h) k10 ?_;iterate 3 (apply Ff;(case ho=>exact rfl);(case hw=>exact rfl);(case hy=>((intro wk hk);(try dsimp only at hk);have z0:=hk.1.cell (i:=0) rfl;have z1:=hk.1.cell (i:=1) rfl;have z2:=hk.1.cell (i:=2) rfl;have z3:=hk.1.cell (i:=3) rfl;have i0:=hk.2.cell (i:=0) rfl;have i1:=hk.2.cell (i:=1) rfl;go_simp;try with_reducible rfl));(case hput=>(simp only[Act.put,List.setIfInBounds_toArray,List.set_cons_zero,List.set_cons_succ];exact rfl)))
   refine Lh ?_;refine Cw 8 (by kernel_rfl) rfl (fun K hK=>?_);go_simp;refine hK.out _ _ (fun _=>k10) ?_;clear hK K;try simp only[Act.put,List.setIfInBounds_toArray,M5,List.set_cons_succ]
   refine Cw 9 (by kernel_rfl) rfl (fun K hK=>?_);go_simp;refine hK.out _ _ (fun _=>k10) ?_;clear hK K;try simp only[Act.put,List.setIfInBounds_toArray,M5,List.set_cons_succ]
   refine zcw (by kernel_rfl) ?_ _;clear k10;obtain⟨vP,vB,vX,hag,hP,hB,hX,-⟩:=HS10.out;obtain⟨rfl,rfl,rfl⟩:vP=C AP nP cP/\vB=C AB nB cB/\vX=C AX nX cX:=by injection hag with hag;injection hag with hag;injection hag with _ hag;injection hag with e1 hag;injection hag with e2 hag;injection hag with e3 _;exact⟨e1.symm,e2.symm,e3.symm⟩
   have HPP:=zZ hP;have HBB:=zZ hB;have HXX:=zZ hX;have hVX:nV=nX:=by have h1:=HRW.out.len;rw[zJ]at h1;rw[<-h1];exact HXX.out.len
   have hnX:nX<=60:=by have:=HOK.out.len;have:=HXX.out.len;omega
   subst hVX;clear hag hP hB hX;have z0:=(HF10.out.at_ 0 rfl).cell (i:=0) rfl;have z1:=(HF10.out.at_ 0 rfl).cell (i:=1) rfl;have z2:=(HF10.out.at_ 0 rfl).cell (i:=2) rfl;have z3:=(HF10.out.at_ 0 rfl).cell (i:=3) rfl;have n1:((nV:Int)!=(nV:Int))=false:=by simp
   go_wp2_with fail;clear z0 z1 z2 z3;go_loopw [13] (fun s13 wr=>∃k:Nat,s13=A B k/\k<=nV/\Bx (ab w10 wr)) (fun s13 _=>nV-(intOf s13).toNat)
   case atStart=>exact⟨0,rfl,by omega,⟨zE _⟩⟩
   case round =>
    obtain⟨k,rfl,hk,HR⟩:=hrel;obtain⟨wa,rfl⟩:∃z,z=wr:=⟨_,rfl⟩
    by_cases hkn:k<nV
    ·obtain⟨bx,ox,_,_,rfl,-⟩:=HXX.out.at_ hkn;obtain⟨bv,ov,_,_,rfl,-⟩:=HRW.out.at_ hkn;obtain⟨xc,xe,xv,HX,x0,x1,x2⟩:=jh.read HXX.out HR.out.xt hkn;obtain⟨y0,y1,y2,y3,y4,ps,an,A1,m1,c1,A2,m2,c2,HY,hi1,hi2,d0,d1,d2,d3,d4,d5,d6⟩:=Me.read HRW.out HR.out hkn;obtain⟨vv,q,b,rfl,hq,hb,⟨hc1,hc2⟩,hb12,hsc,han⟩:=QR (d:=td) (f:=tf) (ld:=tl) HWH.out HMM.out HX.out;rw[<-HT.out]at hsc han;obtain⟨rfl,rfl,rfl,rfl,rfl,rfl,rfl⟩:y0=s.num*10000+xc/\y1=s.num/\y2=xc/\y3=xe/\y4=(vv:Int)/\ps=(List.range b.length).map (fun g:Nat=>100*xc+(g:Int))/\an=Mj s t td tf tl ⟨xc,xe,vv⟩:=by
      have h:=HY.out;rw[hsc]at h;injection h with h;injection h with h1 h2 h3 h4 h5 h6 h7
      exact⟨h1.symm,h2.symm,h3.symm,h4.symm,h5.symm,h6.symm,h7.symm⟩
     have hvP:vv<nP:=by have h1:=(zY.1 hq).1;have:=HPP.out.len;omega
     have hvB:vv<nB:=by have h1:=(zY.1 hb).1;have:=HBB.out.len;omega
     obtain⟨bp,op,_,_,rfl,-⟩:=HPP.out.at_ hvP;obtain⟨bb,ob,_,_,rfl,-⟩:=HBB.out.at_ hvB;obtain⟨_,q',-,hp0,⟨up,rfl,hup,-⟩,HQ'⟩:=(HPP.out.ext (BQ.stab _) HR.out).cell_ hvP;obtain⟨_,b',-,hd0,⟨ub,rfl,hub⟩,HB'⟩:=(HBB.out.ext (JY.stab _) HR.out).cell_ hvB;obtain rfl:q'=q:=by have h:=HQ'.out;rw[hq]at h;injection h with h;exact h.symm
     obtain rfl:b'=b:=by have h:=HB'.out;rw[hb]at h;injection h with h;exact h.symm
     obtain⟨Aq,nq,cq,rfl,-⟩:=hup.open_;obtain⟨Ab,nb,cb,rfl,-⟩:=hub.open_;have e2:=hp0 2 _ rfl;have f0:=hd0 0 _ rfl;simp only[wH,yQ]at f0;have hm1:m1=nb:=by have h1:=hi1.len;have h2:=hub.len;simp at h1;omega
     have hm2:m2=nq:=by have h1:=hi2.len;have h2:=hup.len;omega
     have hm12:m1<=12:=by have h2:=hub.len;omega
     subst hm1;subst hm2;have hbl:b'.length=m1:=hub.len;have HI1:=zZ hi1;have HBL:=zZ hbl;have HNX:Bx (0<=y2/\y2<=9999):=⟨hc1,hc2⟩
     clear hsc han hq hb hup hub hi1 hi2 hp0 hd0 hbl hc1 hc2 HQ' HB';have z0:=(((HF10.out.at_ 0 rfl).ext HR.out)).cell (i:=0) rfl;have z1:=(((HF10.out.at_ 0 rfl).ext HR.out)).cell (i:=1) rfl;have z2:=(((HF10.out.at_ 0 rfl).ext HR.out)).cell (i:=2) rfl;have z3:=(((HF10.out.at_ 0 rfl).ext HR.out)).cell (i:=3) rfl;have hw1:IntKind.i64.wrap (10000*s.num)=10000*s.num:=yN _ (by have:=HNB.out;omega);have hw2:IntKind.i64.wrap (10000*s.num+y2)=s.num*10000+y2:=by rw[yN _ (by have:=HNB.out;have:=HNX.out;omega)];omega
     obtain⟨gy,hgy⟩:∃z,z=wa.heap.size:=⟨_,rfl⟩
     have n2:∀y:Int,(y != y)=false:=fun y=>by simp
     go_upto_region 18 with (fail)
     obtain⟨w11,hw11⟩:∃z:World,z=(wa.alloc (.cells #[A B y2,A B y3,A B (vv:Int)] 56)):=⟨_,rfl⟩
     have HX11:ab wa w11:=by rw[hw11];exact (zE _).alloc _
     have HB11:Bk w11 gy #[A B y2,A B y3,A B (vv:Int)] 56:=by rw[hw11,hgy];exact Bk.new _ _ _
     rw[<-hw11,<-hgy];replace x0:=HX11.cell x0;replace d0:=HX11.cell d0;replace d2:=HX11.cell d2;replace d3:=HX11.cell d3;replace d4:=HX11.cell d4;replace d5:=HX11.cell d5;replace d6:=HX11.cell d6;replace z0:=HX11.cell z0;replace z1:=HX11.cell z1;replace z2:=HX11.cell z2;replace z3:=HX11.cell z3;replace e2:=HX11.cell e2;replace f0:=HX11.cell f0;have r0:=(HB11).cell (i:=0) rfl;have r1:=(HB11).cell (i:=1) rfl;have r2:=(HB11).cell (i:=2) rfl;have HRX:Bx (ab w10 w11):=⟨HR.out.trans HX11⟩
     have HBY:Bx (Bk w11 gy #[A B y2,A B y3,A B (vv:Int)] 56):=⟨HB11⟩
     clear hw11 hgy HX11 HB11;refine px 99 (fun w'=>ab w11 w') (by kernel_rfl) ?_;have kS:ab w11 w11.drew:=(zE _).drew;obtain⟨wd,hwd⟩:∃z:World,z=w11.drew:=⟨_,rfl⟩
     rw[<-hwd]at kS⊢;clear hwd;refine ur 76 [(0,82),(1,83),(2,84),(3,85),(4,86),(5,87),(6,88),(7,89),(8,90),(9,91),(10,92),(11,93),(12,94),(13,95),(14,96),(15,97),(16,98),(17,99),(18,100),(19,101),(20,102),(21,103),(22,104),(23,105),(24,106),(25,107),(26,108),(27,109),(28,110),(29,111),(30,112),(31,113),(32,114),(33,115),(34,116),(35,117),(36,118),(37,119),(38,120),(39,121),(40,122),(41,123),(42,124),(43,125),(44,126),(45,127),(46,128),(47,129),(48,130),(49,131),(50,132),(51,133),(52,134),(53,135),(54,136),(55,137),(56,138),(57,139),(58,140),(59,141),(60,142),(61,143),(62,144),(63,145),(64,146),(65,147),(66,148),(67,149),(68,150),(69,151),(70,152),(71,153),(72,154),(73,155),(74,156),(75,157)] rfl (by kernel_rfl) (by kernel_rfl) (fun _ _ _ _ _ h=>h) kS ?_;iterate 76 (apply Ff;(case ho=>exact rfl);(case hw=>exact rfl);(case hy=>((intro wk hk);(try dsimp only at hk);(replace x0:=hk.cell x0);(replace d0:=hk.cell d0);(replace d2:=hk.cell d2);(replace d3:=hk.cell d3);(replace d4:=hk.cell d4);(replace d5:=hk.cell d5);(replace d6:=hk.cell d6);(replace z0:=hk.cell z0);(replace z1:=hk.cell z1);(replace z2:=hk.cell z2);(replace z3:=hk.cell z3);(replace e2:=hk.cell e2);(replace f0:=hk.cell f0);(replace r0:=hk.cell r0);(replace r1:=hk.cell r1);(replace r2:=hk.cell r2);go_simp;try with_reducible rfl));(case hput=>(simp only[Act.put,List.setIfInBounds_toArray,List.set_cons_zero,List.set_cons_succ];exact rfl)))
     refine Lh ?_;refine zcw (by kernel_rfl) ?_ _;have HRD:Bx (ab w10 wd):=⟨HRX.out.trans kS⟩
     have HBD:Bx (Bk wd gy #[A B y2,A B y3,A B (vv:Int)] 56):=⟨HBY.out.ext kS⟩
     replace d5:=kS.cell d5;clear kS HRX HBY x0 d0 d2 d3 d4 d6 z0 z1 z2 z3 e2 f0 r0 r1 r2;go_wp2_with fail;go_loopw [15] (fun s15 wr=>∃g:Nat,s15=A B g/\g<=m1/\Bx (ab wd wr)) (fun s15 _=>m1-(intOf s15).toNat)
     case atStart=>exact⟨0,rfl,by omega,⟨zE _⟩⟩
     case round =>
      obtain⟨g,rfl,hg,HRG⟩:=hrel;replace d5:=HRG.out.cell d5;by_cases hgm:g<m1
      ·obtain⟨bA,oA,xA,rfl,hxA,HXA,-,-⟩:=(HI1.out.ext (HRD.out.trans HRG.out)).at_ hgm;obtain rfl:xA=100*y2+(g:Int):=by have h:=HXA.out;rw[zP,wJ (by rw[HBL.out];exact hgm)]at h;injection h with h;exact h.symm
       have r0:=(HBD.out.ext HRG.out).cell (i:=0) rfl;have hw3:IntKind.i64.wrap (100*y2)=100*y2:=yN _ (by have:=HNX.out;omega);have hw4:IntKind.i64.wrap (100*y2+(g:Int))=100*y2+(g:Int):=yN _ (by have:=HNX.out;omega);go_upto_region 23 with (fail)
       refine px 99 (fun w'=>ab wr w') (by kernel_rfl) ?_;have kS:ab wr wr.drew:=(zE _).drew;obtain⟨we,hwe⟩:∃z:World,z=wr.drew:=⟨_,rfl⟩
       rw[<-hwe]at kS⊢;clear hwe;refine ur 14 [(0,168),(1,169),(2,170),(3,171),(4,172),(5,173),(6,174),(7,175),(8,176),(9,177),(10,178),(11,179),(12,180),(13,181)] rfl (by kernel_rfl) (by kernel_rfl) (fun _ _ _ _ _ h=>h) kS ?_;iterate 14 (apply Ff;(case ho=>exact rfl);(case hw=>exact rfl);(case hy=>((intro wk hk);(try dsimp only at hk);(replace d5:=hk.cell d5);(replace hxA:=hk.cell hxA);(replace r0:=hk.cell r0);go_simp;try with_reducible rfl));(case hput=>(simp only[Act.put,List.setIfInBounds_toArray,List.set_cons_zero,List.set_cons_succ];exact rfl)))
       refine Lh ?_;refine zcw (by kernel_rfl) ?_ _;have HRE:Bx (ab wd we):=⟨HRG.out.trans kS⟩
       clear kS d5 hxA r0;go_wp2_with fail;go_roundw
       case rel=>exact⟨g+1,by go_num,by omega,HRE⟩
       case measure=>simp[intOf];omega
      ·obtain rfl:g=m1:=by omega
       go_wp2_with fail;go_roundw
       case rel=>exact⟨k+1,by go_num,by omega,⟨HRD.out.trans HRG.out⟩⟩
       case measure=>simp[intOf];omega
    ·go_wp2_with fail;refine (wS _).mono ?_;rintro e w12 ⟨rfl,hx12⟩;go_wp2_with fail;go_ret
     exact⟨rfl,((HF10.out.fin HE.out).trans HR.out).trans hx12⟩
end Go.Proofs.YtpaidaphacoblaaGreatDoor

