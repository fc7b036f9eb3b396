import Derived.Deep.CutBlock
import Derived.Test.YtkaajgoeahahpaaGreatDoorRowV
import Derived.Test.YtkaajgoeahahpaaGreatDoorAwkX
import Derived.Test.YtkaajgoeahahpaaGreatDoorSitU
import Derived.Test.YtkaajgoeahahpaaGreatDoorScC
import Derived.Test.YtkaajgoeahahpaaGreatDoorK58
set_option linter.all false
set_option maxRecDepth 100000
set_option maxHeartbeats 0
namespace Go.Proofs.YtkaajgoeahahpaaGreatDoor
open Go.Value renaming int→B,slice→D
open Go.IntKind renaming i64→C
open Go.RowKit _root_.Go.Proofs.Tryz
set_option maxRecDepth 100000 in
set_option maxHeartbeats 16000000 in
theorem ee(v0:Value)(l0:List Int)(a1:Int)(w:World)(h0:ak w.heap.size w v0 l0)(h1:aU a1)(hT:cK w) :
  Calls prog 12 #[v0,B C a1] w fun e w'=>e=.returned (.bool true)/\ab w w':=by
 have HA1:=zZ h1;clear h1;have H0:=zZ h0;have HB:=zZ hT;clear h0 hT;go_enter func12,ntmps12
 go_wp2_with fail;refine (ib _ l0 _ H0.out).mono ?_;rintro e w1 ⟨rfl,HT1,HE1⟩;have HE:=zZ HE1;have HF1:Bx (LF w.heap.size w1 w1 []):=⟨LF.start HT1 (HB.out.ext HE1) HB.out.lt⟩
 clear HT1 HE1;go_wp2_with fail;refine (dp _ 0 _ HF1.out.fr.tp (by omega) (by omega)).mono ?_;rintro e w2 ⟨v2,rfl,⟨s,hsv,hwf,hok⟩,HT2,HX2⟩;have hs2:=hsv.isSit hwf HF1.out.fr.hp;have HWF:=zZ hwf;obtain⟨AP,nP,cP,AB,nB,cB,AX,nX,cX,rfl⟩:=hs2.op;have HOK:=zZ (hok rfl);obtain⟨gS,hgS⟩:∃z,z=w2.heap.size:=⟨_,rfl⟩
 obtain⟨w3,hw3⟩:∃z:World,z=(w2.alloc (.cells #[B C s.num,D AP nP cP,D AB nB cB,D AX nX cX] 27)):=⟨_,rfl⟩
 have HF3:Bx (LF w.heap.size w1 w3 [(gS,#[B C s.num,D AP nP cP,D AB nB cB,D AX nX cX],27)]):=⟨by rw[hw3];exact (HF1.out.step HX2 HT2).push _ _ hgS.symm⟩
 have HS3:Bx (aR w.heap.size w3 (.agg #[B C s.num,D AP nP cP,D AB nB cB,D AX nX cX]) s):=⟨by rw[hw3];exact hs2.ext ((zE _).alloc _)⟩
 clear hs2 hsv hwf hok;go_upto_region 3 with (fail)
 rw[<-hw3,<-hgS];clear hw3 hgS HT2 HX2 HF1;have z0:=(HF3.out.at_ 0 rfl).cell (i:=0) rfl;have z1:=(HF3.out.at_ 0 rfl).cell (i:=1) rfl;have z2:=(HF3.out.at_ 0 rfl).cell (i:=2) rfl;have z3:=(HF3.out.at_ 0 rfl).cell (i:=3) rfl;go_wp2_with fail;refine (dP _ _ s 10 _ HF3.out.fr.tp HS3.out HWF.out (by omega)).mono ?_;rintro e w4 ⟨v4,rfl,⟨ys,hrow,hyl⟩,HT4,HX4⟩;have hcs:=hrow.isCs HF3.out.lt;have hyl2:(ys.map Prod.fst).length<=24:=by rw[zJ];omega
 have hst:∀c∈ys.map Prod.fst,JF c.st:=fun c hc=>by obtain⟨y,hy,rfl⟩:=zF.1 hc;exact (hrow.el y hy).2.st
 obtain⟨l,hl⟩:∃z,z=ys.map Prod.fst:=⟨_,rfl⟩
 rw[<-hl]at hcs hyl2 hst;have HSP:=zZ hst;clear hst;obtain⟨AC,cC,rfl⟩:∃A c,v4=D A l.length c:=by obtain⟨A,n,c,rfl,-⟩:=hcs.open_;rw[hcs.len];exact⟨_,_,rfl⟩
 obtain⟨nl,hnl⟩:∃z,z=l.length:=⟨_,rfl⟩
 rw[<-hnl]at hcs hyl2⊢;have HLN:=zZ hnl;have HC4:Bx (au w.heap.size w4 (D AC nl cC) l):=⟨hcs⟩
 have HF4:Bx (LF w.heap.size w1 w4 [(gS,#[B C s.num,D AP nP cP,D AB nB cB,D AX nX cX],27)]):=⟨HF3.out.step HX4 HT4⟩
 have HS4:Bx (aR w.heap.size w4 (.agg #[B C s.num,D AP nP cP,D AB nB cB,D AX nX cX]) s):=⟨HS3.out.xt HX4⟩
 clear hcs hrow hyl hl hnl HT4 HX4 HF3 HS3;clear z0 z1 z2 z3;have HCK:Bx (aC s=0):=⟨iL.2 HOK.out⟩
 go_upto_region 4 with (fail)
 have z0:=(HF4.out.at_ 0 rfl).cell (i:=0) rfl;have z1:=(HF4.out.at_ 0 rfl).cell (i:=1) rfl;have z2:=(HF4.out.at_ 0 rfl).cell (i:=2) rfl;have z3:=(HF4.out.at_ 0 rfl).cell (i:=3) rfl;go_wp2_with fail;refine (aW _ _ s l _ HF4.out.lt HF4.out.tb HS4.out HC4.out (by have:=HLN.out;omega)).mono ?_;rintro e wb ⟨⟨vI,rfl,hI⟩,hx6⟩;rw[show rM s l=cQ s (ay l) from if_pos HCK.out]at hI;rw[HCK.out];obtain⟨AS,cS,AG,cG,rfl⟩:=hI.op;obtain⟨t,ht⟩:∃z,z=cQ s (ay l):=⟨_,rfl⟩
 rw[<-ht]at hI⊢;obtain⟨ns,hns⟩:∃z,z=t.sts.length:=⟨_,rfl⟩
 obtain⟨ng,hng⟩:∃z,z=t.pgs.length:=⟨_,rfl⟩
 rw[<-hns,<-hng]at hI⊢;have HTT:=zZ ht;have HNS:=zZ hns;have HNG:=zZ hng;clear ht hns hng;obtain⟨gI,hgI⟩:∃z,z=wb.heap.size:=⟨_,rfl⟩
 obtain⟨w5,hw5⟩:∃z:World,z=(wb.alloc (.cells #[D AS ns cS,D AG ng cG] 59)):=⟨_,rfl⟩
 have hx5:ab w4 w5:=by rw[hw5];exact hx6.alloc _
 have HF5:Bx (LF w.heap.size w1 w5 [(gS,#[B C s.num,D AP nP cP,D AB nB cB,D AX nX cX],27),(gI,#[D AS ns cS,D AG ng cG],59)]):=⟨by rw[hw5];exact (HF4.out.ext hx6).push _ _ hgI.symm⟩
 have HI5:Bx (aK w.heap.size w5 (.agg #[D AS ns cS,D AG ng cG]) t):=⟨by rw[hw5];exact hI.ext ((zE _).alloc _)⟩
 have HS5:Bx (aR w.heap.size w5 (.agg #[B C s.num,D AP nP cP,D AB nB cB,D AX nX cX]) s):=⟨HS4.out.ext hx5⟩
 have HC5:Bx (au w.heap.size w5 (D AC nl cC) l):=⟨bj.ext HC4.out (bR.stab _) hx5⟩
 clear hI hx6 hx5;go_upto_region 5 with (fail)
 rw[<-hw5,<-hgI];clear hw5 hgI HF4 HS4 HC4 z0 z1 z2 z3;have HSS:Bx (rA w.heap.size w5 (D AS ns cS) t.sts):=⟨by obtain⟨_,_,e,h,-⟩:=HI5.out;obtain⟨rfl,-⟩:=Kw e;exact h⟩
 have HGG:Bx (Ce w.heap.size w5 (D AG ng cG) t.pgs):=⟨by obtain⟨_,_,e,-,h⟩:=HI5.out;obtain⟨-,rfl⟩:=Kw e;exact h⟩
 have hns3:ns<=24:=by have h1:=L7 s (ay l);have h2:=Bd l;rw[<-HTT.out,<-HNS.out]at h1;rw[<-HLN.out]at h2;omega
 have hng3:ng<=24:=by have h1:=Ma s (ay l);have h2:=Bd l;rw[<-HTT.out,<-HNG.out]at h1;rw[<-HLN.out]at h2;omega
 obtain⟨iS,hiS,hS0,hS1,hS2⟩:=info_parts Tryz.infoSst;obtain⟨iC,hiC,hC0,hC1,hC2⟩:=info_parts Tryz.infoCap;have gL':=ij;have gI':=fC;have i0:=(HF5.out.at_ 1 rfl).cell (i:=0) rfl;go_wp2_with fail;clear i0;go_loopw [10,11] (fun s10 s11 wr=>∃(k n c:Nat) (A:Option Addr),s10=D A n c/\s11=B C k/\k<=ns/\n<=k/\Bx (ah w5.heap.size 67 7 (cU w) wr (D A n c) (bI (t.sts.take k))/\ab w5 wr)) (fun _ s11 _=>ns-(intOf s11).toNat)
 case atStart=>exact⟨0,0,0,none,rfl,rfl,by omega,by omega,⟨ah.nil,zE _⟩⟩
 case round =>
  obtain⟨k,n,c,A,rfl,rfl,hk,hn,HR⟩:=hrel;have HLEN:Bx ((bI (t.sts.take k)).length=n):=⟨(HR.out.1.isS (p:=w.heap.size) (by decide) HF5.out.lt (fun _ _ h=>h):rA w.heap.size wr _ _).len⟩
  have i0:=((HF5.out.at_ 1 rfl).ext HR.out.2).cell (i:=0) rfl;by_cases hkn:k<ns
  ·clear i0;obtain⟨b,off,_,_,rfl,-⟩:=HSS.out.at_ hkn;obtain⟨cs,⟨⟨ys,yq⟩,yt,⟨ya,yb,yc,yd⟩⟩,-,hc0,⟨hcs,hyw⟩,HY⟩:=((HSS.out.ext (cU.stab _) HR.out.2)).cell_ hkn;have y0:=hc0 0 (B C ys) (by rw[hcs];rfl);have y1:=hc0 1 (B C yq) (by rw[hcs];rfl);have y2:=hc0 2 (B C yt) (by rw[hcs];rfl);have y3:=hc0 3 (B C ya) (by rw[hcs];rfl);have y4:=hc0 4 (B C yb) (by rw[hcs];rfl);have y5:=hc0 5 (B C yc) (by rw[hcs];rfl);have y6:=hc0 6 (B C yd) (by rw[hcs];rfl);rw[yQ]at y0;clear hc0 hcs;have HYW:=zZ hyw;clear hyw;have HTK:Bx (t.sts.take (k+1)=t.sts.take k++[⟨⟨ys,yq⟩,yt,⟨ya,yb,yc,yd⟩⟩]):=⟨by rw[List.take_add_one,HY.out];rfl⟩
   have HAT:Bx (bI (t.sts.take (k+1))=t7 (bI (t.sts.take k)) ⟨⟨ys,yq⟩,yt,⟨ya,yb,yc,yd⟩⟩):=⟨by rw[HTK.out,o0]⟩
   have i0:=((HF5.out.at_ 1 rfl).ext HR.out.2).cell (i:=0) rfl;go_upto_block 1 with (fail)
   go_cut [10] (fun s10 wx=>∃(n' c':Nat) (A':Option Addr),s10=D A' n' c'/\n'<=k+1/\Bx (ah w5.heap.size 67 7 (cU w) wx (D A' n' c') (bI (t.sts.take (k+1)))/\ab w5 wx))
   case first =>
    by_cases h3:yt=3
    ·subst h3;rcases vE n with h0|h0
     ·subst h0;have hnil:bI (t.sts.take k)=[]:=xZ HLEN.out;have HAP:Bx (bI (t.sts.take (k+1))=bI (t.sts.take k)++[⟨⟨ys,yq⟩,3,⟨ya,yb,yc,yd⟩⟩]):=⟨by rw[HAT.out,hnil];exact uS rfl⟩
      clear hnil;go_upto_region 11 with (fail)
      refine px 99 (fun w'=>ab wr w') (by kernel_rfl) ?_;have kS:ab wr wr.drew:=(zE _).drew;obtain⟨wd,hwd⟩:∃z:World,z=wr.drew:=⟨_,rfl⟩
      rw[<-hwd]at kS⊢;clear hwd;refine ur 25 [(0,43),(1,44),(2,45),(3,46),(4,47),(5,48),(6,49),(7,50),(8,51),(9,52),(10,53),(11,54),(12,55),(13,56),(14,57),(15,58),(16,59),(17,60),(18,61),(19,62),(20,63),(21,64),(22,65),(23,66),(24,67)] rfl (by kernel_rfl) (by kernel_rfl) (fun _ _ _ _ _ h=>h) kS ?_;iterate 12 (apply Ff;(case ho=>exact rfl);(case hw=>exact rfl);(case hy=>((intro wk hk);(try dsimp only at hk);(replace i0:=hk.cell i0);(replace y2:=hk.cell y2);go_simp;try with_reducible rfl));(case hput=>(simp only[Act.put,List.setIfInBounds_toArray,List.set_cons_zero,List.set_cons_succ];exact rfl)))
      iterate 11 (apply Eo;(case ho=>exact rfl);(case hw=>exact rfl);(case hput=>(simp only[Act.put,List.setIfInBounds_toArray,vA,List.set_cons_succ];exact rfl)))
      iterate 2 (apply Ff;(case ho=>exact rfl);(case hw=>exact rfl);(case hy=>((intro wk hk);(try dsimp only at hk);(replace i0:=hk.cell i0);(replace y2:=hk.cell y2);go_simp;try with_reducible rfl));(case hput=>(simp only[Act.put,List.setIfInBounds_toArray,List.set_cons_zero,List.set_cons_succ];exact rfl)))
      refine Lh ?_;refine zc (by kernel_rfl) ?_ _;replace i0:=kS.cell i0;replace y0:=kS.cell y0;replace y1:=kS.cell y1;replace y2:=kS.cell y2;replace y3:=kS.cell y3;replace y4:=kS.cell y4;replace y5:=kS.cell y5;replace y6:=kS.cell y6;have HR2:Bx (ah w5.heap.size 67 7 (cU w) wd (D A 0 c) (bI (t.sts.take k))/\ab w5 wd):=⟨HR.out.1.ext kS,HR.out.2.trans kS⟩
      clear kS;go_wp2_with (at_builtin;go_loud (refine dq _ rfl (.tmp 68) (.tmp 74) 56 rfl w5.heap.size 67 iS _ 7 56 underlying56 hiS hS0 hS1 hS2 rfl (by omega) (cU w) _ _ rfl (HR2.out.1.ext ((zE _).alloc _)) _ #[B C ys,B C yq,B C 3,B C ya,B C yb,B C yc,B C yd] _ ⟨⟨ys,yq⟩,3,⟨ya,yb,yc,yd⟩⟩ rfl (heap_alloc_new _ _) rfl (by simp[Value.oneCell']) ⟨rfl,HYW.out⟩ (by have:=HLEN.out;omega) (by omega) (by have:=HR2.out.2.size;simp;omega) ?_;intro v9 w19 hown9 hg9;obtain⟨A9,n9,c9,rfl,-⟩:=(hown9.isS (p:=w.heap.size) (by decide) HF5.out.lt (fun _ _ h=>h):rA w.heap.size w19 v9 _).open_;have hl9:=(hown9.isS (p:=w.heap.size) (by decide) HF5.out.lt (fun _ _ h=>h):rA w.heap.size w19 _ _).len;have HL9:Bx (n9=0+1):=⟨by rw[yU,HLEN.out]at hl9;simpa using hl9.symm⟩;have HR3:Bx (ah w5.heap.size 67 7 (cU w) w19 (D A9 n9 c9) (bI (t.sts.take (k+1)))/\ab w5 w19):=⟨by rw[HAP.out];exact hown9,(HR2.out.2.alloc _).grown hg9 HR2.out.1.ge⟩;clear hown9 hg9 hl9));go_meet
      exact⟨n9,c9,A9,rfl,by have:=HL9.out;omega,HR3⟩
     ·have hn0:((n:Int)==0)=false:=by simp;omega
      have hAS:rA w.heap.size wr (D A n c) (bI (t.sts.take k)):=HR.out.1.isS (by decide) HF5.out.lt (fun _ _ h=>h);obtain⟨ba,oa,_,_,rfl,-⟩:=hAS.at_ h0;obtain⟨cs2,⟨⟨zs,zq⟩,zt,⟨za,zb,zcu,zd⟩⟩,-,hc0,⟨hcs,hzw⟩,HZ⟩:=(hAS).cell_ h0;have z0:=hc0 0 (B C zs) (by rw[hcs];rfl);have z1:=hc0 1 (B C zq) (by rw[hcs];rfl);have z2:=hc0 2 (B C zt) (by rw[hcs];rfl);have z3:=hc0 3 (B C za) (by rw[hcs];rfl);have z4:=hc0 4 (B C zb) (by rw[hcs];rfl);have z5:=hc0 5 (B C zcu) (by rw[hcs];rfl);have z6:=hc0 6 (B C zd) (by rw[hcs];rfl);rw[yQ]at z0;clear hc0 hcs;clear hAS hzw z0 z1 z2;rw[vQ,yQ]at z3 z4 z5 z6;have eL:=fun W=>ox ya yb yc yd za zb zcu zd W;by_cases hl:ya=za/\yb=zb/\yc=zcu/\yd=zd
      ·rw[decide_eq_true hl]at eL;have HAP:Bx (bI (t.sts.take (k+1))=bI (t.sts.take k)++[⟨⟨ys,yq⟩,3,⟨ya,yb,yc,yd⟩⟩]):=⟨by rw[HAT.out];exact Ac rfl HZ.out (by obtain⟨rfl,rfl,rfl,rfl⟩:=hl;rfl)⟩
       clear hl;go_upto_region 11 with (fail)
       refine px 99 (fun w'=>ab wr w') (by kernel_rfl) ?_;have kS:ab wr wr.drew:=(zE _).drew;obtain⟨wd,hwd⟩:∃z:World,z=wr.drew:=⟨_,rfl⟩
       rw[<-hwd]at kS⊢;clear hwd;refine ur 25 [(0,43),(1,44),(2,45),(3,46),(4,47),(5,48),(6,49),(7,50),(8,51),(9,52),(10,53),(11,54),(12,55),(13,56),(14,57),(15,58),(16,59),(17,60),(18,61),(19,62),(20,63),(21,64),(22,65),(23,66),(24,67)] rfl (by kernel_rfl) (by kernel_rfl) (fun _ _ _ _ _ h=>h) kS ?_;iterate 25 (apply Ff;(case ho=>exact rfl);(case hw=>exact rfl);(case hy=>((intro wk hk);(try dsimp only at hk);(replace i0:=hk.cell i0);(replace y2:=hk.cell y2);(replace y3:=hk.cell y3);(replace y4:=hk.cell y4);(replace y5:=hk.cell y5);(replace y6:=hk.cell y6);(replace z3:=hk.cell z3);(replace z4:=hk.cell z4);(replace z5:=hk.cell z5);(replace z6:=hk.cell z6);go_simp;try with_reducible rfl));(case hput=>(simp only[Act.put,List.setIfInBounds_toArray,List.set_cons_zero,List.set_cons_succ];exact rfl)))
       refine Lh ?_;refine zc (by kernel_rfl) ?_ _;clear eL z3 z4 z5 z6;replace i0:=kS.cell i0;replace y0:=kS.cell y0;replace y1:=kS.cell y1;replace y2:=kS.cell y2;replace y3:=kS.cell y3;replace y4:=kS.cell y4;replace y5:=kS.cell y5;replace y6:=kS.cell y6;have HR2:Bx (ah w5.heap.size 67 7 (cU w) wd (D (some ⟨ba,oa,none⟩) n c) (bI (t.sts.take k))/\ab w5 wd):=⟨HR.out.1.ext kS,HR.out.2.trans kS⟩
       clear kS;go_wp2_with (at_builtin;go_loud (refine dq _ rfl (.tmp 68) (.tmp 74) 56 rfl w5.heap.size 67 iS _ 7 56 underlying56 hiS hS0 hS1 hS2 rfl (by omega) (cU w) _ _ rfl (HR2.out.1.ext ((zE _).alloc _)) _ #[B C ys,B C yq,B C 3,B C ya,B C yb,B C yc,B C yd] _ ⟨⟨ys,yq⟩,3,⟨ya,yb,yc,yd⟩⟩ rfl (heap_alloc_new _ _) rfl (by simp[Value.oneCell']) ⟨rfl,HYW.out⟩ (by have:=HLEN.out;omega) (by omega) (by have:=HR2.out.2.size;simp;omega) ?_;intro v9 w19 hown9 hg9;obtain⟨A9,n9,c9,rfl,-⟩:=(hown9.isS (p:=w.heap.size) (by decide) HF5.out.lt (fun _ _ h=>h):rA w.heap.size w19 v9 _).open_;have hl9:=(hown9.isS (p:=w.heap.size) (by decide) HF5.out.lt (fun _ _ h=>h):rA w.heap.size w19 _ _).len;have HL9:Bx (n9=n+1):=⟨by rw[yU,HLEN.out]at hl9;simpa using hl9.symm⟩;have HR3:Bx (ah w5.heap.size 67 7 (cU w) w19 (D A9 n9 c9) (bI (t.sts.take (k+1)))/\ab w5 w19):=⟨by rw[HAP.out];exact hown9,(HR2.out.2.alloc _).grown hg9 HR2.out.1.ge⟩;clear hown9 hg9 hl9));go_meet
       exact⟨n9,c9,A9,rfl,by have:=HL9.out;omega,HR3⟩
      ·rw[decide_eq_false hl]at eL;have HNO:Bx (bI (t.sts.take (k+1))=bI (t.sts.take k)):=⟨by rw[HAT.out];exact zI HZ.out (fun h=>hl (by injection h with h1 h2 h3 h4;exact⟨h1,h2,h3,h4⟩))⟩
       go_upto_region 11 with (fail)
       refine px 99 (fun w'=>ab wr w') (by kernel_rfl) ?_;have kS:ab wr wr.drew:=(zE _).drew;obtain⟨wd,hwd⟩:∃z:World,z=wr.drew:=⟨_,rfl⟩
       rw[<-hwd]at kS⊢;clear hwd;refine ur 25 [(0,43),(1,44),(2,45),(3,46),(4,47),(5,48),(6,49),(7,50),(8,51),(9,52),(10,53),(11,54),(12,55),(13,56),(14,57),(15,58),(16,59),(17,60),(18,61),(19,62),(20,63),(21,64),(22,65),(23,66),(24,67)] rfl (by kernel_rfl) (by kernel_rfl) (fun _ _ _ _ _ h=>h) kS ?_;iterate 25 (apply Ff;(case ho=>exact rfl);(case hw=>exact rfl);(case hy=>((intro wk hk);(try dsimp only at hk);(replace i0:=hk.cell i0);(replace y2:=hk.cell y2);(replace y3:=hk.cell y3);(replace y4:=hk.cell y4);(replace y5:=hk.cell y5);(replace y6:=hk.cell y6);(replace z3:=hk.cell z3);(replace z4:=hk.cell z4);(replace z5:=hk.cell z5);(replace z6:=hk.cell z6);go_simp;try with_reducible rfl));(case hput=>(simp only[Act.put,List.setIfInBounds_toArray,List.set_cons_zero,List.set_cons_succ];exact rfl)))
       refine Lh ?_;refine zc (by kernel_rfl) ?_ _;clear eL z3 z4 z5 z6;have HR2:Bx (ah w5.heap.size 67 7 (cU w) wd (D (some ⟨ba,oa,none⟩) n c) (bI (t.sts.take (k+1)))/\ab w5 wd):=⟨by rw[HNO.out];exact HR.out.1.ext kS,HR.out.2.trans kS⟩
       clear kS;go_wp2_with fail;go_meet
       exact⟨n,c,(some ⟨ba,oa,none⟩),rfl,by omega,HR2⟩
    ·have hk1:(yt==3)=false:=by simpa using h3
     have HNO:Bx (bI (t.sts.take (k+1))=bI (t.sts.take k)):=⟨by rw[HAT.out];exact L5 h3⟩
     go_upto_region 11 with (fail)
     refine px 99 (fun w'=>ab wr w') (by kernel_rfl) ?_;have kS:ab wr wr.drew:=(zE _).drew;obtain⟨wd,hwd⟩:∃z:World,z=wr.drew:=⟨_,rfl⟩
     rw[<-hwd]at kS⊢;clear hwd;refine ur 25 [(0,43),(1,44),(2,45),(3,46),(4,47),(5,48),(6,49),(7,50),(8,51),(9,52),(10,53),(11,54),(12,55),(13,56),(14,57),(15,58),(16,59),(17,60),(18,61),(19,62),(20,63),(21,64),(22,65),(23,66),(24,67)] rfl (by kernel_rfl) (by kernel_rfl) (fun _ _ _ _ _ h=>h) kS ?_;iterate 8 (apply Ff;(case ho=>exact rfl);(case hw=>exact rfl);(case hy=>((intro wk hk);(try dsimp only at hk);(replace i0:=hk.cell i0);(replace y2:=hk.cell y2);go_simp;try with_reducible rfl));(case hput=>(simp only[Act.put,List.setIfInBounds_toArray,List.set_cons_zero,List.set_cons_succ];exact rfl)))
     iterate 16 (apply Eo;(case ho=>exact rfl);(case hw=>exact rfl);(case hput=>(simp only[Act.put,List.setIfInBounds_toArray,vA,List.set_cons_succ];exact rfl)))
     (apply Ff;(case ho=>exact rfl);(case hw=>exact rfl);(case hy=>((intro wk hk);(try dsimp only at hk);(replace i0:=hk.cell i0);(replace y2:=hk.cell y2);go_simp;try with_reducible rfl));(case hput=>(simp only[Act.put,List.setIfInBounds_toArray,List.set_cons_zero,List.set_cons_succ];exact rfl)));refine Lh ?_;refine zc (by kernel_rfl) ?_ _;have HR2:Bx (ah w5.heap.size 67 7 (cU w) wd (D A n c) (bI (t.sts.take (k+1)))/\ab w5 wd):=⟨by rw[HNO.out];exact HR.out.1.ext kS,HR.out.2.trans kS⟩
     clear kS;go_wp2_with fail;go_meet
     exact⟨n,c,A,rfl,by omega,HR2⟩
   case rest =>
   obtain⟨n2,c2,A2,rfl,hn2,HR2⟩:=hcut;go_wp2_with fail;go_roundw
   case rel=>exact⟨k+1,n2,c2,A2,rfl,by go_num,by omega,hn2,HR2⟩
   case measure=>simp[intOf];omega
  ·obtain rfl:ns=k:=by omega
   obtain⟨wa,rfl⟩:∃z,z=wr:=⟨_,rfl⟩
   obtain⟨LA,hLA⟩:∃z,z=bI t.sts:=⟨_,rfl⟩
   have HAL:Bx (ah w5.heap.size 67 7 (cU w) wa (D A n c) LA):=⟨by have h:=HR.out.1;rw[xV (by have:=HNS.out;omega),<-hLA]at h;exact h⟩
   have HLN2:Bx (LA.length=n):=⟨by have h:=HLEN.out;rw[xV (by have:=HNS.out;omega),<-hLA]at h;exact h⟩
   have HXA:Bx (ab w5 wa):=⟨HR.out.2⟩
   clear HR HLEN;by_cases hn0:n=0
   ·subst hn0;go_wp2_with fail;refine (cN _ (HF5.out.tb.ext HXA.out)).mono ?_;rintro e w7 ⟨rfl,hx7⟩;go_wp2_with fail;go_ret
    exact⟨rfl,((HF5.out.fin HE.out).trans HXA.out).trans hx7⟩
   have hrej:=L0 (s:=s) HSP.out (by rw[<-HTT.out,<-hLA,HLN2.out];omega) (by rw[<-HTT.out,<-hLA];intro h;rw[h]at HLN2;exact hn0 HLN2.out.symm);rw[<-HTT.out,<-hLA]at hrej;obtain⟨⟨La,Lb,Lc,Ld⟩,h2n,hlab,hall⟩:=hrej;rw[HLN2.out]at h2n;have HLB:=zZ hlab;have hAS:rA w.heap.size wa (D A n c) LA:=HAL.out.isS (by decide) HF5.out.lt (fun _ _ h=>h);obtain⟨ba,oa,_,_,rfl,-⟩:=hAS.at_ (by omega:0<n);have HAS:=zZ hAS;have hbd:0<=eW a1 n/\eW a1 n<n:=⟨vn _ _,vy _ _ (by omega)⟩
   obtain⟨kk,hkk⟩:=zG hbd.1;have hkn2:kk<n:=by have:=hbd.2;omega
   have HKK:=zZ hkk;obtain⟨akx,hak⟩:∃z,LA[kk]?=some z:=⟨_,zV (by have:=HLN2.out;omega)⟩
   obtain⟨p1,p2,p3⟩:=hall kk akx hak;rw[HLN2.out]at p1 p2 p3;obtain⟨t2,ht2⟩:∃z,z=cQ s (ay (l++aL LA kk n)):=⟨_,rfl⟩
   rw[<-ht2]at p1 p2 p3;obtain⟨Q,hQ⟩:∃f:Pg->Bool,f=(fun q=>!decide (q.scan=akx.scan)):=⟨_,rfl⟩
   have HQF:Bx (t2.pgs.filter Q=t.pgs/\∀x:Pg,Q x=!decide (x.scan=akx.scan)):=⟨by rw[hQ];exact p3,fun x=>by rw[hQ]⟩
   have HAK:=zZ hak;have HT2:=zZ ht2;have HP1:=zZ p1;have HP2:=zZ p2;clear hAS hlab hall hbd hkk hak p1 p2 p3 ht2 hQ hLA;have HCA:Bx (au w.heap.size wa (D AC nl cC) l):=⟨bj.ext HC5.out (bR.stab _) HXA.out⟩
   have HO0:Bx (ah wa.heap.size 47 13 (bR w.heap.size wa) (wa.alloc (.cells #[] 47)) (D (some ⟨wa.heap.size,0,none⟩) 0 0) []):=⟨EI wa⟩
   have h2f:decide ((n:Int)<2)=false:=by simp;omega
   have hn0f:((n:Int)==0)=false:=by simp;omega
   go_wp2_with fail;refine (qb a1 n _ HA1.out.1 HA1.out.2 (by omega)).mono ?_;rintro e wz ⟨rfl,rfl⟩;rw[HKK.out];go_wp2_with (at_builtin;go_loud (refine dI _ rfl (.tmp 87) (.tmp 88) 35 rfl wa.heap.size 47 iC _ 13 128 underlying35 hiC hC0 hC1 hC2 rfl (by omega) (bR w.heap.size wa) Hm _ [] rfl HO0.out w.heap.size AC nl cC l rfl (bj.ext HCA.out.at_world (fun _ _ _ _ h _=>h) ((zE _).alloc _)) (by simp;omega) (by omega) (by simp) ?_;intro v9 w19 hown9 hg9;have HM0:Bx (ah wa.heap.size 47 13 (bR w.heap.size wa) w19 v9 l/\ab wa w19):=⟨by simpa using hown9,((zE wa).alloc _).grown hg9 HO0.out.ge⟩;clear hown9 hg9));go_loopw [12,13] (fun s12 s13 wr=>∃k:Nat,s13=B C k/\k<=n/\Bx (ah wa.heap.size 47 13 (bR w.heap.size wa) wr s12 (l++aL LA kk k)/\ab wa wr)) (fun _ s13 _=>n-(intOf s13).toNat)
   case atStart=>exact⟨0,rfl,by omega,⟨by rw[x7,xN];exact HM0.out.1,HM0.out.2⟩⟩
   case round =>
    obtain⟨k,rfl,hk,HR⟩:=hrel;by_cases hkn:k<n
    ·by_cases hke:k=kk
     ·subst hke;have hb1:((k:Int)!=(k:Int))=false:=by simp
      have HR2:Bx (ah wa.heap.size 47 13 (bR w.heap.size wa) wr u12 (l++aL LA k (k+1))/\ab wa wr):=⟨by rw[eX HAK.out,if_pos rfl];exact HR.out.1,HR.out.2⟩
      go_wp2_with fail;go_roundw
      case rel=>exact⟨k+1,by go_num,by omega,HR2⟩
      case measure=>simp[intOf];omega
     ·have hb1:((k:Int)!=(kk:Int))=true:=by simp;omega
      obtain⟨cs,⟨⟨ys,yq⟩,yt,⟨ya,yb,yc,yd⟩⟩,-,hc0,⟨hcs,hyw⟩,HY⟩:=((HAS.out.ext (cU.stab _) HR.out.2)).cell_ hkn;have y0:=hc0 0 (B C ys) (by rw[hcs];rfl);have y1:=hc0 1 (B C yq) (by rw[hcs];rfl);have y2:=hc0 2 (B C yt) (by rw[hcs];rfl);have y3:=hc0 3 (B C ya) (by rw[hcs];rfl);have y4:=hc0 4 (B C yb) (by rw[hcs];rfl);have y5:=hc0 5 (B C yc) (by rw[hcs];rfl);have y6:=hc0 6 (B C yd) (by rw[hcs];rfl);rw[yQ]at y0;clear hc0 hcs;have HYW:=zZ hyw;clear hyw y2 y3 y4 y5 y6;have HRE:Bx (aL LA kk (k+1)=aL LA kk k++[i4 ⟨⟨ys,yq⟩,yt,⟨ya,yb,yc,yd⟩⟩ k]):=⟨by rw[eX HY.out,if_neg hke]⟩
      have HLE:Bx ((l++aL LA kk k).length<=1000):=⟨by have h1:=nL LA kk k;rw[yU,<-HLN.out];omega⟩
      go_wp2_with (at_builtin;go_loud (refine dq _ rfl (.tmp 99) (.tmp 108) 35 rfl wa.heap.size 47 iC _ 13 128 underlying35 hiC hC0 hC1 hC2 rfl (by omega) (bR w.heap.size wa) _ _ rfl (HR.out.1.ext ((zE _).alloc _)) _ #[B C 1000000,B C 50,B C k,B C 3,.string ⟨#[]⟩,B C 0,D none 0 0,B C ys,B C yq,B C 0,B C 0,B C 0,B C 0] _ (i4 ⟨⟨ys,yq⟩,yt,⟨ya,yb,yc,yd⟩⟩ k) rfl (heap_alloc_new _ _) rfl (by simp[Value.oneCell']) ⟨D none 0 0,rfl,ak.nil _ _,⟨⟨(by decide:aU 1000000),(by decide:aU 50),(by constructor<;>simp only[i4]<;>omega)⟩,(by decide:aU 3),by simp[i4],pM,HYW.out.1,aI,by simp[i4]⟩⟩ (by have:=HLE.out;omega) (by omega) (by have:=HR.out.2.size;simp;omega) ?_;intro v9 w19 hown9 hg9;have HR2:Bx (ah wa.heap.size 47 13 (bR w.heap.size wa) w19 v9 (l++aL LA kk (k+1))/\ab wa w19):=⟨by rw[HRE.out,<-xY];exact hown9,(HR.out.2.alloc _).grown hg9 HR.out.1.ge⟩;clear hown9 hg9));go_roundw
      case rel=>exact⟨k+1,by go_num,by omega,HR2⟩
      case measure=>simp[intOf];omega
    ·obtain rfl:n=k:=by omega
     have HF11:Bx (LF w.heap.size w1 wr [(gS,#[B C s.num,D AP nP cP,D AB nB cB,D AX nX cX],27),(gI,#[D AS ns cS,D AG ng cG],59)]):=⟨HF5.out.ext (HXA.out.trans HR.out.2)⟩
     have HS11:Bx (aR w.heap.size wr (.agg #[B C s.num,D AP nP cP,D AB nB cB,D AX nX cX]) s):=⟨HS5.out.ext (HXA.out.trans HR.out.2)⟩
     have HM11:Bx (au w.heap.size wr u12 (l++aL LA kk n)):=⟨HR.out.1.isS (by decide) (by have:=HF5.out.lt;have:=HXA.out.size;omega) (fun cs y h=>bR.stab _ _ _ cs y h HR.out.2.xt)⟩
     have HX11:Bx (ab wa wr):=⟨HR.out.2⟩
     have HLL:Bx ((l++aL LA kk n).length<=300):=⟨by have h1:=nL LA kk n;rw[yU,<-HLN.out];omega⟩
     clear HR HM0;have z0:=(HF11.out.at_ 0 rfl).cell (i:=0) rfl;have z1:=(HF11.out.at_ 0 rfl).cell (i:=1) rfl;have z2:=(HF11.out.at_ 0 rfl).cell (i:=2) rfl;have z3:=(HF11.out.at_ 0 rfl).cell (i:=3) rfl;go_wp2_with fail;refine (aW _ _ s (l++aL LA kk n) _ HF11.out.lt HF11.out.tb HS11.out HM11.out HLL.out).mono ?_;rintro e wb ⟨⟨vI,rfl,hI⟩,hxs⟩;rw[show rM s (l++aL LA kk n)=t2 from by rw[HT2.out];exact if_pos HCK.out]at hI;rw[HCK.out];obtain⟨BS,dS,BG,dG,rfl⟩:=hI.op;have HN2:Bx (t2.pgs.length=t2.pgs.length/\t2.pgs.length=ng+1):=⟨rfl,by rw[HP1.out,HNG.out]⟩
     obtain⟨gJ,hgJ⟩:∃z,z=wb.heap.size:=⟨_,rfl⟩
     obtain⟨w12,hw12⟩:∃z:World,z=(wb.alloc (.cells #[D BS t2.sts.length dS,D BG t2.pgs.length dG] 59)):=⟨_,rfl⟩
     have hx12:ab wr w12:=by rw[hw12];exact hxs.alloc _
     have HF12:Bx (LF w.heap.size w1 w12 [(gS,#[B C s.num,D AP nP cP,D AB nB cB,D AX nX cX],27),(gI,#[D AS ns cS,D AG ng cG],59),(gJ,#[D BS t2.sts.length dS,D BG t2.pgs.length dG],59)]):=⟨by rw[hw12];exact (HF11.out.ext hxs).push _ _ hgJ.symm⟩
     have HI12:Bx (aK w.heap.size w12 (.agg #[D BS t2.sts.length dS,D BG t2.pgs.length dG]) t2):=⟨by rw[hw12];exact hI.ext ((zE _).alloc _)⟩
     have HX12:Bx (ab w5 w12):=⟨(HXA.out.trans HX11.out).trans hx12⟩
     have HAS12:Bx (rA w.heap.size w12 (D (some ⟨ba,oa,none⟩) n c) LA):=⟨bj.ext HAS.out (cU.stab _) (HX11.out.trans hx12)⟩
     go_upto_region 25 with (fail)
     rw[<-hw12,<-hgJ];clear hw12 hgJ hI hxs hx12 HF11 HS11 HM11 z0 z1 z2 z3;have HGJ:Bx (Ce w.heap.size w12 (D BG t2.pgs.length dG) t2.pgs):=⟨by obtain⟨_,_,e,-,h⟩:=HI12.out;obtain⟨-,rfl⟩:=Kw e;exact h⟩
     have hn2b:t2.pgs.length<=9223372036854775807:=by have:=HN2.out.2;omega
     have i1:=(HF12.out.at_ 1 rfl).cell (i:=1) rfl;have j1:=(HF12.out.at_ 2 rfl).cell (i:=1) rfl;have hadd:IntKind.i64.wrap ((ng:Int)+1)=(t2.pgs.length:Int):=by rw[yN _ (by omega)];have:=HN2.out.2;omega
     have hne2:((t2.pgs.length:Int)!=(t2.pgs.length:Int))=false:=by simp
     go_wp2_with fail;clear hadd hne2 i1 j1;go_loopw [16] (fun s16 wr=>∃k:Nat,s16=B C k/\k<=n/\Bx (ab w12 wr)) (fun s16 _=>n-(intOf s16).toNat)
     case atStart=>exact⟨0,rfl,by omega,⟨zE _⟩⟩
     case round =>
      obtain⟨k,rfl,hk,HR⟩:=hrel;by_cases hkn:k<n
      ·have j0:=(((HF12.out.at_ 2 rfl).ext HR.out)).cell (i:=0) rfl;have j1:=(((HF12.out.at_ 2 rfl).ext HR.out)).cell (i:=1) rfl;obtain⟨cs,⟨⟨ys,yq⟩,yt,⟨ya,yb,yc,yd⟩⟩,-,hc0,⟨hcs,hyw⟩,HY⟩:=((HAS12.out.ext (cU.stab _) HR.out)).cell_ hkn;have y0:=hc0 0 (B C ys) (by rw[hcs];rfl);have y1:=hc0 1 (B C yq) (by rw[hcs];rfl);have y2:=hc0 2 (B C yt) (by rw[hcs];rfl);have y3:=hc0 3 (B C ya) (by rw[hcs];rfl);have y4:=hc0 4 (B C yb) (by rw[hcs];rfl);have y5:=hc0 5 (B C yc) (by rw[hcs];rfl);have y6:=hc0 6 (B C yd) (by rw[hcs];rfl);rw[yQ]at y0;clear hc0 hcs;clear hyw;have hlb:=HLB.out _ (zW HY.out);simp only[cJ.mk.injEq]at hlb;obtain⟨rfl,rfl,rfl,rfl⟩:=hlb;have hst:=HP2.out k _ HY.out;simp only at hst;have eL:=fun W=>ox ya yb yc yd ya yb yc yd W;rw[decide_eq_true ⟨rfl,rfl,rfl,rfl⟩]at eL;by_cases hke:k=kk
       ·subst hke;rw[if_pos rfl,if_pos rfl]at hst;have hb1:((k:Int)==(k:Int))=true:=by simp
        have hb2:((k:Int)!=(k:Int))=false:=by simp
        have HST:Bx (∀v wx,aK w.heap.size wx v t2->Calls prog 38 #[v,.agg #[B C ys,B C yq]] wx fun e w'=>e=.returned (.tuple #[.agg #[B C ys,B C yq,B C 1,B C ya,B C yb,B C yc,B C yd],.bool true])/\ab wx w'):=⟨fun v wx hx=>(mG _ t2 ys yq wx hx).mono (by rintro e w' ⟨⟨y,hy,rfl⟩,hw⟩;rw[show tU t2.sts ⟨ys,yq⟩=_ from hst]at hy⊢;subst hy;exact⟨rfl,hw⟩)⟩
        clear hst;go_upto_region 30 with (fail)
        go_cut [17,18] (fun s17 s18 wx=>∃gt,s17=.pointer (some ⟨gt,0,none⟩)/\s18=.bool true/\Bx (aA wr wx [(gt,#[B C ys,B C yq,B C 1,B C ya,B C yb,B C yc,B C yd],67)]))
        case first =>
         refine px 99 (fun w'=>ab wr w') (by kernel_rfl) ?_;have kS:ab wr wr.drew:=(zE _).drew;obtain⟨wd,hwd⟩:∃z:World,z=wr.drew:=⟨_,rfl⟩
         rw[<-hwd]at kS⊢;clear hwd;have HF30:Bx (aA wr wd []):=⟨(aA.start wr).ext kS⟩
         refine ur 6 [(0,135),(1,136),(2,137),(3,138),(4,139),(5,140)] rfl (by kernel_rfl) (by kernel_rfl) (fun _ _ _ _ _ h=>h) kS ?_;iterate 6 (apply Ff;(case ho=>exact rfl);(case hw=>exact rfl);(case hy=>((intro wk hk);(try dsimp only at hk);(replace j0:=hk.cell j0);(replace j1:=hk.cell j1);(replace y0:=hk.cell y0);(replace y1:=hk.cell y1);go_simp;try with_reducible rfl));(case hput=>(simp only[Act.put,List.setIfInBounds_toArray,List.set_cons_zero,List.set_cons_succ];exact rfl)))
         refine Lh ?_;refine an 6 10 (by kernel_rfl) rfl rfl (fun K hK=>?_) (fun K hK=>?_)
         ·skip
          go_simp;refine (HST.out _ _ (HI12.out.ext (HR.out.trans HF30.out.xt))).mono ?_;rintro e w31 ⟨rfl,hx⟩;have HF31:Bx (aA wr w31 []):=⟨HF30.out.ext hx⟩
          clear hx;have k31:=HF31.out.xt;refine hK.out _ _ (fun _=>k31) ?_;clear hK K;try simp only[Act.put,List.setIfInBounds_toArray,vA,List.set_cons_succ]
          refine ur 3 [(7,134),(8,142),(9,143)] rfl (by kernel_rfl) (by kernel_rfl) (fun _ _ _ _ _ h=>h) k31 ?_;iterate 3 (apply Ff;(case ho=>exact rfl);(case hw=>exact rfl);(case hy=>((intro wk hk);(try dsimp only at hk);(replace j0:=hk.cell j0);(replace j1:=hk.cell j1);(replace y0:=hk.cell y0);(replace y1:=hk.cell y1);go_simp;try with_reducible rfl));(case hput=>(simp only[Act.put,List.setIfInBounds_toArray,List.set_cons_zero,List.set_cons_succ];exact rfl)))
          refine Lh ?_;refine Cw 10 (by kernel_rfl) rfl (fun K hK=>?_);go_simp;obtain⟨gt,hg⟩:∃z,z=w31.heap.size:=⟨_,rfl⟩
          obtain⟨w32,hw32⟩:∃z:World,z=(w31.alloc (.cells #[B C 0,B C 0,B C 0,B C 0,B C 0,B C 0,B C 0] 67)):=⟨_,rfl⟩
          have HF32:Bx (aA wr w32 [(gt,#[B C 0,B C 0,B C 0,B C 0,B C 0,B C 0,B C 0],67)]):=⟨by rw[hw32];exact HF31.out.push _ _ hg.symm⟩
          rw[<-hw32,<-hg];clear hw32 hg;have k32:=HF32.out.xt;refine hK.out _ _ (fun _=>k32) ?_;clear hK K;try simp only[Act.put,List.setIfInBounds_toArray,vA,List.set_cons_succ]
          have j0:=(HF32.out.at_ 0 rfl).cell (i:=0) rfl;have j1:=(HF32.out.at_ 0 rfl).cell (i:=1) rfl;have j2:=(HF32.out.at_ 0 rfl).cell (i:=2) rfl;have j3:=(HF32.out.at_ 0 rfl).cell (i:=3) rfl;have j4:=(HF32.out.at_ 0 rfl).cell (i:=4) rfl;have j5:=(HF32.out.at_ 0 rfl).cell (i:=5) rfl;have j6:=(HF32.out.at_ 0 rfl).cell (i:=6) rfl;have f0:=(HF32.out.at_ 0 rfl).froz 0;have f1:=(HF32.out.at_ 0 rfl).froz 1;have f2:=(HF32.out.at_ 0 rfl).froz 2;have f3:=(HF32.out.at_ 0 rfl).froz 3;have f4:=(HF32.out.at_ 0 rfl).froz 4;have f5:=(HF32.out.at_ 0 rfl).froz 5;have f6:=(HF32.out.at_ 0 rfl).froz 6;refine Cw 11 (by kernel_rfl) rfl (fun K hK=>?_);go_simp;have hR:=HF32.out.setAll 0 rfl [B C ys,B C yq,B C 1,B C ya,B C yb,B C yc,B C yd] rfl;have kR:=hR.xt;refine hK.out _ _ (fun _=>kR) ?_;clear hK K;try simp only[Act.put,List.setIfInBounds_toArray,vA,List.set_cons_succ]
          refine Cw 12 (by kernel_rfl) rfl (fun K hK=>?_);go_simp;refine hK.out _ _ (fun _=>kR) ?_;clear hK K;try simp only[Act.put,List.setIfInBounds_toArray,vA,List.set_cons_succ]
          refine zc (by kernel_rfl) ?_ _;go_wp2_with fail;go_meet
          exact⟨gt,rfl,rfl,⟨hR⟩⟩
         ·skip
          go_simp;obtain⟨gt,hg⟩:∃z,z=wd.heap.size:=⟨_,rfl⟩
          obtain⟨w33,hw33⟩:∃z:World,z=(wd.alloc (.cells #[B C 0,B C 0,B C 0,B C 0,B C 0,B C 0,B C 0] 67)):=⟨_,rfl⟩
          have HF33:Bx (aA wr w33 [(gt,#[B C 0,B C 0,B C 0,B C 0,B C 0,B C 0,B C 0],67)]):=⟨by rw[hw33];exact HF30.out.push _ _ hg.symm⟩
          rw[<-hw33,<-hg];clear hw33 hg;have k33:=HF33.out.xt;refine hK.out _ _ (fun _=>k33) ?_;clear hK K;try simp only[Act.put,List.setIfInBounds_toArray,vA,List.set_cons_succ]
          refine Cw 6 (by kernel_rfl) rfl (fun K hK=>?_);go_simp;refine (HST.out _ _ (HI12.out.ext (HR.out.trans HF33.out.xt))).mono ?_;rintro e w34 ⟨rfl,hx⟩;have HF34:Bx (aA wr w34 [(gt,#[B C 0,B C 0,B C 0,B C 0,B C 0,B C 0,B C 0],67)]):=⟨HF33.out.ext hx⟩
          clear hx;have k34:=HF34.out.xt;refine hK.out _ _ (fun _=>k34) ?_;clear hK K;try simp only[Act.put,List.setIfInBounds_toArray,vA,List.set_cons_succ]
          refine ur 3 [(7,134),(8,142),(9,143)] rfl (by kernel_rfl) (by kernel_rfl) (fun _ _ _ _ _ h=>h) k34 ?_;iterate 3 (apply Ff;(case ho=>exact rfl);(case hw=>exact rfl);(case hy=>((intro wk hk);(try dsimp only at hk);(replace j0:=hk.cell j0);(replace j1:=hk.cell j1);(replace y0:=hk.cell y0);(replace y1:=hk.cell y1);go_simp;try with_reducible rfl));(case hput=>(simp only[Act.put,List.setIfInBounds_toArray,List.set_cons_zero,List.set_cons_succ];exact rfl)))
          refine Lh ?_;have j0:=(HF34.out.at_ 0 rfl).cell (i:=0) rfl;have j1:=(HF34.out.at_ 0 rfl).cell (i:=1) rfl;have j2:=(HF34.out.at_ 0 rfl).cell (i:=2) rfl;have j3:=(HF34.out.at_ 0 rfl).cell (i:=3) rfl;have j4:=(HF34.out.at_ 0 rfl).cell (i:=4) rfl;have j5:=(HF34.out.at_ 0 rfl).cell (i:=5) rfl;have j6:=(HF34.out.at_ 0 rfl).cell (i:=6) rfl;have f0:=(HF34.out.at_ 0 rfl).froz 0;have f1:=(HF34.out.at_ 0 rfl).froz 1;have f2:=(HF34.out.at_ 0 rfl).froz 2;have f3:=(HF34.out.at_ 0 rfl).froz 3;have f4:=(HF34.out.at_ 0 rfl).froz 4;have f5:=(HF34.out.at_ 0 rfl).froz 5;have f6:=(HF34.out.at_ 0 rfl).froz 6;refine Cw 11 (by kernel_rfl) rfl (fun K hK=>?_);go_simp;have hR:=HF34.out.setAll 0 rfl [B C ys,B C yq,B C 1,B C ya,B C yb,B C yc,B C yd] rfl;have kR:=hR.xt;refine hK.out _ _ (fun _=>kR) ?_;clear hK K;try simp only[Act.put,List.setIfInBounds_toArray,vA,List.set_cons_succ]
          refine Cw 12 (by kernel_rfl) rfl (fun K hK=>?_);go_simp;refine hK.out _ _ (fun _=>kR) ?_;clear hK K;try simp only[Act.put,List.setIfInBounds_toArray,vA,List.set_cons_succ]
          refine zc (by kernel_rfl) ?_ _;go_wp2_with fail;go_meet
          exact⟨gt,rfl,rfl,⟨hR⟩⟩
        case rest =>
        obtain⟨gt,rfl,rfl,HT⟩:=hcut;obtain⟨wb,rfl⟩:∃z,z=wc:=⟨_,rfl⟩
        replace y3:=HT.out.xt.cell y3;replace y4:=HT.out.xt.cell y4;replace y5:=HT.out.xt.cell y5;replace y6:=HT.out.xt.cell y6;clear y0 y1 y2 j0 j1;have d0:=(HT.out.at_ 0 rfl).cell (i:=0) rfl;have d1:=(HT.out.at_ 0 rfl).cell (i:=1) rfl;have d2:=(HT.out.at_ 0 rfl).cell (i:=2) rfl;have d3:=(HT.out.at_ 0 rfl).cell (i:=3) rfl;have d4:=(HT.out.at_ 0 rfl).cell (i:=4) rfl;have d5:=(HT.out.at_ 0 rfl).cell (i:=5) rfl;have d6:=(HT.out.at_ 0 rfl).cell (i:=6) rfl;go_upto_region 31 with (fail)
        refine px 99 (fun w'=>ab wb w') (by kernel_rfl) ?_;have kS:ab wb wb.drew:=(zE _).drew;obtain⟨wd,hwd⟩:∃z:World,z=wb.drew:=⟨_,rfl⟩
        rw[<-hwd]at kS⊢;clear hwd;refine ur 32 [(0,144),(1,145),(2,146),(3,147),(4,148),(5,149),(6,150),(7,151),(8,152),(9,153),(10,154),(11,155),(12,156),(13,157),(14,158),(15,159),(16,160),(17,161),(18,162),(19,163),(20,164),(21,165),(22,166),(23,167),(24,168),(25,169),(26,170),(27,171),(28,172),(29,173),(30,174),(31,175)] rfl (by kernel_rfl) (by kernel_rfl) (fun _ _ _ _ _ h=>h) kS ?_;iterate 27 (apply Ff;(case ho=>exact rfl);(case hw=>exact rfl);(case hy=>((intro wk hk);(try dsimp only at hk);(replace d2:=hk.cell d2);(replace d3:=hk.cell d3);(replace d4:=hk.cell d4);(replace d5:=hk.cell d5);(replace d6:=hk.cell d6);(replace y3:=hk.cell y3);(replace y4:=hk.cell y4);(replace y5:=hk.cell y5);(replace y6:=hk.cell y6);go_simp;try with_reducible rfl));(case hput=>(simp only[Act.put,List.setIfInBounds_toArray,List.set_cons_zero,List.set_cons_succ];exact rfl)))
        iterate 3 (apply Eo;(case ho=>exact rfl);(case hw=>exact rfl);(case hput=>(simp only[Act.put,List.setIfInBounds_toArray,vA,List.set_cons_succ];exact rfl)))
        iterate 2 (apply Ff;(case ho=>exact rfl);(case hw=>exact rfl);(case hy=>((intro wk hk);(try dsimp only at hk);(replace d2:=hk.cell d2);(replace d3:=hk.cell d3);(replace d4:=hk.cell d4);(replace d5:=hk.cell d5);(replace d6:=hk.cell d6);(replace y3:=hk.cell y3);(replace y4:=hk.cell y4);(replace y5:=hk.cell y5);(replace y6:=hk.cell y6);go_simp;try with_reducible rfl));(case hput=>(simp only[Act.put,List.setIfInBounds_toArray,List.set_cons_zero,List.set_cons_succ];exact rfl)))
        refine Lh ?_;refine zc (by kernel_rfl) ?_ _;have HR2:Bx (ab w12 wd):=⟨HR.out.trans (HT.out.xt.trans kS)⟩
        clear kS d0 d1 d2 d3 d4 d5 d6 y3 y4 y5 y6;go_wp2_with fail;go_roundw
        case rel=>exact⟨k+1,by go_num,by omega,HR2⟩
        case measure=>simp[intOf];omega
       ·rw[if_neg hke,if_neg hke]at hst;have HKE:=zZ hke;have hb1:((k:Int)==(kk:Int))=false:=by simp;omega
        have hb2:((k:Int)!=(kk:Int))=true:=by simp;omega
        clear hke;have HST:Bx (∀v wx,aK w.heap.size wx v t2->Calls prog 38 #[v,.agg #[B C ys,B C yq]] wx fun e w'=>e=.returned (.tuple #[.agg #[B C ys,B C yq,B C 6,B C 0,B C 0,B C 0,B C 0],.bool true])/\ab wx w'):=⟨fun v wx hx=>(mG _ t2 ys yq wx hx).mono (by rintro e w' ⟨⟨y,hy,rfl⟩,hw⟩;rw[show tU t2.sts ⟨ys,yq⟩=_ from hst]at hy⊢;subst hy;exact⟨rfl,hw⟩)⟩
        clear hst;go_upto_region 30 with (fail)
        go_cut [17,18] (fun s17 s18 wx=>∃gt,s17=.pointer (some ⟨gt,0,none⟩)/\s18=.bool true/\Bx (aA wr wx [(gt,#[B C ys,B C yq,B C 6,B C 0,B C 0,B C 0,B C 0],67)]))
        case first =>
         refine px 99 (fun w'=>ab wr w') (by kernel_rfl) ?_;have kS:ab wr wr.drew:=(zE _).drew;obtain⟨wd,hwd⟩:∃z:World,z=wr.drew:=⟨_,rfl⟩
         rw[<-hwd]at kS⊢;clear hwd;have HF30:Bx (aA wr wd []):=⟨(aA.start wr).ext kS⟩
         refine ur 6 [(0,135),(1,136),(2,137),(3,138),(4,139),(5,140)] rfl (by kernel_rfl) (by kernel_rfl) (fun _ _ _ _ _ h=>h) kS ?_;iterate 6 (apply Ff;(case ho=>exact rfl);(case hw=>exact rfl);(case hy=>((intro wk hk);(try dsimp only at hk);(replace j0:=hk.cell j0);(replace j1:=hk.cell j1);(replace y0:=hk.cell y0);(replace y1:=hk.cell y1);go_simp;try with_reducible rfl));(case hput=>(simp only[Act.put,List.setIfInBounds_toArray,List.set_cons_zero,List.set_cons_succ];exact rfl)))
         refine Lh ?_;refine an 6 10 (by kernel_rfl) rfl rfl (fun K hK=>?_) (fun K hK=>?_)
         ·skip
          go_simp;refine (HST.out _ _ (HI12.out.ext (HR.out.trans HF30.out.xt))).mono ?_;rintro e w31 ⟨rfl,hx⟩;have HF31:Bx (aA wr w31 []):=⟨HF30.out.ext hx⟩
          clear hx;have k31:=HF31.out.xt;refine hK.out _ _ (fun _=>k31) ?_;clear hK K;try simp only[Act.put,List.setIfInBounds_toArray,vA,List.set_cons_succ]
          refine ur 3 [(7,134),(8,142),(9,143)] rfl (by kernel_rfl) (by kernel_rfl) (fun _ _ _ _ _ h=>h) k31 ?_;iterate 3 (apply Ff;(case ho=>exact rfl);(case hw=>exact rfl);(case hy=>((intro wk hk);(try dsimp only at hk);(replace j0:=hk.cell j0);(replace j1:=hk.cell j1);(replace y0:=hk.cell y0);(replace y1:=hk.cell y1);go_simp;try with_reducible rfl));(case hput=>(simp only[Act.put,List.setIfInBounds_toArray,List.set_cons_zero,List.set_cons_succ];exact rfl)))
          refine Lh ?_;refine Cw 10 (by kernel_rfl) rfl (fun K hK=>?_);go_simp;obtain⟨gt,hg⟩:∃z,z=w31.heap.size:=⟨_,rfl⟩
          obtain⟨w32,hw32⟩:∃z:World,z=(w31.alloc (.cells #[B C 0,B C 0,B C 0,B C 0,B C 0,B C 0,B C 0] 67)):=⟨_,rfl⟩
          have HF32:Bx (aA wr w32 [(gt,#[B C 0,B C 0,B C 0,B C 0,B C 0,B C 0,B C 0],67)]):=⟨by rw[hw32];exact HF31.out.push _ _ hg.symm⟩
          rw[<-hw32,<-hg];clear hw32 hg;have k32:=HF32.out.xt;refine hK.out _ _ (fun _=>k32) ?_;clear hK K;try simp only[Act.put,List.setIfInBounds_toArray,vA,List.set_cons_succ]
          have j0:=(HF32.out.at_ 0 rfl).cell (i:=0) rfl;have j1:=(HF32.out.at_ 0 rfl).cell (i:=1) rfl;have j2:=(HF32.out.at_ 0 rfl).cell (i:=2) rfl;have j3:=(HF32.out.at_ 0 rfl).cell (i:=3) rfl;have j4:=(HF32.out.at_ 0 rfl).cell (i:=4) rfl;have j5:=(HF32.out.at_ 0 rfl).cell (i:=5) rfl;have j6:=(HF32.out.at_ 0 rfl).cell (i:=6) rfl;have f0:=(HF32.out.at_ 0 rfl).froz 0;have f1:=(HF32.out.at_ 0 rfl).froz 1;have f2:=(HF32.out.at_ 0 rfl).froz 2;have f3:=(HF32.out.at_ 0 rfl).froz 3;have f4:=(HF32.out.at_ 0 rfl).froz 4;have f5:=(HF32.out.at_ 0 rfl).froz 5;have f6:=(HF32.out.at_ 0 rfl).froz 6;refine Cw 11 (by kernel_rfl) rfl (fun K hK=>?_);go_simp;have hR:=HF32.out.setAll 0 rfl [B C ys,B C yq,B C 6,B C 0,B C 0,B C 0,B C 0] rfl;have kR:=hR.xt;refine hK.out _ _ (fun _=>kR) ?_;clear hK K;try simp only[Act.put,List.setIfInBounds_toArray,vA,List.set_cons_succ]
          refine Cw 12 (by kernel_rfl) rfl (fun K hK=>?_);go_simp;refine hK.out _ _ (fun _=>kR) ?_;clear hK K;try simp only[Act.put,List.setIfInBounds_toArray,vA,List.set_cons_succ]
          refine zc (by kernel_rfl) ?_ _;go_wp2_with fail;go_meet
          exact⟨gt,rfl,rfl,⟨hR⟩⟩
         ·skip
          go_simp;obtain⟨gt,hg⟩:∃z,z=wd.heap.size:=⟨_,rfl⟩
          obtain⟨w33,hw33⟩:∃z:World,z=(wd.alloc (.cells #[B C 0,B C 0,B C 0,B C 0,B C 0,B C 0,B C 0] 67)):=⟨_,rfl⟩
          have HF33:Bx (aA wr w33 [(gt,#[B C 0,B C 0,B C 0,B C 0,B C 0,B C 0,B C 0],67)]):=⟨by rw[hw33];exact HF30.out.push _ _ hg.symm⟩
          rw[<-hw33,<-hg];clear hw33 hg;have k33:=HF33.out.xt;refine hK.out _ _ (fun _=>k33) ?_;clear hK K;try simp only[Act.put,List.setIfInBounds_toArray,vA,List.set_cons_succ]
          refine Cw 6 (by kernel_rfl) rfl (fun K hK=>?_);go_simp;refine (HST.out _ _ (HI12.out.ext (HR.out.trans HF33.out.xt))).mono ?_;rintro e w34 ⟨rfl,hx⟩;have HF34:Bx (aA wr w34 [(gt,#[B C 0,B C 0,B C 0,B C 0,B C 0,B C 0,B C 0],67)]):=⟨HF33.out.ext hx⟩
          clear hx;have k34:=HF34.out.xt;refine hK.out _ _ (fun _=>k34) ?_;clear hK K;try simp only[Act.put,List.setIfInBounds_toArray,vA,List.set_cons_succ]
          refine ur 3 [(7,134),(8,142),(9,143)] rfl (by kernel_rfl) (by kernel_rfl) (fun _ _ _ _ _ h=>h) k34 ?_;iterate 3 (apply Ff;(case ho=>exact rfl);(case hw=>exact rfl);(case hy=>((intro wk hk);(try dsimp only at hk);(replace j0:=hk.cell j0);(replace j1:=hk.cell j1);(replace y0:=hk.cell y0);(replace y1:=hk.cell y1);go_simp;try with_reducible rfl));(case hput=>(simp only[Act.put,List.setIfInBounds_toArray,List.set_cons_zero,List.set_cons_succ];exact rfl)))
          refine Lh ?_;have j0:=(HF34.out.at_ 0 rfl).cell (i:=0) rfl;have j1:=(HF34.out.at_ 0 rfl).cell (i:=1) rfl;have j2:=(HF34.out.at_ 0 rfl).cell (i:=2) rfl;have j3:=(HF34.out.at_ 0 rfl).cell (i:=3) rfl;have j4:=(HF34.out.at_ 0 rfl).cell (i:=4) rfl;have j5:=(HF34.out.at_ 0 rfl).cell (i:=5) rfl;have j6:=(HF34.out.at_ 0 rfl).cell (i:=6) rfl;have f0:=(HF34.out.at_ 0 rfl).froz 0;have f1:=(HF34.out.at_ 0 rfl).froz 1;have f2:=(HF34.out.at_ 0 rfl).froz 2;have f3:=(HF34.out.at_ 0 rfl).froz 3;have f4:=(HF34.out.at_ 0 rfl).froz 4;have f5:=(HF34.out.at_ 0 rfl).froz 5;have f6:=(HF34.out.at_ 0 rfl).froz 6;refine Cw 11 (by kernel_rfl) rfl (fun K hK=>?_);go_simp;have hR:=HF34.out.setAll 0 rfl [B C ys,B C yq,B C 6,B C 0,B C 0,B C 0,B C 0] rfl;have kR:=hR.xt;refine hK.out _ _ (fun _=>kR) ?_;clear hK K;try simp only[Act.put,List.setIfInBounds_toArray,vA,List.set_cons_succ]
          refine Cw 12 (by kernel_rfl) rfl (fun K hK=>?_);go_simp;refine hK.out _ _ (fun _=>kR) ?_;clear hK K;try simp only[Act.put,List.setIfInBounds_toArray,vA,List.set_cons_succ]
          refine zc (by kernel_rfl) ?_ _;go_wp2_with fail;go_meet
          exact⟨gt,rfl,rfl,⟨hR⟩⟩
        case rest =>
        obtain⟨gt,rfl,rfl,HT⟩:=hcut;obtain⟨wb,rfl⟩:∃z,z=wc:=⟨_,rfl⟩
        replace y3:=HT.out.xt.cell y3;replace y4:=HT.out.xt.cell y4;replace y5:=HT.out.xt.cell y5;replace y6:=HT.out.xt.cell y6;clear y0 y1 y2 j0 j1;have d0:=(HT.out.at_ 0 rfl).cell (i:=0) rfl;have d1:=(HT.out.at_ 0 rfl).cell (i:=1) rfl;have d2:=(HT.out.at_ 0 rfl).cell (i:=2) rfl;have d3:=(HT.out.at_ 0 rfl).cell (i:=3) rfl;have d4:=(HT.out.at_ 0 rfl).cell (i:=4) rfl;have d5:=(HT.out.at_ 0 rfl).cell (i:=5) rfl;have d6:=(HT.out.at_ 0 rfl).cell (i:=6) rfl;go_upto_region 31 with (fail)
        refine px 99 (fun w'=>ab wb w') (by kernel_rfl) ?_;have kS:ab wb wb.drew:=(zE _).drew;obtain⟨wd,hwd⟩:∃z:World,z=wb.drew:=⟨_,rfl⟩
        rw[<-hwd]at kS⊢;clear hwd;refine ur 32 [(0,144),(1,145),(2,146),(3,147),(4,148),(5,149),(6,150),(7,151),(8,152),(9,153),(10,154),(11,155),(12,156),(13,157),(14,158),(15,159),(16,160),(17,161),(18,162),(19,163),(20,164),(21,165),(22,166),(23,167),(24,168),(25,169),(26,170),(27,171),(28,172),(29,173),(30,174),(31,175)] rfl (by kernel_rfl) (by kernel_rfl) (fun _ _ _ _ _ h=>h) kS ?_;iterate 7 (apply Ff;(case ho=>exact rfl);(case hw=>exact rfl);(case hy=>((intro wk hk);(try dsimp only at hk);(replace d2:=hk.cell d2);(replace d3:=hk.cell d3);(replace d4:=hk.cell d4);(replace d5:=hk.cell d5);(replace d6:=hk.cell d6);(replace y3:=hk.cell y3);(replace y4:=hk.cell y4);(replace y5:=hk.cell y5);(replace y6:=hk.cell y6);go_simp;try with_reducible rfl));(case hput=>(simp only[Act.put,List.setIfInBounds_toArray,List.set_cons_zero,List.set_cons_succ];exact rfl)))
        iterate 13 (apply Eo;(case ho=>exact rfl);(case hw=>exact rfl);(case hput=>(simp only[Act.put,List.setIfInBounds_toArray,vA,List.set_cons_succ];exact rfl)))
        iterate 12 (apply Ff;(case ho=>exact rfl);(case hw=>exact rfl);(case hy=>((intro wk hk);(try dsimp only at hk);(replace d2:=hk.cell d2);(replace d3:=hk.cell d3);(replace d4:=hk.cell d4);(replace d5:=hk.cell d5);(replace d6:=hk.cell d6);(replace y3:=hk.cell y3);(replace y4:=hk.cell y4);(replace y5:=hk.cell y5);(replace y6:=hk.cell y6);go_simp;try with_reducible rfl));(case hput=>(simp only[Act.put,List.setIfInBounds_toArray,List.set_cons_zero,List.set_cons_succ];exact rfl)))
        refine Lh ?_;refine zc (by kernel_rfl) ?_ _;have HR2:Bx (ab w12 wd):=⟨HR.out.trans (HT.out.xt.trans kS)⟩
        clear kS d0 d1 d2 d3 d4 d5 d6 y3 y4 y5 y6;go_wp2_with fail;go_roundw
        case rel=>exact⟨k+1,by go_num,by omega,HR2⟩
        case measure=>simp[intOf];omega
      ·obtain⟨w14,rfl⟩:∃z,z=wr:=⟨_,rfl⟩
       have HX14:Bx (ab w12 w14):=⟨HR.out⟩
       clear HR;obtain⟨⟨av,aw⟩,at_,alb⟩:=akx;go_wp2_with fail;go_loopw [19,20] (fun s19 s20 wr=>∃i m:Nat,s19=B C m/\s20=B C i/\i<=t2.pgs.length/\m<=i/\Bx (m=((t2.pgs.take i).filter Q).length/\ab w14 wr)) (fun _ s20 _=>t2.pgs.length-(intOf s20).toNat)
       case atStart=>exact⟨0,0,rfl,rfl,by omega,by omega,⟨by simp,zE _⟩⟩
       case round =>
        obtain⟨i,m,rfl,rfl,hi,hm,HR⟩:=hrel;have HXR:Bx (ab w12 wr):=⟨HX14.out.trans HR.out.2⟩
        have i1:=((HF12.out.at_ 1 rfl).ext HXR.out).cell (i:=1) rfl;have j1:=((HF12.out.at_ 2 rfl).ext HXR.out).cell (i:=1) rfl;by_cases hin:i<t2.pgs.length
        ·obtain⟨bg,og,_,_,rfl,-⟩:=HGJ.out.at_ hin;obtain⟨yc,yg,yt,ys,yq,ych,yA,ym,ycc,HY,-,hyi,y0,y1,y2,y3,y4,y5⟩:=Ce.read HGJ.out HXR.out hin;obtain⟨cs,ak2,-,hc0,⟨hcs,-⟩,HA2⟩:=(HAS12.out.ext (cU.stab _) HXR.out).cell_ hkn2;obtain rfl:ak2=⟨⟨av,aw⟩,at_,alb⟩:=by have h:=HA2.out;rw[HAK.out]at h;injection h with h;exact h.symm
         have a0:=hc0 0 (B C av) (by rw[hcs];rfl);have a1':=hc0 1 (B C aw) (by rw[hcs];rfl);rw[yQ]at a0;clear hc0 hcs;have eI:=fun W=>jW ys yq av aw W;have HYI:Bx (ak w.heap.size wr (D yA ym ycc) ych):=⟨hyi⟩
         clear hyi;go_upto_block 7 with (fail)
         go_cut [19] (fun s19 wx=>∃m':Nat,s19=B C m'/\m'<=i+1/\Bx (m'=((t2.pgs.take (i+1)).filter Q).length/\ab w14 wx))
         case first =>
          go_upto_region 37 with (fail)
          by_cases hid:ys=av/\yq=aw
          ·rw[decide_eq_true hid]at eI;have HTF:Bx (m=((t2.pgs.take (i+1)).filter Q).length):=⟨by rw[mm HY.out,if_neg (by rw[HQF.out.2];simp[hid.1,hid.2]),xN];exact HR.out.1⟩
           refine px 99 (fun w'=>ab wr w') (by kernel_rfl) ?_;have kS:ab wr wr.drew:=(zE _).drew;obtain⟨wd,hwd⟩:∃z:World,z=wr.drew:=⟨_,rfl⟩
           rw[<-hwd]at kS⊢;clear hwd;refine ur 12 [(0,183),(1,184),(2,185),(3,186),(4,187),(5,188),(6,189),(7,190),(8,191),(9,192),(10,193),(11,194)] rfl (by kernel_rfl) (by kernel_rfl) (fun _ _ _ _ _ h=>h) kS ?_;iterate 12 (apply Ff;(case ho=>exact rfl);(case hw=>exact rfl);(case hy=>((intro wk hk);(try dsimp only at hk);(replace j1:=hk.cell j1);(replace y4:=hk.cell y4);(replace y5:=hk.cell y5);(replace a0:=hk.cell a0);(replace a1':=hk.cell a1');go_simp;try with_reducible rfl));(case hput=>(simp only[Act.put,List.setIfInBounds_toArray,List.set_cons_zero,List.set_cons_succ];exact rfl)))
           refine Lh ?_;refine zc (by kernel_rfl) ?_ _;have HX2:Bx (ab w14 wd):=⟨HR.out.2.trans kS⟩
           go_wp2_with fail;go_meet
           have hh:=HTF.out;refine⟨m,rfl,by omega,⟨?_,HX2.out⟩⟩;exact hh
          ·rw[decide_eq_false hid]at eI;have hqt:Q ⟨yc,yg,yt,ych,⟨ys,yq⟩⟩=true:=by rw[HQF.out.2];simp only[gT.mk.injEq,decide_eq_false hid,Bool.not_false]
           have HTF:Bx (m+1=((t2.pgs.take (i+1)).filter Q).length):=⟨by rw[mm HY.out,if_pos hqt,yU];rw[<-HR.out.1];rfl⟩
           have hmy:t.pgs[m]?=some ⟨yc,yg,yt,ych,⟨ys,yq⟩⟩:=by rw[<-HQF.out.1,HR.out.1];exact C4 HY.out hqt
           have hmg:m<ng:=by rw[HNG.out];exact (zY.1 hmy).1
           have HMY:=zZ hmy;clear hmy hqt;refine px 99 (fun w'=>ab wr w') (by kernel_rfl) ?_;have kS:ab wr wr.drew:=(zE _).drew;obtain⟨wd,hwd⟩:∃z:World,z=wr.drew:=⟨_,rfl⟩
           rw[<-hwd]at kS⊢;clear hwd;refine ur 12 [(0,183),(1,184),(2,185),(3,186),(4,187),(5,188),(6,189),(7,190),(8,191),(9,192),(10,193),(11,194)] rfl (by kernel_rfl) (by kernel_rfl) (fun _ _ _ _ _ h=>h) kS ?_;iterate 12 (apply Ff;(case ho=>exact rfl);(case hw=>exact rfl);(case hy=>((intro wk hk);(try dsimp only at hk);(replace j1:=hk.cell j1);(replace y4:=hk.cell y4);(replace y5:=hk.cell y5);(replace a0:=hk.cell a0);(replace a1':=hk.cell a1');go_simp;try with_reducible rfl));(case hput=>(simp only[Act.put,List.setIfInBounds_toArray,List.set_cons_zero,List.set_cons_succ];exact rfl)))
           refine Lh ?_;refine zc (by kernel_rfl) ?_ _;have HKD:=zZ kS;replace i1:=kS.cell i1;replace j1:=kS.cell j1;replace y0:=kS.cell y0;replace y1:=kS.cell y1;replace y2:=kS.cell y2;replace y3:=kS.cell y3;replace y4:=kS.cell y4;replace y5:=kS.cell y5;clear kS eI a0 a1';obtain⟨bx,ox,_,_,rfl,-⟩:=HGG.out.at_ hmg;obtain⟨xc,xg,xt,xs,xq,xch,xA,xm,xcc,HX,-,hxi,x0,x1,x2,x3,x4,x5⟩:=Ce.read HGG.out (HX12.out.trans (HXR.out.trans HKD.out)) hmg;obtain⟨rfl,rfl,rfl,rfl,rfl,rfl⟩:yc=xc/\yg=xg/\yt=xt/\ych=xch/\ys=xs/\yq=xq:=by have h:=HX.out;rw[HMY.out]at h;injection h with h;injection h with h1 h2 h3 h4 h5;injection h5 with h5 h6;exact⟨h1,h2,h3,h4,h5,h6⟩
           have HXI:Bx (ak w.heap.size wd (D xA xm xcc) ych):=⟨hxi⟩
           clear hxi;have hge:decide ((ng:Int)<=(m:Int))=false:=by simp;omega
           have hge2:decide ((m:Int)≥(ng:Int))=false:=by simp;omega
           have hge3:decide (ng<=m)=false:=by simp;omega
           go_upto_region 38 with (fail)
           refine px 99 (fun w'=>ab wd w') (by kernel_rfl) ?_;have kS:ab wd wd.drew:=(zE _).drew;obtain⟨we,hwe⟩:∃z:World,z=wd.drew:=⟨_,rfl⟩
           rw[<-hwe]at kS⊢;clear hwe;refine ur 16 [(0,195),(1,196),(2,197),(3,198),(4,199),(5,200),(6,201),(7,202),(8,203),(9,204),(10,205),(11,206),(12,207),(13,208),(14,209),(15,210)] rfl (by kernel_rfl) (by kernel_rfl) (fun _ _ _ _ _ h=>h) kS ?_;iterate 16 (apply Ff;(case ho=>exact rfl);(case hw=>exact rfl);(case hy=>((intro wk hk);(try dsimp only at hk);(replace i1:=hk.cell i1);(replace j1:=hk.cell j1);(replace x0:=hk.cell x0);(replace x1:=hk.cell x1);(replace x2:=hk.cell x2);(replace x3:=hk.cell x3);(replace x4:=hk.cell x4);(replace x5:=hk.cell x5);(replace y0:=hk.cell y0);(replace y1:=hk.cell y1);(replace y2:=hk.cell y2);(replace y3:=hk.cell y3);(replace y4:=hk.cell y4);(replace y5:=hk.cell y5);go_simp;try with_reducible rfl));(case hput=>(simp only[Act.put,List.setIfInBounds_toArray,List.set_cons_zero,List.set_cons_succ];exact rfl)))
           refine Lh ?_;refine Cw 16 (by kernel_rfl) rfl (fun K hK=>?_);go_simp;refine (so _ _ _ _ _ _ _ _ _ _ _ _ _ _ _ _ _ _ _ (HXI.out.ext kS) (HYI.out.ext (HKD.out.trans kS))).mono ?_;rintro e wf ⟨rfl,hx⟩;have kS2:ab wd wf:=kS.trans hx;rw[decide_eq_true rfl];refine hK.out _ _ (fun _=>kS2) ?_;clear hK K;try simp only[Act.put,List.setIfInBounds_toArray,vA,List.set_cons_succ]
           refine ur 2 [(17,212),(18,213)] rfl (by kernel_rfl) (by kernel_rfl) (fun _ _ _ _ _ h=>h) kS2 ?_;iterate 2 (apply Ff;(case ho=>exact rfl);(case hw=>exact rfl);(case hy=>((intro wk hk);(try dsimp only at hk);(replace i1:=hk.cell i1);(replace j1:=hk.cell j1);(replace x0:=hk.cell x0);(replace x1:=hk.cell x1);(replace x2:=hk.cell x2);(replace x3:=hk.cell x3);(replace x4:=hk.cell x4);(replace x5:=hk.cell x5);(replace y0:=hk.cell y0);(replace y1:=hk.cell y1);(replace y2:=hk.cell y2);(replace y3:=hk.cell y3);(replace y4:=hk.cell y4);(replace y5:=hk.cell y5);go_simp;try with_reducible rfl));(case hput=>(simp only[Act.put,List.setIfInBounds_toArray,List.set_cons_zero,List.set_cons_succ];exact rfl)))
           refine Lh ?_;refine zc (by kernel_rfl) ?_ _;have HX2:Bx (ab w14 wf):=⟨HR.out.2.trans (HKD.out.trans kS2)⟩
           clear kS kS2 hx i1 j1 x0 x1 x2 x3 x4 x5 y0 y1 y2 y3 y4 y5;go_wp2_with fail;go_meet
           have hh:=HTF.out;refine⟨m+1,by go_num,by omega,⟨?_,HX2.out⟩⟩;exact hh
         case rest =>
         obtain⟨m',rfl,hm',HR2⟩:=hcut;go_wp2_with fail;go_roundw
         case rel =>have hh:=HR2.out;refine⟨i+1,m',rfl,by go_num,by omega,by omega,⟨?_⟩⟩;exact hh
         case measure=>simp[intOf];omega
        ·have hmn:m=ng:=by rw[HR.out.1,xV (by have:=HN2.out.1;omega),HQF.out.1,HNG.out]
         subst hmn;have hb1:((m:Int)==(m:Int))=true:=by simp
         go_wp2_with fail;refine (cN _ (HF12.out.tb.ext HXR.out)).mono ?_;rintro e w21 ⟨rfl,hx21⟩;go_wp2_with fail;go_ret
         exact⟨rfl,((HF12.out.fin HE.out).trans HXR.out).trans hx21⟩
end Go.Proofs.YtkaajgoeahahpaaGreatDoor

