import Derived.Test.YtjgfgdcaocbfhaaGreatScQ
import Derived.Test.YtjgfgdcaocbfhaaGreatRScF
import Derived.Test.YtjgfgdcaocbfhaaGreatH38
import Derived.Deep.Matrix
import Derived.ProofKit
import Derived.OpenShut
import Derived.ShutString
import Derived.Deep.SlicePairs
set_option linter.all false
set_option maxRecDepth 100000
set_option maxHeartbeats 0
namespace Go.Proofs.YtjgfgdcaocbfhaaGreat
open Go.Value renaming int→C,slice→G
open Go.IntKind renaming i64→E
open Go.RowKit _root_.Go.Proofs.Tryz
theorem bI(v0:Value)(l0:List Int)(v1:Value)(l1:List oy)(w:World)(h0:ao w.heap.size w v0 l0)(h1:fF w.heap.size w v1 l1) :
  Calls prog 5 #[v0,v1] w fun e w'=>e=.returned (.bool true)∧ab w w':=by
 obtain⟨i0,hi0,hz0,hz1,hz2⟩:=info_parts Tryz.infoI;obtain⟨iC,hiC,hC0,hC1,hC2⟩:=info_parts Tryz.infoScr;have HL0:=zZ h1;obtain⟨Al,nl,cl,rfl,-,-,hml,HNL⟩:=h1.open_;have H0:=zZ h0;clear h0 h1;go_enter func5,ntmps5
 go_wp2_with fail;refine (nE _ l0 _ H0.out).mono ?_;rintro e w1 ⟨rfl,HT1,HE1⟩;have HE:=zZ HE1;go_wp2_with fail;refine (i3 _ 10 w1 HT1 (by omega)).mono ?_;rintro e w2 ⟨v2,rfl,⟨vS,vI,s,t,rfl,hs,ht,hn1,hn2,hac⟩,HT2,HX2⟩;have HS2:=zZ hs;have HI2:=zZ ht;have HN:=zZ (yX hn1 hn2);have HAC:=zZ hac;obtain⟨vP,vB,vX,rfl,hP,hB,hX,-⟩:=hs;obtain⟨AP,nP,cP,rfl,-⟩:=hP.open_;obtain⟨AB,nB,cB,rfl,-⟩:=hB.open_;obtain⟨AX,nX,cX,rfl,-⟩:=hX.open_;obtain⟨vT,vG,rfl,hT,hG⟩:=ht;obtain⟨AS,nS,cS,rfl,-⟩:=hT.open_;obtain⟨AG,nG,cG,rfl,hg1,hg2,hg3,HLG⟩:=hG.open_;clear hP hB hX hT hG hn1 hn2 hac hg1 hg2 hg3;obtain⟨gS,hgS⟩:=nm w2.heap.size;obtain⟨w3,hw3⟩:=nm (((w2.alloc (.cells #[C E s.num,G AP nP cP,G AB nB cB,G AX nX cX] 27)).alloc (.cells #[G AS nS cS,G AG nG cG] 31)):World);have HF:Bx (Fr w.heap.size w1 w3 [(gS,#[C E s.num,G AP nP cP,G AB nB cB,G AX nX cX],27),(gS+1,#[G AS nS cS,G AG nG cG],31)]):=⟨by rw[hw3];exact (((Fr.start HT1).step HX2 HT2).push _ _ hgS.symm).push _ _ (by rw[hgS];simp)⟩
 have hx23:ab w2 w3:=by rw[hw3];exact ((zE _).alloc _).alloc _
 have HS:=bx (HS2.out.ext hx23);have HI:=bx (HI2.out.ext hx23);clear hx23 HS2 HI2;go_upto_region 3 with (fail)
 rw[←hw3,←hgS];clear hw3 hgS HT1 HT2 HX2;go_wp2_with fail;refine (kg _ 0 _ HF.out.tp (by omega) (by omega)).mono ?_;rintro e w4 ⟨v4,rfl,⟨td,tf,tl,rfl,hd1,hd2,hd3,-⟩,HT4,HX4⟩;have HD:=zZ (yX hd1 (yX hd2 hd3));obtain⟨gH,hgH⟩:=nm w4.heap.size;obtain⟨w5,hw5⟩:=nm ((w4.alloc (.cells #[C E td,C E tf,C E tl] 46)):World);have HF5:Bx (Fr w.heap.size w1 w5 [(gS,#[C E s.num,G AP nP cP,G AB nB cB,G AX nX cX],27),(gS+1,#[G AS nS cS,G AG nG cG],31),(gH,#[C E td,C E tf,C E tl],46)]):=⟨by rw[hw5];exact (HF.out.step HX4 HT4).push _ _ hgH.symm⟩
 have hx45:XT w.heap.size w3 w5:=by rw[hw5];exact HX4.alloc _
 have HS5:=bx (HS.out.xt hx45);have HI5:=bx (HI.out.xt hx45);clear hx45 HS HI HF;go_upto_region 4 with (fail)
 rw[←hw5,←hgH];clear hw5 hgH HT4 HX4 hd1 hd2 hd3;obtain⟨er,her⟩:=nm (mA s t td tf tl:Int);have haok:=lH s t td tf tl;obtain⟨LR,hLR⟩:=nm (kG s t td tf tl);have C1:=qw (.agg #[C E s.num,G AP nP cP,G AB nB cB,G AX nX cX]) (.agg #[G AS nS cS,G AG nG cG]) s t td tf tl w5 HF5.out.lt HS5.out HI5.out HN.out.1 HN.out.2;rw[←her,←hLR]at C1;rw[←hLR]at haok;have HC1:=zZ C1;clear C1 her hLR;obtain⟨z0,z1,z2,z3⟩:=(HF5.out.at_ 0 rfl).p4 rfl;obtain⟨j0,j1⟩:=(HF5.out.at_ 1 rfl).p2 rfl;obtain⟨h0,h1,h2⟩:=(HF5.out.at_ 2 rfl).p3 rfl;go_wp2_with fail;refine HC1.out.mono ?_;rintro e w6 ⟨⟨va,ys,rfl,hra,hya⟩,hx6⟩;obtain⟨Aa,ca,rfl⟩:=hra.form;obtain⟨na,hna⟩:=nm ys.length;rw[←hna]at hra;rw[←hna];have hln:LR.length=na:=by rw[←hya,zM,hna]
 have HRW:Bx (d8 w5.heap.size w6 (G Aa na ca) ys):=⟨hra⟩
 have HSC:Bx (fF w.heap.size w6 (G Aa na ca) LR):=⟨by rw[←hya];exact hra.isS HF5.out.lt⟩
 have HX6:=zZ hx6;have HOK:=zZ haok;have HYA:=zZ hya;have HNA:=zZ hna;have HLN:=zZ hln;have hna60:na≤60:=by rw[←hln];exact haok.1
 clear HC1 hra hya hna hx6 haok z0 z1 z2 z3 j0 j1 h0 h1 h2 hln;rcases xW na with hn0|hn0
 ·subst hn0;have hng:decide (((0:Nat):Int)>0)=false:=decide_eq_false (by omega);have HR0:Bx (fI w.heap.size w5 w6 (G Aa 0 ca)):=⟨⟨LR,HX6.out.xt,HF5.out.tp.ext HX6.out,HSC.out,by have:=HLN.out;omega⟩⟩
  clear HX6 HSC HRW;go_upto_region 21 with (fail)
  obtain⟨l',hxw,htw,hsc,hll⟩:=HR0.out;have HXW:Bx (ab w w6):=⟨(HF5.out.xt.trans hxw).fresh HE.out (zX _)⟩
  by_cases h20:nl≤20;case neg =>
   go_wp2_with fail;go_ret
   exact⟨rfl,HXW.out⟩
  have HFx:=bx (HF5.out.step hxw htw);have HSx:=bx (HS5.out.xt hxw);have HIx:=bx (HI5.out.xt hxw);have HCx:Bx (fF w.heap.size w6 (G Aa 0 ca) l'):=⟨hsc⟩
  have HLx:Bx (fF w.heap.size w6 (G Al nl cl) l1):=⟨bg.ext HL0.out (Eq.stab _) HXW.out⟩
  have HLL:=zZ hll;have HLT:Bx (w.heap.size<w6.heap.size):=⟨HFx.out.lt⟩
  clear hxw htw hsc hll;obtain⟨z0,z1,z2,z3⟩:=(HFx.out.at_ 0 rfl).p4 rfl;obtain⟨j0,j1⟩:=(HFx.out.at_ 1 rfl).p2 rfl;have q1:(bU s t l'==bU s t l')=true:=by simp
  have q2:(bU s t l1==bU s t l1)=true:=by simp
  clear HF5 HS5 HI5 HFx;go_upto_region 23 with (fail)
  refine zQ 99 fun wd kS=>?_;refine zS 6 [(0,118),(1,119),(2,120),(4,122),(5,123),(6,124)] kS ?_;iterate 6 (apply zT;exact⟨rfl,rfl⟩;(·intro wk hk;have:=hk.cell z0;have:=hk.cell z1;have:=hk.cell z2;have:=hk.cell z3;have:=hk.cell j0;have:=hk.cell j1;go_simp;try with_reducible rfl);simp only[kA];exact rfl)
  refine zN (zO 3 (fun K hK=>?_));go_simp;refine (Cg _ _ _ s t l' _ (p:=w.heap.size) (zP HLT.out kS.size) (HSx.out.ext kS) (HIx.out.ext kS) (bg.ext HCx.out (Eq.stab _) kS) HN.out.1 HN.out.2 (by have:=HLL.out;omega)).mono ?_;rintro e w7 ⟨rfl,hx7⟩;have kS2:ab w6 w7:=kS.trans hx7;refine hK.out _ _ (fun _=>kS2) ?_;clear hK K;try simp only[kA]
  refine zO 7 (fun K hK=>?_);go_simp;refine (aj _ _ _ s t l' _ (p:=w.heap.size) (zP HLT.out kS2.size) (HSx.out.ext kS2) (HIx.out.ext kS2) (bg.ext HCx.out (Eq.stab _) kS2) HN.out.1 HN.out.2 (by have:=HLL.out;omega)).mono ?_;rintro e w8 ⟨rfl,hx8⟩;have kS3:ab w6 w8:=kS2.trans hx8;refine hK.out _ _ (fun _=>kS3) ?_;clear hK K;try simp only[kA]
  refine zS 8 [(8,126),(9,127),(10,128),(11,129),(12,130),(14,132),(15,133),(16,134)] kS3 ?_;iterate 8 (apply zT;exact⟨rfl,rfl⟩;(·intro wk hk;have:=hk.cell z0;have:=hk.cell z1;have:=hk.cell z2;have:=hk.cell z3;have:=hk.cell j0;have:=hk.cell j1;go_simp;try with_reducible rfl);simp only[kA];exact rfl)
  refine zN (zO 13 (fun K hK=>?_));go_simp;refine (Cg _ _ _ s t l1 _ (p:=w.heap.size) (zP HLT.out kS3.size) (HSx.out.ext kS3) (HIx.out.ext kS3) (bg.ext HLx.out (Eq.stab _) kS3) HN.out.1 HN.out.2 (by have:=HNL.out;omega)).mono ?_;rintro e w9' ⟨rfl,hx9⟩;have kS4:ab w6 w9':=kS3.trans hx9;refine hK.out _ _ (fun _=>kS4) ?_;clear hK K;try simp only[kA]
  refine zO 17 (fun K hK=>?_);go_simp;refine (aj _ _ _ s t l1 _ (p:=w.heap.size) (zP HLT.out kS4.size) (HSx.out.ext kS4) (HIx.out.ext kS4) (bg.ext HLx.out (Eq.stab _) kS4) HN.out.1 HN.out.2 (by have:=HNL.out;omega)).mono ?_;rintro e w10' ⟨rfl,hx10⟩;have kS5:ab w6 w10':=kS4.trans hx10;refine hK.out _ _ (fun _=>kS5) ?_;clear hK K;try simp only[kA]
  refine zS 3 [(18,136),(19,137),(20,138)] kS5 ?_;iterate 3 (apply zT;exact⟨rfl,rfl⟩;(·intro wk hk;have:=hk.cell z0;have:=hk.cell z1;have:=hk.cell z2;have:=hk.cell z3;have:=hk.cell j0;have:=hk.cell j1;go_simp;try with_reducible rfl);simp only[kA];exact rfl)
  refine zN (zO 21 (fun K hK=>?_));go_simp;refine (gW _).mono ?_;rintro e w11' ⟨rfl,hx11⟩;have kS6:ab w6 w11':=kS5.trans hx11;refine hK.out _ _ (fun _=>kS6) ?_;clear hK K;try simp only[kA]
  refine zS 2 [(22,140),(23,4)] kS6 ?_;iterate 2 (apply zT;exact⟨rfl,rfl⟩;(·intro wk hk;have:=hk.cell z0;have:=hk.cell z1;have:=hk.cell z2;have:=hk.cell z3;have:=hk.cell j0;have:=hk.cell j1;go_simp;try with_reducible rfl);simp only[kA];exact rfl)
  refine zN (zD ?_);go_wp2_with fail;go_ret
  exact⟨rfl,HXW.out.trans kS6⟩
 have hng:decide ((na:Int)>0)=true:=decide_eq_true (by omega);obtain⟨g,cur,rfl,hg,-⟩:=HRW.out.blk hn0;have HP:Bx (w.heap.size<w5.heap.size):=⟨HF5.out.lt⟩
 have HT6:Bx (bt w6 w.heap.size):=⟨HF5.out.tp.ext HX6.out⟩
 go_upto_if 35 with (go_at_call 18;refine (au w.heap.size 2 _ HT6.out (by omega)).mono ?_;rintro e w7 ⟨v7,rfl,⟨r7,rfl,hr71,hr72⟩,HT7,HX7⟩;have HTp:=zZ HT7;have HX57:=zZ (HX6.out.xt.trans HX7);have HSC7:=zZ (bg.xt HSC.out (Eq.stab _) HX7);have HRW7:=zZ (HRW.out.xt HX7 HP.out);clear HT7 HX7 HT6 HX6 HSC HRW)
 go_cut [9] (fun s9 wx=>Bx (fI w.heap.size w5 wx s9)∧∃B m d,s9=G B m d)
 case first =>
  by_cases hr0:r7=0;case neg =>
   have hrb:(r7==0)=false:=by simp[hr0]
   go_wp2_with fail;go_meet
   exact⟨⟨LR,HX57.out,HTp.out,HSC7.out,by have:=HLN.out;omega⟩,_,_,_,rfl⟩
  have hrb:(r7==0)=true:=by simp[hr0]
  go_upto_region 7 with (go_at_call 18;refine (au w.heap.size (na:Int) _ HTp.out (by omega)).mono ?_;rintro e w8 ⟨v8,rfl,⟨r8,rfl,hr81,hr82⟩,HT8,HX8⟩;have HTq:=zZ HT8;have HX58:=zZ (HX57.out.trans HX8);have HSC8:=zZ (bg.xt HSC7.out (Eq.stab _) HX8);have HRW8:=zZ (HRW7.out.xt HX8 HP.out);clear HT8 HX8 HTp HX57 HSC7 HRW7)
  obtain⟨k,rfl⟩:=zG hr81;have hkn:k<na:=by omega
  clear hr81 hr82 hr71 hr72 hr0 hrb hng;go_upto_region 9 with (go_at_call 18;refine (au w.heap.size 7 _ HTq.out (by omega)).mono ?_;rintro e w9 ⟨v9,rfl,⟨r9,rfl,hr91,hr92⟩,HT9,HX9⟩;have HT:=zZ HT9;have HX:=zZ (HX58.out.trans HX9);have HSC:=zZ (bg.xt HSC8.out (Eq.stab _) HX9);have HRW:=zZ (HRW8.out.xt HX9 HP.out);clear HT9 HX9 HTq HX58 HSC8 HRW8)
  have hr93:r9<7:=by omega
  clear hr92;obtain⟨y0,y1,y2,y3,y4,ps,an,A1,n1,c1,A2,n2,c2,HXX,hi1,hi2,t0,t1,t2,t3,t4,t5,t6⟩:=fF.read HSC.out (zE _) hkn;simp only[yV]at t0 t1 t2 t3 t4 t5 t6;have hps:0<ps.length:=HOK.out.2 _ (zU HXX.out);have hn1:0<n1:=by have:=hi1.len;omega
  have HI1:=zZ hi1;have HI2:=zZ hi2;have hgp:g≠w.heap.size:=by have:=HP.out;omega
  obtain⟨g',cur',e1,-,hbk⟩:=HRW.out.blk hn0;cases e1;have HBK:=zZ hbk;clear hi1 hi2 hps hbk;rcases (show r9=0∨r9=1∨r9=2∨r9=3∨r9=4∨r9=5∨r9=6 by omega) with rfl|rfl|rfl|rfl|rfl|rfl|rfl
  ·go_upto_region 10 with (fail)
   refine zR 10 (fun w'=>w'.cell? ⟨g,k*7,none⟩=some (C E y0)) ?_;have kS:(fun w'=>w'.cell? ⟨g,k*7,none⟩=some (C E y0)) w9.drew:=((zE _).drew).cell t0;have kD:ab w9 w9.drew:=(zE _).drew;obtain⟨wd,hwd⟩:=nm (w9.drew:World);rw[←hwd]at kS kD⊢;clear hwd;have HTd:=zZ (HT.out.ext kD);have HXd:=zZ (HX.out.trans kD.xt);have HSd:=zZ (bg.ext HSC.out (Eq.stab _) kD);have HBd:=zZ (HBK.out.ext kD);refine zS 6 [(0,48),(1,49),(2,50),(3,51),(4,52),(5,53)] kS ?_;iterate 6 (apply zT;exact⟨rfl,rfl⟩;(·intro wk hk;have z0:=hk;go_simp;try with_reducible rfl);simp only[kA];exact rfl)
   refine zN (zO 6 (fun K hK=>?_));go_simp;refine (au w.heap.size 2 _ HTd.out (by omega)).mono ?_;rintro e wb ⟨vb,rfl,⟨rb,rfl,hb1,hb2⟩,HTb,HXb⟩;have kS2:=HXb.cell kS (by simp only;omega);have HSb:=zZ (bg.xt HSd.out (Eq.stab _) HXb);have HXe:=zZ (HXd.out.trans HXb);have f0:=(HBd.out.xt HXb hgp).froz;have HTe:=zZ HTb;refine hK.out _ _ (fun _=>kS2) ?_;clear hK K;try simp only[kA]
   refine zS 1 [(7,55)] kS2 ?_;(apply zT;exact⟨rfl,rfl⟩;(·intro wk hk;have z0:=hk;go_simp;try with_reducible rfl);simp only[kA];exact rfl);refine zN (zO 8 (fun K hK=>?_));go_simp;refine hK.out _ _ (fun _=>kS2) ?_;clear hK K;try simp only[kA]
   refine zO 9 (fun K hK=>?_);go_simp;refine hK.out _ _ (fun _=>kS2) ?_;clear hK K;try simp only[kA]
   refine zO 10 (fun K hK=>?_);go_simp;refine hK.out _ _ (fun h=>absurd rfl h) ?_;clear hK K;refine zD ?_;go_wp2_with fail;go_meet
   exact⟨⟨cd HP.out HXe.out HTe.out HSb.out (by have:=HLN.out;omega) hg kS2 (CL _)⟩,_,_,_,rfl⟩
  ·go_wp2_with (go_at_call 19;refine (am w.heap.size 1 2 _ HT.out (by omega) (by omega) (by omega) (by omega)).mono ?_;rintro e wb ⟨vb,rfl,⟨rb,rfl,hb1,hb2⟩,HTb,HXb⟩;have HSb:=zZ (bg.xt HSC.out (Eq.stab _) HXb);have HXe:=zZ (HX.out.trans HXb);have f0:=(HBK.out.xt HXb hgp).froz;have z0:=HXb.cell t3 (by simp only;omega);have HTe:=zZ HTb;clear HTb HXb);go_meet
   exact⟨⟨cd HP.out HXe.out HTe.out HSb.out (by have:=HLN.out;omega) hg z0 ⟨by omega,by omega⟩⟩,_,_,_,rfl⟩
  ·go_wp2_with (go_at_call 18;refine (au w.heap.size 2 _ HT.out (by omega)).mono ?_;rintro e wb ⟨vb,rfl,⟨rb,rfl,hb1,hb2⟩,HTb,HXb⟩;have HSb:=zZ (bg.xt HSC.out (Eq.stab _) HXb);have HXe:=zZ (HX.out.trans HXb);have f0:=(HBK.out.xt HXb hgp).froz;have z0:=HXb.cell t4 (by simp only;omega);have HTe:=zZ HTb;clear HTb HXb);go_meet
   exact⟨⟨cd HP.out HXe.out HTe.out HSb.out (by have:=HLN.out;omega) hg z0 ⟨by omega,by omega⟩⟩,_,_,_,rfl⟩
  ·obtain⟨y,hy⟩:∃y,ys[k]?=some y:=⟨_,zW (by have:=HNA.out;omega)⟩
   have hel:=(HRW.out.el y (zU hy)).1;have hc5:=aL.cell HRW.out.own (fun _ _=>rfl) hy (j:=5) (by decide) (u:=y.2.1) rfl;rw[t5]at hc5;injection hc5 with hc5;rw[←hc5]at hel;obtain⟨gp,curp,rfl,hgp1,hbkp,-,-⟩:=hel.blk hn1;clear hel hc5 hy;go_upto_region 16 with (fail)
   refine zR 17 (fun w'=>w'.cell? ⟨g,k*7+5,none⟩=some (G (some ⟨gp,0,none⟩) n1 c1)) ?_;have kS:(fun w'=>w'.cell? ⟨g,k*7+5,none⟩=some (G (some ⟨gp,0,none⟩) n1 c1)) w9.drew:=((zE _).drew).cell t5;have kD:ab w9 w9.drew:=(zE _).drew;obtain⟨wd,hwd⟩:=nm (w9.drew:World);rw[←hwd]at kS kD⊢;clear hwd;have HTd:=zZ (HT.out.ext kD);have HXd:=zZ (HX.out.trans kD.xt);have HSd:=zZ (bg.ext HSC.out (Eq.stab _) kD);have HBd:=zZ (hbkp.ext kD);have HId:=zZ (HI1.out.ext kD);refine zS 12 [(0,76),(1,77),(2,78),(3,79),(4,80),(5,81),(6,82),(7,83),(8,84),(9,85),(10,86),(11,87)] kS ?_;iterate 12 (apply zT;exact⟨rfl,rfl⟩;(·intro wk hk;(try have z0:=hk);(try have z0:=hk.1);(try have z1:=hk.2);go_simp;try with_reducible rfl);simp only[kA];exact rfl)
   refine zN (zO 12 (fun K hK=>?_));go_simp;refine (au w.heap.size (n1:Int) _ HTd.out (by obtain⟨_,_,_,e9,-,-,h9,-⟩:=HId.out.open_;cases e9;omega)).mono ?_;rintro e wb ⟨vb,rfl,⟨rb,rfl,hb1,hb2⟩,HTb,HXb⟩;have kS2:=HXb.cell kS (by simp only;omega);have HSb:=zZ (bg.xt HSd.out (Eq.stab _) HXb);have HXe:=zZ (HXd.out.trans HXb);have hgpp:gp≠w.heap.size:=by have:=HP.out;omega
   have f0:=(HBd.out.xt HXb hgpp).froz;have HTe:=zZ HTb;have HIe:=zZ (HId.out.xt HXb);obtain⟨j,rfl⟩:=zG hb1;have hjn:j<n1:=by omega
   obtain⟨xp,zc,-,-,-⟩:=HIe.out.cell_ hjn;simp only[yV]at zc;clear hb1 hb2;refine hK.out _ _ (fun _=>kS2) ?_;clear hK K;try simp only[kA]
   refine gZ (S':=(fun w'=>w'.cell? ⟨g,k*7+5,none⟩=some (G (some ⟨gp,0,none⟩) n1 c1)∧w'.cell? ⟨gp,j,none⟩=some (C E xp))) (fun _ h=>h.1) _ _ _ _ ?_;have kS3:=yX kS2 zc;refine zS 3 [(13,89),(14,90),(15,91)] kS3 ?_;iterate 3 (apply zT;exact⟨rfl,rfl⟩;(·intro wk hk;(try have z0:=hk);(try have z0:=hk.1);(try have z1:=hk.2);go_simp;try with_reducible rfl);simp only[kA];exact rfl)
   refine zN (zO 16 (fun K hK=>?_));go_simp;refine hK.out _ _ (fun _=>kS3) ?_;clear hK K;try simp only[kA]
   refine zO 17 (fun K hK=>?_);go_simp;refine hK.out _ _ (fun h=>absurd rfl h) ?_;clear hK K;refine zD ?_;go_wp2_with fail;go_meet
   exact⟨⟨cd HP.out HXe.out HTe.out HSb.out (by have:=HLN.out;omega) hgp1 zc (CL _)⟩,_,_,_,rfl⟩
  ·obtain⟨y,hy⟩:∃y,ys[k]?=some y:=⟨_,zW (by have:=HNA.out;omega)⟩
   have hel:=(HRW.out.el y (zU hy)).1;have hc5:=aL.cell HRW.out.own (fun _ _=>rfl) hy (j:=5) (by decide) (u:=y.2.1) rfl;rw[t5]at hc5;injection hc5 with hc5;rw[←hc5]at hel;have hlp:y.1.pgs.length=n1:=(hel.isI HP.out).len;have HEL:=zZ hel;have hn1k:n1≤1000000:=by have:=hel.2.2;omega
   clear hc5 hy;go_wp2_with (at_builtin;obtain⟨va',wz,hrun,hkz,hxz,htz,⟨Bz,mz,dz,rfl⟩,hrz,hbz⟩:=k6 _ 22 22 i0 _ underlying22 hi0 hz0 hz1 hz2 rfl (p:=w.heap.size) (HEL.out.ext ((zE _).alloc _)) hn1 hn1k hlp HP.out (by have:=HX.out.size;simp;omega) (Bk.new _ _ _) w5 (HX.out.alloc _) (zX _) (HT.out.ext ((zE _).alloc _));refine zh _ (by rfl) _ _ _ (by rfl) (by rfl) (by rfl) hrun ?_;have HBz:=zZ (hbz g _ _ (HBK.out.ext ((zE _).alloc _)) (by decide));have z0:=(fL HBK.out HBz.out).trans t5;have f0:=HBz.out.froz);go_meet
   exact⟨⟨gV HP.out hxz htz (bg.ext HSC.out (Eq.stab _) ((zE _).alloc _)) (by have:=HLN.out;omega) hg hkz (fun i B m d h=>by rw[fL (HBK.out.ext ((zE _).alloc _)) HBz.out];exact h) z0 hrz⟩,_,_,_,rfl⟩
  ·obtain⟨y,hy⟩:∃y,ys[k]?=some y:=⟨_,zW (by have:=HNA.out;omega)⟩
   have hcy:ws y=[C E y0,C E y1,C E y2,C E y3,C E y4,G A1 n1 c1,G A2 n2 c2]:=by have c0:=aL.cell HRW.out.own (fun _ _=>rfl) hy (j:=0) (by decide) rfl;have c1':=aL.cell HRW.out.own (fun _ _=>rfl) hy (j:=1) (by decide) rfl;have c2':=aL.cell HRW.out.own (fun _ _=>rfl) hy (j:=2) (by decide) rfl;have c3:=aL.cell HRW.out.own (fun _ _=>rfl) hy (j:=3) (by decide) rfl;have c4:=aL.cell HRW.out.own (fun _ _=>rfl) hy (j:=4) (by decide) rfl;have c5:=aL.cell HRW.out.own (fun _ _=>rfl) hy (j:=5) (by decide) rfl;have c6:=aL.cell HRW.out.own (fun _ _=>rfl) hy (j:=6) (by decide) rfl;simp only[yP]at c0;rw[t0]at c0;rw[t1]at c1';rw[t2]at c2';rw[t3]at c3;rw[t4]at c4;rw[t5]at c5;rw[t6]at c6;injection c0 with c0;injection c1' with c1';injection c2' with c2';injection c3 with c3;injection c4 with c4;injection c5 with c5;injection c6 with c6;unfold ws;rw[c0,c1',c2',c3,c4,c5,c6]
   have HCY:=zZ hcy;have HYM:=zZ (zU hy);clear hcy hy;have hw9:w5.heap.size≤w9.heap.size:=HX.out.size;have HO9:=zZ (show w9.ownsRow w5.heap.size 54 7 (G (some ⟨g,0,none⟩) na ca) na (ys.map ws).flatten from HNA.out▸HRW.out.own.own);go_wp2_with (at_builtin;go_loud (refine aH _ rfl (.tmp 108) (.tmp 113) 48 rfl w5.heap.size 54 iC _ 7 88 underlying48 hiC hC0 hC1 hC2 rfl (by omega) (G (some ⟨g,0,none⟩) na ca) na (ys.map ws).flatten rfl (ac HO9.out ((zE _).alloc _)) _ #[C E y0,C E y1,C E y2,C E y3,C E y4,G A1 n1 c1,G A2 n2 c2] _ rfl (heap_alloc_new _ _) rfl (by simp[Value.oneCell']) (by omega) (by omega) (by simp;omega) ?_;intro v10 w10 hown10 hg10;obtain⟨B9,d9,rfl,-,-⟩:=aQ hown10 (by omega);have HG10:=zZ hg10;have HW10:=zZ hown10;clear hown10 hg10));go_meet
   have hxa:ab w9 (w9.alloc (.cells #[C E y0,C E y1,C E y2,C E y3,C E y4,G A1 n1 c1,G A2 n2 c2] 54)):=(zE _).alloc _;have hra:=HRW.out.ext hxa;have hoa:=ac HO9.out hxa;have hel:=HRW.out.el y HYM.out;have hap:∀z,Ha w5.heap.size (w9.alloc (.cells #[C E y0,C E y1,C E y2,C E y3,C E y4,G A1 n1 c1,G A2 n2 c2] 54)) z→Ha w5.heap.size _ z:=fun z hz=>⟨hz.1.apart hoa (by decide) HG10.out,hz.2.apart hoa (by decide) HG10.out⟩
   have hrow:d8 w5.heap.size _ _ (ys++[y]):=dq.push (f:=ws) hra (by rw[HCY.out];exact HNA.out.symm▸HW10.out) hap (hap y ⟨hel.1.ext hxa,hel.2.ext hxa⟩);have hge:=ar hoa;refine⟨⟨(ys++[y]).map Prod.fst,(HX.out.trans hxa.xt).grown HG10.out hge,(HT.out.ext hxa).grown HG10.out (fun k hk=>by have:=hge k hk;have:=HP.out;omega),(by rw[HNA.out];exact hrow.isS HP.out),by have:=HNA.out;simp;omega⟩,_,_,_,rfl⟩
  ·have f0:=HBK.out.froz;go_wp2_with fail;go_meet
   exact⟨⟨gV HP.out HX.out HT.out HSC.out (by have:=HLN.out;omega) hg (dd.refl _ _) (fun _ _ _ _ h=>h) t6 (fun w2 _=>⟨[],ao.nil _ _⟩)⟩,_,_,_,rfl⟩
 case rest =>
 obtain⟨HRC,B9,m9,d9,rfl⟩:=hcut;obtain⟨l',hxw,htw,hsc,hll⟩:=HRC.out;have HXW:Bx (ab w wc):=⟨(HF5.out.xt.trans hxw).fresh HE.out (zX _)⟩
 by_cases h20:nl≤20;case neg =>
  go_wp2_with fail;go_ret
  exact⟨rfl,HXW.out⟩
 have HFx:=bx (HF5.out.step hxw htw);have HSx:=bx (HS5.out.xt hxw);have HIx:=bx (HI5.out.xt hxw);have HCx:Bx (fF w.heap.size wc (G B9 m9 d9) l'):=⟨hsc⟩
 have HLx:Bx (fF w.heap.size wc (G Al nl cl) l1):=⟨bg.ext HL0.out (Eq.stab _) HXW.out⟩
 have HLL:=zZ hll;have HLT:Bx (w.heap.size<wc.heap.size):=⟨HFx.out.lt⟩
 clear hxw htw hsc hll;obtain⟨z0,z1,z2,z3⟩:=(HFx.out.at_ 0 rfl).p4 rfl;obtain⟨j0,j1⟩:=(HFx.out.at_ 1 rfl).p2 rfl;have q1:(bU s t l'==bU s t l')=true:=by simp
 have q2:(bU s t l1==bU s t l1)=true:=by simp
 clear HF5 HS5 HI5 HFx;go_upto_region 23 with (fail)
 refine zQ 99 fun wd kS=>?_;refine zS 6 [(0,118),(1,119),(2,120),(4,122),(5,123),(6,124)] kS ?_;iterate 6 (apply zT;exact⟨rfl,rfl⟩;(·intro wk hk;have:=hk.cell z0;have:=hk.cell z1;have:=hk.cell z2;have:=hk.cell z3;have:=hk.cell j0;have:=hk.cell j1;go_simp;try with_reducible rfl);simp only[kA];exact rfl)
 refine zN (zO 3 (fun K hK=>?_));go_simp;refine (Cg _ _ _ s t l' _ (p:=w.heap.size) (zP HLT.out kS.size) (HSx.out.ext kS) (HIx.out.ext kS) (bg.ext HCx.out (Eq.stab _) kS) HN.out.1 HN.out.2 (by have:=HLL.out;omega)).mono ?_;rintro e w7 ⟨rfl,hx7⟩;have kS2:ab wc w7:=kS.trans hx7;refine hK.out _ _ (fun _=>kS2) ?_;clear hK K;try simp only[kA]
 refine zO 7 (fun K hK=>?_);go_simp;refine (aj _ _ _ s t l' _ (p:=w.heap.size) (zP HLT.out kS2.size) (HSx.out.ext kS2) (HIx.out.ext kS2) (bg.ext HCx.out (Eq.stab _) kS2) HN.out.1 HN.out.2 (by have:=HLL.out;omega)).mono ?_;rintro e w8 ⟨rfl,hx8⟩;have kS3:ab wc w8:=kS2.trans hx8;refine hK.out _ _ (fun _=>kS3) ?_;clear hK K;try simp only[kA]
 refine zS 8 [(8,126),(9,127),(10,128),(11,129),(12,130),(14,132),(15,133),(16,134)] kS3 ?_;iterate 8 (apply zT;exact⟨rfl,rfl⟩;(·intro wk hk;have:=hk.cell z0;have:=hk.cell z1;have:=hk.cell z2;have:=hk.cell z3;have:=hk.cell j0;have:=hk.cell j1;go_simp;try with_reducible rfl);simp only[kA];exact rfl)
 refine zN (zO 13 (fun K hK=>?_));go_simp;refine (Cg _ _ _ s t l1 _ (p:=w.heap.size) (zP HLT.out kS3.size) (HSx.out.ext kS3) (HIx.out.ext kS3) (bg.ext HLx.out (Eq.stab _) kS3) HN.out.1 HN.out.2 (by have:=HNL.out;omega)).mono ?_;rintro e w9' ⟨rfl,hx9⟩;have kS4:ab wc w9':=kS3.trans hx9;refine hK.out _ _ (fun _=>kS4) ?_;clear hK K;try simp only[kA]
 refine zO 17 (fun K hK=>?_);go_simp;refine (aj _ _ _ s t l1 _ (p:=w.heap.size) (zP HLT.out kS4.size) (HSx.out.ext kS4) (HIx.out.ext kS4) (bg.ext HLx.out (Eq.stab _) kS4) HN.out.1 HN.out.2 (by have:=HNL.out;omega)).mono ?_;rintro e w10' ⟨rfl,hx10⟩;have kS5:ab wc w10':=kS4.trans hx10;refine hK.out _ _ (fun _=>kS5) ?_;clear hK K;try simp only[kA]
 refine zS 3 [(18,136),(19,137),(20,138)] kS5 ?_;iterate 3 (apply zT;exact⟨rfl,rfl⟩;(·intro wk hk;have:=hk.cell z0;have:=hk.cell z1;have:=hk.cell z2;have:=hk.cell z3;have:=hk.cell j0;have:=hk.cell j1;go_simp;try with_reducible rfl);simp only[kA];exact rfl)
 refine zN (zO 21 (fun K hK=>?_));go_simp;refine (gW _).mono ?_;rintro e w11' ⟨rfl,hx11⟩;have kS6:ab wc w11':=kS5.trans hx11;refine hK.out _ _ (fun _=>kS6) ?_;clear hK K;try simp only[kA]
 refine zS 2 [(22,140),(23,4)] kS6 ?_;iterate 2 (apply zT;exact⟨rfl,rfl⟩;(·intro wk hk;have:=hk.cell z0;have:=hk.cell z1;have:=hk.cell z2;have:=hk.cell z3;have:=hk.cell j0;have:=hk.cell j1;go_simp;try with_reducible rfl);simp only[kA];exact rfl)
 refine zN (zD ?_);go_wp2_with fail;go_ret
 exact⟨rfl,HXW.out.trans kS6⟩
end Go.Proofs.YtjgfgdcaocbfhaaGreat

namespace Go.Proofs.YtjgfgdcaocbfhaaGreat
open Go.Value renaming int→C,slice→G
open Go.IntKind renaming i64→E
open Go.ChangeShapes Go.WideShapes Go.ChangeAt Go.RowKit
variable {e t:TypeId} {v:Value}
section
variable {H:Type} {enc:TypeId×Value→H} {P:Program} {W:World} {sp:Nat→Bool} {held:Bool} {r:Reach} {b0:Nat}
theorem mH{x:Int}(h:(Lit.int .i64 x).wf=true):aC x:=by simp[Lit.wf,IntKind.min,IntKind.max,IntKind.signed,IntKind.bits]at h;exact⟨by omega,by omega⟩
theorem fP{d:DataW H}{p:List MemPlace}(q:Nat)(hq:W.heap.size≤q)(hu:P.underlying t=some (.slice e))(he:P.underlying e=some (.int .i64))(hc:P.cellsOf e=1)(hv:Value.okWide P W r b0 t v)(h:DataW.Trod enc P W 0 sp held t v d p):∃l,ao q W v l:=by
 obtain⟨a,len,cap,rfl⟩:=okWide_slice hu hv;obtain⟨fuel,hf⟩:=h;rcases open_ints hu he hc hf with ⟨hcs,_⟩|⟨x,l,c,zs,hcs,_,hl,hm,hz,_,hcell,hwz⟩
 ·simp[Value.cells]at hcs;obtain⟨rfl,rfl,rfl⟩:=hcs;exact⟨[],ao.nil _ _⟩
 ·simp[Value.cells]at hcs;obtain⟨rfl,rfl,rfl⟩:=hcs;have hlen:len≤zs.length:=by rw[hz];split<;>omega
  have hm':cap≤9223372036854775807:=hm;have hlk:(zs.take len).length=len:=by rw[zF];omega
  refine⟨zs.take len,some x,cap,by rw[hlk],by omega,hm',by omega,fun y hy=>mH (hwz y (wQ hy)),fun k y hy=>?_⟩;have hk:=(zY.1 hy).1;have hcx:=hcell k (by omega);have hc0:=hcell 0 (by omega);have hy':zs.getD k 0=y:=by rw[yB,if_pos (by omega)]at hy;simp[List.getD,hy]
  rw[hy']at hcx;obtain⟨xb,xo,xs⟩:=x;have hs:xs=none:=by
   have h0:(⟨xb,xo,xs⟩:Addr).add 0=⟨xb,xo,xs⟩:=rfl;rw[h0]at hc0;unfold World.cell? at hc0;cases xs with
   |none=>rfl
   |some s=>split at hc0<;>simp at hc0
  subst hs;rw[ik]at hcx;have:=bZ hcx;exact⟨xb,xo,rfl,by simp at this;omega,hcx⟩
theorem FK{b o:Nat}{s:Option Nat}(h:W.cell? ⟨b,o,s⟩=some v):s=none:=by
 unfold World.cell? at h;cases s with
 |none=>rfl
 |some s=>split at h<;>simp at h
theorem cI(q:Nat)(hq:W.heap.size≤q)(A:Option Addr)(len cap:Nat)(zs:List Int)(hl:len≤cap)(hm:cap≤maxLen)(hz:len≤zs.length)(h0:A=none→len=0)(hcell:∀a,A=some a→∀i,i<len→W.cell? (a.add i)=some (C E (zs.getD i 0)))(hwz:∀n∈zs,(Lit.int .i64 n).wf=true):ao q W (G A len cap) (zs.take len):=by
 have hm':cap≤9223372036854775807:=hm;have hlk:(zs.take len).length=len:=by rw[zF];omega
 refine⟨A,cap,by rw[hlk],by omega,hm',by omega,fun y hy=>mH (hwz y (wQ hy)),fun k y hy=>?_⟩;have hk:=(zY.1 hy).1;cases A with
 |none=>have:=h0 rfl;omega
 |some a =>
  have hcx:=hcell a rfl k (by omega);have hc0:=hcell a rfl 0 (by omega);have hy':zs.getD k 0=y:=by rw[yB,if_pos (by omega)]at hy;simp[List.getD,hy]
  rw[hy']at hcx;obtain⟨xb,xo,xs⟩:=a;have hs:xs=none:=FK (show W.cell? ⟨xb,xo,xs⟩=some _ from hc0);subst hs;rw[ik]at hcx;have:=bZ hcx;exact⟨xb,xo,rfl,by simp at this;omega,hcx⟩
end
section
variable {H:Type} {enc:TypeId×Value→H} {P:Program} {W:World} {sp:Nat→Bool} {held:Bool} {r:Reach} {b0:Nat}
theorem tU{α:Type}{size:Nat}{R:World→List Value→α→Prop}{d:DataW H}{p:List MemPlace}(q:Nat)(hq:W.heap.size≤q)(hu:P.underlying t=some (.slice e))(ce:P.cellsOf e=size)(hsz:0<size)(hel:∀fuel cs x,DataW.trod enc P W 0 sp held fuel e cs=some x→cs.length=size→∃a:α,R W cs a)(hv:Value.okWide P W r b0 t v)(h:DataW.Trod enc P W 0 sp held t v d p):∃xs,bg q size R W v xs:=by
 obtain⟨a,len,cap,rfl⟩:=okWide_slice hu hv;obtain⟨fuel,hf⟩:=h;rcases Go.Deep.open_slice hu hf with ⟨hcs,_⟩|⟨x,l,c,m,n,D,Pl,hcs,_,hl,hm,hmm,_,hrow⟩
 ·simp[Value.cells]at hcs;obtain⟨rfl,rfl,rfl⟩:=hcs;exact⟨[],bg.nil _ _ _ _⟩
 ·simp[Value.cells]at hcs;obtain⟨rfl,rfl,rfl⟩:=hcs;have hm':cap≤9223372036854775807:=hm;have hlm:len≤m:=by rw[hmm];split<;>omega
  obtain⟨ys,hyl,hys⟩:=nO (P:=fun k (y:α)=>∃cs:List Value,cs.length=size∧(∀i,i<size→W.cell? ((x.add (k*size)).add i)=cs[i]?)∧R W cs y) (List.range len) (fun k z hz=>by
   have hk:k<len:=by simpa using (zY.1 hz).1
   obtain⟨cs',h1,h2⟩:=hrow k (by omega);rw[ce]at h1;obtain⟨_,hlen,hcell⟩:=World.cells?_some h1;obtain⟨y,hy⟩:=hel _ _ _ h2 hlen;exact⟨y,cs',hlen,hcell,hy⟩)
  rw[wM]at hyl;refine⟨ys,some x,cap,by rw[hyl],by omega,hm',fun k y hy=>?_⟩;have hk:=(zY.1 hy).1;obtain⟨cs,hlen,hcell,hr⟩:=hys k y hy;obtain⟨cs0,hlen0,hcell0,-⟩:=hys 0 ys[0] (zW (by omega));have c00:=hcell0 0 hsz;rw[zW (by omega)]at c00;obtain⟨xb,xo,xs⟩:=x;have hs:xs=none:=FK (show W.cell? ⟨xb,xo,xs⟩=some _ by simpa[Addr.add] using c00);subst hs;have hcc:∀j u,cs[j]?=some u→W.cell? ⟨xb,xo+k*size+j,none⟩=some u:=fun j u hu=>by have hj:=(zY.1 hu).1;have:=hcell j (by omega);rw[ik,ik]at this;rw[this,hu]
  have hlt:=bZ (hcc 0 cs[0] (zW (by omega)));exact⟨xb,xo,cs,rfl,by simp at hlt;omega,hlen,hcc,hr⟩
theorem GF{i:TypeId}{cs:List Value}{o n:Nat}{y:DataW H×List MemPlace}(hi:P.underlying i=some (.int .i64))(h:DataW.trod enc P W 0 sp held n i ((cs.drop o).take 1)=some y):∃x,cs[o]?=some (C E x)∧aC x:=by
 obtain⟨x,hx,_,hw⟩:=DataW.trod_int hi h;refine⟨x,?_,mH hw⟩;have h0:((cs.drop o).take 1)[0]?=some (C E x):=by rw[hx];rfl
 rw[yB,if_pos (by omega),xB]at h0;simpa using h0
theorem bn{u:Value}{n:Nat}{y:DataW H×List MemPlace}(q:Nat)(hq:W.heap.size≤q)(hu:P.underlying t=some (.slice e))(he:P.underlying e=some (.int .i64))(hc:P.cellsOf e=1)(h:DataW.trod enc P W 0 sp held n t [u]=some y):∃l,ao q W u l:=by
 rcases open_ints hu he hc h with ⟨hcs,_⟩|⟨x,l,c,zs,hcs,_,hl,hm,hz,_,hcell,hwz⟩
 ·simp at hcs;subst hcs;exact⟨[],ao.nil _ _⟩
 ·simp at hcs;subst hcs;have hlz:l≤zs.length:=by rw[hz];split<;>omega
  exact⟨_,cI q hq (some x) l c zs hl hm hlz (fun h=>by cases h) (fun a ha i hi=>by cases ha;exact hcell i (by omega)) hwz⟩
theorem fj{ti i:TypeId}{f0 f1 f2 f3 f4 f5 f6:Field}{d:DataW H}{p:List MemPlace}(q:Nat)(hq:W.heap.size≤q)(hu:P.underlying t=some (.slice e))(he:P.underlying e=some (.struct #[f0,f1,f2,f3,f4,f5,f6]))(hti:P.underlying ti=some (.slice i))(hi:P.underlying i=some (.int .i64))(ce:P.cellsOf e=7)(cti:P.cellsOf ti=1)(ci:P.cellsOf i=1)(o0:f0.offset=0)(o1:f1.offset=1)(o2:f2.offset=2)(o3:f3.offset=3)(o4:f4.offset=4)(o5:f5.offset=5)(o6:f6.offset=6)(t0:f0.type=i)(t1:f1.type=i)(t2:f2.type=i)(t3:f3.type=i)(t4:f4.type=i)(t5:f5.type=ti)(t6:f6.type=ti)(hv:Value.okWide P W r b0 t v)(h:DataW.Trod enc P W 0 sp held t v d p):∃l,fF q W v l:=by
 refine tU q hq hu ce (by decide) (fun fuel cs x h hl=>?_) hv h;obtain⟨xs,n,_,_,_,hxl,hf⟩:=DataW.trod_struct he h;have hxl':xs.length=7:=hxl;have h0:=hf 0 f0 rfl;have h1:=hf 1 f1 rfl;have h2:=hf 2 f2 rfl;have h3:=hf 3 f3 rfl;have h4:=hf 4 f4 rfl;have h5:=hf 5 f5 rfl;have h6:=hf 6 f6 rfl;rw[t0,o0,ci,zW (by omega)]at h0;rw[t1,o1,ci,zW (by omega)]at h1;rw[t2,o2,ci,zW (by omega)]at h2;rw[t3,o3,ci,zW (by omega)]at h3;rw[t4,o4,ci,zW (by omega)]at h4;rw[t5,o5,cti,zW (by omega)]at h5;rw[t6,o6,cti,zW (by omega)]at h6;obtain⟨a0,ha0,-⟩:=GF hi h0;obtain⟨a1,ha1,-⟩:=GF hi h1;obtain⟨a2,ha2,-⟩:=GF hi h2;obtain⟨a3,ha3,-⟩:=GF hi h3;obtain⟨a4,ha4,-⟩:=GF hi h4;match cs,hl with
 |[c0,c1,c2,c3,c4,c5,c6],_ =>
  simp at ha0 ha1 ha2 ha3 ha4;simp at h5 h6;subst ha0 ha1 ha2 ha3 ha4;obtain⟨l5,hl5⟩:=bn q hq hti hi ci h5;obtain⟨l6,hl6⟩:=bn q hq hti hi ci h6;exact⟨⟨a0,a1,a2,a3,a4,l5,l6⟩,_,_,rfl,hl5,hl6⟩
end
end Go.Proofs.YtjgfgdcaocbfhaaGreat

