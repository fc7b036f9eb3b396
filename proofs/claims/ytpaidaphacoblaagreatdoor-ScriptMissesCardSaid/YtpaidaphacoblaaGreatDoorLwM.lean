import Derived.Test.YtpaidaphacoblaaGreatDoorSitU
import Derived.Test.YtpaidaphacoblaaGreatDoorK43
import Derived.Test.YtpaidaphacoblaaGreatDoorInkG
import Derived.Test.YtpaidaphacoblaaGreatDoorK50
set_option linter.all false
set_option maxRecDepth 100000
set_option maxHeartbeats 0
namespace Go.Proofs.YtpaidaphacoblaaGreatDoor
open Go.Value renaming int→A,slice→C
open Go.IntKind renaming i64→B
open Go.RowKit _root_.Go.Proofs.Tryz
theorem OO{α β:Type}(f:α->β)(l:List α)(j:Nat):(l.take j++l.drop (j+1)).map f=(l.map f).take j++(l.map f).drop (j+1):=by rw[yG,List.map_take,List.map_drop]
set_option maxRecDepth 100000 in
set_option maxHeartbeats 16000000 in
theorem MK(v0:Value)(l0:List Int)(a1:Int)(w:World)(h0:ak w.heap.size w v0 l0)(h1:aU a1)(hT:cK w) :
  Calls prog 4 #[v0,.int .i64 a1] w fun e w'=>e=.returned (.bool true)/\ab w w':=by
 have HA1:=zZ h1;clear h1;have H0:=zZ h0;have HB:=zZ hT;clear h0 hT;go_enter func4,ntmps4
 go_wp2_with fail;refine (ib _ l0 _ H0.out).mono ?_;rintro e w1 ⟨rfl,HT1,HE1⟩;have HE:=zZ HE1;have HF1:Bx (LF w.heap.size w1 w1 []):=⟨LF.start HT1 (HB.out.ext HE1) HB.out.lt⟩
 clear HT1 HE1;go_wp2_with fail;refine (dp _ 0 _ HF1.out.fr.tp (by omega) (by omega)).mono ?_;rintro e w2 ⟨v2,rfl,⟨s,hsv,hwf,hok⟩,HT2,HX2⟩;have hs2:=hsv.isSit hwf HF1.out.fr.hp;have HWF:=zZ hwf;obtain⟨AP,nP,cP,AB,nB,cB,AX,nX,cX,rfl⟩:=hs2.op;have HOK:=zZ (hok rfl);obtain⟨gS,hgS⟩:∃z,z=w2.heap.size:=⟨_,rfl⟩
 obtain⟨w3,hw3⟩:∃z:World,z=(w2.alloc (.cells #[.int .i64 s.num,C AP nP cP,C AB nB cB,C AX nX cX] 29)):=⟨_,rfl⟩
 have HF3:Bx (LF w.heap.size w1 w3 [(gS,#[.int .i64 s.num,C AP nP cP,C AB nB cB,C AX nX cX],29)]):=⟨by rw[hw3];exact (HF1.out.step HX2 HT2).push _ _ hgS.symm⟩
 have HS3:Bx (aR w.heap.size w3 (.agg #[.int .i64 s.num,C AP nP cP,C AB nB cB,C AX nX cX]) s):=⟨by rw[hw3];exact hs2.ext ((zE _).alloc _)⟩
 clear hs2 hsv hwf hok;go_upto_region 3 with (fail)
 rw[<-hw3,<-hgS];clear hw3 hgS HT2 HX2 HF1;have z0:=(HF3.out.at_ 0 rfl).cell (i:=0) rfl;have z1:=(HF3.out.at_ 0 rfl).cell (i:=1) rfl;have z2:=(HF3.out.at_ 0 rfl).cell (i:=2) rfl;have z3:=(HF3.out.at_ 0 rfl).cell (i:=3) rfl;go_wp2_with fail;refine (E2 _ _ s _ HF3.out.fr.tp HS3.out HOK.out).mono ?_;rintro e w4 ⟨v4,rfl,⟨ys,hrow,hwho⟩,HT4,HX4⟩;obtain⟨AC,cC,rfl⟩:=hrow.form;have hn60:ys.length<=60:=by have:=IE hwho HWF.out;simpa using this
 have hr4:=(Cr.of_row hrow HF3.out.lt).rdI HF3.out.lt;obtain⟨nl,hnl⟩:∃z,z=ys.length:=⟨_,rfl⟩
 rw[<-hnl]at hr4 hn60⊢;have HWH:=zZ hwho;have HLN:=zZ hnl;have HF4:Bx (LF w.heap.size w1 w4 [(gS,#[.int .i64 s.num,C AP nP cP,C AB nB cB,C AX nX cX],29)]):=⟨HF3.out.step HX4 HT4⟩
 have HS4:Bx (aR w.heap.size w4 (.agg #[.int .i64 s.num,C AP nP cP,C AB nB cB,C AX nX cX]) s):=⟨HS3.out.xt HX4⟩
 clear hrow hnl hwho HT4 HX4 z0 z1 z2 z3 HF3 HS3;by_cases h0:0<nl;case neg =>
  obtain rfl:nl=0:=by omega
  go_wp2_with fail;refine (wS _).mono ?_;rintro e w7 ⟨rfl,hx7⟩;go_wp2_with fail;go_ret
  exact⟨rfl,(HF4.out.fin HE.out).trans hx7⟩
 have hbd:0<=eW a1 nl/\eW a1 nl<nl:=⟨vn _ _,vy _ _ (by omega)⟩
 obtain⟨j,hj⟩:=zG hbd.1;have hjn:j<nl:=by have:=hbd.2;omega
 have HJ:=zZ hj;clear hbd hj;have HC4:Bx (au w.heap.size w4 (C AC nl cC) (ys.map Prod.fst)):=⟨Mv.cs hr4⟩
 obtain⟨bC,oC,_,_,rfl,-⟩:=HC4.out.at_ hjn;have HR4:Bx (bj w.heap.size 13 (Mv w.heap.size) w4 (C (some ⟨bC,oC,none⟩) nl cC) ys):=⟨hr4⟩
 obtain⟨xt,xs,xq,xk,xct,xts,xtq,xlp,xlc,xlg,xlv,xstr,xch,xA,xn,xcc,HX,hcx,-,-⟩:=au.read HC4.out (XT.refl w.heap.size w4) hjn;obtain⟨lc,lg,hct,hlc,hlg,hall⟩:=QW HWH.out HX.out;obtain rfl:xct=100*lc+lg:=hct;obtain⟨cl,hcl⟩:∃z,z=(ys.map Prod.fst).take j++(ys.map Prod.fst).drop (j+1):=⟨_,rfl⟩
 have hcl60:cl.length<=300:=by rw[hcl,yU,yW,wD,zJ,<-HLN.out];omega
 rw[<-hcl]at hall;have HCL:Bx (cl=(ys.map Prod.fst).take j++(ys.map Prod.fst).drop (j+1)/\cl.length<=300):=⟨⟨hcl,hcl60⟩⟩
 obtain⟨t,ht⟩:∃z,z=cQ s (ay cl):=⟨_,rfl⟩
 have hck:aC s=0:=iL.2 HOK.out;have hsl:=NZ s cl hcl60;rw[if_pos hck,<-ht]at hsl;rw[<-ht]at hall;have HTT:Bx (rM s cl=t):=⟨by rw[ht];exact if_pos hck⟩
 have HBL:Bx (gq s t=true):=⟨by rw[ht];exact OQ HOK.out cl⟩
 have HCK:=zZ hck;have HAL:=zZ hall;have HLC:Bx ((0<=lc/\lc<=9999)/\(0<=lg/\lg<=12)):=⟨⟨hlc,hlg⟩⟩
 obtain⟨ns,hns⟩:∃z,z=t.sts.length:=⟨_,rfl⟩
 obtain⟨ng,hng⟩:∃z,z=t.pgs.length:=⟨_,rfl⟩
 rw[<-hns,<-hng]at hsl;have HTL:Bx (t.sts.length=ns/\t.pgs.length=ng):=⟨⟨hns.symm,hng.symm⟩⟩
 have HNN:=zZ hsl;have x5:=hcx.c5;obtain⟨ct,hct⟩:∃z,z=100*lc+lg:=⟨_,rfl⟩
 rw[<-hct]at x5;have HCT:=zZ hct;clear hcl hcl60 ht hck hsl hall hlc hlg hns hng hcx hct hr4 HX;go_upto_region 8 with (go_at_call 14;refine (qb a1 nl _ HA1.out.1 HA1.out.2 (by omega)).mono ?_;rintro e w6 ⟨rfl,rfl⟩;rw[HJ.out])
 have hjx:(j:Int)<=(cC:Int):=by obtain⟨A',c',e',h9,h8,h4⟩:=HR4.out;cases e';have:=HLN.out;omega
 have hwj:IntKind.i64.wrap ((j:Int)+1)=((j+1:Nat):Int):=by rw[yN _ (by omega)];omega
 have hjm1:(((j+1:Nat):Int)<=(nl:Int))=True:=eq_true (by omega);have hjm2:(0<=(j:Int)+1/\(j:Int)+1<=(nl:Int))=True:=eq_true (by omega);have hjm3:(j:Int)+1<=(nl:Int):=by omega
 have hjm4:0<=(j:Int)+1:=by omega
 have hmx:(nl:Int)<=(cC:Int):=by obtain⟨A',c',e',h9,h8,h4⟩:=HR4.out;cases e';have:=HLN.out;omega
 clear x5;refine px 99 (fun w'=>Bk w' gS #[.int .i64 s.num,C AP nP cP,C AB nB cB,C AX nX cX] 29) (by kernel_rfl) ?_;have kS:(fun w'=>Bk w' gS #[.int .i64 s.num,C AP nP cP,C AB nB cB,C AX nX cX] 29) w4.drew:=(HF4.out.at_ 0 rfl).ext (zE _).drew;have kD:ab w4 w4.drew:=(zE _).drew;obtain⟨wd,hwd⟩:∃z:World,z=w4.drew:=⟨_,rfl⟩
 rw[<-hwd]at kS kD⊢;clear hwd;have HF5:Bx (LF w.heap.size w1 wd [(gS,#[.int .i64 s.num,C AP nP cP,C AB nB cB,C AX nX cX],29)]):=⟨HF4.out.ext kD⟩
 have HS5:Bx (aR w.heap.size wd (.agg #[.int .i64 s.num,C AP nP cP,C AB nB cB,C AX nX cX]) s):=⟨HS4.out.ext kD⟩
 have HX5:Bx (ab w4 wd):=⟨kD⟩
 have HR5:Bx (bj w.heap.size 13 (Mv w.heap.size) wd (C (some ⟨bC,oC,none⟩) nl cC) ys):=⟨bj.ext HR4.out (Mv.stab _) kD⟩
 clear kD;refine ur 9 [(0,36),(1,37),(2,38),(3,39),(4,40),(5,41),(6,42),(7,43),(8,44)] rfl (by kernel_rfl) (by kernel_rfl) (fun _ _ _ _ _ h=>h) kS ?_;iterate 9 (apply Ff;(case ho=>exact rfl);(case hw=>exact rfl);(case hy=>((intro wk hk);(try dsimp only at hk);have z0:=hk.cell (i:=0) rfl;have z1:=hk.cell (i:=1) rfl;have z2:=hk.cell (i:=2) rfl;have z3:=hk.cell (i:=3) rfl;go_simp;try with_reducible rfl));(case hput=>(simp only[Act.put,List.setIfInBounds_toArray,List.set_cons_zero,List.set_cons_succ];exact rfl)))
 refine Lh ?_;obtain⟨BD,hBD⟩:∃z:Option Addr,z=if cC=j+1 then some ⟨bC,oC,none⟩ else some ⟨bC,oC+(j+1)*13,none⟩:=⟨_,rfl⟩
 rw[<-hBD];have HBD:=zZ hBD;clear hBD;apply Rg (Q:=fun gI vA AS cS AG cG W=>LF w.heap.size w1 W [(gS,#[.int .i64 s.num,C AP nP cP,C AB nB cB,C AX nX cX],29),(gI,#[C none 0 0,C none 0 0],45)]/\ab w4 W/\w4.heap.size<=gI/\aK gI W (.agg #[C AS ns cS,C AG ng cG]) t);case h =>
  intro rest;refine an 9 14 (by kernel_rfl) rfl rfl (fun K hK=>?_) (fun K hK=>?_)
  ·skip
   obtain⟨vA,w21,hrun,hx21,hl21⟩:=NH HR5.out HBD.out HF5.out.lt hjn (by omega);refine t8 (by rfl) _ _ _ (by rfl) (by rfl) (by rfl) hrun ?_;have HC21:Bx (au w.heap.size w21 vA cl/\cl.length<=300):=⟨by rw[HCL.out.1,<-OO];exact Mv.cs hl21,HCL.out.2⟩
   have HF21:Bx (LF w.heap.size w1 w21 [(gS,#[.int .i64 s.num,C AP nP cP,C AB nB cB,C AX nX cX],29)]):=⟨HF5.out.ext hx21⟩
   have HS21:Bx (aR w.heap.size w21 (.agg #[.int .i64 s.num,C AP nP cP,C AB nB cB,C AX nX cX]) s):=⟨HS5.out.ext hx21⟩
   have HX21:Bx (ab w4 w21):=⟨HX5.out.trans hx21⟩
   change K (Act.put _ (some 45) _) w21;clear hrun hx21 hl21;have k21:=HF21.out.at_ 0 rfl;refine hK.out _ _ (fun _=>k21) ?_;clear hK K;try simp only[Act.put,List.setIfInBounds_toArray,M5,List.set_cons_succ]
   refine an 10 14 (by kernel_rfl) rfl rfl (fun K hK=>?_) (fun K hK=>?_)
   ·skip
    go_simp;refine (aW _ _ s cl _ (p:=w.heap.size) HF21.out.lt HF21.out.tb HS21.out HC21.out.1 HC21.out.2).mono ?_;rintro e w22 ⟨⟨vI,rfl,hI⟩,hx22⟩;rw[HTT.out]at hI;rw[HCK.out];obtain⟨AS,cS,AG,cG,rfl⟩:=hI.op;rw[HTL.out.1,HTL.out.2]at hI⊢;have HI22:Bx (aK w.heap.size w22 (.agg #[C AS ns cS,C AG ng cG]) t):=⟨hI⟩
    have HF22:Bx (LF w.heap.size w1 w22 [(gS,#[.int .i64 s.num,C AP nP cP,C AB nB cB,C AX nX cX],29)]):=⟨HF21.out.ext hx22⟩
    have HX22:Bx (ab w4 w22):=⟨HX21.out.trans hx22⟩
    clear hI hx22;have k22:=HF22.out.at_ 0 rfl;refine hK.out _ _ (fun _=>k22) ?_;clear hK K;try simp only[Act.put,List.setIfInBounds_toArray,M5,List.set_cons_succ]
    refine ur 3 [(11,35),(12,47),(13,48)] rfl (by kernel_rfl) (by kernel_rfl) (fun _ _ _ _ _ h=>h) k22 ?_;iterate 3 (apply Ff;(case ho=>exact rfl);(case hw=>exact rfl);(case hy=>((intro wk hk);(try dsimp only at hk);have z0:=hk.cell (i:=0) rfl;have z1:=hk.cell (i:=1) rfl;have z2:=hk.cell (i:=2) rfl;have z3:=hk.cell (i:=3) rfl;go_simp;try with_reducible rfl));(case hput=>(simp only[Act.put,List.setIfInBounds_toArray,List.set_cons_zero,List.set_cons_succ];exact rfl)))
    refine Lh ?_;refine Cw 14 (by kernel_rfl) rfl (fun K hK=>?_);go_simp;obtain⟨gI,hgI⟩:∃z,z=w22.heap.size:=⟨_,rfl⟩
    obtain⟨w23,hw23⟩:∃z:World,z=(w22.alloc (.cells #[C none 0 0,C none 0 0] 45)):=⟨_,rfl⟩
    have hxA:ab w22 w23:=by rw[hw23];exact (zE _).alloc _
    have HF23:Bx (LF w.heap.size w1 w23 [(gS,#[.int .i64 s.num,C AP nP cP,C AB nB cB,C AX nX cX],29),(gI,#[C none 0 0,C none 0 0],45)]):=⟨by rw[hw23];exact HF22.out.push _ _ hgI.symm⟩
    have HX23:Bx (ab w4 w23):=⟨HX22.out.trans hxA⟩
    have HG23:Bx (w4.heap.size<=gI):=⟨by rw[hgI];exact HX22.out.size⟩
    have HI23:Bx (aK gI w23 (.agg #[C AS ns cS,C AG ng cG]) t):=⟨(HI22.out.re (by omega)).ext hxA⟩
    rw[<-hw23,<-hgI];clear hw23 hgI hxA;have k23:=HF23.out.at_ 0 rfl;refine hK.out _ _ (fun _=>k23) ?_;clear hK K;try simp only[Act.put,List.setIfInBounds_toArray,M5,List.set_cons_succ]
    exact rest.out gI vA AS cS AG cG w23 ⟨⟨HF23.out,HX23.out,HG23.out,HI23.out⟩⟩
   ·skip
    go_simp;obtain⟨gI,hgI⟩:∃z,z=w21.heap.size:=⟨_,rfl⟩
    obtain⟨w24,hw24⟩:∃z:World,z=(w21.alloc (.cells #[C none 0 0,C none 0 0] 45)):=⟨_,rfl⟩
    have hxA:ab w21 w24:=by rw[hw24];exact (zE _).alloc _
    have HF24:Bx (LF w.heap.size w1 w24 [(gS,#[.int .i64 s.num,C AP nP cP,C AB nB cB,C AX nX cX],29),(gI,#[C none 0 0,C none 0 0],45)]):=⟨by rw[hw24];exact HF21.out.push _ _ hgI.symm⟩
    have HX24:Bx (ab w4 w24):=⟨HX21.out.trans hxA⟩
    have HG24:Bx (w4.heap.size<=gI):=⟨by rw[hgI];exact HX21.out.size⟩
    have HS24:Bx (aR gI w24 (.agg #[.int .i64 s.num,C AP nP cP,C AB nB cB,C AX nX cX]) s):=⟨(HS21.out.re (by omega)).ext hxA⟩
    have HC24:Bx (au gI w24 vA cl/\cl.length<=300):=⟨bj.ext (QM HC21.out.1 (by omega)) (bR.stab _) hxA,HC21.out.2⟩
    rw[<-hw24,<-hgI];clear hw24 hgI hxA;have k24:=HF24.out.at_ 0 rfl;refine hK.out _ _ (fun _=>k24) ?_;clear hK K;try simp only[Act.put,List.setIfInBounds_toArray,M5,List.set_cons_succ]
    refine Cw 10 (by kernel_rfl) rfl (fun K hK=>?_);go_simp;refine (aW _ _ s cl _ (p:=gI) (HF24.out.fr.bl.lt 1 rfl) HF24.out.tb HS24.out HC24.out.1 HC24.out.2).mono ?_;rintro e w25 ⟨⟨vI,rfl,hI⟩,hx25⟩;rw[HTT.out]at hI;rw[HCK.out];obtain⟨AS,cS,AG,cG,rfl⟩:=hI.op;rw[HTL.out.1,HTL.out.2]at hI⊢;have HI25:Bx (aK gI w25 (.agg #[C AS ns cS,C AG ng cG]) t):=⟨hI⟩
    have HF25:Bx (LF w.heap.size w1 w25 [(gS,#[.int .i64 s.num,C AP nP cP,C AB nB cB,C AX nX cX],29),(gI,#[C none 0 0,C none 0 0],45)]):=⟨HF24.out.ext hx25⟩
    have HX25:Bx (ab w4 w25):=⟨HX24.out.trans hx25⟩
    clear hI hx25;have k25:=HF25.out.at_ 0 rfl;refine hK.out _ _ (fun _=>k25) ?_;clear hK K;try simp only[Act.put,List.setIfInBounds_toArray,M5,List.set_cons_succ]
    refine ur 3 [(11,35),(12,47),(13,48)] rfl (by kernel_rfl) (by kernel_rfl) (fun _ _ _ _ _ h=>h) k25 ?_;iterate 3 (apply Ff;(case ho=>exact rfl);(case hw=>exact rfl);(case hy=>((intro wk hk);(try dsimp only at hk);have z0:=hk.cell (i:=0) rfl;have z1:=hk.cell (i:=1) rfl;have z2:=hk.cell (i:=2) rfl;have z3:=hk.cell (i:=3) rfl;go_simp;try with_reducible rfl));(case hput=>(simp only[Act.put,List.setIfInBounds_toArray,List.set_cons_zero,List.set_cons_succ];exact rfl)))
    refine Lh ?_;exact rest.out gI vA AS cS AG cG w25 ⟨⟨HF25.out,HX25.out,HG24.out,HI25.out⟩⟩
  ·skip
   go_simp;obtain⟨gI,hgI⟩:∃z,z=wd.heap.size:=⟨_,rfl⟩
   obtain⟨w26,hw26⟩:∃z:World,z=(wd.alloc (.cells #[C none 0 0,C none 0 0] 45)):=⟨_,rfl⟩
   have hxA:ab wd w26:=by rw[hw26];exact (zE _).alloc _
   have HF26:Bx (LF w.heap.size w1 w26 [(gS,#[.int .i64 s.num,C AP nP cP,C AB nB cB,C AX nX cX],29),(gI,#[C none 0 0,C none 0 0],45)]):=⟨by rw[hw26];exact HF5.out.push _ _ hgI.symm⟩
   have HX26:Bx (ab w4 w26):=⟨HX5.out.trans hxA⟩
   have HG26:Bx (w4.heap.size<=gI):=⟨by rw[hgI];exact HX5.out.size⟩
   have HS26:Bx (aR gI w26 (.agg #[.int .i64 s.num,C AP nP cP,C AB nB cB,C AX nX cX]) s):=⟨(HS5.out.re (by omega)).ext hxA⟩
   have HR26:Bx (bj gI 13 (Mv gI) w26 (C (some ⟨bC,oC,none⟩) nl cC) ys):=⟨Mv.re HR5.out hxA.xt (by omega)⟩
   rw[<-hw26,<-hgI];clear hw26 hgI hxA;have k26:=HF26.out.at_ 0 rfl;refine hK.out _ _ (fun _=>k26) ?_;clear hK K;try simp only[Act.put,List.setIfInBounds_toArray,M5,List.set_cons_succ]
   refine Cw 9 (by kernel_rfl) rfl (fun K hK=>?_);obtain⟨vA,w27,hrun,hx27,hl27⟩:=NH HR26.out HBD.out (HF26.out.fr.bl.lt 1 rfl) hjn (by omega);refine t8 (by rfl) _ _ _ (by rfl) (by rfl) (by rfl) hrun ?_;have HC27:Bx (au gI w27 vA cl/\cl.length<=300):=⟨by rw[HCL.out.1,<-OO];exact Mv.cs hl27,HCL.out.2⟩
   have HF27:Bx (LF w.heap.size w1 w27 [(gS,#[.int .i64 s.num,C AP nP cP,C AB nB cB,C AX nX cX],29),(gI,#[C none 0 0,C none 0 0],45)]):=⟨HF26.out.ext hx27⟩
   have HS27:Bx (aR gI w27 (.agg #[.int .i64 s.num,C AP nP cP,C AB nB cB,C AX nX cX]) s):=⟨HS26.out.ext hx27⟩
   have HX27:Bx (ab w4 w27):=⟨HX26.out.trans hx27⟩
   change K (Act.put _ (some 45) _) w27;clear hrun hx27 hl27;have k27:=HF27.out.at_ 0 rfl;refine hK.out _ _ (fun _=>k27) ?_;clear hK K;try simp only[Act.put,List.setIfInBounds_toArray,M5,List.set_cons_succ]
   refine Cw 10 (by kernel_rfl) rfl (fun K hK=>?_);go_simp;refine (aW _ _ s cl _ (p:=gI) (HF27.out.fr.bl.lt 1 rfl) HF27.out.tb HS27.out HC27.out.1 HC27.out.2).mono ?_;rintro e w28 ⟨⟨vI,rfl,hI⟩,hx28⟩;rw[HTT.out]at hI;rw[HCK.out];obtain⟨AS,cS,AG,cG,rfl⟩:=hI.op;rw[HTL.out.1,HTL.out.2]at hI⊢;have HI28:Bx (aK gI w28 (.agg #[C AS ns cS,C AG ng cG]) t):=⟨hI⟩
   have HF28:Bx (LF w.heap.size w1 w28 [(gS,#[.int .i64 s.num,C AP nP cP,C AB nB cB,C AX nX cX],29),(gI,#[C none 0 0,C none 0 0],45)]):=⟨HF27.out.ext hx28⟩
   have HX28:Bx (ab w4 w28):=⟨HX27.out.trans hx28⟩
   clear hI hx28;have k28:=HF28.out.at_ 0 rfl;refine hK.out _ _ (fun _=>k28) ?_;clear hK K;try simp only[Act.put,List.setIfInBounds_toArray,M5,List.set_cons_succ]
   refine ur 3 [(11,35),(12,47),(13,48)] rfl (by kernel_rfl) (by kernel_rfl) (fun _ _ _ _ _ h=>h) k28 ?_;iterate 3 (apply Ff;(case ho=>exact rfl);(case hw=>exact rfl);(case hy=>((intro wk hk);(try dsimp only at hk);have z0:=hk.cell (i:=0) rfl;have z1:=hk.cell (i:=1) rfl;have z2:=hk.cell (i:=2) rfl;have z3:=hk.cell (i:=3) rfl;go_simp;try with_reducible rfl));(case hput=>(simp only[Act.put,List.setIfInBounds_toArray,List.set_cons_zero,List.set_cons_succ];exact rfl)))
   refine Lh ?_;exact rest.out gI vA AS cS AG cG w28 ⟨⟨HF28.out,HX28.out,HG26.out,HI28.out⟩⟩
 case r =>
 intro gI vA AS cS AG cG w30 HJ;have k30:=HJ.out.1.at_ 0 rfl;have j0:=(HJ.out.1.at_ 1 rfl).cell (i:=0) rfl;have j1:=(HJ.out.1.at_ 1 rfl).cell (i:=1) rfl;have f0:=(HJ.out.1.at_ 1 rfl).froz 0;have f1:=(HJ.out.1.at_ 1 rfl).froz 1;refine Cw 15 (by kernel_rfl) rfl (fun K hK=>?_);go_simp;obtain⟨w8,hw8⟩:∃z:World,z=(be w30 gI 0 [C AS ns cS,C AG ng cG]):=⟨_,rfl⟩
 obtain⟨hF,hI,hS⟩:=Ql HJ.out.1 HJ.out.2.2.2 HS4.out HJ.out.2.1 HJ.out.2.2.1;rw[<-hw8]at hF hI hS;simp only[be,Nat.reduceAdd,yV]at hw8;rw[<-hw8];have HF8:Bx (LF w.heap.size w1 w8 [(gS,#[.int .i64 s.num,C AP nP cP,C AB nB cB,C AX nX cX],29),(gI,#[C AS ns cS,C AG ng cG],45)]):=⟨hF⟩
 have HI8:Bx (aK gI w8 (.agg #[C AS ns cS,C AG ng cG]) t):=⟨hI⟩
 have HS8:Bx (aR gI w8 (.agg #[.int .i64 s.num,C AP nP cP,C AB nB cB,C AX nX cX]) s):=⟨hS⟩
 have HLT:Bx (gI<w8.heap.size):=⟨hF.fr.bl.lt 1 rfl⟩
 have k31:=hF.at_ 0 rfl;clear hw8 hF hI hS j0 j1 f0 f1 k30 HJ;refine hK.out _ _ (fun _=>k31) ?_;clear hK K;try simp only[Act.put,List.setIfInBounds_toArray,M5,List.set_cons_succ]
 refine Cw 16 (by kernel_rfl) rfl (fun K hK=>?_);go_simp;refine hK.out _ _ (fun _=>k31) ?_;clear hK K;try simp only[Act.put,List.setIfInBounds_toArray,M5,List.set_cons_succ]
 refine zcw (by kernel_rfl) ?_ _;clear k31;have hst:=MG (.agg #[.int .i64 s.num,C AP nP cP,C AB nB cB,C AX nX cX]) (.agg #[C AS ns cS,C AG ng cG]) s t w8 (p:=gI) HLT.out HS8.out HI8.out (by rw[HTL.out.1];have:=HNN.out;omega) (by rw[HTL.out.2];have:=HNN.out;omega);rw[if_pos HBL.out,if_pos HBL.out]at hst;have HST:=zZ hst;clear hst;have z0:=(HF8.out.at_ 0 rfl).cell (i:=0) rfl;have z1:=(HF8.out.at_ 0 rfl).cell (i:=1) rfl;have z2:=(HF8.out.at_ 0 rfl).cell (i:=2) rfl;have z3:=(HF8.out.at_ 0 rfl).cell (i:=3) rfl;have i0:=(HF8.out.at_ 1 rfl).cell (i:=0) rfl;have i1:=(HF8.out.at_ 1 rfl).cell (i:=1) rfl;go_wp2_with fail;refine HST.out.mono ?_;rintro e w9 ⟨⟨va,zs,rfl,hra,hya⟩,hx9⟩;obtain⟨Aa,ca,rfl⟩:=hra.form;have hA:bj gI 3 (MW gI) w9 (C Aa zs.length ca) (s.xp.map (gt s t)):=by rw[<-hya];exact hra.isS HLT.out
 obtain⟨vP,vB,vX,hag,-,-,hX,-⟩:=HS8.out;obtain⟨rfl,rfl,rfl⟩:vP=C AP nP cP/\vB=C AB nB cB/\vX=C AX nX cX:=by injection hag with hag;injection hag with hag;injection hag with _ hag;injection hag with e1 hag;injection hag with e2 hag;injection hag with e3 _;exact⟨e1.symm,e2.symm,e3.symm⟩
 have hzl:zs.length=nX:=by have h1:=hA.len;have h2:=hX.len;rw[zJ]at h1;omega
 have hnX:nX<=60:=by have:=HOK.out.len;have:=hX.len;omega
 rw[hzl]at hA⊢;have HA9:=zZ hA;have HF9:Bx (LF w.heap.size w1 w9 [(gS,#[.int .i64 s.num,C AP nP cP,C AB nB cB,C AX nX cX],29),(gI,#[C AS ns cS,C AG ng cG],45)]):=⟨HF8.out.ext hx9⟩
 have HL9:Bx (gI<w9.heap.size):=⟨zB HLT.out hx9.size⟩
 clear hag hX hA hra hya hzl hx9 HF8 HS8 HI8 HST z0 z1 z2 z3 i0 i1;have z0:=(HF9.out.at_ 0 rfl).cell (i:=0) rfl;have z1:=(HF9.out.at_ 0 rfl).cell (i:=1) rfl;have z2:=(HF9.out.at_ 0 rfl).cell (i:=2) rfl;have z3:=(HF9.out.at_ 0 rfl).cell (i:=3) rfl;have n1:((nX:Int)!=(nX:Int))=false:=by simp
 have HQ:Bx (wrap64 (ct.tdiv 100)=lc/\ct.tmod 100=lg):=⟨QH HCT.out HLC.out.1 HLC.out.2⟩
 have HQ2:Bx (aU lg):=⟨by have:=HLC.out;unfold aU;omega⟩
 go_wp2_with fail;clear z0 z1 z2 z3;go_loopw [14] (fun s14 wr=>∃k:Nat,s14=.int .i64 k/\k<=nX/\Bx (ab w9 wr)) (fun s14 _=>nX-(intOf s14).toNat)
 case atStart=>exact⟨0,rfl,by omega,⟨zE _⟩⟩
 case round =>
  obtain⟨k,rfl,hk,HR⟩:=hrel;by_cases hkn:k<nX
  ·obtain⟨ba,oa,_,_,rfl,-⟩:=HA9.out.at_ hkn;obtain⟨y0,y1,ps,A1,n1',c1,HY,hi1,s0,s1,s2⟩:=IsScs.rd HA9.out HR.out hkn;rcases P7 HAL.out HY.out with ⟨rfl,rfl,rfl⟩|⟨hne,rfl,rfl⟩
   ·have hq:(y0==wrap64 (ct.tdiv 100))=true:=by rw[HQ.out.1];simp
    have hrm:ct.tmod 100=lg:=HQ.out.2;have hl1:aU lg:=HQ2.out;go_wp2_with fail;refine (rP _ _ [lg] [lg] _ (hi1.ext ((zE wr).alloc _)) (ak.lit (p:=gI) [lg] 3 (by have:=HL9.out;have:=HR.out.size;omega) (fun x hx=>(show x=lg by simpa using hx)▸hl1) (by simp))).mono ?_;rintro e w10 ⟨rfl,hx10⟩;rw[show decide ([lg]=[lg])=true from decide_eq_true rfl];have HR10:Bx (ab w9 w10):=⟨(HR.out.trans ((zE wr).alloc _)).trans hx10⟩
    clear hx10 hi1 s0 s1 s2 hq hrm hl1;go_wp2_with fail;go_roundw
    case rel=>exact⟨k+1,by go_num,by omega,HR10⟩
    case measure=>simp[intOf];omega
   ·have hq:(y0==wrap64 (ct.tdiv 100))=false:=by rw[HQ.out.1];simpa using hne
    obtain rfl:n1'=0:=by have:=hi1.len;simpa using this.symm
    clear hi1 hne;go_wp2_with fail;go_roundw
    case rel=>exact⟨k+1,by go_num,by omega,HR⟩
    case measure=>simp[intOf];omega
  ·go_wp2_with fail;refine (wS _).mono ?_;rintro e w12 ⟨rfl,hx12⟩;go_wp2_with fail;go_ret
   exact⟨rfl,((HF9.out.fin HE.out).trans HR.out).trans hx12⟩
end Go.Proofs.YtpaidaphacoblaaGreatDoor

