import Derived.Test.YtkaajgoeahahpaaGreatDoorH19
import Derived.Test.YtkaajgoeahahpaaGreatDoorH22
set_option linter.all false
set_option maxRecDepth 100000
set_option maxHeartbeats 0
namespace Go.Proofs.YtkaajgoeahahpaaGreatDoor
open Go.Value renaming int→A,slice→C
open Go.IntKind renaming i64→B
open Go.RowKit _root_.Go.Proofs.Tryz
def JQ(p gS:Nat)(w wx:World)(cs:Array Value)(s11 s12:Value):Prop:=∃(gI:Nat) (t:r6) (AS:Option Addr) (cS:Nat) (AG:Option Addr) (cG:Nat),s11=.pointer (some ⟨gI,0,none⟩)/\s12=A B 0 /\
 LF p w wx [(gS,cs,27),(gI,#[C AS t.sts.length cS,C AG t.pgs.length cG],59)]/\aK gI wx (.agg #[C AS t.sts.length cS,C AG t.pgs.length cG]) t
theorem JQ.mk'{p gS gI:Nat}{w wx:World}{cs:Array Value}{t:r6}{AS:Option Addr}{cS:Nat}{AG:Option Addr}{cG:Nat}(h:LF p w wx [(gS,cs,27),(gI,#[C none 0 0,C none 0 0],59)])(hI:aK gI wx (.agg #[C AS t.sts.length cS,C AG t.pgs.length cG]) t) :
  JQ p gS w (be wx gI 0 [C AS t.sts.length cS,C AG t.pgs.length cG]) cs (.pointer (some ⟨gI,0,none⟩)) (A B 0):=by
 have hx:XT gI wx (be wx gI 0 [C AS t.sts.length cS,C AG t.pgs.length cG]):=((XT.refl gI wx).setCell rfl _).setCell rfl _;have h1:=h.fr.bl.ge 1 rfl;have h2:=h.fr.hp;have h3:=h.p2;exact⟨gI,t,AS,cS,AG,cG,rfl,rfl,⟨h.fr.setAll 1 rfl [C AS t.sts.length cS,C AG t.pgs.length cG] rfl,h.tb0,h.p2⟩,hI.xt hx⟩
theorem JQ.at0{p gS:Nat}{w wx:World}{cs:Array Value}{s11 s12:Value}(h:JQ p gS w wx cs s11 s12):Bk wx gS cs 27:=by obtain⟨gI,t,AS,cS,AG,cG,-,-,h1,-⟩:=h;exact h1.at_ 0 rfl
theorem Dt(p:Nat)(v:Value)(t:r6)(si qi:Int):∃(xa xb xc xd xe xf xg:Int) (r:Bool),
  (∀wx,aK p wx v t->Calls prog 38 #[v,.agg #[A B si,A B qi]] wx fun e w'=>e=.returned (.tuple #[.agg #[A B xa,A B xb,A B xc,A B xd,A B xe,A B xf,A B xg],.bool r])/\ab wx w') /\
  (∀wx,aK p wx v t->Calls prog 39 #[v,.agg #[A B si,A B qi]] wx fun e w'=>e=.returned (.tuple #[.agg #[A B xa,A B xb,A B xc,A B xd,A B xe,A B xf,A B xg],.bool r])/\ab wx w'):=by
 obtain⟨x,hx⟩:=nm ((tU t.sts ⟨si,qi⟩).getD ⟨⟨0,0⟩,0,⟨0,0,0,0⟩⟩:dF);refine⟨x.scan.s,x.scan.q,x.state,x.lab.p,x.lab.c,x.lab.g,x.lab.v,(tU t.sts ⟨si,qi⟩).isSome,fun wx h=>(mG v t si qi wx h).mono ?_,fun wx h=>(Dg v t si qi wx h).mono ?_⟩;all_goals
  rintro e w' ⟨⟨y,hy,rfl⟩,hw⟩;obtain rfl:x=y:=hx.trans hy;exact⟨rfl,hw⟩
theorem o9(v0:Value)(l0:List Int)(v1:Value)(l1:List dF)(a2 a3:Int)(w:World)(h0:ak w.heap.size w v0 l0)(h1:rA w.heap.size w v1 l1)(h2:aU a2)(h3:aU a3)(hT:cK w) :
  Calls prog 10 #[v0,v1,A B a2,A B a3] w fun e w'=>e=.returned (.bool true)/\ab w w':=by
 have HL0:=zZ h1;obtain⟨A1,n1,c1,rfl,-,-,hm1,HN1⟩:=h1.open_;have HA2:=zZ h2;have HA3:=zZ h3;clear h2 h3;have H0:=zZ h0;have HB:=zZ hT;clear h0 hT;go_enter func10,ntmps10
 by_cases h40:n1<=40;case neg =>
  go_wp2_with fail;go_ret
  exact⟨rfl,zE _⟩
 go_wp2_with fail;refine (ib _ l0 _ H0.out).mono ?_;rintro e w1 ⟨rfl,HT1,HE1⟩;have HE:=zZ HE1;have HF1:Bx (LF w.heap.size w1 w1 []):=⟨LF.start HT1 (HB.out.ext HE1) HB.out.lt⟩
 clear HT1 HE1;go_wp2_with fail;refine (dp _ 0 _ HF1.out.fr.tp (by omega) (by omega)).mono ?_;rintro e w2 ⟨v2,rfl,⟨s,hsv,hwf,hok⟩,HT2,HX2⟩;have hs2:=hsv.isSit hwf HF1.out.fr.hp;have HWF:=zZ hwf;obtain⟨AP,nP,cP,AB,nB,cB,AX,nX,cX,rfl⟩:=hs2.op;have HOK:=zZ (hok rfl);obtain⟨gS,hgS⟩:=nm w2.heap.size;obtain⟨w3,hw3⟩:=nm ((w2.alloc (.cells #[A B s.num,C AP nP cP,C AB nB cB,C AX nX cX] 27)):World);have HF3:Bx (LF w.heap.size w1 w3 [(gS,#[A B s.num,C AP nP cP,C AB nB cB,C AX nX cX],27)]):=⟨by rw[hw3];exact (HF1.out.step HX2 HT2).push _ _ hgS.symm⟩
 have HS3:Bx (aR w.heap.size w3 (.agg #[A B s.num,C AP nP cP,C AB nB cB,C AX nX cX]) s):=⟨by rw[hw3];exact hs2.ext ((zE _).alloc _)⟩
 clear hs2 hsv hwf hok;go_upto_region 5 with (fail)
 rw[<-hw3,<-hgS];clear hw3 hgS HT2 HX2 HF1;have HCH:Bx (aC s=0):=⟨iL.2 HOK.out⟩
 go_cut [11,12] (fun s11 s12 wx=>Bx (JQ w.heap.size gS w1 wx #[A B s.num,C AP nP cP,C AB nB cB,C AX nX cX] s11 s12))
 case first =>
  refine zR 99 (fun w'=>Bk w' gS #[A B s.num,C AP nP cP,C AB nB cB,C AX nX cX] 27) ?_;have kS:(fun w'=>Bk w' gS #[A B s.num,C AP nP cP,C AB nB cB,C AX nX cX] 27) w3.drew:=(HF3.out.at_ 0 rfl).ext (zE _).drew;have kD:ab w3 w3.drew:=(zE _).drew;obtain⟨wd,hwd⟩:=nm (w3.drew:World);rw[<-hwd]at kS kD⊢;clear hwd;have HF4:=bx (HF3.out.ext kD);have HS4:=bx (HS3.out.ext kD);clear kD;refine zS 3 [(0,31),(1,32),(2,33)] kS ?_;iterate 3 refine zT ?_ (y:=by intro wk hk;have z0:=hk.c 0 rfl;have z1:=hk.c 1 rfl;have z2:=hk.c 2 rfl;have z3:=hk.c 3 rfl;go_simp;try with_reducible rfl)
  refine zN (an 3 8 (by kernel_rfl) rfl rfl (fun K hK=>?_) (fun K hK=>?_))
  ·skip
   go_simp;refine (dP _ _ s 8 _ HF4.out.fr.tp HS4.out HWF.out (by omega)).mono ?_;rintro e w21 ⟨v21,rfl,⟨ys,hrow,hyl⟩,HT21,HX21⟩;have HF21:=bx (HF4.out.step HX21 HT21);have HS21:=bx (HS4.out.xt HX21);have HC21:Bx (au w.heap.size w21 v21 (ys.map Prod.fst)/\(ys.map Prod.fst).length<=300):=⟨hrow.isCs HF4.out.lt,by rw[zJ];omega⟩
   clear hrow hyl HT21 HX21;have k21:=HF21.out.at_ 0 rfl;refine hK.out _ _ (fun _=>k21) ?_;try simp only[kA]
   refine an 4 8 (by kernel_rfl) rfl rfl (fun K hK=>?_) (fun K hK=>?_)
   ·skip
    go_simp;refine (lj _ _ s _ _ HF21.out.lt HS21.out HC21.out.1 HC21.out.2).mono ?_;rintro e w22 ⟨vS,vG,rfl,hoS,hoG,hx22⟩;rw[HCH.out];have hi22:=tR (p:=w.heap.size) HF21.out.lt hoS hoG hx22;obtain⟨t,ht⟩:=nm (if aC s=0 then cQ s (ay (ys.map Prod.fst)) else ⟨[],[]⟩:r6);rw[<-ht]at hi22;clear ht hoS hoG;obtain⟨AS,cS,AG,cG,hv⟩:=hi22.op;obtain⟨rfl,rfl⟩:=Kw hv;clear hv;have HI22:Bx (aK w.heap.size w22 (.agg #[C AS t.sts.length cS,C AG t.pgs.length cG]) t):=⟨hi22⟩
    have HF22:=bx (HF21.out.ext hx22);clear hi22 hx22;have k22:=HF22.out.at_ 0 rfl;refine hK.out _ _ (fun _=>k22) ?_;try simp only[kA]
    refine zS 3 [(5,30),(6,36),(7,37)] k22 ?_;iterate 3 refine zT ?_ (y:=by intro wk hk;have z0:=hk.c 0 rfl;have z1:=hk.c 1 rfl;have z2:=hk.c 2 rfl;have z3:=hk.c 3 rfl;go_simp;try with_reducible rfl)
    refine zN (zO 8 (fun K hK=>?_));go_simp;obtain⟨gI,hgI⟩:=nm w22.heap.size;obtain⟨w23,hw23⟩:=nm ((w22.alloc (.cells #[C none 0 0,C none 0 0] 59)):World);have hxA:ab w22 w23:=by rw[hw23];exact (zE _).alloc _
    have HF23:Bx (LF w.heap.size w1 w23 [(gS,#[A B s.num,C AP nP cP,C AB nB cB,C AX nX cX],27),(gI,#[C none 0 0,C none 0 0],59)]):=⟨by rw[hw23];exact HF22.out.push _ _ hgI.symm⟩
    have HI23:Bx (aK gI w23 (.agg #[C AS t.sts.length cS,C AG t.pgs.length cG]) t):=⟨(HI22.out.re (by omega)).ext hxA⟩
    rw[<-hw23,<-hgI];clear hw23 hgI hxA;have k23:=HF23.out.at_ 0 rfl;refine hK.out _ _ (fun _=>k23) ?_;try simp only[kA]
    obtain⟨j0,j1⟩:=(HF23.out.at_ 1 rfl).p2 rfl;have f0:=(HF23.out.at_ 1 rfl).froz;have f1:=f0;refine zO 9 (fun K hK=>?_);go_simp;have hR:=JQ.mk' HF23.out HI23.out;have k9:=hR.at0;refine hK.out _ _ (fun _=>k9) ?_;try simp only[kA]
    refine zO 10 (fun K hK=>?_);go_simp;refine hK.out _ _ (fun _=>k9) ?_;try simp only[kA]
    refine zD ?_;go_wp2_with fail;go_meet
    exact⟨hR⟩
   ·skip
    go_simp;obtain⟨gI,hgI⟩:=nm w21.heap.size;obtain⟨w24,hw24⟩:=nm ((w21.alloc (.cells #[C none 0 0,C none 0 0] 59)):World);have hxA:ab w21 w24:=by rw[hw24];exact (zE _).alloc _
    have HF24:Bx (LF w.heap.size w1 w24 [(gS,#[A B s.num,C AP nP cP,C AB nB cB,C AX nX cX],27),(gI,#[C none 0 0,C none 0 0],59)]):=⟨by rw[hw24];exact HF21.out.push _ _ hgI.symm⟩
    have HS24:Bx (aR gI w24 (.agg #[A B s.num,C AP nP cP,C AB nB cB,C AX nX cX]) s):=⟨(HS21.out.re (by omega)).ext hxA⟩
    have HC24:Bx (au gI w24 v21 (ys.map Prod.fst)/\(ys.map Prod.fst).length<=300):=⟨bj.ext (au.re HC21.out.1 (by omega)) (bR.stab _) hxA,HC21.out.2⟩
    rw[<-hw24,<-hgI];clear hw24 hgI hxA;have k24:=HF24.out.at_ 0 rfl;refine hK.out _ _ (fun _=>k24) ?_;try simp only[kA]
    refine zO 4 (fun K hK=>?_);go_simp;refine (lj _ _ s _ _ (HF24.out.fr.bl.lt 1 rfl) HS24.out HC24.out.1 HC24.out.2).mono ?_;rintro e w25 ⟨vS,vG,rfl,hoS,hoG,hx25⟩;rw[HCH.out];have hi25:=tR (p:=gI) (HF24.out.fr.bl.lt 1 rfl) hoS hoG hx25;obtain⟨t,ht⟩:=nm (if aC s=0 then cQ s (ay (ys.map Prod.fst)) else ⟨[],[]⟩:r6);rw[<-ht]at hi25;clear ht hoS hoG;obtain⟨AS,cS,AG,cG,hv⟩:=hi25.op;obtain⟨rfl,rfl⟩:=Kw hv;clear hv;have HI25:Bx (aK gI w25 (.agg #[C AS t.sts.length cS,C AG t.pgs.length cG]) t):=⟨hi25⟩
    have HF25:=bx (HF24.out.ext hx25);clear hi25 hx25;have k25:=HF25.out.at_ 0 rfl;refine hK.out _ _ (fun _=>k25) ?_;try simp only[kA]
    refine zS 3 [(5,30),(6,36),(7,37)] k25 ?_;iterate 3 refine zT ?_ (y:=by intro wk hk;have z0:=hk.c 0 rfl;have z1:=hk.c 1 rfl;have z2:=hk.c 2 rfl;have z3:=hk.c 3 rfl;go_simp;try with_reducible rfl)
    refine zN ?_;obtain⟨j0,j1⟩:=(HF25.out.at_ 1 rfl).p2 rfl;have f0:=(HF25.out.at_ 1 rfl).froz;have f1:=f0;refine zO 9 (fun K hK=>?_);go_simp;have hR:=JQ.mk' HF25.out HI25.out;have k9:=hR.at0;refine hK.out _ _ (fun _=>k9) ?_;try simp only[kA]
    refine zO 10 (fun K hK=>?_);go_simp;refine hK.out _ _ (fun _=>k9) ?_;try simp only[kA]
    refine zD ?_;go_wp2_with fail;go_meet
    exact⟨hR⟩
  ·skip
   go_simp;obtain⟨gI,hgI⟩:=nm wd.heap.size;obtain⟨w26,hw26⟩:=nm ((wd.alloc (.cells #[C none 0 0,C none 0 0] 59)):World);have hxA:ab wd w26:=by rw[hw26];exact (zE _).alloc _
   have HF26:Bx (LF w.heap.size w1 w26 [(gS,#[A B s.num,C AP nP cP,C AB nB cB,C AX nX cX],27),(gI,#[C none 0 0,C none 0 0],59)]):=⟨by rw[hw26];exact HF4.out.push _ _ hgI.symm⟩
   have HXA:Bx (XT w.heap.size wd w26):=⟨hxA.xt⟩
   have HGI:Bx (wd.heap.size<=gI):=⟨by omega⟩
   have HS26:=bx (HS4.out.ext hxA);rw[<-hw26,<-hgI];clear hw26 hgI hxA;have k26:=HF26.out.at_ 0 rfl;refine hK.out _ _ (fun _=>k26) ?_;try simp only[kA]
   refine zO 3 (fun K hK=>?_);go_simp;refine (dP _ _ s 8 _ HF26.out.fr.tp HS26.out HWF.out (by omega)).mono ?_;rintro e w27 ⟨v27,rfl,⟨ys,hrow,hyl⟩,HT27,HX27⟩;have HF27:=bx (HF26.out.step HX27 HT27);have HS27:Bx (aR gI w27 (.agg #[A B s.num,C AP nP cP,C AB nB cB,C AX nX cX]) s):=⟨HS4.out.xre (HXA.out.trans HX27) HGI.out⟩
   have HC27:Bx (au gI w27 v27 (ys.map Prod.fst)/\(ys.map Prod.fst).length<=300):=⟨hrow.isCs (HF26.out.fr.bl.lt 1 rfl),by rw[zJ];omega⟩
   clear hrow hyl HT27 HX27;have k27:=HF27.out.at_ 0 rfl;refine hK.out _ _ (fun _=>k27) ?_;try simp only[kA]
   refine zO 4 (fun K hK=>?_);go_simp;refine (lj _ _ s _ _ (HF27.out.fr.bl.lt 1 rfl) HS27.out HC27.out.1 HC27.out.2).mono ?_;rintro e w28 ⟨vS,vG,rfl,hoS,hoG,hx28⟩;rw[HCH.out];have hi28:=tR (p:=gI) (HF27.out.fr.bl.lt 1 rfl) hoS hoG hx28;obtain⟨t,ht⟩:=nm (if aC s=0 then cQ s (ay (ys.map Prod.fst)) else ⟨[],[]⟩:r6);rw[<-ht]at hi28;clear ht hoS hoG;obtain⟨AS,cS,AG,cG,hv⟩:=hi28.op;obtain⟨rfl,rfl⟩:=Kw hv;clear hv;have HI28:Bx (aK gI w28 (.agg #[C AS t.sts.length cS,C AG t.pgs.length cG]) t):=⟨hi28⟩
   have HF28:=bx (HF27.out.ext hx28);clear hi28 hx28;have k28:=HF28.out.at_ 0 rfl;refine hK.out _ _ (fun _=>k28) ?_;try simp only[kA]
   refine zS 3 [(5,30),(6,36),(7,37)] k28 ?_;iterate 3 refine zT ?_ (y:=by intro wk hk;have z0:=hk.c 0 rfl;have z1:=hk.c 1 rfl;have z2:=hk.c 2 rfl;have z3:=hk.c 3 rfl;go_simp;try with_reducible rfl)
   refine zN ?_;obtain⟨j0,j1⟩:=(HF28.out.at_ 1 rfl).p2 rfl;have f0:=(HF28.out.at_ 1 rfl).froz;have f1:=f0;refine zO 9 (fun K hK=>?_);go_simp;have hR:=JQ.mk' HF28.out HI28.out;have k9:=hR.at0;refine hK.out _ _ (fun _=>k9) ?_;try simp only[kA]
   refine zO 10 (fun K hK=>?_);go_simp;refine hK.out _ _ (fun _=>k9) ?_;try simp only[kA]
   refine zD ?_;go_wp2_with fail;go_meet
   exact⟨hR⟩
 case rest =>
 obtain⟨gI,t,AS,cS,AG,cG,rfl,rfl,hF5,hI5⟩:=hcut.out;obtain⟨w5,rfl⟩:=nm wc;have HX5:=zZ (hF5.fin HE.out);have HI5:=zZ hI5;have HL5:Bx (aK w.heap.size w5 (.agg #[C A1 n1 c1,C none 0 0]) ⟨l1,[]⟩):=⟨⟨_,_,rfl,bj.ext HL0.out (cU.stab _) HX5.out,bj.nil _ _ _ _⟩⟩
 obtain⟨gA,hgA⟩:=nm w5.heap.size;obtain⟨w7,hw7⟩:=nm (((w5.alloc (.cells #[A B a2,A B a3] 43)).alloc (.cells #[A B (eW a2 3),A B (eW a3 10)] 43)):World);have HF7:Bx (LF w.heap.size w1 w7 [(gS,#[A B s.num,C AP nP cP,C AB nB cB,C AX nX cX],27),(gI,#[C AS t.sts.length cS,C AG t.pgs.length cG],59),(gA,#[A B a2,A B a3],43),(gA+1,#[A B (eW a2 3),A B (eW a3 10)],43)]):=⟨by rw[hw7];exact (hF5.push _ _ hgA.symm).push _ _ (by rw[hgA];simp)⟩
 have HX57:Bx (ab w5 w7):=⟨by rw[hw7];exact ((zE _).alloc _).alloc _⟩
 clear hcut hI5 hF5 HF3 HS3 HWF HOK HCH;go_upto_region 8 with (go_at_call 28;refine (qb _ _ _ (by first|exact HA2.out.1|exact HA3.out.1) (by first|exact HA2.out.2|exact HA3.out.2) (by omega)).mono ?_;rintro e w6 ⟨rfl,rfl⟩)
 rw[<-hw7,<-hgA];clear hw7 hgA;obtain⟨xa,xb,xc,xd,xe,xf,xg,r1,C1,C2⟩:=Dt w.heap.size (.agg #[C A1 n1 c1,C none 0 0]) ⟨l1,[]⟩ a2 a3;obtain⟨ya,yb,yc,yd,ye,yf,yg,r2,C3,C4⟩:=Dt gI (.agg #[C AS t.sts.length cS,C AG t.pgs.length cG]) t (eW a2 3) (eW a3 10);replace C1:=zZ C1;replace C2:=zZ C2;replace C3:=zZ C3;replace C4:=zZ C4;obtain⟨i0,i1⟩:=(HF7.out.at_ 2 rfl).p2 rfl;go_wp2_with fail;refine (C1.out _ (HL5.out.ext HX57.out)).mono ?_;rintro e wa ⟨rfl,hx⟩;obtain⟨g8,hg8⟩:=nm wa.heap.size;obtain⟨w8,hw8⟩:=nm ((wa.alloc (.cells #[A B xa,A B xb,A B xc,A B xd,A B xe,A B xf,A B xg] 67)):World);have hx2:ab w7 w8:=by rw[hw8];exact hx.alloc _
 have HF8:Bx (LF w.heap.size w1 w8 [(gS,#[A B s.num,C AP nP cP,C AB nB cB,C AX nX cX],27),(gI,#[C AS t.sts.length cS,C AG t.pgs.length cG],59),(gA,#[A B a2,A B a3],43),(gA+1,#[A B (eW a2 3),A B (eW a3 10)],43),(g8,#[A B xa,A B xb,A B xc,A B xd,A B xe,A B xf,A B xg],67)]):=⟨by rw[hw8];exact (HF7.out.ext hx).push _ _ hg8.symm⟩
 have HX58:Bx (ab w5 w8):=⟨HX57.out.trans hx2⟩
 clear hx hx2;go_upto_region 9 with (fail)
 rw[<-hw8,<-hg8];clear hw8 hg8 HF7 HX57 C1;clear i0 i1;obtain⟨i0,i1⟩:=(HF8.out.at_ 2 rfl).p2 rfl;go_wp2_with fail;refine (C2.out _ (HL5.out.ext HX58.out)).mono ?_;rintro e wa ⟨rfl,hx⟩;obtain⟨g9,hg9⟩:=nm wa.heap.size;obtain⟨w9,hw9⟩:=nm ((wa.alloc (.cells #[A B xa,A B xb,A B xc,A B xd,A B xe,A B xf,A B xg] 67)):World);have hx2:ab w8 w9:=by rw[hw9];exact hx.alloc _
 have HF9:Bx (LF w.heap.size w1 w9 [(gS,#[A B s.num,C AP nP cP,C AB nB cB,C AX nX cX],27),(gI,#[C AS t.sts.length cS,C AG t.pgs.length cG],59),(gA,#[A B a2,A B a3],43),(gA+1,#[A B (eW a2 3),A B (eW a3 10)],43),(g8,#[A B xa,A B xb,A B xc,A B xd,A B xe,A B xf,A B xg],67),(g9,#[A B xa,A B xb,A B xc,A B xd,A B xe,A B xf,A B xg],67)]):=⟨by rw[hw9];exact (HF8.out.ext hx).push _ _ hg9.symm⟩
 have HX59:Bx (ab w5 w9):=⟨HX58.out.trans hx2⟩
 clear hx hx2;go_upto_region 10 with (fail)
 rw[<-hw9,<-hg9];clear hw9 hg9 HF8 HX58 C2;clear i0 i1;obtain⟨j0,j1⟩:=(HF9.out.at_ 1 rfl).p2 rfl;obtain⟨i0,i1⟩:=(HF9.out.at_ 3 rfl).p2 rfl;go_wp2_with fail;refine (C3.out _ (HI5.out.ext HX59.out)).mono ?_;rintro e wa ⟨rfl,hx⟩;obtain⟨g10,hg10⟩:=nm wa.heap.size;obtain⟨w10,hw10⟩:=nm ((wa.alloc (.cells #[A B ya,A B yb,A B yc,A B yd,A B ye,A B yf,A B yg] 67)):World);have hx2:ab w9 w10:=by rw[hw10];exact hx.alloc _
 have HF10:Bx (LF w.heap.size w1 w10 [(gS,#[A B s.num,C AP nP cP,C AB nB cB,C AX nX cX],27),(gI,#[C AS t.sts.length cS,C AG t.pgs.length cG],59),(gA,#[A B a2,A B a3],43),(gA+1,#[A B (eW a2 3),A B (eW a3 10)],43),(g8,#[A B xa,A B xb,A B xc,A B xd,A B xe,A B xf,A B xg],67),(g9,#[A B xa,A B xb,A B xc,A B xd,A B xe,A B xf,A B xg],67),(g10,#[A B ya,A B yb,A B yc,A B yd,A B ye,A B yf,A B yg],67)]):=⟨by rw[hw10];exact (HF9.out.ext hx).push _ _ hg10.symm⟩
 have HX510:Bx (ab w5 w10):=⟨HX59.out.trans hx2⟩
 clear hx hx2;go_upto_region 11 with (fail)
 rw[<-hw10,<-hg10];clear hw10 hg10 HF9 HX59 C3;clear i0 i1 j0 j1;obtain⟨j0,j1⟩:=(HF10.out.at_ 1 rfl).p2 rfl;obtain⟨i0,i1⟩:=(HF10.out.at_ 3 rfl).p2 rfl;go_wp2_with fail;refine (C4.out _ (HI5.out.ext HX510.out)).mono ?_;rintro e wa ⟨rfl,hx⟩;obtain⟨g11,hg11⟩:=nm wa.heap.size;obtain⟨w11,hw11⟩:=nm ((wa.alloc (.cells #[A B ya,A B yb,A B yc,A B yd,A B ye,A B yf,A B yg] 67)):World);have hx2:ab w10 w11:=by rw[hw11];exact hx.alloc _
 have HF11:Bx (LF w.heap.size w1 w11 [(gS,#[A B s.num,C AP nP cP,C AB nB cB,C AX nX cX],27),(gI,#[C AS t.sts.length cS,C AG t.pgs.length cG],59),(gA,#[A B a2,A B a3],43),(gA+1,#[A B (eW a2 3),A B (eW a3 10)],43),(g8,#[A B xa,A B xb,A B xc,A B xd,A B xe,A B xf,A B xg],67),(g9,#[A B xa,A B xb,A B xc,A B xd,A B xe,A B xf,A B xg],67),(g10,#[A B ya,A B yb,A B yc,A B yd,A B ye,A B yf,A B yg],67),(g11,#[A B ya,A B yb,A B yc,A B yd,A B ye,A B yf,A B yg],67)]):=⟨by rw[hw11];exact (HF10.out.ext hx).push _ _ hg11.symm⟩
 have HX511:Bx (ab w5 w11):=⟨HX510.out.trans hx2⟩
 clear hx hx2;go_upto_region 12 with (fail)
 rw[<-hw11,<-hg11];clear hw11 hg11 HF10 HX510 C4;clear i0 i1 j0 j1 HI5 HL5;obtain⟨i0,i1,i2,i3,i4,i5,i6⟩:=(HF11.out.at_ 4 rfl).p7 rfl;obtain⟨j0,j1,j2,j3,j4,j5,j6⟩:=(HF11.out.at_ 5 rfl).p7 rfl;obtain⟨k0,k1,k2,k3,k4,k5,k6⟩:=(HF11.out.at_ 6 rfl).p7 rfl;obtain⟨l0,l1,l2,l3,l4,l5,l6⟩:=(HF11.out.at_ 7 rfl).p7 rfl;have eX:=fun W=>Da xa xb xc xd xe xf xg xa xb xc xd xe xf xg W;have eY:=fun W=>Da ya yb yc yd ye yf yg ya yb yc yd ye yf yg W;rw[decide_eq_true ⟨rfl,rfl,rfl,rfl,rfl,rfl,rfl⟩]at eX eY;have gL:=Aj;have e1:(r1==r1)=true:=by simp
 have e2:(r2==r2)=true:=by simp
 go_wp2_with fail;refine (cN _ HF11.out.tb).mono ?_;rintro e w12 ⟨rfl,hx12⟩;go_wp2_with fail;go_ret
 exact⟨rfl,(HX5.out.trans HX511.out).trans hx12⟩
end Go.Proofs.YtkaajgoeahahpaaGreatDoor

