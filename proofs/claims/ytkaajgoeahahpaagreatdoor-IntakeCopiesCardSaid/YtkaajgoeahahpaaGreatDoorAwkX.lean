import Derived.Test.YtkaajgoeahahpaaGreatDoorK43
set_option linter.all false
set_option maxRecDepth 100000
set_option maxHeartbeats 0
namespace Go.Proofs.YtkaajgoeahahpaaGreatDoor
open Go.Value renaming int→A,slice→C
open Go.IntKind renaming i64→B
open Go.RowKit _root_.Go.Proofs.Tryz
theorem cN(w:World)(hT:cK w):Calls prog 20 #[] w fun e w'=>e=.returned (.bool true)/\ab w w':=by
 have HT0:=zZ hT;clear hT;go_enter func20,ntmps20
 go_wp2_with fail;refine (Gv 0 5 1 0 _ HT0.out).mono ?_;rintro e w1 ⟨ts,kk,rfl,rfl,hts,hx1⟩;rw[KI];obtain⟨str,hstr⟩:=nm (bl ts);have hts2:ts=ba str:=by rw[hstr,Bl]
 rw[<-hstr]at hts;subst hts2;have HRD:Bx (dR str=some aY):=⟨by rw[hts];exact Ju⟩
 have HSL:Bx (str.length<=1000):=⟨by rw[hts,ni ql];rw[ph (kK 0 5 1 0)];omega⟩
 have HX1:=zZ hx1;clear hstr hts hx1;go_upto_region 6 with (fail)
 obtain⟨ga,hga⟩:=nm w1.heap.size;obtain⟨w2,hw2⟩:=nm ((((w1.alloc (.cells #[A B 1,A B 1,A B 0,A B 1,.string (ba str),A B 5,C none 0 0,A B 0,A B 0,A B 0,A B 0,A B 0,A B 0] 47)).alloc (.cells #[A B 2,A B 1,A B 1,A B 1,.string (ba str),A B 5,C none 0 0,A B 0,A B 0,A B 0,A B 0,A B 0,A B 0] 47)).alloc (.cells #[A B 2,A B 1,A B 1,A B 1,.string (ba str),A B 6,C none 0 0,A B 0,A B 0,A B 0,A B 0,A B 0,A B 0] 47)):World);have HF2:Bx (aA w1 w2 [(ga,#[A B 1,A B 1,A B 0,A B 1,.string (ba str),A B 5,C none 0 0,A B 0,A B 0,A B 0,A B 0,A B 0,A B 0],47),(ga+1,#[A B 2,A B 1,A B 1,A B 1,.string (ba str),A B 5,C none 0 0,A B 0,A B 0,A B 0,A B 0,A B 0,A B 0],47),(ga+1+1,#[A B 2,A B 1,A B 1,A B 1,.string (ba str),A B 6,C none 0 0,A B 0,A B 0,A B 0,A B 0,A B 0,A B 0],47)]):=⟨by rw[hw2,hga];exact (((aA.start w1).push _ _ rfl).push _ _ (by simp)).push _ _ (by simp)⟩
 have HT:=bx (HT0.out.ext (HX1.out.trans HF2.out.xt));have HGA:Bx (ga<w2.heap.size):=⟨(HF2.out.at_ 0 rfl).lt⟩
 rw[<-hw2,<-hga];clear hw2 hga HT0;obtain⟨a0,a1,a2,a3,a4,a5,a6,a7,a8,a9,a10,a11,a12⟩:=(HF2.out.at_ 0 rfl).p13 rfl;obtain⟨b0,b1,b2,b3,b4,b5,b6,b7,b8,b9,b10,b11,b12⟩:=(HF2.out.at_ 1 rfl).p13 rfl;go_cut [6,7] (fun s6 s7 wx=>Bx (ta w2 wx s6 s7 ⟨[⟨⟨1,0⟩,1,aY⟩,⟨⟨1,1⟩,2,aY⟩],[⟨5,1,5,[],⟨1,0⟩⟩]⟩))
 case first =>
  refine zQ 99 fun wd kS=>?_;refine zS 2 [(1,25),(2,26)] kS ?_;iterate 2 refine zT ?_ (y:=by intro wk hk;obtain⟨_,_,_,_,_,_,_,_⟩:=zkc8 hk a0 a1 a2 a3 a4 a5 a6 a7;obtain⟨_,_,_,_,_,_,_,_⟩:=zkc8 hk a8 a9 a10 a11 a12 b0 b1 b2;obtain⟨_,_,_,_,_,_,_,_⟩:=zkc8 hk b3 b4 b5 b6 b7 b8 b9 b10;obtain⟨_,_⟩:=zkc2 hk b11 b12;go_simp;try with_reducible rfl)
  refine zN (gZ 0 3 8 (by kernel_rfl) rfl rfl rfl (fun K hK=>?_) (fun K hK=>?_) (fun K hK=>?_))
  ·skip
   go_simp;refine (dX _ (p:=ga) (zB HGA.out kS.size)).mono ?_;rintro e w21 ⟨v21,rfl,hs21,hx21⟩;have HS21:=zZ hs21;have k21:ab w2 w21:=kS.trans hx21;clear hs21 hx21;refine hK.out _ _ (fun _=>k21) ?_;clear hK K;try simp only[kA]
   refine an 3 8 (by kernel_rfl) rfl rfl (fun K hK=>?_) (fun K hK=>?_)
   ·skip
    go_simp;obtain⟨g22,hg22⟩:=nm w21.heap.size;obtain⟨w22,hw22⟩:=nm ((w21.alloc (.cells #[A B 2,A B 1,A B 1,A B 1,.string (ba str),A B 5,C none 0 0,A B 0,A B 0,A B 0,A B 0,A B 0,A B 0,A B 1,A B 1,A B 0,A B 1,.string (ba str),A B 5,C none 0 0,A B 0,A B 0,A B 0,A B 0,A B 0,A B 0] 47)):World);have hx22:ab w21 w22:=by rw[hw22];exact (zE _).alloc _
    have HC22:Bx (au ga w22 (C (some ⟨g22,0,none⟩) 2 2) [iD str 5,ip str]):=⟨by rw[hw22,hg22];exact gv _ _ _ (zB HGA.out k21.size) HSL.out ⟨by decide,by decide⟩⟩
    have HS22:=zZ (HS21.out.ext hx22);have k22:ab w2 w22:=k21.trans hx22;rw[<-hw22,<-hg22];clear hw22 hg22 hx22;refine hK.out _ _ (fun _=>k22) ?_;clear hK K;try simp only[kA]
    refine an 4 8 (by kernel_rfl) rfl rfl (fun K hK=>?_) (fun K hK=>?_)
    ·skip
     go_simp;refine (aW _ _ kg [iD str 5,ip str] _ (p:=ga) (zB HGA.out k22.size) (HT.out.ext k22) HS22.out HC22.out (by simp)).mono ?_;rintro e w23 ⟨⟨v23,rfl,hi23⟩,hx23⟩;rw[eO,iV HRD.out]at hi23;rw[eA];obtain⟨vS,vG,rfl,hs23,hG23⟩:=hi23;obtain⟨AS,nS,cS,rfl,-⟩:=hs23.open_;obtain⟨AG,nG,cG,rfl,-⟩:=hG23.open_;have HI23:Bx (aK ga w23 (.agg #[C AS nS cS,C AG nG cG]) ⟨[⟨⟨1,0⟩,1,aY⟩,⟨⟨1,1⟩,2,aY⟩],[⟨5,1,5,[],⟨1,0⟩⟩]⟩):=⟨⟨_,_,rfl,hs23,hG23⟩⟩
     have k23:ab w2 w23:=k22.trans hx23;clear hs23 hG23 hx23;refine hK.out _ _ (fun _=>k23) ?_;clear hK K;try simp only[kA]
     refine zS 3 [(5,23),(6,29),(7,30)] k23 ?_;iterate 3 refine zT ?_ (y:=by intro wk hk;obtain⟨_,_,_,_,_,_,_,_⟩:=zkc8 hk a0 a1 a2 a3 a4 a5 a6 a7;obtain⟨_,_,_,_,_,_,_,_⟩:=zkc8 hk a8 a9 a10 a11 a12 b0 b1 b2;obtain⟨_,_,_,_,_,_,_,_⟩:=zkc8 hk b3 b4 b5 b6 b7 b8 b9 b10;obtain⟨_,_⟩:=zkc2 hk b11 b12;go_simp;try with_reducible rfl)
     refine zN (zO 8 (fun K hK=>?_));go_simp;obtain⟨gA,hgA⟩:=nm w23.heap.size;obtain⟨w24,hw24⟩:=nm ((w23.alloc (.cells #[C none 0 0,C none 0 0] 59)):World);have hx24:ab w23 w24:=by rw[hw24];exact (zE _).alloc _
     have HA24:Bx (aA w2 w24 [(gA,#[C none 0 0,C none 0 0],59)]):=⟨by rw[hw24,hgA];exact ((aA.start w2).ext k23).push _ _ rfl⟩
     have HI24:=zZ ((aK.re HI23.out (q:=gA) (by omega)).ext hx24);have k24:ab w2 w24:=k23.trans hx24;rw[<-hw24,<-hgA];clear hw24 hgA hx24;refine hK.out _ _ (fun _=>k24) ?_;clear hK K;try simp only[kA]
     obtain⟨j0,j1⟩:=(HA24.out.at_ 0 rfl).p2 rfl;have f0:=(HA24.out.at_ 0 rfl).froz;have f1:=f0;refine zO 9 (fun K hK=>?_);go_simp;have hR:=ta.mk' HA24.out HI24.out;have hx9:=(HA24.out.setAll 0 rfl [C AS nS cS,C AG nG cG] rfl).xt;refine hK.out _ _ (fun _=>hx9) ?_;clear hK K;try simp only[kA]
     refine zO 10 (fun K hK=>?_);go_simp;refine hK.out _ _ (fun _=>hx9) ?_;clear hK K;try simp only[kA]
     refine zD ?_;go_wp2_with fail;go_meet
     exact⟨hR⟩
    ·skip
     go_simp;obtain⟨gA,hgA⟩:=nm w22.heap.size;obtain⟨w25,hw25⟩:=nm ((w22.alloc (.cells #[C none 0 0,C none 0 0] 59)):World);have hx25:ab w22 w25:=by rw[hw25];exact (zE _).alloc _
     have HA25:Bx (aA w2 w25 [(gA,#[C none 0 0,C none 0 0],59)]):=⟨by rw[hw25,hgA];exact ((aA.start w2).ext k22).push _ _ rfl⟩
     have HS25:=zZ ((aR.re HS22.out (q:=gA) (by omega)).ext hx25);have HC25:=zZ ((au.re HC22.out (q:=gA) (by omega)).ext (bR.stab _) hx25);have k25:ab w2 w25:=k22.trans hx25;rw[<-hw25,<-hgA];clear hw25 hgA hx25;refine hK.out _ _ (fun _=>k25) ?_;clear hK K;try simp only[kA]
     refine zO 4 (fun K hK=>?_);go_simp;refine (aW _ _ kg [iD str 5,ip str] _ (p:=gA) (HA25.out.at_ 0 rfl).lt (HT.out.ext k25) HS25.out HC25.out (by simp)).mono ?_;rintro e w26 ⟨⟨v26,rfl,hi26⟩,hx26⟩;rw[eO,iV HRD.out]at hi26;rw[eA];obtain⟨vS,vG,rfl,hs26,hG26⟩:=hi26;obtain⟨AS,nS,cS,rfl,-⟩:=hs26.open_;obtain⟨AG,nG,cG,rfl,-⟩:=hG26.open_;have HI26:Bx (aK gA w26 (.agg #[C AS nS cS,C AG nG cG]) ⟨[⟨⟨1,0⟩,1,aY⟩,⟨⟨1,1⟩,2,aY⟩],[⟨5,1,5,[],⟨1,0⟩⟩]⟩):=⟨⟨_,_,rfl,hs26,hG26⟩⟩
     have HA26:=zZ (HA25.out.ext hx26);have k26:ab w2 w26:=k25.trans hx26;clear hs26 hG26 hx26;refine hK.out _ _ (fun _=>k26) ?_;clear hK K;try simp only[kA]
     refine zS 3 [(5,23),(6,29),(7,30)] k26 ?_;iterate 3 refine zT ?_ (y:=by intro wk hk;obtain⟨_,_,_,_,_,_,_,_⟩:=zkc8 hk a0 a1 a2 a3 a4 a5 a6 a7;obtain⟨_,_,_,_,_,_,_,_⟩:=zkc8 hk a8 a9 a10 a11 a12 b0 b1 b2;obtain⟨_,_,_,_,_,_,_,_⟩:=zkc8 hk b3 b4 b5 b6 b7 b8 b9 b10;obtain⟨_,_⟩:=zkc2 hk b11 b12;go_simp;try with_reducible rfl)
     refine zN ?_;obtain⟨j0,j1⟩:=(HA26.out.at_ 0 rfl).p2 rfl;have f0:=(HA26.out.at_ 0 rfl).froz;have f1:=f0;refine zO 9 (fun K hK=>?_);go_simp;have hR:=ta.mk' HA26.out HI26.out;have hx9:=(HA26.out.setAll 0 rfl [C AS nS cS,C AG nG cG] rfl).xt;refine hK.out _ _ (fun _=>hx9) ?_;clear hK K;try simp only[kA]
     refine zO 10 (fun K hK=>?_);go_simp;refine hK.out _ _ (fun _=>hx9) ?_;clear hK K;try simp only[kA]
     refine zD ?_;go_wp2_with fail;go_meet
     exact⟨hR⟩
   ·skip
    go_simp;obtain⟨gA,hgA⟩:=nm w21.heap.size;obtain⟨w27,hw27⟩:=nm ((w21.alloc (.cells #[C none 0 0,C none 0 0] 59)):World);have hx27:ab w21 w27:=by rw[hw27];exact (zE _).alloc _
    have HA27:Bx (aA w2 w27 [(gA,#[C none 0 0,C none 0 0],59)]):=⟨by rw[hw27,hgA];exact ((aA.start w2).ext k21).push _ _ rfl⟩
    have HS27:=zZ ((aR.re HS21.out (q:=gA) (by omega)).ext hx27);have k27:ab w2 w27:=k21.trans hx27;rw[<-hw27,<-hgA];clear hw27 hgA hx27;refine hK.out _ _ (fun _=>k27) ?_;clear hK K;try simp only[kA]
    refine zO 3 (fun K hK=>?_);go_simp;obtain⟨g28,hg28⟩:=nm w27.heap.size;obtain⟨w28,hw28⟩:=nm ((w27.alloc (.cells #[A B 2,A B 1,A B 1,A B 1,.string (ba str),A B 5,C none 0 0,A B 0,A B 0,A B 0,A B 0,A B 0,A B 0,A B 1,A B 1,A B 0,A B 1,.string (ba str),A B 5,C none 0 0,A B 0,A B 0,A B 0,A B 0,A B 0,A B 0] 47)):World);have hx28:ab w27 w28:=by rw[hw28];exact (zE _).alloc _
    have HC28:Bx (au gA w28 (C (some ⟨g28,0,none⟩) 2 2) [iD str 5,ip str]):=⟨by rw[hw28,hg28];exact gv _ _ _ (HA27.out.at_ 0 rfl).lt HSL.out ⟨by decide,by decide⟩⟩
    have HS28:=zZ (HS27.out.ext hx28);have HA28:=zZ (HA27.out.ext hx28);have k28:ab w2 w28:=k27.trans hx28;rw[<-hw28,<-hg28];clear hw28 hg28 hx28;refine hK.out _ _ (fun _=>k28) ?_;clear hK K;try simp only[kA]
    refine zO 4 (fun K hK=>?_);go_simp;refine (aW _ _ kg [iD str 5,ip str] _ (p:=gA) (HA28.out.at_ 0 rfl).lt (HT.out.ext k28) HS28.out HC28.out (by simp)).mono ?_;rintro e w29 ⟨⟨v29,rfl,hi29⟩,hx29⟩;rw[eO,iV HRD.out]at hi29;rw[eA];obtain⟨vS,vG,rfl,hs29,hG29⟩:=hi29;obtain⟨AS,nS,cS,rfl,-⟩:=hs29.open_;obtain⟨AG,nG,cG,rfl,-⟩:=hG29.open_;have HI29:Bx (aK gA w29 (.agg #[C AS nS cS,C AG nG cG]) ⟨[⟨⟨1,0⟩,1,aY⟩,⟨⟨1,1⟩,2,aY⟩],[⟨5,1,5,[],⟨1,0⟩⟩]⟩):=⟨⟨_,_,rfl,hs29,hG29⟩⟩
    have HA29:=zZ (HA28.out.ext hx29);have k29:ab w2 w29:=k28.trans hx29;clear hs29 hG29 hx29;refine hK.out _ _ (fun _=>k29) ?_;clear hK K;try simp only[kA]
    refine zS 3 [(5,23),(6,29),(7,30)] k29 ?_;iterate 3 refine zT ?_ (y:=by intro wk hk;obtain⟨_,_,_,_,_,_,_,_⟩:=zkc8 hk a0 a1 a2 a3 a4 a5 a6 a7;obtain⟨_,_,_,_,_,_,_,_⟩:=zkc8 hk a8 a9 a10 a11 a12 b0 b1 b2;obtain⟨_,_,_,_,_,_,_,_⟩:=zkc8 hk b3 b4 b5 b6 b7 b8 b9 b10;obtain⟨_,_⟩:=zkc2 hk b11 b12;go_simp;try with_reducible rfl)
    refine zN ?_;obtain⟨j0,j1⟩:=(HA29.out.at_ 0 rfl).p2 rfl;have f0:=(HA29.out.at_ 0 rfl).froz;have f1:=f0;refine zO 9 (fun K hK=>?_);go_simp;have hR:=ta.mk' HA29.out HI29.out;have hx9:=(HA29.out.setAll 0 rfl [C AS nS cS,C AG nG cG] rfl).xt;refine hK.out _ _ (fun _=>hx9) ?_;clear hK K;try simp only[kA]
    refine zO 10 (fun K hK=>?_);go_simp;refine hK.out _ _ (fun _=>hx9) ?_;clear hK K;try simp only[kA]
    refine zD ?_;go_wp2_with fail;go_meet
    exact⟨hR⟩
  ·skip
   go_simp;obtain⟨g30,hg30⟩:=nm wd.heap.size;obtain⟨w30,hw30⟩:=nm ((wd.alloc (.cells #[A B 2,A B 1,A B 1,A B 1,.string (ba str),A B 5,C none 0 0,A B 0,A B 0,A B 0,A B 0,A B 0,A B 0,A B 1,A B 1,A B 0,A B 1,.string (ba str),A B 5,C none 0 0,A B 0,A B 0,A B 0,A B 0,A B 0,A B 0] 47)):World);have hx30:ab wd w30:=by rw[hw30];exact (zE _).alloc _
   have HC30:Bx (au ga w30 (C (some ⟨g30,0,none⟩) 2 2) [iD str 5,ip str]):=⟨by rw[hw30,hg30];exact gv _ _ _ (zB HGA.out kS.size) HSL.out ⟨by decide,by decide⟩⟩
   have k30:ab w2 w30:=kS.trans hx30;rw[<-hw30,<-hg30];clear hw30 hg30 hx30;refine hK.out _ _ (fun _=>k30) ?_;clear hK K;try simp only[kA]
   refine an 0 8 (by kernel_rfl) rfl rfl (fun K hK=>?_) (fun K hK=>?_)
   ·skip
    go_simp;refine (dX _ (p:=ga) (zB HGA.out k30.size)).mono ?_;rintro e w31 ⟨v31,rfl,hs31,hx31⟩;have HS31:=zZ hs31;have HC31:=zZ (HC30.out.ext (bR.stab _) hx31);have k31:ab w2 w31:=k30.trans hx31;clear hs31 hx31;refine hK.out _ _ (fun _=>k31) ?_;clear hK K;try simp only[kA]
    refine an 4 8 (by kernel_rfl) rfl rfl (fun K hK=>?_) (fun K hK=>?_)
    ·skip
     go_simp;refine (aW _ _ kg [iD str 5,ip str] _ (p:=ga) (zB HGA.out k31.size) (HT.out.ext k31) HS31.out HC31.out (by simp)).mono ?_;rintro e w32 ⟨⟨v32,rfl,hi32⟩,hx32⟩;rw[eO,iV HRD.out]at hi32;rw[eA];obtain⟨vS,vG,rfl,hs32,hG32⟩:=hi32;obtain⟨AS,nS,cS,rfl,-⟩:=hs32.open_;obtain⟨AG,nG,cG,rfl,-⟩:=hG32.open_;have HI32:Bx (aK ga w32 (.agg #[C AS nS cS,C AG nG cG]) ⟨[⟨⟨1,0⟩,1,aY⟩,⟨⟨1,1⟩,2,aY⟩],[⟨5,1,5,[],⟨1,0⟩⟩]⟩):=⟨⟨_,_,rfl,hs32,hG32⟩⟩
     have k32:ab w2 w32:=k31.trans hx32;clear hs32 hG32 hx32;refine hK.out _ _ (fun _=>k32) ?_;clear hK K;try simp only[kA]
     refine zS 3 [(5,23),(6,29),(7,30)] k32 ?_;iterate 3 refine zT ?_ (y:=by intro wk hk;obtain⟨_,_,_,_,_,_,_,_⟩:=zkc8 hk a0 a1 a2 a3 a4 a5 a6 a7;obtain⟨_,_,_,_,_,_,_,_⟩:=zkc8 hk a8 a9 a10 a11 a12 b0 b1 b2;obtain⟨_,_,_,_,_,_,_,_⟩:=zkc8 hk b3 b4 b5 b6 b7 b8 b9 b10;obtain⟨_,_⟩:=zkc2 hk b11 b12;go_simp;try with_reducible rfl)
     refine zN (zO 8 (fun K hK=>?_));go_simp;obtain⟨gA,hgA⟩:=nm w32.heap.size;obtain⟨w33,hw33⟩:=nm ((w32.alloc (.cells #[C none 0 0,C none 0 0] 59)):World);have hx33:ab w32 w33:=by rw[hw33];exact (zE _).alloc _
     have HA33:Bx (aA w2 w33 [(gA,#[C none 0 0,C none 0 0],59)]):=⟨by rw[hw33,hgA];exact ((aA.start w2).ext k32).push _ _ rfl⟩
     have HI33:=zZ ((aK.re HI32.out (q:=gA) (by omega)).ext hx33);have k33:ab w2 w33:=k32.trans hx33;rw[<-hw33,<-hgA];clear hw33 hgA hx33;refine hK.out _ _ (fun _=>k33) ?_;clear hK K;try simp only[kA]
     obtain⟨j0,j1⟩:=(HA33.out.at_ 0 rfl).p2 rfl;have f0:=(HA33.out.at_ 0 rfl).froz;have f1:=f0;refine zO 9 (fun K hK=>?_);go_simp;have hR:=ta.mk' HA33.out HI33.out;have hx9:=(HA33.out.setAll 0 rfl [C AS nS cS,C AG nG cG] rfl).xt;refine hK.out _ _ (fun _=>hx9) ?_;clear hK K;try simp only[kA]
     refine zO 10 (fun K hK=>?_);go_simp;refine hK.out _ _ (fun _=>hx9) ?_;clear hK K;try simp only[kA]
     refine zD ?_;go_wp2_with fail;go_meet
     exact⟨hR⟩
    ·skip
     go_simp;obtain⟨gA,hgA⟩:=nm w31.heap.size;obtain⟨w34,hw34⟩:=nm ((w31.alloc (.cells #[C none 0 0,C none 0 0] 59)):World);have hx34:ab w31 w34:=by rw[hw34];exact (zE _).alloc _
     have HA34:Bx (aA w2 w34 [(gA,#[C none 0 0,C none 0 0],59)]):=⟨by rw[hw34,hgA];exact ((aA.start w2).ext k31).push _ _ rfl⟩
     have HS34:=zZ ((aR.re HS31.out (q:=gA) (by omega)).ext hx34);have HC34:=zZ ((au.re HC31.out (q:=gA) (by omega)).ext (bR.stab _) hx34);have k34:ab w2 w34:=k31.trans hx34;rw[<-hw34,<-hgA];clear hw34 hgA hx34;refine hK.out _ _ (fun _=>k34) ?_;clear hK K;try simp only[kA]
     refine zO 4 (fun K hK=>?_);go_simp;refine (aW _ _ kg [iD str 5,ip str] _ (p:=gA) (HA34.out.at_ 0 rfl).lt (HT.out.ext k34) HS34.out HC34.out (by simp)).mono ?_;rintro e w35 ⟨⟨v35,rfl,hi35⟩,hx35⟩;rw[eO,iV HRD.out]at hi35;rw[eA];obtain⟨vS,vG,rfl,hs35,hG35⟩:=hi35;obtain⟨AS,nS,cS,rfl,-⟩:=hs35.open_;obtain⟨AG,nG,cG,rfl,-⟩:=hG35.open_;have HI35:Bx (aK gA w35 (.agg #[C AS nS cS,C AG nG cG]) ⟨[⟨⟨1,0⟩,1,aY⟩,⟨⟨1,1⟩,2,aY⟩],[⟨5,1,5,[],⟨1,0⟩⟩]⟩):=⟨⟨_,_,rfl,hs35,hG35⟩⟩
     have HA35:=zZ (HA34.out.ext hx35);have k35:ab w2 w35:=k34.trans hx35;clear hs35 hG35 hx35;refine hK.out _ _ (fun _=>k35) ?_;clear hK K;try simp only[kA]
     refine zS 3 [(5,23),(6,29),(7,30)] k35 ?_;iterate 3 refine zT ?_ (y:=by intro wk hk;obtain⟨_,_,_,_,_,_,_,_⟩:=zkc8 hk a0 a1 a2 a3 a4 a5 a6 a7;obtain⟨_,_,_,_,_,_,_,_⟩:=zkc8 hk a8 a9 a10 a11 a12 b0 b1 b2;obtain⟨_,_,_,_,_,_,_,_⟩:=zkc8 hk b3 b4 b5 b6 b7 b8 b9 b10;obtain⟨_,_⟩:=zkc2 hk b11 b12;go_simp;try with_reducible rfl)
     refine zN ?_;obtain⟨j0,j1⟩:=(HA35.out.at_ 0 rfl).p2 rfl;have f0:=(HA35.out.at_ 0 rfl).froz;have f1:=f0;refine zO 9 (fun K hK=>?_);go_simp;have hR:=ta.mk' HA35.out HI35.out;have hx9:=(HA35.out.setAll 0 rfl [C AS nS cS,C AG nG cG] rfl).xt;refine hK.out _ _ (fun _=>hx9) ?_;clear hK K;try simp only[kA]
     refine zO 10 (fun K hK=>?_);go_simp;refine hK.out _ _ (fun _=>hx9) ?_;clear hK K;try simp only[kA]
     refine zD ?_;go_wp2_with fail;go_meet
     exact⟨hR⟩
   ·skip
    go_simp;obtain⟨gA,hgA⟩:=nm w30.heap.size;obtain⟨w36,hw36⟩:=nm ((w30.alloc (.cells #[C none 0 0,C none 0 0] 59)):World);have hx36:ab w30 w36:=by rw[hw36];exact (zE _).alloc _
    have HA36:Bx (aA w2 w36 [(gA,#[C none 0 0,C none 0 0],59)]):=⟨by rw[hw36,hgA];exact ((aA.start w2).ext k30).push _ _ rfl⟩
    have HC36:=zZ ((au.re HC30.out (q:=gA) (by omega)).ext (bR.stab _) hx36);have k36:ab w2 w36:=k30.trans hx36;rw[<-hw36,<-hgA];clear hw36 hgA hx36;refine hK.out _ _ (fun _=>k36) ?_;clear hK K;try simp only[kA]
    refine zO 0 (fun K hK=>?_);go_simp;refine (dX _ (p:=gA) (HA36.out.at_ 0 rfl).lt).mono ?_;rintro e w37 ⟨v37,rfl,hs37,hx37⟩;have HS37:=zZ hs37;have HC37:=zZ (HC36.out.ext (bR.stab _) hx37);have HA37:=zZ (HA36.out.ext hx37);have k37:ab w2 w37:=k36.trans hx37;clear hs37 hx37;refine hK.out _ _ (fun _=>k37) ?_;clear hK K;try simp only[kA]
    refine zO 4 (fun K hK=>?_);go_simp;refine (aW _ _ kg [iD str 5,ip str] _ (p:=gA) (HA37.out.at_ 0 rfl).lt (HT.out.ext k37) HS37.out HC37.out (by simp)).mono ?_;rintro e w38 ⟨⟨v38,rfl,hi38⟩,hx38⟩;rw[eO,iV HRD.out]at hi38;rw[eA];obtain⟨vS,vG,rfl,hs38,hG38⟩:=hi38;obtain⟨AS,nS,cS,rfl,-⟩:=hs38.open_;obtain⟨AG,nG,cG,rfl,-⟩:=hG38.open_;have HI38:Bx (aK gA w38 (.agg #[C AS nS cS,C AG nG cG]) ⟨[⟨⟨1,0⟩,1,aY⟩,⟨⟨1,1⟩,2,aY⟩],[⟨5,1,5,[],⟨1,0⟩⟩]⟩):=⟨⟨_,_,rfl,hs38,hG38⟩⟩
    have HA38:=zZ (HA37.out.ext hx38);have k38:ab w2 w38:=k37.trans hx38;clear hs38 hG38 hx38;refine hK.out _ _ (fun _=>k38) ?_;clear hK K;try simp only[kA]
    refine zS 3 [(5,23),(6,29),(7,30)] k38 ?_;iterate 3 refine zT ?_ (y:=by intro wk hk;obtain⟨_,_,_,_,_,_,_,_⟩:=zkc8 hk a0 a1 a2 a3 a4 a5 a6 a7;obtain⟨_,_,_,_,_,_,_,_⟩:=zkc8 hk a8 a9 a10 a11 a12 b0 b1 b2;obtain⟨_,_,_,_,_,_,_,_⟩:=zkc8 hk b3 b4 b5 b6 b7 b8 b9 b10;obtain⟨_,_⟩:=zkc2 hk b11 b12;go_simp;try with_reducible rfl)
    refine zN ?_;obtain⟨j0,j1⟩:=(HA38.out.at_ 0 rfl).p2 rfl;have f0:=(HA38.out.at_ 0 rfl).froz;have f1:=f0;refine zO 9 (fun K hK=>?_);go_simp;have hR:=ta.mk' HA38.out HI38.out;have hx9:=(HA38.out.setAll 0 rfl [C AS nS cS,C AG nG cG] rfl).xt;refine hK.out _ _ (fun _=>hx9) ?_;clear hK K;try simp only[kA]
    refine zO 10 (fun K hK=>?_);go_simp;refine hK.out _ _ (fun _=>hx9) ?_;clear hK K;try simp only[kA]
    refine zD ?_;go_wp2_with fail;go_meet
    exact⟨hR⟩
  ·skip
   go_simp;obtain⟨gA,hgA⟩:=nm wd.heap.size;obtain⟨w39,hw39⟩:=nm ((wd.alloc (.cells #[C none 0 0,C none 0 0] 59)):World);have hx39:ab wd w39:=by rw[hw39];exact (zE _).alloc _
   have HA39:Bx (aA w2 w39 [(gA,#[C none 0 0,C none 0 0],59)]):=⟨by rw[hw39,hgA];exact ((aA.start w2).ext kS).push _ _ rfl⟩
   have k39:ab w2 w39:=kS.trans hx39;rw[<-hw39,<-hgA];clear hw39 hgA hx39;refine hK.out _ _ (fun _=>k39) ?_;clear hK K;try simp only[kA]
   refine an 0 3 (by kernel_rfl) rfl rfl (fun K hK=>?_) (fun K hK=>?_)
   ·skip
    go_simp;refine (dX _ (p:=gA) (HA39.out.at_ 0 rfl).lt).mono ?_;rintro e w40 ⟨v40,rfl,hs40,hx40⟩;have HS40:=zZ hs40;have HA40:=zZ (HA39.out.ext hx40);have k40:ab w2 w40:=k39.trans hx40;clear hs40 hx40;refine hK.out _ _ (fun _=>k40) ?_;clear hK K;try simp only[kA]
    refine zO 3 (fun K hK=>?_);go_simp;obtain⟨g41,hg41⟩:=nm w40.heap.size;obtain⟨w41,hw41⟩:=nm ((w40.alloc (.cells #[A B 2,A B 1,A B 1,A B 1,.string (ba str),A B 5,C none 0 0,A B 0,A B 0,A B 0,A B 0,A B 0,A B 0,A B 1,A B 1,A B 0,A B 1,.string (ba str),A B 5,C none 0 0,A B 0,A B 0,A B 0,A B 0,A B 0,A B 0] 47)):World);have hx41:ab w40 w41:=by rw[hw41];exact (zE _).alloc _
    have HC41:Bx (au gA w41 (C (some ⟨g41,0,none⟩) 2 2) [iD str 5,ip str]):=⟨by rw[hw41,hg41];exact gv _ _ _ (HA40.out.at_ 0 rfl).lt HSL.out ⟨by decide,by decide⟩⟩
    have HS41:=zZ (HS40.out.ext hx41);have HA41:=zZ (HA40.out.ext hx41);have k41:ab w2 w41:=k40.trans hx41;rw[<-hw41,<-hg41];clear hw41 hg41 hx41;refine hK.out _ _ (fun _=>k41) ?_;clear hK K;try simp only[kA]
    refine zO 4 (fun K hK=>?_);go_simp;refine (aW _ _ kg [iD str 5,ip str] _ (p:=gA) (HA41.out.at_ 0 rfl).lt (HT.out.ext k41) HS41.out HC41.out (by simp)).mono ?_;rintro e w42 ⟨⟨v42,rfl,hi42⟩,hx42⟩;rw[eO,iV HRD.out]at hi42;rw[eA];obtain⟨vS,vG,rfl,hs42,hG42⟩:=hi42;obtain⟨AS,nS,cS,rfl,-⟩:=hs42.open_;obtain⟨AG,nG,cG,rfl,-⟩:=hG42.open_;have HI42:Bx (aK gA w42 (.agg #[C AS nS cS,C AG nG cG]) ⟨[⟨⟨1,0⟩,1,aY⟩,⟨⟨1,1⟩,2,aY⟩],[⟨5,1,5,[],⟨1,0⟩⟩]⟩):=⟨⟨_,_,rfl,hs42,hG42⟩⟩
    have HA42:=zZ (HA41.out.ext hx42);have k42:ab w2 w42:=k41.trans hx42;clear hs42 hG42 hx42;refine hK.out _ _ (fun _=>k42) ?_;clear hK K;try simp only[kA]
    refine zS 3 [(5,23),(6,29),(7,30)] k42 ?_;iterate 3 refine zT ?_ (y:=by intro wk hk;obtain⟨_,_,_,_,_,_,_,_⟩:=zkc8 hk a0 a1 a2 a3 a4 a5 a6 a7;obtain⟨_,_,_,_,_,_,_,_⟩:=zkc8 hk a8 a9 a10 a11 a12 b0 b1 b2;obtain⟨_,_,_,_,_,_,_,_⟩:=zkc8 hk b3 b4 b5 b6 b7 b8 b9 b10;obtain⟨_,_⟩:=zkc2 hk b11 b12;go_simp;try with_reducible rfl)
    refine zN ?_;obtain⟨j0,j1⟩:=(HA42.out.at_ 0 rfl).p2 rfl;have f0:=(HA42.out.at_ 0 rfl).froz;have f1:=f0;refine zO 9 (fun K hK=>?_);go_simp;have hR:=ta.mk' HA42.out HI42.out;have hx9:=(HA42.out.setAll 0 rfl [C AS nS cS,C AG nG cG] rfl).xt;refine hK.out _ _ (fun _=>hx9) ?_;clear hK K;try simp only[kA]
    refine zO 10 (fun K hK=>?_);go_simp;refine hK.out _ _ (fun _=>hx9) ?_;clear hK K;try simp only[kA]
    refine zD ?_;go_wp2_with fail;go_meet
    exact⟨hR⟩
   ·skip
    go_simp;obtain⟨g43,hg43⟩:=nm w39.heap.size;obtain⟨w43,hw43⟩:=nm ((w39.alloc (.cells #[A B 2,A B 1,A B 1,A B 1,.string (ba str),A B 5,C none 0 0,A B 0,A B 0,A B 0,A B 0,A B 0,A B 0,A B 1,A B 1,A B 0,A B 1,.string (ba str),A B 5,C none 0 0,A B 0,A B 0,A B 0,A B 0,A B 0,A B 0] 47)):World);have hx43:ab w39 w43:=by rw[hw43];exact (zE _).alloc _
    have HC43:Bx (au gA w43 (C (some ⟨g43,0,none⟩) 2 2) [iD str 5,ip str]):=⟨by rw[hw43,hg43];exact gv _ _ _ (HA39.out.at_ 0 rfl).lt HSL.out ⟨by decide,by decide⟩⟩
    have HA43:=zZ (HA39.out.ext hx43);have k43:ab w2 w43:=k39.trans hx43;rw[<-hw43,<-hg43];clear hw43 hg43 hx43;refine hK.out _ _ (fun _=>k43) ?_;clear hK K;try simp only[kA]
    refine zO 0 (fun K hK=>?_);go_simp;refine (dX _ (p:=gA) (HA43.out.at_ 0 rfl).lt).mono ?_;rintro e w44 ⟨v44,rfl,hs44,hx44⟩;have HS44:=zZ hs44;have HC44:=zZ (HC43.out.ext (bR.stab _) hx44);have HA44:=zZ (HA43.out.ext hx44);have k44:ab w2 w44:=k43.trans hx44;clear hs44 hx44;refine hK.out _ _ (fun _=>k44) ?_;clear hK K;try simp only[kA]
    refine zO 4 (fun K hK=>?_);go_simp;refine (aW _ _ kg [iD str 5,ip str] _ (p:=gA) (HA44.out.at_ 0 rfl).lt (HT.out.ext k44) HS44.out HC44.out (by simp)).mono ?_;rintro e w45 ⟨⟨v45,rfl,hi45⟩,hx45⟩;rw[eO,iV HRD.out]at hi45;rw[eA];obtain⟨vS,vG,rfl,hs45,hG45⟩:=hi45;obtain⟨AS,nS,cS,rfl,-⟩:=hs45.open_;obtain⟨AG,nG,cG,rfl,-⟩:=hG45.open_;have HI45:Bx (aK gA w45 (.agg #[C AS nS cS,C AG nG cG]) ⟨[⟨⟨1,0⟩,1,aY⟩,⟨⟨1,1⟩,2,aY⟩],[⟨5,1,5,[],⟨1,0⟩⟩]⟩):=⟨⟨_,_,rfl,hs45,hG45⟩⟩
    have HA45:=zZ (HA44.out.ext hx45);have k45:ab w2 w45:=k44.trans hx45;clear hs45 hG45 hx45;refine hK.out _ _ (fun _=>k45) ?_;clear hK K;try simp only[kA]
    refine zS 3 [(5,23),(6,29),(7,30)] k45 ?_;iterate 3 refine zT ?_ (y:=by intro wk hk;obtain⟨_,_,_,_,_,_,_,_⟩:=zkc8 hk a0 a1 a2 a3 a4 a5 a6 a7;obtain⟨_,_,_,_,_,_,_,_⟩:=zkc8 hk a8 a9 a10 a11 a12 b0 b1 b2;obtain⟨_,_,_,_,_,_,_,_⟩:=zkc8 hk b3 b4 b5 b6 b7 b8 b9 b10;obtain⟨_,_⟩:=zkc2 hk b11 b12;go_simp;try with_reducible rfl)
    refine zN ?_;obtain⟨j0,j1⟩:=(HA45.out.at_ 0 rfl).p2 rfl;have f0:=(HA45.out.at_ 0 rfl).froz;have f1:=f0;refine zO 9 (fun K hK=>?_);go_simp;have hR:=ta.mk' HA45.out HI45.out;have hx9:=(HA45.out.setAll 0 rfl [C AS nS cS,C AG nG cG] rfl).xt;refine hK.out _ _ (fun _=>hx9) ?_;clear hK K;try simp only[kA]
    refine zO 10 (fun K hK=>?_);go_simp;refine hK.out _ _ (fun _=>hx9) ?_;clear hK K;try simp only[kA]
    refine zD ?_;go_wp2_with fail;go_meet
    exact⟨hR⟩
 case rest =>
 obtain⟨gI,vS,vG,rfl,rfl,hF3,hI3⟩:=hcut.out;obtain⟨w3,rfl⟩:=nm wc;have HF3:=zZ hF3;have HI3:=zZ hI3;have HF4:=zZ (HF2.out.ext hF3.xt);replace HT:Bx (cK w3):=⟨HT.out.ext hF3.xt⟩
 replace HGA:Bx (ga<w3.heap.size):=⟨(HF4.out.at_ 0 rfl).lt⟩
 clear hcut hF3 hI3 a0 a1 a2 a3 a4 a5 a6 a7 a8 a9 a10 a11 a12 b0 b1 b2 b3 b4 b5 b6 b7 b8 b9 b10 b11 b12;obtain⟨a0,a1,a2,a3,a4,a5,a6,a7,a8,a9,a10,a11,a12⟩:=(HF4.out.at_ 0 rfl).p13 rfl;obtain⟨b0,b1,b2,b3,b4,b5,b6,b7,b8,b9,b10,b11,b12⟩:=(HF4.out.at_ 2 rfl).p13 rfl;go_upto_region 7 with (fail)
 go_cut [8,9] (fun s8 s9 wx=>Bx (ta w3 wx s8 s9 ⟨[⟨⟨1,0⟩,3,aY⟩,⟨⟨1,1⟩,3,aY⟩],[]⟩))
 case first =>
  refine zQ 99 fun wd kS=>?_;refine zS 2 [(1,33),(2,34)] kS ?_;iterate 2 refine zT ?_ (y:=by intro wk hk;obtain⟨_,_,_,_,_,_,_,_⟩:=zkc8 hk a0 a1 a2 a3 a4 a5 a6 a7;obtain⟨_,_,_,_,_,_,_,_⟩:=zkc8 hk a8 a9 a10 a11 a12 b0 b1 b2;obtain⟨_,_,_,_,_,_,_,_⟩:=zkc8 hk b3 b4 b5 b6 b7 b8 b9 b10;obtain⟨_,_⟩:=zkc2 hk b11 b12;go_simp;try with_reducible rfl)
  refine zN (gZ 0 3 8 (by kernel_rfl) rfl rfl rfl (fun K hK=>?_) (fun K hK=>?_) (fun K hK=>?_))
  ·skip
   go_simp;refine (dX _ (p:=ga) (zB HGA.out kS.size)).mono ?_;rintro e w46 ⟨v46,rfl,hs46,hx46⟩;have HS46:=zZ hs46;have k46:ab w3 w46:=kS.trans hx46;clear hs46 hx46;refine hK.out _ _ (fun _=>k46) ?_;clear hK K;try simp only[kA]
   refine an 3 8 (by kernel_rfl) rfl rfl (fun K hK=>?_) (fun K hK=>?_)
   ·skip
    go_simp;obtain⟨g47,hg47⟩:=nm w46.heap.size;obtain⟨w47,hw47⟩:=nm ((w46.alloc (.cells #[A B 2,A B 1,A B 1,A B 1,.string (ba str),A B 6,C none 0 0,A B 0,A B 0,A B 0,A B 0,A B 0,A B 0,A B 1,A B 1,A B 0,A B 1,.string (ba str),A B 5,C none 0 0,A B 0,A B 0,A B 0,A B 0,A B 0,A B 0] 47)):World);have hx47:ab w46 w47:=by rw[hw47];exact (zE _).alloc _
    have HC47:Bx (au ga w47 (C (some ⟨g47,0,none⟩) 2 2) [iD str 6,ip str]):=⟨by rw[hw47,hg47];exact gv _ _ _ (zB HGA.out k46.size) HSL.out ⟨by decide,by decide⟩⟩
    have HS47:=zZ (HS46.out.ext hx47);have k47:ab w3 w47:=k46.trans hx47;rw[<-hw47,<-hg47];clear hw47 hg47 hx47;refine hK.out _ _ (fun _=>k47) ?_;clear hK K;try simp only[kA]
    refine an 4 8 (by kernel_rfl) rfl rfl (fun K hK=>?_) (fun K hK=>?_)
    ·skip
     go_simp;refine (aW _ _ kg [iD str 6,ip str] _ (p:=ga) (zB HGA.out k47.size) (HT.out.ext k47) HS47.out HC47.out (by simp)).mono ?_;rintro e w48 ⟨⟨v48,rfl,hi48⟩,hx48⟩;rw[eO,i7 HRD.out]at hi48;rw[eA];obtain⟨vS,vG,rfl,hs48,hG48⟩:=hi48;obtain⟨AS,nS,cS,rfl,-⟩:=hs48.open_;obtain⟨AG,nG,cG,rfl,-⟩:=hG48.open_;have HI48:Bx (aK ga w48 (.agg #[C AS nS cS,C AG nG cG]) ⟨[⟨⟨1,0⟩,3,aY⟩,⟨⟨1,1⟩,3,aY⟩],[]⟩):=⟨⟨_,_,rfl,hs48,hG48⟩⟩
     have k48:ab w3 w48:=k47.trans hx48;clear hs48 hG48 hx48;refine hK.out _ _ (fun _=>k48) ?_;clear hK K;try simp only[kA]
     refine zS 3 [(5,31),(6,37),(7,38)] k48 ?_;iterate 3 refine zT ?_ (y:=by intro wk hk;obtain⟨_,_,_,_,_,_,_,_⟩:=zkc8 hk a0 a1 a2 a3 a4 a5 a6 a7;obtain⟨_,_,_,_,_,_,_,_⟩:=zkc8 hk a8 a9 a10 a11 a12 b0 b1 b2;obtain⟨_,_,_,_,_,_,_,_⟩:=zkc8 hk b3 b4 b5 b6 b7 b8 b9 b10;obtain⟨_,_⟩:=zkc2 hk b11 b12;go_simp;try with_reducible rfl)
     refine zN (zO 8 (fun K hK=>?_));go_simp;obtain⟨gA,hgA⟩:=nm w48.heap.size;obtain⟨w49,hw49⟩:=nm ((w48.alloc (.cells #[C none 0 0,C none 0 0] 59)):World);have hx49:ab w48 w49:=by rw[hw49];exact (zE _).alloc _
     have HA49:Bx (aA w3 w49 [(gA,#[C none 0 0,C none 0 0],59)]):=⟨by rw[hw49,hgA];exact ((aA.start w3).ext k48).push _ _ rfl⟩
     have HI49:=zZ ((aK.re HI48.out (q:=gA) (by omega)).ext hx49);have k49:ab w3 w49:=k48.trans hx49;rw[<-hw49,<-hgA];clear hw49 hgA hx49;refine hK.out _ _ (fun _=>k49) ?_;clear hK K;try simp only[kA]
     obtain⟨j0,j1⟩:=(HA49.out.at_ 0 rfl).p2 rfl;have f0:=(HA49.out.at_ 0 rfl).froz;have f1:=f0;refine zO 9 (fun K hK=>?_);go_simp;have hR:=ta.mk' HA49.out HI49.out;have hx9:=(HA49.out.setAll 0 rfl [C AS nS cS,C AG nG cG] rfl).xt;refine hK.out _ _ (fun _=>hx9) ?_;clear hK K;try simp only[kA]
     refine zO 10 (fun K hK=>?_);go_simp;refine hK.out _ _ (fun _=>hx9) ?_;clear hK K;try simp only[kA]
     refine zD ?_;go_wp2_with fail;go_meet
     exact⟨hR⟩
    ·skip
     go_simp;obtain⟨gA,hgA⟩:=nm w47.heap.size;obtain⟨w50,hw50⟩:=nm ((w47.alloc (.cells #[C none 0 0,C none 0 0] 59)):World);have hx50:ab w47 w50:=by rw[hw50];exact (zE _).alloc _
     have HA50:Bx (aA w3 w50 [(gA,#[C none 0 0,C none 0 0],59)]):=⟨by rw[hw50,hgA];exact ((aA.start w3).ext k47).push _ _ rfl⟩
     have HS50:=zZ ((aR.re HS47.out (q:=gA) (by omega)).ext hx50);have HC50:=zZ ((au.re HC47.out (q:=gA) (by omega)).ext (bR.stab _) hx50);have k50:ab w3 w50:=k47.trans hx50;rw[<-hw50,<-hgA];clear hw50 hgA hx50;refine hK.out _ _ (fun _=>k50) ?_;clear hK K;try simp only[kA]
     refine zO 4 (fun K hK=>?_);go_simp;refine (aW _ _ kg [iD str 6,ip str] _ (p:=gA) (HA50.out.at_ 0 rfl).lt (HT.out.ext k50) HS50.out HC50.out (by simp)).mono ?_;rintro e w51 ⟨⟨v51,rfl,hi51⟩,hx51⟩;rw[eO,i7 HRD.out]at hi51;rw[eA];obtain⟨vS,vG,rfl,hs51,hG51⟩:=hi51;obtain⟨AS,nS,cS,rfl,-⟩:=hs51.open_;obtain⟨AG,nG,cG,rfl,-⟩:=hG51.open_;have HI51:Bx (aK gA w51 (.agg #[C AS nS cS,C AG nG cG]) ⟨[⟨⟨1,0⟩,3,aY⟩,⟨⟨1,1⟩,3,aY⟩],[]⟩):=⟨⟨_,_,rfl,hs51,hG51⟩⟩
     have HA51:=zZ (HA50.out.ext hx51);have k51:ab w3 w51:=k50.trans hx51;clear hs51 hG51 hx51;refine hK.out _ _ (fun _=>k51) ?_;clear hK K;try simp only[kA]
     refine zS 3 [(5,31),(6,37),(7,38)] k51 ?_;iterate 3 refine zT ?_ (y:=by intro wk hk;obtain⟨_,_,_,_,_,_,_,_⟩:=zkc8 hk a0 a1 a2 a3 a4 a5 a6 a7;obtain⟨_,_,_,_,_,_,_,_⟩:=zkc8 hk a8 a9 a10 a11 a12 b0 b1 b2;obtain⟨_,_,_,_,_,_,_,_⟩:=zkc8 hk b3 b4 b5 b6 b7 b8 b9 b10;obtain⟨_,_⟩:=zkc2 hk b11 b12;go_simp;try with_reducible rfl)
     refine zN ?_;obtain⟨j0,j1⟩:=(HA51.out.at_ 0 rfl).p2 rfl;have f0:=(HA51.out.at_ 0 rfl).froz;have f1:=f0;refine zO 9 (fun K hK=>?_);go_simp;have hR:=ta.mk' HA51.out HI51.out;have hx9:=(HA51.out.setAll 0 rfl [C AS nS cS,C AG nG cG] rfl).xt;refine hK.out _ _ (fun _=>hx9) ?_;clear hK K;try simp only[kA]
     refine zO 10 (fun K hK=>?_);go_simp;refine hK.out _ _ (fun _=>hx9) ?_;clear hK K;try simp only[kA]
     refine zD ?_;go_wp2_with fail;go_meet
     exact⟨hR⟩
   ·skip
    go_simp;obtain⟨gA,hgA⟩:=nm w46.heap.size;obtain⟨w52,hw52⟩:=nm ((w46.alloc (.cells #[C none 0 0,C none 0 0] 59)):World);have hx52:ab w46 w52:=by rw[hw52];exact (zE _).alloc _
    have HA52:Bx (aA w3 w52 [(gA,#[C none 0 0,C none 0 0],59)]):=⟨by rw[hw52,hgA];exact ((aA.start w3).ext k46).push _ _ rfl⟩
    have HS52:=zZ ((aR.re HS46.out (q:=gA) (by omega)).ext hx52);have k52:ab w3 w52:=k46.trans hx52;rw[<-hw52,<-hgA];clear hw52 hgA hx52;refine hK.out _ _ (fun _=>k52) ?_;clear hK K;try simp only[kA]
    refine zO 3 (fun K hK=>?_);go_simp;obtain⟨g53,hg53⟩:=nm w52.heap.size;obtain⟨w53,hw53⟩:=nm ((w52.alloc (.cells #[A B 2,A B 1,A B 1,A B 1,.string (ba str),A B 6,C none 0 0,A B 0,A B 0,A B 0,A B 0,A B 0,A B 0,A B 1,A B 1,A B 0,A B 1,.string (ba str),A B 5,C none 0 0,A B 0,A B 0,A B 0,A B 0,A B 0,A B 0] 47)):World);have hx53:ab w52 w53:=by rw[hw53];exact (zE _).alloc _
    have HC53:Bx (au gA w53 (C (some ⟨g53,0,none⟩) 2 2) [iD str 6,ip str]):=⟨by rw[hw53,hg53];exact gv _ _ _ (HA52.out.at_ 0 rfl).lt HSL.out ⟨by decide,by decide⟩⟩
    have HS53:=zZ (HS52.out.ext hx53);have HA53:=zZ (HA52.out.ext hx53);have k53:ab w3 w53:=k52.trans hx53;rw[<-hw53,<-hg53];clear hw53 hg53 hx53;refine hK.out _ _ (fun _=>k53) ?_;clear hK K;try simp only[kA]
    refine zO 4 (fun K hK=>?_);go_simp;refine (aW _ _ kg [iD str 6,ip str] _ (p:=gA) (HA53.out.at_ 0 rfl).lt (HT.out.ext k53) HS53.out HC53.out (by simp)).mono ?_;rintro e w54 ⟨⟨v54,rfl,hi54⟩,hx54⟩;rw[eO,i7 HRD.out]at hi54;rw[eA];obtain⟨vS,vG,rfl,hs54,hG54⟩:=hi54;obtain⟨AS,nS,cS,rfl,-⟩:=hs54.open_;obtain⟨AG,nG,cG,rfl,-⟩:=hG54.open_;have HI54:Bx (aK gA w54 (.agg #[C AS nS cS,C AG nG cG]) ⟨[⟨⟨1,0⟩,3,aY⟩,⟨⟨1,1⟩,3,aY⟩],[]⟩):=⟨⟨_,_,rfl,hs54,hG54⟩⟩
    have HA54:=zZ (HA53.out.ext hx54);have k54:ab w3 w54:=k53.trans hx54;clear hs54 hG54 hx54;refine hK.out _ _ (fun _=>k54) ?_;clear hK K;try simp only[kA]
    refine zS 3 [(5,31),(6,37),(7,38)] k54 ?_;iterate 3 refine zT ?_ (y:=by intro wk hk;obtain⟨_,_,_,_,_,_,_,_⟩:=zkc8 hk a0 a1 a2 a3 a4 a5 a6 a7;obtain⟨_,_,_,_,_,_,_,_⟩:=zkc8 hk a8 a9 a10 a11 a12 b0 b1 b2;obtain⟨_,_,_,_,_,_,_,_⟩:=zkc8 hk b3 b4 b5 b6 b7 b8 b9 b10;obtain⟨_,_⟩:=zkc2 hk b11 b12;go_simp;try with_reducible rfl)
    refine zN ?_;obtain⟨j0,j1⟩:=(HA54.out.at_ 0 rfl).p2 rfl;have f0:=(HA54.out.at_ 0 rfl).froz;have f1:=f0;refine zO 9 (fun K hK=>?_);go_simp;have hR:=ta.mk' HA54.out HI54.out;have hx9:=(HA54.out.setAll 0 rfl [C AS nS cS,C AG nG cG] rfl).xt;refine hK.out _ _ (fun _=>hx9) ?_;clear hK K;try simp only[kA]
    refine zO 10 (fun K hK=>?_);go_simp;refine hK.out _ _ (fun _=>hx9) ?_;clear hK K;try simp only[kA]
    refine zD ?_;go_wp2_with fail;go_meet
    exact⟨hR⟩
  ·skip
   go_simp;obtain⟨g55,hg55⟩:=nm wd.heap.size;obtain⟨w55,hw55⟩:=nm ((wd.alloc (.cells #[A B 2,A B 1,A B 1,A B 1,.string (ba str),A B 6,C none 0 0,A B 0,A B 0,A B 0,A B 0,A B 0,A B 0,A B 1,A B 1,A B 0,A B 1,.string (ba str),A B 5,C none 0 0,A B 0,A B 0,A B 0,A B 0,A B 0,A B 0] 47)):World);have hx55:ab wd w55:=by rw[hw55];exact (zE _).alloc _
   have HC55:Bx (au ga w55 (C (some ⟨g55,0,none⟩) 2 2) [iD str 6,ip str]):=⟨by rw[hw55,hg55];exact gv _ _ _ (zB HGA.out kS.size) HSL.out ⟨by decide,by decide⟩⟩
   have k55:ab w3 w55:=kS.trans hx55;rw[<-hw55,<-hg55];clear hw55 hg55 hx55;refine hK.out _ _ (fun _=>k55) ?_;clear hK K;try simp only[kA]
   refine an 0 8 (by kernel_rfl) rfl rfl (fun K hK=>?_) (fun K hK=>?_)
   ·skip
    go_simp;refine (dX _ (p:=ga) (zB HGA.out k55.size)).mono ?_;rintro e w56 ⟨v56,rfl,hs56,hx56⟩;have HS56:=zZ hs56;have HC56:=zZ (HC55.out.ext (bR.stab _) hx56);have k56:ab w3 w56:=k55.trans hx56;clear hs56 hx56;refine hK.out _ _ (fun _=>k56) ?_;clear hK K;try simp only[kA]
    refine an 4 8 (by kernel_rfl) rfl rfl (fun K hK=>?_) (fun K hK=>?_)
    ·skip
     go_simp;refine (aW _ _ kg [iD str 6,ip str] _ (p:=ga) (zB HGA.out k56.size) (HT.out.ext k56) HS56.out HC56.out (by simp)).mono ?_;rintro e w57 ⟨⟨v57,rfl,hi57⟩,hx57⟩;rw[eO,i7 HRD.out]at hi57;rw[eA];obtain⟨vS,vG,rfl,hs57,hG57⟩:=hi57;obtain⟨AS,nS,cS,rfl,-⟩:=hs57.open_;obtain⟨AG,nG,cG,rfl,-⟩:=hG57.open_;have HI57:Bx (aK ga w57 (.agg #[C AS nS cS,C AG nG cG]) ⟨[⟨⟨1,0⟩,3,aY⟩,⟨⟨1,1⟩,3,aY⟩],[]⟩):=⟨⟨_,_,rfl,hs57,hG57⟩⟩
     have k57:ab w3 w57:=k56.trans hx57;clear hs57 hG57 hx57;refine hK.out _ _ (fun _=>k57) ?_;clear hK K;try simp only[kA]
     refine zS 3 [(5,31),(6,37),(7,38)] k57 ?_;iterate 3 refine zT ?_ (y:=by intro wk hk;obtain⟨_,_,_,_,_,_,_,_⟩:=zkc8 hk a0 a1 a2 a3 a4 a5 a6 a7;obtain⟨_,_,_,_,_,_,_,_⟩:=zkc8 hk a8 a9 a10 a11 a12 b0 b1 b2;obtain⟨_,_,_,_,_,_,_,_⟩:=zkc8 hk b3 b4 b5 b6 b7 b8 b9 b10;obtain⟨_,_⟩:=zkc2 hk b11 b12;go_simp;try with_reducible rfl)
     refine zN (zO 8 (fun K hK=>?_));go_simp;obtain⟨gA,hgA⟩:=nm w57.heap.size;obtain⟨w58,hw58⟩:=nm ((w57.alloc (.cells #[C none 0 0,C none 0 0] 59)):World);have hx58:ab w57 w58:=by rw[hw58];exact (zE _).alloc _
     have HA58:Bx (aA w3 w58 [(gA,#[C none 0 0,C none 0 0],59)]):=⟨by rw[hw58,hgA];exact ((aA.start w3).ext k57).push _ _ rfl⟩
     have HI58:=zZ ((aK.re HI57.out (q:=gA) (by omega)).ext hx58);have k58:ab w3 w58:=k57.trans hx58;rw[<-hw58,<-hgA];clear hw58 hgA hx58;refine hK.out _ _ (fun _=>k58) ?_;clear hK K;try simp only[kA]
     obtain⟨j0,j1⟩:=(HA58.out.at_ 0 rfl).p2 rfl;have f0:=(HA58.out.at_ 0 rfl).froz;have f1:=f0;refine zO 9 (fun K hK=>?_);go_simp;have hR:=ta.mk' HA58.out HI58.out;have hx9:=(HA58.out.setAll 0 rfl [C AS nS cS,C AG nG cG] rfl).xt;refine hK.out _ _ (fun _=>hx9) ?_;clear hK K;try simp only[kA]
     refine zO 10 (fun K hK=>?_);go_simp;refine hK.out _ _ (fun _=>hx9) ?_;clear hK K;try simp only[kA]
     refine zD ?_;go_wp2_with fail;go_meet
     exact⟨hR⟩
    ·skip
     go_simp;obtain⟨gA,hgA⟩:=nm w56.heap.size;obtain⟨w59,hw59⟩:=nm ((w56.alloc (.cells #[C none 0 0,C none 0 0] 59)):World);have hx59:ab w56 w59:=by rw[hw59];exact (zE _).alloc _
     have HA59:Bx (aA w3 w59 [(gA,#[C none 0 0,C none 0 0],59)]):=⟨by rw[hw59,hgA];exact ((aA.start w3).ext k56).push _ _ rfl⟩
     have HS59:=zZ ((aR.re HS56.out (q:=gA) (by omega)).ext hx59);have HC59:=zZ ((au.re HC56.out (q:=gA) (by omega)).ext (bR.stab _) hx59);have k59:ab w3 w59:=k56.trans hx59;rw[<-hw59,<-hgA];clear hw59 hgA hx59;refine hK.out _ _ (fun _=>k59) ?_;clear hK K;try simp only[kA]
     refine zO 4 (fun K hK=>?_);go_simp;refine (aW _ _ kg [iD str 6,ip str] _ (p:=gA) (HA59.out.at_ 0 rfl).lt (HT.out.ext k59) HS59.out HC59.out (by simp)).mono ?_;rintro e w60 ⟨⟨v60,rfl,hi60⟩,hx60⟩;rw[eO,i7 HRD.out]at hi60;rw[eA];obtain⟨vS,vG,rfl,hs60,hG60⟩:=hi60;obtain⟨AS,nS,cS,rfl,-⟩:=hs60.open_;obtain⟨AG,nG,cG,rfl,-⟩:=hG60.open_;have HI60:Bx (aK gA w60 (.agg #[C AS nS cS,C AG nG cG]) ⟨[⟨⟨1,0⟩,3,aY⟩,⟨⟨1,1⟩,3,aY⟩],[]⟩):=⟨⟨_,_,rfl,hs60,hG60⟩⟩
     have HA60:=zZ (HA59.out.ext hx60);have k60:ab w3 w60:=k59.trans hx60;clear hs60 hG60 hx60;refine hK.out _ _ (fun _=>k60) ?_;clear hK K;try simp only[kA]
     refine zS 3 [(5,31),(6,37),(7,38)] k60 ?_;iterate 3 refine zT ?_ (y:=by intro wk hk;obtain⟨_,_,_,_,_,_,_,_⟩:=zkc8 hk a0 a1 a2 a3 a4 a5 a6 a7;obtain⟨_,_,_,_,_,_,_,_⟩:=zkc8 hk a8 a9 a10 a11 a12 b0 b1 b2;obtain⟨_,_,_,_,_,_,_,_⟩:=zkc8 hk b3 b4 b5 b6 b7 b8 b9 b10;obtain⟨_,_⟩:=zkc2 hk b11 b12;go_simp;try with_reducible rfl)
     refine zN ?_;obtain⟨j0,j1⟩:=(HA60.out.at_ 0 rfl).p2 rfl;have f0:=(HA60.out.at_ 0 rfl).froz;have f1:=f0;refine zO 9 (fun K hK=>?_);go_simp;have hR:=ta.mk' HA60.out HI60.out;have hx9:=(HA60.out.setAll 0 rfl [C AS nS cS,C AG nG cG] rfl).xt;refine hK.out _ _ (fun _=>hx9) ?_;clear hK K;try simp only[kA]
     refine zO 10 (fun K hK=>?_);go_simp;refine hK.out _ _ (fun _=>hx9) ?_;clear hK K;try simp only[kA]
     refine zD ?_;go_wp2_with fail;go_meet
     exact⟨hR⟩
   ·skip
    go_simp;obtain⟨gA,hgA⟩:=nm w55.heap.size;obtain⟨w61,hw61⟩:=nm ((w55.alloc (.cells #[C none 0 0,C none 0 0] 59)):World);have hx61:ab w55 w61:=by rw[hw61];exact (zE _).alloc _
    have HA61:Bx (aA w3 w61 [(gA,#[C none 0 0,C none 0 0],59)]):=⟨by rw[hw61,hgA];exact ((aA.start w3).ext k55).push _ _ rfl⟩
    have HC61:=zZ ((au.re HC55.out (q:=gA) (by omega)).ext (bR.stab _) hx61);have k61:ab w3 w61:=k55.trans hx61;rw[<-hw61,<-hgA];clear hw61 hgA hx61;refine hK.out _ _ (fun _=>k61) ?_;clear hK K;try simp only[kA]
    refine zO 0 (fun K hK=>?_);go_simp;refine (dX _ (p:=gA) (HA61.out.at_ 0 rfl).lt).mono ?_;rintro e w62 ⟨v62,rfl,hs62,hx62⟩;have HS62:=zZ hs62;have HC62:=zZ (HC61.out.ext (bR.stab _) hx62);have HA62:=zZ (HA61.out.ext hx62);have k62:ab w3 w62:=k61.trans hx62;clear hs62 hx62;refine hK.out _ _ (fun _=>k62) ?_;clear hK K;try simp only[kA]
    refine zO 4 (fun K hK=>?_);go_simp;refine (aW _ _ kg [iD str 6,ip str] _ (p:=gA) (HA62.out.at_ 0 rfl).lt (HT.out.ext k62) HS62.out HC62.out (by simp)).mono ?_;rintro e w63 ⟨⟨v63,rfl,hi63⟩,hx63⟩;rw[eO,i7 HRD.out]at hi63;rw[eA];obtain⟨vS,vG,rfl,hs63,hG63⟩:=hi63;obtain⟨AS,nS,cS,rfl,-⟩:=hs63.open_;obtain⟨AG,nG,cG,rfl,-⟩:=hG63.open_;have HI63:Bx (aK gA w63 (.agg #[C AS nS cS,C AG nG cG]) ⟨[⟨⟨1,0⟩,3,aY⟩,⟨⟨1,1⟩,3,aY⟩],[]⟩):=⟨⟨_,_,rfl,hs63,hG63⟩⟩
    have HA63:=zZ (HA62.out.ext hx63);have k63:ab w3 w63:=k62.trans hx63;clear hs63 hG63 hx63;refine hK.out _ _ (fun _=>k63) ?_;clear hK K;try simp only[kA]
    refine zS 3 [(5,31),(6,37),(7,38)] k63 ?_;iterate 3 refine zT ?_ (y:=by intro wk hk;obtain⟨_,_,_,_,_,_,_,_⟩:=zkc8 hk a0 a1 a2 a3 a4 a5 a6 a7;obtain⟨_,_,_,_,_,_,_,_⟩:=zkc8 hk a8 a9 a10 a11 a12 b0 b1 b2;obtain⟨_,_,_,_,_,_,_,_⟩:=zkc8 hk b3 b4 b5 b6 b7 b8 b9 b10;obtain⟨_,_⟩:=zkc2 hk b11 b12;go_simp;try with_reducible rfl)
    refine zN ?_;obtain⟨j0,j1⟩:=(HA63.out.at_ 0 rfl).p2 rfl;have f0:=(HA63.out.at_ 0 rfl).froz;have f1:=f0;refine zO 9 (fun K hK=>?_);go_simp;have hR:=ta.mk' HA63.out HI63.out;have hx9:=(HA63.out.setAll 0 rfl [C AS nS cS,C AG nG cG] rfl).xt;refine hK.out _ _ (fun _=>hx9) ?_;clear hK K;try simp only[kA]
    refine zO 10 (fun K hK=>?_);go_simp;refine hK.out _ _ (fun _=>hx9) ?_;clear hK K;try simp only[kA]
    refine zD ?_;go_wp2_with fail;go_meet
    exact⟨hR⟩
  ·skip
   go_simp;obtain⟨gA,hgA⟩:=nm wd.heap.size;obtain⟨w64,hw64⟩:=nm ((wd.alloc (.cells #[C none 0 0,C none 0 0] 59)):World);have hx64:ab wd w64:=by rw[hw64];exact (zE _).alloc _
   have HA64:Bx (aA w3 w64 [(gA,#[C none 0 0,C none 0 0],59)]):=⟨by rw[hw64,hgA];exact ((aA.start w3).ext kS).push _ _ rfl⟩
   have k64:ab w3 w64:=kS.trans hx64;rw[<-hw64,<-hgA];clear hw64 hgA hx64;refine hK.out _ _ (fun _=>k64) ?_;clear hK K;try simp only[kA]
   refine an 0 3 (by kernel_rfl) rfl rfl (fun K hK=>?_) (fun K hK=>?_)
   ·skip
    go_simp;refine (dX _ (p:=gA) (HA64.out.at_ 0 rfl).lt).mono ?_;rintro e w65 ⟨v65,rfl,hs65,hx65⟩;have HS65:=zZ hs65;have HA65:=zZ (HA64.out.ext hx65);have k65:ab w3 w65:=k64.trans hx65;clear hs65 hx65;refine hK.out _ _ (fun _=>k65) ?_;clear hK K;try simp only[kA]
    refine zO 3 (fun K hK=>?_);go_simp;obtain⟨g66,hg66⟩:=nm w65.heap.size;obtain⟨w66,hw66⟩:=nm ((w65.alloc (.cells #[A B 2,A B 1,A B 1,A B 1,.string (ba str),A B 6,C none 0 0,A B 0,A B 0,A B 0,A B 0,A B 0,A B 0,A B 1,A B 1,A B 0,A B 1,.string (ba str),A B 5,C none 0 0,A B 0,A B 0,A B 0,A B 0,A B 0,A B 0] 47)):World);have hx66:ab w65 w66:=by rw[hw66];exact (zE _).alloc _
    have HC66:Bx (au gA w66 (C (some ⟨g66,0,none⟩) 2 2) [iD str 6,ip str]):=⟨by rw[hw66,hg66];exact gv _ _ _ (HA65.out.at_ 0 rfl).lt HSL.out ⟨by decide,by decide⟩⟩
    have HS66:=zZ (HS65.out.ext hx66);have HA66:=zZ (HA65.out.ext hx66);have k66:ab w3 w66:=k65.trans hx66;rw[<-hw66,<-hg66];clear hw66 hg66 hx66;refine hK.out _ _ (fun _=>k66) ?_;clear hK K;try simp only[kA]
    refine zO 4 (fun K hK=>?_);go_simp;refine (aW _ _ kg [iD str 6,ip str] _ (p:=gA) (HA66.out.at_ 0 rfl).lt (HT.out.ext k66) HS66.out HC66.out (by simp)).mono ?_;rintro e w67 ⟨⟨v67,rfl,hi67⟩,hx67⟩;rw[eO,i7 HRD.out]at hi67;rw[eA];obtain⟨vS,vG,rfl,hs67,hG67⟩:=hi67;obtain⟨AS,nS,cS,rfl,-⟩:=hs67.open_;obtain⟨AG,nG,cG,rfl,-⟩:=hG67.open_;have HI67:Bx (aK gA w67 (.agg #[C AS nS cS,C AG nG cG]) ⟨[⟨⟨1,0⟩,3,aY⟩,⟨⟨1,1⟩,3,aY⟩],[]⟩):=⟨⟨_,_,rfl,hs67,hG67⟩⟩
    have HA67:=zZ (HA66.out.ext hx67);have k67:ab w3 w67:=k66.trans hx67;clear hs67 hG67 hx67;refine hK.out _ _ (fun _=>k67) ?_;clear hK K;try simp only[kA]
    refine zS 3 [(5,31),(6,37),(7,38)] k67 ?_;iterate 3 refine zT ?_ (y:=by intro wk hk;obtain⟨_,_,_,_,_,_,_,_⟩:=zkc8 hk a0 a1 a2 a3 a4 a5 a6 a7;obtain⟨_,_,_,_,_,_,_,_⟩:=zkc8 hk a8 a9 a10 a11 a12 b0 b1 b2;obtain⟨_,_,_,_,_,_,_,_⟩:=zkc8 hk b3 b4 b5 b6 b7 b8 b9 b10;obtain⟨_,_⟩:=zkc2 hk b11 b12;go_simp;try with_reducible rfl)
    refine zN ?_;obtain⟨j0,j1⟩:=(HA67.out.at_ 0 rfl).p2 rfl;have f0:=(HA67.out.at_ 0 rfl).froz;have f1:=f0;refine zO 9 (fun K hK=>?_);go_simp;have hR:=ta.mk' HA67.out HI67.out;have hx9:=(HA67.out.setAll 0 rfl [C AS nS cS,C AG nG cG] rfl).xt;refine hK.out _ _ (fun _=>hx9) ?_;clear hK K;try simp only[kA]
    refine zO 10 (fun K hK=>?_);go_simp;refine hK.out _ _ (fun _=>hx9) ?_;clear hK K;try simp only[kA]
    refine zD ?_;go_wp2_with fail;go_meet
    exact⟨hR⟩
   ·skip
    go_simp;obtain⟨g68,hg68⟩:=nm w64.heap.size;obtain⟨w68,hw68⟩:=nm ((w64.alloc (.cells #[A B 2,A B 1,A B 1,A B 1,.string (ba str),A B 6,C none 0 0,A B 0,A B 0,A B 0,A B 0,A B 0,A B 0,A B 1,A B 1,A B 0,A B 1,.string (ba str),A B 5,C none 0 0,A B 0,A B 0,A B 0,A B 0,A B 0,A B 0] 47)):World);have hx68:ab w64 w68:=by rw[hw68];exact (zE _).alloc _
    have HC68:Bx (au gA w68 (C (some ⟨g68,0,none⟩) 2 2) [iD str 6,ip str]):=⟨by rw[hw68,hg68];exact gv _ _ _ (HA64.out.at_ 0 rfl).lt HSL.out ⟨by decide,by decide⟩⟩
    have HA68:=zZ (HA64.out.ext hx68);have k68:ab w3 w68:=k64.trans hx68;rw[<-hw68,<-hg68];clear hw68 hg68 hx68;refine hK.out _ _ (fun _=>k68) ?_;clear hK K;try simp only[kA]
    refine zO 0 (fun K hK=>?_);go_simp;refine (dX _ (p:=gA) (HA68.out.at_ 0 rfl).lt).mono ?_;rintro e w69 ⟨v69,rfl,hs69,hx69⟩;have HS69:=zZ hs69;have HC69:=zZ (HC68.out.ext (bR.stab _) hx69);have HA69:=zZ (HA68.out.ext hx69);have k69:ab w3 w69:=k68.trans hx69;clear hs69 hx69;refine hK.out _ _ (fun _=>k69) ?_;clear hK K;try simp only[kA]
    refine zO 4 (fun K hK=>?_);go_simp;refine (aW _ _ kg [iD str 6,ip str] _ (p:=gA) (HA69.out.at_ 0 rfl).lt (HT.out.ext k69) HS69.out HC69.out (by simp)).mono ?_;rintro e w70 ⟨⟨v70,rfl,hi70⟩,hx70⟩;rw[eO,i7 HRD.out]at hi70;rw[eA];obtain⟨vS,vG,rfl,hs70,hG70⟩:=hi70;obtain⟨AS,nS,cS,rfl,-⟩:=hs70.open_;obtain⟨AG,nG,cG,rfl,-⟩:=hG70.open_;have HI70:Bx (aK gA w70 (.agg #[C AS nS cS,C AG nG cG]) ⟨[⟨⟨1,0⟩,3,aY⟩,⟨⟨1,1⟩,3,aY⟩],[]⟩):=⟨⟨_,_,rfl,hs70,hG70⟩⟩
    have HA70:=zZ (HA69.out.ext hx70);have k70:ab w3 w70:=k69.trans hx70;clear hs70 hG70 hx70;refine hK.out _ _ (fun _=>k70) ?_;clear hK K;try simp only[kA]
    refine zS 3 [(5,31),(6,37),(7,38)] k70 ?_;iterate 3 refine zT ?_ (y:=by intro wk hk;obtain⟨_,_,_,_,_,_,_,_⟩:=zkc8 hk a0 a1 a2 a3 a4 a5 a6 a7;obtain⟨_,_,_,_,_,_,_,_⟩:=zkc8 hk a8 a9 a10 a11 a12 b0 b1 b2;obtain⟨_,_,_,_,_,_,_,_⟩:=zkc8 hk b3 b4 b5 b6 b7 b8 b9 b10;obtain⟨_,_⟩:=zkc2 hk b11 b12;go_simp;try with_reducible rfl)
    refine zN ?_;obtain⟨j0,j1⟩:=(HA70.out.at_ 0 rfl).p2 rfl;have f0:=(HA70.out.at_ 0 rfl).froz;have f1:=f0;refine zO 9 (fun K hK=>?_);go_simp;have hR:=ta.mk' HA70.out HI70.out;have hx9:=(HA70.out.setAll 0 rfl [C AS nS cS,C AG nG cG] rfl).xt;refine hK.out _ _ (fun _=>hx9) ?_;clear hK K;try simp only[kA]
    refine zO 10 (fun K hK=>?_);go_simp;refine hK.out _ _ (fun _=>hx9) ?_;clear hK K;try simp only[kA]
    refine zD ?_;go_wp2_with fail;go_meet
    exact⟨hR⟩
 case rest =>
 obtain⟨gJ,vS2,vG2,rfl,rfl,hF5,hI5⟩:=hcut.out;clear hcut a0 a1 a2 a3 a4 a5 a6 a7 a8 a9 a10 a11 a12 b0 b1 b2 b3 b4 b5 b6 b7 b8 b9 b10 b11 b12;have HE:=zZ ((HX1.out.trans HF4.out.xt).trans hF5.xt);have HI6:=HI3.out.ext hF5.xt;obtain⟨_,_,e1,hs,hg⟩:=HI6;cases e1;obtain⟨bS,oS,cS,rfl,s0,s1⟩:=Hy hs;obtain⟨bG,oG,cG,rfl,p0⟩:=Es hg;obtain⟨_,_,e2,hs2,hg2⟩:=hI5;cases e2;obtain⟨bS2,oS2,cS2,rfl,s2,s3⟩:=Hy hs2;obtain⟨AG2,cG2,rfl⟩:=Jk hg2;obtain⟨i0,i1⟩:=((HF3.out.at_ 0 rfl).ext hF5.xt).p2 rfl;obtain⟨j0,j1⟩:=(hF5.at_ 0 rfl).p2 rfl;simp only at s0 s1 p0 s2 s3;clear hs hg hs2 hg2 hF5 HF2 HF3 HF4 HI3 HT HGA HRD HSL;go_wp2_with fail;go_ret
 exact⟨rfl,HE.out⟩
end Go.Proofs.YtkaajgoeahahpaaGreatDoor

