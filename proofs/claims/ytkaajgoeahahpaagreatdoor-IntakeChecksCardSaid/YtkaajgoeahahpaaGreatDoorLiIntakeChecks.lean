import Derived.Test.YtkaajgoeahahpaaGreatDoorH19
set_option linter.all false
set_option maxRecDepth 100000
set_option maxHeartbeats 0
namespace Go.Proofs.YtkaajgoeahahpaaGreatDoor
open Go.RowKit _root_.Go.Proofs.Tryz
theorem oy(v0:Value)(l0:List Int)(w:World)(h0:ak w.heap.size w v0 l0)(hT:cK w) :
  Calls prog 3 #[v0] w fun e w'=>e=.returned (.bool true)/\ab w w':=by
 have H0:=zZ h0;have HB:=zZ hT;clear h0 hT;go_enter func3,ntmps3
 go_wp2_with fail;refine (ib _ l0 _ H0.out).mono ?_;rintro e w1 ⟨rfl,HT1,HE1⟩;have HE:=zZ HE1;have HF1:Bx (LF w.heap.size w1 w1 []):=⟨LF.start HT1 (HB.out.ext HE1) HB.out.lt⟩
 clear HT1 HE1;go_wp2_with fail;refine (dp _ 2 _ HF1.out.fr.tp (by omega) (by omega)).mono ?_;rintro e w2 ⟨v2,rfl,⟨s,hsv,hwf,-⟩,HT2,HX2⟩;have hs2:=hsv.isSit hwf HF1.out.fr.hp;have HWF:=zZ hwf;obtain⟨AP,nP,cP,AB,nB,cB,AX,nX,cX,rfl⟩:=hs2.op;obtain⟨gS,hgS⟩:=nm w2.heap.size;obtain⟨w3,hw3⟩:=nm ((w2.alloc (.cells #[.int .i64 s.num,.slice AP nP cP,.slice AB nB cB,.slice AX nX cX] 27)):World);have HF3:Bx (LF w.heap.size w1 w3 [(gS,#[.int .i64 s.num,.slice AP nP cP,.slice AB nB cB,.slice AX nX cX],27)]):=⟨by rw[hw3];exact (HF1.out.step HX2 HT2).push _ _ hgS.symm⟩
 have HS3:Bx (aR w.heap.size w3 (.agg #[.int .i64 s.num,.slice AP nP cP,.slice AB nB cB,.slice AX nX cX]) s):=⟨by rw[hw3];exact hs2.ext ((zE _).alloc _)⟩
 clear hs2 hsv hwf;go_upto_region 2 with (fail)
 rw[<-hw3,<-hgS];clear hw3 hgS HT2 HX2 HF1;obtain⟨er,her⟩:=nm (aC s:Int);obtain⟨z0,z1,z2,z3⟩:=(HF3.out.at_ 0 rfl).p4 rfl;have hee:(er==er)=true:=by simp
 refine zQ 99 fun wd kS=>?_;refine zS 2 [(0,7),(2,9)] kS ?_;iterate 2 refine zT ?_ (y:=by intro wk hk;obtain⟨_,_,_,_⟩:=zkc4 hk z0 z1 z2 z3;go_simp;try with_reducible rfl)
 refine zN (zO 1 (fun K hK=>?_));go_simp;refine (mf _ s _ (HS3.out.ext kS)).mono ?_;rintro e w4 ⟨rfl,hx4⟩;have kS2:ab w3 w4:=kS.trans hx4;rw[<-her];refine hK.out _ _ (fun _=>kS2) ?_;clear hK K;try simp only[kA]
 refine zO 3 (fun K hK=>?_);go_simp;refine (mC _ s _ (HS3.out.ext kS2)).mono ?_;rintro e w5 ⟨rfl,hx5⟩;have kS3:ab w3 w5:=kS2.trans hx5;rw[<-her];refine hK.out _ _ (fun _=>kS3) ?_;clear hK K;try simp only[kA]
 refine zS 2 [(4,11),(5,12)] kS3 ?_;iterate 2 refine zT ?_ (y:=by intro wk hk;obtain⟨_,_,_,_⟩:=zkc4 hk z0 z1 z2 z3;go_simp;try with_reducible rfl)
 refine zN (zO 6 (fun K hK=>?_));go_simp;refine (cN _ (HF3.out.tb.ext kS3)).mono ?_;rintro e w6 ⟨rfl,hx6⟩;have kS4:ab w3 w6:=kS3.trans hx6;refine hK.out _ _ (fun _=>kS4) ?_;clear hK K;try simp only[kA]
 refine zS 2 [(7,14),(8,2)] kS4 ?_;iterate 2 refine zT ?_ (y:=by intro wk hk;obtain⟨_,_,_,_⟩:=zkc4 hk z0 z1 z2 z3;go_simp;try with_reducible rfl)
 refine zN (zD ?_);go_wp2_with fail;go_ret
 exact⟨rfl,(HF3.out.fin HE.out).trans kS4⟩
end Go.Proofs.YtkaajgoeahahpaaGreatDoor

