import Derived.Test.YtkaajgoeahahpaaGreatDoorH19
import Derived.Test.YtkaajgoeahahpaaGreatDoorH22
set_option linter.all false
set_option maxRecDepth 100000
set_option maxHeartbeats 0
namespace Go.Proofs.YtkaajgoeahahpaaGreatDoor
open Go.RowKit _root_.Go.Proofs.Tryz
theorem pN(v0:Value)(l0:List Int)(w:World)(h0:ak w.heap.size w v0 l0)(hT:cK w) :
  Calls prog 7 #[v0] w fun e w'=>e=.returned (.bool true)/\ab w w':=by
 have H0:=zZ h0;have HB:=zZ hT;clear h0 hT;go_enter func7,ntmps7
 go_wp2_with fail;refine (ib _ l0 _ H0.out).mono ?_;rintro e w1 ⟨rfl,HT1,HE1⟩;have HE:=zZ HE1;have HF1:Bx (LF w.heap.size w1 w1 []):=⟨LF.start HT1 (HB.out.ext HE1) HB.out.lt⟩
 clear HT1 HE1;go_wp2_with fail;refine (dp _ 12 _ HF1.out.fr.tp (by omega) (by omega)).mono ?_;rintro e w2 ⟨v2,rfl,⟨s,hsv,hwf,-⟩,HT2,HX2⟩;have hs2:=hsv.isSit hwf HF1.out.fr.hp;have HWF:=zZ hwf;obtain⟨AP,nP,cP,AB,nB,cB,AX,nX,cX,rfl⟩:=hs2.op;obtain⟨gS,hgS⟩:=nm w2.heap.size;obtain⟨w3,hw3⟩:=nm ((w2.alloc (.cells #[.int .i64 s.num,.slice AP nP cP,.slice AB nB cB,.slice AX nX cX] 27)):World);have HF3:Bx (LF w.heap.size w1 w3 [(gS,#[.int .i64 s.num,.slice AP nP cP,.slice AB nB cB,.slice AX nX cX],27)]):=⟨by rw[hw3];exact (HF1.out.step HX2 HT2).push _ _ hgS.symm⟩
 have HS3:Bx (aR w.heap.size w3 (.agg #[.int .i64 s.num,.slice AP nP cP,.slice AB nB cB,.slice AX nX cX]) s):=⟨by rw[hw3];exact hs2.ext ((zE _).alloc _)⟩
 clear hs2 hsv hwf;go_upto_region 3 with (fail)
 rw[<-hw3,<-hgS];clear hw3 hgS HT2 HX2 HF1;obtain⟨z0,z1,z2,z3⟩:=(HF3.out.at_ 0 rfl).p4 rfl;go_wp2_with fail;refine (dP _ _ s 12 _ HF3.out.fr.tp HS3.out HWF.out (by omega)).mono ?_;rintro e w4 ⟨v4,rfl,⟨ys,hrow,hyl⟩,HT4,HX4⟩;have hcs:=hrow.isCs HF3.out.lt;have hyl2:(ys.map Prod.fst).length<=24:=by rw[zJ];omega
 obtain⟨l,hl⟩:=nm (ys.map Prod.fst);rw[<-hl]at hcs hyl2;obtain⟨AC,cC,rfl⟩:∃A c,v4=.slice A l.length c:=by obtain⟨A,n,c,rfl,-⟩:=hcs.open_;rw[hcs.len];exact⟨_,_,rfl⟩
 obtain⟨nl,hnl⟩:=nm l.length;rw[<-hnl]at hcs hyl2⊢;have HLN:=zZ hnl;have HC4:Bx (au w.heap.size w4 (.slice AC nl cC) l):=⟨hcs⟩
 have HF4:=bx (HF3.out.step HX4 HT4);have HS4:=bx (HS3.out.xt HX4);clear hcs hrow hyl hl hnl HT4 HX4 HF3 HS3;go_upto_region 4 with (fail)
 clear z0 z1 z2 z3;obtain⟨t,ht⟩:=nm (rM s l);obtain⟨er,her⟩:=nm (aC s:Int);have HT:=zZ ht;have HR:=zZ her;clear ht her;obtain⟨z0,z1,z2,z3⟩:=(HF4.out.at_ 0 rfl).p4 rfl;go_wp2_with fail;refine (aW _ _ s l _ HF4.out.lt HF4.out.tb HS4.out HC4.out (by have:=HLN.out;omega)).mono ?_;rintro e w5 ⟨⟨vI,rfl,hI⟩,hx5⟩;rw[<-HT.out]at hI;rw[<-HR.out];obtain⟨AS,cS,AG,cG,rfl⟩:=hI.op;obtain⟨gI,hgI⟩:=nm w5.heap.size;obtain⟨w6,hw6⟩:=nm ((w5.alloc (.cells #[.slice AS t.sts.length cS,.slice AG t.pgs.length cG] 59)):World);have hx6:ab w4 w6:=by rw[hw6];exact hx5.alloc _
 have HF6:Bx (LF w.heap.size w1 w6 [(gS,#[.int .i64 s.num,.slice AP nP cP,.slice AB nB cB,.slice AX nX cX],27),(gI,#[.slice AS t.sts.length cS,.slice AG t.pgs.length cG],59)]):=⟨by rw[hw6];exact (HF4.out.ext hx5).push _ _ hgI.symm⟩
 have HI6:Bx (aK w.heap.size w6 (.agg #[.slice AS t.sts.length cS,.slice AG t.pgs.length cG]) t):=⟨by rw[hw6];exact hI.ext ((zE _).alloc _)⟩
 have HS6:=bx (HS4.out.ext hx6);have HC6:Bx (au w.heap.size w6 (.slice AC nl cC) l):=⟨bj.ext HC4.out (bR.stab _) hx6⟩
 clear hI hx6 hx5;go_upto_region 5 with (fail)
 rw[<-hw6,<-hgI];clear hw6 hgI HF4 HS4 HC4 z0 z1 z2 z3;obtain⟨z0,z1,z2,z3⟩:=(HF6.out.at_ 0 rfl).p4 rfl;go_wp2_with fail;refine (lj _ _ s l _ HF6.out.lt HS6.out HC6.out (by have:=HLN.out;omega)).mono ?_;rintro e w7 ⟨vS,vG,rfl,hoS,hoG,hx7⟩;rw[show (if aC s=0 then cQ s (ay l) else ⟨[],[]⟩)=t from HT.out.symm]at hoS hoG;rw[<-HR.out];have hJ:aK w.heap.size w7 (.agg #[vS,vG]) t:=⟨_,_,rfl,hoS.isS (by decide) HF6.out.lt (fun _ _ h=>h),hoG.isS (by decide) HF6.out.lt (fun cs x h=>lO.stab _ _ _ cs x h hx7.xt)⟩
 clear hoS hoG;obtain⟨BS,dS,BG,dG,hv⟩:=hJ.op;obtain⟨rfl,rfl⟩:vS=.slice BS t.sts.length dS/\vG=.slice BG t.pgs.length dG:=by injection hv with hv;injection hv with hv;injection hv with h1 h2;injection h2 with h2;exact⟨h1,h2⟩
 obtain⟨gJ,hgJ⟩:=nm w7.heap.size;obtain⟨w8,hw8⟩:=nm ((w7.alloc (.cells #[.slice BS t.sts.length dS,.slice BG t.pgs.length dG] 59)):World);have hx8:ab w6 w8:=by rw[hw8];exact hx7.alloc _
 have HF8:Bx (LF w.heap.size w1 w8 [(gS,#[.int .i64 s.num,.slice AP nP cP,.slice AB nB cB,.slice AX nX cX],27),(gI,#[.slice AS t.sts.length cS,.slice AG t.pgs.length cG],59),(gJ,#[.slice BS t.sts.length dS,.slice BG t.pgs.length dG],59)]):=⟨by rw[hw8];exact (HF6.out.ext hx7).push _ _ hgJ.symm⟩
 have HJ8:Bx (aK w.heap.size w8 (.agg #[.slice BS t.sts.length dS,.slice BG t.pgs.length dG]) t):=⟨by rw[hw8];exact hJ.ext ((zE _).alloc _)⟩
 have HI8:=bx (HI6.out.ext hx8);clear hJ hv hx7 hx8;go_upto_region 6 with (fail)
 rw[<-hw8,<-hgJ];clear hw8 hgJ HF6 HS6 HC6 z0 z1 z2 z3 HI6 HR HT;obtain⟨z0,z1⟩:=(HF8.out.at_ 1 rfl).p2 rfl;obtain⟨y0,y1⟩:=(HF8.out.at_ 2 rfl).p2 rfl;have hee:(er==er)=true:=by simp
 go_wp2_with fail;refine (jZ _ _ _ _ _ HI8.out HJ8.out).mono ?_;rintro e w9 ⟨⟨r,rfl,hr⟩,hx9⟩;obtain rfl:r=true:=hr.2 ⟨rfl,rfl⟩;go_wp2_with fail;refine (cN _ (HF8.out.tb.ext hx9)).mono ?_;rintro e w10 ⟨rfl,hx10⟩;go_wp2_with fail;go_ret
 exact⟨rfl,((HF8.out.fin HE.out).trans hx9).trans hx10⟩
end Go.Proofs.YtkaajgoeahahpaaGreatDoor

