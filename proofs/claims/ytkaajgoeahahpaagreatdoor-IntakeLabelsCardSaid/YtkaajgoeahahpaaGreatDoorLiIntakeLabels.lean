import Derived.Test.YtkaajgoeahahpaaGreatDoorH19
set_option linter.all false
set_option maxRecDepth 100000
set_option maxHeartbeats 0
namespace Go.Proofs.YtkaajgoeahahpaaGreatDoor
open Go.Value renaming int→B
open Go.IntKind renaming i64→C
open Go.RowKit _root_.Go.Proofs.Tryz
theorem BN(p:Nat)(v:Value)(l:List aj)(si qi:Int):∃(xa xb xc xd st:Int),
  (∀wx,cK wx->au p wx v l->Calls prog 29 #[v,.agg #[B C si,B C qi]] wx fun e w'=>e=.returned (.tuple #[.agg #[B C xa,B C xb,B C xc,B C xd],B C st])/\ab wx w') /\
  (∀wx,au p wx v l->Calls prog 31 #[v,.agg #[B C si,B C qi]] wx fun e w'=>e=.returned (.tuple #[.agg #[B C xa,B C xb,B C xc,B C xd],B C st])/\ab wx w'):=by
 obtain⟨⟨xa,xb,xc,xd⟩,st,h⟩:∃(x:cJ) (st:Int),aQ l ⟨si,qi⟩=(x,st):=⟨_,_,rfl⟩
 refine⟨xa,xb,xc,xd,st,fun wx hT hv=>(mK v l si qi wx hT hv).mono ?_,fun wx hv=>(ms v l si qi wx hv).mono ?_⟩;all_goals
  rintro e w' ⟨ya,yb,yc,yd,yt,rfl,h2,hw⟩;rw[h]at h2;injection h2 with h2 h3;injection h2 with h4 h5 h6 h7;subst h3 h4 h5 h6 h7;exact⟨rfl,hw⟩
theorem oe(v0:Value)(l0:List Int)(a1 a2:Int)(w:World)(h0:ak w.heap.size w v0 l0)(hT:cK w) :
  Calls prog 6 #[v0,B C a1,B C a2] w fun e w'=>e=.returned (.bool true)/\ab w w':=by
 have H0:=zZ h0;have HB:=zZ hT;clear h0 hT;go_enter func6,ntmps6
 go_wp2_with fail;refine (ib _ l0 _ H0.out).mono ?_;rintro e w1 ⟨rfl,HT1,HE1⟩;have HE:=zZ HE1;have HF1:Bx (LF w.heap.size w1 w1 []):=⟨LF.start HT1 (HB.out.ext HE1) HB.out.lt⟩
 clear HT1 HE1;go_wp2_with fail;refine (dp _ 0 _ HF1.out.fr.tp (by omega) (by omega)).mono ?_;rintro e w2 ⟨v2,rfl,⟨s,hsv,hwf,-⟩,HT2,HX2⟩;have hs2:=hsv.isSit hwf HF1.out.fr.hp;have HWF:=zZ hwf;obtain⟨AP,nP,cP,AB,nB,cB,AX,nX,cX,rfl⟩:=hs2.op;have HF3:=bx (HF1.out.step HX2 HT2);have HS3:Bx (aR w.heap.size w2 (.agg #[B C s.num,.slice AP nP cP,.slice AB nB cB,.slice AX nX cX]) s):=⟨hs2⟩
 clear hs2 hsv hwf HT2 HX2 HF1;go_wp2_with fail;refine (dP _ _ s 8 _ HF3.out.fr.tp HS3.out HWF.out (by omega)).mono ?_;rintro e w4 ⟨v4,rfl,⟨ys,hrow,hyl⟩,HT4,HX4⟩;have hcs:=hrow.isCs HF3.out.lt;have hyl2:(ys.map Prod.fst).length<=24:=by rw[zJ];omega
 obtain⟨l,hl⟩:=nm (ys.map Prod.fst);rw[<-hl]at hcs hyl2;obtain⟨AC,cC,rfl⟩:∃A c,v4=.slice A l.length c:=by obtain⟨A,n,c,rfl,-⟩:=hcs.open_;rw[hcs.len];exact⟨_,_,rfl⟩
 obtain⟨nl,hnl⟩:=nm l.length;rw[<-hnl]at hcs hyl2⊢;have HLN:=zZ hnl;have HC4:Bx (au w.heap.size w4 (.slice AC nl cC) l):=⟨hcs⟩
 have HF4:=bx (HF3.out.step HX4 HT4);clear hcs hrow hyl hl hnl HT4 HX4 HF3 HS3;clear HWF;go_wp2_with fail;go_loopw [9] (fun s9 wr=>∃k:Nat,s9=B C k/\k<=nl/\Bx (ab w4 wr)) (fun k _=>nl-(intOf k).toNat)
 case atStart=>exact⟨0,rfl,by omega,⟨zE _⟩⟩
 case round =>
  obtain⟨k,rfl,hk,HR⟩:=hrel;by_cases hkn:k<nl
  ·obtain⟨b,off,_,_,rfl,-⟩:=HC4.out.at_ hkn;obtain⟨xt,xs,xq,xk,xct,xts,xtq,xlp,xlc,xlg,xlv,xstr,xch,xA,xn,xcc,HX,hcx,hix,hwx⟩:=au.read HC4.out (XT.refl w.heap.size w4) hkn;have HCX:=zZ hcx;obtain⟨e0,e1,e2,e3,e4,e5,e6,e7,e8,e9,e10,e11,e12⟩:=hcx.ext HR.out;obtain⟨xa,xb,xc,xd,st,C1,C2⟩:=BN w.heap.size (.slice (some ⟨b,off,none⟩) nl cC) l xs xq;replace C1:=zZ C1;replace C2:=zZ C2;clear hcx hix hwx HX;go_wp2_with fail;refine (dN _ _ _ _ _ _ _ _ _ _ _ _ _ _ _ _).mono ?_;rintro e wa ⟨rfl,hxa⟩;have hra:=HR.out.trans hxa;go_wp2_with fail;refine (C1.out _ (HF4.out.tb.ext hra) (bj.ext HC4.out (bR.stab _) hra)).mono ?_;rintro e wb ⟨rfl,hxb⟩;obtain⟨g6,hg6⟩:=nm wb.heap.size;obtain⟨w6,hw6⟩:=nm ((wb.alloc (.cells #[B C xa,B C xb,B C xc,B C xd] 45)):World);have hx:ab wr w6:=by rw[hw6];exact (hxa.trans hxb).alloc _
   have HR6:Bx (ab w4 w6):=⟨HR.out.trans hx⟩
   have HB6:Bx (Bk w6 g6 #[B C xa,B C xb,B C xc,B C xd] 45):=⟨by rw[hw6,hg6];exact Bk.new _ _ _⟩
   clear hra hxa hxb hx;go_upto_region 7 with (fail)
   rw[<-hw6,<-hg6];clear hw6 hg6;clear e0 e1 e2 e3 e4 e5 e6 e7 e8 e9 e10 e11 e12;obtain⟨e0,e1,e2,e3,e4,e5,e6,e7,e8,e9,e10,e11,e12⟩:=HCX.out.ext HR6.out;go_wp2_with fail;refine (dN _ _ _ _ _ _ _ _ _ _ _ _ _ _ _ _).mono ?_;rintro e wa ⟨rfl,hxa⟩;have hra:=HR6.out.trans hxa;go_wp2_with fail;refine (C2.out _ (bj.ext HC4.out (bR.stab _) hra)).mono ?_;rintro e wb ⟨rfl,hxb⟩;obtain⟨g7,hg7⟩:=nm wb.heap.size;obtain⟨w7,hw7⟩:=nm ((wb.alloc (.cells #[B C xa,B C xb,B C xc,B C xd] 45)):World);have hx:ab w6 w7:=by rw[hw7];exact (hxa.trans hxb).alloc _
   have HR7:Bx (ab w4 w7):=⟨HR6.out.trans hx⟩
   have HB7:Bx (Bk w7 g7 #[B C xa,B C xb,B C xc,B C xd] 45):=⟨by rw[hw7,hg7];exact Bk.new _ _ _⟩
   replace HB6:Bx (Bk w7 g6 #[B C xa,B C xb,B C xc,B C xd] 45):=⟨HB6.out.ext hx⟩
   clear hra hxa hxb hx;go_upto_region 8 with (fail)
   rw[<-hw7,<-hg7];clear hw7 hg7;clear e0 e1 e2 e3 e4 e5 e6 e7 e8 e9 e10 e11 e12;obtain⟨i0,i1,i2,i3⟩:=(HB6.out).p4 rfl;obtain⟨j0,j1,j2,j3⟩:=(HB7.out).p4 rfl;have eL:=fun W=>ox xa xb xc xd xa xb xc xd W;rw[decide_eq_true ⟨rfl,rfl,rfl,rfl⟩]at eL;have gL:=ij;have ee:(st != st)=false:=by simp
   go_wp2_with fail;go_roundw
   case rel=>exact⟨k+1,by go_num,by omega,⟨HR7.out⟩⟩
   case measure=>simp[intOf];omega
  ·obtain rfl:k=nl:=by omega
   obtain⟨xa,xb,xc,xd,st,C1,C2⟩:=BN w.heap.size (.slice AC k cC) l a1 a2;replace C1:=zZ C1;replace C2:=zZ C2;go_wp2_with fail;have hra:=HR.out;refine (C1.out _ (HF4.out.tb.ext hra) (bj.ext HC4.out (bR.stab _) hra)).mono ?_;rintro e wb ⟨rfl,hxb⟩;obtain⟨g6,hg6⟩:=nm wb.heap.size;obtain⟨w6,hw6⟩:=nm ((wb.alloc (.cells #[B C xa,B C xb,B C xc,B C xd] 45)):World);have hx:ab wr w6:=by rw[hw6];exact (hxb).alloc _
   have HR6:Bx (ab w4 w6):=⟨HR.out.trans hx⟩
   have HB6:Bx (Bk w6 g6 #[B C xa,B C xb,B C xc,B C xd] 45):=⟨by rw[hw6,hg6];exact Bk.new _ _ _⟩
   clear hra hxb hx;go_upto_region 11 with (fail)
   rw[<-hw6,<-hg6];clear hw6 hg6;go_wp2_with fail;have hra:=HR6.out;refine (C2.out _ (bj.ext HC4.out (bR.stab _) hra)).mono ?_;rintro e wb ⟨rfl,hxb⟩;obtain⟨g7,hg7⟩:=nm wb.heap.size;obtain⟨w7,hw7⟩:=nm ((wb.alloc (.cells #[B C xa,B C xb,B C xc,B C xd] 45)):World);have hx:ab w6 w7:=by rw[hw7];exact (hxb).alloc _
   have HR7:Bx (ab w4 w7):=⟨HR6.out.trans hx⟩
   have HB7:Bx (Bk w7 g7 #[B C xa,B C xb,B C xc,B C xd] 45):=⟨by rw[hw7,hg7];exact Bk.new _ _ _⟩
   replace HB6:Bx (Bk w7 g6 #[B C xa,B C xb,B C xc,B C xd] 45):=⟨HB6.out.ext hx⟩
   clear hra hxb hx;go_upto_region 12 with (fail)
   rw[<-hw7,<-hg7];clear hw7 hg7;obtain⟨i0,i1,i2,i3⟩:=(HB6.out).p4 rfl;obtain⟨j0,j1,j2,j3⟩:=(HB7.out).p4 rfl;have eL:=fun W=>ox xa xb xc xd xa xb xc xd W;rw[decide_eq_true ⟨rfl,rfl,rfl,rfl⟩]at eL;have gL:=ij;have ee:(st==st)=true:=by simp
   go_wp2_with fail;refine (cN _ (HF4.out.tb.ext HR7.out)).mono ?_;rintro e w8 ⟨rfl,hx8⟩;go_wp2_with fail;go_ret
   exact⟨rfl,((HF4.out.fin HE.out).trans HR7.out).trans hx8⟩
end Go.Proofs.YtkaajgoeahahpaaGreatDoor

