import Derived.Test.YtkaajgoeahahpaaGreatDoorH15
set_option linter.all false
set_option maxRecDepth 100000
set_option maxHeartbeats 0
namespace Go.Proofs.YtkaajgoeahahpaaGreatDoor
open Go.Value renaming int→A,slice→C
open Go.IntKind renaming i64→B
open Go.RowKit _root_.Go.Proofs.Tryz
theorem so(xc xg xt xs xq yc yg yt ys yq:Int)(xch ych:List Int)(xA yA:Option Addr)(xn xcc yn ycc:Nat)(w:World){p q:Nat}(ha:ak p w (C xA xn xcc) xch)(hb:ak q w (C yA yn ycc) ych) :
  Calls prog 41 #[.agg #[A B xc,A B xg,A B xt,C xA xn xcc,A B xs,A B xq],.agg #[A B yc,A B yg,A B yt,C yA yn ycc,A B ys,A B yq]] w fun e w'=>e=.returned (.bool (decide ((⟨xc,xg,xt,xch,⟨xs,xq⟩⟩:Pg)=⟨yc,yg,yt,ych,⟨ys,yq⟩⟩)))/\ab w w':=by
 have e2:=fun W=>jW xs xq ys yq W;have g2:=fC;have HA:Bx (ak p w (C xA xn xcc) xch/\ak q w (C yA yn ycc) ych):=⟨⟨ha,hb⟩⟩
 clear ha hb;go_enter func41,ntmps41
 go_wp2_with (go_at_call 40;refine (rP _ _ xch ych _ (HA.out.1.ext (((zE _).alloc _).alloc _)) (HA.out.2.ext (((zE _).alloc _).alloc _))).mono ?_;rintro e w1 ⟨rfl,hx1⟩;have HE:=zZ ((((zE w).alloc _).alloc _).trans hx1);have q04:w1.cell? ⟨w.heap.size,4,none⟩=some (A B xs):=hx1.cell (by simp[go_sem,yI,yH]);have q05:w1.cell? ⟨w.heap.size,5,none⟩=some (A B xq):=hx1.cell (by simp[go_sem,yI,yH]);have q14:w1.cell? ⟨w.heap.size+1,4,none⟩=some (A B ys):=hx1.cell (by simp[go_sem,yI,yH]);have q15:w1.cell? ⟨w.heap.size+1,5,none⟩=some (A B yq):=hx1.cell (by simp[go_sem,yI,yH]);have HAll:=hx1;clear hx1);all_goals (go_ret;refine⟨aa ?_,?_⟩)
 all_goals (first|exact HE.out|exact ((zE _).alloc _).alloc _|(rw[yE];simp only[decide_eq_true_eq,Pg.eq_iff,gT.eq_iff];simp_all)|skip)
theorem qY{α:Type}{l l':List α}{n:Nat}(h1:l.length=n)(h2:l'.length=n)(h:∀j,j<n->l[j]?=l'[j]?):l=l':=by
 refine xW fun j=>?_;rcases zU j n with hj|hj
 ·exact h j hj
 ·rw[zC (by omega),zC (by omega)]
theorem jZ(va vb:Value)(a b:r6)(w:World){p q:Nat}(ha:aK p w va a)(hb:aK q w vb b) :
  Calls prog 34 #[va,vb] w fun e w'=>(∃r:Bool,e=.returned (.bool r)/\(r=true↔a.sts=b.sts/\a.pgs=b.pgs))/\ab w w':=by
 obtain⟨vS,vG,rfl,hS,hG⟩:=ha;obtain⟨uS,uG,rfl,gS,gG⟩:=hb;obtain⟨AS,n,cS,rfl,-,-,hn6,HLS⟩:=hS.open_;obtain⟨AG,m,cG,rfl,-,-,hm6,HLG⟩:=hG.open_;obtain⟨BS,n',dS,rfl,-,-,-,KLS⟩:=gS.open_;obtain⟨BG,m',dG,rfl,-,-,-,KLG⟩:=gG.open_;have HS:Bx (rA p w (C AS n cS) a.sts/\rA q w (C BS n' dS) b.sts):=⟨⟨hS,gS⟩⟩
 have HG:Bx (Ce p w (C AG m cG) a.pgs/\Ce q w (C BG m' dG) b.pgs):=⟨⟨hG,gG⟩⟩
 clear hS hG gS gG;go_enter func34,ntmps34
 by_cases h1:n=n';case neg =>
  have h1b:((n:Int)==(n':Int))=false:=by simp;omega
  have HN:Bx (¬(a.sts=b.sts/\a.pgs=b.pgs)):=⟨fun e=>h1 (by rw[<-HLS.out,<-KLS.out,e.1])⟩
  replace h1:=zZ h1;go_wp2_with fail;go_ret
  exact⟨⟨false,rfl,by simp[HN.out]⟩,((zE _).alloc _).alloc _⟩
 subst h1;by_cases h2:m=m';case neg =>
  have h2b:((m:Int)==(m':Int))=false:=by simp;omega
  have HN:Bx (¬(a.sts=b.sts/\a.pgs=b.pgs)):=⟨fun e=>h2 (by rw[<-HLG.out,<-KLG.out,e.2])⟩
  replace h2:=zZ h2;go_wp2_with fail;go_ret
  exact⟨⟨false,rfl,by simp[HN.out]⟩,((zE _).alloc _).alloc _⟩
 subst h2;have HF:Bx (aA w ((w.alloc (.cells #[C AS n cS,C AG m cG] 59)).alloc (.cells #[C BS n dS,C BG m dG] 59)) [(w.heap.size,#[C AS n cS,C AG m cG],59),(w.heap.size+1,#[C BS n dS,C BG m dG],59)]):=⟨((aA.start w).push _ _ rfl).push _ _ (by simp)⟩
 go_upto_region 1 with (fail)
 obtain⟨w1,hw1⟩:=nm (((w.alloc (.cells #[C AS n cS,C AG m cG] 59)).alloc (.cells #[C BS n dS,C BG m dG] 59)):World);rw[<-hw1]at HF;rw[<-hw1];clear hw1;obtain⟨b0,b1⟩:=(HF.out.at_ 0 rfl).p2 rfl;obtain⟨c0,c1⟩:=(HF.out.at_ 1 rfl).p2 rfl;go_wp2_with fail;go_loopw [5] (fun s5 wr=>∃k:Nat,s5=A B k/\k<=n/\Bx (aA w wr [(w.heap.size,#[C AS n cS,C AG m cG],59),(w.heap.size+1,#[C BS n dS,C BG m dG],59)]/\∀j,j<k->a.sts[j]?=b.sts[j]?)) (fun k _=>n-(intOf k).toNat)
 case atStart=>exact⟨0,rfl,by omega,⟨⟨HF.out,fun j hj=>by omega⟩⟩⟩
 case round =>
  obtain⟨k,rfl,hk,HR⟩:=hrel;have HFr:Bx (aA w wr [(w.heap.size,#[C AS n cS,C AG m cG],59),(w.heap.size+1,#[C BS n dS,C BG m dG],59)]):=⟨HR.out.1⟩
  have HA:Bx (∀j,j<k->a.sts[j]?=b.sts[j]?):=⟨HR.out.2⟩
  clear HR HF b0 b1 c0 c1;obtain⟨b0,b1⟩:=(HFr.out.at_ 0 rfl).p2 rfl;obtain⟨c0,c1⟩:=(HFr.out.at_ 1 rfl).p2 rfl;by_cases hkn:k<n
  ·obtain⟨b1k,o1,_,_,rfl,-⟩:=HS.out.1.at_ hkn;obtain⟨b2k,o2,_,_,rfl,-⟩:=HS.out.2.at_ hkn;obtain⟨cs,⟨⟨xs,xq⟩,xt,⟨xa,xb,xc,xd⟩⟩,-,hc0,⟨hcs,-⟩,HX⟩:=(HS.out.1.ext (cU.stab p) HFr.out.drew.xt).cell_ hkn;obtain⟨es,⟨⟨ys,yq⟩,yt,⟨ya,yb,yc,yd⟩⟩,-,he0,⟨hes,-⟩,HY⟩:=(HS.out.2.ext (cU.stab q) HFr.out.drew.xt).cell_ hkn;have x0:=hc0 0 (A B xs) (by rw[hcs];rfl);have x1:=hc0 1 (A B xq) (by rw[hcs];rfl);have x2:=hc0 2 (A B xt) (by rw[hcs];rfl);have x3:=hc0 3 (A B xa) (by rw[hcs];rfl);have x4:=hc0 4 (A B xb) (by rw[hcs];rfl);have x5:=hc0 5 (A B xc) (by rw[hcs];rfl);have x6:=hc0 6 (A B xd) (by rw[hcs];rfl);have y0:=he0 0 (A B ys) (by rw[hes];rfl);have y1:=he0 1 (A B yq) (by rw[hes];rfl);have y2:=he0 2 (A B yt) (by rw[hes];rfl);have y3:=he0 3 (A B ya) (by rw[hes];rfl);have y4:=he0 4 (A B yb) (by rw[hes];rfl);have y5:=he0 5 (A B yc) (by rw[hes];rfl);have y6:=he0 6 (A B yd) (by rw[hes];rfl);rw[yQ]at x0 y0;have kS:wr.drew.cell? ⟨w.heap.size,0,none⟩=some (C (some ⟨b1k,o1,none⟩) n cS)/\wr.drew.cell? ⟨w.heap.size+1,0,none⟩=some (C (some ⟨b2k,o2,none⟩) n dS)/\wr.drew.cell? ⟨b1k,o1+k*7,none⟩=some (A B xs)/\wr.drew.cell? ⟨b1k,o1+k*7+1,none⟩=some (A B xq)/\wr.drew.cell? ⟨b1k,o1+k*7+2,none⟩=some (A B xt)/\wr.drew.cell? ⟨b1k,o1+k*7+3,none⟩=some (A B xa)/\wr.drew.cell? ⟨b1k,o1+k*7+4,none⟩=some (A B xb)/\wr.drew.cell? ⟨b1k,o1+k*7+5,none⟩=some (A B xc)/\wr.drew.cell? ⟨b1k,o1+k*7+6,none⟩=some (A B xd)/\wr.drew.cell? ⟨b2k,o2+k*7,none⟩=some (A B ys)/\wr.drew.cell? ⟨b2k,o2+k*7+1,none⟩=some (A B yq)/\wr.drew.cell? ⟨b2k,o2+k*7+2,none⟩=some (A B yt)/\wr.drew.cell? ⟨b2k,o2+k*7+3,none⟩=some (A B ya)/\wr.drew.cell? ⟨b2k,o2+k*7+4,none⟩=some (A B yb)/\wr.drew.cell? ⟨b2k,o2+k*7+5,none⟩=some (A B yc)/\wr.drew.cell? ⟨b2k,o2+k*7+6,none⟩=some (A B yd):=⟨(HFr.out.drew.at_ 0 rfl).c 0 rfl,(HFr.out.drew.at_ 1 rfl).c 0 rfl,x0,x1,x2,x3,x4,x5,x6,y0,y1,y2,y3,y4,y5,y6⟩
   clear hc0 hcs he0 hes x0 x1 x2 x3 x4 x5 x6 y0 y1 y2 y3 y4 y5 y6;go_upto_region 6 with (fail)
   clear b0 b1 c0 c1;refine zR 99 (fun w'=>w'.cell? ⟨w.heap.size,0,none⟩=some (C (some ⟨b1k,o1,none⟩) n cS)/\w'.cell? ⟨w.heap.size+1,0,none⟩=some (C (some ⟨b2k,o2,none⟩) n dS)/\w'.cell? ⟨b1k,o1+k*7,none⟩=some (A B xs)/\w'.cell? ⟨b1k,o1+k*7+1,none⟩=some (A B xq)/\w'.cell? ⟨b1k,o1+k*7+2,none⟩=some (A B xt)/\w'.cell? ⟨b1k,o1+k*7+3,none⟩=some (A B xa)/\w'.cell? ⟨b1k,o1+k*7+4,none⟩=some (A B xb)/\w'.cell? ⟨b1k,o1+k*7+5,none⟩=some (A B xc)/\w'.cell? ⟨b1k,o1+k*7+6,none⟩=some (A B xd)/\w'.cell? ⟨b2k,o2+k*7,none⟩=some (A B ys)/\w'.cell? ⟨b2k,o2+k*7+1,none⟩=some (A B yq)/\w'.cell? ⟨b2k,o2+k*7+2,none⟩=some (A B yt)/\w'.cell? ⟨b2k,o2+k*7+3,none⟩=some (A B ya)/\w'.cell? ⟨b2k,o2+k*7+4,none⟩=some (A B yb)/\w'.cell? ⟨b2k,o2+k*7+5,none⟩=some (A B yc)/\w'.cell? ⟨b2k,o2+k*7+6,none⟩=some (A B yd)) ?_;have eL:=fun W=>Da xs xq xt xa xb xc xd ys yq yt ya yb yc yd W;have gL:=Aj;by_cases h1:xs=ys/\xq=yq/\xt=yt/\xa=ya/\xb=yb/\xc=yc/\xd=yd
   ·rw[decide_eq_true h1]at eL;have HEQ:Bx (a.sts[k]?=b.sts[k]?):=⟨by obtain⟨e1,e2,e3,e4,e5,e6,e7⟩:=h1;rw[HX.out,HY.out,e1,e2,e3,e4,e5,e6,e7]⟩
    clear h1;refine zS 11 [(0,30),(1,31),(2,32),(3,33),(4,34),(5,35),(6,36),(7,37),(8,38),(9,39),(10,40)] kS ?_;iterate 11 refine zT ?_
    refine zN (zD ?_);clear kS eL gL;go_wp2_with fail;go_roundw
    case rel=>exact⟨k+1,by go_num,by omega,⟨⟨HFr.out.drew,fun j hj=>by rcases zU j k with h|h;exact HA.out j h;obtain rfl:j=k:=(by omega);exact HEQ.out⟩⟩⟩
    case measure=>simp[intOf];omega
   ·rw[decide_eq_false h1]at eL;have HN:Bx (¬(a.sts=b.sts/\a.pgs=b.pgs)):=⟨fun e=>h1 (by have h:=HX.out;rw[e.1,HY.out]at h;injection h with h;injection h with e1 e2 e3;injection e1 with e4 e5;injection e3 with e6 e7 e8 e9;exact⟨e4.symm,e5.symm,e2.symm,e6.symm,e7.symm,e8.symm,e9.symm⟩)⟩
    clear h1;refine zS 11 [(0,30),(1,31),(2,32),(3,33),(4,34),(5,35),(6,36),(7,37),(8,38),(9,39),(10,40)] kS ?_;iterate 11 refine zT ?_
    refine zN (zD ?_);clear kS eL gL;go_wp2_with fail;go_ret
    exact⟨⟨false,rfl,by simp[HN.out]⟩,HFr.out.drew.xt⟩
  ·obtain rfl:k=n:=by omega
   have HSE:Bx (a.sts=b.sts):=⟨qY HLS.out KLS.out HA.out⟩
   clear HA;go_wp2_with fail;obtain⟨wo,rfl⟩:=nm (wr:World);go_loopw [6] (fun s6 wx=>∃j:Nat,s6=A B j/\j<=m/\Bx (aA w wx [(w.heap.size,#[C AS k cS,C AG m cG],59),(w.heap.size+1,#[C BS k dS,C BG m dG],59)]/\∀i,i<j->a.pgs[i]?=b.pgs[i]?)) (fun j _=>m-(intOf j).toNat)
   case atStart=>exact⟨0,rfl,by omega,⟨⟨HFr.out,fun i hi=>by omega⟩⟩⟩
   case round =>
    obtain⟨j,rfl,hj,HR⟩:=hrel;have HF2:Bx (aA w wr [(w.heap.size,#[C AS k cS,C AG m cG],59),(w.heap.size+1,#[C BS k dS,C BG m dG],59)]):=⟨HR.out.1⟩
    have HA:Bx (∀i,i<j->a.pgs[i]?=b.pgs[i]?):=⟨HR.out.2⟩
    clear HR HFr b0 b1 c0 c1;obtain⟨b0,b1⟩:=(HF2.out.at_ 0 rfl).p2 rfl;obtain⟨c0,c1⟩:=(HF2.out.at_ 1 rfl).p2 rfl;by_cases hjm:j<m
    ·obtain⟨b1k,o1,_,_,rfl,-⟩:=HG.out.1.at_ hjm;obtain⟨b2k,o2,_,_,rfl,-⟩:=HG.out.2.at_ hjm;obtain⟨cs,⟨xc,xg,xt,xch,⟨xs,xq⟩⟩,-,hc0,⟨ux,hcs,hix,-⟩,HX⟩:=(HG.out.1.ext (lO.stab p) HF2.out.drew.xt).cell_ hjm;obtain⟨es,⟨yc,yg,yt,ych,⟨ys,yq⟩⟩,-,he0,⟨uy,hes,hiy,-⟩,HY⟩:=(HG.out.2.ext (lO.stab q) HF2.out.drew.xt).cell_ hjm;obtain⟨xA,xn,xcc,rfl,-⟩:=hix.open_;obtain⟨yA,yn,ycc,rfl,-⟩:=hiy.open_;have x0:=hc0 0 (A B xc) (by rw[hcs];rfl);have x1:=hc0 1 (A B xg) (by rw[hcs];rfl);have x2:=hc0 2 (A B xt) (by rw[hcs];rfl);have x3:=hc0 3 (C xA xn xcc) (by rw[hcs];rfl);have x4:=hc0 4 (A B xs) (by rw[hcs];rfl);have x5:=hc0 5 (A B xq) (by rw[hcs];rfl);have y0:=he0 0 (A B yc) (by rw[hes];rfl);have y1:=he0 1 (A B yg) (by rw[hes];rfl);have y2:=he0 2 (A B yt) (by rw[hes];rfl);have y3:=he0 3 (C yA yn ycc) (by rw[hes];rfl);have y4:=he0 4 (A B ys) (by rw[hes];rfl);have y5:=he0 5 (A B yq) (by rw[hes];rfl);rw[yQ]at x0 y0;have kS:wr.drew.cell? ⟨w.heap.size,1,none⟩=some (C (some ⟨b1k,o1,none⟩) m cG)/\wr.drew.cell? ⟨w.heap.size+1,1,none⟩=some (C (some ⟨b2k,o2,none⟩) m dG)/\wr.drew.cell? ⟨b1k,o1+j*6,none⟩=some (A B xc)/\wr.drew.cell? ⟨b1k,o1+j*6+1,none⟩=some (A B xg)/\wr.drew.cell? ⟨b1k,o1+j*6+2,none⟩=some (A B xt)/\wr.drew.cell? ⟨b1k,o1+j*6+3,none⟩=some (C xA xn xcc)/\wr.drew.cell? ⟨b1k,o1+j*6+4,none⟩=some (A B xs)/\wr.drew.cell? ⟨b1k,o1+j*6+5,none⟩=some (A B xq)/\wr.drew.cell? ⟨b2k,o2+j*6,none⟩=some (A B yc)/\wr.drew.cell? ⟨b2k,o2+j*6+1,none⟩=some (A B yg)/\wr.drew.cell? ⟨b2k,o2+j*6+2,none⟩=some (A B yt)/\wr.drew.cell? ⟨b2k,o2+j*6+3,none⟩=some (C yA yn ycc)/\wr.drew.cell? ⟨b2k,o2+j*6+4,none⟩=some (A B ys)/\wr.drew.cell? ⟨b2k,o2+j*6+5,none⟩=some (A B yq):=⟨(HF2.out.drew.at_ 0 rfl).c 1 rfl,(HF2.out.drew.at_ 1 rfl).c 1 rfl,x0,x1,x2,x3,x4,x5,y0,y1,y2,y3,y4,y5⟩
     have HI:Bx (ak p wr.drew (C xA xn xcc) xch/\ak q wr.drew (C yA yn ycc) ych):=⟨⟨hix,hiy⟩⟩
     clear hix hiy hc0 hcs he0 hes x0 x1 x2 x3 x4 x5 y0 y1 y2 y3 y4 y5;go_upto_region 11 with (fail)
     clear b0 b1 c0 c1;refine zR 99 (fun w'=>w'.cell? ⟨w.heap.size,1,none⟩=some (C (some ⟨b1k,o1,none⟩) m cG)/\w'.cell? ⟨w.heap.size+1,1,none⟩=some (C (some ⟨b2k,o2,none⟩) m dG)/\w'.cell? ⟨b1k,o1+j*6,none⟩=some (A B xc)/\w'.cell? ⟨b1k,o1+j*6+1,none⟩=some (A B xg)/\w'.cell? ⟨b1k,o1+j*6+2,none⟩=some (A B xt)/\w'.cell? ⟨b1k,o1+j*6+3,none⟩=some (C xA xn xcc)/\w'.cell? ⟨b1k,o1+j*6+4,none⟩=some (A B xs)/\w'.cell? ⟨b1k,o1+j*6+5,none⟩=some (A B xq)/\w'.cell? ⟨b2k,o2+j*6,none⟩=some (A B yc)/\w'.cell? ⟨b2k,o2+j*6+1,none⟩=some (A B yg)/\w'.cell? ⟨b2k,o2+j*6+2,none⟩=some (A B yt)/\w'.cell? ⟨b2k,o2+j*6+3,none⟩=some (C yA yn ycc)/\w'.cell? ⟨b2k,o2+j*6+4,none⟩=some (A B ys)/\w'.cell? ⟨b2k,o2+j*6+5,none⟩=some (A B yq)) ?_;refine zS 10 [(0,48),(1,49),(2,50),(3,51),(4,52),(5,53),(6,54),(7,55),(8,56),(9,57)] kS ?_;iterate 10 refine zT ?_
     refine zN (zO 10 (fun K hK=>?_));go_simp;refine (so xc xg xt xs xq yc yg yt ys yq xch ych xA yA xn xcc yn ycc _ HI.out.1 HI.out.2).mono ?_;rintro e w3 ⟨rfl,hx3⟩;have HF3:Bx (aA w w3 [(w.heap.size,#[C AS k cS,C (some ⟨b1k,o1,none⟩) m cG],59),(w.heap.size+1,#[C BS k dS,C (some ⟨b2k,o2,none⟩) m dG],59)]):=⟨HF2.out.drew.ext hx3⟩
     have kS2:w3.cell? ⟨w.heap.size,1,none⟩=some (C (some ⟨b1k,o1,none⟩) m cG)/\w3.cell? ⟨w.heap.size+1,1,none⟩=some (C (some ⟨b2k,o2,none⟩) m dG)/\w3.cell? ⟨b1k,o1+j*6,none⟩=some (A B xc)/\w3.cell? ⟨b1k,o1+j*6+1,none⟩=some (A B xg)/\w3.cell? ⟨b1k,o1+j*6+2,none⟩=some (A B xt)/\w3.cell? ⟨b1k,o1+j*6+3,none⟩=some (C xA xn xcc)/\w3.cell? ⟨b1k,o1+j*6+4,none⟩=some (A B xs)/\w3.cell? ⟨b1k,o1+j*6+5,none⟩=some (A B xq)/\w3.cell? ⟨b2k,o2+j*6,none⟩=some (A B yc)/\w3.cell? ⟨b2k,o2+j*6+1,none⟩=some (A B yg)/\w3.cell? ⟨b2k,o2+j*6+2,none⟩=some (A B yt)/\w3.cell? ⟨b2k,o2+j*6+3,none⟩=some (C yA yn ycc)/\w3.cell? ⟨b2k,o2+j*6+4,none⟩=some (A B ys)/\w3.cell? ⟨b2k,o2+j*6+5,none⟩=some (A B yq):=⟨hx3.cell kS.1,hx3.cell kS.2.1,hx3.cell kS.2.2.1,hx3.cell kS.2.2.2.1,hx3.cell kS.2.2.2.2.1,hx3.cell kS.2.2.2.2.2.1,hx3.cell kS.2.2.2.2.2.2.1,hx3.cell kS.2.2.2.2.2.2.2.1,hx3.cell kS.2.2.2.2.2.2.2.2.1,hx3.cell kS.2.2.2.2.2.2.2.2.2.1,hx3.cell kS.2.2.2.2.2.2.2.2.2.2.1,hx3.cell kS.2.2.2.2.2.2.2.2.2.2.2.1,hx3.cell kS.2.2.2.2.2.2.2.2.2.2.2.2.1,hx3.cell kS.2.2.2.2.2.2.2.2.2.2.2.2.2⟩
     clear hx3 kS;cases h1:decide ((⟨xc,xg,xt,xch,⟨xs,xq⟩⟩:Pg)=⟨yc,yg,yt,ych,⟨ys,yq⟩⟩) with
     |true =>
      have HEQ:Bx (a.pgs[j]?=b.pgs[j]?):=⟨by rw[HX.out,HY.out,of_decide_eq_true h1]⟩
      replace h1:=zZ h1;refine hK.out _ _ (fun _=>(kS2)) ?_;clear hK K;try simp only[kA]
      refine zS 1 [(11,59)] kS2 ?_;refine zT ?_;refine zN (zD ?_);clear kS2;go_wp2_with fail;go_roundw
      case rel=>exact⟨j+1,by go_num,by omega,⟨⟨HF3.out,fun i hi=>by rcases zU i j with h|h;exact HA.out i h;obtain rfl:i=j:=(by omega);exact HEQ.out⟩⟩⟩
      case measure=>simp[intOf];omega
     |false =>
      have HN:Bx (¬(a.sts=b.sts/\a.pgs=b.pgs)):=⟨fun e=>of_decide_eq_false h1 (by have h:=HX.out;rw[e.2,HY.out]at h;injection h with h;exact h.symm)⟩
      replace h1:=zZ h1;refine hK.out _ _ (fun _=>(kS2)) ?_;clear hK K;try simp only[kA]
      refine zS 1 [(11,59)] kS2 ?_;refine zT ?_;refine zN (zD ?_);clear kS2;go_wp2_with fail;go_ret
      exact⟨⟨false,rfl,by simp[HN.out]⟩,HF3.out.xt⟩
    ·obtain rfl:j=m:=by omega
     have HGE:Bx (a.pgs=b.pgs):=⟨qY HLG.out KLG.out HA.out⟩
     go_wp2_with fail;go_ret
     exact⟨⟨true,rfl,by simp[HSE.out,HGE.out]⟩,HF2.out.xt⟩
end Go.Proofs.YtkaajgoeahahpaaGreatDoor

