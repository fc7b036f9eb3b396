import Derived.Test.YtkaajgoeahahpaaGreatDoorH11
set_option linter.all false
set_option maxRecDepth 100000
set_option maxHeartbeats 0
namespace Go.Proofs.YtkaajgoeahahpaaGreatDoor
open Go.Value renaming int→B,slice→E
open Go.IntKind renaming i64→D
open Go.RowKit _root_.Go.Proofs.Tryz
variable {p size:Nat} {w:World} {c g:Int} {v:Value}
theorem Tryz.infoSst:(prog.info? 67).map (fun i=>(i.zero,i.size,i.bytes))=some (some (.agg #[B D 0,B D 0,B D 0,B D 0,B D 0,B D 0,B D 0]),7,56):=by kernel_rfl
theorem Tryz.infoPg:(prog.info? 72).map (fun i=>(i.zero,i.size,i.bytes))=some (some (.agg #[B D 0,B D 0,B D 0,E none 0 0,B D 0,B D 0]),6,64):=by kernel_rfl
theorem JO{α:Type}{R:World->List Value->α->Prop}{A:Option Addr}{n c k:Nat}{xs:List α}(h:bj p size R w (E A n c) xs)(hk:k<=n)(hc:¬c=k):bj p size R w (E (A.map fun x=>x.add (k*size)) (n-k) (c-k)) (xs.drop k):=by have:=h.drop hk;rwa [if_neg hc]at this
theorem J5{α:Type}{R:World->List Value->α->Prop}{A:Option Addr}{c k:Nat}{xs:List α}(h:bj p size R w (E A k c) xs):bj p size R w (E (if c=k then A else A.map fun x=>x.add (k*size)) 0 (c-k)) (xs.drop k):=by have:=h.drop (zX k);rwa [vH]at this
theorem qj(w:World):∀cs x,cU w cs x->∀u∈cs,u.oneCell'=true:=by rintro cs x ⟨rfl,-⟩ u hu;simp only[dF.cells,yM,wL,or_false]at hu;rcases hu with rfl|rfl|rfl|rfl|rfl|rfl|rfl<;>rfl
theorem vh(p:Nat)(w:World):∀cs x,lO p w cs x->∀u∈cs,u.oneCell'=true:=by rintro cs x ⟨v,rfl,⟨A,c,rfl,-⟩,-⟩ u hu;simp only[Pg.cells,yM,wL,or_false]at hu;rcases hu with rfl|rfl|rfl|rfl|rfl|rfl<;>rfl
theorem pB(v:Value)(l:List dF)(xs xq xt xa xb xc xd:Int)(w:World)(hv:rA p w v l)(hx:dF.wf ⟨⟨xs,xq⟩,xt,⟨xa,xb,xc,xd⟩⟩)(hn:l.length<=1000) :
  Calls prog 79 #[v,.agg #[B D xs,B D xq,B D xt,B D xa,B D xb,B D xc,B D xd]] w fun e w'=>∃vo:Value,e=.returned vo/\ah w.heap.size 67 7 (cU w) w' vo (jV bU ⟨⟨xs,xq⟩,xt,⟨xa,xb,xc,xd⟩⟩ l)/\ab w w':=by
 obtain⟨A,n,c,rfl,hnc,hcc,hnn,HL⟩:=hv.open_;obtain⟨iC,hiC,hC0,hC1,hC2⟩:=info_parts Tryz.infoSst;have HX:Bx (dF.wf ⟨⟨xs,xq⟩,xt,⟨xa,xb,xc,xd⟩⟩):=⟨hx⟩
 have hn3:n<=1000:=by have:=HL.out;omega
 have HV:Bx (rA p w (E A n c) l):=⟨hv⟩
 have HW:Bx (bj p 7 (fun _=>cU w) w (E A n c) l):=⟨hv⟩
 have HF:Bx (aA w (w.alloc (.cells #[B D xs,B D xq,B D xt,B D xa,B D xb,B D xc,B D xd] 67)) [(w.heap.size,#[B D xs,B D xq,B D xt,B D xa,B D xb,B D xc,B D xd],67)]):=⟨(aA.start w).push _ _ rfl⟩
 clear hv hn hx;go_enter func79,ntmps79
 go_upto_region 1 with (fail)
 obtain⟨w1,hw1⟩:=nm ((w.alloc (.cells #[B D xs,B D xq,B D xt,B D xa,B D xb,B D xc,B D xd] 67)):World);rw[<-hw1]at HF;rw[<-hw1];clear hw1;go_wp2_with fail;go_loopw [5] (fun s5 wr=>∃k:Nat,s5=B D k/\k<=n/\Bx (aA w wr [(w.heap.size,#[B D xs,B D xq,B D xt,B D xa,B D xb,B D xc,B D xd],67)]/\∀(j:Nat) y,j<k->l[j]?=some y->bU y ⟨⟨xs,xq⟩,xt,⟨xa,xb,xc,xd⟩⟩=true)) (fun k _=>n-(intOf k).toNat)
 case atStart=>exact⟨0,rfl,by omega,⟨⟨HF.out,fun j y hj=>by omega⟩⟩⟩
 case round =>
  obtain⟨k,rfl,hk,HR⟩:=hrel;have HFd:Bx (aA w wr.drew [(w.heap.size,#[B D xs,B D xq,B D xt,B D xa,B D xb,B D xc,B D xd],67)]):=⟨HR.out.1.drew⟩
  have HA:Bx (∀(j:Nat) y,j<k->l[j]?=some y->bU y ⟨⟨xs,xq⟩,xt,⟨xa,xb,xc,xd⟩⟩=true):=⟨HR.out.2⟩
  clear HR;by_cases hkn:k<n
  ·obtain⟨b,off,_,_,rfl,-⟩:=HV.out.at_ hkn;obtain⟨cs,⟨⟨ys,yq⟩,yt,⟨ya,yb,yc,yd⟩⟩,-,hc0,⟨hcs,-⟩,HY⟩:=(HV.out.ext (cU.stab p) HFd.out.xt).cell_ hkn;have y0:=hc0 0 (B D ys) (by rw[hcs];rfl);have y1:=hc0 1 (B D yq) (by rw[hcs];rfl);rw[yQ]at y0;have kS:wr.drew.cell? ⟨b,off+k*7,none⟩=some (B D ys)/\wr.drew.cell? ⟨b,off+k*7+1,none⟩=some (B D yq)/\wr.drew.cell? ⟨w.heap.size,0,none⟩=some (B D xs)/\wr.drew.cell? ⟨w.heap.size,1,none⟩=some (B D xq):=⟨y0,y1,(HFd.out.at_ 0 rfl).c 0 rfl,(HFd.out.at_ 0 rfl).c 1 rfl⟩
   clear hc0 hcs y0 y1;go_upto_region 2 with (fail)
   refine zR 99 (fun w'=>w'.cell? ⟨b,off+k*7,none⟩=some (B D ys)/\w'.cell? ⟨b,off+k*7+1,none⟩=some (B D yq)/\w'.cell? ⟨w.heap.size,0,none⟩=some (B D xs)/\w'.cell? ⟨w.heap.size,1,none⟩=some (B D xq)) ?_;refine zS 12 [(0,7),(1,8),(2,9),(3,10),(4,11),(5,12),(6,13),(7,14),(8,15),(9,16),(10,17),(11,18)] kS ?_;iterate 12 refine zT ?_
   refine zN (zO 12 (fun K hK=>?_));go_simp;refine (Bv ys yq xs xq _).mono ?_;rintro e w3 ⟨rfl,hx3⟩;have HF3:=bx (HFd.out.ext hx3);have kS2:w3.cell? ⟨b,off+k*7,none⟩=some (B D ys)/\w3.cell? ⟨b,off+k*7+1,none⟩=some (B D yq)/\w3.cell? ⟨w.heap.size,0,none⟩=some (B D xs)/\w3.cell? ⟨w.heap.size,1,none⟩=some (B D xq):=⟨hx3.cell kS.1,hx3.cell kS.2.1,hx3.cell kS.2.2.1,hx3.cell kS.2.2.2⟩
   clear hx3 kS HFd;cases hlt:et ⟨ys,yq⟩ ⟨xs,xq⟩ with
   |true =>
    replace hlt:=zZ hlt;refine hK.out _ _ (fun _=>(kS2)) ?_;clear hK K;try simp only[kA]
    refine zS 1 [(13,20)] kS2 ?_;refine zT ?_;refine zN (zD ?_);clear kS2;go_wp2_with fail;go_roundw
    case rel=>exact⟨k+1,by go_num,by omega,⟨⟨HF3.out,fun j y hj hy=>by rcases zU j k with h|h;exact HA.out j y h hy;obtain rfl:j=k:=(by omega);rw[HY.out]at hy;injection hy with hy;subst hy;exact hlt.out⟩⟩⟩
    case measure=>simp[intOf];omega
   |false =>
    replace hlt:=zZ hlt;refine hK.out _ _ (fun _=>(kS2)) ?_;clear hK K;try simp only[kA]
    refine zS 1 [(13,20)] kS2 ?_;refine zT ?_;refine zN (zD ?_);clear kS2;obtain⟨Az,hAz⟩:=nm (some ⟨b,off,none⟩:Option Addr);rw[<-hAz]at HV HW;rw[<-hAz];clear hAz;have HB:Bx (∀y,l[k]?=some y->bU y (⟨⟨xs,xq⟩,xt,⟨xa,xb,xc,xd⟩⟩:dF)=false):=⟨fun y hy=>by rw[HY.out]at hy;injection hy with hy;subst hy;exact hlt.out⟩
    have HI9:=zZ (qa HA.out HB.out (by have:=HL.out;omega));have HT:=zZ ((HW.out.ext (fun _ _ _ _ h _=>h) HF3.out.xt).take hk);go_wp2_with (first
     |(at_builtin;(refine dI _ rfl (.tmp 23) (.tmp 26) 56 rfl w.heap.size 67 iC _ 7 56 underlying56 hiC hC0 hC1 hC2 rfl (by omega) (cU w) (qj w) (E none 0 0) [] rfl ah.nil p _ k c (l.take k) rfl HT.out (by simp;omega) (by omega) (HF3.out.xt.size) ?_;intro v4 w4 hown4 hg4;have HO4:Bx (ah w.heap.size 67 7 (cU w) w4 v4 (l.take k)):=⟨hown4⟩;have HF4:=zZ (HF3.out.grown hg4 (by simp[Value.ownBlock]) (by simp[Value.ownBlock]));clear hown4 hg4;have z0:=(HF4.out.at_ 0 rfl).c 0 rfl;have z1:=(HF4.out.at_ 0 rfl).c 1 rfl;have z2:=(HF4.out.at_ 0 rfl).c 2 rfl;have z3:=(HF4.out.at_ 0 rfl).c 3 rfl;have z4:=(HF4.out.at_ 0 rfl).c 4 rfl;have z5:=(HF4.out.at_ 0 rfl).c 5 rfl;have z6:=(HF4.out.at_ 0 rfl).c 6 rfl))
     |(at_builtin;(refine dq _ rfl (.tmp 28) (.tmp 30) 56 rfl w.heap.size 67 iC _ 7 56 underlying56 hiC hC0 hC1 hC2 rfl (by omega) (cU w) v4 (l.take k) rfl (HO4.out.ext ((zE _).alloc _)) _ #[B D xs,B D xq,B D xt,B D xa,B D xb,B D xc,B D xd] _ (⟨⟨xs,xq⟩,xt,⟨xa,xb,xc,xd⟩⟩:dF) rfl (heap_alloc_new _ _) rfl (by simp[Value.oneCell']) ⟨rfl,HX.out⟩ (by rw[yW];omega) (by omega) (by have:=HF4.out.xt.size;simp;omega) ?_;intro v5 w5 hown5 hg5;have HO5:Bx (ah w.heap.size 67 7 (cU w) w5 v5 (l.take k++[(⟨⟨xs,xq⟩,xt,⟨xa,xb,xc,xd⟩⟩:dF)])):=⟨hown5⟩;have HE5:Bx (ab w w5):=⟨(HF4.out.xt.alloc _).grown hg5 HO4.out.ge⟩;have HD:=zZ (JO (HW.out.ext (fun _ _ _ _ h _=>h) HE5.out) hk (by omega));clear hown5 hg5))
     |(at_builtin;go_loud (refine dI _ rfl (.tmp 32) (.tmp 35) 56 rfl w.heap.size 67 iC _ 7 56 underlying56 hiC hC0 hC1 hC2 rfl (by omega) (cU w) (qj w) v5 _ rfl HO5.out p _ (n-k) (c-k) (l.drop k) rfl HD.out (by simp[yW];omega) (by omega) (HE5.out.size) ?_;intro v6 w6 hown6 hg6;have HO6:Bx (ah w.heap.size 67 7 (cU w) w6 v6 (l.take k++[(⟨⟨xs,xq⟩,xt,⟨xa,xb,xc,xd⟩⟩:dF)]++l.drop k)):=⟨hown6⟩;have HE6:Bx (ab w w6):=⟨HE5.out.grown hg6 HO5.out.ge⟩;clear hown6 hg6)))
    all_goals (go_ret;exact⟨v6,rfl,HI9.out▸HO6.out,HE6.out⟩)
  ·obtain rfl:k=n:=by omega
   have kS:True:=trivial;go_upto_region 2 with (fail)
   refine zR 99 (fun _=>True) ?_;refine zS 5 [(0,7),(1,8),(2,9),(3,10),(4,11)] kS ?_;iterate 5 refine zT ?_
   refine zN (zS 8 [(5,12),(6,13),(7,14),(8,15),(9,16),(10,17),(11,18),(12,19)] kS ?_);iterate 8 (apply zK;exact⟨rfl,rfl⟩;simp only[kA];exact rfl)
   refine zN (zS 1 [(13,20)] kS ?_);refine zT ?_;refine zN (zD ?_);clear kS;have HB:Bx (∀y,l[k]?=some y->bU y (⟨⟨xs,xq⟩,xt,⟨xa,xb,xc,xd⟩⟩:dF)=false):=⟨fun y hy=>by have:=(zY.1 hy).1;have:=HL.out;omega⟩
   have HI9:=zZ (qa HA.out HB.out (by have:=HL.out;omega));have HT:=zZ ((HW.out.ext (fun _ _ _ _ h _=>h) HFd.out.xt).take hk);go_wp2_with (first
    |(at_builtin;(refine dI _ rfl (.tmp 23) (.tmp 26) 56 rfl w.heap.size 67 iC _ 7 56 underlying56 hiC hC0 hC1 hC2 rfl (by omega) (cU w) (qj w) (E none 0 0) [] rfl ah.nil p _ k c (l.take k) rfl HT.out (by simp;omega) (by omega) (HFd.out.xt.size) ?_;intro v4 w4 hown4 hg4;have HO4:Bx (ah w.heap.size 67 7 (cU w) w4 v4 (l.take k)):=⟨hown4⟩;have HF4:=zZ (HFd.out.grown hg4 (by simp[Value.ownBlock]) (by simp[Value.ownBlock]));clear hown4 hg4;have z0:=(HF4.out.at_ 0 rfl).c 0 rfl;have z1:=(HF4.out.at_ 0 rfl).c 1 rfl;have z2:=(HF4.out.at_ 0 rfl).c 2 rfl;have z3:=(HF4.out.at_ 0 rfl).c 3 rfl;have z4:=(HF4.out.at_ 0 rfl).c 4 rfl;have z5:=(HF4.out.at_ 0 rfl).c 5 rfl;have z6:=(HF4.out.at_ 0 rfl).c 6 rfl))
    |(at_builtin;(refine dq _ rfl (.tmp 28) (.tmp 30) 56 rfl w.heap.size 67 iC _ 7 56 underlying56 hiC hC0 hC1 hC2 rfl (by omega) (cU w) v4 (l.take k) rfl (HO4.out.ext ((zE _).alloc _)) _ #[B D xs,B D xq,B D xt,B D xa,B D xb,B D xc,B D xd] _ (⟨⟨xs,xq⟩,xt,⟨xa,xb,xc,xd⟩⟩:dF) rfl (heap_alloc_new _ _) rfl (by simp[Value.oneCell']) ⟨rfl,HX.out⟩ (by rw[yW];omega) (by omega) (by have:=HF4.out.xt.size;simp;omega) ?_;intro v5 w5 hown5 hg5;have HO5:Bx (ah w.heap.size 67 7 (cU w) w5 v5 (l.take k++[(⟨⟨xs,xq⟩,xt,⟨xa,xb,xc,xd⟩⟩:dF)])):=⟨hown5⟩;have HE5:Bx (ab w w5):=⟨(HF4.out.xt.alloc _).grown hg5 HO4.out.ge⟩;have HD:=zZ (J5 (HW.out.ext (fun _ _ _ _ h _=>h) HE5.out));clear hown5 hg5))
    |(at_builtin;go_loud (refine dI _ rfl (.tmp 32) (.tmp 35) 56 rfl w.heap.size 67 iC _ 7 56 underlying56 hiC hC0 hC1 hC2 rfl (by omega) (cU w) (qj w) v5 _ rfl HO5.out p _ 0 (c-k) (l.drop k) rfl HD.out (by simp[yW];omega) (by omega) (HE5.out.size) ?_;intro v6 w6 hown6 hg6;have HO6:Bx (ah w.heap.size 67 7 (cU w) w6 v6 (l.take k++[(⟨⟨xs,xq⟩,xt,⟨xa,xb,xc,xd⟩⟩:dF)]++l.drop k)):=⟨hown6⟩;have HE6:Bx (ab w w6):=⟨HE5.out.grown hg6 HO5.out.ge⟩;clear hown6 hg6)))
   all_goals (go_ret;exact⟨v6,rfl,HI9.out▸HO6.out,HE6.out⟩)
theorem bj.map_{α:Type}{R:List Value->α->Prop}{R':World->List Value->α->Prop}{xs:List α}(h:bj p size (fun _=>R) w v xs)(hR:∀cs x,R cs x->R' w cs x):bj p size R' w v xs:=by obtain⟨A,c,hv,h1,h2,h4⟩:=h;refine⟨A,c,hv,h1,h2,fun k x hx=>?_⟩;obtain⟨b,off,cs,a1,a2,a3,a4,a5⟩:=h4 k x hx;exact⟨b,off,cs,a1,a2,a3,a4,hR _ _ a5⟩
theorem ru(R:List Value->Pg->Prop)(v:Value)(l:List Pg)(xc xg xt xs xq:Int)(Ax:Option Addr)(nx cx:Nat)(ch:List Int)(w:World)(hR:∀cs x,R cs x->lO p w cs x)(hv:bj p 6 (fun _=>R) w v l)(hx:R [B D xc,B D xg,B D xt,E Ax nx cx,B D xs,B D xq] ⟨xc,xg,xt,ch,⟨xs,xq⟩⟩)(hn:l.length<=1000) :
  Calls prog 80 #[v,.agg #[B D xc,B D xg,B D xt,E Ax nx cx,B D xs,B D xq]] w fun e w'=>∃vo:Value,e=.returned vo/\ah w.heap.size 72 6 R w' vo (jV dW ⟨xc,xg,xt,ch,⟨xs,xq⟩⟩ l)/\ab w w':=by
 have hv0:Ce p w v l:=hv.map_ hR;obtain⟨A,n,c,rfl,hnc,hcc,hnn,HL⟩:=hv.open_;obtain⟨iC,hiC,hC0,hC1,hC2⟩:=info_parts Tryz.infoPg;have HX:Bx (R [B D xc,B D xg,B D xt,E Ax nx cx,B D xs,B D xq] ⟨xc,xg,xt,ch,⟨xs,xq⟩⟩):=⟨hx⟩
 have hn3:n<=1000:=by have:=HL.out;omega
 have HV:Bx (Ce p w (E A n c) l):=⟨hv0⟩
 have HW:Bx (bj p 6 (fun _=>R) w (E A n c) l):=⟨hv⟩
 have HF:Bx (aA w (w.alloc (.cells #[B D xc,B D xg,B D xt,E Ax nx cx,B D xs,B D xq] 72)) [(w.heap.size,#[B D xc,B D xg,B D xt,E Ax nx cx,B D xs,B D xq],72)]):=⟨(aA.start w).push _ _ rfl⟩
 clear hv hv0 hn hx;go_enter func80,ntmps80
 go_upto_region 1 with (fail)
 obtain⟨w1,hw1⟩:=nm ((w.alloc (.cells #[B D xc,B D xg,B D xt,E Ax nx cx,B D xs,B D xq] 72)):World);rw[<-hw1]at HF;rw[<-hw1];clear hw1;go_wp2_with fail;go_loopw [5] (fun s5 wr=>∃k:Nat,s5=B D k/\k<=n/\Bx (aA w wr [(w.heap.size,#[B D xc,B D xg,B D xt,E Ax nx cx,B D xs,B D xq],72)]/\∀(j:Nat) y,j<k->l[j]?=some y->dW y ⟨xc,xg,xt,ch,⟨xs,xq⟩⟩=true)) (fun k _=>n-(intOf k).toNat)
 case atStart=>exact⟨0,rfl,by omega,⟨⟨HF.out,fun j y hj=>by omega⟩⟩⟩
 case round =>
  obtain⟨k,rfl,hk,HR⟩:=hrel;have HFd:Bx (aA w wr.drew [(w.heap.size,#[B D xc,B D xg,B D xt,E Ax nx cx,B D xs,B D xq],72)]):=⟨HR.out.1.drew⟩
  have HA:Bx (∀(j:Nat) y,j<k->l[j]?=some y->dW y ⟨xc,xg,xt,ch,⟨xs,xq⟩⟩=true):=⟨HR.out.2⟩
  clear HR;by_cases hkn:k<n
  ·obtain⟨b,off,_,_,rfl,-⟩:=HV.out.at_ hkn;obtain⟨cs,⟨yc,yg,yt,ych,⟨ys,yq⟩⟩,-,hc0,⟨uy,hcs,⟨Ay,cy,huy,-⟩,-⟩,HY⟩:=(HV.out.ext (lO.stab p) HFd.out.xt).cell_ hkn;subst huy;obtain⟨ny,hny⟩:=nm (ych.length:Nat);rw[show ({cand:=yc,page:=yg,cont:=yt,ch:=ych,scan:=⟨ys,yq⟩}:Pg).ch.length=ny from hny.symm]at hcs;have y0:=hc0 0 (B D yc) (by rw[hcs];rfl);have y1:=hc0 1 (B D yg) (by rw[hcs];rfl);have y2:=hc0 2 (B D yt) (by rw[hcs];rfl);have y3:=hc0 3 (E Ay ny cy) (by rw[hcs];rfl);have y4:=hc0 4 (B D ys) (by rw[hcs];rfl);have y5:=hc0 5 (B D yq) (by rw[hcs];rfl);rw[yQ]at y0;have kS:wr.drew.cell? ⟨b,off+k*6,none⟩=some (B D yc)/\wr.drew.cell? ⟨b,off+k*6+1,none⟩=some (B D yg)/\wr.drew.cell? ⟨b,off+k*6+2,none⟩=some (B D yt)/\wr.drew.cell? ⟨b,off+k*6+3,none⟩=some (E Ay ny cy)/\wr.drew.cell? ⟨b,off+k*6+4,none⟩=some (B D ys)/\wr.drew.cell? ⟨b,off+k*6+5,none⟩=some (B D yq)/\wr.drew.cell? ⟨w.heap.size,0,none⟩=some (B D xc)/\wr.drew.cell? ⟨w.heap.size,1,none⟩=some (B D xg)/\wr.drew.cell? ⟨w.heap.size,2,none⟩=some (B D xt)/\wr.drew.cell? ⟨w.heap.size,3,none⟩=some (E Ax nx cx)/\wr.drew.cell? ⟨w.heap.size,4,none⟩=some (B D xs)/\wr.drew.cell? ⟨w.heap.size,5,none⟩=some (B D xq):=⟨y0,y1,y2,y3,y4,y5,(HFd.out.at_ 0 rfl).c 0 rfl,(HFd.out.at_ 0 rfl).c 1 rfl,(HFd.out.at_ 0 rfl).c 2 rfl,(HFd.out.at_ 0 rfl).c 3 rfl,(HFd.out.at_ 0 rfl).c 4 rfl,(HFd.out.at_ 0 rfl).c 5 rfl⟩
   clear hc0 hcs hny y0 y1 y2 y3 y4 y5;go_upto_region 2 with (fail)
   refine zR 99 (fun w'=>w'.cell? ⟨b,off+k*6,none⟩=some (B D yc)/\w'.cell? ⟨b,off+k*6+1,none⟩=some (B D yg)/\w'.cell? ⟨b,off+k*6+2,none⟩=some (B D yt)/\w'.cell? ⟨b,off+k*6+3,none⟩=some (E Ay ny cy)/\w'.cell? ⟨b,off+k*6+4,none⟩=some (B D ys)/\w'.cell? ⟨b,off+k*6+5,none⟩=some (B D yq)/\w'.cell? ⟨w.heap.size,0,none⟩=some (B D xc)/\w'.cell? ⟨w.heap.size,1,none⟩=some (B D xg)/\w'.cell? ⟨w.heap.size,2,none⟩=some (B D xt)/\w'.cell? ⟨w.heap.size,3,none⟩=some (E Ax nx cx)/\w'.cell? ⟨w.heap.size,4,none⟩=some (B D xs)/\w'.cell? ⟨w.heap.size,5,none⟩=some (B D xq)) ?_;refine zS 10 [(0,7),(1,8),(2,9),(3,10),(4,11),(5,12),(6,13),(7,14),(8,15),(9,16)] kS ?_;iterate 10 refine zT ?_
   refine zN (zO 10 (fun K hK=>?_));go_simp;refine (um yc yg yt ys yq xc xg xt xs xq Ay Ax ny cy nx cx _).mono ?_;rintro e w3 ⟨rfl,hx3⟩;have HF3:=bx (HFd.out.ext hx3);have kS2:w3.cell? ⟨b,off+k*6,none⟩=some (B D yc)/\w3.cell? ⟨b,off+k*6+1,none⟩=some (B D yg)/\w3.cell? ⟨b,off+k*6+2,none⟩=some (B D yt)/\w3.cell? ⟨b,off+k*6+3,none⟩=some (E Ay ny cy)/\w3.cell? ⟨b,off+k*6+4,none⟩=some (B D ys)/\w3.cell? ⟨b,off+k*6+5,none⟩=some (B D yq)/\w3.cell? ⟨w.heap.size,0,none⟩=some (B D xc)/\w3.cell? ⟨w.heap.size,1,none⟩=some (B D xg)/\w3.cell? ⟨w.heap.size,2,none⟩=some (B D xt)/\w3.cell? ⟨w.heap.size,3,none⟩=some (E Ax nx cx)/\w3.cell? ⟨w.heap.size,4,none⟩=some (B D xs)/\w3.cell? ⟨w.heap.size,5,none⟩=some (B D xq):=⟨hx3.cell kS.1,hx3.cell kS.2.1,hx3.cell kS.2.2.1,hx3.cell kS.2.2.2.1,hx3.cell kS.2.2.2.2.1,hx3.cell kS.2.2.2.2.2.1,hx3.cell kS.2.2.2.2.2.2.1,hx3.cell kS.2.2.2.2.2.2.2.1,hx3.cell kS.2.2.2.2.2.2.2.2.1,hx3.cell kS.2.2.2.2.2.2.2.2.2.1,hx3.cell kS.2.2.2.2.2.2.2.2.2.2.1,hx3.cell kS.2.2.2.2.2.2.2.2.2.2.2⟩
   clear hx3 kS HFd;cases hlt:decide (yc<xc\/(yc=xc/\yg<xg)) with
   |true =>
    replace hlt:=zZ hlt;refine hK.out _ _ (fun _=>(kS2)) ?_;clear hK K;try simp only[kA]
    refine zS 1 [(11,18)] kS2 ?_;refine zT ?_;refine zN (zD ?_);clear kS2;go_wp2_with fail;go_roundw
    case rel=>exact⟨k+1,by go_num,by omega,⟨⟨HF3.out,fun j y hj hy=>by rcases zU j k with h|h;exact HA.out j y h hy;obtain rfl:j=k:=(by omega);rw[HY.out]at hy;injection hy with hy;subst hy;exact hlt.out⟩⟩⟩
    case measure=>simp[intOf];omega
   |false =>
    replace hlt:=zZ hlt;refine hK.out _ _ (fun _=>(kS2)) ?_;clear hK K;try simp only[kA]
    refine zS 1 [(11,18)] kS2 ?_;refine zT ?_;refine zN (zD ?_);clear kS2;obtain⟨Az,hAz⟩:=nm (some ⟨b,off,none⟩:Option Addr);rw[<-hAz]at HV HW;rw[<-hAz];clear hAz;have HB:Bx (∀y,l[k]?=some y->dW y (⟨xc,xg,xt,ch,⟨xs,xq⟩⟩:Pg)=false):=⟨fun y hy=>by rw[HY.out]at hy;injection hy with hy;subst hy;exact hlt.out⟩
    have HI9:=zZ (qa HA.out HB.out (by have:=HL.out;omega));have HT:=zZ ((HW.out.ext (fun _ _ _ _ h _=>h) HF3.out.xt).take hk);go_wp2_with (first
     |(at_builtin;(refine dI _ rfl (.tmp 21) (.tmp 24) 57 rfl w.heap.size 72 iC _ 6 64 underlying57 hiC hC0 hC1 hC2 rfl (by omega) R (fun cs x h=>vh p w cs x (hR cs x h)) (E none 0 0) [] rfl ah.nil p _ k c (l.take k) rfl HT.out (by simp;omega) (by omega) (HF3.out.xt.size) ?_;intro v4 w4 hown4 hg4;have HO4:Bx (ah w.heap.size 72 6 R w4 v4 (l.take k)):=⟨hown4⟩;have HF4:=zZ (HF3.out.grown hg4 (by simp[Value.ownBlock]) (by simp[Value.ownBlock]));clear hown4 hg4;have z0:=(HF4.out.at_ 0 rfl).c 0 rfl;have z1:=(HF4.out.at_ 0 rfl).c 1 rfl;have z2:=(HF4.out.at_ 0 rfl).c 2 rfl;have z3:=(HF4.out.at_ 0 rfl).c 3 rfl;have z4:=(HF4.out.at_ 0 rfl).c 4 rfl;have z5:=(HF4.out.at_ 0 rfl).c 5 rfl))
     |(at_builtin;(refine dq _ rfl (.tmp 26) (.tmp 28) 57 rfl w.heap.size 72 iC _ 6 64 underlying57 hiC hC0 hC1 hC2 rfl (by omega) R v4 (l.take k) rfl (HO4.out.ext ((zE _).alloc _)) _ #[B D xc,B D xg,B D xt,E Ax nx cx,B D xs,B D xq] _ (⟨xc,xg,xt,ch,⟨xs,xq⟩⟩:Pg) rfl (heap_alloc_new _ _) rfl (by simp[Value.oneCell']) HX.out (by rw[yW];omega) (by omega) (by have:=HF4.out.xt.size;simp;omega) ?_;intro v5 w5 hown5 hg5;have HO5:Bx (ah w.heap.size 72 6 R w5 v5 (l.take k++[(⟨xc,xg,xt,ch,⟨xs,xq⟩⟩:Pg)])):=⟨hown5⟩;have HE5:Bx (ab w w5):=⟨(HF4.out.xt.alloc _).grown hg5 HO4.out.ge⟩;have HD:=zZ (JO (HW.out.ext (fun _ _ _ _ h _=>h) HE5.out) hk (by omega));clear hown5 hg5))
     |(at_builtin;go_loud (refine dI _ rfl (.tmp 30) (.tmp 33) 57 rfl w.heap.size 72 iC _ 6 64 underlying57 hiC hC0 hC1 hC2 rfl (by omega) R (fun cs x h=>vh p w cs x (hR cs x h)) v5 _ rfl HO5.out p _ (n-k) (c-k) (l.drop k) rfl HD.out (by simp[yW];omega) (by omega) (HE5.out.size) ?_;intro v6 w6 hown6 hg6;have HO6:Bx (ah w.heap.size 72 6 R w6 v6 (l.take k++[(⟨xc,xg,xt,ch,⟨xs,xq⟩⟩:Pg)]++l.drop k)):=⟨hown6⟩;have HE6:Bx (ab w w6):=⟨HE5.out.grown hg6 HO5.out.ge⟩;clear hown6 hg6)))
    all_goals (go_ret;exact⟨v6,rfl,HI9.out▸HO6.out,HE6.out⟩)
  ·obtain rfl:k=n:=by omega
   have kS:True:=trivial;go_upto_region 2 with (fail)
   refine zR 99 (fun _=>True) ?_;refine zS 5 [(0,7),(1,8),(2,9),(3,10),(4,11)] kS ?_;iterate 5 refine zT ?_
   refine zN (zS 6 [(5,12),(6,13),(7,14),(8,15),(9,16),(10,17)] kS ?_);iterate 6 (apply zK;exact⟨rfl,rfl⟩;simp only[kA];exact rfl)
   refine zN (zS 1 [(11,18)] kS ?_);refine zT ?_;refine zN (zD ?_);clear kS;have HB:Bx (∀y,l[k]?=some y->dW y (⟨xc,xg,xt,ch,⟨xs,xq⟩⟩:Pg)=false):=⟨fun y hy=>by have:=(zY.1 hy).1;have:=HL.out;omega⟩
   have HI9:=zZ (qa HA.out HB.out (by have:=HL.out;omega));have HT:=zZ ((HW.out.ext (fun _ _ _ _ h _=>h) HFd.out.xt).take hk);go_wp2_with (first
    |(at_builtin;(refine dI _ rfl (.tmp 21) (.tmp 24) 57 rfl w.heap.size 72 iC _ 6 64 underlying57 hiC hC0 hC1 hC2 rfl (by omega) R (fun cs x h=>vh p w cs x (hR cs x h)) (E none 0 0) [] rfl ah.nil p _ k c (l.take k) rfl HT.out (by simp;omega) (by omega) (HFd.out.xt.size) ?_;intro v4 w4 hown4 hg4;have HO4:Bx (ah w.heap.size 72 6 R w4 v4 (l.take k)):=⟨hown4⟩;have HF4:=zZ (HFd.out.grown hg4 (by simp[Value.ownBlock]) (by simp[Value.ownBlock]));clear hown4 hg4;have z0:=(HF4.out.at_ 0 rfl).c 0 rfl;have z1:=(HF4.out.at_ 0 rfl).c 1 rfl;have z2:=(HF4.out.at_ 0 rfl).c 2 rfl;have z3:=(HF4.out.at_ 0 rfl).c 3 rfl;have z4:=(HF4.out.at_ 0 rfl).c 4 rfl;have z5:=(HF4.out.at_ 0 rfl).c 5 rfl))
    |(at_builtin;(refine dq _ rfl (.tmp 26) (.tmp 28) 57 rfl w.heap.size 72 iC _ 6 64 underlying57 hiC hC0 hC1 hC2 rfl (by omega) R v4 (l.take k) rfl (HO4.out.ext ((zE _).alloc _)) _ #[B D xc,B D xg,B D xt,E Ax nx cx,B D xs,B D xq] _ (⟨xc,xg,xt,ch,⟨xs,xq⟩⟩:Pg) rfl (heap_alloc_new _ _) rfl (by simp[Value.oneCell']) HX.out (by rw[yW];omega) (by omega) (by have:=HF4.out.xt.size;simp;omega) ?_;intro v5 w5 hown5 hg5;have HO5:Bx (ah w.heap.size 72 6 R w5 v5 (l.take k++[(⟨xc,xg,xt,ch,⟨xs,xq⟩⟩:Pg)])):=⟨hown5⟩;have HE5:Bx (ab w w5):=⟨(HF4.out.xt.alloc _).grown hg5 HO4.out.ge⟩;have HD:=zZ (J5 (HW.out.ext (fun _ _ _ _ h _=>h) HE5.out));clear hown5 hg5))
    |(at_builtin;go_loud (refine dI _ rfl (.tmp 30) (.tmp 33) 57 rfl w.heap.size 72 iC _ 6 64 underlying57 hiC hC0 hC1 hC2 rfl (by omega) R (fun cs x h=>vh p w cs x (hR cs x h)) v5 _ rfl HO5.out p _ 0 (c-k) (l.drop k) rfl HD.out (by simp[yW];omega) (by omega) (HE5.out.size) ?_;intro v6 w6 hown6 hg6;have HO6:Bx (ah w.heap.size 72 6 R w6 v6 (l.take k++[(⟨xc,xg,xt,ch,⟨xs,xq⟩⟩:Pg)]++l.drop k)):=⟨hown6⟩;have HE6:Bx (ab w w6):=⟨HE5.out.grown hg6 HO5.out.ge⟩;clear hown6 hg6)))
   all_goals (go_ret;exact⟨v6,rfl,HI9.out▸HO6.out,HE6.out⟩)
theorem pM:aU 0:=by decide
theorem IX:aU 1:=by decide
theorem Jb:gT.wf ⟨0,0⟩:=⟨pM,pM⟩
theorem lab0:cJ.wf ⟨0,0,0,0⟩:=⟨pM,pM,pM,pM⟩
theorem mv{t s q:Int}(h1:0<=t/\t<=30)(h2:0<=s/\s<=3)(h3:0<=q/\q<=10000):JF ⟨t,s,q⟩ :=
 ⟨⟨by constructor<;>(simp only;omega),by constructor<;>(simp only;omega),by constructor<;>(simp only;omega)⟩,by simp only;omega,by simp only;omega,by simp only;omega⟩
theorem dP(p:Nat)(v:Value)(s:dl)(most:Nat)(w:World)(h:bz w p)(hs:aR p w v s)(hw:ma s)(hm:most<=12) :
  Calls prog 21 #[.pointer (some ⟨p,0,none⟩),v,B D (most:Int)] w (iN p w fun v w'=>∃ys,ar w.heap.size w' v ys/\ys.length<=2*most):=by
 have HS0:Bx (aR p w v s/\ma s):=⟨⟨hs,hw⟩⟩
 obtain⟨iC,hiC,hc0,hc1,hc2⟩:=info_parts Tryz.infoCap;obtain⟨vP,vB,vX,rfl,hP,hB,hX,hnum⟩:=hs;obtain⟨AP,nP,cP,rfl,-⟩:=hP.open_;obtain⟨AB,nB,cB,rfl,-⟩:=hB.open_;obtain⟨AX,nX,cX,rfl,-⟩:=hX.open_;have hlt:=h.lt;obtain⟨w1,hw1⟩:=nm ((w.alloc (.cells #[B D s.num,E AP nP cP,E AB nB cB,E AX nX cX] 27)):World);have HF:Bx (Fr p w w1 [(w.heap.size,#[B D s.num,E AP nP cP,E AB nB cB,E AX nX cX],27)]):=⟨by rw[hw1];exact (Fr.start h).push _ _ rfl⟩
 clear hP hB hX hnum hw h;go_enter func21,ntmps21
 go_upto_region 2 with (fail)
 rw[<-hw1];clear hw1;go_wp2_with fail;refine (az p 0 most _ HF.out.tp (by omega) (by omega) (by omega) (by omega)).mono ?_;rintro e w2 ⟨v2,rfl,⟨r,rfl,hr1,hr2⟩,HT2,HX2⟩;have HF2:=bx (HF.out.step HX2 HT2);clear HF HT2 HX2;go_wp2_with fail;go_loopw [7,8] (fun s7 s8 wr=>∃(k no:Nat) (ys:List (aj×Value)) (Ao:Option Addr) (co:Nat),s7=E Ao no co/\s8=B D k/\ys.length<=no/\no<=ys.length/\no+2*k<=2*most/\Bx (ar w.heap.size wr (E Ao no co) ys/\Fr p w wr [(w.heap.size,#[B D s.num,E AP nP cP,E AB nB cB,E AX nX cX],27)])) (fun _ i _=>(intOf i).toNat)
 case atStart=>exact⟨r.toNat,0,[],none,0,rfl,by congr;omega,by simp,by simp,by omega,⟨⟨ar.nil _ _,HF2.out⟩⟩⟩
 case round =>
  obtain⟨k,no,ys,Ao,co,rfl,rfl,hy1,hy2,hk,HR⟩:=hrel;clear HF2;by_cases hk0:0<k
  ·go_upto_region 6 with (fail)
   go_cut [10] (fun s10 wx=>∃(g:Nat) (c:aj) (A:Option Addr) (cc:Nat),s10=.pointer (some ⟨g,0,none⟩)/\Bx (fw p w wx (w.heap.size,#[B D s.num,E AP nP cP,E AB nB cB,E AX nX cX],27) g (E Ao no co) ys c A cc))
   case first =>
    have HR6:Bx (Fr p w wr [(w.heap.size,#[B D s.num,E AP nP cP,E AB nB cB,E AX nX cX],27)]):=⟨HR.out.2⟩
    have HO6:Bx (ar w.heap.size wr (E Ao no co) ys):=⟨HR.out.1⟩
    refine zR 8 (fun w'=>w'.cell? ⟨w.heap.size,0,none⟩=some (B D s.num)/\w'.cell? ⟨w.heap.size,1,none⟩=some (E AP nP cP)/\w'.cell? ⟨w.heap.size,2,none⟩=some (E AB nB cB)/\w'.cell? ⟨w.heap.size,3,none⟩=some (E AX nX cX)) ?_;obtain⟨wd,hwd⟩:=nm (wr.drew:World);have hxd:ab wr wd:=by rw[hwd];exact (zE _).drew
    have HF0:=bx (HR6.out.ext hxd);have HO0:=bx (HO6.out.ext hxd);rw[<-hwd];clear hwd hxd;have kS0:wd.cell? ⟨w.heap.size,0,none⟩=some (B D s.num)/\wd.cell? ⟨w.heap.size,1,none⟩=some (E AP nP cP)/\wd.cell? ⟨w.heap.size,2,none⟩=some (E AB nB cB)/\wd.cell? ⟨w.heap.size,3,none⟩=some (E AX nX cX):=⟨(HF0.out.at_ 0 rfl).c 0 rfl,(HF0.out.at_ 0 rfl).c 1 rfl,(HF0.out.at_ 0 rfl).c 2 rfl,(HF0.out.at_ 0 rfl).c 3 rfl⟩
    refine zS 5 [(0,21),(1,22),(2,23),(3,24),(5,26)] kS0 ?_;iterate 5 refine zT ?_
    refine zN (an 4 7 (by kernel_rfl) rfl rfl (fun K hK=>?_) (fun K hK=>?_))
    ·go_simp;refine (my p _ s _ HF0.out.tp (HS0.out.1.xt HF0.out.xt) HS0.out.2).mono ?_;rintro e wq1 ⟨v1,rfl,⟨l,rfl,hl1⟩,HT1,HX1⟩;have HL:Bx (cJ.wf l):=⟨hl1⟩
     have HF1:=bx (HF0.out.step HX1 HT1);have HO1:=bx (HO0.out.xt HX1 hlt);clear hl1;have kS1:wq1.cell? ⟨w.heap.size,0,none⟩=some (B D s.num)/\wq1.cell? ⟨w.heap.size,1,none⟩=some (E AP nP cP)/\wq1.cell? ⟨w.heap.size,2,none⟩=some (E AB nB cB)/\wq1.cell? ⟨w.heap.size,3,none⟩=some (E AX nX cX):=⟨(HF1.out.at_ 0 rfl).c 0 rfl,(HF1.out.at_ 0 rfl).c 1 rfl,(HF1.out.at_ 0 rfl).c 2 rfl,(HF1.out.at_ 0 rfl).c 3 rfl⟩
     clear HF0 HO0 kS0 HX1 HT1;refine hK.out _ _ (fun _=>(kS1)) ?_;clear hK K;try simp only[kA]
     refine an 6 7 (by kernel_rfl) rfl rfl (fun K hK=>?_) (fun K hK=>?_)
     ·go_simp;refine (nR p _ s l no _ HF1.out.tp (HS0.out.1.xt HF1.out.xt) HL.out ⟨by omega,by omega⟩).mono ?_;rintro e wq2 ⟨v2,rfl,⟨t,s2,ct,b,A,cc,ch,rfl,ht1,ht2,hs1,hs2,hct1,hct2,hb,hch2⟩,HT2,HX2⟩;have hbs2:=HF1.out.xt.size;have HF2:=bx (HF1.out.step HX2 HT2);have HO2:=bx (HO1.out.xt HX2 hlt);have HC2:Bx (fu wq2 w.heap.size (E A ch.length cc) ch):=⟨hch2.base_ hbs2⟩
      clear hch2 hbs2;have kS2:wq2.cell? ⟨w.heap.size,0,none⟩=some (B D s.num)/\wq2.cell? ⟨w.heap.size,1,none⟩=some (E AP nP cP)/\wq2.cell? ⟨w.heap.size,2,none⟩=some (E AB nB cB)/\wq2.cell? ⟨w.heap.size,3,none⟩=some (E AX nX cX):=⟨(HF2.out.at_ 0 rfl).c 0 rfl,(HF2.out.at_ 0 rfl).c 1 rfl,(HF2.out.at_ 0 rfl).c 2 rfl,(HF2.out.at_ 0 rfl).c 3 rfl⟩
      clear HF1 HO1 kS1 HX2 HT2;refine hK.out _ _ (fun _=>(kS2)) ?_;clear hK K;try simp only[kA]
      refine zO 7 (fun K hK=>?_);go_simp;obtain⟨wq3,hwq3⟩:=nm ((wq2.alloc (.cells #[B D 0,B D 0,B D 0,B D 0,.string ⟨#[]⟩,B D 0,E none 0 0,B D 0,B D 0,B D 0,B D 0,B D 0,B D 0] 47)):World);have hx3:ab wq2 wq3:=by rw[hwq3];exact (zE _).alloc _
      obtain⟨gk3,hg3⟩:=nm wq2.heap.size;have HF3:Bx (Fr p w wq3 [(w.heap.size,#[B D s.num,E AP nP cP,E AB nB cB,E AX nX cX],27),(gk3,#[B D 0,B D 0,B D 0,B D 0,.string ⟨#[]⟩,B D 0,E none 0 0,B D 0,B D 0,B D 0,B D 0,B D 0,B D 0],47)]):=⟨by rw[hwq3];exact HF2.out.push _ _ hg3.symm⟩
      have HO3:=bx (HO2.out.ext hx3);have HC3:=bx (HC2.out.ext hx3);have HG3:Bx ((Value.slice Ao no co).ownBlock≠some gk3):=⟨fun e=>by have:=(HO2.out.own.own.lt _ e).2;omega⟩
      rw[<-hwq3,<-hg3];clear hwq3 hg3 hx3;have kS3:wq3.cell? ⟨w.heap.size,0,none⟩=some (B D s.num)/\wq3.cell? ⟨w.heap.size,1,none⟩=some (E AP nP cP)/\wq3.cell? ⟨w.heap.size,2,none⟩=some (E AB nB cB)/\wq3.cell? ⟨w.heap.size,3,none⟩=some (E AX nX cX):=⟨(HF3.out.at_ 0 rfl).c 0 rfl,(HF3.out.at_ 0 rfl).c 1 rfl,(HF3.out.at_ 0 rfl).c 2 rfl,(HF3.out.at_ 0 rfl).c 3 rfl⟩
      clear HF2 HO2 HC2 kS2;refine hK.out _ _ (fun _=>(kS3)) ?_;clear hK K;try simp only[kA]
      refine zO 8 (fun K hK=>?_);obtain⟨z0,z1,z2,z3,z4,z5,z6,z7,z8,z9,z10,z11,z12⟩:=(HF3.out.at_ 1 rfl).p13 rfl;have f0:=(HF3.out.at_ 1 rfl).froz;have f1:=f0;have f2:=f0;have f3:=f0;have f4:=f0;have f5:=f0;have f6:=f0;have f7:=f0;have f8:=f0;have f9:=f0;have f10:=f0;have f11:=f0;have f12:=f0;go_simp;refine hK.out _ _ (fun h=>absurd rfl h) ?_;clear hK K;refine zD ?_;go_wp2_with fail;go_meet
      rw[<-Bl b];have e1:=HF3.out.setAll 1 rfl [B D t,B D s2,B D no,B D 1,.string (ba (bl b)),B D ct,E A ch.length cc,B D 0,B D 0,B D 0,B D 0,B D 0,B D 0] rfl;have e2:=HO3.out.sets (HF3.out.at_ 1 rfl) (by decide) HG3.out 0 [B D t,B D s2,B D no,B D 1,.string (ba (bl b)),B D ct,E A ch.length cc,B D 0,B D 0,B D 0,B D 0,B D 0,B D 0];have e3:=eZ HC3.out (HF3.out.at_ 1 rfl) (by decide) 0 [B D t,B D s2,B D no,B D 1,.string (ba (bl b)),B D ct,E A ch.length cc,B D 0,B D 0,B D 0,B D 0,B D 0,B D 0];have e4:iu ⟨⟨t,s2,no⟩,1,bl b,ct,ch,⟨0,0⟩,⟨0,0,0,0⟩⟩:=⟨mv ⟨by omega,by omega⟩ ⟨by omega,by omega⟩ ⟨by omega,by omega⟩,IX,by show (bl b).length<=1000;rw[aO];exact hb,⟨by simp only;omega,by simp only;omega⟩,Jb,lab0⟩
      exact⟨gk3,⟨⟨t,s2,no⟩,1,bl b,ct,ch,⟨0,0⟩,⟨0,0,0,0⟩⟩,A,cc,rfl,⟨⟨e1,e2,e3,e4,HG3.out⟩⟩⟩
     ·go_simp;obtain⟨wq4,hwq4⟩:=nm ((wq1.alloc (.cells #[B D 0,B D 0,B D 0,B D 0,.string ⟨#[]⟩,B D 0,E none 0 0,B D 0,B D 0,B D 0,B D 0,B D 0,B D 0] 47)):World);have hx4:ab wq1 wq4:=by rw[hwq4];exact (zE _).alloc _
      obtain⟨gk4,hg4⟩:=nm wq1.heap.size;have HF4:Bx (Fr p w wq4 [(w.heap.size,#[B D s.num,E AP nP cP,E AB nB cB,E AX nX cX],27),(gk4,#[B D 0,B D 0,B D 0,B D 0,.string ⟨#[]⟩,B D 0,E none 0 0,B D 0,B D 0,B D 0,B D 0,B D 0,B D 0],47)]):=⟨by rw[hwq4];exact HF1.out.push _ _ hg4.symm⟩
      have HO4:=bx (HO1.out.ext hx4);have HG4:Bx ((Value.slice Ao no co).ownBlock≠some gk4):=⟨fun e=>by have:=(HO1.out.own.own.lt _ e).2;omega⟩
      rw[<-hwq4,<-hg4];clear hwq4 hg4 hx4;have kS4:wq4.cell? ⟨w.heap.size,0,none⟩=some (B D s.num)/\wq4.cell? ⟨w.heap.size,1,none⟩=some (E AP nP cP)/\wq4.cell? ⟨w.heap.size,2,none⟩=some (E AB nB cB)/\wq4.cell? ⟨w.heap.size,3,none⟩=some (E AX nX cX):=⟨(HF4.out.at_ 0 rfl).c 0 rfl,(HF4.out.at_ 0 rfl).c 1 rfl,(HF4.out.at_ 0 rfl).c 2 rfl,(HF4.out.at_ 0 rfl).c 3 rfl⟩
      clear HF1 HO1 kS1;refine hK.out _ _ (fun _=>(kS4)) ?_;clear hK K;try simp only[kA]
      refine zO 6 (fun K hK=>?_);go_simp;refine (nR p _ s l no _ HF4.out.tp (HS0.out.1.xt HF4.out.xt) HL.out ⟨by omega,by omega⟩).mono ?_;rintro e wq5 ⟨v5,rfl,⟨t,s2,ct,b,A,cc,ch,rfl,ht1,ht2,hs1,hs2,hct1,hct2,hb,hch5⟩,HT5,HX5⟩;have hbs5:=HF4.out.xt.size;have HO5:=bx (HO4.out.xt HX5 hlt);have HF5:=bx (HF4.out.step HX5 HT5);have HG5:Bx ((Value.slice Ao no co).ownBlock≠some gk4):=⟨HG4.out⟩
      have HC5:Bx (fu wq5 w.heap.size (E A ch.length cc) ch):=⟨hch5.base_ hbs5⟩
      clear hch5 hbs5;have kS5:wq5.cell? ⟨w.heap.size,0,none⟩=some (B D s.num)/\wq5.cell? ⟨w.heap.size,1,none⟩=some (E AP nP cP)/\wq5.cell? ⟨w.heap.size,2,none⟩=some (E AB nB cB)/\wq5.cell? ⟨w.heap.size,3,none⟩=some (E AX nX cX):=⟨(HF5.out.at_ 0 rfl).c 0 rfl,(HF5.out.at_ 0 rfl).c 1 rfl,(HF5.out.at_ 0 rfl).c 2 rfl,(HF5.out.at_ 0 rfl).c 3 rfl⟩
      clear HO4 HF4 HG4 kS4 HX5 HT5;refine hK.out _ _ (fun _=>(kS5)) ?_;clear hK K;try simp only[kA]
      refine zO 8 (fun K hK=>?_);obtain⟨z0,z1,z2,z3,z4,z5,z6,z7,z8,z9,z10,z11,z12⟩:=(HF5.out.at_ 1 rfl).p13 rfl;have f0:=(HF5.out.at_ 1 rfl).froz;have f1:=f0;have f2:=f0;have f3:=f0;have f4:=f0;have f5:=f0;have f6:=f0;have f7:=f0;have f8:=f0;have f9:=f0;have f10:=f0;have f11:=f0;have f12:=f0;go_simp;refine hK.out _ _ (fun h=>absurd rfl h) ?_;clear hK K;refine zD ?_;go_wp2_with fail;go_meet
      rw[<-Bl b];have e1:=HF5.out.setAll 1 rfl [B D t,B D s2,B D no,B D 1,.string (ba (bl b)),B D ct,E A ch.length cc,B D 0,B D 0,B D 0,B D 0,B D 0,B D 0] rfl;have e2:=HO5.out.sets (HF5.out.at_ 1 rfl) (by decide) HG5.out 0 [B D t,B D s2,B D no,B D 1,.string (ba (bl b)),B D ct,E A ch.length cc,B D 0,B D 0,B D 0,B D 0,B D 0,B D 0];have e3:=eZ HC5.out (HF5.out.at_ 1 rfl) (by decide) 0 [B D t,B D s2,B D no,B D 1,.string (ba (bl b)),B D ct,E A ch.length cc,B D 0,B D 0,B D 0,B D 0,B D 0,B D 0];have e4:iu ⟨⟨t,s2,no⟩,1,bl b,ct,ch,⟨0,0⟩,⟨0,0,0,0⟩⟩:=⟨mv ⟨by omega,by omega⟩ ⟨by omega,by omega⟩ ⟨by omega,by omega⟩,IX,by show (bl b).length<=1000;rw[aO];exact hb,⟨by simp only;omega,by simp only;omega⟩,Jb,lab0⟩
      exact⟨gk4,⟨⟨t,s2,no⟩,1,bl b,ct,ch,⟨0,0⟩,⟨0,0,0,0⟩⟩,A,cc,rfl,⟨⟨e1,e2,e3,e4,HG5.out⟩⟩⟩
    ·go_simp;obtain⟨wq6,hwq6⟩:=nm ((wd.alloc (.cells #[B D 0,B D 0,B D 0,B D 0,.string ⟨#[]⟩,B D 0,E none 0 0,B D 0,B D 0,B D 0,B D 0,B D 0,B D 0] 47)):World);have hx6:ab wd wq6:=by rw[hwq6];exact (zE _).alloc _
     obtain⟨gk6,hg6⟩:=nm wd.heap.size;have HF6:Bx (Fr p w wq6 [(w.heap.size,#[B D s.num,E AP nP cP,E AB nB cB,E AX nX cX],27),(gk6,#[B D 0,B D 0,B D 0,B D 0,.string ⟨#[]⟩,B D 0,E none 0 0,B D 0,B D 0,B D 0,B D 0,B D 0,B D 0],47)]):=⟨by rw[hwq6];exact HF0.out.push _ _ hg6.symm⟩
     have HO6:=bx (HO0.out.ext hx6);have HG6:Bx ((Value.slice Ao no co).ownBlock≠some gk6):=⟨fun e=>by have:=(HO0.out.own.own.lt _ e).2;omega⟩
     rw[<-hwq6,<-hg6];clear hwq6 hg6 hx6;have kS6:wq6.cell? ⟨w.heap.size,0,none⟩=some (B D s.num)/\wq6.cell? ⟨w.heap.size,1,none⟩=some (E AP nP cP)/\wq6.cell? ⟨w.heap.size,2,none⟩=some (E AB nB cB)/\wq6.cell? ⟨w.heap.size,3,none⟩=some (E AX nX cX):=⟨(HF6.out.at_ 0 rfl).c 0 rfl,(HF6.out.at_ 0 rfl).c 1 rfl,(HF6.out.at_ 0 rfl).c 2 rfl,(HF6.out.at_ 0 rfl).c 3 rfl⟩
     clear HF0 HO0 kS0;refine hK.out _ _ (fun _=>(kS6)) ?_;clear hK K;try simp only[kA]
     refine zO 4 (fun K hK=>?_);go_simp;refine (my p _ s _ HF6.out.tp (HS0.out.1.xt HF6.out.xt) HS0.out.2).mono ?_;rintro e wq7 ⟨v7,rfl,⟨l,rfl,hl7⟩,HT7,HX7⟩;have HL:Bx (cJ.wf l):=⟨hl7⟩
     have HO7:=bx (HO6.out.xt HX7 hlt);have HF7:=bx (HF6.out.step HX7 HT7);have HG7:Bx ((Value.slice Ao no co).ownBlock≠some gk6):=⟨HG6.out⟩
     clear hl7;have kS7:wq7.cell? ⟨w.heap.size,0,none⟩=some (B D s.num)/\wq7.cell? ⟨w.heap.size,1,none⟩=some (E AP nP cP)/\wq7.cell? ⟨w.heap.size,2,none⟩=some (E AB nB cB)/\wq7.cell? ⟨w.heap.size,3,none⟩=some (E AX nX cX):=⟨(HF7.out.at_ 0 rfl).c 0 rfl,(HF7.out.at_ 0 rfl).c 1 rfl,(HF7.out.at_ 0 rfl).c 2 rfl,(HF7.out.at_ 0 rfl).c 3 rfl⟩
     clear HO6 HF6 HG6 kS6 HX7 HT7;refine hK.out _ _ (fun _=>(kS7)) ?_;clear hK K;try simp only[kA]
     refine zO 6 (fun K hK=>?_);go_simp;refine (nR p _ s l no _ HF7.out.tp (HS0.out.1.xt HF7.out.xt) HL.out ⟨by omega,by omega⟩).mono ?_;rintro e wq8 ⟨v8,rfl,⟨t,s2,ct,b,A,cc,ch,rfl,ht1,ht2,hs1,hs2,hct1,hct2,hb,hch8⟩,HT8,HX8⟩;have hbs8:=HF7.out.xt.size;have HO8:=bx (HO7.out.xt HX8 hlt);have HF8:=bx (HF7.out.step HX8 HT8);have HG8:Bx ((Value.slice Ao no co).ownBlock≠some gk6):=⟨HG7.out⟩
     have HC8:Bx (fu wq8 w.heap.size (E A ch.length cc) ch):=⟨hch8.base_ hbs8⟩
     clear hch8 hbs8;have kS8:wq8.cell? ⟨w.heap.size,0,none⟩=some (B D s.num)/\wq8.cell? ⟨w.heap.size,1,none⟩=some (E AP nP cP)/\wq8.cell? ⟨w.heap.size,2,none⟩=some (E AB nB cB)/\wq8.cell? ⟨w.heap.size,3,none⟩=some (E AX nX cX):=⟨(HF8.out.at_ 0 rfl).c 0 rfl,(HF8.out.at_ 0 rfl).c 1 rfl,(HF8.out.at_ 0 rfl).c 2 rfl,(HF8.out.at_ 0 rfl).c 3 rfl⟩
     clear HO7 HF7 HG7 kS7 HX8 HT8;refine hK.out _ _ (fun _=>(kS8)) ?_;clear hK K;try simp only[kA]
     refine zO 8 (fun K hK=>?_);obtain⟨z0,z1,z2,z3,z4,z5,z6,z7,z8,z9,z10,z11,z12⟩:=(HF8.out.at_ 1 rfl).p13 rfl;have f0:=(HF8.out.at_ 1 rfl).froz;have f1:=f0;have f2:=f0;have f3:=f0;have f4:=f0;have f5:=f0;have f6:=f0;have f7:=f0;have f8:=f0;have f9:=f0;have f10:=f0;have f11:=f0;have f12:=f0;go_simp;refine hK.out _ _ (fun h=>absurd rfl h) ?_;clear hK K;refine zD ?_;go_wp2_with fail;go_meet
     rw[<-Bl b];have e1:=HF8.out.setAll 1 rfl [B D t,B D s2,B D no,B D 1,.string (ba (bl b)),B D ct,E A ch.length cc,B D 0,B D 0,B D 0,B D 0,B D 0,B D 0] rfl;have e2:=HO8.out.sets (HF8.out.at_ 1 rfl) (by decide) HG8.out 0 [B D t,B D s2,B D no,B D 1,.string (ba (bl b)),B D ct,E A ch.length cc,B D 0,B D 0,B D 0,B D 0,B D 0,B D 0];have e3:=eZ HC8.out (HF8.out.at_ 1 rfl) (by decide) 0 [B D t,B D s2,B D no,B D 1,.string (ba (bl b)),B D ct,E A ch.length cc,B D 0,B D 0,B D 0,B D 0,B D 0,B D 0];have e4:iu ⟨⟨t,s2,no⟩,1,bl b,ct,ch,⟨0,0⟩,⟨0,0,0,0⟩⟩:=⟨mv ⟨by omega,by omega⟩ ⟨by omega,by omega⟩ ⟨by omega,by omega⟩,IX,by show (bl b).length<=1000;rw[aO];exact hb,⟨by simp only;omega,by simp only;omega⟩,Jb,lab0⟩
     exact⟨gk6,⟨⟨t,s2,no⟩,1,bl b,ct,ch,⟨0,0⟩,⟨0,0,0,0⟩⟩,A,cc,rfl,⟨⟨e1,e2,e3,e4,HG8.out⟩⟩⟩
   case rest =>
   obtain⟨g,c,A,cc,rfl,H6⟩:=hcut;clear HR;go_upto_region 7 with (fail)
   go_cut [34] (fun s34 wx=>∃b:Bool,s34=.bool b/\Hid (b=true->0<no)/\Bx (fw p w wx (w.heap.size,#[B D s.num,E AP nP cP,E AB nB cB,E AX nX cX],27) g (E Ao no co) ys c A cc))
   case first =>
    by_cases h0:0<no
    ·go_wp2_with fail;refine (fe p 4 _ H6.out.fr.tp (by omega) (by omega)).mono ?_;rintro e w5 ⟨v5,rfl,⟨b5,rfl⟩,HT5,HX5⟩;go_wp2_with fail;go_meet
     exact⟨b5,rfl,(fun _=>h0),⟨H6.out.step HX5 HT5⟩⟩
    ·go_wp2_with fail;go_meet
     exact⟨false,rfl,(fun h=>by cases h),H6⟩
   case rest =>
   obtain⟨b7,rfl,hb7,H7⟩:=hcut;clear H6;go_upto_if 34 with (fail)
   go_cut [] (fun wx=>∃(c:aj) (A:Option Addr) (cc:Nat),Bx (fw p w wx (w.heap.size,#[B D s.num,E AP nP cP,E AB nB cB,E AX nX cX],27) g (E Ao no co) ys c A cc))
   case first =>
    cases b7 with
    |false =>
     go_wp2_with fail;go_meet
     exact⟨c,A,cc,H7⟩
    |true =>
     have h0:=hb7.out rfl;obtain⟨gr,co',hv,-⟩:=di (H7.out.row.own) (by omega);injection hv with hA hB hC;subst hA;clear hB hC;go_wp2_with fail;refine (am p no _ H7.out.fr.tp (by omega)).mono ?_;rintro e w8 ⟨v8,rfl,⟨r8,rfl,hr81,hr82⟩,HT8,HX8⟩;obtain⟨r8,rfl⟩:=zG hr81;have hrn:r8<no:=by omega
     have H8:=bx (H7.out.step HX8 HT8);clear H7 HT8 HX8;obtain⟨c8,A8,cc8,hy8,hch8,hok8,e0,e1,e2,e3,e4,e5,e6,e7,e8,e9,e10,e11,e12⟩:=H8.out.row.cells (k:=r8) (by omega);obtain⟨z0,z1,z2,z3,z4,z5,z6,z7,z8,z9,z10,z11,z12⟩:=H8.out.cells;have f0:=(H8.out.fr.at_ 1 rfl).froz;have f1:=f0;have f2:=f0;have f3:=f0;have f4:=f0;have f5:=f0;have f6:=f0;have f7:=f0;have f8:=f0;have f9:=f0;have f10:=f0;have f11:=f0;have f12:=f0;have HC8:Bx (fu w8 w.heap.size (E A8 c8.ch.length cc8) c8.ch/\iu c8):=⟨⟨hch8,hok8⟩⟩
     clear hy8 hch8 hok8;have H9:Bx (fw p w (be w8 g 0 [B D c8.st.t,B D c8.st.s,B D c8.st.q,B D c8.kind,.string (ba c8.str),B D c8.cont,E A8 c8.ch.length cc8,B D c8.tgt.s,B D c8.tgt.q,B D c8.lab.p,B D c8.lab.c,B D c8.lab.g,B D c8.lab.v]) (w.heap.size,#[B D s.num,E AP nP cP,E AB nB cB,E AX nX cX],27) g (E (some ⟨gr,0,none⟩) no co) ys c8 A8 cc8) :=
      ⟨H8.out.upd 0 _ (H8.out.fr.setAll 1 rfl [B D c8.st.t,B D c8.st.s,B D c8.st.q,B D c8.kind,.string (ba c8.str),B D c8.cont,E A8 c8.ch.length cc8,B D c8.tgt.s,B D c8.tgt.q,B D c8.lab.p,B D c8.lab.c,B D c8.lab.g,B D c8.lab.v] rfl) HC8.out.1 HC8.out.2⟩
     clear H8;go_wp2_with fail;refine (az p 0 24 _ H9.out.fr.tp (by omega) (by omega) (by omega) (by omega)).mono ?_;rintro e w10 ⟨v10,rfl,⟨t,rfl,ht1,ht2⟩,HT10,HX10⟩;have H10:=bx (H9.out.step HX10 HT10);clear H9 HT10 HX10 HC8 e0 e1 e2 e3 e4 e5 e6 e7 e8 e9 e10 e11 e12 z0 z1 z2 z3 z4 z5 z6 z7 z8 z9 z10 z11 z12 f0 f1 f2 f3 f4 f5 f6 f7 f8 f9 f10 f11 f12;go_wp2_with fail;refine (az p 1 2 _ H10.out.fr.tp (by omega) (by omega) (by omega) (by omega)).mono ?_;rintro e w11 ⟨v11,rfl,⟨t2,rfl,hs1,hs2⟩,HT11,HX11⟩;have H11:=bx (H10.out.step HX11 HT11);clear H10 HT11 HX11;obtain⟨z0,z1,z2,-⟩:=H11.out.cells;have f0:=(H11.out.fr.at_ 1 rfl).froz;have f1:=f0;have f2:=f0;go_wp2_with fail;go_meet
     exact⟨⟨⟨t,t2,no⟩,c8.kind,c8.str,c8.cont,c8.ch,c8.tgt,c8.lab⟩,A8,cc8,⟨H11.out.upd (c':=⟨⟨t,t2,no⟩,c8.kind,c8.str,c8.cont,c8.ch,c8.tgt,c8.lab⟩) 0 [B D t,B D t2,B D no] (((H11.out.fr.set 1 rfl 0 _).set 1 rfl 1 _).set 1 rfl 2 _) H11.out.ch ⟨mv ⟨by omega,by omega⟩ ⟨by omega,by omega⟩ ⟨by omega,by omega⟩,H11.out.ok.kind,H11.out.ok.str,H11.out.ok.cont,H11.out.ok.tgt,H11.out.ok.lab⟩⟩⟩
   case rest =>
   obtain⟨c2,A2,cc2,H7b⟩:=hcut;clear H7 hb7;go_upto_region 10 with (fail)
   go_cut [55] (fun s55 wx=>∃b:Bool,s55=.bool b/\Hid (b=true->0<no)/\Bx (fw p w wx (w.heap.size,#[B D s.num,E AP nP cP,E AB nB cB,E AX nX cX],27) g (E Ao no co) ys c2 A2 cc2))
   case first =>
    by_cases h0:0<no
    ·go_wp2_with fail;refine (fe p 5 _ H7b.out.fr.tp (by omega) (by omega)).mono ?_;rintro e w5 ⟨v5,rfl,⟨b5,rfl⟩,HT5,HX5⟩;go_wp2_with fail;go_meet
     exact⟨b5,rfl,(fun _=>h0),⟨H7b.out.step HX5 HT5⟩⟩
    ·go_wp2_with fail;go_meet
     exact⟨false,rfl,(fun h=>by cases h),H7b⟩
   case rest =>
   obtain⟨b10,rfl,hb10,H10⟩:=hcut;clear H7b;go_upto_if 55 with (fail)
   go_cut [] (fun wx=>∃(c:aj) (A:Option Addr) (cc:Nat),Bx (fw p w wx (w.heap.size,#[B D s.num,E AP nP cP,E AB nB cB,E AX nX cX],27) g (E Ao no co) ys c A cc))
   case first =>
    cases b10 with
    |false =>
     go_wp2_with fail;go_meet
     exact⟨c2,A2,cc2,H10⟩
    |true =>
     have h0:=hb10.out rfl;obtain⟨gr,co',hv,-⟩:=di (H10.out.row.own) (by omega);injection hv with hA hB hC;subst hA;clear hB hC;go_wp2_with fail;refine (am p no _ H10.out.fr.tp (by omega)).mono ?_;rintro e w8 ⟨v8,rfl,⟨r8,rfl,hr81,hr82⟩,HT8,HX8⟩;obtain⟨r8,rfl⟩:=zG hr81;have hrn:r8<no:=by omega
     have H8:=bx (H10.out.step HX8 HT8);clear H10 HT8 HX8;obtain⟨c8,A8,cc8,hy8,hch8,hok8,e0,e1,e2,-⟩:=H8.out.row.cells (k:=r8) (by omega);have HI8:Bx (aU c8.st.s/\aU c8.st.q):=⟨⟨hok8.st.1.2.1,hok8.st.1.2.2⟩⟩
     clear hy8 hch8 hok8;go_upto_region 12 with (fail)
     obtain⟨w9,hw9⟩:=nm ((w8.alloc (.cells #[B D c8.st.t,B D c8.st.s,B D c8.st.q] 41)):World);have hx9:ab w8 w9:=by rw[hw9];exact (zE _).alloc _
     have H9:=bx (H8.out.ext hx9);obtain⟨g2,hg2⟩:=nm w8.heap.size;have hg2p:g2≠p:=by have:=H8.out.fr.lt;omega
     have B9:Bx (Bk w9 g2 #[B D c8.st.t,B D c8.st.s,B D c8.st.q] 41):=⟨by rw[hw9,hg2];exact Bk.new w8 _ _⟩
     rw[<-hw9,<-hg2];clear hw9 hg2 hx9 H8 e0 e1 e2;go_cut [] (fun wx=>∃(c:aj) (A:Option Addr) (cc:Nat),Bx (fw p w wx (w.heap.size,#[B D s.num,E AP nP cP,E AB nB cB,E AX nX cX],27) g (E (some ⟨gr,0,none⟩) no co) ys c A cc))
     case first =>
      refine zR 13 (fun w'=>w'.cell? ⟨g2,1,none⟩=some (B D c8.st.s)/\w'.cell? ⟨g2,2,none⟩=some (B D c8.st.q)) ?_;obtain⟨wd,hwd⟩:=nm (w9.drew:World);have hxd:ab w9 wd:=by rw[hwd];exact (zE _).drew
      have H0:=bx (H9.out.ext hxd);have B0:=bx (B9.out.ext hxd);rw[<-hwd];clear hwd hxd;have kS0:wd.cell? ⟨g2,1,none⟩=some (B D c8.st.s)/\wd.cell? ⟨g2,2,none⟩=some (B D c8.st.q):=⟨B0.out.c 1 rfl,B0.out.c 2 rfl⟩
      refine zS 8 [(0,64),(2,66),(4,68),(7,71),(9,73),(8,72),(10,74),(11,75)] kS0 ?_;iterate 8 refine zT ?_
      refine zN (an 1 5 (by kernel_rfl) rfl rfl (fun K hK=>?_) (fun K hK=>?_))
      ·go_simp;refine (az p 0 30 _ H0.out.fr.tp (by omega) (by omega) (by omega) (by omega)).mono ?_;rintro e wp1 ⟨v1,rfl,⟨t,rfl,ht1,ht2⟩,HT1,HX1⟩;have H1:=bx (H0.out.step HX1 HT1);have B1:=bx (B0.out.xt HX1 hg2p);have kS1:wp1.cell? ⟨g2,1,none⟩=some (B D c8.st.s)/\wp1.cell? ⟨g2,2,none⟩=some (B D c8.st.q):=⟨B1.out.c 1 rfl,B1.out.c 2 rfl⟩
       clear H0 B0 kS0 HX1 HT1;refine hK.out _ _ (fun _=>(kS1)) ?_;clear hK K;try simp only[kA]
       refine zS 1 [(3,67)] kS1 ?_;refine zT ?_;refine zN (zO 5 (fun K hK=>?_));go_simp;obtain⟨wp2,hwp2⟩:=nm ((wp1.alloc (.cells #[B D 2,B D 3,B D 3,B D 7] 3)):World);have hx2:ab wp1 wp2:=by rw[hwp2];exact (zE _).alloc _
       obtain⟨gk2,hg2⟩:=nm wp1.heap.size;have H2:=bx (H1.out.ext hx2);have B2:=bx (B1.out.ext hx2);have I2:Bx (ak p wp2 (E (some ⟨gk2,0,none⟩) 4 4) [2,3,3,7]):=⟨by rw[hwp2,hg2];exact ak.lit [2,3,3,7] _ H1.out.fr.lt (by decide) (by decide)⟩
       rw[<-hwp2,<-hg2];clear hwp2 hg2 hx2;have kS2:wp2.cell? ⟨g2,1,none⟩=some (B D c8.st.s)/\wp2.cell? ⟨g2,2,none⟩=some (B D c8.st.q):=⟨B2.out.c 1 rfl,B2.out.c 2 rfl⟩
       clear H1 B1 kS1;refine hK.out _ _ (fun _=>(kS2)) ?_;clear hK K;try simp only[kA]
       refine zO 6 (fun K hK=>?_);go_simp;refine (dt p _ [2,3,3,7] _ H2.out.fr.tp I2.out (by simp)).mono ?_;rintro e wp3 ⟨v3,rfl,⟨kd,rfl,hkd3⟩,HT3,HX3⟩;have hkb:aU kd:=(by decide:∀x∈([2,3,3,7]:List Int),aU x) kd hkd3;have HK:Bx (aU kd):=⟨hkb⟩
       have H3:=bx (H2.out.step HX3 HT3);have B3:=bx (B2.out.xt HX3 hg2p);have I3:=bx (I2.out.xt HX3);clear hkd3 hkb;have kS3:wp3.cell? ⟨g2,1,none⟩=some (B D c8.st.s)/\wp3.cell? ⟨g2,2,none⟩=some (B D c8.st.q):=⟨B3.out.c 1 rfl,B3.out.c 2 rfl⟩
       clear H2 B2 I2 kS2 HX3 HT3;refine hK.out _ _ (fun _=>(kS3)) ?_;clear hK K;try simp only[kA]
       refine zS 1 [(12,76)] kS3 ?_;refine zT ?_;refine zN (zO 13 (fun K hK=>?_));obtain⟨z0,z1,z2,z3,z4,z5,z6,z7,z8,z9,z10,z11,z12⟩:=H3.out.cells;have f0:=(H3.out.fr.at_ 1 rfl).froz;have f1:=f0;have f2:=f0;have f3:=f0;have f4:=f0;have f5:=f0;have f6:=f0;have f7:=f0;have f8:=f0;have f9:=f0;have f10:=f0;have f11:=f0;have f12:=f0;go_simp;refine hK.out _ _ (fun h=>absurd rfl h) ?_;clear hK K;refine zD ?_;go_wp2_with fail;go_meet
       exact⟨⟨⟨t,0,no⟩,kd,[],0,[],⟨c8.st.s,c8.st.q⟩,⟨0,0,0,0⟩⟩,none,0,⟨H3.out.upd (c':=⟨⟨t,0,no⟩,kd,[],0,[],⟨c8.st.s,c8.st.q⟩,⟨0,0,0,0⟩⟩) (A':=none) (cc':=0) 0 [B D t,B D 0,B D no,B D kd,.string (ba []),B D 0,E none 0 0,B D c8.st.s,B D c8.st.q,B D 0,B D 0,B D 0,B D 0] (H3.out.fr.setAll 1 rfl [B D t,B D 0,B D no,B D kd,.string (ba []),B D 0,E none 0 0,B D c8.st.s,B D c8.st.q,B D 0,B D 0,B D 0,B D 0] rfl) (fu.nil _ _) ⟨mv ⟨by omega,by omega⟩ ⟨by omega,by omega⟩ ⟨by omega,by omega⟩,HK.out,by simp,pM,HI8.out,lab0⟩⟩⟩
      ·go_simp;obtain⟨wp4,hwp4⟩:=nm ((wd.alloc (.cells #[B D 2,B D 3,B D 3,B D 7] 3)):World);have hx4:ab wd wp4:=by rw[hwp4];exact (zE _).alloc _
       obtain⟨gk4,hg4⟩:=nm wd.heap.size;have H4:=bx (H0.out.ext hx4);have B4:=bx (B0.out.ext hx4);have I4:Bx (ak p wp4 (E (some ⟨gk4,0,none⟩) 4 4) [2,3,3,7]):=⟨by rw[hwp4,hg4];exact ak.lit [2,3,3,7] _ H0.out.fr.lt (by decide) (by decide)⟩
       rw[<-hwp4,<-hg4];clear hwp4 hg4 hx4;have kS4:wp4.cell? ⟨g2,1,none⟩=some (B D c8.st.s)/\wp4.cell? ⟨g2,2,none⟩=some (B D c8.st.q):=⟨B4.out.c 1 rfl,B4.out.c 2 rfl⟩
       clear H0 B0 kS0;refine hK.out _ _ (fun _=>(kS4)) ?_;clear hK K;try simp only[kA]
       refine zO 1 (fun K hK=>?_);go_simp;refine (az p 0 30 _ H4.out.fr.tp (by omega) (by omega) (by omega) (by omega)).mono ?_;rintro e wp5 ⟨v5,rfl,⟨t,rfl,ht1,ht2⟩,HT5,HX5⟩;have H5:=bx (H4.out.step HX5 HT5);have B5:=bx (B4.out.xt HX5 hg2p);have I5:=bx (I4.out.xt HX5);have kS5:wp5.cell? ⟨g2,1,none⟩=some (B D c8.st.s)/\wp5.cell? ⟨g2,2,none⟩=some (B D c8.st.q):=⟨B5.out.c 1 rfl,B5.out.c 2 rfl⟩
       clear H4 B4 I4 kS4 HX5 HT5;refine hK.out _ _ (fun _=>(kS5)) ?_;clear hK K;try simp only[kA]
       refine zS 1 [(3,67)] kS5 ?_;refine zT ?_;refine zN (zO 6 (fun K hK=>?_));go_simp;refine (dt p _ [2,3,3,7] _ H5.out.fr.tp I5.out (by simp)).mono ?_;rintro e wp6 ⟨v6,rfl,⟨kd,rfl,hkd6⟩,HT6,HX6⟩;have hkb:aU kd:=(by decide:∀x∈([2,3,3,7]:List Int),aU x) kd hkd6;have HK:Bx (aU kd):=⟨hkb⟩
       have H6:=bx (H5.out.step HX6 HT6);have B6:=bx (B5.out.xt HX6 hg2p);have I6:=bx (I5.out.xt HX6);clear hkd6 hkb;have kS6:wp6.cell? ⟨g2,1,none⟩=some (B D c8.st.s)/\wp6.cell? ⟨g2,2,none⟩=some (B D c8.st.q):=⟨B6.out.c 1 rfl,B6.out.c 2 rfl⟩
       clear H5 B5 I5 kS5 HX6 HT6;refine hK.out _ _ (fun _=>(kS6)) ?_;clear hK K;try simp only[kA]
       refine zS 1 [(12,76)] kS6 ?_;refine zT ?_;refine zN (zO 13 (fun K hK=>?_));obtain⟨z0,z1,z2,z3,z4,z5,z6,z7,z8,z9,z10,z11,z12⟩:=H6.out.cells;have f0:=(H6.out.fr.at_ 1 rfl).froz;have f1:=f0;have f2:=f0;have f3:=f0;have f4:=f0;have f5:=f0;have f6:=f0;have f7:=f0;have f8:=f0;have f9:=f0;have f10:=f0;have f11:=f0;have f12:=f0;go_simp;refine hK.out _ _ (fun h=>absurd rfl h) ?_;clear hK K;refine zD ?_;go_wp2_with fail;go_meet
       exact⟨⟨⟨t,0,no⟩,kd,[],0,[],⟨c8.st.s,c8.st.q⟩,⟨0,0,0,0⟩⟩,none,0,⟨H6.out.upd (c':=⟨⟨t,0,no⟩,kd,[],0,[],⟨c8.st.s,c8.st.q⟩,⟨0,0,0,0⟩⟩) (A':=none) (cc':=0) 0 [B D t,B D 0,B D no,B D kd,.string (ba []),B D 0,E none 0 0,B D c8.st.s,B D c8.st.q,B D 0,B D 0,B D 0,B D 0] (H6.out.fr.setAll 1 rfl [B D t,B D 0,B D no,B D kd,.string (ba []),B D 0,E none 0 0,B D c8.st.s,B D c8.st.q,B D 0,B D 0,B D 0,B D 0] rfl) (fu.nil _ _) ⟨mv ⟨by omega,by omega⟩ ⟨by omega,by omega⟩ ⟨by omega,by omega⟩,HK.out,by simp,pM,HI8.out,lab0⟩⟩⟩
     case rest =>
     obtain⟨c3,A3,cc3,H12⟩:=hcut;clear H9 B9;obtain⟨-,-,-,z3,-⟩:=H12.out.cells;go_upto_if 79 with (fail)
     by_cases hk2:c3.kind=2
     ·have hkb:(c3.kind==2)=true:=by rw[hk2];rfl
      replace hk2:=zZ hk2;obtain⟨b0,b1,b2,b3⟩:=(H12.out.fr.at_ 0 rfl).p4 rfl;go_wp2_with fail;refine (my p _ s _ H12.out.fr.tp (HS0.out.1.xt H12.out.fr.xt) HS0.out.2).mono ?_;rintro e w13 ⟨v13,rfl,⟨l,rfl,hl⟩,HT13,HX13⟩;obtain⟨lp,lc,lg,lv⟩:=l;have hlv:cJ.val ⟨lp,lc,lg,lv⟩=.agg #[B D lp,B D lc,B D lg,B D lv]:=rfl;rw[hlv];have HL:Bx (cJ.wf ⟨lp,lc,lg,lv⟩):=⟨hl⟩
      have H13:=bx (H12.out.step HX13 HT13);clear H12 HT13 HX13 hlv hl b0 b1 b2 b3 z3;obtain⟨-,-,-,-,-,-,-,-,-,z9,z10,z11,z12⟩:=H13.out.cells;have f0:=(H13.out.fr.at_ 1 rfl).froz;have f1:=f0;have f2:=f0;have f3:=f0;have f4:=f0;have f5:=f0;have f6:=f0;have f7:=f0;have f8:=f0;have f9:=f0;have f10:=f0;have f11:=f0;have f12:=f0;go_wp2_with fail;go_meet
      exact⟨⟨c3.st,c3.kind,c3.str,c3.cont,c3.ch,c3.tgt,⟨lp,lc,lg,lv⟩⟩,A3,cc3,⟨H13.out.upd (c':=⟨c3.st,c3.kind,c3.str,c3.cont,c3.ch,c3.tgt,⟨lp,lc,lg,lv⟩⟩) 9 [B D lp,B D lc,B D lg,B D lv] ((((H13.out.fr.set 1 rfl 9 _).set 1 rfl 10 _).set 1 rfl 11 _).set 1 rfl 12 _) H13.out.ch ⟨H13.out.ok.st,H13.out.ok.kind,H13.out.ok.str,H13.out.ok.cont,H13.out.ok.tgt,HL.out⟩⟩⟩
     ·have hkb:(c3.kind==2)=false:=beq_eq_false_iff_ne.2 hk2;replace hk2:=zZ hk2;go_wp2_with fail;go_meet
      exact⟨c3,A3,cc3,H12⟩
   case rest =>
   obtain⟨c4,A4,cc4,H14⟩:=hcut;clear H10 hb10;go_wp2_with fail;refine (fe p 14 _ H14.out.fr.tp (by omega) (by omega)).mono ?_;rintro e w15 ⟨v15,rfl,⟨b15,rfl⟩,HT15,HX15⟩;have H15:=bx (H14.out.step HX15 HT15);clear H14 HT15 HX15;go_upto_if 85 with (fail)
   go_cut [] (fun wx=>∃(c:aj) (A:Option Addr) (cc:Nat),Bx (fw p w wx (w.heap.size,#[B D s.num,E AP nP cP,E AB nB cB,E AX nX cX],27) g (E Ao no co) ys c A cc))
   case first =>
    cases b15 with
    |false =>
     go_wp2_with fail;go_meet
     exact⟨c4,A4,cc4,H15⟩
    |true =>
     go_wp2_with fail;refine (Eh p _ H15.out.fr.tp).mono ?_;rintro e w16 ⟨v16,rfl,⟨z,rfl,hz⟩,HT16,HX16⟩;obtain⟨zt,zs,zq⟩:=z;have hzv:Li ⟨zt,zs,zq⟩=.agg #[B D zt,B D zs,B D zq]:=rfl;rw[hzv];have HZ:Bx (JF ⟨zt,zs,zq⟩):=⟨hz⟩
     have H16:=bx (H15.out.step HX16 HT16);clear H15 HT16 HX16 hzv hz;obtain⟨z0,z1,z2,-⟩:=H16.out.cells;have f0:=(H16.out.fr.at_ 1 rfl).froz;have f1:=f0;have f2:=f0;go_wp2_with fail;go_meet
     exact⟨⟨⟨zt,zs,zq⟩,c4.kind,c4.str,c4.cont,c4.ch,c4.tgt,c4.lab⟩,A4,cc4,⟨H16.out.upd (c':=⟨⟨zt,zs,zq⟩,c4.kind,c4.str,c4.cont,c4.ch,c4.tgt,c4.lab⟩) 0 [B D zt,B D zs,B D zq] (((H16.out.fr.set 1 rfl 0 _).set 1 rfl 1 _).set 1 rfl 2 _) H16.out.ch ⟨HZ.out,H16.out.ok.kind,H16.out.ok.str,H16.out.ok.cont,H16.out.ok.tgt,H16.out.ok.lab⟩⟩⟩
   case rest =>
   obtain⟨c5,A5,cc5,H17⟩:=hcut;clear H15;obtain⟨z0,z1,z2,z3,z4,z5,z6,z7,z8,z9,z10,z11,z12⟩:=H17.out.cells;obtain rfl:no=ys.length:=by omega
   clear hy1 hy2;go_wp2_with (at_builtin;go_loud (refine cZ _ rfl (.tmp 89) (.tmp 91) 35 rfl w.heap.size 47 iC _ 13 128 underlying35 hiC hc0 hc1 hc2 rfl (by omega) (E Ao ys.length co) ys.length (ys.map fZ).flatten rfl (H17.out.row.own.ext ((zE _).alloc _)) _ #[B D c5.st.t,B D c5.st.s,B D c5.st.q,B D c5.kind,.string (ba c5.str),B D c5.cont,E A5 c5.ch.length cc5,B D c5.tgt.s,B D c5.tgt.q,B D c5.lab.p,B D c5.lab.c,B D c5.lab.g,B D c5.lab.v] _ rfl (heap_alloc_new _ _) rfl (by simp[Value.oneCell']) (by omega) (by omega) (by have:=H17.out.fr.xt.size;simp;omega) ?_;intro v18 w18 hown18 hg18;obtain⟨g18,cap18,rfl,_,_⟩:=di hown18 (by omega);have H18:Bx (ar w.heap.size w18 (E (some ⟨g18,0,none⟩) (ys.length+1) cap18) (ys++[(c5,E A5 c5.ch.length cc5)])/\Fr p w w18 [(w.heap.size,#[B D s.num,E AP nP cP,E AB nB cB,E AX nX cX],27)]):=⟨BH (y:=(c5,E A5 c5.ch.length cc5)) (H17.out.row.ext ((zE _).alloc _)) ((H17.out.fr.take 1).ext ((zE _).alloc _)) (show (27:Nat)≠47 by decide) hg18 hown18 (H17.out.ch.ext ((zE _).alloc _)) H17.out.ok⟩;clear hown18 hg18 H17 z0 z1 z2 z3 z4 z5 z6 z7 z8 z9 z10 z11 z12));refine (fe p 8 _ H18.out.2.tp (by omega) (by omega)).mono ?_;rintro e w19 ⟨v19,rfl,⟨b19,rfl⟩,HT19,HX19⟩;have H19:Bx (ar w.heap.size w19 (E (some ⟨g18,0,none⟩) (ys.length+1) cap18) (ys++[(c5,E A5 c5.ch.length cc5)])/\Fr p w w19 [(w.heap.size,#[B D s.num,E AP nP cP,E AB nB cB,E AX nX cX],27)]):=⟨H18.out.1.xt HX19 hlt,H18.out.2.step HX19 HT19⟩
   clear H18 HT19 HX19;obtain⟨zs,hzs⟩:=nm (ys++[(c5,Value.slice A5 c5.ch.length cc5)]);rw[<-hzs]at H19;have hzl:zs.length=ys.length+1:=by rw[hzs];simp
   rw[<-hzl]at H19;rw[<-hzl];have hz1:zs.length<=ys.length+1:=by omega
   have hz2:ys.length+1<=zs.length:=by omega
   clear hzs hzl;go_upto_if 94 with (fail)
   cases b19 with
   |false =>
    go_wp2_with fail;go_roundw
    case rel=>exact⟨k-1,zs.length,zs,_,_,rfl,by congr;omega,by omega,by omega,by omega,H19⟩
    case measure=>simp[intOf];omega
   |true =>
    go_wp2_with fail;refine (am p zs.length _ H19.out.2.tp (by omega)).mono ?_;rintro e w20 ⟨v20,rfl,⟨r,rfl,hr1,hr2⟩,HT20,HX20⟩;obtain⟨r,rfl⟩:=zG hr1;have hrn:r<zs.length:=by omega
    have H20:Bx (ar w.heap.size w20 (E (some ⟨g18,0,none⟩) zs.length cap18) zs/\Fr p w w20 [(w.heap.size,#[B D s.num,E AP nP cP,E AB nB cB,E AX nX cX],27)]):=⟨H19.out.1.xt HX20 hlt,H19.out.2.step HX20 HT20⟩
    clear H19 HT20 HX20;obtain⟨c8,A8,cc8,-,hch8,hok8,e0,e1,e2,e3,e4,e5,e6,e7,e8,e9,e10,e11,e12⟩:=H20.out.1.cells hrn;have HC8:Bx (fu w20 w.heap.size (E A8 c8.ch.length cc8) c8.ch/\iu c8):=⟨⟨hch8,hok8⟩⟩
    clear hch8 hok8;go_wp2_with (at_builtin;go_loud (refine cZ _ rfl (.tmp 95) (.tmp 103) 35 rfl w.heap.size 47 iC _ 13 128 underlying35 hiC hc0 hc1 hc2 rfl (by omega) (E (some ⟨g18,0,none⟩) zs.length cap18) zs.length (zs.map fZ).flatten rfl (H20.out.1.own.ext ((zE _).alloc _)) _ #[B D c8.st.t,B D c8.st.s,B D c8.st.q,B D c8.kind,.string (ba c8.str),B D c8.cont,E A8 c8.ch.length cc8,B D c8.tgt.s,B D c8.tgt.q,B D c8.lab.p,B D c8.lab.c,B D c8.lab.g,B D c8.lab.v] _ rfl (heap_alloc_new _ _) rfl (by simp[Value.oneCell']) (by omega) (by omega) (by have:=H20.out.2.xt.size;simp;omega) ?_;intro v21 w21 hown21 hg21;obtain⟨g21,cap21,rfl,_,_⟩:=di hown21 (by omega);have H21:Bx (ar w.heap.size w21 (E (some ⟨g21,0,none⟩) (zs.length+1) cap21) (zs++[(c8,E A8 c8.ch.length cc8)])/\Fr p w w21 [(w.heap.size,#[B D s.num,E AP nP cP,E AB nB cB,E AX nX cX],27)]):=⟨BH (y:=(c8,E A8 c8.ch.length cc8)) (H20.out.1.ext ((zE _).alloc _)) (H20.out.2.ext ((zE _).alloc _)) (show (27:Nat)≠47 by decide) hg21 hown21 (HC8.out.1.ext ((zE _).alloc _)) HC8.out.2⟩;clear hown21 hg21 H20 e0 e1 e2 e3 e4 e5 e6 e7 e8 e9 e10 e11 e12 HC8));go_roundw
    case rel=>exact⟨k-1,zs.length+1,_,_,_,rfl,by congr;omega,by simp,by simp,by omega,H21⟩
    case measure=>simp[intOf];omega
  ·go_wp2_with fail;go_ret
   exact⟨_,rfl,⟨ys,HR.out.1,by omega⟩,HR.out.2.tp,HR.out.2.xt⟩
theorem E0(p c g v:Int):(mH p c g v).take 6=bv (gK p c g v):=by unfold mH pQ;rw[List.take_left' (by rw[bt];rfl)]
theorem o8{p v:Int}(h:dj p c g v=true)(i:Nat)(x:Int)(hx:(gK p c g v)[i]?=some x):dz (bv (gK p c g v)) i=x:=by have h1:(wI (bv (gK p c g v))).getD i 0=dz (bv (gK p c g v)) i:=Cn _ _;rw[DB h,xU,hx]at h1;exact h1.symm
theorem EU{p v:Int}(h:dj p c g v=true):iZ (eH (mH p c g v)) p c g v 0 0:=by
 have hl:=kK p c g v;obtain⟨u1,u2⟩:=CE (CP hl) (ET hl);refine⟨fun e=>absurd u2 e,fun _=>⟨bv (gK p c g v),0,0,?_,fun e=>absurd rfl e,fun _=>?_⟩⟩
 ·rw[u1,EA hl];refine⟨fun e=>?_,fun _=>.inl ⟨mH p c g v,0,Fv (Fu _ _ _ _),?_,rfl,rfl⟩⟩
  ·rw[E7 (by omega) (by omega)]at e;cases e
  ·rw[aT,hl,<-E0]
 ·have hb:=ju.1 h;have h0:=o8 h 0 _ rfl;have h1:=o8 h 1 _ rfl;have h2:=o8 h 2 _ rfl;have h3:=o8 h 3 _ rfl;have h4:=o8 h 4 _ rfl;have h5:=o8 h 5 _ rfl;have hc:fK (bv (gK p c g v))=c:=by unfold fK;rw[h1,h2,h3];omega
  rw[hc,h0,h4,h5];exact⟨fun e=>by omega,fun _=>⟨rfl,rfl,rfl,rfl,rfl,rfl⟩⟩
theorem Bi{p v:Int}(h:dj p c g v=true):dR (eH (mH p c g v))=some ⟨p,c,g,v⟩:=mA (EU h)
theorem IH{s:List UInt8}(h:s.length≠74):dR s=none:=by
 have h1:bd s=false:=by unfold bd;rw[decide_eq_false h];rfl
 have h2:iM s=7:=by unfold iM;rw[h1];rfl
 exact mJ (p:=0) (c:=0) (g:=0) (v:=0) (n:=0) (k:=7) ⟨fun _=>⟨rfl,rfl,rfl,rfl,rfl,h2.symm⟩,fun h=>by omega⟩ (by omega)
noncomputable def labR(c:aj):cJ:=(dR c.str).getD cJ.zero
structure iJ (s:dl) (C:List aj):Prop where
 ids:FB C
 one:∀c∈C,c.kind=1/\dR c.str=some (labR c)/\bH s (labR c) c.ch=true
 inj:∀c∈C,∀d∈C,labR c=labR d->c=d
theorem KK{C:List aj}(h:FB C){c d:aj}(hc:c∈C)(hd:d∈C)(he:c.id=d.id):c=d:=by
 obtain⟨i,hi⟩:=zH hc;obtain⟨k,hk⟩:=zH hd;rcases xO i k with e|e|e
 ·exact absurd he (kO h hi hk e)
 ·subst e;rw[hi]at hk;injection hk
 ·exact absurd he.symm (kO h hk hi e)
theorem o6{C:List aj}(h:FB C){c:aj}(hc:c∈C)(hk:c.kind=1):C.find? (dm c.id)=some c:=by obtain⟨i,hi⟩:=zH hc;refine ja hi (by unfold dm;simp[hk]) fun j d hj hd=>?_;have:=kO h hd hi hj;unfold dm;simp[this]
section
variable {s:dl} {C:List aj}
theorem iJ.label(h:iJ s C){c:aj}(hc:c∈C):aQ C c.id=(labR c,0):=by
 have h1:=h.one c hc;unfold aQ;rw[o6 h.ids hc h1.1];have:C.filter (fH c.id)=[]:=by rw[List.filter_eq_nil_iff];intro d hd;have:=(h.one d hd).1;unfold fH;simp[this]
 rw[this];unfold iI;simp[h1.2.1]
theorem iJ.scn(h:iJ s C){c:aj}(hc:c∈C):aM s C c=⟨c,labR c,0,true⟩:=by have h1:=h.one c hc;unfold aM;rw[if_pos h1.1,h.label hc];simp[h1.2.2]
theorem iJ.row(h:iJ s C){i:Nat}{x:dH}(hx:(af s C)[i]?=some x):x.cap∈C/\x=⟨x.cap,labR x.cap,0,true⟩:=by obtain⟨h1,h2⟩:=de hx;have hm:=zW h1;refine⟨hm,?_⟩;rw[h.scn hm]at h2;exact h2
theorem iJ.state(h:iJ s C){i:Nat}{x:dH}(hx:(af s C)[i]?=some x):cR (af s C) i x=1:=by
 obtain⟨hm,he⟩:=h.row hx;have hlab:x.lab=labR x.cap:=by rw[he]
 have hsame:∀(k:Nat) y,(af s C)[k]?=some y->dB x y=true->k=i:=by
  intro k y hy hs;obtain⟨hmy,hey⟩:=h.row hy;have hlaby:y.lab=labR y.cap:=by rw[hey]
  unfold dB at hs;simp only[yT,decide_eq_true_eq]at hs;have hcc:=h.inj _ hmy _ hm (by rw[<-hlaby,<-hlab];exact hs.2);have e1:=(de hy).1;have e2:=(de hx).1;rw[hcc]at e1;rcases xO i k with e|e|e
  ·exact absurd rfl (kO h.ids e2 e1 e)
  ·exact e.symm
  ·exact absurd rfl (kO h.ids e1 e2 e)
 unfold cR;rw[show x.fit=true by rw[he],if_pos rfl];unfold dL;rw[if_neg,if_neg]
 ·simp only[Bool.not_eq_true,wO];intro y hy;obtain⟨k,hk⟩:=zH hy;rw[yB]at hk;split at hk
  ·rename_i hki
   cases hs:dB x y with
   |false=>simp
   |true=>have:=hsame k y hk hs;omega
  ·cases hk
 ·simp only[Bool.not_eq_true,wO,yT,not_and];intro y hy hs;obtain⟨k,hk⟩:=zH hy;obtain rfl:=hsame k y hk hs;rw[hx]at hk;injection hk with hk;subst hk;unfold en;simp
theorem iJ.mem_sts(h:iJ s C){x:dF}:x∈(cQ s C).sts↔∃c∈C,x=⟨c.id,1,labR c⟩:=by
 rw[Go.Proofs.YtkaajgoeahahpaaGreatDoor.mem_sts];constructor
 ·rintro⟨i,y,hy,hk,rfl⟩;obtain⟨hm,he⟩:=h.row hy;refine⟨y.cap,hm,?_⟩;unfold lN;rw[h.state hy];rw[show y.lab=labR y.cap by rw[he]]
 ·rintro⟨c,hc,rfl⟩;obtain⟨i,hi⟩:=zH hc;have hr:=lL (s:=s) hi;refine⟨i,_,hr,by rw[ff];exact (h.one c hc).1,?_⟩;unfold lN;rw[h.state hr,h.scn hc]
theorem iJ.len_to(h:iJ s C):∀k,k<=C.length->(aZ (af s C) k).length=k/\(bW (af s C) k).length=k
 |0,_=>⟨rfl,rfl⟩
 |k+1,hk=>by
  obtain⟨h1,h2⟩:=h.len_to k (by omega);have hc:C[k]?=some C[k]:=zV (by omega);have hr:=lL (s:=s) hc;have hs:=h.state hr;have hk1:(aM s C C[k]).cap.kind=1:=by rw[ff];exact (h.one _ (xC _)).1
  have e1:ry (af s C) k=some (lN (af s C) k (aM s C C[k])):=by unfold ry;rw[hr];simp only[uL];rw[if_pos hk1]
  have e2:pg1 (af s C) k=some (Gs (aM s C C[k])):=by unfold pg1;rw[hr];simp only[uL];rw[if_pos ⟨hk1,hs⟩]
  rw[kC,jO,e1,e2,yU,yU,h1,h2];exact⟨rfl,rfl⟩
theorem iJ.len(h:iJ s C):(cQ s C).sts.length=C.length/\(cQ s C).pgs.length=C.length:=by rw[ID,Ec];exact h.len_to _ (zX _)
theorem kj{L:List aj}(hv:∀c∈L,dT c.st=true)(hi:∀c∈L,∀d∈L,c.id=d.id->c=d){c:aj}:c∈ay L↔c∈L:=by rw[gf];refine⟨fun h=>h.1,fun h=>⟨h,eu.2 ⟨hv c h,fun d hd _ he=>hi d hd c h he⟩⟩⟩
theorem sz{L M:List aj}(hn:L.Nodup)(hm:∀c,c∈M↔c∈L)(hv:∀c∈L,dT c.st=true)(hi:∀c∈L,∀d∈L,c.id=d.id->c=d):(ay M).length=L.length:=by rw[sD hm];exact ((List.perm_ext_iff_of_nodup ((jE L).nodup qk) hn).2 fun c=>kj hv hi).length_eq
end
theorem ak.sub{b off n c x y:Nat}{l:List Int}(h:ak p w (E (some ⟨b,off,none⟩) n c) l)(hxy:x<y)(hy:y<=n):ak p w (E (some ⟨b,off+x,none⟩) (y-x) (y-x)) ((l.take y).drop x):=by
 have hl:=h.len;obtain⟨A',c',hv,h1,h2,h3,h5,h4⟩:=h;injection hv with ha hn hc;subst ha;subst hc;have hlk:((l.take y).drop x).length=y-x:=by rw[wD,yW];omega
 refine⟨_,y-x,by rw[hlk],by omega,by omega,by omega,fun z hz=>h5 z (uI (List.mem_of_mem_drop hz)),fun i z hz=>?_⟩;rw[vR,yB]at hz;split at hz
 ·obtain⟨b',off',ha,hb,hcell⟩:=h4 _ z hz;injection ha with ha;injection ha with e1 e2;subst e1;subst e2;exact⟨b,off+x,rfl,hb,by rw[wC];exact hcell⟩
 ·cases hz
def KS(fs:List lY)(f t:Nat)(x:Int):Prop:=∀k q,f<=k->k<t->fs[k]?=some q->q.part=x
theorem KS.step{fs:List lY}{f t:Nat}{x:Int}{q:lY}(h:KS fs f t x)(hq:fs[t]?=some q)(hx:q.part=x):KS fs f (t+1) x:=by
 intro k r hk hkt hr;rcases zU k t with h1|h1
 ·exact h k r hk h1 hr
 ·obtain rfl:k=t:=by omega
  rw[hq]at hr;injection hr with hr;subst hr;exact hx
def zn(p base eS:Nat)(w1 w:World)(v:Value)(ls:List (List Int)):Prop :=
 ∃us:List Value,us.length=ls.length/\w.ownsRow base eS 1 v ls.length us/\ab w1 w/\∀(j:Nat) (u:Value) (l:List Int),us[j]?=some u->ls[j]?=some l->ak p w1 u l
theorem zn.isP{base eS:Nat}{w1:World}{ls:List (List Int)}(h:zn p base eS w1 w v ls)(hp:p<base):oc p w v ls:=by obtain⟨us,a,b,c,f⟩:=h;refine bj.of_own (e:=eS) (us.map fun u=>[u]) (by simp) (by decide) (by simpa using a) (by rw[AY];exact b) hp ?_;intro k cs x hcs hx;simp only[zP,yO]at hcs;obtain⟨u,hu,rfl⟩:=hcs;exact⟨u,rfl,(f k u x hu hx).ext c⟩
theorem zn.push{base eS:Nat}{w1 w':World}{v' u:Value}{ls:List (List Int)}{us:List Value}{l:List Int}(h:zn p base eS w1 w v ls)(hus:w.ownsRow base eS 1 v ls.length us)(hu:ak p w1 u l)(hx:ab w1 w')(h':w'.ownsRow base eS 1 v' (ls.length+1) (us++[u])):zn p base eS w1 w' v' (ls++[l]):=by
 obtain⟨us0,a,b,c,f⟩:=h;obtain rfl:=rR b hus;refine⟨us0++[u],by simp[a],by simpa using h',hx,fun j z m hz hm=>?_⟩;rcases zU j ls.length with hj|hj
 ·rw[yY (by omega)]at hz;rw[yY hj]at hm;exact f j z m hz hm
 ·rw[yL (by omega)]at hz;rw[yL hj]at hm;have hj0:j-ls.length=0:=by
   have:=(zY.1 hm).1;simp at this;omega
  rw[a,hj0]at hz;rw[hj0]at hm;simp at hz hm;subst hz;subst hm;exact hu
section
variable {α:Type} {f:α->Bool} {l:List α} {k:Nat} {x:α}
def qT(f:α->Bool)(l:List α)(k:Nat):Prop:=∀j y,j<k->l[j]?=some y->f y=false
theorem qT.zero(f:α->Bool)(l:List α):qT f l 0:=fun j y hj=>by omega
theorem qT.succ(h:qT f l k)(hx:l[k]?=some x)(hp:f x=false):qT f l (k+1):=by
 intro j y hj hy;by_cases e:j=k
 ·subst e;rw[hx]at hy;rw[<-xF hy];exact hp
 ·exact h j y (by omega) hy
end
def Le(x:dF):Bool:=decide (1<=x.state/\x.state<=6)
def Kr(x:dF):Bool:=decide (x.state=1)
def J8{α:Type}(lt:α->α->Bool)(l:List α)(i:Nat):Bool:=match l[i]?,l[i+1]? with
 |some a,some b=>lt a b
 |_,_=>true
def Lm(l:List dF):Nat:=(l.filter Kr).length
def Lr(l:List dF)(i:Nat):Bool:=match l[i]? with
 |some x=>Le x&&(match i with
  |0=>true
  |k+1=>J8 bU l k)
 |none=>true
def Ku(l:List dF)(id:gT):Option dF:=l.find? fun x=>decide (x.scan=id)
noncomputable def JV(s:dl)(sts:List dF)(q:Pg):Bool:=match fo s.xp q.cand,Ku sts q.scan with
 |some x,some y=>decide (y.state=1)&&(decide (y.lab=⟨s.num,q.cand,q.page,x.var⟩)&&bH s ⟨s.num,q.cand,q.page,x.var⟩ q.ch)
 |_,_=>false
noncomputable def LG(s:dl)(sts:List dF)(l:List Pg)(i:Nat):Bool:=match l[i]? with
 |some x=>(match i with
  |0=>true
  |k+1=>J8 dW l k)&&JV s sts x
 |none=>true
def F9(s:dl)(v:Int):Nat:=((s.bk[v.toNat]?).getD []).length
section
variable {s:dl} {i:r6}
structure KY (s:dl) (i:r6):Prop where
 chk:aC s=0
 sts:∀k,k<i.sts.length->Lr i.sts k=true
 used:Lm i.sts=i.pgs.length
 pgs:∀k,k<i.pgs.length->LG s i.sts i.pgs k=true
theorem CQ(h:∀k,k<i.sts.length->Lr i.sts k=true):iT bU i.sts:=by refine pA wm fun k x y hx hy=>?_;have:=h (k+1) (zY.1 hy).1;unfold Lr at this;rw[hy]at this;simp only[yT]at this;have h2:=this.2;unfold J8 at h2;rw[hx,hy]at h2;exact h2
theorem KY.asc(h:KY s i):iT bU i.sts:=CQ h.sts
theorem KY.page(h:KY s i){q:Pg}(hq:q∈i.pgs):JV s i.sts q=true:=by obtain⟨k,hk⟩:=zH hq;have:=h.pgs k (zY.1 hk).1;unfold LG at this;rw[hk]at this;simp only[yT]at this;exact this.2
theorem KY.st(h:KY s i){x:dF}(hq:x∈i.sts):1<=x.state/\x.state<=6:=by obtain⟨k,hk⟩:=zH hq;have:=h.sts k (zY.1 hk).1;unfold Lr at this;rw[hk]at this;simp only[yT]at this;have:=this.1;unfold Le at this;simpa using this
theorem qR{l:List fv}{x:fv}(h:fo l c=some x):x∈l/\x.cand=c:=by unfold fo at h;exact⟨List.mem_of_find?_eq_some h,by simpa using List.find?_some h⟩
def vr(a b:fv):Bool:=decide (a.cand<b.cand)
theorem Ka:xj vr:=⟨fun a=>by unfold vr;simp,fun a b c h1 h2=>by unfold vr at *;simp only[decide_eq_true_eq]at *;omega⟩
theorem dU.asc_(h:dU s):iT vr s.xp:=by refine pA Ka fun k x y hx hy=>?_;have:=h.asc k (zY.1 hy).1;unfold lW at this;rw[hx,hy]at this;exact this
theorem Em(h:iT vr s.xp){x:fv}(hx:x∈s.xp):fo s.xp x.cand=some x:=by obtain⟨k,hk⟩:=zH hx;unfold fo;refine ja hk (by simp) fun j y hj hy=>?_;have:=h.at_ hy hk hj;refine decide_eq_false fun e=>?_;unfold vr at this;simp only[decide_eq_true_eq]at this;omega
end
end Go.Proofs.YtkaajgoeahahpaaGreatDoor

