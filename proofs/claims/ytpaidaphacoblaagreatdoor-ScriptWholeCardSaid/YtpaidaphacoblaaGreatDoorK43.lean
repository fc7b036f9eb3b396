import Derived.Test.YtpaidaphacoblaaGreatDoorK35
set_option linter.all false
set_option maxRecDepth 100000
set_option maxHeartbeats 0
namespace Go.Proofs.YtpaidaphacoblaaGreatDoor
open Go.Value renaming int→A,slice→C
open Go.IntKind renaming i64→B
open Go.RowKit _root_.Go.Proofs.Tryz
variable {k:Nat}
theorem MD(v vi:Value)(s:dl)(t:r6)(d f ld:Int)(w:World){p:Nat}(hp:p<w.heap.size)(hs:aR p w v s)(ht:aK p w vi t)(hn1:t.sts.length<=1000)(hn2:t.pgs.length<=1000) :
  Calls prog 11 #[v,vi,.agg #[A B d,A B f,A B ld]] w (PY w (Na s t d f ld) (Ni s t d f ld)):=by
 obtain⟨i0,hi0,hz0,hz1,hz2⟩:=info_parts Tryz.infoI;obtain⟨iC,hiC,hC0,hC1,hC2⟩:=info_parts Tryz.infoScr;obtain⟨er,her⟩:=nm (Na s t d f ld:Int);obtain⟨lr,hlr⟩:=nm (Ni s t d f ld:List Np);rw[<-her,<-hlr];have HER:=zZ her;have HLR:=zZ hlr;clear her hlr;have HS0:=zZ hs;have HT0:=zZ ht;obtain⟨vP,vB,vX,rfl,hP,hB,hX,hnum⟩:=hs;obtain⟨AP,nP,cP,rfl,-⟩:=hP.open_;obtain⟨AB,nB,cB,rfl,hnB,hcB,hmB,HLB⟩:=hB.open_;obtain⟨AX,nX,cX,rfl,hncX,hccX,hnnX,HLX⟩:=hX.open_;obtain⟨vS,vG,rfl,hS,hG⟩:=ht;obtain⟨AS,nS,cS,rfl,-⟩:=hS.open_;obtain⟨AG,nG,cG,rfl,-⟩:=hG.open_;have HX0:Bx (jh p w (C AX nX cX) s.xp):=⟨hX⟩
 have HB0:Bx (l9 p w (C AB nB cB) s.bk):=⟨hB⟩
 have HN:Bx (t.sts.length<=1000/\t.pgs.length<=1000):=⟨⟨hn1,hn2⟩⟩
 clear hP hB hX hnum hS hG hn1 hn2;obtain⟨w1,hw1⟩:=nm ((((w.alloc (.cells #[A B s.num,C AP nP cP,C AB nB cB,C AX nX cX] 29)).alloc (.cells #[C AS nS cS,C AG nG cG] 45)).alloc (.cells #[A B d,A B f,A B ld] 53)):World);have HF:Bx (aA w w1 [(w.heap.size,#[A B s.num,C AP nP cP,C AB nB cB,C AX nX cX],29),(w.heap.size+1,#[C AS nS cS,C AG nG cG],45),(w.heap.size+1+1,#[A B d,A B f,A B ld],53)]):=⟨by rw[hw1];exact (((aA.start w).push _ _ rfl).push _ _ (by simp)).push _ _ (by simp)⟩
 go_enter func11,ntmps11
 go_upto_region 1 with (fail)
 rw[<-hw1];clear hw1;obtain⟨z0,z1,z2,z3⟩:=(HF.out.at_ 0 rfl).p4 rfl;obtain⟨i0,i1⟩:=(HF.out.at_ 1 rfl).p2 rfl;go_wp2_with fail;refine (Ms _ _ s t _ (p:=p) (zB hp HF.out.xt.size) (HS0.out.ext HF.out.xt) (HT0.out.ext HF.out.xt) HN.out.1 HN.out.2).mono ?_;rintro e w2 ⟨rfl,hx2⟩;have HF2:=bx (HF.out.ext hx2);clear HF hx2 z0 z1 z2 z3 i0 i1;cases hb:gq s t with
 |false =>
  obtain rfl:er=1:=by rw[HER.out,Na,if_neg (by rw[hb];simp)]
  obtain rfl:lr=[]:=by rw[HLR.out,Ni,if_neg (by rw[hb];simp)]
  clear hb;go_wp2_with fail;refine bodyPost_ret (v:=.tuple #[C none 0 0,A B 1]) (by simp[results,results11,go_sem]) rfl ⟨⟨C none 0 0,[],rfl,pU.nil _ _,rfl⟩,HF2.out.xt⟩
 |true =>
 have HBEL:=zZ (j7.1 hb);have HP:=zZ (MP hb);have hnX:nX<=60:=by have:=HP.out.1.len.2.2;have:=HLX.out;omega
 obtain⟨hsn1,hsn2⟩:=HP.out.1.num;obtain⟨hh0,hh1,hh2⟩:=(HF2.out.at_ 2 rfl).p3 rfl;go_wp2_with fail;refine (uk d f ld _).mono ?_;rintro e w3 ⟨rfl,hx3⟩;have HF3:=bx (HF2.out.ext hx3);clear HF2 hx3 hh0 hh1 hh2;cases hvl:j5 d f ld with
 |false =>
  obtain rfl:er=2:=by rw[HER.out,Na,if_pos hb,if_neg (by rw[hvl];simp)]
  obtain rfl:lr=[]:=by rw[HLR.out,Ni,if_neg (by rw[hvl];simp)]
  clear hb hvl;go_wp2_with fail;refine bodyPost_ret (v:=.tuple #[C none 0 0,A B 2]) (by simp[results,results11,go_sem]) rfl ⟨⟨C none 0 0,[],rfl,pU.nil _ _,rfl⟩,HF3.out.xt⟩
 |true =>
 have HVL:=zZ hvl;obtain rfl:er=0:=by rw[HER.out,Na,if_pos hb,if_pos hvl]
 have HL2:=zZ (show lr=ut s t d f ld by rw[HLR.out,Ni,if_pos ⟨hb,hvl⟩]);have hfd:=PI;clear hb hvl HER HLR;have z3:=(HF3.out.at_ 0 rfl).c 3 rfl;go_wp2_with fail;clear z3;go_loopw [8,27] (fun s8 s9 wr=>∃(k:Nat) (ys:List (Np×Value×Value)),s9=A B k/\k<=nX/\Bx (aA w wr [(w.heap.size,#[A B s.num,C AP nP cP,C AB nB cB,C AX nX cX],29),(w.heap.size+1,#[C AS nS cS,C AG nG cG],45),(w.heap.size+1+1,#[A B d,A B f,A B ld],53)]/\kT w.heap.size wr s8 ys/\ys.map Prod.fst=((s.xp.take k).filter (cj s t)).map (Mk s t d f ld))) (fun _ k _=>nX-(intOf k).toNat)
 case atStart=>exact⟨0,[],rfl,by omega,⟨⟨HF3.out,pU.nil _ _,rfl⟩⟩⟩
 case round =>
  obtain⟨k,ys,rfl,hk,HR⟩:=hrel;have HFr:Bx (aA w wr [(w.heap.size,#[A B s.num,C AP nP cP,C AB nB cB,C AX nX cX],29),(w.heap.size+1,#[C AS nS cS,C AG nG cG],45),(w.heap.size+1+1,#[A B d,A B f,A B ld],53)]):=⟨HR.out.1⟩
  have HO:Bx (kT w.heap.size wr _ ys):=⟨HR.out.2.1⟩
  have HY:Bx (ys.map Prod.fst=((s.xp.take k).filter (cj s t)).map (Mk s t d f ld)):=⟨HR.out.2.2⟩
  have hyl:ys.length<=k:=by have h1:=congrArg List.length HY.out;have h2:=uP (cj s t) (s.xp.take k);simp at h1 h2;omega
  obtain⟨Ao,co,hu⟩:=pU.form HO.out;obtain⟨no,hno⟩:=nm ys.length;rw[<-hno]at hu hyl;subst hu;have HNO:=zZ hno;clear HR HF3 hno;have z3:=(HFr.out.at_ 0 rfl).c 3 rfl;by_cases hkn:k<nX
  ·obtain⟨bX,oX,_,_,rfl,-⟩:=HX0.out.at_ hkn;obtain⟨xa,xb,xd,HXX,x0,x1,x2⟩:=jh.read HX0.out HFr.out.xt.xt hkn;go_upto_region 9 with (fail)
   obtain⟨gx,hgx⟩:=nm wr.heap.size;obtain⟨w2,hw2⟩:=nm ((wr.alloc (.cells #[A B xa,A B xb,A B xd] 56)):World);have hx2:ab wr w2:=by rw[hw2];exact (zE _).alloc _
   have HF2:Bx (aA w w2 [(w.heap.size,#[A B s.num,C AP nP cP,C AB nB cB,C (some ⟨bX,oX,none⟩) nX cX],29),(w.heap.size+1,#[C AS nS cS,C AG nG cG],45),(w.heap.size+1+1,#[A B d,A B f,A B ld],53),(gx,#[A B xa,A B xb,A B xd],56)]):=⟨by rw[hw2];exact HFr.out.push _ _ hgx.symm⟩
   have HO2:=zZ (HO.out.ext hx2);rw[<-hw2,<-hgx];clear hw2 hgx hx2 x0 x1 x2 z3 HFr HO;have HMX:=zZ (PC HXX.out);have HFS:=zZ (Em HP.out.1.asc_ HMX.out);simp only at HFS;obtain⟨z0,z1,z2,z3⟩:=(HF2.out.at_ 0 rfl).p4 rfl;have i0':=(HF2.out.at_ 1 rfl).c 0 rfl;have i1':=(HF2.out.at_ 1 rfl).c 1 rfl;obtain⟨x0,x1,x2⟩:=(HF2.out.at_ 3 rfl).p3 rfl;cases hdn:cj s t ⟨xa,xb,xd⟩ with
   |false =>
    have hstb:((gt s t ⟨xa,xb,xd⟩).state != 1)=true:=by have:=P9 hdn;simp[this]
    have HTK:=zZ (show (s.xp.take (k+1)).filter (cj s t)=(s.xp.take k).filter (cj s t) by rw[ax HXX.out,xM,uB (by rw[hdn];simp)];simp);clear hdn;go_wp2_with (go_at_call 44;refine (Mp _ _ s t xa xb xd _ (p:=p) (zB hp HF2.out.xt.size) (HS0.out.ext HF2.out.xt) (HT0.out.ext HF2.out.xt) HP.out.1 HP.out.2.1 HMX.out HN.out.1 HN.out.2).mono ?_;rintro e w6 ⟨⟨vp,rfl,hvp⟩,hx6⟩;obtain⟨Ap,cp,rfl⟩:=hvp.form;clear hvp;have HF6:=zZ ((HF2.out.take 3).ext hx6);have HO6:=zZ (HO2.out.ext hx6));go_roundw
    case rel=>exact⟨k+1,ys,by go_num,by omega,⟨⟨HF6.out,HO6.out,by rw[HTK.out];exact HY.out⟩⟩⟩
    case measure=>simp[intOf];omega
   |true =>
    have HDN0:=zZ hdn;have HST:=zZ (Od hdn);have HTK:=zZ (show (s.xp.take (k+1)).filter (cj s t)=(s.xp.take k).filter (cj s t)++[⟨xa,xb,xd⟩] by rw[ax HXX.out,xM,uC hdn];simp);clear hdn;go_upto_region 10 with (go_at_call 44;refine (Mp _ _ s t xa xb xd _ (p:=p) (zB hp HF2.out.xt.size) (HS0.out.ext HF2.out.xt) (HT0.out.ext HF2.out.xt) HP.out.1 HP.out.2.1 HMX.out HN.out.1 HN.out.2).mono ?_;rintro e w6 ⟨⟨vp,rfl,hvp⟩,hx6⟩;obtain⟨Ap,cp,rfl⟩:=hvp.form;clear hvp;rw[HST.out])
    have HF6:=zZ (HF2.out.ext hx6);have HO6:=zZ (HO2.out.ext hx6);have hxb:=rL HP.out.1 HMX.out;simp only at hxb;obtain⟨xb1,xb2,xb3,xb4,xb5,xb6⟩:=hxb;obtain⟨pq,bk,hpq,hbk,hbb,-,-,-⟩:=rT HP.out.1 xb3 xb4;have hbn:=ND hbb;have hnp:F9 s xd=bk.length:=by unfold F9;rw[hbk];rfl
    have hbks:=HP.out.1.bks;obtain⟨r,rfl⟩:=zG xb3;rw[yC]at hpq hbk;have hrB:r<nB:=by have:=HLB.out;omega
    obtain⟨bB,oB,_,_,rfl,-⟩:=HB0.out.at_ hrB;obtain⟨Ab,nb,cb,b0,-,HNB⟩:=lJ HB0.out hbk (zE w).xt;have hnb:nb<=12:=by have:=HNB.out;omega
    have HNP:=zZ (show F9 s (r:Int)=nb by rw[hnp,HNB.out]);have HDN:=HDN0;clear hpq hbk hbb hbn hnp hbks hx6 HF2 HO2 z0 z1 z2 z3 i0' i1' x0 x1 x2 HDN0;obtain⟨z0,z1,z2,z3⟩:=(HF6.out.at_ 0 rfl).p4 rfl;obtain⟨x0,x1,x2⟩:=(HF6.out.at_ 3 rfl).p3 rfl;have i0':=(HF6.out.at_ 1 rfl).c 0 rfl;have i1':=(HF6.out.at_ 1 rfl).c 1 rfl;obtain⟨h0,h1,h2⟩:=(HF6.out.at_ 2 rfl).p3 rfl;have HFQ:=HF6;go_upto_region 11 with (go_at_call 45;refine (Nq _ _ s t d f ld xa xb (r:Int) _ (p:=p) (zB hp HFQ.out.xt.size) (HS0.out.ext HFQ.out.xt) (HT0.out.ext HFQ.out.xt) HBEL.out HFS.out HDN.out HVL.out HN.out.1 HN.out.2).mono ?_;rintro e w7 ⟨⟨va,rfl,hva⟩,hx7⟩;obtain⟨A2,c2,rfl⟩:=hva.form)
    have HF7:=bx (HF6.out.ext hx7);have HO7:=zZ (HO6.out.ext hx7);have HA7:=zZ (hva.base_ HF6.out.xt.size);obtain⟨n2,hn2⟩:=nm ((Mj s t d f ld ⟨xa,xb,(r:Int)⟩).length);rw[<-hn2]at HA7;rw[<-hn2];clear hva hx7 hn2 HF6 HO6 HFQ z0 z1 z2 z3 i0' i1' x0 x1 x2 h0 h1 h2;have z0:=(HF7.out.at_ 0 rfl).c 0 rfl;obtain⟨x0,x1,x2⟩:=(HF7.out.at_ 3 rfl).p3 rfl;go_upto_region 14 with (fail)
    obtain⟨gs,hgs⟩:=nm w7.heap.size;obtain⟨w8,hw8⟩:=nm ((w7.alloc (.cells #[A B (s.num*10000+xa),A B s.num,A B xa,A B xb,A B (r:Int),C none 0 0,C A2 n2 c2] 58)):World);have HF8:Bx (aA w w8 [(w.heap.size,#[A B s.num,C AP nP cP,C (some ⟨bB,oB,none⟩) nB cB,C (some ⟨bX,oX,none⟩) nX cX],29),(w.heap.size+1,#[C AS nS cS,C AG nG cG],45),(w.heap.size+1+1,#[A B d,A B f,A B ld],53),(gx,#[A B xa,A B xb,A B (r:Int)],56),(gs,#[A B (s.num*10000+xa),A B s.num,A B xa,A B xb,A B (r:Int),C none 0 0,C A2 n2 c2],58)]):=⟨by rw[hw8];exact HF7.out.push _ _ hgs.symm⟩
    have HKO:Bx (∀wx,XT gs w8 wx->kT w.heap.size wx (C Ao no co) ys):=⟨fun wx hx=>HO7.out.keep (w8:=w8) (gs:=gs) (by omega) (by rw[hw8];exact (zE _).alloc _) hx⟩
    have HKA:Bx (∀wx,XT gs w8 wx->hZ wx w.heap.size (C A2 n2 c2) (Mj s t d f ld ⟨xa,xb,(r:Int)⟩)):=⟨fun wx hx=>HA7.out.keep (w8:=w8) (gs:=gs) (by omega) (by rw[hw8];exact (zE _).alloc _) hx⟩
    have HW8:=bx (HF8.out.xt.size);rw[<-hw8,<-hgs];clear hw8 hgs HF7 HO7 HA7 z0 x0 x1 x2;have hb0:=b0;have s2:=(HF8.out.at_ 0 rfl).c 2 rfl;have x2:=(HF8.out.at_ 3 rfl).c 2 rfl;replace b0:=HF8.out.xt.cell b0;go_wp2_with fail;clear b0 s2 x2;obtain⟨wo,rfl⟩:=nm (w8:World);go_loopw [72] (fun s72 wr=>∃(m:Nat) (v5:Value),s72=A B m/\m<=nb/\Bx (aA w wr [(w.heap.size,#[A B s.num,C AP nP cP,C (some ⟨bB,oB,none⟩) nB cB,C (some ⟨bX,oX,none⟩) nX cX],29),(w.heap.size+1,#[C AS nS cS,C AG nG cG],45),(w.heap.size+1+1,#[A B d,A B f,A B ld],53),(gx,#[A B xa,A B xb,A B (r:Int)],56),(gs,#[A B (s.num*10000+xa),A B s.num,A B xa,A B xb,A B (r:Int),v5,C A2 n2 c2],58)]/\XT gs wo wr/\hZ wr wo.heap.size v5 (j6 t xa m))) (fun m _=>nb-(intOf m).toNat)
    case atStart=>exact⟨0,C none 0 0,rfl,by omega,⟨⟨HF8.out,XT.refl _ _,by simpa[j6] using hZ.nil wo wo.heap.size⟩⟩⟩
    case round =>
     obtain⟨m,v5,rfl,hm,HR⟩:=hrel;obtain⟨A5,c5,hu⟩:=HR.out.2.2.form;rw[MO]at hu;subst hu;have HF10:Bx (aA w wr [(w.heap.size,#[A B s.num,C AP nP cP,C (some ⟨bB,oB,none⟩) nB cB,C (some ⟨bX,oX,none⟩) nX cX],29),(w.heap.size+1,#[C AS nS cS,C AG nG cG],45),(w.heap.size+1+1,#[A B d,A B f,A B ld],53),(gx,#[A B xa,A B xb,A B (r:Int)],56),(gs,#[A B (s.num*10000+xa),A B s.num,A B xa,A B xb,A B (r:Int),C A5 m c5,C A2 n2 c2],58)]):=⟨HR.out.1⟩
     have HX10:Bx (XT gs wo wr):=⟨HR.out.2.1⟩
     have HI10:Bx (hZ wr wo.heap.size (C A5 m c5) (j6 t xa m)):=⟨HR.out.2.2⟩
     clear HR HF8;by_cases hmn:m<nb
     ·have i0':=(HF10.out.at_ 1 rfl).c 0 rfl;have i1':=(HF10.out.at_ 1 rfl).c 1 rfl;have x0:=(HF10.out.at_ 3 rfl).c 0 rfl;go_upto_region 18 with (go_at_call 46;refine (ke _ t xa (m:Int) _ (p:=p) (HT0.out.ext HF10.out.xt) HP.out.2.1 (by have:=HN.out.2;omega)).mono ?_;rintro e w11 ⟨yc,yg,yt,ys',yq,ych,yA,yn,ycc,rfl,hyd,-,hyw,hx11⟩)
      have HCT:=zZ (show j6 t xa (m+1)=j6 t xa m++[yt] by rw[Oo,Qw hyd]);have hyt:aU yt:=hyw.2.2.1;obtain⟨gp,hgp⟩:=nm w11.heap.size;obtain⟨w12,hw12⟩:=nm ((w11.alloc (.cells #[A B yc,A B yg,A B yt,C yA yn ycc,A B ys',A B yq] 80)):World);have hx12:ab wr w12:=by rw[hw12];exact hx11.alloc _
      have HB12:Bx (Bk w12 gp #[A B yc,A B yg,A B yt,C yA yn ycc,A B ys',A B yq] 80):=⟨by rw[hw12,hgp];exact Bk.new _ _ _⟩
      have HF12:=bx (HF10.out.ext hx12);have HX12:=bx (HX10.out.ext hx12);have HI12:=bx (HI10.out.ext hx12);have HW12:Bx (wo.heap.size<=w12.heap.size):=⟨HX12.out.size⟩
      rw[<-hw12,<-hgp];clear hw12 hgp hx11 hx12 hyd hyw HF10 HX10 HI10 i0' i1' x0;obtain⟨o0,o1,o2,o3,o4,o5,o6⟩:=(HF12.out.at_ 4 rfl).p7 rfl;have g0:=(HF12.out.at_ 4 rfl).froz;have g1:=g0;have g2:=g0;have g3:=g0;have g4:=g0;have g5:=g0;have g6:=g0;have y2:=HB12.out.c 2 rfl;go_wp2_with (at_builtin;refine aF _ rfl (.tmp 84) (.tmp 87) 22 rfl wo.heap.size 3 i0 _ 8 underlying22 hi0 hz0 hz1 hz2 rfl (C A5 m c5) _ _ rfl (ao HI12.out.1 ((zE _).alloc _)) _ _ rfl (by simp;rfl) rfl (by rw[MO];omega) (by omega) (by have:=HW12.out;simp;omega) ?_;intro v13 w13 hown13 hg13;obtain⟨A13,c13,hv13⟩:=J9 hown13;obtain⟨n13,hn13⟩:=nm ((j6 t xa m).length+1);rw[<-hn13]at hv13 hown13;subst hv13;have HN13:=zZ hn13;clear hn13;have HF13:=zZ ((HF12.out.ext ((zE _).alloc _)).grownT (ao HI12.out.1 ((zE _).alloc _)) hg13 HW8.out rfl);have HX13:=zZ ((HX12.out.alloc _).grown hg13 (aq HI12.out.1));have HO13:=zZ hown13;clear hown13 hg13 o0 o1 o2 o3 o4 o5 o6 g0 g1 g2 g3 g4 g5 g6;have o0:=(HF13.out.at_ 4 rfl).c 0 rfl;have o1:=(HF13.out.at_ 4 rfl).c 1 rfl;have o2:=(HF13.out.at_ 4 rfl).c 2 rfl;have o3:=(HF13.out.at_ 4 rfl).c 3 rfl;have o4:=(HF13.out.at_ 4 rfl).c 4 rfl;have o5:=(HF13.out.at_ 4 rfl).c 5 rfl;have o6:=(HF13.out.at_ 4 rfl).c 6 rfl;have g5:=(HF13.out.at_ 4 rfl).froz 5);have HI13:Bx (hZ w13 wo.heap.size (C A13 n13 c13) (j6 t xa (m+1))):=⟨by
       rw[HCT.out];have h5:=HO13.out;rw[HN13.out]at h5⊢;refine⟨by simpa using h5,fun z hz=>?_,by simp[MO];omega⟩;rcases zM.1 hz with hz|hz
       ·exact HI12.out.2.1 z hz
       ·obtain rfl:z=yt:=by simpa using hz
        exact hyt⟩
      have hF14:=HF13.out.set 4 rfl 5 (C A13 n13 c13);have hV14:=HI13.out.far (HF13.out.at_ 4 rfl) (by decide) 5 (C A13 n13 c13);have hX14:=HX13.out.setCell (a:=⟨gs,5,none⟩) rfl (C A13 n13 c13);go_roundw
      case rel=>exact⟨m+1,C A13 n13 c13,by go_num,by omega,⟨⟨hF14,hX14,hV14⟩⟩⟩
      case measure=>simp[intOf];omega
     ·obtain rfl:m=nb:=by omega
      have HF12:=HF10;have HI12:=HI10;have HO12:=zZ (HKO.out _ HX10.out);have HA12:=zZ (HKA.out _ HX10.out);clear HF10 HX10 HI10;obtain⟨o0,o1,o2,o3,o4,o5,o6⟩:=(HF12.out.at_ 4 rfl).p7 rfl;have HOW:=zZ (show World.ownsRow _ w.heap.size 58 7 (C Ao no co) no (ys.map QB).flatten from by have h:=HO12.out.own.own;rw[<-HNO.out]at h;exact h);go_wp2_with (at_builtin;go_loud (refine cZ _ rfl (.tmp 91) (.tmp 93) 49 rfl w.heap.size 58 iC _ 7 88 underlying49 hiC hC0 hC1 hC2 rfl (by omega) (C Ao no co) no (ys.map QB).flatten rfl (ao HOW.out ((zE _).alloc _)) _ #[A B (s.num*10000+xa),A B s.num,A B xa,A B xb,A B (r:Int),C A5 m c5,C A2 n2 c2] _ rfl (heap_alloc_new _ _) rfl (by simp[Value.oneCell']) (by omega) (by omega) (by have:=HF12.out.xt.size;simp;omega) ?_;intro v14 w14 hown14 hg14;have H14:Bx (kT w.heap.size w14 v14 (ys++[(Mk s t d f ld ⟨xa,xb,(r:Int)⟩,C A5 m c5,C A2 n2 c2)])/\aA w w14 [(w.heap.size,#[A B s.num,C AP nP cP,C (some ⟨bB,oB,none⟩) nB cB,C (some ⟨bX,oX,none⟩) nX cX],29),(w.heap.size+1,#[C AS nS cS,C AG nG cG],45),(w.heap.size+1+1,#[A B d,A B f,A B ld],53)]):=⟨⟨pU.push (f:=QB) (HO12.out.ext ((zE _).alloc _)) (by have h:=hown14;rw[HNO.out]at h;exact h) (fun y hy=>⟨hZ.apart hy.1 (ao HOW.out ((zE _).alloc _)) (by decide) hg14,hZ.apart hy.2 (ao HOW.out ((zE _).alloc _)) (by decide) hg14⟩) ⟨hZ.apart (show hZ _ w.heap.size (C A5 m c5) (j6 t xa (F9 s (r:Int))) from by rw[HNP.out];exact (HI12.out.base_ HW8.out).ext ((zE _).alloc _)) (ao HOW.out ((zE _).alloc _)) (by decide) hg14,hZ.apart (HA12.out.ext ((zE _).alloc _)) (ao HOW.out ((zE _).alloc _)) (by decide) hg14⟩,((HF12.out.take 3).ext ((zE _).alloc _)).grownT (ao HOW.out ((zE _).alloc _)) hg14 (zX _) rfl⟩⟩;clear hown14 hg14));go_roundw
      case rel=>exact⟨k+1,_,by go_num,by omega,⟨⟨H14.out.2,H14.out.1,by rw[HTK.out];simp[HY.out]⟩⟩⟩
      case measure=>simp[intOf];omega
  ·obtain rfl:k=nX:=by omega
   have HE:=zZ (show ((s.xp.take k).filter (cj s t)).map (Mk s t d f ld)=ut s t d f ld by rw[bh (by have:=HLX.out;omega)];rfl);go_wp2_with fail;refine bodyPost_ret (v:=.tuple #[C Ao no co,A B 0]) (by simp[results,results11,go_sem]) rfl ⟨⟨C Ao no co,ys,rfl,HO.out,by rw[HY.out,HE.out,HL2.out]⟩,HFr.out.xt⟩
def jk:av:=⟨1,3,0,0,0,0⟩
def kg:dl:=⟨0,[⟨0,0,[jk]⟩],[[[],[0],[],[]]],[⟨5,1,0⟩]⟩
theorem zz:jH 0 0 [jk] [[],[0],[],[]]=true:=by
 refine qh ⟨by decide,by decide,by decide,fun l h=>by simp at h;first|exact h|exact h.symm,?_⟩;simp only[eh,oW,nf,nA,jk];refine⟨⟨⟨by decide,fun i y hi=>by simp at hi⟩,by decide⟩,⟨⟨by decide,fun i y hi hy=>?_⟩,by decide⟩,⟨⟨by decide,fun i y hi=>by simp at hi⟩,by decide⟩,⟨⟨by decide,fun i y hi=>by simp at hi⟩,by decide⟩,by decide⟩;obtain rfl:i=0:=by simp at hi;exact hi
 simp at hy;simp[<-hy]
theorem K9:dU kg:=by
 refine⟨by decide,by decide,rfl,fun i hi=>?_,fun x hx=>?_,fun i hi=>?_⟩
 ·obtain rfl:i=0:=by simp[kg]at hi;omega
  show (fD 0 0 [jk]&&(decide ((0:Int)=0)&&(decide ((0:Int)=((0:Nat):Int))&&jH 0 0 [jk] [[],[0],[],[]])))=true
  rw[zz];rfl
 ·obtain rfl:x=⟨5,1,0⟩:=by simpa[kg] using hx
  rfl
 ·simp[kg]at hi
theorem JC{j:Nat}(hj:j<4):bH kg ⟨0,5,(j:Int),0⟩ []=true:=by
 refine ii.2 ⟨⟨5,1,0⟩,⟨0,0,[jk]⟩,[[],[0],[],[]],rfl,rfl,rfl,rfl,rfl,by simp only;omega,by simp only[xQ,List.length_nil];omega,?_,rfl⟩;simp only;rcases (by omega:j=0\/j=1\/j=2\/j=3) with rfl|rfl|rfl|rfl
 ·rw[gn zz (pg:=[]) rfl];rfl
 ·rw[gn zz (pg:=[0]) rfl];rfl
 ·rw[gn zz (pg:=[]) rfl];rfl
 ·rw[gn zz (pg:=[]) rfl];rfl
def Nr(j:Nat):dF:=⟨⟨0,(j:Int)⟩,1,⟨0,5,(j:Int),0⟩⟩
def Pe(j:Nat):Pg:=⟨5,(j:Int),10+(j:Int),[],⟨0,(j:Int)⟩⟩
def Dj(k:Nat):r6:=⟨(List.range k).map Nr,(List.range k).map Pe⟩
theorem Rk{j:Nat}(hj:j<k)(hk:k<=4):Ku (Dj k).sts ⟨0,(j:Int)⟩=some (Nr j):=by rcases (by omega:k=1\/k=2\/k=3\/k=4) with rfl|rfl|rfl|rfl<;>rcases (by omega:j=0\/j=1\/j=2\/j=3) with rfl|rfl|rfl|rfl<;>first|rfl|omega
theorem NE(hk:k<=4):KY kg (Dj k):=by
 refine PQ (iL.2 K9) ?_ ?_ ?_ ?_ ?_
 ·rcases (by omega:k=0\/k=1\/k=2\/k=3\/k=4) with rfl|rfl|rfl|rfl|rfl<;>simp[Dj,iT,Nr,bU,et,List.range,List.range.loop]
 ·intro x hx;obtain⟨j,_,rfl⟩:=zF.1 hx;exact⟨by simp[Nr],by simp[Nr]⟩
 ·rcases (by omega:k=0\/k=1\/k=2\/k=3\/k=4) with rfl|rfl|rfl|rfl|rfl<;>rfl
 ·rcases (by omega:k=0\/k=1\/k=2\/k=3\/k=4) with rfl|rfl|rfl|rfl|rfl<;>simp[Dj,iT,Pe,dW,List.range,List.range.loop]
 ·intro q hq;obtain⟨j,hj,rfl⟩:=zF.1 hq;have hjk:=yX.1 hj;rw[Mz (x:=⟨5,1,0⟩) (y:=Nr j) rfl (Rk hjk hk)];have h1:(Nr j).lab=⟨kg.num,(Pe j).cand,(Pe j).page,0⟩:=rfl;rw[show decide ((Nr j).state=1)=true from rfl,decide_eq_true h1];exact JC (by omega)
theorem O8:kg.xp.map (gt kg (Dj 2))=[⟨5,2,[2,3]⟩]:=rfl
theorem PG:d7 kg (Dj 4) [⟨5,0,5,1,0,[10,11,12,13],[-1]⟩]=true:=by
 refine MQ (j7.2 (NE (by omega))) fun k hk=>?_;obtain rfl:k=0:=by simp at hk;omega
 rfl
theorem PH:Na kg (Dj 4) 6 3 2=0/\Ni kg (Dj 4) 6 3 2=[⟨5,0,5,1,0,[10,11,12,13],[-1]⟩]:=by have hb:=j7.2 (NE (k:=4) (by omega));have hv:j5 6 3 2=true:=rfl;exact⟨by unfold Na;rw[if_pos hb,if_pos hv],by unfold Ni;rw[if_pos ⟨hb,hv⟩];rfl⟩
def PT(q:Pg):List Value:=q.cells (C none 0 0)
theorem li{w:World}{base g e size n:Nat}{xs:List Value}(hb:Bk w g xs.toArray e)(hl:xs.length=n*size)(hg:base<=g)(hn:n<=1000):w.ownsRow base e size (C (some ⟨g,0,none⟩) n n) n xs :=
 ⟨hl,.inr ⟨g,n,xs.toArray,rfl,hg,hb,zX _,by unfold maxLen;omega,by simp[hl],by rw[<-hl];simp⟩⟩
structure Ll (wx:World) (b c:Nat):Prop where
 bc:b+2<=c
 p0:Bk wx b jk.cells.toArray 119
 p2:Bk wx c #[A B 0,A B 0,C (some ⟨b,0,none⟩) 1 1] 64
 p3:Bk wx (c+1) #[A B 0] 3
 p4:Bk wx (c+1+1) #[C none 0 0,C (some ⟨c+1,0,none⟩) 1 1,C none 0 0,C none 0 0] 22
 p5:Bk wx (c+1+1+1) #[C (some ⟨c+1+1,0,none⟩) 4 4] 61
 p6:Bk wx (c+1+1+1+1) #[A B 5,A B 1,A B 0] 56
theorem Ll.isSit{wx:World}{b c:Nat}(h:Ll wx b c):aR (b+1) wx (.agg #[A B 0,C (some ⟨c,0,none⟩) 1 1,C (some ⟨c+1+1+1,0,none⟩) 1 1,C (some ⟨c+1+1+1+1,0,none⟩) 1 1]) kg:=by
 have hbc:=h.bc;have hI0:ak (b+1) wx (C (some ⟨c+1,0,none⟩) 1 1) [0]:=ak.of_own (e:=3) (base:=b+2) (li (xs:=[A B 0]) h.p3 rfl (by omega) (by omega)) (by omega) (by decide) (by simp);have hP:oa (b+1) wx (C (some ⟨b,0,none⟩) 1 1) [jk]:=by
  refine⟨some ⟨b,0,none⟩,1,rfl,zX _,by omega,fun k x hx=>?_⟩;obtain⟨rfl,rfl⟩:k=0/\x=jk:=by have h1:=(zY.1 hx).1;simp at h1;subst h1;simp at hx;exact⟨rfl,hx.symm⟩
  refine⟨b,0,jk.cells,rfl,by omega,rfl,fun j u hu=>?_,rfl,?_⟩
  ·rw[show 0+0*6+j=j by omega];exact h.p0.cell (by simpa using hu)
  ·exact⟨by decide,by decide⟩
 have hB:oc (b+1) wx (C (some ⟨c+1+1,0,none⟩) 4 4) [[],[0],[],[]]:=by
  refine bj.of_own (e:=22) (base:=b+2) [[C none 0 0],[C (some ⟨c+1,0,none⟩) 1 1],[C none 0 0],[C none 0 0]] (fun cs hcs=>?_) (by decide) rfl (li (xs:=[C none 0 0,C (some ⟨c+1,0,none⟩) 1 1,C none 0 0,C none 0 0]) h.p4 rfl (by omega) (by omega)) (by omega) fun k cs x hc hx=>?_
  ·simp only[yM,wL,or_false]at hcs;rcases hcs with rfl|rfl|rfl|rfl<;>rfl
  ·rcases (show k=0\/k=1\/k=2\/k=3 by have:=(zY.1 hx).1;simp at this;omega) with rfl|rfl|rfl|rfl<;>(simp at hc hx;subst hc;subst hx)
   ·exact⟨_,rfl,ak.nil _ _⟩
   ·exact⟨_,rfl,hI0⟩
   ·exact⟨_,rfl,ak.nil _ _⟩
   ·exact⟨_,rfl,ak.nil _ _⟩
 refine⟨_,_,_,rfl,?_,?_,?_,by decide,by decide⟩
 ·refine bj.of_own (e:=64) (base:=b+2) [[A B 0,A B 0,C (some ⟨b,0,none⟩) 1 1]] (fun cs hcs=>by simp at hcs;subst hcs;rfl) (by decide) rfl (li (xs:=[A B 0,A B 0,C (some ⟨b,0,none⟩) 1 1]) h.p2 rfl (by omega) (by omega)) (by omega) fun k cs x hc hx=>?_;obtain rfl:k=0:=by have:=(zY.1 hc).1;simp at this;exact this
  simp[kg]at hc hx;subst hc;subst hx;exact⟨_,rfl,hP,⟨by decide,by decide⟩,⟨by decide,by decide⟩⟩
 ·refine bj.of_own (e:=61) (base:=b+2) [[C (some ⟨c+1+1,0,none⟩) 4 4]] (fun cs hcs=>by simp at hcs;subst hcs;rfl) (by decide) rfl (li (xs:=[C (some ⟨c+1+1,0,none⟩) 4 4]) h.p5 rfl (by omega) (by omega)) (by omega) fun k cs x hc hx=>?_;obtain rfl:k=0:=by have:=(zY.1 hc).1;simp at this;exact this
  simp[kg]at hc hx;subst hc;subst hx;exact⟨_,rfl,hB⟩
 ·refine bj.of_own (e:=56) (base:=b+2) [[A B 5,A B 1,A B 0]] (fun cs hcs=>by simp at hcs;subst hcs;rfl) (by decide) rfl (li (xs:=[A B 5,A B 1,A B 0]) h.p6 rfl (by omega) (by omega)) (by omega) fun k cs x hc hx=>?_;obtain rfl:k=0:=by have:=(zY.1 hc).1;simp at this;exact this
  simp[kg]at hc hx;subst hc;subst hx;exact⟨rfl,by decide,by decide,by decide⟩
structure P5 (w:World) (base:Nat) (vS vG:Value) (k:Nat):Prop where
 s:da base 103 7 dF.cells w vS (Dj k).sts
 g:da base 80 6 PT w vG (Dj k).pgs
theorem P5.isItk{w:World}{base p:Nat}{vS vG:Value}(h:P5 w base vS vG k)(hp:p<base)(hk:k<=4):aK p w (.agg #[vS,vG]) (Dj k):=by
 refine⟨_,_,rfl,da.isS h.s hp (by decide) (fun x _=>rfl) (fun x hx=>?_),da.isS h.g hp (by decide) (fun x _=>rfl) (fun x hx=>?_)⟩
 ·obtain⟨j,hj,rfl⟩:=zF.1 hx;have:=yX.1 hj;refine⟨rfl,?_⟩;unfold dF.wf gT.wf cJ.wf aU;simp only[Nr];and_intros<;>omega
 ·obtain⟨j,hj,rfl⟩:=zF.1 hx;have:=yX.1 hj;refine⟨_,rfl,ak.nil _ _,?_⟩;unfold Pg.wf gT.wf aU;simp only[Pe,List.length_nil];and_intros<;>omega
theorem P5.ext{w w':World}{base k:Nat}{vS vG:Value}(h:P5 w base vS vG k)(hx:ab w w'):P5 w' base vS vG k:=⟨h.s.ext hx,h.g.ext hx⟩
theorem OG(k:Nat):(Dj (k+1)).sts=(Dj k).sts++[Nr k]:=by unfold Dj;simp only;rw[xP,yG];rfl
theorem OJ(k:Nat):(Dj (k+1)).pgs=(Dj k).pgs++[Pe k]:=by unfold Dj;simp only;rw[xP,yG];rfl
theorem la(k:Nat):(Dj k).sts.length=k/\(Dj k).pgs.length=k:=by unfold Dj;simp
theorem wS(w:World):Calls prog 13 #[] w fun e w'=>e=.returned (.bool true)/\ab w w':=by
 obtain⟨iS,hiS,hS0,hS1,hS2⟩:=info_parts Tryz.infoSst;obtain⟨iG,hiG,hG0,hG1,hG2⟩:=info_parts Tryz.infoPg;go_enter func13,ntmps13
 go_upto_region 2 with (fail)
 obtain⟨w2,hw2⟩:=nm (((w.alloc (.cells #[.int .i64 1,.int .i64 3,.int .i64 0,.int .i64 0,.int .i64 0,.int .i64 0] 119)).alloc (.cells #[.int .i64 0,.int .i64 0,C (some ⟨w.heap.size,0,none⟩) 1 1] 64)):World);have HE2:Bx (ab w w2):=⟨by rw[hw2];exact ((zE w).alloc _).alloc _⟩
 have HB0:Bx (Bk w2 w.heap.size #[.int .i64 1,.int .i64 3,.int .i64 0,.int .i64 0,.int .i64 0,.int .i64 0] 119):=⟨by rw[hw2];exact (Bk.new w _ _).alloc _⟩
 have HB1:Bx (Bk w2 (w.heap.size+1) #[.int .i64 0,.int .i64 0,C (some ⟨w.heap.size,0,none⟩) 1 1] 64):=⟨by rw[hw2];have h:=Bk.new (w.alloc (.cells #[.int .i64 1,.int .i64 3,.int .i64 0,.int .i64 0,.int .i64 0,.int .i64 0] 119)) #[.int .i64 0,.int .i64 0,C (some ⟨w.heap.size,0,none⟩) 1 1] 64;simpa using h⟩
 have HC2:Bx (w2.heap.size=w.heap.size+2):=⟨by rw[hw2];simp⟩
 rw[<-hw2];clear hw2;have p0:=HB1.out.c 0 rfl;have p1:=HB1.out.c 1 rfl;have p2:=HB1.out.c 2 rfl;go_upto_region 3 with (fail)
 obtain⟨c,hc⟩:=nm w2.heap.size;have ho:∀(W:World) cs t,(W.alloc (.cells cs t)).heap.size=W.heap.size+1:=fun W cs t=>by simp
 obtain⟨w3,hw3⟩:=nm ((((((((w2.alloc (.cells #[.int .i64 0,.int .i64 0,C (some ⟨w.heap.size,0,none⟩) 1 1] 64)).alloc (.cells #[.int .i64 0] 3)).alloc (.cells #[C none 0 0,C (some ⟨w2.heap.size+1,0,none⟩) 1 1,C none 0 0,C none 0 0] 22)).alloc (.cells #[C (some ⟨w2.heap.size+1+1,0,none⟩) 4 4] 61)).alloc (.cells #[.int .i64 5,.int .i64 1,.int .i64 0] 56))).alloc (.cells #[.int .i64 0,C (some ⟨w2.heap.size,0,none⟩) 1 1,C (some ⟨w2.heap.size+1+1+1,0,none⟩) 1 1,C (some ⟨w2.heap.size+1+1+1+1,0,none⟩) 1 1] 29)):World);have HF3:Bx (aA w2 w3 [(c,#[.int .i64 0,.int .i64 0,C (some ⟨w.heap.size,0,none⟩) 1 1],64),(c+1,#[.int .i64 0],3),(c+1+1,#[C none 0 0,C (some ⟨c+1,0,none⟩) 1 1,C none 0 0,C none 0 0],22),(c+1+1+1,#[C (some ⟨c+1+1,0,none⟩) 4 4],61),(c+1+1+1+1,#[.int .i64 5,.int .i64 1,.int .i64 0],56),(c+1+1+1+1+1,#[.int .i64 0,C (some ⟨c,0,none⟩) 1 1,C (some ⟨c+1+1+1,0,none⟩) 1 1,C (some ⟨c+1+1+1+1,0,none⟩) 1 1],29)]):=⟨by rw[hw3,hc];exact ((((((aA.start w2).push _ _ rfl).push _ _ (by simp)).push _ _ (by simp)).push _ _ (by simp)).push _ _ (by simp)).push _ _ (by simp)⟩
 have hsz:w3.heap.size=c+1+1+1+1+1+1:=by rw[hw3,hc];simp
 rw[<-hw3,<-hc];obtain⟨gs,hgs⟩:=nm (c+1+1+1+1+1);have HSM:Bx (Ll w3 w.heap.size c):=⟨⟨by have:=HC2.out;omega,HB0.out.ext HF3.out.xt,HF3.out.at_ 0 rfl,HF3.out.at_ 1 rfl,HF3.out.at_ 2 rfl,HF3.out.at_ 3 rfl,HF3.out.at_ 4 rfl⟩⟩
 have HSI:=zZ (aR.re HSM.out.isSit (zX _));have HE3:=zZ (HE2.out.trans HF3.out.xt);have HBS:Bx (Bk w3 gs #[.int .i64 0,C (some ⟨c,0,none⟩) 1 1,C (some ⟨c+1+1+1,0,none⟩) 1 1,C (some ⟨c+1+1+1+1,0,none⟩) 1 1] 29):=⟨by rw[hgs];exact HF3.out.at_ 5 rfl⟩
 have HGW:Bx (w.heap.size<=gs):=⟨by have:=HC2.out;omega⟩
 rw[<-hgs];have HS3:Bx (w3.heap.size=gs+1):=⟨by rw[hsz,hgs]⟩
 clear hw3 hc hsz hgs HF3 HSM HB0 HB1 HE2 p0 p1 p2 ho HC2;go_upto_region 4 with (fail)
 obtain⟨gi,hgi⟩:=nm w3.heap.size;obtain⟨w4,hw4⟩:=nm ((w3.alloc (.cells #[C none 0 0,C none 0 0] 45)):World);have HF4:Bx (aA w w4 [(gs,#[.int .i64 0,C (some ⟨c,0,none⟩) 1 1,C (some ⟨c+1+1+1,0,none⟩) 1 1,C (some ⟨c+1+1+1+1,0,none⟩) 1 1],29),(gi,#[C none 0 0,C none 0 0],45)]):=⟨by rw[hw4];have h0:aA w w3 [(gs,#[.int .i64 0,C (some ⟨c,0,none⟩) 1 1,C (some ⟨c+1+1+1,0,none⟩) 1 1,C (some ⟨c+1+1+1+1,0,none⟩) 1 1],29)]:=aA.add (L:=[]) ⟨HE3.out,dV.nil _ _⟩ HBS.out HGW.out (fun k x hk=>by simp at hk);exact h0.push _ _ hgi.symm⟩
 have HSI4:Bx (aR gi w4 (.agg #[.int .i64 0,C (some ⟨c,0,none⟩) 1 1,C (some ⟨c+1+1+1,0,none⟩) 1 1,C (some ⟨c+1+1+1+1,0,none⟩) 1 1]) kg):=⟨by rw[hw4,hgi];exact HSI.out.ext ((zE _).alloc _)⟩
 have HS4:Bx (w4.heap.size=gi+1):=⟨by rw[hw4,hgi];simp⟩
 rw[<-hw4,<-hgi];clear hw4 hgi HE3 HSI HBS HGW HS3;go_wp2_with fail;go_loopw [4] (fun s4 wr=>∃(k:Nat) (vS vG:Value),s4=.int .i64 k/\k<=4/\Bx (aA w wr [(gs,#[.int .i64 0,C (some ⟨c,0,none⟩) 1 1,C (some ⟨c+1+1+1,0,none⟩) 1 1,C (some ⟨c+1+1+1+1,0,none⟩) 1 1],29),(gi,#[vS,vG],45)]/\XT gi w4 wr/\P5 wr (gi+1) vS vG k)) (fun k _=>4-(intOf k).toNat)
 case atStart=>exact⟨0,C none 0 0,C none 0 0,rfl,by omega,⟨⟨HF4.out,XT.refl _ _,⟨da.nil,da.nil⟩⟩⟩⟩
 case round =>
  obtain⟨k,vS,vG,rfl,hk,HR⟩:=hrel;obtain⟨AS,cS,hu⟩:=HR.out.2.2.s.form;obtain⟨AG,cG,hu2⟩:=HR.out.2.2.g.form;rw[(la k).1]at hu;rw[(la k).2]at hu2;subst hu hu2;have HFr:Bx (aA w wr [(gs,#[.int .i64 0,C (some ⟨c,0,none⟩) 1 1,C (some ⟨c+1+1+1,0,none⟩) 1 1,C (some ⟨c+1+1+1+1,0,none⟩) 1 1],29),(gi,#[C AS k cS,C AG k cG],45)]):=⟨HR.out.1⟩
  have HXr:Bx (XT gi w4 wr):=⟨HR.out.2.1⟩
  have HRr:Bx (P5 wr (gi+1) (C AS k cS) (C AG k cG) k):=⟨HR.out.2.2⟩
  clear HR HF4;by_cases hk4:k<4
  ·by_cases hk2:k=2
   ·have hkb:((k:Int)==2)=true:=by simp[hk2]
    have HK2:=zZ hk2;clear hk2;obtain⟨z0,z1,z2,z3⟩:=(HFr.out.at_ 0 rfl).p4 rfl;obtain⟨j0,j1⟩:=(HFr.out.at_ 1 rfl).p2 rfl;have hcon:M4=M4:=rfl;clear hcon;have HST:Bx (Calls prog 15 #[.agg #[.int .i64 0,C (some ⟨c,0,none⟩) 1 1,C (some ⟨c+1+1+1,0,none⟩) 1 1,C (some ⟨c+1+1+1+1,0,none⟩) 1 1],.agg #[C AS k cS,C AG k cG]] wr (M4 wr 0 [⟨5,2,[2,3]⟩])):=⟨by have hr2:∀(vS vG:Value) (j:Nat),j=2->P5 wr (gi+1) vS vG j->P5 wr (gi+1) vS vG 2:=fun vS vG j e h=>e▸h;have h:=MG (.agg #[.int .i64 0,C (some ⟨c,0,none⟩) 1 1,C (some ⟨c+1+1+1,0,none⟩) 1 1,C (some ⟨c+1+1+1+1,0,none⟩) 1 1]) (.agg #[C AS k cS,C AG k cG]) kg (Dj 2) wr (p:=gi) (by have:=HS4.out;have:=HXr.out.size;omega) (HSI4.out.xt HXr.out) ((hr2 _ _ k HK2.out HRr.out).isItk (by omega) (by omega)) (by decide) (by decide);rw[if_pos (j7.2 (NE (by omega))),if_pos (j7.2 (NE (by omega))),O8]at h;exact h⟩
    go_upto_region 9 with (go_at_call 15;refine HST.out.mono ?_;rintro e w5 ⟨⟨vr,ys,rfl,hrow,hys⟩,hx5⟩)
    have hrs:=hrow.isS (p:=gi) (by have:=HS4.out;have:=HXr.out.size;omega);rw[hys]at hrs;obtain⟨A5,n5,c5,rfl,-,-,-,HN5⟩:=hrs.open_;obtain rfl:n5=1:=by have:=HN5.out;simpa using this.symm
    obtain⟨b9,o9,_,_,rfl,-⟩:=hrs.at_ (show 0<1 by omega);obtain⟨cs,x,-,hcc,⟨u,hcs,hiu⟩,HX⟩:=hrs.cell_ (show 0<1 by omega);have hx:x=⟨5,2,[2,3]⟩:=by have:=HX.out;simp at this;exact this.symm
    subst hx;obtain⟨A6,n6,c6,rfl,-⟩:=hiu.open_;have e1:w5.cell? ⟨b9,o9+1,none⟩=some (.int .i64 2):=by have h:=hcc 1 (.int .i64 2) (by rw[hcs];rfl);simpa using h
    have e2:w5.cell? ⟨b9,o9+2,none⟩=some (C A6 n6 c6):=by have h:=hcc 2 (C A6 n6 c6) (by rw[hcs];rfl);simpa using h
    have HIU:=zZ hiu;have HF5:=zZ (HFr.out.ext hx5);have HX5:=zZ (HXr.out.ext hx5);have HR5:=zZ (HRr.out.ext hx5);have e2':(w5.alloc (.cells #[.int .i64 2,.int .i64 3] 3)).cell? ⟨b9,o9+2,none⟩=some (C A6 n6 c6):=((zE w5).alloc _).cell e2;clear hrow hys hrs hcc hcs hiu HX HN5 HST hx5 HFr HXr HRr z0 z1 z2 z3 j0 j1;go_upto_region 11 with (go_at_call 16;refine (rP _ _ [2,3] [2,3] _ (HIU.out.ext ((zE w5).alloc _)) (ak.lit (p:=gi) [2,3] 3 (by have:=HS4.out;have:=HX5.out.size;omega) (by decide) (by decide))).mono ?_;rintro e w6 ⟨rfl,hx6⟩;have HF6:=zZ ((HF5.out.ext ((zE _).alloc _)).ext hx6);have HX6:=zZ ((HX5.out.alloc _).ext hx6);have HR6:=zZ ((HR5.out.ext ((zE _).alloc _)).ext hx6))
    clear HF5 HX5 HR5 HIU e1 e2 e2';obtain⟨gd,hgd⟩:=nm w6.heap.size;go_upto_region 12 with (fail)
    obtain⟨w7,hw7⟩:=nm ((w6.alloc (.cells #[.int .i64 0,.int .i64 k] 37)):World);have HF7:Bx (aA w w7 [(gs,#[.int .i64 0,C (some ⟨c,0,none⟩) 1 1,C (some ⟨c+1+1+1,0,none⟩) 1 1,C (some ⟨c+1+1+1+1,0,none⟩) 1 1],29),(gi,#[C AS k cS,C AG k cG],45)]):=⟨by rw[hw7];exact HF6.out.ext ((zE _).alloc _)⟩
    have HX7:Bx (XT gi w4 w7):=⟨by rw[hw7];exact HX6.out.alloc _⟩
    have HR7:Bx (P5 w7 (gi+1) (C AS k cS) (C AG k cG) k):=⟨by rw[hw7];exact HR6.out.ext ((zE _).alloc _)⟩
    have HD7:Bx (Bk w7 gd #[.int .i64 0,.int .i64 k] 37):=⟨by rw[hw7,hgd];exact Bk.new _ _ _⟩
    have HGD:Bx (gd≠gi):=⟨by have:=HF6.out.bl.lt 1 rfl;omega⟩
    rw[<-hw7,<-hgd];clear hw7 hgd HF6 HX6 HR6;have d0:=HD7.out.c 0 rfl;have d1:=HD7.out.c 1 rfl;have j0:=(HF7.out.at_ 1 rfl).c 0 rfl;have f0:=(HF7.out.at_ 1 rfl).froz;have HW4:Bx (w.heap.size<=gi+1):=⟨by have:=HF7.out.bl.ge 1 rfl;omega⟩
    have HW7:Bx (gi+1<=w7.heap.size):=⟨by have:=HS4.out;have:=HX7.out.size;omega⟩
    have HO7:=zZ (show w7.ownsRow (gi+1) 103 7 (C AS k cS) k ((Dj k).sts.map dF.cells).flatten from by have h:=HR7.out.s.own;rw[(la k).1]at h;exact h);go_upto_region 13 with (at_builtin;go_loud (refine cZ _ rfl (.tmp 60) (.tmp 65) 42 rfl (gi+1) 103 iS _ 7 56 underlying42 hiS hS0 hS1 hS2 rfl (by omega) (C AS k cS) k ((Dj k).sts.map dF.cells).flatten rfl (ao HO7.out ((zE _).alloc _)) _ #[.int .i64 0,.int .i64 k,.int .i64 1,.int .i64 0,.int .i64 5,.int .i64 k,.int .i64 0] _ rfl (heap_alloc_new _ _) rfl (by simp[Value.oneCell']) (by omega) (by omega) (by have:=HW7.out;simp;omega) ?_;intro v8 w8 hown8 hg8;obtain⟨g8,c8,rfl,-,-⟩:=di hown8 (by omega);have HF8:=zZ ((HF7.out.ext ((zE _).alloc _)).grownT (ao HO7.out ((zE _).alloc _)) hg8 HW4.out rfl);have HX8:=zZ ((HX7.out.alloc _).grown hg8 (fun k' hk'=>by have h1:=aq HO7.out k' hk';have:=HS4.out;omega));have HS8:Bx (da (gi+1) 103 7 dF.cells w8 (C (some ⟨g8,0,none⟩) (k+1) c8) (Dj (k+1)).sts):=⟨by rw[OG];exact da.push (by rw[(la k).1];exact hown8)⟩;have HG8:Bx (da (gi+1) 80 6 PT w8 (C AG k cG) (Dj k).pgs):=⟨cO (HR7.out.g.ext ((zE _).alloc _)).own (ao HO7.out ((zE _).alloc _)) (by decide) hg8⟩;have HD8:=zZ (eo (HD7.out.ext ((zE _).alloc _)) (ao HO7.out ((zE _).alloc _)) (by decide) hg8);clear hown8 hg8 j0 f0 d0 d1;have j0:=(HF8.out.at_ 1 rfl).c 0 rfl;have f0:=(HF8.out.at_ 1 rfl).froz 0))
    have hF9:=HF8.out.set 1 rfl 0 (C (some ⟨g8,0,none⟩) (k+1) c8);have hX9:=HX8.out.setCell (a:=⟨gi,0,none⟩) rfl (C (some ⟨g8,0,none⟩) (k+1) c8);have hS9:=aN (a:=⟨gi,0,none⟩) HS8.out.own (fun e=>by have:=(HS8.out.own.lt _ e).1;simp only at this;omega) (C (some ⟨g8,0,none⟩) (k+1) c8);have hG9:=aN (a:=⟨gi,0,none⟩) HG8.out.own (fun e=>by have:=(HG8.out.own.lt _ e).1;simp only at this;omega) (C (some ⟨g8,0,none⟩) (k+1) c8);have hD9:=HD8.out.far (a:=⟨gi,0,none⟩) (HGD.out) (C (some ⟨g8,0,none⟩) (k+1) c8);obtain⟨w9,hw9⟩:=nm ((w8.setCell ⟨gi,0,none⟩ (C (some ⟨g8,0,none⟩) (k+1) c8)):World);rw[<-hw9]at hF9 hX9 hS9 hG9 hD9;rw[<-hw9];have HF9:Bx (aA w w9 [(gs,#[.int .i64 0,C (some ⟨c,0,none⟩) 1 1,C (some ⟨c+1+1+1,0,none⟩) 1 1,C (some ⟨c+1+1+1+1,0,none⟩) 1 1],29),(gi,#[C (some ⟨g8,0,none⟩) (k+1) c8,C AG k cG],45)]):=⟨hF9⟩
    have HX9:=zZ hX9;have HS9:Bx (da (gi+1) 103 7 dF.cells w9 (C (some ⟨g8,0,none⟩) (k+1) c8) (Dj (k+1)).sts):=⟨hS9⟩
    have HG9:Bx (da (gi+1) 80 6 PT w9 (C AG k cG) (Dj k).pgs):=⟨hG9⟩
    have HD9:Bx (Bk w9 gd #[.int .i64 0,.int .i64 k] 37):=⟨hD9⟩
    clear hw9 hF9 hX9 hS9 hG9 hD9 HF8 HX8 HS8 HG8 HD8 HF7 HX7 HR7 HD7 HO7 j0 f0;have d0:=HD9.out.c 0 rfl;have d1:=HD9.out.c 1 rfl;have j1:=(HF9.out.at_ 1 rfl).c 1 rfl;have HW9:Bx (gi+1<=w9.heap.size):=⟨by have:=HS4.out;have:=HX9.out.size;omega⟩
    have HO9:=zZ (show w9.ownsRow (gi+1) 80 6 (C AG k cG) k ((Dj k).pgs.map PT).flatten from by have h:=HG9.out.own;rw[(la k).2]at h;exact h);go_wp2_with (at_builtin;go_loud (refine cZ _ rfl (.tmp 69) (.tmp 75) 43 rfl (gi+1) 80 iG _ 6 64 underlying43 hiG hG0 hG1 hG2 rfl (by omega) (C AG k cG) k ((Dj k).pgs.map PT).flatten rfl (ao HO9.out ((zE _).alloc _)) _ #[.int .i64 5,.int .i64 k,.int .i64 (10+(k:Int)),C none 0 0,.int .i64 0,.int .i64 k] _ rfl (heap_alloc_new _ _) rfl (by simp[Value.oneCell']) (by omega) (by omega) (by have:=HW9.out;simp;omega) ?_;intro v10 w10 hown10 hg10;obtain⟨g10,c10,rfl,-,-⟩:=di hown10 (by omega);have HF10:=zZ ((HF9.out.ext ((zE _).alloc _)).grownT (ao HO9.out ((zE _).alloc _)) hg10 HW4.out rfl);have HX10:=zZ ((HX9.out.alloc _).grown hg10 (fun k' hk'=>by have h1:=aq HO9.out k' hk';have:=HS4.out;omega));have HG10:Bx (da (gi+1) 80 6 PT w10 (C (some ⟨g10,0,none⟩) (k+1) c10) (Dj (k+1)).pgs):=⟨by rw[OJ];exact da.push (by rw[(la k).2];exact hown10)⟩;have HS10:Bx (da (gi+1) 103 7 dF.cells w10 (C (some ⟨g8,0,none⟩) (k+1) c8) (Dj (k+1)).sts):=⟨cO (HS9.out.ext ((zE _).alloc _)).own (ao HO9.out ((zE _).alloc _)) (by decide) hg10⟩;clear hown10 hg10 d0 d1 j1;have j1:=(HF10.out.at_ 1 rfl).c 1 rfl;have f1:=(HF10.out.at_ 1 rfl).froz 1));have hF11:=HF10.out.set 1 rfl 1 (C (some ⟨g10,0,none⟩) (k+1) c10);have hX11:=HX10.out.setCell (a:=⟨gi,1,none⟩) rfl (C (some ⟨g10,0,none⟩) (k+1) c10);have hS11:=aN (a:=⟨gi,1,none⟩) HS10.out.own (fun e=>by have:=(HS10.out.own.lt _ e).1;simp only at this;omega) (C (some ⟨g10,0,none⟩) (k+1) c10);have hG11:=aN (a:=⟨gi,1,none⟩) HG10.out.own (fun e=>by have:=(HG10.out.own.lt _ e).1;simp only at this;omega) (C (some ⟨g10,0,none⟩) (k+1) c10);go_roundw
    case rel=>exact⟨k+1,_,_,by go_num,by omega,⟨⟨hF11,hX11,⟨hS11,hG11⟩⟩⟩⟩
    case measure=>simp[intOf];omega
   ·have hkb:((k:Int)==2)=false:=by simp;omega
    go_upto_region 11 with (fail)
    have HF6:=HFr;have HX6:=HXr;have HR6:=HRr;clear HFr HXr HRr;obtain⟨gd,hgd⟩:=nm wr.heap.size;go_upto_region 12 with (fail)
    obtain⟨w7,hw7⟩:=nm ((wr.alloc (.cells #[.int .i64 0,.int .i64 k] 37)):World);have HF7:Bx (aA w w7 [(gs,#[.int .i64 0,C (some ⟨c,0,none⟩) 1 1,C (some ⟨c+1+1+1,0,none⟩) 1 1,C (some ⟨c+1+1+1+1,0,none⟩) 1 1],29),(gi,#[C AS k cS,C AG k cG],45)]):=⟨by rw[hw7];exact HF6.out.ext ((zE _).alloc _)⟩
    have HX7:Bx (XT gi w4 w7):=⟨by rw[hw7];exact HX6.out.alloc _⟩
    have HR7:Bx (P5 w7 (gi+1) (C AS k cS) (C AG k cG) k):=⟨by rw[hw7];exact HR6.out.ext ((zE _).alloc _)⟩
    have HD7:Bx (Bk w7 gd #[.int .i64 0,.int .i64 k] 37):=⟨by rw[hw7,hgd];exact Bk.new _ _ _⟩
    have HGD:Bx (gd≠gi):=⟨by have:=HF6.out.bl.lt 1 rfl;omega⟩
    rw[<-hw7,<-hgd];clear hw7 hgd HF6 HX6 HR6;have d0:=HD7.out.c 0 rfl;have d1:=HD7.out.c 1 rfl;have j0:=(HF7.out.at_ 1 rfl).c 0 rfl;have f0:=(HF7.out.at_ 1 rfl).froz;have HW4:Bx (w.heap.size<=gi+1):=⟨by have:=HF7.out.bl.ge 1 rfl;omega⟩
    have HW7:Bx (gi+1<=w7.heap.size):=⟨by have:=HS4.out;have:=HX7.out.size;omega⟩
    have HO7:=zZ (show w7.ownsRow (gi+1) 103 7 (C AS k cS) k ((Dj k).sts.map dF.cells).flatten from by have h:=HR7.out.s.own;rw[(la k).1]at h;exact h);go_upto_region 13 with (at_builtin;go_loud (refine cZ _ rfl (.tmp 60) (.tmp 65) 42 rfl (gi+1) 103 iS _ 7 56 underlying42 hiS hS0 hS1 hS2 rfl (by omega) (C AS k cS) k ((Dj k).sts.map dF.cells).flatten rfl (ao HO7.out ((zE _).alloc _)) _ #[.int .i64 0,.int .i64 k,.int .i64 1,.int .i64 0,.int .i64 5,.int .i64 k,.int .i64 0] _ rfl (heap_alloc_new _ _) rfl (by simp[Value.oneCell']) (by omega) (by omega) (by have:=HW7.out;simp;omega) ?_;intro v8 w8 hown8 hg8;obtain⟨g8,c8,rfl,-,-⟩:=di hown8 (by omega);have HF8:=zZ ((HF7.out.ext ((zE _).alloc _)).grownT (ao HO7.out ((zE _).alloc _)) hg8 HW4.out rfl);have HX8:=zZ ((HX7.out.alloc _).grown hg8 (fun k' hk'=>by have h1:=aq HO7.out k' hk';have:=HS4.out;omega));have HS8:Bx (da (gi+1) 103 7 dF.cells w8 (C (some ⟨g8,0,none⟩) (k+1) c8) (Dj (k+1)).sts):=⟨by rw[OG];exact da.push (by rw[(la k).1];exact hown8)⟩;have HG8:Bx (da (gi+1) 80 6 PT w8 (C AG k cG) (Dj k).pgs):=⟨cO (HR7.out.g.ext ((zE _).alloc _)).own (ao HO7.out ((zE _).alloc _)) (by decide) hg8⟩;have HD8:=zZ (eo (HD7.out.ext ((zE _).alloc _)) (ao HO7.out ((zE _).alloc _)) (by decide) hg8);clear hown8 hg8 j0 f0 d0 d1;have j0:=(HF8.out.at_ 1 rfl).c 0 rfl;have f0:=(HF8.out.at_ 1 rfl).froz 0))
    have hF9:=HF8.out.set 1 rfl 0 (C (some ⟨g8,0,none⟩) (k+1) c8);have hX9:=HX8.out.setCell (a:=⟨gi,0,none⟩) rfl (C (some ⟨g8,0,none⟩) (k+1) c8);have hS9:=aN (a:=⟨gi,0,none⟩) HS8.out.own (fun e=>by have:=(HS8.out.own.lt _ e).1;simp only at this;omega) (C (some ⟨g8,0,none⟩) (k+1) c8);have hG9:=aN (a:=⟨gi,0,none⟩) HG8.out.own (fun e=>by have:=(HG8.out.own.lt _ e).1;simp only at this;omega) (C (some ⟨g8,0,none⟩) (k+1) c8);have hD9:=HD8.out.far (a:=⟨gi,0,none⟩) (HGD.out) (C (some ⟨g8,0,none⟩) (k+1) c8);obtain⟨w9,hw9⟩:=nm ((w8.setCell ⟨gi,0,none⟩ (C (some ⟨g8,0,none⟩) (k+1) c8)):World);rw[<-hw9]at hF9 hX9 hS9 hG9 hD9;rw[<-hw9];have HF9:Bx (aA w w9 [(gs,#[.int .i64 0,C (some ⟨c,0,none⟩) 1 1,C (some ⟨c+1+1+1,0,none⟩) 1 1,C (some ⟨c+1+1+1+1,0,none⟩) 1 1],29),(gi,#[C (some ⟨g8,0,none⟩) (k+1) c8,C AG k cG],45)]):=⟨hF9⟩
    have HX9:=zZ hX9;have HS9:Bx (da (gi+1) 103 7 dF.cells w9 (C (some ⟨g8,0,none⟩) (k+1) c8) (Dj (k+1)).sts):=⟨hS9⟩
    have HG9:Bx (da (gi+1) 80 6 PT w9 (C AG k cG) (Dj k).pgs):=⟨hG9⟩
    have HD9:Bx (Bk w9 gd #[.int .i64 0,.int .i64 k] 37):=⟨hD9⟩
    clear hw9 hF9 hX9 hS9 hG9 hD9 HF8 HX8 HS8 HG8 HD8 HF7 HX7 HR7 HD7 HO7 j0 f0;have d0:=HD9.out.c 0 rfl;have d1:=HD9.out.c 1 rfl;have j1:=(HF9.out.at_ 1 rfl).c 1 rfl;have HW9:Bx (gi+1<=w9.heap.size):=⟨by have:=HS4.out;have:=HX9.out.size;omega⟩
    have HO9:=zZ (show w9.ownsRow (gi+1) 80 6 (C AG k cG) k ((Dj k).pgs.map PT).flatten from by have h:=HG9.out.own;rw[(la k).2]at h;exact h);go_wp2_with (at_builtin;go_loud (refine cZ _ rfl (.tmp 69) (.tmp 75) 43 rfl (gi+1) 80 iG _ 6 64 underlying43 hiG hG0 hG1 hG2 rfl (by omega) (C AG k cG) k ((Dj k).pgs.map PT).flatten rfl (ao HO9.out ((zE _).alloc _)) _ #[.int .i64 5,.int .i64 k,.int .i64 (10+(k:Int)),C none 0 0,.int .i64 0,.int .i64 k] _ rfl (heap_alloc_new _ _) rfl (by simp[Value.oneCell']) (by omega) (by omega) (by have:=HW9.out;simp;omega) ?_;intro v10 w10 hown10 hg10;obtain⟨g10,c10,rfl,-,-⟩:=di hown10 (by omega);have HF10:=zZ ((HF9.out.ext ((zE _).alloc _)).grownT (ao HO9.out ((zE _).alloc _)) hg10 HW4.out rfl);have HX10:=zZ ((HX9.out.alloc _).grown hg10 (fun k' hk'=>by have h1:=aq HO9.out k' hk';have:=HS4.out;omega));have HG10:Bx (da (gi+1) 80 6 PT w10 (C (some ⟨g10,0,none⟩) (k+1) c10) (Dj (k+1)).pgs):=⟨by rw[OJ];exact da.push (by rw[(la k).2];exact hown10)⟩;have HS10:Bx (da (gi+1) 103 7 dF.cells w10 (C (some ⟨g8,0,none⟩) (k+1) c8) (Dj (k+1)).sts):=⟨cO (HS9.out.ext ((zE _).alloc _)).own (ao HO9.out ((zE _).alloc _)) (by decide) hg10⟩;clear hown10 hg10 d0 d1 j1;have j1:=(HF10.out.at_ 1 rfl).c 1 rfl;have f1:=(HF10.out.at_ 1 rfl).froz 1));have hF11:=HF10.out.set 1 rfl 1 (C (some ⟨g10,0,none⟩) (k+1) c10);have hX11:=HX10.out.setCell (a:=⟨gi,1,none⟩) rfl (C (some ⟨g10,0,none⟩) (k+1) c10);have hS11:=aN (a:=⟨gi,1,none⟩) HS10.out.own (fun e=>by have:=(HS10.out.own.lt _ e).1;simp only at this;omega) (C (some ⟨g10,0,none⟩) (k+1) c10);have hG11:=aN (a:=⟨gi,1,none⟩) HG10.out.own (fun e=>by have:=(HG10.out.own.lt _ e).1;simp only at this;omega) (C (some ⟨g10,0,none⟩) (k+1) c10);go_roundw
    case rel=>exact⟨k+1,_,_,by go_num,by omega,⟨⟨hF11,hX11,⟨hS11,hG11⟩⟩⟩⟩
    case measure=>simp[intOf];omega
  ·obtain rfl:k=4:=by omega
   obtain⟨z0,z1,z2,z3⟩:=(HFr.out.at_ 0 rfl).p4 rfl;obtain⟨j0,j1⟩:=(HFr.out.at_ 1 rfl).p2 rfl;have HAC:Bx (Calls prog 11 #[.agg #[.int .i64 0,C (some ⟨c,0,none⟩) 1 1,C (some ⟨c+1+1+1,0,none⟩) 1 1,C (some ⟨c+1+1+1+1,0,none⟩) 1 1],.agg #[C AS 4 cS,C AG 4 cG],.agg #[.int .i64 6,.int .i64 3,.int .i64 2]] wr (PY wr 0 [⟨5,0,5,1,0,[10,11,12,13],[-1]⟩])):=⟨by have h:=MD (.agg #[.int .i64 0,C (some ⟨c,0,none⟩) 1 1,C (some ⟨c+1+1+1,0,none⟩) 1 1,C (some ⟨c+1+1+1+1,0,none⟩) 1 1]) (.agg #[C AS 4 cS,C AG 4 cG]) kg (Dj 4) 6 3 2 wr (p:=gi) (by have:=HS4.out;have:=HXr.out.size;omega) (HSI4.out.xt HXr.out) (HRr.out.isItk (by omega) (by omega)) (by decide) (by decide);rw[PH.1,PH.2]at h;exact h⟩
   go_upto_region 15 with (go_at_call 11;refine HAC.out.mono ?_;rintro e w5 ⟨⟨vr,ys,rfl,hrow,hys⟩,hx5⟩)
   have hrs:=hrow.isS (p:=gi) (by have:=HS4.out;have:=HXr.out.size;omega);rw[hys]at hrs;have HRS:=zZ hrs;obtain⟨A5,n5,c5,rfl,-,-,-,HN5⟩:=hrs.open_;obtain rfl:n5=1:=by have:=HN5.out;simpa using this.symm
   obtain⟨b9,o9,_,_,rfl,-⟩:=hrs.at_ (show 0<1 by omega);obtain⟨cs,x,-,hcc,⟨u1,u2,hcs,hi1,hi2⟩,HX⟩:=hrs.cell_ (show 0<1 by omega);have hx:x=⟨5,0,5,1,0,[10,11,12,13],[-1]⟩:=by have:=HX.out;simp at this;exact this.symm
   subst hx;obtain⟨A6,n6,c6,rfl,-⟩:=hi1.open_;obtain⟨A7,n7,c7,rfl,-⟩:=hi2.open_;have e0:w5.cell? ⟨b9,o9,none⟩=some (.int .i64 5):=by have h:=hcc 0 (.int .i64 5) (by rw[hcs];rfl);simpa using h
   have e5:w5.cell? ⟨b9,o9+5,none⟩=some (C A6 n6 c6):=by have h:=hcc 5 (C A6 n6 c6) (by rw[hcs];rfl);simpa using h
   have e6:w5.cell? ⟨b9,o9+6,none⟩=some (C A7 n7 c7):=by have h:=hcc 6 (C A7 n7 c7) (by rw[hcs];rfl);simpa using h
   have HI1:=zZ hi1;have HI2:=zZ hi2;have HF5:=zZ (HFr.out.ext hx5);have HX5:=zZ (HXr.out.ext hx5);have HR5:=zZ (HRr.out.ext hx5);have e5':=((zE w5).alloc (.cells #[.int .i64 10,.int .i64 11,.int .i64 12,.int .i64 13] 3)).cell e5;clear hrow hys hrs hcc hcs hi1 hi2 HX HN5 HAC hx5 HFr HXr HRr z0 z1 z2 z3 j0 j1;go_wp2_with fail;refine (rP _ _ [10,11,12,13] [10,11,12,13] _ (HI1.out.ext ((zE w5).alloc _)) (ak.lit (p:=gi) [10,11,12,13] 3 (by have:=HS4.out;have:=HX5.out.size;omega) (by decide) (by decide))).mono ?_;rintro e w6 ⟨rfl,hx6⟩;have HE6:=zZ (((zE w5).alloc (.cells #[.int .i64 10,.int .i64 11,.int .i64 12,.int .i64 13] 3)).trans hx6);replace e6:=HE6.out.cell e6;have e6':=((zE w6).alloc (.cells #[.int .i64 (-1)] 3)).cell e6;rw[show decide ([10,11,12,13]=([10,11,12,13]:List Int))=true from decide_eq_true rfl];clear e0 e5 e5' hx6;go_wp2_with fail;refine (rP _ _ [-1] [-1] _ (HI2.out.ext (HE6.out.alloc _)) (ak.lit (p:=gi) [-1] 3 (by have:=HS4.out;have:=HX5.out.size;have:=HE6.out.size;omega) (by decide) (by decide))).mono ?_;rintro e w7 ⟨rfl,hx7⟩;rw[show decide ([-1]=([-1]:List Int))=true from decide_eq_true rfl];clear e6 e6';have HE7:=zZ (HE6.out.trans (((zE _).alloc _).trans hx7));have HF7:=zZ (HF5.out.ext HE7.out);obtain⟨z0,z1,z2,z3⟩:=(HF7.out.at_ 0 rfl).p4 rfl;obtain⟨j0,j1⟩:=(HF7.out.at_ 1 rfl).p2 rfl;go_wp2_with fail;refine (Nu _ _ _ kg (Dj 4) [⟨5,0,5,1,0,[10,11,12,13],[-1]⟩] _ (p:=gi) (by have:=HS4.out;have:=HX5.out.size;have:=HE7.out.size;omega) (HSI4.out.xt (HX5.out.ext HE7.out)) ((HR5.out.ext HE7.out).isItk (by omega) (by omega)) (HRS.out.ext (Pp.stab gi) HE7.out) (by decide) (by decide) (by decide)).mono ?_;rintro e w8 ⟨rfl,hx8⟩;rw[PG];go_wp2_with fail;go_ret
   exact⟨rfl,HF7.out.xt.trans hx8⟩
end Go.Proofs.YtpaidaphacoblaaGreatDoor

