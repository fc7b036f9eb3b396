import Derived.Test.YtjgfgdcaocbfhaaGreatH39
set_option linter.all false
set_option maxRecDepth 100000
set_option maxHeartbeats 0
namespace Go.Proofs.YtjgfgdcaocbfhaaGreat
open Go.RowKit _root_.Go.Proofs.Tryz
variable {p:Nat}
theorem pZ(v vi:Value)(s:aZ)(t:en)(d f ld:Int)(w:World)(hp:p<w.heap.size)(hs:aN p w v s)(ht:bN p w vi t)(hn1:t.sts.length≤1000)(hn2:t.pgs.length≤1000) :
  Calls prog 15 #[v,vi,.agg #[.int .i64 d,.int .i64 f,.int .i64 ld]] w (Ae w (mA s t d f ld) (kG s t d f ld)):=by
 obtain⟨i0,hi0,hz0,hz1,hz2⟩:=info_parts Tryz.infoI;obtain⟨iC,hiC,hC0,hC1,hC2⟩:=info_parts Tryz.infoScr;obtain⟨er,her⟩:=nm (mA s t d f ld:Int);obtain⟨lr,hlr⟩:=nm (kG s t d f ld:List oy);rw[←her,←hlr];have HER:=zZ her;have HLR:=zZ hlr;clear her hlr;have HS0:=zZ hs;have HT0:=zZ ht;obtain⟨vP,vB,vX,rfl,hP,hB,hX,hnum⟩:=hs;obtain⟨AP,nP,cP,rfl,-⟩:=hP.open_;obtain⟨AB,nB,cB,rfl,hnB,hcB,hmB,HLB⟩:=hB.open_;obtain⟨AX,nX,cX,rfl,hncX,hccX,hnnX,HLX⟩:=hX.open_;obtain⟨vS,vG,rfl,hS,hG⟩:=ht;obtain⟨AS,nS,cS,rfl,-⟩:=hS.open_;obtain⟨AG,nG,cG,rfl,-⟩:=hG.open_;have HX0:Bx (d7 p w (.slice AX nX cX) s.xp):=⟨hX⟩
 have HB0:Bx (gm p w (.slice AB nB cB) s.bk):=⟨hB⟩
 have HN:Bx (t.sts.length≤1000∧t.pgs.length≤1000):=⟨⟨hn1,hn2⟩⟩
 clear hP hB hX hnum hS hG hn1 hn2;obtain⟨w1,hw1⟩:=nm ((((w.alloc (.cells #[.int .i64 s.num,.slice AP nP cP,.slice AB nB cB,.slice AX nX cX] 27)).alloc (.cells #[.slice AS nS cS,.slice AG nG cG] 31)).alloc (.cells #[.int .i64 d,.int .i64 f,.int .i64 ld] 46)):World);have HF:Bx (ae w w1 [(w.heap.size,#[.int .i64 s.num,.slice AP nP cP,.slice AB nB cB,.slice AX nX cX],27),(w.heap.size+1,#[.slice AS nS cS,.slice AG nG cG],31),(w.heap.size+1+1,#[.int .i64 d,.int .i64 f,.int .i64 ld],46)]):=⟨by rw[hw1];exact (((ae.start w).push _ _ rfl).push _ _ (by simp)).push _ _ (by simp)⟩
 go_enter func15,ntmps15
 go_upto_region 1 with (fail)
 rw[←hw1];clear hw1;obtain⟨z0,z1,z2,z3⟩:=(HF.out.at_ 0 rfl).p4 rfl;obtain⟨i0,i1⟩:=(HF.out.at_ 1 rfl).p2 rfl;go_wp2_with fail;refine (gN _ _ s t _ (p:=p) (zP hp HF.out.xt.size) (HS0.out.ext HF.out.xt) (HT0.out.ext HF.out.xt) HN.out.1 HN.out.2).mono ?_;rintro e w2 ⟨rfl,hx2⟩;have HF2:=bx (HF.out.ext hx2);clear HF hx2 z0 z1 z2 z3 i0 i1;cases hb:aV s t with
 |false =>
  obtain rfl:er=1:=by rw[HER.out,mA,if_neg (by rw[hb];simp)]
  obtain rfl:lr=[]:=by rw[HLR.out,kG,if_neg (by rw[hb];simp)]
  clear hb;go_wp2_with fail;refine bodyPost_ret (v:=.tuple #[.slice none 0 0,.int .i64 1]) (by simp[results,results15,go_sem]) rfl ⟨⟨.slice none 0 0,[],rfl,dq.nil _ _,rfl⟩,HF2.out.xt⟩
 |true =>
 have HBEL:=zZ (eQ.1 hb);have HP:=zZ (fn hb);have hnX:nX≤60:=by have:=HP.out.1.len.2.2;have:=HLX.out;omega
 obtain⟨hsn1,hsn2⟩:=HP.out.1.num;obtain⟨hh0,hh1,hh2⟩:=(HF2.out.at_ 2 rfl).p3 rfl;go_wp2_with fail;refine (fm d f ld _).mono ?_;rintro e w3 ⟨rfl,hx3⟩;have HF3:=bx (HF2.out.ext hx3);clear HF2 hx3 hh0 hh1 hh2;cases hvl:dp d f ld with
 |false =>
  obtain rfl:er=2:=by rw[HER.out,mA,if_pos hb,if_neg (by rw[hvl];simp)]
  obtain rfl:lr=[]:=by rw[HLR.out,kG,if_neg (by rw[hvl];simp)]
  clear hb hvl;go_wp2_with fail;refine bodyPost_ret (v:=.tuple #[.slice none 0 0,.int .i64 2]) (by simp[results,results15,go_sem]) rfl ⟨⟨.slice none 0 0,[],rfl,dq.nil _ _,rfl⟩,HF3.out.xt⟩
 |true =>
 have HVL:=zZ hvl;obtain rfl:er=0:=by rw[HER.out,mA,if_pos hb,if_pos hvl]
 have HL2:=zZ (show lr=Do s t d f ld by rw[HLR.out,kG,if_pos ⟨hb,hvl⟩]);have hfd:=ll;clear hb hvl HER HLR;have z3:=(HF3.out.at_ 0 rfl).c 3 rfl;go_wp2_with fail;clear z3;go_loopw [8,27] (fun s8 s9 wr=>∃(k:Nat) (ys:List (oy×Value×Value)),s9=.int .i64 k∧k≤nX∧Bx (ae w wr [(w.heap.size,#[.int .i64 s.num,.slice AP nP cP,.slice AB nB cB,.slice AX nX cX],27),(w.heap.size+1,#[.slice AS nS cS,.slice AG nG cG],31),(w.heap.size+1+1,#[.int .i64 d,.int .i64 f,.int .i64 ld],46)]∧d8 w.heap.size wr s8 ys∧ys.map Prod.fst=((s.xp.take k).filter (bM s t)).map (sc s t d f ld))) (fun _ k _=>nX-(intOf k).toNat)
 case atStart=>exact⟨0,[],rfl,by omega,⟨⟨HF3.out,dq.nil _ _,rfl⟩⟩⟩
 case round =>
  obtain⟨k,ys,rfl,hk,HR⟩:=hrel;have HFr:Bx (ae w wr [(w.heap.size,#[.int .i64 s.num,.slice AP nP cP,.slice AB nB cB,.slice AX nX cX],27),(w.heap.size+1,#[.slice AS nS cS,.slice AG nG cG],31),(w.heap.size+1+1,#[.int .i64 d,.int .i64 f,.int .i64 ld],46)]):=⟨HR.out.1⟩
  have HO:Bx (d8 w.heap.size wr _ ys):=⟨HR.out.2.1⟩
  have HY:Bx (ys.map Prod.fst=((s.xp.take k).filter (bM s t)).map (sc s t d f ld)):=⟨HR.out.2.2⟩
  have hyl:ys.length≤k:=by have h1:=congrArg List.length HY.out;have h2:=xC (bM s t) (s.xp.take k);simp at h1 h2;omega
  obtain⟨Ao,co,hu⟩:=dq.form HO.out;obtain⟨no,hno⟩:=nm ys.length;rw[←hno]at hu hyl;subst hu;have HNO:=zZ hno;clear HR HF3 hno;have z3:=(HFr.out.at_ 0 rfl).c 3 rfl;by_cases hkn:k<nX
  ·obtain⟨bX,oX,_,_,rfl,-⟩:=HX0.out.at_ hkn;obtain⟨xa,xb,xd,HXX,x0,x1,x2⟩:=d7.read HX0.out HFr.out.xt.xt hkn;go_upto_region 9 with (fail)
   obtain⟨gx,hgx⟩:=nm wr.heap.size;obtain⟨w2,hw2⟩:=nm ((wr.alloc (.cells #[.int .i64 xa,.int .i64 xb,.int .i64 xd] 83)):World);have hx2:ab wr w2:=by rw[hw2];exact (zE _).alloc _
   have HF2:Bx (ae w w2 [(w.heap.size,#[.int .i64 s.num,.slice AP nP cP,.slice AB nB cB,.slice (some ⟨bX,oX,none⟩) nX cX],27),(w.heap.size+1,#[.slice AS nS cS,.slice AG nG cG],31),(w.heap.size+1+1,#[.int .i64 d,.int .i64 f,.int .i64 ld],46),(gx,#[.int .i64 xa,.int .i64 xb,.int .i64 xd],83)]):=⟨by rw[hw2];exact HFr.out.push _ _ hgx.symm⟩
   have HO2:=zZ (HO.out.ext hx2);rw[←hw2,←hgx];clear hw2 hgx hx2 x0 x1 x2 z3 HFr HO;have HMX:=zZ (rK HXX.out);have HFS:=zZ (qL HP.out.1.asc_ HMX.out);simp only at HFS;obtain⟨z0,z1,z2,z3⟩:=(HF2.out.at_ 0 rfl).p4 rfl;have i0':=(HF2.out.at_ 1 rfl).c 0 rfl;have i1':=(HF2.out.at_ 1 rfl).c 1 rfl;obtain⟨x0,x1,x2⟩:=(HF2.out.at_ 3 rfl).p3 rfl;cases hdn:bM s t ⟨xa,xb,xd⟩ with
   |false =>
    have hstb:((bW s t ⟨xa,xb,xd⟩).state != 1)=true:=by have:=lm hdn;simp[this]
    have HTK:=zZ (show (s.xp.take (k+1)).filter (bM s t)=(s.xp.take k).filter (bM s t) by rw[ag HXX.out,yJ,wW (by rw[hdn];simp)];simp);clear hdn;go_wp2_with (go_at_call 34;refine (fx _ _ s t xa xb xd _ (p:=p) (zP hp HF2.out.xt.size) (HS0.out.ext HF2.out.xt) (HT0.out.ext HF2.out.xt) HP.out.1 HP.out.2.1 HMX.out HN.out.1 HN.out.2).mono ?_;rintro e w6 ⟨⟨vp,rfl,hvp⟩,hx6⟩;obtain⟨Ap,cp,rfl⟩:=hvp.form;clear hvp;have HF6:=zZ ((HF2.out.take 3).ext hx6);have HO6:=zZ (HO2.out.ext hx6));go_roundw
    case rel=>exact⟨k+1,ys,by go_num,by omega,⟨⟨HF6.out,HO6.out,by rw[HTK.out];exact HY.out⟩⟩⟩
    case measure=>simp[intOf];omega
   |true =>
    have HDN0:=zZ hdn;have HST:=zZ (iI hdn);have HTK:=zZ (show (s.xp.take (k+1)).filter (bM s t)=(s.xp.take k).filter (bM s t)++[⟨xa,xb,xd⟩] by rw[ag HXX.out,yJ,wX hdn];simp);clear hdn;go_upto_region 10 with (go_at_call 34;refine (fx _ _ s t xa xb xd _ (p:=p) (zP hp HF2.out.xt.size) (HS0.out.ext HF2.out.xt) (HT0.out.ext HF2.out.xt) HP.out.1 HP.out.2.1 HMX.out HN.out.1 HN.out.2).mono ?_;rintro e w6 ⟨⟨vp,rfl,hvp⟩,hx6⟩;obtain⟨Ap,cp,rfl⟩:=hvp.form;clear hvp;rw[HST.out])
    have HF6:=zZ (HF2.out.ext hx6);have HO6:=zZ (HO2.out.ext hx6);have hxb:=fw HP.out.1 HMX.out;simp only at hxb;obtain⟨xb1,xb2,xb3,xb4,xb5,xb6⟩:=hxb;obtain⟨pq,bk,hpq,hbk,hbb,-,-,-⟩:=gQ HP.out.1 xb3 xb4;have hbn:=kJ hbb;have hnp:fA s xd=bk.length:=by unfold fA;rw[hbk];rfl
    have hbks:=HP.out.1.bks;obtain⟨r,rfl⟩:=zG xb3;rw[yR]at hpq hbk;have hrB:r<nB:=by have:=HLB.out;omega
    obtain⟨bB,oB,_,_,rfl,-⟩:=HB0.out.at_ hrB;obtain⟨Ab,nb,cb,b0,-,HNB⟩:=dQ HB0.out hbk (zE w).xt;have hnb:nb≤12:=by have:=HNB.out;omega
    have HNP:=zZ (show fA s (r:Int)=nb by rw[hnp,HNB.out]);have HDN:=HDN0;clear hpq hbk hbb hbn hnp hbks hx6 HF2 HO2 z0 z1 z2 z3 i0' i1' x0 x1 x2 HDN0;obtain⟨z0,z1,z2,z3⟩:=(HF6.out.at_ 0 rfl).p4 rfl;obtain⟨x0,x1,x2⟩:=(HF6.out.at_ 3 rfl).p3 rfl;have i0':=(HF6.out.at_ 1 rfl).c 0 rfl;have i1':=(HF6.out.at_ 1 rfl).c 1 rfl;obtain⟨h0,h1,h2⟩:=(HF6.out.at_ 2 rfl).p3 rfl;have HFQ:=HF6;go_upto_region 11 with (go_at_call 39;refine (km _ _ s t d f ld xa xb (r:Int) _ (p:=p) (zP hp HFQ.out.xt.size) (HS0.out.ext HFQ.out.xt) (HT0.out.ext HFQ.out.xt) HBEL.out HFS.out HDN.out HVL.out HN.out.1 HN.out.2).mono ?_;rintro e w7 ⟨⟨va,rfl,hva⟩,hx7⟩;obtain⟨A2,c2,rfl⟩:=hva.form)
    have HF7:=bx (HF6.out.ext hx7);have HO7:=zZ (HO6.out.ext hx7);have HA7:=zZ (hva.base_ HF6.out.xt.size);obtain⟨n2,hn2⟩:=nm ((fC s t d f ld ⟨xa,xb,(r:Int)⟩).length);rw[←hn2]at HA7;rw[←hn2];clear hva hx7 hn2 HF6 HO6 HFQ z0 z1 z2 z3 i0' i1' x0 x1 x2 h0 h1 h2;have z0:=(HF7.out.at_ 0 rfl).c 0 rfl;obtain⟨x0,x1,x2⟩:=(HF7.out.at_ 3 rfl).p3 rfl;go_upto_region 14 with (fail)
    obtain⟨gs,hgs⟩:=nm w7.heap.size;obtain⟨w8,hw8⟩:=nm ((w7.alloc (.cells #[.int .i64 (s.num*10000+xa),.int .i64 s.num,.int .i64 xa,.int .i64 xb,.int .i64 (r:Int),.slice none 0 0,.slice A2 n2 c2] 54)):World);have HF8:Bx (ae w w8 [(w.heap.size,#[.int .i64 s.num,.slice AP nP cP,.slice (some ⟨bB,oB,none⟩) nB cB,.slice (some ⟨bX,oX,none⟩) nX cX],27),(w.heap.size+1,#[.slice AS nS cS,.slice AG nG cG],31),(w.heap.size+1+1,#[.int .i64 d,.int .i64 f,.int .i64 ld],46),(gx,#[.int .i64 xa,.int .i64 xb,.int .i64 (r:Int)],83),(gs,#[.int .i64 (s.num*10000+xa),.int .i64 s.num,.int .i64 xa,.int .i64 xb,.int .i64 (r:Int),.slice none 0 0,.slice A2 n2 c2],54)]):=⟨by rw[hw8];exact HF7.out.push _ _ hgs.symm⟩
    have HKO:Bx (∀wx,XT gs w8 wx→d8 w.heap.size wx (.slice Ao no co) ys):=⟨fun wx hx=>HO7.out.keep (w8:=w8) (gs:=gs) (by omega) (by rw[hw8];exact (zE _).alloc _) hx⟩
    have HKA:Bx (∀wx,XT gs w8 wx→av wx w.heap.size (.slice A2 n2 c2) (fC s t d f ld ⟨xa,xb,(r:Int)⟩)):=⟨fun wx hx=>HA7.out.keep (w8:=w8) (gs:=gs) (by omega) (by rw[hw8];exact (zE _).alloc _) hx⟩
    have HW8:=bx (HF8.out.xt.size);rw[←hw8,←hgs];clear hw8 hgs HF7 HO7 HA7 z0 x0 x1 x2;have hb0:=b0;have s2:=(HF8.out.at_ 0 rfl).c 2 rfl;have x2:=(HF8.out.at_ 3 rfl).c 2 rfl;replace b0:=HF8.out.xt.cell b0;go_wp2_with fail;clear b0 s2 x2;obtain⟨wo,rfl⟩:=nm (w8:World);go_loopw [72] (fun s72 wr=>∃(m:Nat) (v5:Value),s72=.int .i64 m∧m≤nb∧Bx (ae w wr [(w.heap.size,#[.int .i64 s.num,.slice AP nP cP,.slice (some ⟨bB,oB,none⟩) nB cB,.slice (some ⟨bX,oX,none⟩) nX cX],27),(w.heap.size+1,#[.slice AS nS cS,.slice AG nG cG],31),(w.heap.size+1+1,#[.int .i64 d,.int .i64 f,.int .i64 ld],46),(gx,#[.int .i64 xa,.int .i64 xb,.int .i64 (r:Int)],83),(gs,#[.int .i64 (s.num*10000+xa),.int .i64 s.num,.int .i64 xa,.int .i64 xb,.int .i64 (r:Int),v5,.slice A2 n2 c2],54)]∧XT gs wo wr∧av wr wo.heap.size v5 (ee t xa m))) (fun m _=>nb-(intOf m).toNat)
    case atStart=>exact⟨0,.slice none 0 0,rfl,by omega,⟨⟨HF8.out,XT.refl _ _,by simpa[ee] using av.nil wo wo.heap.size⟩⟩⟩
    case round =>
     obtain⟨m,v5,rfl,hm,HR⟩:=hrel;obtain⟨A5,c5,hu⟩:=HR.out.2.2.form;rw[fY]at hu;subst hu;have HF10:Bx (ae w wr [(w.heap.size,#[.int .i64 s.num,.slice AP nP cP,.slice (some ⟨bB,oB,none⟩) nB cB,.slice (some ⟨bX,oX,none⟩) nX cX],27),(w.heap.size+1,#[.slice AS nS cS,.slice AG nG cG],31),(w.heap.size+1+1,#[.int .i64 d,.int .i64 f,.int .i64 ld],46),(gx,#[.int .i64 xa,.int .i64 xb,.int .i64 (r:Int)],83),(gs,#[.int .i64 (s.num*10000+xa),.int .i64 s.num,.int .i64 xa,.int .i64 xb,.int .i64 (r:Int),.slice A5 m c5,.slice A2 n2 c2],54)]):=⟨HR.out.1⟩
     have HX10:Bx (XT gs wo wr):=⟨HR.out.2.1⟩
     have HI10:Bx (av wr wo.heap.size (.slice A5 m c5) (ee t xa m)):=⟨HR.out.2.2⟩
     clear HR HF8;by_cases hmn:m<nb
     ·have i0':=(HF10.out.at_ 1 rfl).c 0 rfl;have i1':=(HF10.out.at_ 1 rfl).c 1 rfl;have x0:=(HF10.out.at_ 3 rfl).c 0 rfl;go_upto_region 18 with (go_at_call 40;refine (eH _ t xa (m:Int) _ (p:=p) (HT0.out.ext HF10.out.xt) HP.out.2.1 (by have:=HN.out.2;omega)).mono ?_;rintro e w11 ⟨yc,yg,yt,ys',yq,ych,yA,yn,ycc,rfl,hyd,-,hyw,hx11⟩)
      have HCT:=zZ (show ee t xa (m+1)=ee t xa m++[yt] by rw[oz,Bv hyd]);have hyt:aC yt:=hyw.2.2.1;obtain⟨gp,hgp⟩:=nm w11.heap.size;obtain⟨w12,hw12⟩:=nm ((w11.alloc (.cells #[.int .i64 yc,.int .i64 yg,.int .i64 yt,.slice yA yn ycc,.int .i64 ys',.int .i64 yq] 77)):World);have hx12:ab wr w12:=by rw[hw12];exact hx11.alloc _
      have HB12:Bx (Bk w12 gp #[.int .i64 yc,.int .i64 yg,.int .i64 yt,.slice yA yn ycc,.int .i64 ys',.int .i64 yq] 77):=⟨by rw[hw12,hgp];exact Bk.new _ _ _⟩
      have HF12:=bx (HF10.out.ext hx12);have HX12:=bx (HX10.out.ext hx12);have HI12:=bx (HI10.out.ext hx12);have HW12:Bx (wo.heap.size≤w12.heap.size):=⟨HX12.out.size⟩
      rw[←hw12,←hgp];clear hw12 hgp hx11 hx12 hyd hyw HF10 HX10 HI10 i0' i1' x0;obtain⟨o0,o1,o2,o3,o4,o5,o6⟩:=(HF12.out.at_ 4 rfl).p7 rfl;have g0:=(HF12.out.at_ 4 rfl).froz;have g1:=g0;have g2:=g0;have g3:=g0;have g4:=g0;have g5:=g0;have g6:=g0;have y2:=HB12.out.c 2 rfl;go_wp2_with (at_builtin;refine al _ rfl (.tmp 84) (.tmp 87) 22 rfl wo.heap.size 3 i0 _ 8 underlying22 hi0 hz0 hz1 hz2 rfl (.slice A5 m c5) _ _ rfl (ac HI12.out.1 ((zE _).alloc _)) _ _ rfl (by simp;rfl) rfl (by rw[fY];omega) (by omega) (by have:=HW12.out;simp;omega) ?_;intro v13 w13 hown13 hg13;obtain⟨A13,c13,hv13⟩:=pY hown13;obtain⟨n13,hn13⟩:=nm ((ee t xa m).length+1);rw[←hn13]at hv13 hown13;subst hv13;have HN13:=zZ hn13;clear hn13;have HF13:=zZ ((HF12.out.ext ((zE _).alloc _)).grownT (ac HI12.out.1 ((zE _).alloc _)) hg13 HW8.out rfl);have HX13:=zZ ((HX12.out.alloc _).grown hg13 (ar HI12.out.1));have HO13:=zZ hown13;clear hown13 hg13 o0 o1 o2 o3 o4 o5 o6 g0 g1 g2 g3 g4 g5 g6;have o0:=(HF13.out.at_ 4 rfl).c 0 rfl;have o1:=(HF13.out.at_ 4 rfl).c 1 rfl;have o2:=(HF13.out.at_ 4 rfl).c 2 rfl;have o3:=(HF13.out.at_ 4 rfl).c 3 rfl;have o4:=(HF13.out.at_ 4 rfl).c 4 rfl;have o5:=(HF13.out.at_ 4 rfl).c 5 rfl;have o6:=(HF13.out.at_ 4 rfl).c 6 rfl;have g5:=(HF13.out.at_ 4 rfl).froz 5);have HI13:Bx (av w13 wo.heap.size (.slice A13 n13 c13) (ee t xa (m+1))):=⟨by
       rw[HCT.out];have h5:=HO13.out;rw[HN13.out]at h5⊢;refine⟨by simpa using h5,fun z hz=>?_,by simp[fY];omega⟩;rcases zC.1 hz with hz|hz
       ·exact HI12.out.2.1 z hz
       ·obtain rfl:z=yt:=by simpa using hz
        exact hyt⟩
      have hF14:=HF13.out.set 4 rfl 5 (.slice A13 n13 c13);have hV14:=HI13.out.far (HF13.out.at_ 4 rfl) (by decide) 5 (.slice A13 n13 c13);have hX14:=HX13.out.setCell (a:=⟨gs,5,none⟩) rfl (.slice A13 n13 c13);go_roundw
      case rel=>exact⟨m+1,.slice A13 n13 c13,by go_num,by omega,⟨⟨hF14,hX14,hV14⟩⟩⟩
      case measure=>simp[intOf];omega
     ·obtain rfl:m=nb:=by omega
      have HF12:=HF10;have HI12:=HI10;have HO12:=zZ (HKO.out _ HX10.out);have HA12:=zZ (HKA.out _ HX10.out);clear HF10 HX10 HI10;obtain⟨o0,o1,o2,o3,o4,o5,o6⟩:=(HF12.out.at_ 4 rfl).p7 rfl;have HOW:=zZ (show World.ownsRow _ w.heap.size 54 7 (.slice Ao no co) no (ys.map ws).flatten from by have h:=HO12.out.own.own;rw[←HNO.out]at h;exact h);go_wp2_with (at_builtin;go_loud (refine aH _ rfl (.tmp 91) (.tmp 93) 48 rfl w.heap.size 54 iC _ 7 88 underlying48 hiC hC0 hC1 hC2 rfl (by omega) (.slice Ao no co) no (ys.map ws).flatten rfl (ac HOW.out ((zE _).alloc _)) _ #[.int .i64 (s.num*10000+xa),.int .i64 s.num,.int .i64 xa,.int .i64 xb,.int .i64 (r:Int),.slice A5 m c5,.slice A2 n2 c2] _ rfl (heap_alloc_new _ _) rfl (by simp[Value.oneCell']) (by omega) (by omega) (by have:=HF12.out.xt.size;simp;omega) ?_;intro v14 w14 hown14 hg14;have H14:Bx (d8 w.heap.size w14 v14 (ys++[(sc s t d f ld ⟨xa,xb,(r:Int)⟩,.slice A5 m c5,.slice A2 n2 c2)])∧ae w w14 [(w.heap.size,#[.int .i64 s.num,.slice AP nP cP,.slice (some ⟨bB,oB,none⟩) nB cB,.slice (some ⟨bX,oX,none⟩) nX cX],27),(w.heap.size+1,#[.slice AS nS cS,.slice AG nG cG],31),(w.heap.size+1+1,#[.int .i64 d,.int .i64 f,.int .i64 ld],46)]):=⟨⟨dq.push (f:=ws) (HO12.out.ext ((zE _).alloc _)) (by have h:=hown14;rw[HNO.out]at h;exact h) (fun y hy=>⟨av.apart hy.1 (ac HOW.out ((zE _).alloc _)) (by decide) hg14,av.apart hy.2 (ac HOW.out ((zE _).alloc _)) (by decide) hg14⟩) ⟨av.apart (show av _ w.heap.size (.slice A5 m c5) (ee t xa (fA s (r:Int))) from by rw[HNP.out];exact (HI12.out.base_ HW8.out).ext ((zE _).alloc _)) (ac HOW.out ((zE _).alloc _)) (by decide) hg14,av.apart (HA12.out.ext ((zE _).alloc _)) (ac HOW.out ((zE _).alloc _)) (by decide) hg14⟩,((HF12.out.take 3).ext ((zE _).alloc _)).grownT (ac HOW.out ((zE _).alloc _)) hg14 (zX _) rfl⟩⟩;clear hown14 hg14));go_roundw
      case rel=>exact⟨k+1,_,by go_num,by omega,⟨⟨H14.out.2,H14.out.1,by rw[HTK.out];simp[HY.out]⟩⟩⟩
      case measure=>simp[intOf];omega
  ·obtain rfl:k=nX:=by omega
   have HE:=zZ (show ((s.xp.take k).filter (bM s t)).map (sc s t d f ld)=Do s t d f ld by rw[aD (by have:=HLX.out;omega)];rfl);go_wp2_with fail;refine bodyPost_ret (v:=.tuple #[.slice Ao no co,.int .i64 0]) (by simp[results,results15,go_sem]) rfl ⟨⟨.slice Ao no co,ys,rfl,HO.out,by rw[HY.out,HE.out,HL2.out]⟩,HFr.out.xt⟩
theorem m8(y0 y1 y2 y3 y4:Int)(ps an:List Int)(A1 A2 B1 B2:Option Addr)(n1 n2 c1 c2 d1 d2:Nat)(w:World){q:Nat}(h1:ao p w (.slice A1 n1 c1) ps)(h2:ao p w (.slice A2 n2 c2) an)(h3:ao q w (.slice B1 n1 d1) ps)(h4:ao q w (.slice B2 n2 d2) an) :
  Calls prog 44 #[.agg #[.int .i64 y0,.int .i64 y1,.int .i64 y2,.int .i64 y3,.int .i64 y4,.slice A1 n1 c1,.slice A2 n2 c2],.agg #[.int .i64 y0,.int .i64 y1,.int .i64 y2,.int .i64 y3,.int .i64 y4,.slice B1 n1 d1,.slice B2 n2 d2]] w fun e w'=>e=.returned (.bool true)∧ab w w':=by
 have HI:Bx (ao p w (.slice A1 n1 c1) ps∧ao p w (.slice A2 n2 c2) an∧ao q w (.slice B1 n1 d1) ps∧ao q w (.slice B2 n2 d2) an):=⟨⟨h1,h2,h3,h4⟩⟩
 clear h1 h2 h3 h4;obtain⟨w1,hw1⟩:=nm (((w.alloc (.cells #[.int .i64 y0,.int .i64 y1,.int .i64 y2,.int .i64 y3,.int .i64 y4,.slice A1 n1 c1,.slice A2 n2 c2] 54)).alloc (.cells #[.int .i64 y0,.int .i64 y1,.int .i64 y2,.int .i64 y3,.int .i64 y4,.slice B1 n1 d1,.slice B2 n2 d2] 54)):World);have HF:Bx (ae w w1 [(w.heap.size,#[.int .i64 y0,.int .i64 y1,.int .i64 y2,.int .i64 y3,.int .i64 y4,.slice A1 n1 c1,.slice A2 n2 c2],54),(w.heap.size+1,#[.int .i64 y0,.int .i64 y1,.int .i64 y2,.int .i64 y3,.int .i64 y4,.slice B1 n1 d1,.slice B2 n2 d2],54)]):=⟨by rw[hw1];exact ((ae.start w).push _ _ rfl).push _ _ (by simp)⟩
 go_enter func44,ntmps44
 go_upto_region 1 with (fail)
 rw[←hw1];clear hw1;obtain⟨x0,x1,x2,x3,x4,x5,x6⟩:=(HF.out.at_ 0 rfl).p7 rfl;obtain⟨k0,k1,k2,k3,k4,k5,k6⟩:=(HF.out.at_ 1 rfl).p7 rfl;go_wp2_with fail;refine (dH _ _ ps ps _ (HI.out.1.ext HF.out.xt) (HI.out.2.2.1.ext HF.out.xt)).mono ?_;rintro e w3 ⟨rfl,hx3⟩;have HF3:=bx (HF.out.ext hx3);rw[show decide (ps=ps)=true from decide_eq_true rfl];clear HF hx3 x0 x1 x2 x3 x4 x5 x6 k0 k1 k2 k3 k4 k5 k6;obtain⟨x0,x1,x2,x3,x4,x5,x6⟩:=(HF3.out.at_ 0 rfl).p7 rfl;obtain⟨k0,k1,k2,k3,k4,k5,k6⟩:=(HF3.out.at_ 1 rfl).p7 rfl;go_wp2_with fail;refine (dH _ _ an an _ (HI.out.2.1.ext HF3.out.xt) (HI.out.2.2.2.ext HF3.out.xt)).mono ?_;rintro e w4 ⟨rfl,hx4⟩;rw[show decide (an=an)=true from decide_eq_true rfl];go_wp2_with fail;go_ret
 exact⟨rfl,HF3.out.xt.trans hx4⟩
theorem mn(va vb:Value)(l:List oy)(w:World){q:Nat}(ha:fF p w va l)(hb:fF q w vb l) :
  Calls prog 17 #[va,vb] w fun e w'=>e=.returned (.bool true)∧ab w w':=by
 obtain⟨Aa,n,ca,rfl,hna,hca,hma,HLA⟩:=ha.open_;obtain⟨Ab,m,cb,rfl,hnb,hcb,hmb,HLB⟩:=hb.open_;obtain rfl:n=m:=by have:=HLA.out;have:=HLB.out;omega
 have HA:Bx (fF p w (.slice Aa n ca) l):=⟨ha⟩
 have HB:Bx (fF q w (.slice Ab n cb) l):=⟨hb⟩
 clear ha hb;go_enter func17,ntmps17
 have hnn:((n:Int)!=(n:Int))=false:=by simp
 go_wp2_with fail;go_loopw [5] (fun s5 wr=>∃k:Nat,s5=.int .i64 k∧k≤n∧Bx (ab w wr)) (fun k _=>n-(intOf k).toNat)
 case atStart=>exact⟨0,rfl,by omega,⟨zE _⟩⟩
 case round =>
  obtain⟨k,rfl,hk,HE⟩:=hrel;by_cases hkn:k<n
  ·obtain⟨ba,oa,_,_,rfl,-⟩:=HA.out.at_ hkn;obtain⟨bb,ob,_,_,rfl,-⟩:=HB.out.at_ hkn;obtain⟨y0,y1,y2,y3,y4,ps,an,A1,n1,c1,A2,n2,c2,HX,hi1,hi2,s0,s1,s2,s3,s4,s5,s6⟩:=fF.read HA.out HE.out hkn;obtain⟨z0,z1,z2,z3,z4,qs,bn,B1,m1,d1,B2,m2,d2,HZ,hj1,hj2,t0,t1,t2,t3,t4,t5,t6⟩:=fF.read HB.out HE.out hkn;obtain⟨rfl,rfl,rfl,rfl,rfl,rfl,rfl⟩:y0=z0∧y1=z1∧y2=z2∧y3=z3∧y4=z4∧ps=qs∧an=bn:=by
    have:=HZ.out;rw[HX.out]at this;injection this with this;injection this with a b c d e f g;exact⟨a,b,c,d,e,f,g⟩
   obtain rfl:n1=m1:=by have h1:=hi1.len;have h2:=hj1.len;omega
   obtain rfl:n2=m2:=by have h1:=hi2.len;have h2:=hj2.len;omega
   have HI:Bx (ao p w (.slice A1 n1 c1) ps∧ao p w (.slice A2 n2 c2) an∧ao q w (.slice B1 n1 d1) ps∧ao q w (.slice B2 n2 d2) an):=⟨⟨hi1,hi2,hj1,hj2⟩⟩
   clear hi1 hi2 hj1 hj2;go_upto_region 6 with (fail)
   refine zQ 99 fun wd kS=>?_;refine zS 8 [(0,17),(1,18),(2,19),(3,20),(4,21),(5,22),(6,23),(7,24)] kS ?_;iterate 8 (apply zT;exact⟨rfl,rfl⟩;(·intro wk hk;have:=hk.cell s0;have:=hk.cell s1;have:=hk.cell s2;have:=hk.cell s3;have:=hk.cell s4;have:=hk.cell s5;have:=hk.cell s6;have:=hk.cell t0;have:=hk.cell t1;have:=hk.cell t2;have:=hk.cell t3;have:=hk.cell t4;have:=hk.cell t5;have:=hk.cell t6;go_simp;try with_reducible rfl);simp only[kA];exact rfl)
   refine zN (zO 8 (fun K hK=>?_));go_simp;refine (m8 y0 y1 y2 y3 y4 ps an A1 A2 B1 B2 n1 n2 c1 c2 d1 d2 _ (p:=p) (q:=q) (HI.out.1.ext (HE.out.trans kS)) (HI.out.2.1.ext (HE.out.trans kS)) (HI.out.2.2.1.ext (HE.out.trans kS)) (HI.out.2.2.2.ext (HE.out.trans kS))).mono ?_;rintro e w3 ⟨rfl,hx3⟩;have kS2:ab wr w3:=kS.trans hx3;refine hK.out _ _ (fun _=>kS2) ?_;clear hK K;try simp only[kA]
   refine zS 1 [(9,26)] kS2 ?_;(apply zT;exact⟨rfl,rfl⟩;(·intro wk hk;have:=hk.cell s0;have:=hk.cell s1;have:=hk.cell s2;have:=hk.cell s3;have:=hk.cell s4;have:=hk.cell s5;have:=hk.cell s6;have:=hk.cell t0;have:=hk.cell t1;have:=hk.cell t2;have:=hk.cell t3;have:=hk.cell t4;have:=hk.cell t5;have:=hk.cell t6;go_simp;try with_reducible rfl);simp only[kA];exact rfl);refine zN (zD ?_);have HE3:=zZ (HE.out.trans kS2);clear kS kS2 hx3 s0 s1 s2 s3 s4 s5 s6 t0 t1 t2 t3 t4 t5 t6;go_wp2_with fail;go_roundw
   case rel=>exact⟨k+1,by go_num,by omega,⟨HE3.out⟩⟩
   case measure=>simp[intOf];omega
  ·obtain rfl:k=n:=by omega
   go_wp2_with fail;go_ret
   exact⟨rfl,HE.out⟩
def Ec(q:Pg):List Value:=q.cells (.slice none 0 0)
theorem lM{w:World}{base g e size n:Nat}{xs:List Value}(hb:Bk w g xs.toArray e)(hl:xs.length=n*size)(hg:base≤g)(hn:n≤1000):w.ownsRow base e size (.slice (some ⟨g,0,none⟩) n n) n xs :=
 ⟨hl,.inr ⟨g,n,xs.toArray,rfl,hg,hb,zX _,by unfold maxLen;omega,by simp[hl],by rw[←hl];simp⟩⟩
structure IB (wx:World) (b c:Nat):Prop where
 bc:b+2≤c
 p0:Bk wx b ij.cells.toArray 86
 p2:Bk wx c #[.int .i64 0,.int .i64 0,.slice (some ⟨b,0,none⟩) 1 1] 89
 p3:Bk wx (c+1) #[.int .i64 0] 3
 p4:Bk wx (c+1+1) #[.slice none 0 0,.slice (some ⟨c+1,0,none⟩) 1 1,.slice none 0 0,.slice none 0 0] 22
 p5:Bk wx (c+1+1+1) #[.slice (some ⟨c+1+1,0,none⟩) 4 4] 92
 p6:Bk wx (c+1+1+1+1) #[.int .i64 5,.int .i64 1,.int .i64 0] 83
theorem IB.isSit{wx:World}{b c:Nat}(h:IB wx b c):aN (b+1) wx (.agg #[.int .i64 0,.slice (some ⟨c,0,none⟩) 1 1,.slice (some ⟨c+1+1+1,0,none⟩) 1 1,.slice (some ⟨c+1+1+1+1,0,none⟩) 1 1]) qz:=by
 have hbc:=h.bc;have hI0:ao (b+1) wx (.slice (some ⟨c+1,0,none⟩) 1 1) [0]:=ao.of_own (e:=3) (base:=b+2) (lM (xs:=[.int .i64 0]) h.p3 rfl (by omega) (by omega)) (by omega) (by decide) (by simp);have hP:kr (b+1) wx (.slice (some ⟨b,0,none⟩) 1 1) [ij]:=by
  refine⟨some ⟨b,0,none⟩,1,rfl,zX _,by omega,fun k x hx=>?_⟩;obtain⟨rfl,rfl⟩:k=0∧x=ij:=by have h1:=(zY.1 hx).1;simp at h1;subst h1;simp at hx;exact⟨rfl,hx.symm⟩
  refine⟨b,0,ij.cells,rfl,by omega,rfl,fun j u hu=>?_,rfl,?_⟩
  ·rw[show 0+0*6+j=j by omega];exact h.p0.cell (by simpa using hu)
  ·exact⟨by decide,by decide⟩
 have hB:kL (b+1) wx (.slice (some ⟨c+1+1,0,none⟩) 4 4) [[],[0],[],[]]:=by
  refine bg.of_own (e:=22) (base:=b+2) [[.slice none 0 0],[.slice (some ⟨c+1,0,none⟩) 1 1],[.slice none 0 0],[.slice none 0 0]] (fun cs hcs=>?_) (by decide) rfl (lM (xs:=[.slice none 0 0,.slice (some ⟨c+1,0,none⟩) 1 1,.slice none 0 0,.slice none 0 0]) h.p4 rfl (by omega) (by omega)) (by omega) fun k cs x hc hx=>?_
  ·simp only[yG,wK,or_false]at hcs;rcases hcs with rfl|rfl|rfl|rfl<;>rfl
  ·rcases (show k=0∨k=1∨k=2∨k=3 by have:=(zY.1 hx).1;simp at this;omega) with rfl|rfl|rfl|rfl<;>(simp at hc hx;subst hc;subst hx)
   ·exact⟨_,rfl,ao.nil _ _⟩
   ·exact⟨_,rfl,hI0⟩
   ·exact⟨_,rfl,ao.nil _ _⟩
   ·exact⟨_,rfl,ao.nil _ _⟩
 refine⟨_,_,_,rfl,?_,?_,?_,by decide,by decide⟩
 ·refine bg.of_own (e:=89) (base:=b+2) [[.int .i64 0,.int .i64 0,.slice (some ⟨b,0,none⟩) 1 1]] (fun cs hcs=>by simp at hcs;subst hcs;rfl) (by decide) rfl (lM (xs:=[.int .i64 0,.int .i64 0,.slice (some ⟨b,0,none⟩) 1 1]) h.p2 rfl (by omega) (by omega)) (by omega) fun k cs x hc hx=>?_;obtain rfl:k=0:=by have:=(zY.1 hc).1;simp at this;exact this
  simp[qz]at hc hx;subst hc;subst hx;exact⟨_,rfl,hP,⟨by decide,by decide⟩,⟨by decide,by decide⟩⟩
 ·refine bg.of_own (e:=92) (base:=b+2) [[.slice (some ⟨c+1+1,0,none⟩) 4 4]] (fun cs hcs=>by simp at hcs;subst hcs;rfl) (by decide) rfl (lM (xs:=[.slice (some ⟨c+1+1,0,none⟩) 4 4]) h.p5 rfl (by omega) (by omega)) (by omega) fun k cs x hc hx=>?_;obtain rfl:k=0:=by have:=(zY.1 hc).1;simp at this;exact this
  simp[qz]at hc hx;subst hc;subst hx;exact⟨_,rfl,hB⟩
 ·refine bg.of_own (e:=83) (base:=b+2) [[.int .i64 5,.int .i64 1,.int .i64 0]] (fun cs hcs=>by simp at hcs;subst hcs;rfl) (by decide) rfl (lM (xs:=[.int .i64 5,.int .i64 1,.int .i64 0]) h.p6 rfl (by omega) (by omega)) (by omega) fun k cs x hc hx=>?_;obtain rfl:k=0:=by have:=(zY.1 hc).1;simp at this;exact this
  simp[qz]at hc hx;subst hc;subst hx;exact⟨rfl,by decide,by decide,by decide⟩
structure D8 (w:World) (base:Nat) (vS vG:Value) (k:Nat):Prop where
 s:aL base 75 7 aY.cells w vS (ib k).sts
 g:aL base 77 6 Ec w vG (ib k).pgs
theorem D8.isItk{w:World}{base k:Nat}{vS vG:Value}(h:D8 w base vS vG k)(hp:p<base)(hk:k≤4):bN p w (.agg #[vS,vG]) (ib k):=by
 refine⟨_,_,rfl,aL.isS h.s hp (by decide) (fun x _=>rfl) (fun x hx=>?_),aL.isS h.g hp (by decide) (fun x _=>rfl) (fun x hx=>?_)⟩
 ·obtain⟨j,hj,rfl⟩:=zJ.1 hx;have:=zB.1 hj;refine⟨rfl,?_⟩;unfold aY.wf jd.wf cU.wf aC;simp only[ql];and_intros<;>omega
 ·obtain⟨j,hj,rfl⟩:=zJ.1 hx;have:=zB.1 hj;refine⟨_,rfl,ao.nil _ _,?_⟩;unfold Pg.wf jd.wf aC;simp only[Cw,List.length_nil];and_intros<;>omega
theorem D8.ext{w w':World}{base k:Nat}{vS vG:Value}(h:D8 w base vS vG k)(hx:ab w w'):D8 w' base vS vG k:=⟨h.s.ext hx,h.g.ext hx⟩
end Go.Proofs.YtjgfgdcaocbfhaaGreat

