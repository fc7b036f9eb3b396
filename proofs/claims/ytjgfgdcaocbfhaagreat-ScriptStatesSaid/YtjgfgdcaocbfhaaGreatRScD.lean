import Derived.Test.YtjgfgdcaocbfhaaGreatRScB
import Derived.Test.YtjgfgdcaocbfhaaGreatH36
set_option linter.all false
set_option maxRecDepth 100000
set_option maxHeartbeats 0
namespace Go.Proofs.YtjgfgdcaocbfhaaGreat
open Go.RowKit _root_.Go.Proofs.Tryz
theorem tb(v vi:Value)(s:aZ)(t:en)(w:World){p:Nat}(hp:p<w.heap.size)(hs:aN p w v s)(ht:bN p w vi t)(hn1:t.sts.length≤1000)(hn2:t.pgs.length≤1000) :
  Calls prog 11 #[v,vi] w (i4 w (if aV s t=true then 0 else 1) (if aV s t=true then s.xp.map (bW s t) else [])):=by
 obtain⟨iC,hiC,hC0,hC1,hC2⟩:=info_parts Tryz.infoScs;obtain⟨er,her⟩:=nm (if aV s t=true then 0 else 1:Int);obtain⟨lr,hlr⟩:=nm (if aV s t=true then s.xp.map (bW s t) else []:List Am);rw[←her,←hlr];have HER:=zZ her;have HLR:=zZ hlr;clear her hlr;have HS0:=zZ hs;have HT0:=zZ ht;obtain⟨vP,vB,vX,rfl,hP,hB,hX,hnum⟩:=hs;obtain⟨AP,nP,cP,rfl,-⟩:=hP.open_;obtain⟨AB,nB,cB,rfl,-⟩:=hB.open_;obtain⟨AX,nX,cX,rfl,hncX,hccX,hnnX,HLX⟩:=hX.open_;obtain⟨vS,vG,rfl,hS,hG⟩:=ht;obtain⟨AS,nS,cS,rfl,-⟩:=hS.open_;obtain⟨AG,nG,cG,rfl,-⟩:=hG.open_;have HX0:Bx (d7 p w (.slice AX nX cX) s.xp):=⟨hX⟩
 have HN:Bx (t.sts.length≤1000∧t.pgs.length≤1000):=⟨⟨hn1,hn2⟩⟩
 clear hP hB hX hnum hS hG hn1 hn2;obtain⟨w1,hw1⟩:=nm (((w.alloc (.cells #[.int .i64 s.num,.slice AP nP cP,.slice AB nB cB,.slice AX nX cX] 27)).alloc (.cells #[.slice AS nS cS,.slice AG nG cG] 31)):World);have HF:Bx (ae w w1 [(w.heap.size,#[.int .i64 s.num,.slice AP nP cP,.slice AB nB cB,.slice AX nX cX],27),(w.heap.size+1,#[.slice AS nS cS,.slice AG nG cG],31)]):=⟨by rw[hw1];exact ((ae.start w).push _ _ rfl).push _ _ (by simp)⟩
 go_enter func11,ntmps11
 go_upto_region 1 with (fail)
 rw[←hw1];clear hw1;obtain⟨z0,z1,z2,z3⟩:=(HF.out.at_ 0 rfl).p4 rfl;obtain⟨i0,i1⟩:=(HF.out.at_ 1 rfl).p2 rfl;go_wp2_with fail;refine (iL _ _ s t _ (p:=p) (zP hp HF.out.xt.size) (HS0.out.ext HF.out.xt) (HT0.out.ext HF.out.xt) HN.out.1 HN.out.2).mono ?_;rintro e w2 ⟨rfl,hx2⟩;have HF2:=bx (HF.out.ext hx2);clear HF hx2 z0 z1 z2 z3 i0 i1;cases hb:aV s t with
 |false =>
  obtain rfl:er=1:=by rw[HER.out,hb];rfl
  obtain rfl:lr=[]:=by rw[HLR.out,hb];rfl
  go_wp2_with fail;refine bodyPost_ret (v:=.tuple #[.slice none 0 0,.int .i64 1]) (by simp[results,results11,go_sem]) rfl ⟨⟨.slice none 0 0,[],rfl,dq.nil _ _,rfl⟩,HF2.out.xt⟩
 |true =>
 have HP:=zZ (fn hb);obtain rfl:er=0:=by rw[HER.out,hb];rfl
 have HL2:=zZ (show lr=s.xp.map (bW s t) by rw[HLR.out,hb];rfl);clear HER HLR;have hnX:nX≤60:=by have:=HP.out.1.len.2.2;have:=HLX.out;omega
 clear hb;go_wp2_with fail;go_loopw [6,7] (fun s6 s7 wr=>∃(k:Nat) (ys:List (Am×Value)),s7=.int .i64 k∧k≤nX∧Bx (ae w wr [(w.heap.size,#[.int .i64 s.num,.slice AP nP cP,.slice AB nB cB,.slice AX nX cX],27),(w.heap.size+1,#[.slice AS nS cS,.slice AG nG cG],31)]∧eO w.heap.size wr s6 ys∧ys.map Prod.fst=(s.xp.take k).map (bW s t))) (fun _ k _=>nX-(intOf k).toNat)
 case atStart=>exact⟨0,[],rfl,by omega,⟨⟨HF2.out,dq.nil _ _,rfl⟩⟩⟩
 case round =>
  obtain⟨k,ys,rfl,hk,HR⟩:=hrel;have HFr:Bx (ae w wr [(w.heap.size,#[.int .i64 s.num,.slice AP nP cP,.slice AB nB cB,.slice AX nX cX],27),(w.heap.size+1,#[.slice AS nS cS,.slice AG nG cG],31)]):=⟨HR.out.1⟩
  have HO:Bx (eO w.heap.size wr _ ys):=⟨HR.out.2.1⟩
  have HY:Bx (ys.map Prod.fst=(s.xp.take k).map (bW s t)):=⟨HR.out.2.2⟩
  have HYL:Bx (ys.length=k):=⟨by have:=congrArg List.length HY.out;simp at this;have:=HLX.out;omega⟩
  obtain⟨Ao,co,hu⟩:=dq.form HO.out;rw[HYL.out]at hu;subst hu;clear HR HF2;have z3:=(HFr.out.at_ 0 rfl).c 3 rfl;by_cases hkn:k<nX
  ·obtain⟨bX,oX,_,_,rfl,-⟩:=HX0.out.at_ hkn;obtain⟨xa,xb,xd,HXX,x0,x1,x2⟩:=d7.read HX0.out (zE w).xt hkn;go_upto_region 7 with (fail)
   clear z3;refine zR 11 (fun w'=>ae w w' [(w.heap.size,#[.int .i64 s.num,.slice AP nP cP,.slice AB nB cB,.slice (some ⟨bX,oX,none⟩) nX cX],27),(w.heap.size+1,#[.slice AS nS cS,.slice AG nG cG],31)]) ?_;have kS:(fun w'=>ae w w' [(w.heap.size,#[.int .i64 s.num,.slice AP nP cP,.slice AB nB cB,.slice (some ⟨bX,oX,none⟩) nX cX],27),(w.heap.size+1,#[.slice AS nS cS,.slice AG nG cG],31)]) wr.drew:=HFr.out.drew;have kD:ab wr wr.drew:=(zE _).drew;obtain⟨wd,hwd⟩:=nm (wr.drew:World);rw[←hwd]at kS kD⊢;clear hwd;have HOd:Bx (eO w.heap.size wd (.slice Ao k co) ys):=⟨dq.ext HO.out (fun y hy=>av.ext hy kD) kD⟩
   clear HFr HO kD;refine zS 8 [(0,19),(1,20),(2,21),(3,22),(4,23),(5,24),(6,25),(7,26)] kS ?_;iterate 8 (apply zT;exact⟨rfl,rfl⟩;(·intro wk hk;have z0:=(hk.at_ 0 rfl).c 0 rfl;have z1:=(hk.at_ 0 rfl).c 1 rfl;have z2:=(hk.at_ 0 rfl).c 2 rfl;have z3:=(hk.at_ 0 rfl).c 3 rfl;have j0:=(hk.at_ 1 rfl).c 0 rfl;have j1:=(hk.at_ 1 rfl).c 1 rfl;(replace x0:=hk.xt.cell x0);(replace x1:=hk.xt.cell x1);(replace x2:=hk.xt.cell x2);go_simp;try with_reducible rfl);simp only[kA];exact rfl)
   refine zN (zO 8 (fun K hK=>?_));go_simp;refine (eZ _ _ s t xa xb xd _ (p:=p) (zP hp kS.xt.size) (HS0.out.ext kS.xt) (HT0.out.ext kS.xt) HP.out.1 (rK HXX.out) HN.out.1).mono ?_;rintro e w5 ⟨⟨vp,rfl,hvp⟩,hx5⟩;obtain⟨Ap,cp,rfl⟩:=hvp.form;have HVP:=zZ (hvp.base_ kS.xt.size);have HF5:=zZ (kS.ext hx5);have HO5:=zZ (show eO w.heap.size w5 (.slice Ao k co) ys from dq.ext HOd.out (fun y hy=>av.ext hy hx5) hx5);clear hvp hx5 kS HOd;have kS:=HF5.out;refine hK.out _ _ (fun _=>kS) ?_;clear hK K;try simp only[kA]
   refine zO 9 (fun K hK=>?_);go_simp;obtain⟨w6,hw6⟩:=nm ((w5.alloc (.cells #[.int .i64 (bW s t ⟨xa,xb,xd⟩).cand,.int .i64 (bW s t ⟨xa,xb,xd⟩).state,.slice Ap (bW s t ⟨xa,xb,xd⟩).pgs.length cp] 41)):World);have hx6:ab w5 w6:=by rw[hw6];exact (zE _).alloc _
   obtain⟨g6,hg6⟩:=nm w5.heap.size;have B6:Bx (Bk w6 g6 #[.int .i64 (bW s t ⟨xa,xb,xd⟩).cand,.int .i64 (bW s t ⟨xa,xb,xd⟩).state,.slice Ap (bW s t ⟨xa,xb,xd⟩).pgs.length cp] 41):=⟨by rw[hw6,hg6];exact Bk.new w5 _ _⟩
   have HF6:=zZ (HF5.out.ext hx6);have HO6:=zZ (show eO w.heap.size w6 (.slice Ao k co) ys from dq.ext HO5.out (fun y hy=>av.ext hy hx6) hx6);have HV6:=zZ (HVP.out.ext hx6);have HW6:=zZ (show w6.ownsRow w.heap.size 41 3 (.slice Ao k co) k (ys.map yl).flatten from HYL.out▸HO6.out.own.own);rw[←hw6,←hg6];clear hw6 hg6 hx6 HF5 HO5 HVP kS;have kS:=HF6.out;refine hK.out _ _ (fun _=>kS) ?_;clear hK K;try simp only[kA]
   refine zO 10 (fun K hK=>?_);refine step_append_lies _ (by rfl) _ _ _ (by rfl) w.heap.size 41 iC _ 3 40 underlying36 hiC hC0 hC1 hC2 rfl (by omega) (.slice Ao k co) k (ys.map yl).flatten (by rfl) HW6.out ⟨g6,0,none⟩ 1 1 [.int .i64 (bW s t ⟨xa,xb,xd⟩).cand,.int .i64 (bW s t ⟨xa,xb,xd⟩).state,.slice Ap (bW s t ⟨xa,xb,xd⟩).pgs.length cp] (by rfl) (by rfl) (World.news_of_block B6.out) (by simp[Value.oneCell']) (by omega) (by unfold maxLen;omega) (by omega) kS.xt.size w6.heap.size rfl ?_;intro g7 c7 w7 hown7 hgrow7 _ hlt7;have H7:Bx (eO w.heap.size w7 (.slice (some ⟨g7,0,none⟩) (k+1) c7) (ys++[(bW s t ⟨xa,xb,xd⟩,.slice Ap (bW s t ⟨xa,xb,xd⟩).pgs.length cp)])∧ae w w7 [(w.heap.size,#[.int .i64 s.num,.slice AP nP cP,.slice AB nB cB,.slice (some ⟨bX,oX,none⟩) nX cX],27),(w.heap.size+1,#[.slice AS nS cS,.slice AG nG cG],31)]):=⟨⟨dq.push (f:=yl) HO6.out (HYL.out.symm▸hown7) (fun y hy=>av.apart hy HW6.out (by decide) hgrow7) (av.apart HV6.out HW6.out (by decide) hgrow7),HF6.out.grownT HW6.out hgrow7 (zX _) rfl⟩⟩
   clear HF6 HO6 HV6 HW6 B6 hown7 hgrow7 hlt7 kS;have kS:=H7.out.2;change K (Act.put _ (some 29) _) w7;refine hK.out _ _ (fun _=>kS) ?_;clear hK K;try simp only[kA]
   refine zO 11 (fun K hK=>?_);go_simp;refine hK.out _ _ (fun h=>absurd rfl h) ?_;clear hK K;refine zD ?_;clear x0 x1 x2 kS;go_wp2_with fail;go_roundw
   case rel=>exact⟨k+1,_,by go_num,by omega,⟨⟨H7.out.2,H7.out.1,by rw[ag HXX.out];simp[HY.out]⟩⟩⟩
   case measure=>simp[intOf];omega
  ·obtain rfl:k=nX:=by omega
   have HE:=zZ (show (s.xp.take k).map (bW s t)=s.xp.map (bW s t) by rw[aD (by have:=HLX.out;omega)]);go_wp2_with fail;refine bodyPost_ret (v:=.tuple #[.slice Ao k co,.int .i64 0]) (by simp[results,results11,go_sem]) rfl ⟨⟨.slice Ao k co,ys,rfl,HO.out,by rw[HY.out,HE.out,HL2.out]⟩,HFr.out.xt⟩
end Go.Proofs.YtjgfgdcaocbfhaaGreat

