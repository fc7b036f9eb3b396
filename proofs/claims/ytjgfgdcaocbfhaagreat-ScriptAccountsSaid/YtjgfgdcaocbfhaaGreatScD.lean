import Derived.Test.YtjgfgdcaocbfhaaGreatH32
set_option linter.all false
set_option maxRecDepth 100000
set_option maxHeartbeats 0
namespace Go.Proofs.YtjgfgdcaocbfhaaGreat
open Go.RowKit _root_.Go.Proofs.Tryz
theorem qJ{s:aZ}{t:en}(h:aw s≠0):aV s t=false:=by unfold aV;rw[decide_eq_false h];rfl
theorem rP{s:aZ}{t:en}(h:fM t.sts=false):aV s t=false:=by unfold aV;rw[h];simp
theorem ET{s:aZ}{t:en}(h:fJ t.sts≠t.pgs.length):aV s t=false:=by unfold aV;rw[decide_eq_false h];simp
theorem cR{s:aZ}{t:en}{k:Nat}(hk:k<t.pgs.length)(h:mQ s t.sts t.pgs k=false):aV s t=false:=by unfold aV;rw[dA hk h];simp
theorem Fo{s:aZ}{t:en}(h1:aw s=0)(h2:fM t.sts=true)(h3:fJ t.sts=t.pgs.length)(h4:∀k,k<t.pgs.length→mQ s t.sts t.pgs k=true):aV s t=true:=by unfold aV;rw[decide_eq_true h1,h2,decide_eq_true h3,eC h4];rfl
theorem iW{s:aZ}{sts:List aY}{q:Pg}(h:aJ s.xp q.cand=none):fH s sts q=false:=by unfold fH;rw[h]
theorem hD{s:aZ}{sts:List aY}{q:Pg}(h:ia sts q.scan=none):fH s sts q=false:=by unfold fH;rw[h];cases aJ s.xp q.cand<;>rfl
theorem gv{s:aZ}{sts:List aY}{q:Pg}{x:dF}{y:aY}(h1:aJ s.xp q.cand=some x)(h2:ia sts q.scan=some y) :
  fH s sts q=(decide (y.state=1)&&(decide (y.lab=⟨s.num,q.cand,q.page,x.var⟩)&&be s ⟨s.num,q.cand,q.page,x.var⟩ q.ch)):=by unfold fH;rw[h1,h2]
theorem pj{l:List aY}(h:fM l=true):fB aW l:=pm (i:=⟨l,[]⟩) fun k hk=>i7 h hk
theorem gN(v vi:Value)(s:aZ)(t:en)(w:World){p:Nat}(hp:p<w.heap.size)(hs:aN p w v s)(ht:bN p w vi t)(hn1:t.sts.length≤1000)(hn2:t.pgs.length≤1000) :
  Calls prog 33 #[v,vi] w fun e w'=>e=.returned (.bool (aV s t))∧ab w w':=by
 have HS0:=zZ hs;obtain⟨vP,vB,vX,rfl,hP,hB,hX,hnum⟩:=hs;obtain⟨AP,nP,cP,rfl,-⟩:=hP.open_;obtain⟨AB,nB,cB,rfl,-⟩:=hB.open_;obtain⟨AX,nX,cX,rfl,-⟩:=hX.open_;obtain⟨vS,vG,rfl,hS,hG⟩:=ht;obtain⟨AS,nS,cS,rfl,hncS,hccS,hnnS,HLS⟩:=hS.open_;obtain⟨AG,nG,cG,rfl,hncG,hccG,hnnG,HLG⟩:=hG.open_;have HS:Bx (eF p w (.slice AS nS cS) t.sts):=⟨hS⟩
 have HG:Bx (ke p w (.slice AG nG cG) t.pgs):=⟨hG⟩
 have HNUM:Bx (aC s.num):=⟨hnum⟩
 have hnS:nS≤1000:=by have:=HLS.out;omega
 have hnG:nG≤1000:=by have:=HLG.out;omega
 clear hP hB hX hnum hS hG hn1 hn2;obtain⟨w1,hw1⟩:=nm (((w.alloc (.cells #[.int .i64 s.num,.slice AP nP cP,.slice AB nB cB,.slice AX nX cX] 27)).alloc (.cells #[.slice AS nS cS,.slice AG nG cG] 31)):World);have HF:Bx (ae w w1 [(w.heap.size,#[.int .i64 s.num,.slice AP nP cP,.slice AB nB cB,.slice AX nX cX],27),(w.heap.size+1,#[.slice AS nS cS,.slice AG nG cG],31)]):=⟨by rw[hw1];exact ((ae.start w).push _ _ rfl).push _ _ (by simp)⟩
 go_enter func33,ntmps33
 go_upto_region 1 with (fail)
 rw[←hw1];clear hw1;obtain⟨z0,z1,z2,z3⟩:=(HF.out.at_ 0 rfl).p4 rfl;go_wp2_with fail;refine (qe _ s _ (HS0.out.ext HF.out.xt)).mono ?_;rintro e w2 ⟨rfl,hx2⟩;have HF2:=bx (HF.out.ext hx2);clear HF hx2 z0 z1 z2 z3;by_cases hck:aw s=0;case neg =>
  have HE:=zZ (qJ (t:=t) hck);have hcb:(aw s != 0)=true:=by simp[hck]
  go_wp2_with fail;go_ret
  exact⟨aa HE.out.symm,HF2.out.xt⟩
 have HCK:=zZ hck;have HOK:Bx (cD s):=⟨eV.1 hck⟩
 rw[hck];clear hck;have b0:=(HF2.out.at_ 1 rfl).c 0 rfl;go_wp2_with fail;refine (m0 _ t.sts _ (HS.out.ext (cQ.stab p) HF2.out.xt) (by have:=HLS.out;omega)).mono ?_;rintro e w3 ⟨⟨u,rfl,hu⟩,hx3⟩;have HF3:=bx (HF2.out.ext hx3);have HU:=zZ hu;clear HF2 hx3 b0 hu;have b1:=(HF3.out.at_ 1 rfl).c 1 rfl;cases hst:fM t.sts with
 |false =>
  have HE:=zZ (rP (s:=s) hst);clear hst;go_wp2_with fail;go_ret
  exact⟨aa HE.out.symm,HF3.out.xt⟩
 |true =>
 have HST:=zZ hst;have HAS:=zZ (pj hst);have HU2:=zZ (HU.out hst);clear hst HU;by_cases hun:u=nG;case neg =>
  have HE:=zZ (ET (s:=s) (t:=t) (by rw[←HU2.out,HLG.out];exact hun));have hub:((u:Int)!=(nG:Int))=true:=by simp;omega
  go_wp2_with fail;all_goals first
   |(exfalso;omega)
   |(go_ret;exact⟨aa HE.out.symm,HF3.out.xt⟩)
 subst hun;have HUS:=zZ (show fJ t.sts=t.pgs.length by rw[←HU2.out,HLG.out]);have hub:((u:Int)!=(u:Int))=false:=by simp
 clear HU2;go_wp2_with fail;clear b1 hub;go_loopw [34] (fun s34 wr=>∃k:Nat,s34=.int .i64 k∧k≤u∧Bx (ae w wr [(w.heap.size,#[.int .i64 s.num,.slice AP nP cP,.slice AB nB cB,.slice AX nX cX],27),(w.heap.size+1,#[.slice AS nS cS,.slice AG u cG],31)]∧∀j,j<k→mQ s t.sts t.pgs j=true)) (fun k _=>u-(intOf k).toNat)
 case atStart=>exact⟨0,rfl,by omega,⟨⟨HF3.out,fun j hj=>by omega⟩⟩⟩
 case round =>
  obtain⟨k,rfl,hk,HR⟩:=hrel;have HFr:Bx (ae w wr [(w.heap.size,#[.int .i64 s.num,.slice AP nP cP,.slice AB nB cB,.slice AX nX cX],27),(w.heap.size+1,#[.slice AS nS cS,.slice AG u cG],31)]):=⟨HR.out.1⟩
  have HA:Bx (∀j,j<k→mQ s t.sts t.pgs j=true):=⟨HR.out.2⟩
  clear HR HF3;by_cases hkn:k<u
  ·obtain⟨bG,oG,_,_,rfl,-⟩:=HG.out.at_ hkn;obtain⟨xc,xg,xt,xs,xq,xch,xA,xm,xcc,HX,hwf,hI,x0,x1,x2,x3,x4,x5⟩:=ke.read HG.out HFr.out.xt hkn;have HI:=zZ hI;have HWF:=zZ hwf;have HKL:=zZ (show k<t.pgs.length by have:=HLG.out;omega);clear hI hwf;go_upto_region 9 with (fail)
   have hx2:ab wr (wr.alloc (.cells #[.int .i64 xc,.int .i64 xg,.int .i64 xt,.slice xA xm xcc,.int .i64 xs,.int .i64 xq] 77)):=(zE _).alloc _;obtain⟨w2,hw2⟩:=nm ((wr.alloc (.cells #[.int .i64 xc,.int .i64 xg,.int .i64 xt,.slice xA xm xcc,.int .i64 xs,.int .i64 xq] 77)):World);have HF2:Bx (ae w w2 [(w.heap.size,#[.int .i64 s.num,.slice AP nP cP,.slice AB nB cB,.slice AX nX cX],27),(w.heap.size+1,#[.slice AS nS cS,.slice (some ⟨bG,oG,none⟩) u cG],31),(wr.heap.size,#[.int .i64 xc,.int .i64 xg,.int .i64 xt,.slice xA xm xcc,.int .i64 xs,.int .i64 xq],77)]):=⟨by rw[hw2];exact HFr.out.push _ _ rfl⟩
   rw[←hw2]at hx2;rw[←hw2];clear hw2;obtain⟨gp,hgp⟩:=nm wr.heap.size;rw[←hgp]at HF2;rw[←hgp];clear hgp x0 x1 x2 x3 x4 x5;obtain⟨y0,y1,y2,y3,y4,y5⟩:=(HF2.out.at_ 2 rfl).p6 rfl;have b1:=(HF2.out.at_ 1 rfl).c 1 rfl;have HXW:=bx (HFr.out.xt);clear HFr;have key:∀(w5:World) (lt:Bool),lt=true→True:=fun _ _ _=>trivial;clear key;rcases xW k with hk0|hk0
   ·subst hk0;have HPG:=zZ (tj (s:=s) (sts:=t.sts) HX.out);refine zQ 99 fun wd kS=>?_;refine zS 16 [(0,39),(1,40),(2,41),(3,42),(4,43),(5,44),(6,45),(7,46),(8,47),(9,48),(10,49),(11,50),(12,51),(13,52),(14,53),(15,54)] kS ?_;iterate 3 (apply zT;exact⟨rfl,rfl⟩;(·intro wk hk;have:=hk.cell b1;have:=hk.cell y0;have:=hk.cell y1;go_simp;try with_reducible rfl);simp only[kA];exact rfl)
    iterate 12 (apply zK;exact⟨rfl,rfl⟩;simp only[kA];exact rfl)
    (apply zT;exact⟨rfl,rfl⟩;(·intro wk hk;have:=hk.cell b1;have:=hk.cell y0;have:=hk.cell y1;go_simp;try with_reducible rfl);simp only[kA];exact rfl);refine zN (zD ?_);have HFd:=bx (HF2.out.ext kS);have HId:=zZ ((HI.out.ext hx2).ext kS);clear kS y0 y1 y2 y3 y4 y5 b1 HF2 hx2;obtain⟨z0,z1,z2,z3⟩:=(HFd.out.at_ 0 rfl).p4 rfl;have y0:=(HFd.out.at_ 2 rfl).c 0 rfl;go_wp2_with fail;refine (dU _ s xc _ (HS0.out.ext HFd.out.xt) HOK.out).mono ?_;rintro e w5 ⟨⟨fa,fb,fd,rfl,hfx0⟩,hx5⟩;have HFX:=zZ hfx0;have HF5:=bx (HFd.out.ext hx5);clear hfx0 z0 z1 z2 z3 y0;cases hfx:aJ s.xp xc with
    |none =>
     have HE:=zZ (show aV s t=false from cR HKL.out (by rw[HPG.out];exact iW hfx));clear hfx;go_wp2_with fail;go_ret
     exact⟨aa HE.out.symm,HF5.out.xt.alloc _⟩
    |some x0 =>
     obtain rfl:x0=⟨fa,fb,fd⟩:=by have:=HFX.out;rw[hfx]at this;exact this
     have HFS:=zZ hfx;have hxb:=fw HOK.out (bh hfx).1;simp only at hxb;have HFV:Bx (aC fd):=⟨⟨by omega,by have:=HOK.out.len;omega⟩⟩
     clear hfx HFX hxb;go_upto_region 14 with (fail)
     obtain⟨w6,hw6⟩:=nm ((w5.alloc (.cells #[.int .i64 fa,.int .i64 fb,.int .i64 fd] 83)):World);have HF6:Bx (ae w w6 [(w.heap.size,#[.int .i64 s.num,.slice AP nP cP,.slice AB nB cB,.slice AX nX cX],27),(w.heap.size+1,#[.slice AS nS cS,.slice (some ⟨bG,oG,none⟩) u cG],31),(gp,#[.int .i64 xc,.int .i64 xg,.int .i64 xt,.slice xA xm xcc,.int .i64 xs,.int .i64 xq],77),(w5.heap.size,#[.int .i64 fa,.int .i64 fb,.int .i64 fd],83)]):=⟨by rw[hw6];exact HF5.out.push _ _ rfl⟩
     have hx6:ab wd w6:=by rw[hw6];exact hx5.alloc _
     rw[←hw6];clear hw6 HF5 HFd hx5;obtain⟨gx,hgx⟩:=nm w5.heap.size;rw[←hgx]at HF6;rw[←hgx];clear hgx;have z0:=(HF6.out.at_ 0 rfl).c 0 rfl;obtain⟨y0,y1⟩:=(HF6.out.at_ 2 rfl).p2 rfl;have f2:=(HF6.out.at_ 3 rfl).c 2 rfl;go_upto_region 15 with (fail)
     obtain⟨w7,hw7⟩:=nm ((w6.alloc (.cells #[.int .i64 s.num,.int .i64 xc,.int .i64 xg,.int .i64 fd] 73)):World);have HF7:Bx (ae w w7 [(w.heap.size,#[.int .i64 s.num,.slice AP nP cP,.slice AB nB cB,.slice AX nX cX],27),(w.heap.size+1,#[.slice AS nS cS,.slice (some ⟨bG,oG,none⟩) u cG],31),(gp,#[.int .i64 xc,.int .i64 xg,.int .i64 xt,.slice xA xm xcc,.int .i64 xs,.int .i64 xq],77),(gx,#[.int .i64 fa,.int .i64 fb,.int .i64 fd],83),(w6.heap.size,#[.int .i64 s.num,.int .i64 xc,.int .i64 xg,.int .i64 fd],73)]):=⟨by rw[hw7];exact HF6.out.push _ _ rfl⟩
     have hx7:ab wd w7:=by rw[hw7];exact hx6.alloc _
     rw[←hw7];clear hw7 HF6 hx6 z0 y0 y1 f2;obtain⟨gl,hgl⟩:=nm w6.heap.size;rw[←hgl]at HF7;rw[←hgl];clear hgl;have b0:=(HF7.out.at_ 1 rfl).c 0 rfl;have y4:=(HF7.out.at_ 2 rfl).c 4 rfl;have y5:=(HF7.out.at_ 2 rfl).c 5 rfl;go_wp2_with fail;refine (Bu _ t.sts xs xq _ (HS.out.ext (cQ.stab p) HF7.out.xt) (rM HAS.out xs xq) (by have:=HLS.out;omega)).mono ?_;rintro e w8 ⟨⟨i,b,rfl,hfd⟩,hx8⟩;have HFD:=zZ (AN HAS.out hfd);have hib:i≤nS:=by have:=hfd.1;have:=HLS.out;omega
     have HF8:=bx (HF7.out.ext hx8);have HI8:=zZ (HId.out.ext (hx7.trans hx8));clear hfd HF7 hx7 hx8 b0 y4 y5 HId;go_upto_region 16 with (fail)
     cases b with
     |false =>
      have HE:=zZ (show aV s t=false from cR HKL.out (by rw[HPG.out];exact hD (HFD.out.2 rfl)));refine zQ 99 fun we kS=>?_;refine zS 21 [(0,81),(1,82),(2,83),(3,84),(4,85),(5,86),(6,87),(7,88),(8,89),(9,90),(10,91),(11,92),(12,93),(13,94),(14,95),(15,96),(16,97),(17,98),(18,99),(19,100),(20,101)] kS ?_;iterate 3 (apply zT;exact⟨rfl,rfl⟩;(·intro _ _;go_simp;try with_reducible rfl);simp only[kA];exact rfl)
      iterate 7 (apply zK;exact⟨rfl,rfl⟩;simp only[kA];exact rfl)
      iterate 2 (apply zT;exact⟨rfl,rfl⟩;(·intro _ _;go_simp;try with_reducible rfl);simp only[kA];exact rfl)
      iterate 8 (apply zK;exact⟨rfl,rfl⟩;simp only[kA];exact rfl)
      (apply zT;exact⟨rfl,rfl⟩;(·intro _ _;go_simp;try with_reducible rfl);simp only[kA];exact rfl);refine zN (zD ?_);go_wp2_with fail;go_ret
      exact⟨aa HE.out.symm,HF8.out.xt.trans kS⟩
     |true =>
      obtain⟨x9,hxi,hfy⟩:=HFD.out.1 rfl;have hiS:i<nS:=by have:=(zY.1 hxi).1;have:=HLS.out;omega
      obtain⟨bS,oS,_,_,rfl,-⟩:=HS.out.at_ hiS;obtain⟨qs,qq,qt,qa,qb,qc,qd,HQ,-,q0,q1,q2,q3,q4,q5,q6⟩:=eF.read HS.out HF8.out.xt hiS;obtain rfl:x9=⟨⟨qs,qq⟩,qt,⟨qa,qb,qc,qd⟩⟩:=by have:=HQ.out;rw[hxi]at this;injection this
      have HPB:=zZ (gv (s:=s) (q:=⟨xc,xg,xt,xch,⟨xs,xq⟩⟩) HFS.out hfy);clear hxi hfy HFD HQ q0 q1;have b0:=(HF8.out.at_ 1 rfl).c 0 rfl;by_cases hq1:qt=1;case neg =>
       have HE:=zZ (show aV s t=false from cR HKL.out (by rw[HPG.out,HPB.out];simp[hq1]));have hqb:(qt != 1)=true:=by simp[hq1]
       refine zQ 99 fun we kS=>?_;refine zS 21 [(0,81),(1,82),(2,83),(3,84),(4,85),(5,86),(6,87),(7,88),(8,89),(9,90),(10,91),(11,92),(12,93),(13,94),(14,95),(15,96),(16,97),(17,98),(18,99),(19,100),(20,101)] kS ?_;iterate 12 (apply zT;exact⟨rfl,rfl⟩;(·intro wk hk;have:=hk.cell b0;have:=hk.cell q2;go_simp;try with_reducible rfl);simp only[kA];exact rfl)
       iterate 8 (apply zK;exact⟨rfl,rfl⟩;simp only[kA];exact rfl)
       (apply zT;exact⟨rfl,rfl⟩;(·intro wk hk;have:=hk.cell b0;have:=hk.cell q2;go_simp;try with_reducible rfl);simp only[kA];exact rfl);refine zN (zD ?_);go_wp2_with fail;go_ret
       exact⟨aa HE.out.symm,HF8.out.xt.trans kS⟩
      have hqb:(qt != 1)=false:=by simp[hq1]
      obtain⟨l0,l1,l2,l3⟩:=(HF8.out.at_ 4 rfl).p4 rfl;have eL:∀W,(Op.equalIn 10000 73 (.agg #[.int .i64 qa,.int .i64 qb,.int .i64 qc,.int .i64 qd]) (.agg #[.int .i64 s.num,.int .i64 xc,.int .i64 xg,.int .i64 fd])).run prog W=.ok (decide (qa=s.num∧qb=xc∧qc=xg∧qd=fd)) W:=fun W=>lY _ _ _ _ _ _ _ _ W;have gL:=fZ;by_cases hle:qa=s.num∧qb=xc∧qc=xg∧qd=fd;case neg =>
       rw[decide_eq_false hle]at eL;have HE:=zZ (show aV s t=false from cR HKL.out (by rw[HPG.out,HPB.out];have:(⟨qa,qb,qc,qd⟩:cU)≠⟨s.num,xc,xg,fd⟩:=fun e=>hle (by injection e with e1 e2 e3 e4;exact⟨e1,e2,e3,e4⟩);simp only[decide_eq_false this,Bool.false_and,wF]))
       clear hle;refine zQ 99 fun we kS=>?_;refine zS 21 [(0,81),(1,82),(2,83),(3,84),(4,85),(5,86),(6,87),(7,88),(8,89),(9,90),(10,91),(11,92),(12,93),(13,94),(14,95),(15,96),(16,97),(17,98),(18,99),(19,100),(20,101)] kS ?_;iterate 21 (apply zT;exact⟨rfl,rfl⟩;(·intro wk hk;have:=hk.cell b0;have:=hk.cell q2;have:=hk.cell q3;have:=hk.cell q4;have:=hk.cell q5;have:=hk.cell q6;have:=hk.cell l0;have:=hk.cell l1;have:=hk.cell l2;have:=hk.cell l3;go_simp;try with_reducible rfl);simp only[kA];exact rfl)
       refine zN (zD ?_);go_wp2_with fail;go_ret
       exact⟨aa HE.out.symm,HF8.out.xt.trans kS⟩
      rw[decide_eq_true hle]at eL;have HPF:=zZ (show mQ s t.sts t.pgs 0=be s ⟨s.num,xc,xg,fd⟩ xch by
       rw[HPG.out,HPB.out];have:(⟨qa,qb,qc,qd⟩:cU)=⟨s.num,xc,xg,fd⟩:=by obtain⟨e1,e2,e3,e4⟩:=hle;rw[e1,e2,e3,e4]
       simp only[decide_eq_true this,decide_eq_true hq1,yU])
      clear hle;refine zQ 99 fun we kS=>?_;refine zS 21 [(0,81),(1,82),(2,83),(3,84),(4,85),(5,86),(6,87),(7,88),(8,89),(9,90),(10,91),(11,92),(12,93),(13,94),(14,95),(15,96),(16,97),(17,98),(18,99),(19,100),(20,101)] kS ?_;iterate 21 (apply zT;exact⟨rfl,rfl⟩;(·intro wk hk;have:=hk.cell b0;have:=hk.cell q2;have:=hk.cell q3;have:=hk.cell q4;have:=hk.cell q5;have:=hk.cell q6;have:=hk.cell l0;have:=hk.cell l1;have:=hk.cell l2;have:=hk.cell l3;go_simp;try with_reducible rfl);simp only[kA];exact rfl)
      refine zN (zD ?_);have HF9:=bx (HF8.out.ext kS);have HI9:=zZ (HI8.out.ext kS);clear eL gL hqb hq1 b0 q2 q3 q4 q5 q6 l0 l1 l2 l3 kS HF8 HI8;obtain⟨z0,z1,z2,z3⟩:=(HF9.out.at_ 0 rfl).p4 rfl;obtain⟨l0,l1,l2,l3⟩:=(HF9.out.at_ 4 rfl).p4 rfl;have y3:=(HF9.out.at_ 2 rfl).c 3 rfl;go_wp2_with fail;refine (qG _ _ s s.num xc xg fd xch _ (p:=p) (q:=p) (zP hp HF9.out.xt.size) (HS0.out.ext HF9.out.xt) HI9.out ⟨HNUM.out,HWF.out.1,HWF.out.2.1,HFV.out⟩).mono ?_;rintro e wf ⟨rfl,hxf⟩;have hfi:da s ⟨s.num,xc,xg,fd⟩ xch=be s ⟨s.num,xc,xg,fd⟩ xch:=by unfold da;rw[HCK.out];simp
      rw[hfi];have HFf:Bx (ae w wf [(w.heap.size,#[.int .i64 s.num,.slice AP nP cP,.slice AB nB cB,.slice AX nX cX],27),(w.heap.size+1,#[.slice (some ⟨bS,oS,none⟩) nS cS,.slice (some ⟨bG,oG,none⟩) u cG],31)]):=⟨(HF9.out.ext hxf).take 2⟩
      clear hfi z0 z1 z2 z3 l0 l1 l2 l3 y3 hxf HF9 HI9;cases hft:be s ⟨s.num,xc,xg,fd⟩ xch with
      |false =>
       have HE:=zZ (show aV s t=false from cR HKL.out (by rw[HPF.out];exact hft));go_wp2_with fail;go_ret
       exact⟨aa HE.out.symm,HFf.out.xt⟩
      |true =>
       have HT:=zZ (show mQ s t.sts t.pgs 0=true by rw[HPF.out];exact hft);clear hft;go_wp2_with fail;go_roundw
       case rel=>exact⟨0+1,by go_num,by omega,⟨⟨HFf.out,fun j hj=>by rcases zV j 0 with h|h;exact HA.out j h;obtain rfl:j=0:=(by omega);exact HT.out⟩⟩⟩
       case measure=>simp[intOf];omega
   ·obtain⟨m,hm⟩:∃m,m+1=k:=⟨k-1,by omega⟩
    have hmn:m<u:=by omega
    obtain⟨zc,zg,zt,zs,zq,zch,zA,zm,zcc,HZ,-,-,z0,z1,z2,z3,z4,z5⟩:=ke.read HG.out (HXW.out.trans hx2) hmn;have HSG:=zZ (show mQ s t.sts t.pgs k=(cM ⟨zc,zg,zt,zch,⟨zs,zq⟩⟩ ⟨xc,xg,xt,xch,⟨xs,xq⟩⟩&&fH s t.sts ⟨xc,xg,xt,xch,⟨xs,xq⟩⟩) by rw[←hm];exact tu (by rw[hm];exact HX.out) HZ.out);have m1:IntKind.i64.wrap ((k:Int)-1)=(m:Int):=by rw[yQ _ (by omega)];omega
    have hkg:decide ((k:Int)>0)=true:=by simp;omega
    have hmm1:m+1≤k:=by omega
    have hmm2:k≤m+1:=by omega
    clear hm;refine zQ 99 fun wc kS=>?_;refine zS 13 [(0,39),(1,40),(2,41),(3,42),(4,43),(5,44),(6,45),(7,46),(8,47),(9,48),(10,49),(11,50),(12,51)] kS ?_;iterate 13 (apply zT;exact⟨rfl,rfl⟩;(·intro wk hk;have:=hk.cell b1;have:=hk.cell y0;have:=hk.cell y1;have:=hk.cell z0;have:=hk.cell z1;have:=hk.cell z2;have:=hk.cell z3;have:=hk.cell z4;have:=hk.cell z5;go_simp;try with_reducible rfl);simp only[kA];exact rfl)
    refine zN (zO 13 (fun K hK=>?_));go_simp;refine (ip zc zg zt zs zq xc xg zA zm zcc _).mono ?_;rintro e wd ⟨rfl,hxd⟩;have kS2:ab w2 wd:=kS.trans hxd;rcases bY zc zg xc xg with ⟨h1,e1⟩|⟨h1,e1⟩|⟨h1,e1⟩
    ·have HPG:=zZ (show mQ s t.sts t.pgs k=fH s t.sts ⟨xc,xg,xt,xch,⟨xs,xq⟩⟩ by rw[HSG.out,show cM ⟨zc,zg,zt,zch,⟨zs,zq⟩⟩ ⟨xc,xg,xt,xch,⟨xs,xq⟩⟩=true from decide_eq_true h1];rfl);rw[e1];clear h1 e1;refine hK.out _ _ (fun _=>kS2) ?_;clear hK K;try simp only[kA]
     refine zS 2 [(14,53),(15,54)] kS2 ?_;iterate 2 (apply zT;exact⟨rfl,rfl⟩;(·intro wk hk;have:=hk.cell b1;have:=hk.cell y0;have:=hk.cell y1;have:=hk.cell z0;have:=hk.cell z1;have:=hk.cell z2;have:=hk.cell z3;have:=hk.cell z4;have:=hk.cell z5;go_simp;try with_reducible rfl);simp only[kA];exact rfl)
     refine zN (zD ?_);clear kS;have kS:=kS2;clear kS2 z0 z1 z2 z3 z4 z5 m1 hkg hxd;have HFd:=bx (HF2.out.ext kS);have HId:=zZ ((HI.out.ext hx2).ext kS);clear kS y0 y1 y2 y3 y4 y5 b1 HF2 hx2;obtain⟨z0,z1,z2,z3⟩:=(HFd.out.at_ 0 rfl).p4 rfl;have y0:=(HFd.out.at_ 2 rfl).c 0 rfl;go_wp2_with fail;refine (dU _ s xc _ (HS0.out.ext HFd.out.xt) HOK.out).mono ?_;rintro e w5 ⟨⟨fa,fb,fd,rfl,hfx0⟩,hx5⟩;have HFX:=zZ hfx0;have HF5:=bx (HFd.out.ext hx5);clear hfx0 z0 z1 z2 z3 y0;cases hfx:aJ s.xp xc with
     |none =>
      have HE:=zZ (show aV s t=false from cR HKL.out (by rw[HPG.out];exact iW hfx));clear hfx;go_wp2_with fail;go_ret
      exact⟨aa HE.out.symm,HF5.out.xt.alloc _⟩
     |some x0 =>
      obtain rfl:x0=⟨fa,fb,fd⟩:=by have:=HFX.out;rw[hfx]at this;exact this
      have HFS:=zZ hfx;have hxb:=fw HOK.out (bh hfx).1;simp only at hxb;have HFV:Bx (aC fd):=⟨⟨by omega,by have:=HOK.out.len;omega⟩⟩
      clear hfx HFX hxb;go_upto_region 14 with (fail)
      obtain⟨w6,hw6⟩:=nm ((w5.alloc (.cells #[.int .i64 fa,.int .i64 fb,.int .i64 fd] 83)):World);have HF6:Bx (ae w w6 [(w.heap.size,#[.int .i64 s.num,.slice AP nP cP,.slice AB nB cB,.slice AX nX cX],27),(w.heap.size+1,#[.slice AS nS cS,.slice (some ⟨bG,oG,none⟩) u cG],31),(gp,#[.int .i64 xc,.int .i64 xg,.int .i64 xt,.slice xA xm xcc,.int .i64 xs,.int .i64 xq],77),(w5.heap.size,#[.int .i64 fa,.int .i64 fb,.int .i64 fd],83)]):=⟨by rw[hw6];exact HF5.out.push _ _ rfl⟩
      have hx6:ab wd w6:=by rw[hw6];exact hx5.alloc _
      rw[←hw6];clear hw6 HF5 HFd hx5;obtain⟨gx,hgx⟩:=nm w5.heap.size;rw[←hgx]at HF6;rw[←hgx];clear hgx;have z0:=(HF6.out.at_ 0 rfl).c 0 rfl;obtain⟨y0,y1⟩:=(HF6.out.at_ 2 rfl).p2 rfl;have f2:=(HF6.out.at_ 3 rfl).c 2 rfl;go_upto_region 15 with (fail)
      obtain⟨w7,hw7⟩:=nm ((w6.alloc (.cells #[.int .i64 s.num,.int .i64 xc,.int .i64 xg,.int .i64 fd] 73)):World);have HF7:Bx (ae w w7 [(w.heap.size,#[.int .i64 s.num,.slice AP nP cP,.slice AB nB cB,.slice AX nX cX],27),(w.heap.size+1,#[.slice AS nS cS,.slice (some ⟨bG,oG,none⟩) u cG],31),(gp,#[.int .i64 xc,.int .i64 xg,.int .i64 xt,.slice xA xm xcc,.int .i64 xs,.int .i64 xq],77),(gx,#[.int .i64 fa,.int .i64 fb,.int .i64 fd],83),(w6.heap.size,#[.int .i64 s.num,.int .i64 xc,.int .i64 xg,.int .i64 fd],73)]):=⟨by rw[hw7];exact HF6.out.push _ _ rfl⟩
      have hx7:ab wd w7:=by rw[hw7];exact hx6.alloc _
      rw[←hw7];clear hw7 HF6 hx6 z0 y0 y1 f2;obtain⟨gl,hgl⟩:=nm w6.heap.size;rw[←hgl]at HF7;rw[←hgl];clear hgl;have b0:=(HF7.out.at_ 1 rfl).c 0 rfl;have y4:=(HF7.out.at_ 2 rfl).c 4 rfl;have y5:=(HF7.out.at_ 2 rfl).c 5 rfl;go_wp2_with fail;refine (Bu _ t.sts xs xq _ (HS.out.ext (cQ.stab p) HF7.out.xt) (rM HAS.out xs xq) (by have:=HLS.out;omega)).mono ?_;rintro e w8 ⟨⟨i,b,rfl,hfd⟩,hx8⟩;have HFD:=zZ (AN HAS.out hfd);have hib:i≤nS:=by have:=hfd.1;have:=HLS.out;omega
      have HF8:=bx (HF7.out.ext hx8);have HI8:=zZ (HId.out.ext (hx7.trans hx8));clear hfd HF7 hx7 hx8 b0 y4 y5 HId;go_upto_region 16 with (fail)
      cases b with
      |false =>
       have HE:=zZ (show aV s t=false from cR HKL.out (by rw[HPG.out];exact hD (HFD.out.2 rfl)));refine zQ 99 fun we kS=>?_;refine zS 21 [(0,81),(1,82),(2,83),(3,84),(4,85),(5,86),(6,87),(7,88),(8,89),(9,90),(10,91),(11,92),(12,93),(13,94),(14,95),(15,96),(16,97),(17,98),(18,99),(19,100),(20,101)] kS ?_;iterate 3 (apply zT;exact⟨rfl,rfl⟩;(·intro _ _;go_simp;try with_reducible rfl);simp only[kA];exact rfl)
       iterate 7 (apply zK;exact⟨rfl,rfl⟩;simp only[kA];exact rfl)
       iterate 2 (apply zT;exact⟨rfl,rfl⟩;(·intro _ _;go_simp;try with_reducible rfl);simp only[kA];exact rfl)
       iterate 8 (apply zK;exact⟨rfl,rfl⟩;simp only[kA];exact rfl)
       (apply zT;exact⟨rfl,rfl⟩;(·intro _ _;go_simp;try with_reducible rfl);simp only[kA];exact rfl);refine zN (zD ?_);go_wp2_with fail;go_ret
       exact⟨aa HE.out.symm,HF8.out.xt.trans kS⟩
      |true =>
       obtain⟨x9,hxi,hfy⟩:=HFD.out.1 rfl;have hiS:i<nS:=by have:=(zY.1 hxi).1;have:=HLS.out;omega
       obtain⟨bS,oS,_,_,rfl,-⟩:=HS.out.at_ hiS;obtain⟨qs,qq,qt,qa,qb,qc,qd,HQ,-,q0,q1,q2,q3,q4,q5,q6⟩:=eF.read HS.out HF8.out.xt hiS;obtain rfl:x9=⟨⟨qs,qq⟩,qt,⟨qa,qb,qc,qd⟩⟩:=by have:=HQ.out;rw[hxi]at this;injection this
       have HPB:=zZ (gv (s:=s) (q:=⟨xc,xg,xt,xch,⟨xs,xq⟩⟩) HFS.out hfy);clear hxi hfy HFD HQ q0 q1;have b0:=(HF8.out.at_ 1 rfl).c 0 rfl;by_cases hq1:qt=1;case neg =>
        have HE:=zZ (show aV s t=false from cR HKL.out (by rw[HPG.out,HPB.out];simp[hq1]));have hqb:(qt != 1)=true:=by simp[hq1]
        refine zQ 99 fun we kS=>?_;refine zS 21 [(0,81),(1,82),(2,83),(3,84),(4,85),(5,86),(6,87),(7,88),(8,89),(9,90),(10,91),(11,92),(12,93),(13,94),(14,95),(15,96),(16,97),(17,98),(18,99),(19,100),(20,101)] kS ?_;iterate 12 (apply zT;exact⟨rfl,rfl⟩;(·intro wk hk;have:=hk.cell b0;have:=hk.cell q2;go_simp;try with_reducible rfl);simp only[kA];exact rfl)
        iterate 8 (apply zK;exact⟨rfl,rfl⟩;simp only[kA];exact rfl)
        (apply zT;exact⟨rfl,rfl⟩;(·intro wk hk;have:=hk.cell b0;have:=hk.cell q2;go_simp;try with_reducible rfl);simp only[kA];exact rfl);refine zN (zD ?_);go_wp2_with fail;go_ret
        exact⟨aa HE.out.symm,HF8.out.xt.trans kS⟩
       have hqb:(qt != 1)=false:=by simp[hq1]
       obtain⟨l0,l1,l2,l3⟩:=(HF8.out.at_ 4 rfl).p4 rfl;have eL:∀W,(Op.equalIn 10000 73 (.agg #[.int .i64 qa,.int .i64 qb,.int .i64 qc,.int .i64 qd]) (.agg #[.int .i64 s.num,.int .i64 xc,.int .i64 xg,.int .i64 fd])).run prog W=.ok (decide (qa=s.num∧qb=xc∧qc=xg∧qd=fd)) W:=fun W=>lY _ _ _ _ _ _ _ _ W;have gL:=fZ;by_cases hle:qa=s.num∧qb=xc∧qc=xg∧qd=fd;case neg =>
        rw[decide_eq_false hle]at eL;have HE:=zZ (show aV s t=false from cR HKL.out (by rw[HPG.out,HPB.out];have:(⟨qa,qb,qc,qd⟩:cU)≠⟨s.num,xc,xg,fd⟩:=fun e=>hle (by injection e with e1 e2 e3 e4;exact⟨e1,e2,e3,e4⟩);simp only[decide_eq_false this,Bool.false_and,wF]))
        clear hle;refine zQ 99 fun we kS=>?_;refine zS 21 [(0,81),(1,82),(2,83),(3,84),(4,85),(5,86),(6,87),(7,88),(8,89),(9,90),(10,91),(11,92),(12,93),(13,94),(14,95),(15,96),(16,97),(17,98),(18,99),(19,100),(20,101)] kS ?_;iterate 21 (apply zT;exact⟨rfl,rfl⟩;(·intro wk hk;have:=hk.cell b0;have:=hk.cell q2;have:=hk.cell q3;have:=hk.cell q4;have:=hk.cell q5;have:=hk.cell q6;have:=hk.cell l0;have:=hk.cell l1;have:=hk.cell l2;have:=hk.cell l3;go_simp;try with_reducible rfl);simp only[kA];exact rfl)
        refine zN (zD ?_);go_wp2_with fail;go_ret
        exact⟨aa HE.out.symm,HF8.out.xt.trans kS⟩
       rw[decide_eq_true hle]at eL;have HPF:=zZ (show mQ s t.sts t.pgs k=be s ⟨s.num,xc,xg,fd⟩ xch by
        rw[HPG.out,HPB.out];have:(⟨qa,qb,qc,qd⟩:cU)=⟨s.num,xc,xg,fd⟩:=by obtain⟨e1,e2,e3,e4⟩:=hle;rw[e1,e2,e3,e4]
        simp only[decide_eq_true this,decide_eq_true hq1,yU])
       clear hle;refine zQ 99 fun we kS=>?_;refine zS 21 [(0,81),(1,82),(2,83),(3,84),(4,85),(5,86),(6,87),(7,88),(8,89),(9,90),(10,91),(11,92),(12,93),(13,94),(14,95),(15,96),(16,97),(17,98),(18,99),(19,100),(20,101)] kS ?_;iterate 21 (apply zT;exact⟨rfl,rfl⟩;(·intro wk hk;have:=hk.cell b0;have:=hk.cell q2;have:=hk.cell q3;have:=hk.cell q4;have:=hk.cell q5;have:=hk.cell q6;have:=hk.cell l0;have:=hk.cell l1;have:=hk.cell l2;have:=hk.cell l3;go_simp;try with_reducible rfl);simp only[kA];exact rfl)
       refine zN (zD ?_);have HF9:=bx (HF8.out.ext kS);have HI9:=zZ (HI8.out.ext kS);clear eL gL hqb hq1 b0 q2 q3 q4 q5 q6 l0 l1 l2 l3 kS HF8 HI8;obtain⟨z0,z1,z2,z3⟩:=(HF9.out.at_ 0 rfl).p4 rfl;obtain⟨l0,l1,l2,l3⟩:=(HF9.out.at_ 4 rfl).p4 rfl;have y3:=(HF9.out.at_ 2 rfl).c 3 rfl;go_wp2_with fail;refine (qG _ _ s s.num xc xg fd xch _ (p:=p) (q:=p) (zP hp HF9.out.xt.size) (HS0.out.ext HF9.out.xt) HI9.out ⟨HNUM.out,HWF.out.1,HWF.out.2.1,HFV.out⟩).mono ?_;rintro e wf ⟨rfl,hxf⟩;have hfi:da s ⟨s.num,xc,xg,fd⟩ xch=be s ⟨s.num,xc,xg,fd⟩ xch:=by unfold da;rw[HCK.out];simp
       rw[hfi];have HFf:Bx (ae w wf [(w.heap.size,#[.int .i64 s.num,.slice AP nP cP,.slice AB nB cB,.slice AX nX cX],27),(w.heap.size+1,#[.slice (some ⟨bS,oS,none⟩) nS cS,.slice (some ⟨bG,oG,none⟩) u cG],31)]):=⟨(HF9.out.ext hxf).take 2⟩
       clear hfi z0 z1 z2 z3 l0 l1 l2 l3 y3 hxf HF9 HI9;cases hft:be s ⟨s.num,xc,xg,fd⟩ xch with
       |false =>
        have HE:=zZ (show aV s t=false from cR HKL.out (by rw[HPF.out];exact hft));go_wp2_with fail;go_ret
        exact⟨aa HE.out.symm,HFf.out.xt⟩
       |true =>
        have HT:=zZ (show mQ s t.sts t.pgs k=true by rw[HPF.out];exact hft);clear hft;go_wp2_with fail;go_roundw
        case rel=>exact⟨k+1,by go_num,by omega,⟨⟨HFf.out,fun j hj=>by rcases zV j k with h|h;exact HA.out j h;obtain rfl:j=k:=(by omega);exact HT.out⟩⟩⟩
        case measure=>simp[intOf];omega
    ·skip
     have HE:=zZ (show aV s t=false from cR HKL.out (by rw[HSG.out,show cM ⟨zc,zg,zt,zch,⟨zs,zq⟩⟩ ⟨xc,xg,xt,xch,⟨xs,xq⟩⟩=false from decide_eq_false (by simp only;omega)];rfl));rw[e1];clear h1 e1;refine hK.out _ _ (fun _=>kS2) ?_;clear hK K;try simp only[kA]
     refine zS 2 [(14,53),(15,54)] kS2 ?_;iterate 2 (apply zT;exact⟨rfl,rfl⟩;(·intro _ _;go_simp;try with_reducible rfl);simp only[kA];exact rfl)
     refine zN (zD ?_);go_wp2_with fail;go_ret
     exact⟨aa HE.out.symm,HF2.out.xt.trans kS2⟩
    ·skip
     have HE:=zZ (show aV s t=false from cR HKL.out (by rw[HSG.out,show cM ⟨zc,zg,zt,zch,⟨zs,zq⟩⟩ ⟨xc,xg,xt,xch,⟨xs,xq⟩⟩=false from decide_eq_false (by simp only;omega)];rfl));rw[e1];clear h1 e1;refine hK.out _ _ (fun _=>kS2) ?_;clear hK K;try simp only[kA]
     refine zS 2 [(14,53),(15,54)] kS2 ?_;iterate 2 (apply zT;exact⟨rfl,rfl⟩;(·intro _ _;go_simp;try with_reducible rfl);simp only[kA];exact rfl)
     refine zN (zD ?_);go_wp2_with fail;go_ret
     exact⟨aa HE.out.symm,HF2.out.xt.trans kS2⟩
  ·obtain rfl:k=u:=by omega
   have HE:=zZ (Fo HCK.out HST.out HUS.out fun j hj=>HA.out j (by have:=HLG.out;omega));go_wp2_with fail;go_ret
   exact⟨aa HE.out.symm,HFr.out.xt⟩
end Go.Proofs.YtjgfgdcaocbfhaaGreat

