import Derived.Test.YtjgfgdcaocbfhaaGreatH31
import Derived.Test.YtjgfgdcaocbfhaaGreatH24
set_option linter.all false
set_option maxRecDepth 100000
set_option maxHeartbeats 0
namespace Go.Proofs.YtjgfgdcaocbfhaaGreat
open Go.Value renaming int→B,slice→D
open Go.IntKind renaming i64→C
open Go.RowKit _root_.Go.Proofs.Tryz
variable {j k p:Nat} {pg:List Int} {code var:Int}
theorem qJ{s:aZ}{t:en}(h:aw s≠0):aV s t=false:=by unfold aV;rw[decide_eq_false h];rfl
theorem rP{s:aZ}{t:en}(h:fM t.sts=false):aV s t=false:=by unfold aV;rw[h];simp
theorem ET{s:aZ}{t:en}(h:fJ t.sts≠t.pgs.length):aV s t=false:=by unfold aV;rw[decide_eq_false h];simp
theorem cR{s:aZ}{t:en}(hk:k<t.pgs.length)(h:mQ s t.sts t.pgs k=false):aV s t=false:=by unfold aV;rw[dA hk h];simp
theorem Fo{s:aZ}{t:en}(h1:aw s=0)(h2:fM t.sts=true)(h3:fJ t.sts=t.pgs.length)(h4:∀k,k<t.pgs.length→mQ s t.sts t.pgs k=true):aV s t=true:=by unfold aV;rw[decide_eq_true h1,h2,decide_eq_true h3,eC h4];rfl
theorem iW{s:aZ}{sts:List aY}{q:Pg}(h:aJ s.xp q.cand=none):fH s sts q=false:=by unfold fH;rw[h]
theorem hD{s:aZ}{sts:List aY}{q:Pg}(h:ia sts q.scan=none):fH s sts q=false:=by unfold fH;rw[h];cases aJ s.xp q.cand<;>rfl
theorem gv{s:aZ}{sts:List aY}{q:Pg}{x:dF}{y:aY}(h1:aJ s.xp q.cand=some x)(h2:ia sts q.scan=some y) :
  fH s sts q=(decide (y.state=1)&&(decide (y.lab=⟨s.num,q.cand,q.page,x.var⟩)&&be s ⟨s.num,q.cand,q.page,x.var⟩ q.ch)):=by unfold fH;rw[h1,h2]
theorem pj{l:List aY}(h:fM l=true):fB aW l:=pm (i:=⟨l,[]⟩) fun k hk=>i7 h hk
theorem gN(v vi:Value)(s:aZ)(t:en)(w:World)(hp:p<w.heap.size)(hs:aN p w v s)(ht:bN p w vi t)(hn1:t.sts.length≤1000)(hn2:t.pgs.length≤1000) :
  Calls prog 33 #[v,vi] w fun e w'=>e=.returned (.bool (aV s t))∧ab w w':=by
 have HS0:=zZ hs;obtain⟨vP,vB,vX,rfl,hP,hB,hX,hnum⟩:=hs;obtain⟨AP,nP,cP,rfl,-⟩:=hP.open_;obtain⟨AB,nB,cB,rfl,-⟩:=hB.open_;obtain⟨AX,nX,cX,rfl,-⟩:=hX.open_;obtain⟨vS,vG,rfl,hS,hG⟩:=ht;obtain⟨AS,nS,cS,rfl,hncS,hccS,hnnS,HLS⟩:=hS.open_;obtain⟨AG,nG,cG,rfl,hncG,hccG,hnnG,HLG⟩:=hG.open_;have HS:Bx (eF p w (D AS nS cS) t.sts):=⟨hS⟩
 have HG:Bx (ke p w (D AG nG cG) t.pgs):=⟨hG⟩
 have HNUM:Bx (aC s.num):=⟨hnum⟩
 have hnS:nS≤1000:=by have:=HLS.out;omega
 have hnG:nG≤1000:=by have:=HLG.out;omega
 clear hP hB hX hnum hS hG hn1 hn2;obtain⟨w1,hw1⟩:=nm (((w.alloc (.cells #[B C s.num,D AP nP cP,D AB nB cB,D AX nX cX] 27)).alloc (.cells #[D AS nS cS,D AG nG cG] 31)):World);have HF:Bx (ae w w1 [(w.heap.size,#[B C s.num,D AP nP cP,D AB nB cB,D AX nX cX],27),(w.heap.size+1,#[D AS nS cS,D AG nG cG],31)]):=⟨by rw[hw1];exact ((ae.start w).push _ _ rfl).push _ _ (by simp)⟩
 go_enter func33,ntmps33
 go_upto_region 1 with (fail)
 rw[←hw1];clear hw1;obtain⟨z0,z1,z2,z3⟩:=(HF.out.at_ 0 rfl).p4 rfl;go_wp2_with fail;refine (qe _ s _ (HS0.out.ext HF.out.xt)).mono ?_;rintro e w2 ⟨rfl,hx2⟩;have HF2:=bx (HF.out.ext hx2);clear HF hx2 z0 z1 z2 z3;by_cases hck:aw s=0;case neg =>
  have HE:=zZ (qJ (t:=t) hck);have hcb:(aw s != 0)=true:=by simp[hck]
  go_wp2_with fail;go_ret
  exact⟨aa HE.out.symm,HF2.out.xt⟩
 have HCK:=zZ hck;have HOK:Bx (cD s):=⟨eV.1 hck⟩
 rw[hck];clear hck;have b0:=(HF2.out.at_ 1 rfl).c 0 rfl;go_wp2_with fail;refine (m0 _ t.sts _ (HS.out.ext (cQ.stab p) HF2.out.xt) (by have:=HLS.out;omega)).mono ?_;rintro e w3 ⟨⟨u,rfl,hu⟩,hx3⟩;have HF3:=bx (HF2.out.ext hx3);have HU:=zZ hu;clear HF2 hx3 b0 hu;have b1:=(HF3.out.at_ 1 rfl).c 1 rfl;cases hst:fM t.sts with
 |false =>
  have HE:=zZ (rP (s:=s) hst);clear hst;go_wp2_with fail;go_ret
  exact⟨aa HE.out.symm,HF3.out.xt⟩
 |true =>
 have HST:=zZ hst;have HAS:=zZ (pj hst);have HU2:=zZ (HU.out hst);clear hst HU;by_cases hun:u=nG;case neg =>
  have HE:=zZ (ET (s:=s) (t:=t) (by rw[←HU2.out,HLG.out];exact hun));have hub:((u:Int)!=(nG:Int))=true:=by simp;omega
  go_wp2_with fail;all_goals first
   |(exfalso;omega)
   |(go_ret;exact⟨aa HE.out.symm,HF3.out.xt⟩)
 subst hun;have HUS:=zZ (show fJ t.sts=t.pgs.length by rw[←HU2.out,HLG.out]);have hub:((u:Int)!=(u:Int))=false:=by simp
 clear HU2;go_wp2_with fail;clear b1 hub;go_loopw [34] (fun s34 wr=>∃k:Nat,s34=B C k∧k≤u∧Bx (ae w wr [(w.heap.size,#[B C s.num,D AP nP cP,D AB nB cB,D AX nX cX],27),(w.heap.size+1,#[D AS nS cS,D AG u cG],31)]∧∀j,j<k→mQ s t.sts t.pgs j=true)) (fun k _=>u-(intOf k).toNat)
 case atStart=>exact⟨0,rfl,by omega,⟨⟨HF3.out,fun j hj=>by omega⟩⟩⟩
 case round =>
  obtain⟨k,rfl,hk,HR⟩:=hrel;have HFr:Bx (ae w wr [(w.heap.size,#[B C s.num,D AP nP cP,D AB nB cB,D AX nX cX],27),(w.heap.size+1,#[D AS nS cS,D AG u cG],31)]):=⟨HR.out.1⟩
  have HA:Bx (∀j,j<k→mQ s t.sts t.pgs j=true):=⟨HR.out.2⟩
  clear HR HF3;by_cases hkn:k<u
  ·obtain⟨bG,oG,_,_,rfl,-⟩:=HG.out.at_ hkn;obtain⟨xc,xg,xt,xs,xq,xch,xA,xm,xcc,HX,hwf,hI,x0,x1,x2,x3,x4,x5⟩:=ke.read HG.out HFr.out.xt hkn;have HI:=zZ hI;have HWF:=zZ hwf;have HKL:=zZ (show k<t.pgs.length by have:=HLG.out;omega);clear hI hwf;go_upto_region 9 with (fail)
   have hx2:ab wr (wr.alloc (.cells #[B C xc,B C xg,B C xt,D xA xm xcc,B C xs,B C xq] 77)):=(zE _).alloc _;obtain⟨w2,hw2⟩:=nm ((wr.alloc (.cells #[B C xc,B C xg,B C xt,D xA xm xcc,B C xs,B C xq] 77)):World);have HF2:Bx (ae w w2 [(w.heap.size,#[B C s.num,D AP nP cP,D AB nB cB,D AX nX cX],27),(w.heap.size+1,#[D AS nS cS,D (some ⟨bG,oG,none⟩) u cG],31),(wr.heap.size,#[B C xc,B C xg,B C xt,D xA xm xcc,B C xs,B C xq],77)]):=⟨by rw[hw2];exact HFr.out.push _ _ rfl⟩
   rw[←hw2]at hx2;rw[←hw2];clear hw2;obtain⟨gp,hgp⟩:=nm wr.heap.size;rw[←hgp]at HF2;rw[←hgp];clear hgp x0 x1 x2 x3 x4 x5;obtain⟨y0,y1,y2,y3,y4,y5⟩:=(HF2.out.at_ 2 rfl).p6 rfl;have b1:=(HF2.out.at_ 1 rfl).c 1 rfl;have HXW:=bx (HFr.out.xt);clear HFr;have key:∀(w5:World) (lt:Bool),lt=true→True:=fun _ _ _=>trivial;clear key;rcases xW k with hk0|hk0
   ·subst hk0;have HPG:=zZ (tj (s:=s) (sts:=t.sts) HX.out);refine zQ 99 fun wd kS=>?_;refine zS 16 [(0,39),(1,40),(2,41),(3,42),(4,43),(5,44),(6,45),(7,46),(8,47),(9,48),(10,49),(11,50),(12,51),(13,52),(14,53),(15,54)] kS ?_;iterate 3 (apply zT;exact⟨rfl,rfl⟩;(·intro wk hk;have:=hk.cell b1;have:=hk.cell y0;have:=hk.cell y1;go_simp;try with_reducible rfl);simp only[kA];exact rfl)
    iterate 12 (apply zK;exact⟨rfl,rfl⟩;simp only[kA];exact rfl)
    (apply zT;exact⟨rfl,rfl⟩;(·intro wk hk;have:=hk.cell b1;have:=hk.cell y0;have:=hk.cell y1;go_simp;try with_reducible rfl);simp only[kA];exact rfl);refine zN (zD ?_);have HFd:=bx (HF2.out.ext kS);have HId:=zZ ((HI.out.ext hx2).ext kS);clear kS y0 y1 y2 y3 y4 y5 b1 HF2 hx2;obtain⟨z0,z1,z2,z3⟩:=(HFd.out.at_ 0 rfl).p4 rfl;have y0:=(HFd.out.at_ 2 rfl).c 0 rfl;go_wp2_with fail;refine (dU _ s xc _ (HS0.out.ext HFd.out.xt) HOK.out).mono ?_;rintro e w5 ⟨⟨fa,fb,fd,rfl,hfx0⟩,hx5⟩;have HFX:=zZ hfx0;have HF5:=bx (HFd.out.ext hx5);clear hfx0 z0 z1 z2 z3 y0;cases hfx:aJ s.xp xc with
    |none =>
     have HE:=zZ (show aV s t=false from cR HKL.out (by rw[HPG.out];exact iW hfx));clear hfx;go_wp2_with fail;go_ret
     exact⟨aa HE.out.symm,HF5.out.xt.alloc _⟩
    |some x0 =>
     obtain rfl:x0=⟨fa,fb,fd⟩:=by have:=HFX.out;rw[hfx]at this;exact this
     have HFS:=zZ hfx;have hxb:=fw HOK.out (bh hfx).1;simp only at hxb;have HFV:Bx (aC fd):=⟨⟨by omega,by have:=HOK.out.len;omega⟩⟩
     clear hfx HFX hxb;go_upto_region 14 with (fail)
     obtain⟨w6,hw6⟩:=nm ((w5.alloc (.cells #[B C fa,B C fb,B C fd] 83)):World);have HF6:Bx (ae w w6 [(w.heap.size,#[B C s.num,D AP nP cP,D AB nB cB,D AX nX cX],27),(w.heap.size+1,#[D AS nS cS,D (some ⟨bG,oG,none⟩) u cG],31),(gp,#[B C xc,B C xg,B C xt,D xA xm xcc,B C xs,B C xq],77),(w5.heap.size,#[B C fa,B C fb,B C fd],83)]):=⟨by rw[hw6];exact HF5.out.push _ _ rfl⟩
     have hx6:ab wd w6:=by rw[hw6];exact hx5.alloc _
     rw[←hw6];clear hw6 HF5 HFd hx5;obtain⟨gx,hgx⟩:=nm w5.heap.size;rw[←hgx]at HF6;rw[←hgx];clear hgx;have z0:=(HF6.out.at_ 0 rfl).c 0 rfl;obtain⟨y0,y1⟩:=(HF6.out.at_ 2 rfl).p2 rfl;have f2:=(HF6.out.at_ 3 rfl).c 2 rfl;go_upto_region 15 with (fail)
     obtain⟨w7,hw7⟩:=nm ((w6.alloc (.cells #[B C s.num,B C xc,B C xg,B C fd] 73)):World);have HF7:Bx (ae w w7 [(w.heap.size,#[B C s.num,D AP nP cP,D AB nB cB,D AX nX cX],27),(w.heap.size+1,#[D AS nS cS,D (some ⟨bG,oG,none⟩) u cG],31),(gp,#[B C xc,B C xg,B C xt,D xA xm xcc,B C xs,B C xq],77),(gx,#[B C fa,B C fb,B C fd],83),(w6.heap.size,#[B C s.num,B C xc,B C xg,B C fd],73)]):=⟨by rw[hw7];exact HF6.out.push _ _ rfl⟩
     have hx7:ab wd w7:=by rw[hw7];exact hx6.alloc _
     rw[←hw7];clear hw7 HF6 hx6 z0 y0 y1 f2;obtain⟨gl,hgl⟩:=nm w6.heap.size;rw[←hgl]at HF7;rw[←hgl];clear hgl;have b0:=(HF7.out.at_ 1 rfl).c 0 rfl;have y4:=(HF7.out.at_ 2 rfl).c 4 rfl;have y5:=(HF7.out.at_ 2 rfl).c 5 rfl;go_wp2_with fail;refine (Bu _ t.sts xs xq _ (HS.out.ext (cQ.stab p) HF7.out.xt) (rM HAS.out xs xq) (by have:=HLS.out;omega)).mono ?_;rintro e w8 ⟨⟨i,b,rfl,hfd⟩,hx8⟩;have HFD:=zZ (AN HAS.out hfd);have hib:i≤nS:=by have:=hfd.1;have:=HLS.out;omega
     have HF8:=bx (HF7.out.ext hx8);have HI8:=zZ (HId.out.ext (hx7.trans hx8));clear hfd HF7 hx7 hx8 b0 y4 y5 HId;go_upto_region 16 with (fail)
     cases b with
     |false =>
      have HE:=zZ (show aV s t=false from cR HKL.out (by rw[HPG.out];exact hD (HFD.out.2 rfl)));refine zQ 99 fun we kS=>?_;refine zS 21 [(0,81),(1,82),(2,83),(3,84),(4,85),(5,86),(6,87),(7,88),(8,89),(9,90),(10,91),(11,92),(12,93),(13,94),(14,95),(15,96),(16,97),(17,98),(18,99),(19,100),(20,101)] kS ?_;iterate 3 (apply zT;exact⟨rfl,rfl⟩;(·intro _ _;go_simp;try with_reducible rfl);simp only[kA];exact rfl)
      iterate 7 (apply zK;exact⟨rfl,rfl⟩;simp only[kA];exact rfl)
      iterate 2 (apply zT;exact⟨rfl,rfl⟩;(·intro _ _;go_simp;try with_reducible rfl);simp only[kA];exact rfl)
      iterate 8 (apply zK;exact⟨rfl,rfl⟩;simp only[kA];exact rfl)
      (apply zT;exact⟨rfl,rfl⟩;(·intro _ _;go_simp;try with_reducible rfl);simp only[kA];exact rfl);refine zN (zD ?_);go_wp2_with fail;go_ret
      exact⟨aa HE.out.symm,HF8.out.xt.trans kS⟩
     |true =>
      obtain⟨x9,hxi,hfy⟩:=HFD.out.1 rfl;have hiS:i<nS:=by have:=(zY.1 hxi).1;have:=HLS.out;omega
      obtain⟨bS,oS,_,_,rfl,-⟩:=HS.out.at_ hiS;obtain⟨qs,qq,qt,qa,qb,qc,qd,HQ,-,q0,q1,q2,q3,q4,q5,q6⟩:=eF.read HS.out HF8.out.xt hiS;obtain rfl:x9=⟨⟨qs,qq⟩,qt,⟨qa,qb,qc,qd⟩⟩:=by have:=HQ.out;rw[hxi]at this;injection this
      have HPB:=zZ (gv (s:=s) (q:=⟨xc,xg,xt,xch,⟨xs,xq⟩⟩) HFS.out hfy);clear hxi hfy HFD HQ q0 q1;have b0:=(HF8.out.at_ 1 rfl).c 0 rfl;by_cases hq1:qt=1;case neg =>
       have HE:=zZ (show aV s t=false from cR HKL.out (by rw[HPG.out,HPB.out];simp[hq1]));have hqb:(qt != 1)=true:=by simp[hq1]
       refine zQ 99 fun we kS=>?_;refine zS 21 [(0,81),(1,82),(2,83),(3,84),(4,85),(5,86),(6,87),(7,88),(8,89),(9,90),(10,91),(11,92),(12,93),(13,94),(14,95),(15,96),(16,97),(17,98),(18,99),(19,100),(20,101)] kS ?_;iterate 12 (apply zT;exact⟨rfl,rfl⟩;(·intro wk hk;have:=hk.cell b0;have:=hk.cell q2;go_simp;try with_reducible rfl);simp only[kA];exact rfl)
       iterate 8 (apply zK;exact⟨rfl,rfl⟩;simp only[kA];exact rfl)
       (apply zT;exact⟨rfl,rfl⟩;(·intro wk hk;have:=hk.cell b0;have:=hk.cell q2;go_simp;try with_reducible rfl);simp only[kA];exact rfl);refine zN (zD ?_);go_wp2_with fail;go_ret
       exact⟨aa HE.out.symm,HF8.out.xt.trans kS⟩
      have hqb:(qt != 1)=false:=by simp[hq1]
      obtain⟨l0,l1,l2,l3⟩:=(HF8.out.at_ 4 rfl).p4 rfl;have eL:∀W,(Op.equalIn 10000 73 (.agg #[B C qa,B C qb,B C qc,B C qd]) (.agg #[B C s.num,B C xc,B C xg,B C fd])).run prog W=.ok (decide (qa=s.num∧qb=xc∧qc=xg∧qd=fd)) W:=fun W=>lY _ _ _ _ _ _ _ _ W;have gL:=fZ;by_cases hle:qa=s.num∧qb=xc∧qc=xg∧qd=fd;case neg =>
       rw[decide_eq_false hle]at eL;have HE:=zZ (show aV s t=false from cR HKL.out (by rw[HPG.out,HPB.out];have:(⟨qa,qb,qc,qd⟩:cU)≠⟨s.num,xc,xg,fd⟩:=fun e=>hle (by injection e with e1 e2 e3 e4;exact⟨e1,e2,e3,e4⟩);simp only[decide_eq_false this,Bool.false_and,wF]))
       clear hle;refine zQ 99 fun we kS=>?_;refine zS 21 [(0,81),(1,82),(2,83),(3,84),(4,85),(5,86),(6,87),(7,88),(8,89),(9,90),(10,91),(11,92),(12,93),(13,94),(14,95),(15,96),(16,97),(17,98),(18,99),(19,100),(20,101)] kS ?_;iterate 21 (apply zT;exact⟨rfl,rfl⟩;(·intro wk hk;have:=hk.cell b0;have:=hk.cell q2;have:=hk.cell q3;have:=hk.cell q4;have:=hk.cell q5;have:=hk.cell q6;have:=hk.cell l0;have:=hk.cell l1;have:=hk.cell l2;have:=hk.cell l3;go_simp;try with_reducible rfl);simp only[kA];exact rfl)
       refine zN (zD ?_);go_wp2_with fail;go_ret
       exact⟨aa HE.out.symm,HF8.out.xt.trans kS⟩
      rw[decide_eq_true hle]at eL;have HPF:=zZ (show mQ s t.sts t.pgs 0=be s ⟨s.num,xc,xg,fd⟩ xch by
       rw[HPG.out,HPB.out];have:(⟨qa,qb,qc,qd⟩:cU)=⟨s.num,xc,xg,fd⟩:=by obtain⟨e1,e2,e3,e4⟩:=hle;rw[e1,e2,e3,e4]
       simp only[decide_eq_true this,decide_eq_true hq1,yU])
      clear hle;refine zQ 99 fun we kS=>?_;refine zS 21 [(0,81),(1,82),(2,83),(3,84),(4,85),(5,86),(6,87),(7,88),(8,89),(9,90),(10,91),(11,92),(12,93),(13,94),(14,95),(15,96),(16,97),(17,98),(18,99),(19,100),(20,101)] kS ?_;iterate 21 (apply zT;exact⟨rfl,rfl⟩;(·intro wk hk;have:=hk.cell b0;have:=hk.cell q2;have:=hk.cell q3;have:=hk.cell q4;have:=hk.cell q5;have:=hk.cell q6;have:=hk.cell l0;have:=hk.cell l1;have:=hk.cell l2;have:=hk.cell l3;go_simp;try with_reducible rfl);simp only[kA];exact rfl)
      refine zN (zD ?_);have HF9:=bx (HF8.out.ext kS);have HI9:=zZ (HI8.out.ext kS);clear eL gL hqb hq1 b0 q2 q3 q4 q5 q6 l0 l1 l2 l3 kS HF8 HI8;obtain⟨z0,z1,z2,z3⟩:=(HF9.out.at_ 0 rfl).p4 rfl;obtain⟨l0,l1,l2,l3⟩:=(HF9.out.at_ 4 rfl).p4 rfl;have y3:=(HF9.out.at_ 2 rfl).c 3 rfl;go_wp2_with fail;refine (qG _ _ s s.num xc xg fd xch _ (p:=p) (q:=p) (zP hp HF9.out.xt.size) (HS0.out.ext HF9.out.xt) HI9.out ⟨HNUM.out,HWF.out.1,HWF.out.2.1,HFV.out⟩).mono ?_;rintro e wf ⟨rfl,hxf⟩;have hfi:da s ⟨s.num,xc,xg,fd⟩ xch=be s ⟨s.num,xc,xg,fd⟩ xch:=by unfold da;rw[HCK.out];simp
      rw[hfi];have HFf:Bx (ae w wf [(w.heap.size,#[B C s.num,D AP nP cP,D AB nB cB,D AX nX cX],27),(w.heap.size+1,#[D (some ⟨bS,oS,none⟩) nS cS,D (some ⟨bG,oG,none⟩) u cG],31)]):=⟨(HF9.out.ext hxf).take 2⟩
      clear hfi z0 z1 z2 z3 l0 l1 l2 l3 y3 hxf HF9 HI9;cases hft:be s ⟨s.num,xc,xg,fd⟩ xch with
      |false =>
       have HE:=zZ (show aV s t=false from cR HKL.out (by rw[HPF.out];exact hft));go_wp2_with fail;go_ret
       exact⟨aa HE.out.symm,HFf.out.xt⟩
      |true =>
       have HT:=zZ (show mQ s t.sts t.pgs 0=true by rw[HPF.out];exact hft);clear hft;go_wp2_with fail;go_roundw
       case rel=>exact⟨0+1,by go_num,by omega,⟨⟨HFf.out,fun j hj=>by rcases zV j 0 with h|h;exact HA.out j h;obtain rfl:j=0:=(by omega);exact HT.out⟩⟩⟩
       case measure=>simp[intOf];omega
   ·obtain⟨m,hm⟩:∃m,m+1=k:=⟨k-1,by omega⟩
    have hmn:m<u:=by omega
    obtain⟨zc,zg,zt,zs,zq,zch,zA,zm,zcc,HZ,-,-,z0,z1,z2,z3,z4,z5⟩:=ke.read HG.out (HXW.out.trans hx2) hmn;have HSG:=zZ (show mQ s t.sts t.pgs k=(cM ⟨zc,zg,zt,zch,⟨zs,zq⟩⟩ ⟨xc,xg,xt,xch,⟨xs,xq⟩⟩&&fH s t.sts ⟨xc,xg,xt,xch,⟨xs,xq⟩⟩) by rw[←hm];exact tu (by rw[hm];exact HX.out) HZ.out);have m1:IntKind.i64.wrap ((k:Int)-1)=(m:Int):=by rw[yQ _ (by omega)];omega
    have hkg:decide ((k:Int)>0)=true:=by simp;omega
    have hmm1:m+1≤k:=by omega
    have hmm2:k≤m+1:=by omega
    clear hm;refine zQ 99 fun wc kS=>?_;refine zS 13 [(0,39),(1,40),(2,41),(3,42),(4,43),(5,44),(6,45),(7,46),(8,47),(9,48),(10,49),(11,50),(12,51)] kS ?_;iterate 13 (apply zT;exact⟨rfl,rfl⟩;(·intro wk hk;have:=hk.cell b1;have:=hk.cell y0;have:=hk.cell y1;have:=hk.cell z0;have:=hk.cell z1;have:=hk.cell z2;have:=hk.cell z3;have:=hk.cell z4;have:=hk.cell z5;go_simp;try with_reducible rfl);simp only[kA];exact rfl)
    refine zN (zO 13 (fun K hK=>?_));go_simp;refine (ip zc zg zt zs zq xc xg zA zm zcc _).mono ?_;rintro e wd ⟨rfl,hxd⟩;have kS2:ab w2 wd:=kS.trans hxd;rcases bY zc zg xc xg with ⟨h1,e1⟩|⟨h1,e1⟩|⟨h1,e1⟩
    ·have HPG:=zZ (show mQ s t.sts t.pgs k=fH s t.sts ⟨xc,xg,xt,xch,⟨xs,xq⟩⟩ by rw[HSG.out,show cM ⟨zc,zg,zt,zch,⟨zs,zq⟩⟩ ⟨xc,xg,xt,xch,⟨xs,xq⟩⟩=true from decide_eq_true h1];rfl);rw[e1];clear h1 e1;refine hK.out _ _ (fun _=>kS2) ?_;clear hK K;try simp only[kA]
     refine zS 2 [(14,53),(15,54)] kS2 ?_;iterate 2 (apply zT;exact⟨rfl,rfl⟩;(·intro wk hk;have:=hk.cell b1;have:=hk.cell y0;have:=hk.cell y1;have:=hk.cell z0;have:=hk.cell z1;have:=hk.cell z2;have:=hk.cell z3;have:=hk.cell z4;have:=hk.cell z5;go_simp;try with_reducible rfl);simp only[kA];exact rfl)
     refine zN (zD ?_);clear kS;have kS:=kS2;clear kS2 z0 z1 z2 z3 z4 z5 m1 hkg hxd;have HFd:=bx (HF2.out.ext kS);have HId:=zZ ((HI.out.ext hx2).ext kS);clear kS y0 y1 y2 y3 y4 y5 b1 HF2 hx2;obtain⟨z0,z1,z2,z3⟩:=(HFd.out.at_ 0 rfl).p4 rfl;have y0:=(HFd.out.at_ 2 rfl).c 0 rfl;go_wp2_with fail;refine (dU _ s xc _ (HS0.out.ext HFd.out.xt) HOK.out).mono ?_;rintro e w5 ⟨⟨fa,fb,fd,rfl,hfx0⟩,hx5⟩;have HFX:=zZ hfx0;have HF5:=bx (HFd.out.ext hx5);clear hfx0 z0 z1 z2 z3 y0;cases hfx:aJ s.xp xc with
     |none =>
      have HE:=zZ (show aV s t=false from cR HKL.out (by rw[HPG.out];exact iW hfx));clear hfx;go_wp2_with fail;go_ret
      exact⟨aa HE.out.symm,HF5.out.xt.alloc _⟩
     |some x0 =>
      obtain rfl:x0=⟨fa,fb,fd⟩:=by have:=HFX.out;rw[hfx]at this;exact this
      have HFS:=zZ hfx;have hxb:=fw HOK.out (bh hfx).1;simp only at hxb;have HFV:Bx (aC fd):=⟨⟨by omega,by have:=HOK.out.len;omega⟩⟩
      clear hfx HFX hxb;go_upto_region 14 with (fail)
      obtain⟨w6,hw6⟩:=nm ((w5.alloc (.cells #[B C fa,B C fb,B C fd] 83)):World);have HF6:Bx (ae w w6 [(w.heap.size,#[B C s.num,D AP nP cP,D AB nB cB,D AX nX cX],27),(w.heap.size+1,#[D AS nS cS,D (some ⟨bG,oG,none⟩) u cG],31),(gp,#[B C xc,B C xg,B C xt,D xA xm xcc,B C xs,B C xq],77),(w5.heap.size,#[B C fa,B C fb,B C fd],83)]):=⟨by rw[hw6];exact HF5.out.push _ _ rfl⟩
      have hx6:ab wd w6:=by rw[hw6];exact hx5.alloc _
      rw[←hw6];clear hw6 HF5 HFd hx5;obtain⟨gx,hgx⟩:=nm w5.heap.size;rw[←hgx]at HF6;rw[←hgx];clear hgx;have z0:=(HF6.out.at_ 0 rfl).c 0 rfl;obtain⟨y0,y1⟩:=(HF6.out.at_ 2 rfl).p2 rfl;have f2:=(HF6.out.at_ 3 rfl).c 2 rfl;go_upto_region 15 with (fail)
      obtain⟨w7,hw7⟩:=nm ((w6.alloc (.cells #[B C s.num,B C xc,B C xg,B C fd] 73)):World);have HF7:Bx (ae w w7 [(w.heap.size,#[B C s.num,D AP nP cP,D AB nB cB,D AX nX cX],27),(w.heap.size+1,#[D AS nS cS,D (some ⟨bG,oG,none⟩) u cG],31),(gp,#[B C xc,B C xg,B C xt,D xA xm xcc,B C xs,B C xq],77),(gx,#[B C fa,B C fb,B C fd],83),(w6.heap.size,#[B C s.num,B C xc,B C xg,B C fd],73)]):=⟨by rw[hw7];exact HF6.out.push _ _ rfl⟩
      have hx7:ab wd w7:=by rw[hw7];exact hx6.alloc _
      rw[←hw7];clear hw7 HF6 hx6 z0 y0 y1 f2;obtain⟨gl,hgl⟩:=nm w6.heap.size;rw[←hgl]at HF7;rw[←hgl];clear hgl;have b0:=(HF7.out.at_ 1 rfl).c 0 rfl;have y4:=(HF7.out.at_ 2 rfl).c 4 rfl;have y5:=(HF7.out.at_ 2 rfl).c 5 rfl;go_wp2_with fail;refine (Bu _ t.sts xs xq _ (HS.out.ext (cQ.stab p) HF7.out.xt) (rM HAS.out xs xq) (by have:=HLS.out;omega)).mono ?_;rintro e w8 ⟨⟨i,b,rfl,hfd⟩,hx8⟩;have HFD:=zZ (AN HAS.out hfd);have hib:i≤nS:=by have:=hfd.1;have:=HLS.out;omega
      have HF8:=bx (HF7.out.ext hx8);have HI8:=zZ (HId.out.ext (hx7.trans hx8));clear hfd HF7 hx7 hx8 b0 y4 y5 HId;go_upto_region 16 with (fail)
      cases b with
      |false =>
       have HE:=zZ (show aV s t=false from cR HKL.out (by rw[HPG.out];exact hD (HFD.out.2 rfl)));refine zQ 99 fun we kS=>?_;refine zS 21 [(0,81),(1,82),(2,83),(3,84),(4,85),(5,86),(6,87),(7,88),(8,89),(9,90),(10,91),(11,92),(12,93),(13,94),(14,95),(15,96),(16,97),(17,98),(18,99),(19,100),(20,101)] kS ?_;iterate 3 (apply zT;exact⟨rfl,rfl⟩;(·intro _ _;go_simp;try with_reducible rfl);simp only[kA];exact rfl)
       iterate 7 (apply zK;exact⟨rfl,rfl⟩;simp only[kA];exact rfl)
       iterate 2 (apply zT;exact⟨rfl,rfl⟩;(·intro _ _;go_simp;try with_reducible rfl);simp only[kA];exact rfl)
       iterate 8 (apply zK;exact⟨rfl,rfl⟩;simp only[kA];exact rfl)
       (apply zT;exact⟨rfl,rfl⟩;(·intro _ _;go_simp;try with_reducible rfl);simp only[kA];exact rfl);refine zN (zD ?_);go_wp2_with fail;go_ret
       exact⟨aa HE.out.symm,HF8.out.xt.trans kS⟩
      |true =>
       obtain⟨x9,hxi,hfy⟩:=HFD.out.1 rfl;have hiS:i<nS:=by have:=(zY.1 hxi).1;have:=HLS.out;omega
       obtain⟨bS,oS,_,_,rfl,-⟩:=HS.out.at_ hiS;obtain⟨qs,qq,qt,qa,qb,qc,qd,HQ,-,q0,q1,q2,q3,q4,q5,q6⟩:=eF.read HS.out HF8.out.xt hiS;obtain rfl:x9=⟨⟨qs,qq⟩,qt,⟨qa,qb,qc,qd⟩⟩:=by have:=HQ.out;rw[hxi]at this;injection this
       have HPB:=zZ (gv (s:=s) (q:=⟨xc,xg,xt,xch,⟨xs,xq⟩⟩) HFS.out hfy);clear hxi hfy HFD HQ q0 q1;have b0:=(HF8.out.at_ 1 rfl).c 0 rfl;by_cases hq1:qt=1;case neg =>
        have HE:=zZ (show aV s t=false from cR HKL.out (by rw[HPG.out,HPB.out];simp[hq1]));have hqb:(qt != 1)=true:=by simp[hq1]
        refine zQ 99 fun we kS=>?_;refine zS 21 [(0,81),(1,82),(2,83),(3,84),(4,85),(5,86),(6,87),(7,88),(8,89),(9,90),(10,91),(11,92),(12,93),(13,94),(14,95),(15,96),(16,97),(17,98),(18,99),(19,100),(20,101)] kS ?_;iterate 12 (apply zT;exact⟨rfl,rfl⟩;(·intro wk hk;have:=hk.cell b0;have:=hk.cell q2;go_simp;try with_reducible rfl);simp only[kA];exact rfl)
        iterate 8 (apply zK;exact⟨rfl,rfl⟩;simp only[kA];exact rfl)
        (apply zT;exact⟨rfl,rfl⟩;(·intro wk hk;have:=hk.cell b0;have:=hk.cell q2;go_simp;try with_reducible rfl);simp only[kA];exact rfl);refine zN (zD ?_);go_wp2_with fail;go_ret
        exact⟨aa HE.out.symm,HF8.out.xt.trans kS⟩
       have hqb:(qt != 1)=false:=by simp[hq1]
       obtain⟨l0,l1,l2,l3⟩:=(HF8.out.at_ 4 rfl).p4 rfl;have eL:∀W,(Op.equalIn 10000 73 (.agg #[B C qa,B C qb,B C qc,B C qd]) (.agg #[B C s.num,B C xc,B C xg,B C fd])).run prog W=.ok (decide (qa=s.num∧qb=xc∧qc=xg∧qd=fd)) W:=fun W=>lY _ _ _ _ _ _ _ _ W;have gL:=fZ;by_cases hle:qa=s.num∧qb=xc∧qc=xg∧qd=fd;case neg =>
        rw[decide_eq_false hle]at eL;have HE:=zZ (show aV s t=false from cR HKL.out (by rw[HPG.out,HPB.out];have:(⟨qa,qb,qc,qd⟩:cU)≠⟨s.num,xc,xg,fd⟩:=fun e=>hle (by injection e with e1 e2 e3 e4;exact⟨e1,e2,e3,e4⟩);simp only[decide_eq_false this,Bool.false_and,wF]))
        clear hle;refine zQ 99 fun we kS=>?_;refine zS 21 [(0,81),(1,82),(2,83),(3,84),(4,85),(5,86),(6,87),(7,88),(8,89),(9,90),(10,91),(11,92),(12,93),(13,94),(14,95),(15,96),(16,97),(17,98),(18,99),(19,100),(20,101)] kS ?_;iterate 21 (apply zT;exact⟨rfl,rfl⟩;(·intro wk hk;have:=hk.cell b0;have:=hk.cell q2;have:=hk.cell q3;have:=hk.cell q4;have:=hk.cell q5;have:=hk.cell q6;have:=hk.cell l0;have:=hk.cell l1;have:=hk.cell l2;have:=hk.cell l3;go_simp;try with_reducible rfl);simp only[kA];exact rfl)
        refine zN (zD ?_);go_wp2_with fail;go_ret
        exact⟨aa HE.out.symm,HF8.out.xt.trans kS⟩
       rw[decide_eq_true hle]at eL;have HPF:=zZ (show mQ s t.sts t.pgs k=be s ⟨s.num,xc,xg,fd⟩ xch by
        rw[HPG.out,HPB.out];have:(⟨qa,qb,qc,qd⟩:cU)=⟨s.num,xc,xg,fd⟩:=by obtain⟨e1,e2,e3,e4⟩:=hle;rw[e1,e2,e3,e4]
        simp only[decide_eq_true this,decide_eq_true hq1,yU])
       clear hle;refine zQ 99 fun we kS=>?_;refine zS 21 [(0,81),(1,82),(2,83),(3,84),(4,85),(5,86),(6,87),(7,88),(8,89),(9,90),(10,91),(11,92),(12,93),(13,94),(14,95),(15,96),(16,97),(17,98),(18,99),(19,100),(20,101)] kS ?_;iterate 21 (apply zT;exact⟨rfl,rfl⟩;(·intro wk hk;have:=hk.cell b0;have:=hk.cell q2;have:=hk.cell q3;have:=hk.cell q4;have:=hk.cell q5;have:=hk.cell q6;have:=hk.cell l0;have:=hk.cell l1;have:=hk.cell l2;have:=hk.cell l3;go_simp;try with_reducible rfl);simp only[kA];exact rfl)
       refine zN (zD ?_);have HF9:=bx (HF8.out.ext kS);have HI9:=zZ (HI8.out.ext kS);clear eL gL hqb hq1 b0 q2 q3 q4 q5 q6 l0 l1 l2 l3 kS HF8 HI8;obtain⟨z0,z1,z2,z3⟩:=(HF9.out.at_ 0 rfl).p4 rfl;obtain⟨l0,l1,l2,l3⟩:=(HF9.out.at_ 4 rfl).p4 rfl;have y3:=(HF9.out.at_ 2 rfl).c 3 rfl;go_wp2_with fail;refine (qG _ _ s s.num xc xg fd xch _ (p:=p) (q:=p) (zP hp HF9.out.xt.size) (HS0.out.ext HF9.out.xt) HI9.out ⟨HNUM.out,HWF.out.1,HWF.out.2.1,HFV.out⟩).mono ?_;rintro e wf ⟨rfl,hxf⟩;have hfi:da s ⟨s.num,xc,xg,fd⟩ xch=be s ⟨s.num,xc,xg,fd⟩ xch:=by unfold da;rw[HCK.out];simp
       rw[hfi];have HFf:Bx (ae w wf [(w.heap.size,#[B C s.num,D AP nP cP,D AB nB cB,D AX nX cX],27),(w.heap.size+1,#[D (some ⟨bS,oS,none⟩) nS cS,D (some ⟨bG,oG,none⟩) u cG],31)]):=⟨(HF9.out.ext hxf).take 2⟩
       clear hfi z0 z1 z2 z3 l0 l1 l2 l3 y3 hxf HF9 HI9;cases hft:be s ⟨s.num,xc,xg,fd⟩ xch with
       |false =>
        have HE:=zZ (show aV s t=false from cR HKL.out (by rw[HPF.out];exact hft));go_wp2_with fail;go_ret
        exact⟨aa HE.out.symm,HFf.out.xt⟩
       |true =>
        have HT:=zZ (show mQ s t.sts t.pgs k=true by rw[HPF.out];exact hft);clear hft;go_wp2_with fail;go_roundw
        case rel=>exact⟨k+1,by go_num,by omega,⟨⟨HFf.out,fun j hj=>by rcases zV j k with h|h;exact HA.out j h;obtain rfl:j=k:=(by omega);exact HT.out⟩⟩⟩
        case measure=>simp[intOf];omega
    ·skip
     have HE:=zZ (show aV s t=false from cR HKL.out (by rw[HSG.out,show cM ⟨zc,zg,zt,zch,⟨zs,zq⟩⟩ ⟨xc,xg,xt,xch,⟨xs,xq⟩⟩=false from decide_eq_false (by simp only;omega)];rfl));rw[e1];clear h1 e1;refine hK.out _ _ (fun _=>kS2) ?_;clear hK K;try simp only[kA]
     refine zS 2 [(14,53),(15,54)] kS2 ?_;iterate 2 (apply zT;exact⟨rfl,rfl⟩;(·intro _ _;go_simp;try with_reducible rfl);simp only[kA];exact rfl)
     refine zN (zD ?_);go_wp2_with fail;go_ret
     exact⟨aa HE.out.symm,HF2.out.xt.trans kS2⟩
    ·skip
     have HE:=zZ (show aV s t=false from cR HKL.out (by rw[HSG.out,show cM ⟨zc,zg,zt,zch,⟨zs,zq⟩⟩ ⟨xc,xg,xt,xch,⟨xs,xq⟩⟩=false from decide_eq_false (by simp only;omega)];rfl));rw[e1];clear h1 e1;refine hK.out _ _ (fun _=>kS2) ?_;clear hK K;try simp only[kA]
     refine zS 2 [(14,53),(15,54)] kS2 ?_;iterate 2 (apply zT;exact⟨rfl,rfl⟩;(·intro _ _;go_simp;try with_reducible rfl);simp only[kA];exact rfl)
     refine zN (zD ?_);go_wp2_with fail;go_ret
     exact⟨aa HE.out.symm,HF2.out.xt.trans kS2⟩
  ·obtain rfl:k=u:=by omega
   have HE:=zZ (Fo HCK.out HST.out HUS.out fun j hj=>HA.out j (by have:=HLG.out;omega));go_wp2_with fail;go_ret
   exact⟨aa HE.out.symm,HFr.out.xt⟩
theorem Tryz.infoScs:(prog.info? 41).map (fun i=>(i.zero,i.size,i.bytes))=some (some (.agg #[B C 0,B C 0,D none 0 0]),3,40):=by kernel_rfl
def yl(y:Am×Value):List Value:=[B C y.1.cand,B C y.1.state,y.2]
def Ir(base:Nat)(w:World)(y:Am×Value):Prop:=av w base y.2 y.1.pgs
def eO(base:Nat)(w:World)(v:Value)(ys:List (Am×Value)):Prop:=dq base 41 3 yl (Ir base) w v ys
def F4(p:Nat):World→List Value→Am→Prop:=fun w cs x=>∃u,cs=[B C x.cand,B C x.state,u]∧ao p w u x.pgs
theorem eO.isS{p base:Nat}{w:World}{v:Value}{ys:List (Am×Value)}(h:eO base w v ys)(hp:p<base):bg p 3 (F4 p) w v (ys.map Prod.fst) :=
 dq.isS Prod.fst h hp (by decide) (fun y _=>rfl) fun y _ hy=>⟨y.2,rfl,av.isI hy hp⟩
def i4(w:World)(er:Int)(l:List Am)(e:Ending)(w':World):Prop:=(∃vr ys,e=.returned (.tuple #[vr,B C er])∧eO w.heap.size w' vr ys∧ys.map Prod.fst=l)∧ab w w'
theorem fn{s:aZ}{t:en}(h:aV s t=true):cD s∧fB cM t.pgs∧fB aW t.sts:=⟨eV.1 (eQ.1 h).chk,(eQ.1 h).ascP,(eQ.1 h).asc⟩
theorem rK{s:aZ}{x:dF}(h:s.xp[k]?=some x):x∈s.xp:=zU h
theorem pN(v vi:Value)(s:aZ)(t:en)(w:World)(hp:p<w.heap.size)(hs:aN p w v s)(ht:bN p w vi t)(hn1:t.sts.length≤1000)(hn2:t.pgs.length≤1000) :
  Calls prog 10 #[v,vi] w (i4 w (if aV s t=true then 0 else 1) (if aV s t=true then s.xp.map (bW s t) else [])):=by
 obtain⟨iC,hiC,hC0,hC1,hC2⟩:=info_parts Tryz.infoScs;obtain⟨er,her⟩:=nm (if aV s t=true then 0 else 1:Int);obtain⟨lr,hlr⟩:=nm (if aV s t=true then s.xp.map (bW s t) else []:List Am);rw[←her,←hlr];have HER:=zZ her;have HLR:=zZ hlr;clear her hlr;have HS0:=zZ hs;have HT0:=zZ ht;obtain⟨vP,vB,vX,rfl,hP,hB,hX,hnum⟩:=hs;obtain⟨AP,nP,cP,rfl,-⟩:=hP.open_;obtain⟨AB,nB,cB,rfl,-⟩:=hB.open_;obtain⟨AX,nX,cX,rfl,hncX,hccX,hnnX,HLX⟩:=hX.open_;obtain⟨vS,vG,rfl,hS,hG⟩:=ht;obtain⟨AS,nS,cS,rfl,-⟩:=hS.open_;obtain⟨AG,nG,cG,rfl,-⟩:=hG.open_;have HX0:Bx (d7 p w (D AX nX cX) s.xp):=⟨hX⟩
 have HN:Bx (t.sts.length≤1000∧t.pgs.length≤1000):=⟨⟨hn1,hn2⟩⟩
 clear hP hB hX hnum hS hG hn1 hn2;obtain⟨w1,hw1⟩:=nm (((w.alloc (.cells #[B C s.num,D AP nP cP,D AB nB cB,D AX nX cX] 27)).alloc (.cells #[D AS nS cS,D AG nG cG] 31)):World);have HF:Bx (ae w w1 [(w.heap.size,#[B C s.num,D AP nP cP,D AB nB cB,D AX nX cX],27),(w.heap.size+1,#[D AS nS cS,D AG nG cG],31)]):=⟨by rw[hw1];exact ((ae.start w).push _ _ rfl).push _ _ (by simp)⟩
 go_enter func10,ntmps10
 go_upto_region 1 with (fail)
 rw[←hw1];clear hw1;obtain⟨z0,z1,z2,z3⟩:=(HF.out.at_ 0 rfl).p4 rfl;obtain⟨i0,i1⟩:=(HF.out.at_ 1 rfl).p2 rfl;go_wp2_with fail;refine (gN _ _ s t _ (p:=p) (zP hp HF.out.xt.size) (HS0.out.ext HF.out.xt) (HT0.out.ext HF.out.xt) HN.out.1 HN.out.2).mono ?_;rintro e w2 ⟨rfl,hx2⟩;have HF2:=bx (HF.out.ext hx2);clear HF hx2 z0 z1 z2 z3 i0 i1;cases hb:aV s t with
 |false =>
  obtain rfl:er=1:=by rw[HER.out,hb];rfl
  obtain rfl:lr=[]:=by rw[HLR.out,hb];rfl
  go_wp2_with fail;refine bodyPost_ret (v:=.tuple #[D none 0 0,B C 1]) (by simp[results,results10,go_sem]) rfl ⟨⟨D none 0 0,[],rfl,dq.nil _ _,rfl⟩,HF2.out.xt⟩
 |true =>
 have HP:=zZ (fn hb);obtain rfl:er=0:=by rw[HER.out,hb];rfl
 have HL2:=zZ (show lr=s.xp.map (bW s t) by rw[HLR.out,hb];rfl);clear HER HLR;have hnX:nX≤60:=by have:=HP.out.1.len.2.2;have:=HLX.out;omega
 clear hb;have z3:=(HF2.out.at_ 0 rfl).c 3 rfl;go_wp2_with fail;clear z3;go_loopw [6,16] (fun s6 s16 wr=>∃(k:Nat) (ys:List (Am×Value)),s16=B C k∧k≤nX∧Bx (ae w wr [(w.heap.size,#[B C s.num,D AP nP cP,D AB nB cB,D AX nX cX],27),(w.heap.size+1,#[D AS nS cS,D AG nG cG],31)]∧eO w.heap.size wr s6 ys∧ys.map Prod.fst=(s.xp.take k).map (bW s t))) (fun _ k _=>nX-(intOf k).toNat)
 case atStart=>exact⟨0,[],rfl,by omega,⟨⟨HF2.out,dq.nil _ _,rfl⟩⟩⟩
 case round =>
  obtain⟨k,ys,rfl,hk,HR⟩:=hrel;have HFr:Bx (ae w wr [(w.heap.size,#[B C s.num,D AP nP cP,D AB nB cB,D AX nX cX],27),(w.heap.size+1,#[D AS nS cS,D AG nG cG],31)]):=⟨HR.out.1⟩
  have HO:Bx (eO w.heap.size wr _ ys):=⟨HR.out.2.1⟩
  have HY:Bx (ys.map Prod.fst=(s.xp.take k).map (bW s t)):=⟨HR.out.2.2⟩
  have HYL:Bx (ys.length=k):=⟨by have:=congrArg List.length HY.out;simp at this;have:=HLX.out;omega⟩
  obtain⟨Ao,co,hu⟩:=dq.form HO.out;rw[HYL.out]at hu;subst hu;clear HR HF2;by_cases hkn:k<nX
  ·obtain⟨bX,oX,_,_,rfl,-⟩:=HX0.out.at_ hkn;obtain⟨xa,xb,xd,HXX,x0,x1,x2⟩:=d7.read HX0.out HFr.out.xt.xt hkn;go_upto_region 7 with (fail)
   obtain⟨w2,hw2⟩:=nm ((wr.alloc (.cells #[B C xa,B C xb,B C xd] 83)):World);have hx2:ab wr w2:=by rw[hw2];exact (zE _).alloc _
   have HF2:Bx (ae w w2 [(w.heap.size,#[B C s.num,D AP nP cP,D AB nB cB,D (some ⟨bX,oX,none⟩) nX cX],27),(w.heap.size+1,#[D AS nS cS,D AG nG cG],31),(wr.heap.size,#[B C xa,B C xb,B C xd],83)]):=⟨by rw[hw2];exact HFr.out.push _ _ rfl⟩
   rw[←hw2];have HO2:Bx (eO w.heap.size w2 (D Ao k co) ys):=⟨dq.ext HO.out (fun y hy=>av.ext hy hx2) hx2⟩
   clear hw2 hx2 x0 x1 x2 HFr HO;obtain⟨gx,hgx⟩:=nm wr.heap.size;rw[←hgx]at HF2;rw[←hgx];clear hgx;obtain⟨z0,z1,z2,z3⟩:=(HF2.out.at_ 0 rfl).p4 rfl;obtain⟨i0,i1⟩:=(HF2.out.at_ 1 rfl).p2 rfl;obtain⟨x0,x1,x2⟩:=(HF2.out.at_ 2 rfl).p3 rfl;go_wp2_with (first
    |(go_at_call 34;refine (fx _ _ s t xa xb xd _ (p:=p) (zP hp HF2.out.xt.size) (HS0.out.ext HF2.out.xt) (HT0.out.ext HF2.out.xt) HP.out.1 HP.out.2.1 (rK HXX.out) HN.out.1 HN.out.2).mono ?_;rintro e w5 ⟨⟨vp,rfl,hvp⟩,hx5⟩;obtain⟨Ap,cp,rfl⟩:=hvp.form;have HVP:=zZ (hvp.base_ HF2.out.xt.size);have HF5:=zZ (HF2.out.ext hx5);have HO5:=zZ (show eO w.heap.size w5 (D Ao k co) ys from dq.ext HO2.out (fun y hy=>av.ext hy hx5) hx5);have HW5:=zZ (show w5.ownsRow w.heap.size 41 3 (D Ao k co) k (ys.map yl).flatten from HYL.out▸HO5.out.own.own);clear hvp hx5 HF2 HO2)
    |(at_builtin;refine aH _ rfl (.tmp 20) (.tmp 25) 36 rfl w.heap.size 41 iC _ 3 40 underlying36 hiC hC0 hC1 hC2 rfl (by omega) (D Ao k co) k (ys.map yl).flatten rfl (ac HW5.out ((zE _).alloc _)) _ #[B C (bW s t ⟨xa,xb,xd⟩).cand,B C (bW s t ⟨xa,xb,xd⟩).state,D Ap (bW s t ⟨xa,xb,xd⟩).pgs.length cp] _ rfl (heap_alloc_new _ _) rfl (by simp[Value.oneCell']) (by omega) (by omega) (by have:=HF5.out.xt.size;simp;omega) ?_;intro v6 w6 hown6 hg6;have H6:Bx (eO w.heap.size w6 v6 (ys++[(bW s t ⟨xa,xb,xd⟩,D Ap (bW s t ⟨xa,xb,xd⟩).pgs.length cp)])∧ae w w6 [(w.heap.size,#[B C s.num,D AP nP cP,D AB nB cB,D (some ⟨bX,oX,none⟩) nX cX],27),(w.heap.size+1,#[D AS nS cS,D AG nG cG],31)]):=⟨⟨dq.push (f:=yl) (dq.ext HO5.out (fun y hy=>av.ext hy ((zE _).alloc _)) ((zE _).alloc _)) (HYL.out.symm▸hown6) (fun y hy=>av.apart hy (HO5.out.own.ext ((zE _).alloc _)) (by decide) hg6) (av.apart (HVP.out.ext ((zE _).alloc _)) (HO5.out.own.ext ((zE _).alloc _)) (by decide) hg6),((HF5.out.take 2).ext ((zE _).alloc _)).grownT (HO5.out.own.ext ((zE _).alloc _)) hg6 (zX _) rfl⟩⟩;clear hown6 hg6))
   go_roundw
   case rel=>exact⟨k+1,_,by go_num,by omega,⟨⟨H6.out.2,H6.out.1,by rw[ag HXX.out];simp[HY.out]⟩⟩⟩
   case measure=>simp[intOf];omega
  ·obtain rfl:k=nX:=by omega
   have HE:=zZ (show (s.xp.take k).map (bW s t)=s.xp.map (bW s t) by rw[aD (by have:=HLX.out;omega)]);go_wp2_with fail;refine bodyPost_ret (v:=.tuple #[D Ao k co,B C 0]) (by simp[results,results10,go_sem]) rfl ⟨⟨D Ao k co,ys,rfl,HO.out,by rw[HY.out,HE.out,HL2.out]⟩,HFr.out.xt⟩
def bC(pgs:List (List Int))(j:Nat):Nat:=((pgs.take j).map List.length).sum
theorem pe{pgs:List (List Int)}(h:pgs[j]?=some pg):bC pgs (j+1)=bC pgs j+pg.length:=by unfold bC;rw[ag h];simp
theorem iN{ns:List Int}:∀(pgs:List (List Int)) (nx:Nat),cT ns nx pgs→(∀j pg,pgs[j]?=some pg→kz ns (nx+bC pgs j) pg)∧nx+bC pgs pgs.length=ns.length:=by
 intro pgs;induction pgs with
 |nil=>intro nx h;exact⟨fun j pg hj=>by simp at hj,by have h':nx=ns.length:=h;simpa[bC] using h'⟩
 |cons p rest ih =>
  intro nx h;obtain⟨h1,h2⟩:=h;obtain⟨h3,h4⟩:=ih _ h2;refine⟨fun j pg hj=>?_,?_⟩
  ·cases j with
   |zero=>simp at hj;subst hj;simpa[bC] using h1
   |succ j =>
    have:=h3 j pg (by simpa using hj);have e:nx+p.length+bC rest j=nx+bC (p::rest) (j+1):=by unfold bC;simp;omega
    rw[e]at this;exact this
  ·have e:nx+p.length+bC rest rest.length=nx+bC (p::rest) (p::rest).length:=by unfold bC;simp;omega
   rw[e]at h4;exact h4
section
variable {ns:List Int} {pgs:List (List Int)}
theorem wt(pgs:List (List Int)){a b:Nat}(h:a≤b):bC pgs a≤bC pgs b:=by
 obtain⟨m,rfl⟩:∃m,b=a+m:=⟨b-a,by omega⟩
 unfold bC;rw[List.take_add,yN,List.sum_append];omega
theorem rR(hok:cT ns 0 pgs)(hp:pgs[j]?=some pg)(t:Nat):(t:Int)∈pg↔bC pgs j≤t∧t<bC pgs (j+1):=by
 have h:=(iN pgs 0 hok).1 j pg hp;rw[yV]at h;rw[pe hp];constructor
 ·intro hm;obtain⟨i,hi⟩:=yZ hm;have hil:=(zY.1 hi).1;have:=h.1.2 i _ hil hi;omega
 ·intro hb;have hil:t-bC pgs j<pg.length:=by omega
  have:=h.1.2 (t-bC pgs j) _ hil (zW hil);have e:pg[t-bC pgs j]=(t:Int):=by omega
  rw[←e];exact xX _
theorem pC(hok:cT ns 0 pgs)(hp:pgs[j]?=some pg)(t:Nat):dC pgs (t:Int)=(j:Int)↔(t:Int)∈pg:=by
 have hasI:∀(l:List Int) (x:Int),kO x l=true↔x∈l:=by
  intro l x;unfold kO;rw[xJ];constructor
  ·rintro⟨y,hy,he⟩;simp at he;subst he;exact hy
  ·intro h;exact⟨x,h,by simp⟩
 have hj:=(zY.1 hp).1;constructor
 ·intro h;unfold dC Cs at h;split at h
  ·rename_i ha
   have hlt:pgs.findIdx (kO (t:Int))<pgs.length:=by rw[List.findIdx_lt_length];obtain⟨l,hl,hh⟩:=xJ.1 ha;exact⟨l,hl,hh⟩
   have hw:=List.findIdx_getElem (w:=hlt);have e:pgs.findIdx (kO (t:Int))=j:=by omega
   have e2:pgs[pgs.findIdx (kO (t:Int))]=pg:=by have:=zY.1 hp;obtain⟨_,h2⟩:=this;rw[←h2];congr 1
   rw[e2]at hw;exact (hasI _ _).1 hw
  ·omega
 ·intro h;have hb:=(rR hok hp t).1 h;refine (uV (f:=kO (t:Int)) hp ((hasI _ _).2 h) (fun i y hi hy=>?_)).symm;cases e:kO (t:Int) y with
  |false=>rfl
  |true =>
   exfalso;have h1:=(rR hok hy t).1 ((hasI _ _).1 e);have:=wt pgs (show i+1≤j by omega);omega
end
section
variable {ps:List ai} {pgs:List (List Int)} {J:List Int→Int} {page:Int} {A:List Int} {rs:List (List Int)} {i at_:Nat} {G:List (Nat×Nat)} {cs:List Int}
theorem jq{J:List Int→Int}{n:Nat}{fs:List eh}{cs:List Int}(hj:j<n):(iT J n fs cs)[j]?=some (if aO fs cs (j:Int)=[] then -1 else J (aO fs cs (j:Int))):=by unfold iT;rw[zL,xH hj];rfl
end
theorem BT{s:aZ}{i:en}{x:dF}(h:bM s i x=true):dc i.sts x.cand=[]∧aK i.pgs x.cand (fA s x.var)=[]:=by
 unfold bM bW at h;by_cases h1:dc i.sts x.cand=[]
 ·rw[if_neg (by simp[h1])]at h;by_cases h2:aK i.pgs x.cand (fA s x.var)=[]
  ·exact⟨h1,h2⟩
  ·rw[if_neg h2]at h;split at h<;>simp at h
 ·rw[if_pos h1]at h;simp at h
theorem CQ{l:List Pg}{c:Int}{n g:Nat}(h:aK l c n=[])(hg:g<n):∃y,bT l c (g:Int)=some y:=by
 cases e:bT l c (g:Int) with
 |some y=>exact⟨y,rfl⟩
 |none =>
  have:(g:Int)∈aK l c n:=by unfold aK;exact wA.2 ⟨g,zB.2 hg,by rw[e];rfl⟩
  rw[h]at this;cases this
theorem ru{pgs:List (List Int)}{t:Nat}:∀J,t<bC pgs J→∃j,j<J∧bC pgs j≤t∧t<bC pgs (j+1)
 |0,h=>by unfold bC at h;simp at h
 |J+1,h=>by
  rcases zV t (bC pgs J) with h1|h1
  ·obtain⟨j,a,b,c⟩:=ru J h1;exact⟨j,by omega,b,c⟩
  ·exact⟨J,by omega,h1,h⟩
theorem Gc{ps:List ai}{pgs:List (List Int)}(h:eU code var ps pgs=true){t:Nat}(ht:t<ps.length):∃(j:Nat) (pg:List Int),pgs[j]?=some pg∧(t:Int)∈pg∧dC pgs (t:Int)=(j:Int):=by have hok:=(jg h).2.2.2.2;have hn:=(iN pgs 0 hok).2;rw[yV,zM]at hn;obtain⟨j,h1,h2,h3⟩:=ru pgs.length (by omega:t<bC pgs pgs.length);have hp:pgs[j]?=some pgs[j]:=zW h1;have hm:=(rR hok hp t).2 ⟨h2,h3⟩;exact⟨j,_,hp,hm,(pC hok hp t).2 hm⟩
section
variable {s:aZ} {i:en} {x:dF} {q:gE} {b:List (List Int)} {d f ld:Int}
theorem cD.bkv(h:cD s)(hq:s.pap[k]?=some q)(hb:s.bk[k]?=some b):d9 q.code q.var q.ps=true∧eU q.code q.var q.ps b=true:=by have:=h.pap k (zY.1 hq).1;unfold iA at this;rw[hq,hb]at this;simp only[yY]at this;exact⟨this.1,this.2.2.2⟩
theorem uJ(h:vk s i)(hx:aJ s.xp x.cand=some x)(hq:s.pap[x.var.toNat]?=some q)(hb:s.bk[x.var.toNat]?=some b)(hd:bM s i x=true)(hp:b[j]?=some pg) :
  ∃y,bT i.pgs x.cand (j:Int)=some y∧y.ch.length=(aA q.code q.var q.ps b (j:Int)).length∧y.ch.all bd=true:=by
 have hn:fA s x.var=b.length:=by unfold fA;rw[hb];rfl
 have hj:=(zY.1 hp).1;obtain⟨y,hy⟩:=CQ (BT hd).2 (by omega:j<fA s x.var);obtain⟨hm,hc,hg⟩:=yy hy;obtain⟨x',q',b',h1,h2,h3,-,-,h6,h7⟩:=h.pg_in hm;rw[hc,hx]at h1;injection h1 with h1;subst h1;rw[hq]at h2;injection h2 with h2;subst h2;rw[hb]at h3;injection h3 with h3;subst h3;rw[hg]at h6;exact⟨y,hy,h6,h7⟩
theorem Aw(hq:s.pap[x.var.toNat]?=some q)(hb:s.bk[x.var.toNat]?=some b){t:Nat}{r:ai}(hr:q.ps[t]?=some r) :
  (fC s i d f ld x)[t]?=some (if r.kind=2 then (match bT i.pgs x.cand (dC b (t:Int)) with
   |some pg=>(bQ q.code q.var q.ps b d f ld (dC b (t:Int)) pg.ch).getD t 0
   |none=>(bQ q.code q.var q.ps b d f ld (dC b (t:Int)) []).getD t 0) else -1):=by
 unfold fC;rw[hq,hb];simp only;rw[zL,xH (zY.1 hr).1];simp only[Option.map_some,hr];cases bT i.pgs x.cand (dC b (t:Int))<;>rfl
theorem ta(hq:s.pap[x.var.toNat]?=some q)(hb:s.bk[x.var.toNat]?=some b):(fC s i d f ld x).length=q.ps.length:=by unfold fC;rw[hq,hb];simp
theorem EQ{ps:List ai}{pgs:List (List Int)}(h:eU code var ps pgs=true)(hp:pgs[j]?=some pg){fl:eh}(hf:fl∈aA code var ps pgs (j:Int)):∃r,ps[fl.part.toNat]?=some r∧r.kind=2:=by rw[dE h hp]at hf;obtain⟨z,hz,hm⟩:=tO hf;obtain⟨h1,r,h2,h3,-⟩:=qB hm;exact⟨r,by rw[h1];exact h2,h3⟩
theorem sP(h:vk s i)(hx:aJ s.xp x.cand=some x)(hq:s.pap[x.var.toNat]?=some q)(hb:s.bk[x.var.toNat]?=some b)(hv:dp d f ld=true)(hp:b[j]?=some pg){y:Pg}(hy:bT i.pgs x.cand (j:Int)=some y)(hl:y.ch.length=(aA q.code q.var q.ps b (j:Int)).length)(ha:y.ch.all bd=true) :
  gh q.code q.var q.ps b d f ld (j:Int) y.ch=0∧(bQ q.code q.var q.ps b d f ld (j:Int) y.ch).length=q.ps.length ∧
   ∀t:Nat,(t:Int)∈pg→t<q.ps.length→∃v,(bQ q.code q.var q.ps b d f ld (j:Int) y.ch)[t]?=some v∧(fC s i d f ld x)[t]?=some v:=by
 have hok:=eV.1 h.chk;have hbk:=(hok.bkv hq hb).2;have hj:=(zY.1 hp).1;obtain⟨e1,e2⟩:=yx (d:=d) (f:=f) (ld:=ld) ⟨hv,hbk⟩ ⟨by omega,by omega⟩ hl ha;refine⟨e2.symm,by rw[←e1];unfold iT;simp,fun t ht htn=>?_⟩;have hr:q.ps[t]?=some q.ps[t]:=zW htn;have hpo:=(pC (jg hbk).2.2.2.2 hp t).2 ht;rw[Aw hq hb hr,hpo,hy];simp only;rw[←e1,jq htn];refine⟨_,rfl,?_⟩;by_cases hk:q.ps[t].kind=2
 ·rw[if_pos hk];congr 1
  unfold List.getD;rw[jq htn];rfl
 ·rw[if_neg hk,if_pos];refine eB fun fl hfl e=>?_;obtain⟨r,h1,h2⟩:=EQ hbk hp hfl;rw[e,yR,hr]at h1;injection h1 with h1;subst h1;exact hk h2
end
def fG(R:List Int)(k:Nat):List Int:=R.take k++List.replicate (R.length-k) (-1)
theorem xh(R:List Int):fG R 0=List.replicate R.length (-1):=by unfold fG;simp
theorem CR(R:List Int):fG R R.length=R:=by unfold fG;simp
theorem CB{R:List Int}(h:k≤R.length):(fG R k).length=R.length:=by unfold fG;simp;omega
theorem C6{R:List Int}{v:Int}(h:R[k]?=some v):(fG R k).set k v=fG R (k+1):=by
 have hk:=(zY.1 h).1;unfold fG;refine wT fun j=>?_;rw[List.getElem?_set];by_cases e:k=j
 ·subst e;rw[if_pos rfl,if_pos (by simp;omega),zH (by simp;omega),yB,if_pos (by omega),h]
 ·rw[if_neg e];rcases zV j k with h1|h1
  ·rw[zH (by simp;omega),zH (by simp;omega),yB,yB,if_pos h1,if_pos (by omega)]
  ·rw[yT (by simp;omega),yT (by simp;omega),List.getElem?_replicate,List.getElem?_replicate];simp only[zF];congr 1
   exact propext ⟨fun _=>by omega,fun _=>by omega⟩
theorem FU{ps:List ai}{pgs:List (List Int)}(h:eU code var ps pgs=true){m:Nat}{z:Int}(hp:pgs[j]?=some pg)(hz:pg[m]?=some z):z=((bC pgs j+m:Nat):Int)∧bC pgs j+m<ps.length:=by have hok:=(jg h).2.2.2.2;have h1:=(iN pgs 0 hok).1 j pg hp;rw[yV]at h1;have hm:=(zY.1 hz).1;have h2:=h1.1.1;rw[zM]at h2;exact⟨h1.1.2 m z hm hz,by omega⟩
theorem ow{ps:List ai}{pgs:List (List Int)}(h:eU code var ps pgs=true):bC pgs pgs.length=ps.length:=by have:=(iN pgs 0 (jg h).2.2.2.2).2;rwa [yV,zM]at this
theorem oM(pgs:List (List Int)):bC pgs 0=0:=rfl
theorem kJ{ps:List ai}{pgs:List (List Int)}(h:eU code var ps pgs=true):1≤pgs.length∧pgs.length≤12:=by
 refine⟨?_,(jg h).2.1⟩;have h1:=ow h;have h2:1≤ps.length:=by have:=(jg h).1;unfold d9 at this;simp only[yY,decide_eq_true_eq]at this;omega
 rcases pgs with _|⟨a,l⟩
 ·have:=oM ([]:List (List Int));simp only[List.length_nil]at h1;omega
 ·simp
theorem CS{w:World}{v:Value}{l:List aY}(h:eF p w v l){x:aY}(hx:x∈l):x.wf:=by
 obtain⟨A,n,c,rfl,-,-,-,HL⟩:=h.open_;obtain⟨k,hk⟩:=yZ hx;have hkn:k<n:=by have:=(zY.1 hk).1;have:=HL.out;omega
 obtain⟨b,off,_,_,rfl,-⟩:=h.at_ hkn;obtain⟨cs,y,-,-,⟨-,hw⟩,HX⟩:=h.cell_ hkn;have:=HX.out;rw[hk]at this;injection this with this;subst this
 exact hw
theorem DM{w:World}{v:Value}{l:List aY}(h:eF p w v l)(c:Int):∀x∈dc l c,aC x:=by intro x hx;unfold dc at hx;rw[lJ]at hx;obtain⟨y,hy,rfl⟩:=zJ.1 hx;exact (CS h (xY.1 hy).1).2.2.2.2.1
theorem uG(l:List aY)(c:Int):(dc l c).length≤l.length:=by unfold dc;exact yL (sR _ _) (by rw[zM];exact xC _ _)
theorem eZ(v vi:Value)(s:aZ)(t:en)(xa xb xd:Int)(w:World)(hp:p<w.heap.size)(hs:aN p w v s)(ht:bN p w vi t)(hok:cD s)(hx:(⟨xa,xb,xd⟩:dF)∈s.xp)(hn1:t.sts.length≤1000) :
  Calls prog 36 #[v,vi,.agg #[B C xa,B C xb,B C xd]] w (EP w (bW s t ⟨xa,xb,xd⟩)):=by
 obtain⟨i0,hi0,hz0,hz1,hz2⟩:=info_parts Tryz.infoI;have HT0:=zZ ht;obtain⟨vP,vB,vX,rfl,hP,hB,hX,hnum⟩:=hs;obtain⟨AP,nP,cP,rfl,-⟩:=hP.open_;obtain⟨AB,nB,cB,rfl,hnB,hcB,hmB,HLB⟩:=hB.open_;obtain⟨AX,nX,cX,rfl,-⟩:=hX.open_;obtain⟨vS,vG,rfl,hS,hG⟩:=ht;have HCI:=zZ (DM hS xa);obtain⟨AS,nS,cS,rfl,-⟩:=hS.open_;obtain⟨AG,nG,cG,rfl,-⟩:=hG.open_;have hxb:=fw hok hx;simp only at hxb;obtain⟨xb1,xb2,xb3,xb4,xb5,xb6⟩:=hxb;obtain⟨pq,bk,hpq,hbk,hbb,-,-,-⟩:=gQ hok xb3 xb4;have hbn:=kJ hbb;have hnp:fA s xd=bk.length:=by unfold fA;rw[hbk];rfl
 have hbks:=hok.bks;obtain⟨r,rfl⟩:=zG xb3;rw[yR]at hpq hbk;have hrB:r<nB:=by have:=HLB.out;omega
 obtain⟨bB,oB,_,_,rfl,-⟩:=hB.at_ hrB;have HB0:=zZ hB;have HBK:=zZ hbk;have HNP:=zZ hnp;have HN:Bx (t.sts.length≤1000∧1≤bk.length∧bk.length≤1000):=⟨⟨hn1,by omega,by omega⟩⟩
 clear hP hB hX hnum hS hG hok hx hpq hbk hbb hbn hnp hbks hn1 HLB;obtain⟨w1,hw1⟩:=nm (((((w.alloc (.cells #[B C s.num,D AP nP cP,D (some ⟨bB,oB,none⟩) nB cB,D AX nX cX] 27)).alloc (.cells #[D AS nS cS,D AG nG cG] 31)).alloc (.cells #[B C xa,B C xb,B C (r:Int)] 83)).alloc (.cells #[B C 0,B C 0,D none 0 0] 41)):World);have HF0:Bx (ae w w1 [(w.heap.size,#[B C s.num,D AP nP cP,D (some ⟨bB,oB,none⟩) nB cB,D AX nX cX],27),(w.heap.size+1,#[D AS nS cS,D AG nG cG],31),(w.heap.size+1+1,#[B C xa,B C xb,B C (r:Int)],83),(w.heap.size+1+1+1,#[B C 0,B C 0,D none 0 0],41)]):=⟨by rw[hw1];exact ((((ae.start w).push _ _ rfl).push _ _ (by simp)).push _ _ (by simp)).push _ _ (by simp)⟩
 have hs1:w1.heap.size=w.heap.size+1+1+1+1:=by rw[hw1];simp
 go_enter func36,ntmps36
 go_upto_region 1 with (fail)
 rw[←hw1];clear hw1;have x0:=(HF0.out.at_ 2 rfl).c 0 rfl;go_upto_region 2 with (fail)
 have HF:Bx (ae w (w1.alloc (.cells #[B C xa,B C 1,D none 0 0] 41)) [(w.heap.size,#[B C s.num,D AP nP cP,D (some ⟨bB,oB,none⟩) nB cB,D AX nX cX],27),(w.heap.size+1,#[D AS nS cS,D AG nG cG],31),(w.heap.size+1+1,#[B C xa,B C xb,B C (r:Int)],83),(w.heap.size+1+1+1,#[B C 0,B C 0,D none 0 0],41),(w.heap.size+1+1+1+1,#[B C xa,B C 1,D none 0 0],41)]):=⟨HF0.out.push _ _ hs1⟩
 obtain⟨w2,hw2⟩:=nm ((w1.alloc (.cells #[B C xa,B C 1,D none 0 0] 41)):World);rw[←hw2]at HF;rw[←hw2];clear hw2 HF0 hs1 x0;have i0':=(HF.out.at_ 1 rfl).c 0 rfl;have i1':=(HF.out.at_ 1 rfl).c 1 rfl;have x0:=(HF.out.at_ 2 rfl).c 0 rfl;go_wp2_with fail;refine (uq _ t xa _ (p:=p) (zP hp HF.out.xt.size) (HT0.out.ext HF.out.xt) HN.out.1).mono ?_;rintro e w3 ⟨⟨A2,n2,c2,rfl,hv2,hl2⟩,hx3⟩;have HF3:=bx (HF.out.ext hx3);have HV3:Bx (av w3 w.heap.size (D A2 n2 c2) (dc t.sts xa)):=⟨bo hv2 HF.out.xt.size,HCI.out,by have:=uG t.sts xa;have:=HN.out.1;omega⟩
 have HN2:=zZ hl2;have hn2b:n2≤1000:=by have:=uG t.sts xa;have:=HN.out.1;omega
 clear hv2 HF hx3 i0' i1' x0 hl2;obtain⟨o0,o1,o2⟩:=(HF3.out.at_ 4 rfl).p3 rfl;have g0:=(HF3.out.at_ 4 rfl).froz;have g1:=g0;have g2:=g0;go_upto_region 3 with (fail)
 have hF4:=HF3.out.set 4 rfl 2 (D A2 n2 c2);have hV4:=HV3.out.far (HF3.out.at_ 4 rfl) (by decide) 2 (D A2 n2 c2);obtain⟨w4,hw4⟩:=nm ((w3.setCell ⟨w.heap.size+1+1+1+1,2,none⟩ (D A2 n2 c2)):World);rw[←hw4]at hF4 hV4;rw[←hw4];have HF4:Bx (ae w w4 [(w.heap.size,#[B C s.num,D AP nP cP,D (some ⟨bB,oB,none⟩) nB cB,D AX nX cX],27),(w.heap.size+1,#[D AS nS cS,D AG nG cG],31),(w.heap.size+1+1,#[B C xa,B C xb,B C (r:Int)],83),(w.heap.size+1+1+1,#[B C 0,B C 0,D none 0 0],41),(w.heap.size+1+1+1+1,#[B C xa,B C 1,D A2 n2 c2],41)]):=⟨hF4⟩
 have HV4:=zZ hV4;clear hw4 hF4 hV4 HF3 HV3 o0 o1 o2 g0 g1 g2;obtain⟨o0,o1,o2⟩:=(HF4.out.at_ 4 rfl).p3 rfl;have g0:=(HF4.out.at_ 4 rfl).froz;have g1:=g0;have g2:=g0;have x0:=(HF4.out.at_ 2 rfl).c 0 rfl;have x2:=(HF4.out.at_ 2 rfl).c 2 rfl;have s2:=(HF4.out.at_ 0 rfl).c 2 rfl;by_cases h0:0<n2
 ·have HE:=zZ (sW (s:=s) (i:=t) (x:=⟨xa,xb,(r:Int)⟩) (show dc t.sts xa≠[] by intro e;have:=HN2.out;rw[e]at this;simp at this;omega));go_upto_region 5 with (fail)
  have hF5:=HF4.out.set 4 rfl 1 (B C 3);have hV5:=HV4.out.far (HF4.out.at_ 4 rfl) (by decide) 1 (B C 3);obtain⟨w5,hw5⟩:=nm ((w4.setCell ⟨w.heap.size+1+1+1+1,1,none⟩ (B C 3)):World);rw[←hw5]at hF5 hV5;rw[←hw5];have HF5:Bx (ae w w5 [(w.heap.size,#[B C s.num,D AP nP cP,D (some ⟨bB,oB,none⟩) nB cB,D AX nX cX],27),(w.heap.size+1,#[D AS nS cS,D AG nG cG],31),(w.heap.size+1+1,#[B C xa,B C xb,B C (r:Int)],83),(w.heap.size+1+1+1,#[B C 0,B C 0,D none 0 0],41),(w.heap.size+1+1+1+1,#[B C xa,B C 3,D A2 n2 c2],41)]):=⟨hF5⟩
  have HV5:=zZ hV5;clear hw5 hF5 hV5 HF4 HV4 o0 o1 o2 g0 g1 g2 x0 x2 s2;obtain⟨o0,o1,o2⟩:=(HF5.out.at_ 4 rfl).p3 rfl;obtain⟨r0,r1,r2⟩:=(HF5.out.at_ 3 rfl).p3 rfl;have f0:=(HF5.out.at_ 3 rfl).froz;have f1:=f0;have f2:=f0;go_wp2_with fail;have h9:=HF5.out.setAll 3 rfl [B C xa,B C 3,D A2 n2 c2] rfl;have h8:=HV5.out.sets (HF5.out.at_ 3 rfl) (by decide) 0 [B C xa,B C 3,D A2 n2 c2];refine bodyPost_ret (v:=.agg #[B C xa,B C 3,D A2 n2 c2]) (by simp[results,results36,go_sem,r0,r1,r2]) rfl ⟨⟨D A2 n2 c2,by rw[HE.out],by rw[HE.out];exact h8⟩,h9.xt⟩
 obtain rfl:n2=0:=by omega
 have HCO:=zZ (sn.2 HN2.out);obtain⟨Ab,nb,cb,b0,-,HNB⟩:=dQ HB0.out HBK.out HF4.out.xt.xt;have hnb:nb≤1000∧1≤nb:=by have:=HNB.out;have:=HN.out.2;omega
 obtain⟨hnb1,hnb2⟩:=hnb;have HV5:Bx (av w4 w.heap.size (D A2 0 c2) []):=⟨by have:=HV4.out;rwa [HCO.out]at this⟩
 clear h0 hn2b HV4;go_wp2_with fail;clear b0 x0 x2 s2 o0 o1 o2 g0 g1 g2;go_loopw [9] (fun s9 wr=>∃(k:Nat) (st:Int) (vo:Value),s9=B C k∧k≤nb∧Bx (ae w wr [(w.heap.size,#[B C s.num,D AP nP cP,D (some ⟨bB,oB,none⟩) nB cB,D AX nX cX],27),(w.heap.size+1,#[D AS nS cS,D AG nG cG],31),(w.heap.size+1+1,#[B C xa,B C xb,B C (r:Int)],83),(w.heap.size+1+1+1,#[B C 0,B C 0,D none 0 0],41),(w.heap.size+1+1+1+1,#[B C xa,B C st,vo],41)]∧av wr w.heap.size vo (aK t.pgs xa k)∧st=(if aK t.pgs xa k=[] then 1 else 2))) (fun k _=>nb-(intOf k).toNat)
 case atStart=>exact⟨0,1,D A2 0 c2,rfl,by omega,⟨⟨HF4.out,by simpa[aK] using HV5.out,by simp[aK]⟩⟩⟩
 case round =>
  obtain⟨k,st,vo,rfl,hk,HR⟩:=hrel;have HFr:Bx (ae w wr [(w.heap.size,#[B C s.num,D AP nP cP,D (some ⟨bB,oB,none⟩) nB cB,D AX nX cX],27),(w.heap.size+1,#[D AS nS cS,D AG nG cG],31),(w.heap.size+1+1,#[B C xa,B C xb,B C (r:Int)],83),(w.heap.size+1+1+1,#[B C 0,B C 0,D none 0 0],41),(w.heap.size+1+1+1+1,#[B C xa,B C st,vo],41)]):=⟨HR.out.1⟩
  have HO:Bx (av wr w.heap.size vo (aK t.pgs xa k)):=⟨HR.out.2.1⟩
  have HST:Bx (st=(if aK t.pgs xa k=[] then 1 else 2)):=⟨HR.out.2.2⟩
  obtain⟨Ao,co,hu⟩:=HO.out.form;obtain⟨no,hno⟩:=nm ((aK t.pgs xa k).length);have hnok:no≤k:=by rw[hno];exact pu _ _ _
  have HNO:=zZ hno;rw[←hno]at hu;subst hu;clear HR HF4 HV5 hno;by_cases hkn:k<nb
  ·have i0':=(HFr.out.at_ 1 rfl).c 0 rfl;have i1':=(HFr.out.at_ 1 rfl).c 1 rfl;have x0:=(HFr.out.at_ 2 rfl).c 0 rfl;go_upto_region 11 with (go_at_call 42;refine (jD _ t xa (k:Int) _ (p:=p) (HT0.out.ext HFr.out.xt)).mono ?_;rintro e w3 ⟨yc,yg,yt,ys,yq,ych,yA,yn,ycc,rfl,-,-,-,hx3⟩)
   obtain⟨w4,hw4⟩:=nm ((w3.alloc (.cells #[B C yc,B C yg,B C yt,D yA yn ycc,B C ys,B C yq] 77)):World);have hx4:ab wr w4:=by rw[hw4];exact hx3.alloc _
   rw[←hw4];have HF4:=bx (HFr.out.ext hx4);have HO4:=bx (HO.out.ext hx4);clear hw4 hx4 hx3 HFr HO i0' i1' x0;obtain⟨o0,o1,o2⟩:=(HF4.out.at_ 4 rfl).p3 rfl;have g0:=(HF4.out.at_ 4 rfl).froz;have g1:=g0;have g2:=g0;cases hpf:bT t.pgs xa (k:Int) with
   |some y =>
    have HM:=zZ (qI hpf);clear hpf;go_wp2_with fail;go_roundw
    case rel=>exact⟨k+1,st,D Ao no co,by go_num,by omega,⟨⟨HF4.out,by rw[HM.out];exact HO4.out,by rw[HM.out];exact HST.out⟩⟩⟩
    case measure=>simp[intOf];omega
   |none =>
    have HM:=zZ (rf hpf);clear hpf;go_upto_region 13 with (at_builtin;refine al _ rfl (.tmp 50) (.tmp 52) 22 rfl w.heap.size 3 i0 _ 8 underlying22 hi0 hz0 hz1 hz2 rfl (D Ao no co) _ _ rfl (ac HO4.out.1 ((zE _).alloc _)) _ _ rfl (by simp;rfl) rfl (by have:=HNO.out;omega) (by omega) (by have:=HF4.out.xt.size;simp;omega) ?_;intro v5 w5 hown5 hg5;obtain⟨A5,c5,hv5⟩:=pY hown5;obtain⟨n5,hn5⟩:=nm ((aK t.pgs xa k).length+1);rw[←hn5]at hv5 hown5;subst hv5;have HN5:=zZ hn5;clear hn5;have HF5:=zZ ((HF4.out.ext ((zE _).alloc _)).grownT (ac HO4.out.1 ((zE _).alloc _)) hg5 (zX _) rfl);have HO5:=zZ hown5;clear hown5 hg5 o0 o1 o2 g0 g1 g2;have o0:=(HF5.out.at_ 4 rfl).c 0 rfl;have o1:=(HF5.out.at_ 4 rfl).c 1 rfl;have o2:=(HF5.out.at_ 4 rfl).c 2 rfl;have g0:=(HF5.out.at_ 4 rfl).froz 0;have g1:=(HF5.out.at_ 4 rfl).froz 1;have g2:=(HF5.out.at_ 4 rfl).froz 2)
    have HI5:Bx (av w5 w.heap.size (D A5 n5 c5) (aK t.pgs xa (k+1))):=⟨by
     rw[HM.out];have h5:=HO5.out;rw[HN5.out]at h5⊢;refine⟨by simpa using h5,fun z hz=>?_,by simp;have:=HNO.out;omega⟩;rcases zC.1 hz with hz|hz
     ·exact HO4.out.2.1 z hz
     ·obtain rfl:z=(k:Int):=by simpa using hz
      exact⟨by omega,by omega⟩⟩
    have hF6:=HF5.out.set 4 rfl 2 (D A5 n5 c5);have hV6:=HI5.out.far (HF5.out.at_ 4 rfl) (by decide) 2 (D A5 n5 c5);obtain⟨w6,hw6⟩:=nm ((w5.setCell ⟨w.heap.size+1+1+1+1,2,none⟩ (D A5 n5 c5)):World);rw[←hw6]at hF6 hV6;rw[←hw6];have HF6:Bx (ae w w6 [(w.heap.size,#[B C s.num,D AP nP cP,D (some ⟨bB,oB,none⟩) nB cB,D AX nX cX],27),(w.heap.size+1,#[D AS nS cS,D AG nG cG],31),(w.heap.size+1+1,#[B C xa,B C xb,B C (r:Int)],83),(w.heap.size+1+1+1,#[B C 0,B C 0,D none 0 0],41),(w.heap.size+1+1+1+1,#[B C xa,B C st,D A5 n5 c5],41)]):=⟨hF6⟩
    have HV6:=zZ hV6;clear hw6 hF6 hV6 HF5 HI5 HO5 HF4 HO4 o0 o1 o2 g0 g1 g2;obtain⟨o0,o1,o2⟩:=(HF6.out.at_ 4 rfl).p3 rfl;have g0:=(HF6.out.at_ 4 rfl).froz;have g1:=g0;have g2:=g0;go_wp2_with fail;have hF7:=HF6.out.set 4 rfl 1 (B C 2);have hV7:=HV6.out.far (HF6.out.at_ 4 rfl) (by decide) 1 (B C 2);go_roundw
    case rel=>exact⟨k+1,2,D A5 n5 c5,by go_num,by omega,⟨⟨hF7,hV7,by rw[HM.out];simp⟩⟩⟩
    case measure=>simp[intOf];omega
  ·obtain rfl:k=nb:=by omega
   have HNK:=zZ (show fA s (r:Int)=k by rw[HNP.out,HNB.out]);have x0:=(HFr.out.at_ 2 rfl).c 0 rfl;obtain⟨r0,r1,r2⟩:=(HFr.out.at_ 3 rfl).p3 rfl;have f0:=(HFr.out.at_ 3 rfl).froz;have f1:=f0;have f2:=f0;obtain⟨o0,o1,o2⟩:=(HFr.out.at_ 4 rfl).p3 rfl;by_cases h2:no=k
   ·have HE:=zZ (DQ (s:=s) (x:=⟨xa,xb,(r:Int)⟩) HCO.out (by simp only[HNK.out];intro e;have:=HNO.out;rw[e]at this;simp at this;omega) (by simp only[HNK.out];rw[←HNO.out,h2]));subst h2;have hnok:((no:Int)==(no:Int))=true:=by simp
    go_wp2_with fail;have h9:=HFr.out.setAll 3 rfl [B C xa,B C 4,D none 0 0] rfl;refine bodyPost_ret (v:=.agg #[B C xa,B C 4,D none 0 0]) (by simp[results,results36,go_sem,r0,r1,r2]) rfl ⟨⟨D none 0 0,by rw[HE.out],by rw[HE.out];exact av.nil _ _⟩,h9.xt⟩
   ·have HE:=zZ (show bW s t ⟨xa,xb,(r:Int)⟩=⟨xa,st,aK t.pgs xa k⟩ by
     rw[HST.out];by_cases h1:aK t.pgs xa k=[]
     ·rw[if_pos h1,tm (s:=s) (x:=⟨xa,xb,(r:Int)⟩) HCO.out (by simp only[HNK.out];exact h1),h1]
     ·rw[if_neg h1,tF (s:=s) (x:=⟨xa,xb,(r:Int)⟩) HCO.out (by simp only[HNK.out];exact h1) (by simp only[HNK.out];rw[←HNO.out];exact h2)];simp only[HNK.out])
    have hnok2:((no:Int)==(k:Int))=false:=by simp;omega
    go_wp2_with fail;have h9:=HFr.out.setAll 3 rfl [B C xa,B C st,D Ao no co] rfl;have h8:=HO.out.sets (HFr.out.at_ 3 rfl) (by decide) 0 [B C xa,B C st,D Ao no co];refine bodyPost_ret (v:=.agg #[B C xa,B C st,D Ao no co]) (by simp[results,results36,go_sem,r0,r1,r2]) rfl ⟨⟨D Ao no co,by rw[HE.out],by rw[HE.out];exact h8⟩,h9.xt⟩
end Go.Proofs.YtjgfgdcaocbfhaaGreat

