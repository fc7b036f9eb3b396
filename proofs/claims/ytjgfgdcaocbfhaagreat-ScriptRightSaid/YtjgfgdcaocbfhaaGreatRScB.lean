import Derived.Test.YtjgfgdcaocbfhaaGreatH32
set_option linter.all false
set_option maxRecDepth 100000
set_option maxHeartbeats 0
namespace Go.Proofs.YtjgfgdcaocbfhaaGreat
open Go.Value renaming int→A,slice→C
open Go.IntKind renaming i64→B
open Go.RowKit _root_.Go.Proofs.Tryz
theorem my(l:List aY)(id:jd):Hb l id=ia l id:=rfl
theorem F2{s:aZ}{t:en}(h1:aw s=0)(h2:fM t.sts=true)(h4:∀k,k<t.pgs.length→mQ s t.sts t.pgs k=true):aV s t=decide (fJ t.sts=t.pgs.length):=by unfold aV;rw[decide_eq_true h1,h2,eC h4];simp
theorem AQ{s:aZ}{c:Int}{x:dF}(hok:cD s)(h:aJ s.xp c=some x):aC x.var:=by have:=fw hok (bh h).1;have hl:=hok.len.2.1;exact⟨by omega,by omega⟩
theorem iL(v vi:Value)(s:aZ)(t:en)(w:World){p:Nat}(hp:p<w.heap.size)(hs:aN p w v s)(ht:bN p w vi t)(hn1:t.sts.length≤1000)(hn2:t.pgs.length≤1000) :
  Calls prog 35 #[v,vi] w fun e w'=>e=.returned (.bool (aV s t))∧ab w w':=by
 have HS0:=zZ hs;have HT0:=zZ ht;obtain⟨vP,vB,vX,rfl,hP,hB,hX,hnum⟩:=hs;obtain⟨AP,nP,cP,rfl,-⟩:=hP.open_;obtain⟨AB,nB,cB,rfl,-⟩:=hB.open_;obtain⟨AX,nX,cX,rfl,-⟩:=hX.open_;obtain⟨vS,vG,rfl,hS,hG⟩:=ht;obtain⟨AS,nS,cS,rfl,hncS,hccS,hnnS,HLS⟩:=hS.open_;obtain⟨AG,nG,cG,rfl,hncG,hccG,hnnG,HLG⟩:=hG.open_;have HS:Bx (eF p w (C AS nS cS) t.sts):=⟨hS⟩
 have HG:Bx (ke p w (C AG nG cG) t.pgs):=⟨hG⟩
 have HNUM:Bx (aC s.num):=⟨hnum⟩
 have hnS:nS≤1000:=by have:=HLS.out;omega
 have hnG:nG≤1000:=by have:=HLG.out;omega
 clear hP hB hX hnum hS hG hn1 hn2;obtain⟨w1,hw1⟩:=nm (((w.alloc (.cells #[A B s.num,C AP nP cP,C AB nB cB,C AX nX cX] 27)).alloc (.cells #[C AS nS cS,C AG nG cG] 31)):World);have HF:Bx (ae w w1 [(w.heap.size,#[A B s.num,C AP nP cP,C AB nB cB,C AX nX cX],27),(w.heap.size+1,#[C AS nS cS,C AG nG cG],31)]):=⟨by rw[hw1];exact ((ae.start w).push _ _ rfl).push _ _ (by simp)⟩
 go_enter func35,ntmps35
 go_upto_region 1 with (fail)
 rw[←hw1];clear hw1;obtain⟨z0,z1,z2,z3⟩:=(HF.out.at_ 0 rfl).p4 rfl;go_wp2_with fail;refine (kH _ s _ (HS0.out.ext HF.out.xt)).mono ?_;rintro e w2 ⟨rfl,hx2⟩;have HF2:=bx (HF.out.ext hx2);clear HF hx2 z0 z1 z2 z3;by_cases hck:aw s=0;case neg =>
  have HE:=zZ (qJ (t:=t) hck);have hcb:(aw s != 0)=true:=by simp[hck]
  go_wp2_with fail;go_ret
  exact⟨aa HE.out.symm,HF2.out.xt⟩
 have HCK:=zZ hck;have HOK:Bx (cD s):=⟨eV.1 hck⟩
 rw[hck];clear hck;go_wp2_with fail;go_loopw [5,6] (fun s5 s6 wr=>∃k u:Nat,s5=A B u∧s6=A B k∧k≤nS∧u≤k∧Bx (ae w wr [(w.heap.size,#[A B s.num,C AP nP cP,C AB nB cB,C AX nX cX],27),(w.heap.size+1,#[C AS nS cS,C AG nG cG],31)]∧(∀j,j<k→qj t.sts j=true)∧u=dr t.sts k)) (fun _ k _=>nS-(intOf k).toNat)
 case atStart=>exact⟨0,0,rfl,rfl,by omega,by omega,⟨⟨HF2.out,fun j hj=>by omega,rfl⟩⟩⟩
 case round =>
  obtain⟨k,u,rfl,rfl,hk,huk,HR⟩:=hrel;have HFr:Bx (ae w wr [(w.heap.size,#[A B s.num,C AP nP cP,C AB nB cB,C AX nX cX],27),(w.heap.size+1,#[C AS nS cS,C AG nG cG],31)]):=⟨HR.out.1⟩
  have HA:Bx ((∀j,j<k→qj t.sts j=true)∧u=dr t.sts k):=⟨HR.out.2⟩
  clear HR HF2;have b0:=(HFr.out.at_ 1 rfl).c 0 rfl;by_cases hkn:k<nS
  ·obtain⟨bS,oS,_,_,rfl,-⟩:=HS.out.at_ hkn;obtain⟨xs,xq,xt,xa,xb,xc,xd,HX,-,x0,x1,x2,x3,x4,x5,x6⟩:=eF.read HS.out HFr.out.xt hkn;have HKL:=zZ (show k<t.sts.length by have:=HLS.out;omega);go_upto_region 8 with (fail)
   have hx2:ab wr (wr.alloc (.cells #[A B xs,A B xq,A B xt,A B xa,A B xb,A B xc,A B xd] 75)):=(zE _).alloc _;obtain⟨w2,hw2⟩:=nm ((wr.alloc (.cells #[A B xs,A B xq,A B xt,A B xa,A B xb,A B xc,A B xd] 75)):World);have HF2:Bx (ae w w2 [(w.heap.size,#[A B s.num,C AP nP cP,C AB nB cB,C AX nX cX],27),(w.heap.size+1,#[C (some ⟨bS,oS,none⟩) nS cS,C AG nG cG],31),(wr.heap.size,#[A B xs,A B xq,A B xt,A B xa,A B xb,A B xc,A B xd],75)]):=⟨by rw[hw2];exact HFr.out.push _ _ rfl⟩
   rw[←hw2]at hx2;rw[←hw2];clear hw2;obtain⟨gx,hgx⟩:=nm wr.heap.size;rw[←hgx]at HF2;rw[←hgx];clear hgx x0 x1 x2 x3 x4 x5 x6 b0;obtain⟨y0,y1,y2⟩:=(HF2.out.at_ 2 rfl).p3 rfl;have b0:=(HF2.out.at_ 1 rfl).c 0 rfl;have HXW:=bx (HFr.out.xt);clear HFr;by_cases hok:1≤xt∧xt≤6;case neg =>
    have HE:=zZ (show aV s t=false by
     refine rP (jI HKL.out ?_);have ho:oT (⟨⟨xs,xq⟩,xt,⟨xa,xb,xc,xd⟩⟩:aY)=false:=decide_eq_false hok;cases k with
     |zero=>rw[lV HX.out];exact ho
     |succ m=>rw[kR HX.out (zW (by have:=HKL.out;omega)),ho];rfl)
    by_cases h1:xt<1
    ·have hd1:decide (xt<1)=true:=decide_eq_true h1;refine zQ 99 fun wd kS=>?_;refine zS 25 [(0,30),(1,31),(2,32),(3,33),(4,34),(5,35),(6,36),(7,37),(8,38),(9,39),(10,40),(11,41),(12,42),(13,43),(14,44),(15,45),(16,46),(17,47),(18,48),(19,49),(20,50),(21,51),(22,52),(23,53),(24,54)] kS ?_;iterate 4 (apply zT;exact⟨rfl,rfl⟩;(·intro wk hk;have:=hk.cell y2;go_simp;try with_reducible rfl);simp only[kA];exact rfl)
     iterate 3 (apply zK;exact⟨rfl,rfl⟩;simp only[kA];exact rfl)
     iterate 2 (apply zT;exact⟨rfl,rfl⟩;(·intro wk hk;have:=hk.cell y2;go_simp;try with_reducible rfl);simp only[kA];exact rfl)
     iterate 15 (apply zK;exact⟨rfl,rfl⟩;simp only[kA];exact rfl)
     (apply zT;exact⟨rfl,rfl⟩;(·intro wk hk;have:=hk.cell y2;go_simp;try with_reducible rfl);simp only[kA];exact rfl);refine zN (zD ?_);go_wp2_with fail;go_ret
     exact⟨aa HE.out.symm,HF2.out.xt.trans kS⟩
    ·have hd1:decide (xt<1)=false:=decide_eq_false h1;have hd2:decide (xt>6)=true:=decide_eq_true (by omega);refine zQ 99 fun wd kS=>?_;refine zS 25 [(0,30),(1,31),(2,32),(3,33),(4,34),(5,35),(6,36),(7,37),(8,38),(9,39),(10,40),(11,41),(12,42),(13,43),(14,44),(15,45),(16,46),(17,47),(18,48),(19,49),(20,50),(21,51),(22,52),(23,53),(24,54)] kS ?_;iterate 9 (apply zT;exact⟨rfl,rfl⟩;(·intro wk hk;have:=hk.cell y2;go_simp;try with_reducible rfl);simp only[kA];exact rfl)
     iterate 15 (apply zK;exact⟨rfl,rfl⟩;simp only[kA];exact rfl)
     (apply zT;exact⟨rfl,rfl⟩;(·intro wk hk;have:=hk.cell y2;go_simp;try with_reducible rfl);simp only[kA];exact rfl);refine zN (zD ?_);go_wp2_with fail;go_ret
     exact⟨aa HE.out.symm,HF2.out.xt.trans kS⟩
   obtain⟨hok1,hok2⟩:=hok;have hd1:decide (xt<1)=false:=decide_eq_false (by omega);have hd2:decide (xt>6)=false:=decide_eq_false (by omega);have HO1:=zZ (show oT (⟨⟨xs,xq⟩,xt,⟨xa,xb,xc,xd⟩⟩:aY)=true from decide_eq_true ⟨hok1,hok2⟩);rcases xW k with hk0|hk0
   ·subst hk0;refine zQ 99 fun wd kS=>?_;refine zS 25 [(0,30),(1,31),(2,32),(3,33),(4,34),(5,35),(6,36),(7,37),(8,38),(9,39),(10,40),(11,41),(12,42),(13,43),(14,44),(15,45),(16,46),(17,47),(18,48),(19,49),(20,50),(21,51),(22,52),(23,53),(24,54)] kS ?_;iterate 12 (apply zT;exact⟨rfl,rfl⟩;(·intro wk hk;have:=hk.cell y2;go_simp;try with_reducible rfl);simp only[kA];exact rfl)
    iterate 11 (apply zK;exact⟨rfl,rfl⟩;simp only[kA];exact rfl)
    iterate 2 (apply zT;exact⟨rfl,rfl⟩;(·intro wk hk;have:=hk.cell y2;go_simp;try with_reducible rfl);simp only[kA];exact rfl)
    refine zN (zD ?_);have HT:=zZ (show qj t.sts 0=true by rw[lV HX.out];exact HO1.out);have HFd:Bx (ae w wd [(w.heap.size,#[A B s.num,C AP nP cP,C AB nB cB,C AX nX cX],27),(w.heap.size+1,#[C (some ⟨bS,oS,none⟩) nS cS,C AG nG cG],31)]):=⟨(HF2.out.ext kS).take 2⟩
    have y2:=((HF2.out.ext kS).at_ 2 rfl).c 2 rfl;clear kS y0 y1 hd1 hd2 b0 HF2 hx2;by_cases hu:xt=1
    ·have HU:=zZ (show u+1=dr t.sts (0+1) by rw[i6 HX.out hu,HA.out.2]);subst hu;go_wp2_with fail;go_roundw
     case rel=>exact⟨0+1,u+1,by go_num,by go_num,by omega,by omega,⟨⟨HFd.out,fun j hj=>by rcases zV j 0 with h|h;exact HA.out.1 j h;obtain rfl:j=0:=(by omega);exact HT.out,HU.out⟩⟩⟩
     case measure=>simp[intOf];omega
    ·have HU:=zZ (show u=dr t.sts (0+1) by rw[jU HX.out hu,HA.out.2]);have hub:(xt==1)=false:=beq_eq_false_iff_ne.2 hu;go_wp2_with fail;go_roundw
     case rel=>exact⟨0+1,u,rfl,by go_num,by omega,by omega,⟨⟨HFd.out,fun j hj=>by rcases zV j 0 with h|h;exact HA.out.1 j h;obtain rfl:j=0:=(by omega);exact HT.out,HU.out⟩⟩⟩
     case measure=>simp[intOf];omega
   ·obtain⟨m,hm⟩:∃m,m+1=k:=⟨k-1,by omega⟩
    have hmn:m<nS:=by omega
    obtain⟨zs,zq,zt,za,zb,zc,zd,HZ,-,z0,z1,-⟩:=eF.read HS.out (HXW.out.trans hx2) hmn;have HSG:=zZ (show qj t.sts k=(oT (⟨⟨xs,xq⟩,xt,⟨xa,xb,xc,xd⟩⟩:aY)&&aW ⟨⟨zs,zq⟩,zt,⟨za,zb,zc,zd⟩⟩ ⟨⟨xs,xq⟩,xt,⟨xa,xb,xc,xd⟩⟩) by rw[←hm];exact kR (by rw[hm];exact HX.out) HZ.out);have m1:IntKind.i64.wrap ((k:Int)-1)=(m:Int):=by rw[yQ _ (by omega)];omega
    have hkg:decide ((k:Int)>0)=true:=by simp;omega
    have hmm1:m+1≤k:=by omega
    have hmm2:k≤m+1:=by omega
    clear hm;refine zQ 99 fun wc kS=>?_;refine zS 21 [(0,30),(1,31),(2,32),(3,33),(4,34),(5,35),(6,36),(7,37),(8,38),(9,39),(10,40),(11,41),(12,42),(13,43),(14,44),(15,45),(16,46),(17,47),(18,48),(19,49),(20,50)] kS ?_;iterate 21 (apply zT;exact⟨rfl,rfl⟩;(·intro wk hk;have:=hk.cell b0;have:=hk.cell y0;have:=hk.cell y1;have:=hk.cell y2;have:=hk.cell z0;have:=hk.cell z1;go_simp;try with_reducible rfl);simp only[kA];exact rfl)
    refine zN (zO 21 (fun K hK=>?_));go_simp;refine (mK zs zq xs xq _).mono ?_;rintro e wd ⟨rfl,hxd⟩;have kS2:ab w2 wd:=kS.trans hxd;cases hlt:gY ⟨zs,zq⟩ ⟨xs,xq⟩ with
    |false =>
     have HE:=zZ (show aV s t=false from rP (jI HKL.out (by rw[HSG.out];unfold aW;simp[hlt])));clear hlt;refine hK.out _ _ (fun _=>kS2) ?_;clear hK K;try simp only[kA]
     refine zS 3 [(22,52),(23,53),(24,54)] kS2 ?_;iterate 3 (apply zT;exact⟨rfl,rfl⟩;(·intro wk hk;have:=hk.cell b0;have:=hk.cell y0;have:=hk.cell y1;have:=hk.cell y2;have:=hk.cell z0;have:=hk.cell z1;go_simp;try with_reducible rfl);simp only[kA];exact rfl)
     refine zN (zD ?_);go_wp2_with fail;go_ret
     exact⟨aa HE.out.symm,HF2.out.xt.trans kS2⟩
    |true =>
     have HT:=zZ (show qj t.sts k=true by rw[HSG.out,HO1.out];unfold aW;simp[hlt]);clear hlt;refine hK.out _ _ (fun _=>kS2) ?_;clear hK K;try simp only[kA]
     refine zS 3 [(22,52),(23,53),(24,54)] kS2 ?_;iterate 3 (apply zT;exact⟨rfl,rfl⟩;(·intro wk hk;have:=hk.cell b0;have:=hk.cell y0;have:=hk.cell y1;have:=hk.cell y2;have:=hk.cell z0;have:=hk.cell z1;go_simp;try with_reducible rfl);simp only[kA];exact rfl)
     refine zN (zD ?_);have HFd:Bx (ae w wd [(w.heap.size,#[A B s.num,C AP nP cP,C AB nB cB,C AX nX cX],27),(w.heap.size+1,#[C (some ⟨bS,oS,none⟩) nS cS,C AG nG cG],31)]):=⟨(HF2.out.ext kS2).take 2⟩
     have y2:=((HF2.out.ext kS2).at_ 2 rfl).c 2 rfl;clear kS kS2 y0 y1 z0 z1 hd1 hd2 b0 HF2 hx2 m1 hkg hxd;by_cases hu:xt=1
     ·have HU:=zZ (show u+1=dr t.sts (k+1) by rw[i6 HX.out hu,HA.out.2]);subst hu;go_wp2_with fail;go_roundw
      case rel=>exact⟨k+1,u+1,by go_num,by go_num,by omega,by omega,⟨⟨HFd.out,fun j hj=>by rcases zV j k with h|h;exact HA.out.1 j h;obtain rfl:j=k:=(by omega);exact HT.out,HU.out⟩⟩⟩
      case measure=>simp[intOf];omega
     ·have HU:=zZ (show u=dr t.sts (k+1) by rw[jU HX.out hu,HA.out.2]);have hub:(xt==1)=false:=beq_eq_false_iff_ne.2 hu;go_wp2_with fail;go_roundw
      case rel=>exact⟨k+1,u,rfl,by go_num,by omega,by omega,⟨⟨HFd.out,fun j hj=>by rcases zV j k with h|h;exact HA.out.1 j h;obtain rfl:j=k:=(by omega);exact HT.out,HU.out⟩⟩⟩
      case measure=>simp[intOf];omega
  ·obtain rfl:nS=k:=by omega
   have HST:=zZ (show fM t.sts=true from uI fun j hj=>HA.out.1 j (by have:=HLS.out;omega));have HU:=zZ (show u=fJ t.sts by rw[HA.out.2,oN HLS.out]);have HAS:=zZ (pj HST.out);clear HA;go_wp2_with fail;clear b0;obtain⟨wo,rfl⟩:=nm (wr:World);go_loopw [8] (fun s8 wr=>∃k:Nat,s8=A B k∧k≤nG∧Bx (ae w wr [(w.heap.size,#[A B s.num,C AP nP cP,C AB nB cB,C AX nX cX],27),(w.heap.size+1,#[C AS nS cS,C AG nG cG],31)]∧∀j,j<k→mQ s t.sts t.pgs j=true)) (fun k _=>nG-(intOf k).toNat)
   case atStart=>exact⟨0,rfl,by omega,⟨⟨HFr.out,fun j hj=>by omega⟩⟩⟩
   case round =>
    obtain⟨k,rfl,hk,HR⟩:=hrel;have HFg:Bx (ae w wr [(w.heap.size,#[A B s.num,C AP nP cP,C AB nB cB,C AX nX cX],27),(w.heap.size+1,#[C AS nS cS,C AG nG cG],31)]):=⟨HR.out.1⟩
    have HA:Bx (∀j,j<k→mQ s t.sts t.pgs j=true):=⟨HR.out.2⟩
    clear HR HFr;have b1:=(HFg.out.at_ 1 rfl).c 1 rfl;by_cases hkn:k<nG
    ·obtain⟨bG,oG,_,_,rfl,-⟩:=HG.out.at_ hkn;obtain⟨xc,xg,xt,xs,xq,xch,xA,xm,xcc,HX,hwf,hI,x0,x1,x2,x3,x4,x5⟩:=ke.read HG.out HFg.out.xt hkn;have HI:=zZ hI;have HWF:=zZ hwf;have HKL:=zZ (show k<t.pgs.length by have:=HLG.out;omega);clear hI hwf;go_upto_region 16 with (fail)
     have hx2:ab wr (wr.alloc (.cells #[A B xc,A B xg,A B xt,C xA xm xcc,A B xs,A B xq] 77)):=(zE _).alloc _;obtain⟨w2,hw2⟩:=nm ((wr.alloc (.cells #[A B xc,A B xg,A B xt,C xA xm xcc,A B xs,A B xq] 77)):World);have HF2:Bx (ae w w2 [(w.heap.size,#[A B s.num,C AP nP cP,C AB nB cB,C AX nX cX],27),(w.heap.size+1,#[C AS nS cS,C (some ⟨bG,oG,none⟩) nG cG],31),(wr.heap.size,#[A B xc,A B xg,A B xt,C xA xm xcc,A B xs,A B xq],77)]):=⟨by rw[hw2];exact HFg.out.push _ _ rfl⟩
     rw[←hw2]at hx2;rw[←hw2];clear hw2;obtain⟨gp,hgp⟩:=nm wr.heap.size;rw[←hgp]at HF2;rw[←hgp];clear hgp x0 x1 x2 x3 x4 x5 b1;obtain⟨y0,y1,y2,y3,y4,y5⟩:=(HF2.out.at_ 2 rfl).p6 rfl;have b1:=(HF2.out.at_ 1 rfl).c 1 rfl;have HXW:=bx (HFg.out.xt);clear HFg;rcases xW k with hk0|hk0
     ·subst hk0;have HPG:=zZ (tj (s:=s) (sts:=t.sts) HX.out);refine zQ 99 fun wd kS=>?_;refine zS 13 [(0,72),(1,73),(2,74),(3,75),(4,76),(5,77),(6,78),(7,79),(8,80),(9,81),(10,82),(11,83),(12,84)] kS ?_;iterate 3 (apply zT;exact⟨rfl,rfl⟩;(·intro _ _;go_simp;try with_reducible rfl);simp only[kA];exact rfl)
      iterate 9 (apply zK;exact⟨rfl,rfl⟩;simp only[kA];exact rfl)
      (apply zT;exact⟨rfl,rfl⟩;(·intro _ _;go_simp;try with_reducible rfl);simp only[kA];exact rfl);refine zN (zD ?_);have HFd:=bx (HF2.out.ext kS);have HId:=zZ ((HI.out.ext hx2).ext kS);clear kS y0 y1 y2 y3 y4 y5 b1 HF2 hx2;obtain⟨z0,z1,z2,z3⟩:=(HFd.out.at_ 0 rfl).p4 rfl;have y0:=(HFd.out.at_ 2 rfl).c 0 rfl;go_upto_region 19 with (go_at_call 47;refine (jM _ s xc _ (HS0.out.ext HFd.out.xt)).mono ?_;rintro e w5 ⟨⟨fa,fb,fd,rfl,hfx0⟩,hx5⟩)
      have HFX:=zZ hfx0;obtain⟨gx,hgx⟩:=nm w5.heap.size;obtain⟨w6,hw6⟩:=nm ((w5.alloc (.cells #[A B fa,A B fb,A B fd] 83)):World);have HF6:Bx (ae w w6 [(w.heap.size,#[A B s.num,C AP nP cP,C AB nB cB,C AX nX cX],27),(w.heap.size+1,#[C AS nS cS,C (some ⟨bG,oG,none⟩) nG cG],31),(gp,#[A B xc,A B xg,A B xt,C xA xm xcc,A B xs,A B xq],77),(gx,#[A B fa,A B fb,A B fd],83)]):=⟨by rw[hw6];exact (HFd.out.ext hx5).push _ _ hgx.symm⟩
      have hx6:ab wd w6:=by rw[hw6];exact hx5.alloc _
      rw[←hw6];rw[←hgx];clear hw6 hfx0 hx5 hgx HFd z0 z1 z2 z3 y0;have z0:=(HF6.out.at_ 0 rfl).c 0 rfl;obtain⟨y0,y1⟩:=(HF6.out.at_ 2 rfl).p2 rfl;have f2:=(HF6.out.at_ 3 rfl).c 2 rfl;go_upto_region 20 with (fail)
      obtain⟨gl,hgl⟩:=nm w6.heap.size;obtain⟨w7,hw7⟩:=nm ((w6.alloc (.cells #[A B s.num,A B xc,A B xg,A B fd] 73)):World);have HF7:Bx (ae w w7 [(w.heap.size,#[A B s.num,C AP nP cP,C AB nB cB,C AX nX cX],27),(w.heap.size+1,#[C AS nS cS,C (some ⟨bG,oG,none⟩) nG cG],31),(gp,#[A B xc,A B xg,A B xt,C xA xm xcc,A B xs,A B xq],77),(gx,#[A B fa,A B fb,A B fd],83),(gl,#[A B s.num,A B xc,A B xg,A B fd],73)]):=⟨by rw[hw7];exact HF6.out.push _ _ hgl.symm⟩
      have hx7:ab wd w7:=by rw[hw7];exact hx6.alloc _
      rw[←hw7];rw[←hgl];clear hw7 HF6 hx6 hgl z0 y0 y1 f2;obtain⟨b0,b1⟩:=(HF7.out.at_ 1 rfl).p2 rfl;have y4:=(HF7.out.at_ 2 rfl).c 4 rfl;have y5:=(HF7.out.at_ 2 rfl).c 5 rfl;go_upto_region 21 with (go_at_call 73;refine (pR _ t xs xq _ (HT0.out.ext HF7.out.xt)).mono ?_;rintro e w8 ⟨⟨⟨⟨qs,qq⟩,qt,⟨qa,qb,qc,qd⟩⟩,hst,rfl⟩,hx8⟩;simp only[aY.cells])
      have HQ:=zZ hst;obtain⟨gy,hgy⟩:=nm w8.heap.size;obtain⟨w9,hw9⟩:=nm ((w8.alloc (.cells #[A B qs,A B qq,A B qt,A B qa,A B qb,A B qc,A B qd] 75)):World);have HF9:Bx (ae w w9 [(w.heap.size,#[A B s.num,C AP nP cP,C AB nB cB,C AX nX cX],27),(w.heap.size+1,#[C AS nS cS,C (some ⟨bG,oG,none⟩) nG cG],31),(gp,#[A B xc,A B xg,A B xt,C xA xm xcc,A B xs,A B xq],77),(gx,#[A B fa,A B fb,A B fd],83),(gl,#[A B s.num,A B xc,A B xg,A B fd],73),(gy,#[A B qs,A B qq,A B qt,A B qa,A B qb,A B qc,A B qd],75)]):=⟨by rw[hw9];exact (HF7.out.ext hx8).push _ _ hgy.symm⟩
      have hx9:ab wd w9:=by rw[hw9];exact (hx7.trans hx8).alloc _
      have HI9:=zZ (HId.out.ext hx9);rw[←hw9];rw[←hgy];clear hw9 HF7 hx7 hx8 hx9 hst hgy b0 b1 y4 y5 HId;rw[my]at HQ;cases hfx:aJ s.xp xc with
      |none =>
       have HE:=zZ (show aV s t=false from cR HKL.out (by rw[HPG.out];exact iW hfx));clear hfx;go_wp2_with fail;go_ret
       exact⟨aa HE.out.symm,HF9.out.xt⟩
      |some x0 =>
       obtain rfl:x0=⟨fa,fb,fd⟩:=by have:=HFX.out;rw[hfx]at this;exact this
       have HFS:=zZ hfx;have HFV:=zZ (AQ HOK.out hfx);clear hfx HFX;cases hsf:ia t.sts ⟨xs,xq⟩ with
       |none =>
        have HE:=zZ (show aV s t=false from cR HKL.out (by rw[HPG.out];exact hD hsf));rw[my,hsf];clear hsf;go_wp2_with fail;go_ret
        exact⟨aa HE.out.symm,HF9.out.xt⟩
       |some y0 =>
        obtain rfl:y0=⟨⟨qs,qq⟩,qt,⟨qa,qb,qc,qd⟩⟩:=by have:=HQ.out;rw[hsf]at this;exact this
        have HPB:=zZ (gv (s:=s) (q:=⟨xc,xg,xt,xch,⟨xs,xq⟩⟩) HFS.out hsf);rw[my,hsf];clear hsf HQ;have q2:=(HF9.out.at_ 5 rfl).c 2 rfl;have q3:=(HF9.out.at_ 5 rfl).c 3 rfl;have q4:=(HF9.out.at_ 5 rfl).c 4 rfl;have q5:=(HF9.out.at_ 5 rfl).c 5 rfl;have q6:=(HF9.out.at_ 5 rfl).c 6 rfl;obtain⟨z0,z1,z2,z3⟩:=(HF9.out.at_ 0 rfl).p4 rfl;obtain⟨l0,l1,l2,l3⟩:=(HF9.out.at_ 4 rfl).p4 rfl;have y3:=(HF9.out.at_ 2 rfl).c 3 rfl;have hfi:da s ⟨s.num,xc,xg,fd⟩ xch=be s ⟨s.num,xc,xg,fd⟩ xch:=by unfold da;rw[HCK.out];simp
        have HFI:=zZ hfi;clear hfi;cases hft:be s ⟨s.num,xc,xg,fd⟩ xch with
        |false =>
         have HE:=zZ (show aV s t=false from cR HKL.out (by rw[HPG.out,HPB.out,hft];simp));have HFT:=zZ hft;clear hft;go_wp2_with (go_at_call 59;refine (eb _ _ s s.num xc xg fd xch _ (p:=p) (q:=p) (zP hp HF9.out.xt.size) (HS0.out.ext HF9.out.xt) HI9.out ⟨HNUM.out,HWF.out.1,HWF.out.2.1,HFV.out⟩).mono ?_;rintro e wf ⟨rfl,hxf⟩;rw[HFI.out,HFT.out];have HFf:Bx (ae w wf [(w.heap.size,#[A B s.num,C AP nP cP,C AB nB cB,C AX nX cX],27),(w.heap.size+1,#[C AS nS cS,C (some ⟨bG,oG,none⟩) nG cG],31)]):=⟨(HF9.out.ext hxf).take 2⟩;(replace q2:=hxf.cell q2);(replace q3:=hxf.cell q3);(replace q4:=hxf.cell q4);(replace q5:=hxf.cell q5);(replace q6:=hxf.cell q6);(replace l0:=hxf.cell l0);(replace l1:=hxf.cell l1);(replace l2:=hxf.cell l2);(replace l3:=hxf.cell l3);clear hxf z0 z1 z2 z3 y3);go_ret
         exact⟨aa HE.out.symm,HFf.out.xt⟩
        |true =>
         have HFT:=zZ hft;clear hft;by_cases hq1:qt=1;case neg =>
          have HE:=zZ (show aV s t=false from cR HKL.out (by rw[HPG.out,HPB.out];simp[hq1]));have hqb:(qt != 1)=true:=by simp[hq1]
          go_wp2_with (go_at_call 59;refine (eb _ _ s s.num xc xg fd xch _ (p:=p) (q:=p) (zP hp HF9.out.xt.size) (HS0.out.ext HF9.out.xt) HI9.out ⟨HNUM.out,HWF.out.1,HWF.out.2.1,HFV.out⟩).mono ?_;rintro e wf ⟨rfl,hxf⟩;rw[HFI.out,HFT.out];have HFf:Bx (ae w wf [(w.heap.size,#[A B s.num,C AP nP cP,C AB nB cB,C AX nX cX],27),(w.heap.size+1,#[C AS nS cS,C (some ⟨bG,oG,none⟩) nG cG],31)]):=⟨(HF9.out.ext hxf).take 2⟩;(replace q2:=hxf.cell q2);(replace q3:=hxf.cell q3);(replace q4:=hxf.cell q4);(replace q5:=hxf.cell q5);(replace q6:=hxf.cell q6);(replace l0:=hxf.cell l0);(replace l1:=hxf.cell l1);(replace l2:=hxf.cell l2);(replace l3:=hxf.cell l3);clear hxf z0 z1 z2 z3 y3);go_ret
          exact⟨aa HE.out.symm,HFf.out.xt⟩
         have hqb:(qt != 1)=false:=by simp[hq1]
         have eL:∀W,(Op.equalIn 10000 73 (.agg #[A B qa,A B qb,A B qc,A B qd]) (.agg #[A B s.num,A B xc,A B xg,A B fd])).run prog W=.ok (decide (qa=s.num∧qb=xc∧qc=xg∧qd=fd)) W:=fun W=>lY _ _ _ _ _ _ _ _ W;have gL:=fZ;by_cases hle:qa=s.num∧qb=xc∧qc=xg∧qd=fd;case neg =>
          rw[decide_eq_false hle]at eL;have HE:=zZ (show aV s t=false from cR HKL.out (by rw[HPG.out,HPB.out];have:(⟨qa,qb,qc,qd⟩:cU)≠⟨s.num,xc,xg,fd⟩:=fun e=>hle (by injection e with e1 e2 e3 e4;exact⟨e1,e2,e3,e4⟩);simp only[decide_eq_false this,Bool.false_and,wF]))
          clear hle;go_wp2_with (go_at_call 59;refine (eb _ _ s s.num xc xg fd xch _ (p:=p) (q:=p) (zP hp HF9.out.xt.size) (HS0.out.ext HF9.out.xt) HI9.out ⟨HNUM.out,HWF.out.1,HWF.out.2.1,HFV.out⟩).mono ?_;rintro e wf ⟨rfl,hxf⟩;rw[HFI.out,HFT.out];have HFf:Bx (ae w wf [(w.heap.size,#[A B s.num,C AP nP cP,C AB nB cB,C AX nX cX],27),(w.heap.size+1,#[C AS nS cS,C (some ⟨bG,oG,none⟩) nG cG],31)]):=⟨(HF9.out.ext hxf).take 2⟩;(replace q2:=hxf.cell q2);(replace q3:=hxf.cell q3);(replace q4:=hxf.cell q4);(replace q5:=hxf.cell q5);(replace q6:=hxf.cell q6);(replace l0:=hxf.cell l0);(replace l1:=hxf.cell l1);(replace l2:=hxf.cell l2);(replace l3:=hxf.cell l3);clear hxf z0 z1 z2 z3 y3);go_ret
          exact⟨aa HE.out.symm,HFf.out.xt⟩
         rw[decide_eq_true hle]at eL;have HT:=zZ (show mQ s t.sts t.pgs 0=true by
          rw[HPG.out,HPB.out,HFT.out];have:(⟨qa,qb,qc,qd⟩:cU)=⟨s.num,xc,xg,fd⟩:=by obtain⟨e1,e2,e3,e4⟩:=hle;rw[e1,e2,e3,e4]
          simp only[decide_eq_true this,decide_eq_true hq1,yU])
         clear hle;go_wp2_with (go_at_call 59;refine (eb _ _ s s.num xc xg fd xch _ (p:=p) (q:=p) (zP hp HF9.out.xt.size) (HS0.out.ext HF9.out.xt) HI9.out ⟨HNUM.out,HWF.out.1,HWF.out.2.1,HFV.out⟩).mono ?_;rintro e wf ⟨rfl,hxf⟩;rw[HFI.out,HFT.out];have HFf:Bx (ae w wf [(w.heap.size,#[A B s.num,C AP nP cP,C AB nB cB,C AX nX cX],27),(w.heap.size+1,#[C AS nS cS,C (some ⟨bG,oG,none⟩) nG cG],31)]):=⟨(HF9.out.ext hxf).take 2⟩;(replace q2:=hxf.cell q2);(replace q3:=hxf.cell q3);(replace q4:=hxf.cell q4);(replace q5:=hxf.cell q5);(replace q6:=hxf.cell q6);(replace l0:=hxf.cell l0);(replace l1:=hxf.cell l1);(replace l2:=hxf.cell l2);(replace l3:=hxf.cell l3);clear hxf z0 z1 z2 z3 y3);clear eL gL hqb hq1;go_roundw
         case rel=>exact⟨0+1,by go_num,by omega,⟨⟨HFf.out,fun j hj=>by rcases zV j 0 with h|h;exact HA.out j h;obtain rfl:j=0:=(by omega);exact HT.out⟩⟩⟩
         case measure=>simp[intOf];omega
     ·obtain⟨m,hm⟩:∃m,m+1=k:=⟨k-1,by omega⟩
      have hmn:m<nG:=by omega
      obtain⟨zc,zg,zt,zs,zq,zch,zA,zm,zcc,HZ,-,-,z0,z1,z2,z3,z4,z5⟩:=ke.read HG.out (HXW.out.trans hx2) hmn;have HSG:=zZ (show mQ s t.sts t.pgs k=(cM ⟨zc,zg,zt,zch,⟨zs,zq⟩⟩ ⟨xc,xg,xt,xch,⟨xs,xq⟩⟩&&fH s t.sts ⟨xc,xg,xt,xch,⟨xs,xq⟩⟩) by rw[←hm];exact tu (by rw[hm];exact HX.out) HZ.out);have m1:IntKind.i64.wrap ((k:Int)-1)=(m:Int):=by rw[yQ _ (by omega)];omega
      have hkg:decide ((k:Int)>0)=true:=by simp;omega
      have hmm1:m+1≤k:=by omega
      have hmm2:k≤m+1:=by omega
      clear hm;refine zQ 99 fun wc kS=>?_;refine zS 10 [(0,72),(1,73),(2,74),(3,75),(4,76),(5,77),(6,78),(7,79),(8,80),(9,81)] kS ?_;iterate 10 (apply zT;exact⟨rfl,rfl⟩;(·intro wk hk;have:=hk.cell b1;have:=hk.cell y0;have:=hk.cell y1;have:=hk.cell y2;have:=hk.cell y3;have:=hk.cell y4;have:=hk.cell y5;have:=hk.cell z0;have:=hk.cell z1;have:=hk.cell z2;have:=hk.cell z3;have:=hk.cell z4;have:=hk.cell z5;go_simp;try with_reducible rfl);simp only[kA];exact rfl)
      refine zN (zO 10 (fun K hK=>?_));go_simp;refine (lB zc zg zt zs zq xc xg xt xs xq zA xA zm zcc xm xcc _).mono ?_;rintro e wd ⟨rfl,hxd⟩;have kS2:ab w2 wd:=kS.trans hxd;by_cases hlt:zc<xc∨(zc=xc∧zg<xg)
      ·have HPG:=zZ (show mQ s t.sts t.pgs k=fH s t.sts ⟨xc,xg,xt,xch,⟨xs,xq⟩⟩ by rw[HSG.out,show cM ⟨zc,zg,zt,zch,⟨zs,zq⟩⟩ ⟨xc,xg,xt,xch,⟨xs,xq⟩⟩=true from decide_eq_true hlt,yU]);rw[decide_eq_true hlt];clear hlt;refine hK.out _ _ (fun _=>kS2) ?_;clear hK K;try simp only[kA]
       refine zS 2 [(11,83),(12,84)] kS2 ?_;iterate 2 (apply zT;exact⟨rfl,rfl⟩;(·intro wk hk;have:=hk.cell b1;have:=hk.cell y0;have:=hk.cell y1;have:=hk.cell y2;have:=hk.cell y3;have:=hk.cell y4;have:=hk.cell y5;have:=hk.cell z0;have:=hk.cell z1;have:=hk.cell z2;have:=hk.cell z3;have:=hk.cell z4;have:=hk.cell z5;go_simp;try with_reducible rfl);simp only[kA];exact rfl)
       refine zN (zD ?_);clear kS;have kS:=kS2;clear kS2 z0 z1 z2 z3 z4 z5 m1 hkg hxd;have HFd:=bx (HF2.out.ext kS);have HId:=zZ ((HI.out.ext hx2).ext kS);clear kS y0 y1 y2 y3 y4 y5 b1 HF2 hx2;obtain⟨z0,z1,z2,z3⟩:=(HFd.out.at_ 0 rfl).p4 rfl;have y0:=(HFd.out.at_ 2 rfl).c 0 rfl;go_upto_region 19 with (go_at_call 47;refine (jM _ s xc _ (HS0.out.ext HFd.out.xt)).mono ?_;rintro e w5 ⟨⟨fa,fb,fd,rfl,hfx0⟩,hx5⟩)
       have HFX:=zZ hfx0;obtain⟨gx,hgx⟩:=nm w5.heap.size;obtain⟨w6,hw6⟩:=nm ((w5.alloc (.cells #[A B fa,A B fb,A B fd] 83)):World);have HF6:Bx (ae w w6 [(w.heap.size,#[A B s.num,C AP nP cP,C AB nB cB,C AX nX cX],27),(w.heap.size+1,#[C AS nS cS,C (some ⟨bG,oG,none⟩) nG cG],31),(gp,#[A B xc,A B xg,A B xt,C xA xm xcc,A B xs,A B xq],77),(gx,#[A B fa,A B fb,A B fd],83)]):=⟨by rw[hw6];exact (HFd.out.ext hx5).push _ _ hgx.symm⟩
       have hx6:ab wd w6:=by rw[hw6];exact hx5.alloc _
       rw[←hw6];rw[←hgx];clear hw6 hfx0 hx5 hgx HFd z0 z1 z2 z3 y0;have z0:=(HF6.out.at_ 0 rfl).c 0 rfl;obtain⟨y0,y1⟩:=(HF6.out.at_ 2 rfl).p2 rfl;have f2:=(HF6.out.at_ 3 rfl).c 2 rfl;go_upto_region 20 with (fail)
       obtain⟨gl,hgl⟩:=nm w6.heap.size;obtain⟨w7,hw7⟩:=nm ((w6.alloc (.cells #[A B s.num,A B xc,A B xg,A B fd] 73)):World);have HF7:Bx (ae w w7 [(w.heap.size,#[A B s.num,C AP nP cP,C AB nB cB,C AX nX cX],27),(w.heap.size+1,#[C AS nS cS,C (some ⟨bG,oG,none⟩) nG cG],31),(gp,#[A B xc,A B xg,A B xt,C xA xm xcc,A B xs,A B xq],77),(gx,#[A B fa,A B fb,A B fd],83),(gl,#[A B s.num,A B xc,A B xg,A B fd],73)]):=⟨by rw[hw7];exact HF6.out.push _ _ hgl.symm⟩
       have hx7:ab wd w7:=by rw[hw7];exact hx6.alloc _
       rw[←hw7];rw[←hgl];clear hw7 HF6 hx6 hgl z0 y0 y1 f2;obtain⟨b0,b1⟩:=(HF7.out.at_ 1 rfl).p2 rfl;have y4:=(HF7.out.at_ 2 rfl).c 4 rfl;have y5:=(HF7.out.at_ 2 rfl).c 5 rfl;go_upto_region 21 with (go_at_call 73;refine (pR _ t xs xq _ (HT0.out.ext HF7.out.xt)).mono ?_;rintro e w8 ⟨⟨⟨⟨qs,qq⟩,qt,⟨qa,qb,qc,qd⟩⟩,hst,rfl⟩,hx8⟩;simp only[aY.cells])
       have HQ:=zZ hst;obtain⟨gy,hgy⟩:=nm w8.heap.size;obtain⟨w9,hw9⟩:=nm ((w8.alloc (.cells #[A B qs,A B qq,A B qt,A B qa,A B qb,A B qc,A B qd] 75)):World);have HF9:Bx (ae w w9 [(w.heap.size,#[A B s.num,C AP nP cP,C AB nB cB,C AX nX cX],27),(w.heap.size+1,#[C AS nS cS,C (some ⟨bG,oG,none⟩) nG cG],31),(gp,#[A B xc,A B xg,A B xt,C xA xm xcc,A B xs,A B xq],77),(gx,#[A B fa,A B fb,A B fd],83),(gl,#[A B s.num,A B xc,A B xg,A B fd],73),(gy,#[A B qs,A B qq,A B qt,A B qa,A B qb,A B qc,A B qd],75)]):=⟨by rw[hw9];exact (HF7.out.ext hx8).push _ _ hgy.symm⟩
       have hx9:ab wd w9:=by rw[hw9];exact (hx7.trans hx8).alloc _
       have HI9:=zZ (HId.out.ext hx9);rw[←hw9];rw[←hgy];clear hw9 HF7 hx7 hx8 hx9 hst hgy b0 b1 y4 y5 HId;rw[my]at HQ;cases hfx:aJ s.xp xc with
       |none =>
        have HE:=zZ (show aV s t=false from cR HKL.out (by rw[HPG.out];exact iW hfx));clear hfx;go_wp2_with fail;go_ret
        exact⟨aa HE.out.symm,HF9.out.xt⟩
       |some x0 =>
        obtain rfl:x0=⟨fa,fb,fd⟩:=by have:=HFX.out;rw[hfx]at this;exact this
        have HFS:=zZ hfx;have HFV:=zZ (AQ HOK.out hfx);clear hfx HFX;cases hsf:ia t.sts ⟨xs,xq⟩ with
        |none =>
         have HE:=zZ (show aV s t=false from cR HKL.out (by rw[HPG.out];exact hD hsf));rw[my,hsf];clear hsf;go_wp2_with fail;go_ret
         exact⟨aa HE.out.symm,HF9.out.xt⟩
        |some y0 =>
         obtain rfl:y0=⟨⟨qs,qq⟩,qt,⟨qa,qb,qc,qd⟩⟩:=by have:=HQ.out;rw[hsf]at this;exact this
         have HPB:=zZ (gv (s:=s) (q:=⟨xc,xg,xt,xch,⟨xs,xq⟩⟩) HFS.out hsf);rw[my,hsf];clear hsf HQ;have q2:=(HF9.out.at_ 5 rfl).c 2 rfl;have q3:=(HF9.out.at_ 5 rfl).c 3 rfl;have q4:=(HF9.out.at_ 5 rfl).c 4 rfl;have q5:=(HF9.out.at_ 5 rfl).c 5 rfl;have q6:=(HF9.out.at_ 5 rfl).c 6 rfl;obtain⟨z0,z1,z2,z3⟩:=(HF9.out.at_ 0 rfl).p4 rfl;obtain⟨l0,l1,l2,l3⟩:=(HF9.out.at_ 4 rfl).p4 rfl;have y3:=(HF9.out.at_ 2 rfl).c 3 rfl;have hfi:da s ⟨s.num,xc,xg,fd⟩ xch=be s ⟨s.num,xc,xg,fd⟩ xch:=by unfold da;rw[HCK.out];simp
         have HFI:=zZ hfi;clear hfi;cases hft:be s ⟨s.num,xc,xg,fd⟩ xch with
         |false =>
          have HE:=zZ (show aV s t=false from cR HKL.out (by rw[HPG.out,HPB.out,hft];simp));have HFT:=zZ hft;clear hft;go_wp2_with (go_at_call 59;refine (eb _ _ s s.num xc xg fd xch _ (p:=p) (q:=p) (zP hp HF9.out.xt.size) (HS0.out.ext HF9.out.xt) HI9.out ⟨HNUM.out,HWF.out.1,HWF.out.2.1,HFV.out⟩).mono ?_;rintro e wf ⟨rfl,hxf⟩;rw[HFI.out,HFT.out];have HFf:Bx (ae w wf [(w.heap.size,#[A B s.num,C AP nP cP,C AB nB cB,C AX nX cX],27),(w.heap.size+1,#[C AS nS cS,C (some ⟨bG,oG,none⟩) nG cG],31)]):=⟨(HF9.out.ext hxf).take 2⟩;(replace q2:=hxf.cell q2);(replace q3:=hxf.cell q3);(replace q4:=hxf.cell q4);(replace q5:=hxf.cell q5);(replace q6:=hxf.cell q6);(replace l0:=hxf.cell l0);(replace l1:=hxf.cell l1);(replace l2:=hxf.cell l2);(replace l3:=hxf.cell l3);clear hxf z0 z1 z2 z3 y3);go_ret
          exact⟨aa HE.out.symm,HFf.out.xt⟩
         |true =>
          have HFT:=zZ hft;clear hft;by_cases hq1:qt=1;case neg =>
           have HE:=zZ (show aV s t=false from cR HKL.out (by rw[HPG.out,HPB.out];simp[hq1]));have hqb:(qt != 1)=true:=by simp[hq1]
           go_wp2_with (go_at_call 59;refine (eb _ _ s s.num xc xg fd xch _ (p:=p) (q:=p) (zP hp HF9.out.xt.size) (HS0.out.ext HF9.out.xt) HI9.out ⟨HNUM.out,HWF.out.1,HWF.out.2.1,HFV.out⟩).mono ?_;rintro e wf ⟨rfl,hxf⟩;rw[HFI.out,HFT.out];have HFf:Bx (ae w wf [(w.heap.size,#[A B s.num,C AP nP cP,C AB nB cB,C AX nX cX],27),(w.heap.size+1,#[C AS nS cS,C (some ⟨bG,oG,none⟩) nG cG],31)]):=⟨(HF9.out.ext hxf).take 2⟩;(replace q2:=hxf.cell q2);(replace q3:=hxf.cell q3);(replace q4:=hxf.cell q4);(replace q5:=hxf.cell q5);(replace q6:=hxf.cell q6);(replace l0:=hxf.cell l0);(replace l1:=hxf.cell l1);(replace l2:=hxf.cell l2);(replace l3:=hxf.cell l3);clear hxf z0 z1 z2 z3 y3);go_ret
           exact⟨aa HE.out.symm,HFf.out.xt⟩
          have hqb:(qt != 1)=false:=by simp[hq1]
          have eL:∀W,(Op.equalIn 10000 73 (.agg #[A B qa,A B qb,A B qc,A B qd]) (.agg #[A B s.num,A B xc,A B xg,A B fd])).run prog W=.ok (decide (qa=s.num∧qb=xc∧qc=xg∧qd=fd)) W:=fun W=>lY _ _ _ _ _ _ _ _ W;have gL:=fZ;by_cases hle:qa=s.num∧qb=xc∧qc=xg∧qd=fd;case neg =>
           rw[decide_eq_false hle]at eL;have HE:=zZ (show aV s t=false from cR HKL.out (by rw[HPG.out,HPB.out];have:(⟨qa,qb,qc,qd⟩:cU)≠⟨s.num,xc,xg,fd⟩:=fun e=>hle (by injection e with e1 e2 e3 e4;exact⟨e1,e2,e3,e4⟩);simp only[decide_eq_false this,Bool.false_and,wF]))
           clear hle;go_wp2_with (go_at_call 59;refine (eb _ _ s s.num xc xg fd xch _ (p:=p) (q:=p) (zP hp HF9.out.xt.size) (HS0.out.ext HF9.out.xt) HI9.out ⟨HNUM.out,HWF.out.1,HWF.out.2.1,HFV.out⟩).mono ?_;rintro e wf ⟨rfl,hxf⟩;rw[HFI.out,HFT.out];have HFf:Bx (ae w wf [(w.heap.size,#[A B s.num,C AP nP cP,C AB nB cB,C AX nX cX],27),(w.heap.size+1,#[C AS nS cS,C (some ⟨bG,oG,none⟩) nG cG],31)]):=⟨(HF9.out.ext hxf).take 2⟩;(replace q2:=hxf.cell q2);(replace q3:=hxf.cell q3);(replace q4:=hxf.cell q4);(replace q5:=hxf.cell q5);(replace q6:=hxf.cell q6);(replace l0:=hxf.cell l0);(replace l1:=hxf.cell l1);(replace l2:=hxf.cell l2);(replace l3:=hxf.cell l3);clear hxf z0 z1 z2 z3 y3);go_ret
           exact⟨aa HE.out.symm,HFf.out.xt⟩
          rw[decide_eq_true hle]at eL;have HT:=zZ (show mQ s t.sts t.pgs k=true by
           rw[HPG.out,HPB.out,HFT.out];have:(⟨qa,qb,qc,qd⟩:cU)=⟨s.num,xc,xg,fd⟩:=by obtain⟨e1,e2,e3,e4⟩:=hle;rw[e1,e2,e3,e4]
           simp only[decide_eq_true this,decide_eq_true hq1,yU])
          clear hle;go_wp2_with (go_at_call 59;refine (eb _ _ s s.num xc xg fd xch _ (p:=p) (q:=p) (zP hp HF9.out.xt.size) (HS0.out.ext HF9.out.xt) HI9.out ⟨HNUM.out,HWF.out.1,HWF.out.2.1,HFV.out⟩).mono ?_;rintro e wf ⟨rfl,hxf⟩;rw[HFI.out,HFT.out];have HFf:Bx (ae w wf [(w.heap.size,#[A B s.num,C AP nP cP,C AB nB cB,C AX nX cX],27),(w.heap.size+1,#[C AS nS cS,C (some ⟨bG,oG,none⟩) nG cG],31)]):=⟨(HF9.out.ext hxf).take 2⟩;(replace q2:=hxf.cell q2);(replace q3:=hxf.cell q3);(replace q4:=hxf.cell q4);(replace q5:=hxf.cell q5);(replace q6:=hxf.cell q6);(replace l0:=hxf.cell l0);(replace l1:=hxf.cell l1);(replace l2:=hxf.cell l2);(replace l3:=hxf.cell l3);clear hxf z0 z1 z2 z3 y3);clear eL gL hqb hq1;go_roundw
          case rel=>exact⟨k+1,by go_num,by omega,⟨⟨HFf.out,fun j hj=>by rcases zV j k with h|h;exact HA.out j h;obtain rfl:j=k:=(by omega);exact HT.out⟩⟩⟩
          case measure=>simp[intOf];omega
      ·have HE:=zZ (show aV s t=false from cR HKL.out (by rw[HSG.out,show cM ⟨zc,zg,zt,zch,⟨zs,zq⟩⟩ ⟨xc,xg,xt,xch,⟨xs,xq⟩⟩=false from decide_eq_false hlt];rfl));rw[decide_eq_false hlt];clear hlt;refine hK.out _ _ (fun _=>kS2) ?_;clear hK K;try simp only[kA]
       refine zS 2 [(11,83),(12,84)] kS2 ?_;iterate 2 (apply zT;exact⟨rfl,rfl⟩;(·intro wk hk;have:=hk.cell b1;have:=hk.cell y0;have:=hk.cell y1;have:=hk.cell y2;have:=hk.cell y3;have:=hk.cell y4;have:=hk.cell y5;have:=hk.cell z0;have:=hk.cell z1;have:=hk.cell z2;have:=hk.cell z3;have:=hk.cell z4;have:=hk.cell z5;go_simp;try with_reducible rfl);simp only[kA];exact rfl)
       refine zN (zD ?_);go_wp2_with fail;go_ret
       exact⟨aa HE.out.symm,HF2.out.xt.trans kS2⟩
    ·obtain rfl:k=nG:=by omega
     have HE:=zZ (show aV s t=decide (u=k) by rw[F2 HCK.out HST.out fun j hj=>HA.out j (by have:=HLG.out;omega),HU.out,HLG.out])
     by_cases hue:u=k
     ·rw[decide_eq_true hue]at HE;subst hue;have hub:((u:Int)==(u:Int))=true:=by simp
      go_wp2_with fail;go_ret
      exact⟨aa HE.out.symm,HFg.out.xt⟩
     ·rw[decide_eq_false hue]at HE;have hub:((u:Int)==(k:Int))=false:=by simp;omega
      go_wp2_with fail;all_goals first
       |(exfalso;omega)
       |(go_ret;exact⟨aa HE.out.symm,HFg.out.xt⟩)
end Go.Proofs.YtjgfgdcaocbfhaaGreat

