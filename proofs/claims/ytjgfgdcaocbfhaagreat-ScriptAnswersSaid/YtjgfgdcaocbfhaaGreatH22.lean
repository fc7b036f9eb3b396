import Derived.Test.YtjgfgdcaocbfhaaGreatRefF
set_option linter.all false
set_option maxRecDepth 100000
set_option maxHeartbeats 0
namespace Go.Proofs.YtjgfgdcaocbfhaaGreat
open Go.RowKit _root_.Go.Proofs.Tryz
variable {ch:List Int} {p:Nat}
theorem pL{s:aZ}{lab:cU}{x:dF}{q:gE}{b:List (List Int)}(hx:aJ s.xp lab.c=some x)(hq:s.pap[lab.v.toNat]?=some q)(hb:s.bk[lab.v.toNat]?=some b) :
  be s lab ch=(decide (lab.p=s.num)&&(decide (x.var=lab.v)&&(decide (0≤lab.g∧lab.g<(b.length:Int))&&(decide (ch.length=(aA q.code q.var q.ps b lab.g).length)&&ch.all bd)))):=by
 unfold be;rw[hx,hq,hb]
theorem qM{s:aZ}{lab:cU}(h:lab.p≠s.num):be s lab ch=false:=by
 cases e:be s lab ch with
 |false=>rfl
 |true=>obtain⟨x,q,bk,_,h2,_⟩:=jS.1 e;exact absurd h2 h
theorem oU{s:aZ}{lab:cU}(h:aJ s.xp lab.c=none):be s lab ch=false:=by unfold be;rw[h]
theorem rm{s:aZ}{lab:cU}{x:dF}(hx:aJ s.xp lab.c=some x)(h:x.var≠lab.v):be s lab ch=false:=by
 cases e:be s lab ch with
 |false=>rfl
 |true =>
  obtain⟨x',q,bk,h1,_,h3,_⟩:=jS.1 e;rw[hx]at h1;injection h1 with h1;subst h1;exact absurd h3 h
theorem eb(v vc:Value)(s:aZ)(lp lc lg lv:Int)(ch:List Int)(w:World){q:Nat}(hp:p<w.heap.size)(hs:aN p w v s)(hc:ao q w vc ch)(hl:cU.wf ⟨lp,lc,lg,lv⟩) :
  Calls prog 59 #[v,.agg #[.int .i64 lp,.int .i64 lc,.int .i64 lg,.int .i64 lv],vc] w fun e w'=>e=.returned (.bool (da s ⟨lp,lc,lg,lv⟩ ch))∧ab w w':=by
 have hs0:=hs;obtain⟨vP,vB,vX,rfl,hP,hB,hX,hnum⟩:=hs;obtain⟨AP,nP,cP,rfl,hnP,hcP,hmP,HLP⟩:=hP.open_;obtain⟨AB,nB,cB,rfl,hnB,hcB,hmB,HLB⟩:=hB.open_;obtain⟨AX,nX,cX,rfl,-⟩:=hX.open_;obtain⟨AC,nC,cC,rfl,hnC,hcC,hmC,HLC⟩:=hc.open_;have HR0:Bx (hY p w (.slice AP nP cP) s.pap∧gm p w (.slice AB nB cB) s.bk∧aN p w (.agg #[.int .i64 s.num,.slice AP nP cP,.slice AB nB cB,.slice AX nX cX]) s∧ao q w (.slice AC nC cC) ch):=⟨⟨hP,hB,hs0,hc⟩⟩
 have HLG:Bx (aC lg):=⟨hl.2.2.1⟩
 obtain⟨hl1,hl2⟩:=hl.2.2.1;clear hP hB hX hs0 hc hnum hl;obtain⟨w1,hw1⟩:=nm (((w.alloc (.cells #[.int .i64 s.num,.slice AP nP cP,.slice AB nB cB,.slice AX nX cX] 27)).alloc (.cells #[.int .i64 lp,.int .i64 lc,.int .i64 lg,.int .i64 lv] 73)):World);have HF:Bx (ae w w1 [(w.heap.size,#[.int .i64 s.num,.slice AP nP cP,.slice AB nB cB,.slice AX nX cX],27),(w.heap.size+1,#[.int .i64 lp,.int .i64 lc,.int .i64 lg,.int .i64 lv],73)]):=⟨by rw[hw1];exact ((ae.start w).push _ _ rfl).push _ _ (by simp)⟩
 obtain⟨z0,z1,z2,z3⟩:=(HF.out.at_ 0 rfl).p4 rfl;go_enter func59,ntmps59
 go_upto_region 1 with (fail)
 rw[←hw1];clear hw1;go_wp2_with fail;refine (kH _ s _ (HR0.out.2.2.1.ext HF.out.xt)).mono ?_;rintro e w2 ⟨rfl,hx2⟩;have HF2:=bx (HF.out.ext hx2);clear HF hx2 z0 z1 z2 z3;obtain⟨z0,z1,z2,z3⟩:=(HF2.out.at_ 0 rfl).p4 rfl;obtain⟨l0,l1,l2,l3⟩:=(HF2.out.at_ 1 rfl).p4 rfl;by_cases hck:aw s=0;case neg =>
  have HE:=zZ (show da s ⟨lp,lc,lg,lv⟩ ch=false by unfold da;rw[decide_eq_false hck];rfl);have hcb:(aw s != 0)=true:=by simp[hck]
  replace hck:=zZ hck;go_wp2_with fail;go_ret
  exact⟨aa HE.out.symm,HF2.out.xt⟩
 have HFI:=zZ (show da s ⟨lp,lc,lg,lv⟩ ch=be s ⟨lp,lc,lg,lv⟩ ch by unfold da;rw[decide_eq_true hck];rfl);have HOK:Bx (cD s):=⟨eV.1 hck⟩
 rw[hck];clear hck;by_cases hpn:lp=s.num;case neg =>
  have HE:=zZ (show da s ⟨lp,lc,lg,lv⟩ ch=false by rw[HFI.out];exact qM hpn);have hcb:(lp != s.num)=true:=by simp[hpn]
  replace hpn:=zZ hpn;go_wp2_with fail;go_ret
  exact⟨aa HE.out.symm,HF2.out.xt⟩
 have hcb:(lp != s.num)=false:=by simp[hpn]
 have HPN:=zZ hpn;clear hpn;go_wp2_with fail;refine (jM _ s lc _ (HR0.out.2.2.1.ext HF2.out.xt)).mono ?_;rintro e w3 ⟨⟨xc,xe,xv,rfl,hfd0⟩,hx3⟩;have HFD:=zZ hfd0;clear hfd0;have HF3':Bx (ae w w3 [(w.heap.size,#[.int .i64 s.num,.slice AP nP cP,.slice AB nB cB,.slice AX nX cX],27),(w.heap.size+1,#[.int .i64 lp,.int .i64 lc,.int .i64 lg,.int .i64 lv],73)]):=⟨HF2.out.ext hx3⟩
 obtain⟨w4,hw4⟩:=nm ((w3.alloc (.cells #[.int .i64 xc,.int .i64 xe,.int .i64 xv] 83)):World);obtain⟨gx,hgx⟩:=nm w3.heap.size;have HF4:Bx (ae w w4 [(w.heap.size,#[.int .i64 s.num,.slice AP nP cP,.slice AB nB cB,.slice AX nX cX],27),(w.heap.size+1,#[.int .i64 lp,.int .i64 lc,.int .i64 lg,.int .i64 lv],73),(gx,#[.int .i64 xc,.int .i64 xe,.int .i64 xv],83)]):=⟨by rw[hw4,hgx];exact HF3'.out.new _ _⟩
 clear HF2 hx3 z0 z1 z2 z3 l0 l1 l2 l3 hcb;go_upto_region 4 with (fail)
 rw[←hw4,←hgx];clear hw4 hgx HF3';cases hF:aJ s.xp lc with
 |none =>
  have HE:=zZ (show da s ⟨lp,lc,lg,lv⟩ ch=false by rw[HFI.out];exact oU hF);have kS:True:=trivial;clear hF;refine zR 99 (fun _=>True) ?_;refine zS 3 [(0,26),(1,27),(2,28)] kS ?_;iterate 3 (apply zT;exact⟨rfl,rfl⟩;(·intro _ _;go_simp;try with_reducible rfl);simp only[kA];exact rfl)
  refine zN (zS 5 [(3,29),(4,30),(5,31),(6,32),(7,33)] kS ?_);iterate 5 (apply zK;exact⟨rfl,rfl⟩;simp only[kA];exact rfl)
  refine zN (zS 2 [(8,34),(9,35)] kS ?_);iterate 2 (apply zT;exact⟨rfl,rfl⟩;(·intro _ _;go_simp;try with_reducible rfl);simp only[kA];exact rfl)
  refine zN (zS 3 [(10,36),(11,37),(12,38)] kS ?_);iterate 3 (apply zK;exact⟨rfl,rfl⟩;simp only[kA];exact rfl)
  refine zN (zS 2 [(13,39),(14,40)] kS ?_);iterate 2 (apply zT;exact⟨rfl,rfl⟩;(·intro _ _;go_simp;try with_reducible rfl);simp only[kA];exact rfl)
  refine zN (zS 11 [(15,41),(16,42),(17,43),(18,44),(19,45),(20,46),(21,47),(22,48),(23,49),(24,50),(25,51)] kS ?_);iterate 11 (apply zK;exact⟨rfl,rfl⟩;simp only[kA];exact rfl)
  refine zN (zS 1 [(26,52)] kS ?_);(apply zT;exact⟨rfl,rfl⟩;(·intro _ _;go_simp;try with_reducible rfl);simp only[kA];exact rfl);refine zN (zD ?_);go_wp2_with fail;go_ret
  exact⟨aa HE.out.symm,HF4.out.drew.xt⟩
 |some x0 =>
  have hfd:=HFD.out;rw[hF]at hfd;obtain rfl:x0=⟨xc,xe,xv⟩:=hfd;have HX:=zZ hF;clear hF HFD;have hxm:=(bh HX.out).1;have hxb:=fw HOK.out hxm;simp only at hxb;obtain⟨xb1,xb2,xb3,xb4,xb5,xb6⟩:=hxb;obtain⟨pq,bk,hpq,hbk,-,-,-,-⟩:=gQ HOK.out xb3 xb4;have hbks:=HOK.out.bks;obtain⟨r,rfl⟩:=zG xb3;rw[yR]at hpq hbk;have hrP:r<nP:=by have:=HLP.out;omega
  have hrB:r<nB:=by have:=HLB.out;omega
  obtain⟨bP,oP,_,_,rfl,-⟩:=HR0.out.1.at_ hrP;obtain⟨bB,oB,_,_,rfl,-⟩:=HR0.out.2.1.at_ hrB;obtain⟨Ab,nb,cb,b0,hIB,HNB⟩:=dQ HR0.out.2.1 hbk HF4.out.xt.xt;obtain⟨Aq,nq,cq,q0,q1,q2,hIQ,hq1,hq2⟩:=gj HR0.out.1 hpq HF4.out.xt.xt;obtain⟨pc,pv,pps⟩:=pq;simp only at q0 q1 q2 hIQ hq1 hq2;have HPQ:Bx (s.pap[r]?=some ⟨pc,pv,pps⟩∧s.bk[r]?=some bk):=⟨⟨hpq,hbk⟩⟩
  have HI:Bx (kr p w4 (.slice Aq nq cq) pps∧kL p w4 (.slice Ab nb cb) bk):=⟨⟨hIQ,hIB⟩⟩
  clear hxm hpq hbk hbks hIQ hIB hq1 hq2;by_cases hv:(r:Int)=lv;case neg =>
   have HE:=zZ (show da s ⟨lp,lc,lg,lv⟩ ch=false by rw[HFI.out];exact rm HX.out hv);have kS:w4.drew.cell? ⟨gx,2,none⟩=some (.int .i64 (r:Int))∧w4.drew.cell? ⟨w.heap.size+1,3,none⟩=some (.int .i64 lv):=⟨(HF4.out.drew.at_ 2 rfl).c 2 rfl,(HF4.out.drew.at_ 1 rfl).c 3 rfl⟩
   have hvb:((r:Int)!=lv)=true:=by simp[hv]
   have hvc:((r:Int)==lv)=false:=beq_eq_false_iff_ne.2 hv;replace hv:=zZ hv;refine zR 99 (fun w'=>w'.cell? ⟨gx,2,none⟩=some (.int .i64 (r:Int))∧w'.cell? ⟨w.heap.size+1,3,none⟩=some (.int .i64 lv)) ?_;refine zS 10 [(0,26),(1,27),(2,28),(3,29),(4,30),(5,31),(6,32),(7,33),(8,34),(9,35)] kS ?_;iterate 10 (apply zT;exact⟨rfl,rfl⟩;(·intro _ _;go_simp;try with_reducible rfl);simp only[kA];exact rfl)
   refine zN (zS 3 [(10,36),(11,37),(12,38)] kS ?_);iterate 3 (apply zK;exact⟨rfl,rfl⟩;simp only[kA];exact rfl)
   refine zN (zS 2 [(13,39),(14,40)] kS ?_);iterate 2 (apply zT;exact⟨rfl,rfl⟩;(·intro _ _;go_simp;try with_reducible rfl);simp only[kA];exact rfl)
   refine zN (zS 11 [(15,41),(16,42),(17,43),(18,44),(19,45),(20,46),(21,47),(22,48),(23,49),(24,50),(25,51)] kS ?_);iterate 11 (apply zK;exact⟨rfl,rfl⟩;simp only[kA];exact rfl)
   refine zN (zS 1 [(26,52)] kS ?_);(apply zT;exact⟨rfl,rfl⟩;(·intro _ _;go_simp;try with_reducible rfl);simp only[kA];exact rfl);refine zN (zD ?_);go_wp2_with fail;go_ret
   exact⟨aa HE.out.symm,HF4.out.drew.xt⟩
  subst hv;have HF0:=zZ (show da s ⟨lp,lc,lg,(r:Int)⟩ ch=(decide (0≤lg∧lg<(bk.length:Int))&&(decide (ch.length=(aA pc pv pps bk lg).length)&&ch.all bd)) by rw[HFI.out,pL HX.out (by simp only[yR];exact HPQ.out.1) (by simp only[yR];exact HPQ.out.2),HPN.out,decide_eq_true rfl,decide_eq_true rfl,yU,yU])
  have kS:w4.drew.cell? ⟨gx,2,none⟩=some (.int .i64 (r:Int))∧w4.drew.cell? ⟨w.heap.size+1,3,none⟩=some (.int .i64 (r:Int))∧w4.drew.cell? ⟨w.heap.size+1,2,none⟩=some (.int .i64 lg)∧w4.drew.cell? ⟨w.heap.size,2,none⟩=some (.slice (some ⟨bB,oB,none⟩) nB cB)∧w4.drew.cell? ⟨bB,oB+r,none⟩=some (.slice Ab nb cb) :=
   ⟨(HF4.out.drew.at_ 2 rfl).c 2 rfl,(HF4.out.drew.at_ 1 rfl).c 3 rfl,(HF4.out.drew.at_ 1 rfl).c 2 rfl,(HF4.out.drew.at_ 0 rfl).c 2 rfl,b0⟩
  by_cases hg0:lg<0
  ·have HE:=zZ (show da s ⟨lp,lc,lg,(r:Int)⟩ ch=false by rw[HF0.out,decide_eq_false (by omega)];rfl);refine zR 99 (fun w'=>w'.cell? ⟨gx,2,none⟩=some (.int .i64 (r:Int))∧w'.cell? ⟨w.heap.size+1,3,none⟩=some (.int .i64 (r:Int))∧w'.cell? ⟨w.heap.size+1,2,none⟩=some (.int .i64 lg)∧w'.cell? ⟨w.heap.size,2,none⟩=some (.slice (some ⟨bB,oB,none⟩) nB cB)∧w'.cell? ⟨bB,oB+r,none⟩=some (.slice Ab nb cb)) ?_;refine zS 15 [(0,26),(1,27),(2,28),(3,29),(4,30),(5,31),(6,32),(7,33),(8,34),(9,35),(10,36),(11,37),(12,38),(13,39),(14,40)] kS ?_;iterate 15 (apply zT;exact⟨rfl,rfl⟩;(·intro _ _;go_simp;try with_reducible rfl);simp only[kA];exact rfl)
   refine zN (zS 11 [(15,41),(16,42),(17,43),(18,44),(19,45),(20,46),(21,47),(22,48),(23,49),(24,50),(25,51)] kS ?_);iterate 11 (apply zK;exact⟨rfl,rfl⟩;simp only[kA];exact rfl)
   refine zN (zS 1 [(26,52)] kS ?_);(apply zT;exact⟨rfl,rfl⟩;(·intro _ _;go_simp;try with_reducible rfl);simp only[kA];exact rfl);refine zN (zD ?_);go_wp2_with fail;go_ret
   exact⟨aa HE.out.symm,HF4.out.drew.xt⟩
  have hg1:0≤lg:=by omega
  have hgd:decide (lg<0)=false:=decide_eq_false hg0;refine zR 99 (fun w'=>w'.cell? ⟨gx,2,none⟩=some (.int .i64 (r:Int))∧w'.cell? ⟨w.heap.size+1,3,none⟩=some (.int .i64 (r:Int))∧w'.cell? ⟨w.heap.size+1,2,none⟩=some (.int .i64 lg)∧w'.cell? ⟨w.heap.size,2,none⟩=some (.slice (some ⟨bB,oB,none⟩) nB cB)∧w'.cell? ⟨bB,oB+r,none⟩=some (.slice Ab nb cb)) ?_;refine zS 27 [(0,26),(1,27),(2,28),(3,29),(4,30),(5,31),(6,32),(7,33),(8,34),(9,35),(10,36),(11,37),(12,38),(13,39),(14,40),(15,41),(16,42),(17,43),(18,44),(19,45),(20,46),(21,47),(22,48),(23,49),(24,50),(25,51),(26,52)] kS ?_;iterate 27 (apply zT;exact⟨rfl,rfl⟩;(·intro _ _;go_simp;try with_reducible rfl);simp only[kA];exact rfl)
  refine zN (zD ?_);clear kS;by_cases hgn:lg<(nb:Int)
  case neg =>
   have HE:=zZ (show da s ⟨lp,lc,lg,(r:Int)⟩ ch=false by rw[HF0.out,decide_eq_false (by have:=HNB.out;omega)];rfl);go_wp2_with fail;go_ret
   exact⟨aa HE.out.symm,HF4.out.drew.xt⟩
  have HF1:=zZ (show da s ⟨lp,lc,lg,(r:Int)⟩ ch=(decide (ch.length=(aA pc pv pps bk lg).length)&&ch.all bd) by rw[HF0.out,decide_eq_true (by have:=HNB.out;omega),yU]);go_upto_region 6 with (fail)
  have HF4d:Bx (ae w w4.drew [(w.heap.size,#[.int .i64 s.num,.slice (some ⟨bP,oP,none⟩) nP cP,.slice (some ⟨bB,oB,none⟩) nB cB,.slice AX nX cX],27),(w.heap.size+1,#[.int .i64 lp,.int .i64 lc,.int .i64 lg,.int .i64 (r:Int)],73),(gx,#[.int .i64 xc,.int .i64 xe,.int .i64 (r:Int)],83)]):=⟨HF4.out.drew⟩
  obtain⟨w5,hw5⟩:=nm (w4.drew.drew:World);have hw45:ab w4 w5:=by rw[hw5];exact ((zE _).drew).drew
  have HF5:=bx (HF4.out.ext hw45);have kS:w5.cell? ⟨w.heap.size,1,none⟩=some (.slice (some ⟨bP,oP,none⟩) nP cP)∧w5.cell? ⟨w.heap.size,2,none⟩=some (.slice (some ⟨bB,oB,none⟩) nB cB)∧w5.cell? ⟨gx,2,none⟩=some (.int .i64 (r:Int))∧w5.cell? ⟨w.heap.size+1,2,none⟩=some (.int .i64 lg)∧w5.cell? ⟨bP,oP+r*3,none⟩=some (.int .i64 pc)∧w5.cell? ⟨bP,oP+r*3+1,none⟩=some (.int .i64 pv)∧w5.cell? ⟨bP,oP+r*3+2,none⟩=some (.slice Aq nq cq)∧w5.cell? ⟨bB,oB+r,none⟩=some (.slice Ab nb cb):=⟨(HF5.out.at_ 0 rfl).c 1 rfl,(HF5.out.at_ 0 rfl).c 2 rfl,(HF5.out.at_ 2 rfl).c 2 rfl,(HF5.out.at_ 1 rfl).c 2 rfl,hw45.cell q0,hw45.cell q1,hw45.cell q2,hw45.cell b0⟩
  have HI5:Bx (kr p w5 (.slice Aq nq cq) pps∧kL p w5 (.slice Ab nb cb) bk):=⟨HI.out.1.ext (aI.stab p) hw45,HI.out.2.ext (RI.stab p) hw45⟩
  refine zR 99 (fun w'=>w'.cell? ⟨w.heap.size,1,none⟩=some (.slice (some ⟨bP,oP,none⟩) nP cP)∧w'.cell? ⟨w.heap.size,2,none⟩=some (.slice (some ⟨bB,oB,none⟩) nB cB)∧w'.cell? ⟨gx,2,none⟩=some (.int .i64 (r:Int))∧w'.cell? ⟨w.heap.size+1,2,none⟩=some (.int .i64 lg)∧w'.cell? ⟨bP,oP+r*3,none⟩=some (.int .i64 pc)∧w'.cell? ⟨bP,oP+r*3+1,none⟩=some (.int .i64 pv)∧w'.cell? ⟨bP,oP+r*3+2,none⟩=some (.slice Aq nq cq)∧w'.cell? ⟨bB,oB+r,none⟩=some (.slice Ab nb cb)) ?_;rw[←hw5];clear hw5 hw45 q0 q1 q2 b0 HF4 HF4d HI;refine zS 16 [(0,53),(1,54),(2,55),(3,56),(4,57),(5,58),(6,59),(7,60),(8,61),(9,62),(10,63),(11,64),(12,65),(13,66),(14,67),(15,68)] kS ?_;iterate 16 (apply zT;exact⟨rfl,rfl⟩;(·intro _ _;go_simp;try with_reducible rfl);simp only[kA];exact rfl)
  refine zN (zO 16 (fun K hK=>?_));go_simp;refine (gX pc pv lg _ _ pps bk _ (p:=p) (zP hp HF5.out.xt.size) HI5.out.1 HI5.out.2 HLG.out).mono ?_;rintro e w6 ⟨v6,rfl,hI6,hx6⟩;obtain⟨A6,n6,c6,rfl,-,-,hn6,HL6⟩:=hI6.open_;have HF6:=bx (HF5.out.xt.trans hx6);have kS6:w6.cell? ⟨w.heap.size,1,none⟩=some (.slice (some ⟨bP,oP,none⟩) nP cP)∧w6.cell? ⟨w.heap.size,2,none⟩=some (.slice (some ⟨bB,oB,none⟩) nB cB)∧w6.cell? ⟨gx,2,none⟩=some (.int .i64 (r:Int))∧w6.cell? ⟨w.heap.size+1,2,none⟩=some (.int .i64 lg)∧w6.cell? ⟨bP,oP+r*3,none⟩=some (.int .i64 pc)∧w6.cell? ⟨bP,oP+r*3+1,none⟩=some (.int .i64 pv)∧w6.cell? ⟨bP,oP+r*3+2,none⟩=some (.slice Aq nq cq)∧w6.cell? ⟨bB,oB+r,none⟩=some (.slice Ab nb cb):=⟨hx6.cell kS.1,hx6.cell kS.2.1,hx6.cell kS.2.2.1,hx6.cell kS.2.2.2.1,hx6.cell kS.2.2.2.2.1,hx6.cell kS.2.2.2.2.2.1,hx6.cell kS.2.2.2.2.2.2.1,hx6.cell kS.2.2.2.2.2.2.2⟩
  clear hx6 kS hI6 HI5 HF5;refine hK.out _ _ (fun _=>(kS6)) ?_;clear hK K;try simp only[kA]
  refine zO 17 (fun K hK=>?_);go_simp;refine hK.out _ _ (fun _=>(kS6)) ?_;clear hK K;try simp only[kA]
  by_cases hln:nC=n6
  ·have HE:=zZ (show da s ⟨lp,lc,lg,(r:Int)⟩ ch=ch.all bd by rw[HF1.out,decide_eq_true (by have:=HLC.out;have:=HL6.out;omega),yU]);subst hln;refine zS 3 [(18,71),(19,72),(20,73)] kS6 ?_;iterate 3 (apply zT;exact⟨rfl,rfl⟩;(·intro _ _;go_simp;try with_reducible rfl);simp only[kA];exact rfl)
   refine zN (zO 21 (fun K hK=>?_));go_simp;refine (lL _ ch _ (HR0.out.2.2.2.ext HF6.out)).mono ?_;rintro e w7 ⟨rfl,rfl⟩;refine hK.out _ _ (fun _=>(kS6)) ?_;clear hK K;try simp only[kA]
   refine zS 1 [(22,75)] kS6 ?_;(apply zT;exact⟨rfl,rfl⟩;(·intro _ _;go_simp;try with_reducible rfl);simp only[kA];exact rfl);refine zN (zO 23 (fun K hK=>?_));go_simp;refine hK.out _ _ (fun _=>(kS6)) ?_;clear hK K;try simp only[kA]
   refine zD ?_;go_wp2_with fail;go_ret
   exact⟨aa HE.out.symm,HF6.out⟩
  ·have HE:=zZ (show da s ⟨lp,lc,lg,(r:Int)⟩ ch=false by rw[HF1.out,decide_eq_false (by have:=HLC.out;have:=HL6.out;omega)];rfl);have hne:((nC:Int)==(n6:Int))=false:=beq_eq_false_iff_ne.2 (by omega);refine zS 2 [(18,71),(19,72)] kS6 ?_;iterate 2 (apply zT;exact⟨rfl,rfl⟩;(·intro _ _;go_simp;try with_reducible rfl);simp only[kA];exact rfl)
   refine zN (zS 2 [(20,73),(21,74)] kS6 ?_);iterate 2 (apply zK;exact⟨rfl,rfl⟩;simp only[kA];exact rfl)
   refine zN (zS 1 [(22,75)] kS6 ?_);(apply zT;exact⟨rfl,rfl⟩;(·intro _ _;go_simp;try with_reducible rfl);simp only[kA];exact rfl);refine zN (zO 23 (fun K hK=>?_));go_simp;refine hK.out _ _ (fun _=>(kS6)) ?_;clear hK K;try simp only[kA]
   refine zD ?_;go_wp2_with fail;go_ret
   exact⟨aa HE.out.symm,HF6.out⟩
def gq(l:List aF)(id:jd)(k:Nat)(a:Int):Prop:=(a=-1∧(l.take k).find? (ic id)=none)∨(∃(j:Nat) (c:aF),a=(j:Int)∧j<k∧l[j]?=some c∧(l.take k).find? (ic id)=some c)
def dy(l:List aF)(id:jd)(k:Nat)(d:Int):Prop:=(d=-1∧((l.take k).filter (lN id)).getLast?=none)∨(∃(j:Nat) (c:aF),d=(j:Int)∧j<k∧l[j]?=some c∧((l.take k).filter (lN id)).getLast?=some c)
section
variable {l:List aF} {id:jd} {k:Nat} {a d:Int} {c:aF}
theorem gq.zero(l:List aF)(id:jd):gq l id 0 (-1):=.inl ⟨rfl,by simp⟩
theorem dy.zero(l:List aF)(id:jd):dy l id 0 (-1):=.inl ⟨rfl,by simp⟩
theorem gq.no(h:gq l id k a)(hc:l[k]?=some c)(hs:ic id c=false):gq l id (k+1) a:=by
 unfold gq at *
 rw[ag hc,List.find?_append];rcases h with ⟨h1,h2⟩|⟨j,c',h1,h2,h3,h4⟩
 ·exact .inl ⟨h1,by rw[h2];simp[hs]⟩
 ·exact .inr ⟨j,c',h1,by omega,h3,by rw[h4];rfl⟩
theorem gq.old(h:gq l id k a)(hc:l[k]?=some c)(ha:0≤a):gq l id (k+1) a:=by
 unfold gq at *
 rw[ag hc,List.find?_append];rcases h with ⟨h1,h2⟩|⟨j,c',h1,h2,h3,h4⟩
 ·omega
 ·exact .inr ⟨j,c',h1,by omega,h3,by rw[h4];rfl⟩
theorem gq.new(h:gq l id k a)(hc:l[k]?=some c)(hs:ic id c=true)(ha:a<0):gq l id (k+1) (k:Int):=by
 unfold gq at *
 rw[ag hc,List.find?_append];rcases h with ⟨h1,h2⟩|⟨j,c',h1,h2,h3,h4⟩
 ·exact .inr ⟨k,c,rfl,by omega,hc,by rw[h2];simp[hs]⟩
 ·omega
theorem dy.no(h:dy l id k d)(hc:l[k]?=some c)(hs:lN id c=false):dy l id (k+1) d:=by
 unfold dy at *
 rw[ag hc,yJ,wW (by simp[hs]),List.filter_nil,xU];rcases h with ⟨h1,h2⟩|⟨j,c',h1,h2,h3,h4⟩
 ·exact .inl ⟨h1,h2⟩
 ·exact .inr ⟨j,c',h1,by omega,h3,h4⟩
theorem dy.put(hc:l[k]?=some c)(hs:lN id c=true):dy l id (k+1) (k:Int):=by unfold dy;rw[ag hc,yJ,wX hs,List.filter_nil];exact .inr ⟨k,c,rfl,by omega,hc,by simp⟩
theorem Dg(h1:gq l id l.length a)(h2:dy l id l.length d) :
  (a=-1∧cO l id=(cU.zero,4))∨(∃(j:Nat) (c:aF),a=(j:Int)∧l[j]?=some c ∧
   ((d=-1∧cO l id=(match ki c.str with|some x=>(x,0)|none=>(cU.zero,4))) ∨
    (∃(i:Nat) (e:aF),d=(i:Int)∧l[i]?=some e∧cO l id=if e.kind=3 then (cU.zero,6) else (e.lab,0)))):=by
 unfold gq at h1;unfold dy at h2;rw[List.take_length]at h1 h2;rcases h1 with ⟨rfl,h1⟩|⟨j,c,rfl,-,h3,h1⟩
 ·exact .inl ⟨rfl,by unfold cO;rw[h1];rfl⟩
 ·refine .inr ⟨j,c,rfl,h3,?_⟩;rcases h2 with ⟨rfl,h2⟩|⟨i,e,rfl,-,h4,h2⟩
  ·exact .inl ⟨rfl,by unfold cO;rw[h1,h2];rfl⟩
  ·exact .inr ⟨i,e,rfl,h4,by unfold cO;rw[h1,h2];rfl⟩
end
structure lG (w:World) (g o:Nat) (t s q k ct ts tq lp lc lg lv:Int) (str:List UInt8) (A:Option Addr) (n cc:Nat):Prop where
 c0:w.cell? ⟨g,o,none⟩=some (.int .i64 t)
 c1:w.cell? ⟨g,o+1,none⟩=some (.int .i64 s)
 c2:w.cell? ⟨g,o+2,none⟩=some (.int .i64 q)
 c3:w.cell? ⟨g,o+3,none⟩=some (.int .i64 k)
 c4:w.cell? ⟨g,o+4,none⟩=some (.string (ba str))
 c5:w.cell? ⟨g,o+5,none⟩=some (.int .i64 ct)
 c6:w.cell? ⟨g,o+6,none⟩=some (.slice A n cc)
 c7:w.cell? ⟨g,o+7,none⟩=some (.int .i64 ts)
 c8:w.cell? ⟨g,o+8,none⟩=some (.int .i64 tq)
 c9:w.cell? ⟨g,o+9,none⟩=some (.int .i64 lp)
 c10:w.cell? ⟨g,o+10,none⟩=some (.int .i64 lc)
 c11:w.cell? ⟨g,o+11,none⟩=some (.int .i64 lg)
 c12:w.cell? ⟨g,o+12,none⟩=some (.int .i64 lv)
theorem lG.ext{w w':World}{g o:Nat}{t s q k ct ts tq lp lc lg lv:Int}{str:List UInt8}{A:Option Addr}{n cc:Nat}(h:lG w g o t s q k ct ts tq lp lc lg lv str A n cc)(e:ab w w'):lG w' g o t s q k ct ts tq lp lc lg lv str A n cc :=
 ⟨e.cell h.c0,e.cell h.c1,e.cell h.c2,e.cell h.c3,e.cell h.c4,e.cell h.c5,e.cell h.c6,e.cell h.c7,e.cell h.c8,e.cell h.c9,e.cell h.c10,e.cell h.c11,e.cell h.c12⟩
theorem fE.read{b off n c k:Nat}{w wx:World}{l:List aF}(h:fE p w (.slice (some ⟨b,off,none⟩) n c) l)(hx:XT p w wx)(hk:k<n) :
  ∃(t s q kd ct ts tq lp lc lg lv:Int) (str:List UInt8) (ch:List Int) (A:Option Addr) (m cc:Nat),Hid (l[k]?=some ⟨⟨t,s,q⟩,kd,str,ct,ch,⟨ts,tq⟩,⟨lp,lc,lg,lv⟩⟩) ∧
   lG wx b (off+k*13) t s q kd ct ts tq lp lc lg lv str A m cc∧ao p wx (.slice A m cc) ch∧aF.wf ⟨⟨t,s,q⟩,kd,str,ct,ch,⟨ts,tq⟩,⟨lp,lc,lg,lv⟩⟩:=by
 obtain⟨cs,⟨⟨t,s,q⟩,kd,str,ct,ch,⟨ts,tq⟩,⟨lp,lc,lg,lv⟩⟩,-,hc,⟨u,rfl,hI,hw⟩,hx'⟩:=(h.xt (ly.stab p) hx).cell_ hk;obtain⟨A,m,cc,rfl,-⟩:=hI.open_;exact⟨t,s,q,kd,ct,ts,tq,lp,lc,lg,lv,str,ch,A,m,cc,hx',⟨hc 0 _ rfl,hc 1 _ rfl,hc 2 _ rfl,hc 3 _ rfl,hc 4 _ rfl,hc 5 _ rfl,hc 6 _ rfl,hc 7 _ rfl,hc 8 _ rfl,hc 9 _ rfl,hc 10 _ rfl,hc 11 _ rfl,hc 12 _ rfl⟩,hI,hw⟩
def G0(l:List aF)(id:jd)(w:World)(e:Ending)(w':World):Prop :=
 ∃lp lc lg lv st:Int,e=.returned (.tuple #[.agg #[.int .i64 lp,.int .i64 lc,.int .i64 lg,.int .i64 lv],.int .i64 st])∧cO l id=(⟨lp,lc,lg,lv⟩,st)∧ab w w'
def Hg:World→List Value→cU→Prop:=fun _ cs x=>cs=x.cells
def Hj:World→List Value→Bool→Prop:=fun _ cs b=>cs=[.bool b]
theorem Hg.stab(p:Nat):kc p Hg:=fun _ _ _ _ h _=>h
theorem Hj.stab(p:Nat):kc p Hj:=fun _ _ _ _ h _=>h
structure uU (rs:List ft) (i:Nat) (x:ft) (k:Nat) (m:Int):Prop where
 fine:∀(j:Nat) y,j<k→rs[j]?=some y→fv x y=true→it x y=false
 m12:m=1∨m=2
 two:m=2↔∃(j:Nat) (y:ft),j<k∧j<i∧rs[j]?=some y∧fv x y=true
section
variable {rs:List ft} {i k:Nat} {x y:ft} {m:Int}
theorem uU.zero(rs:List ft)(i:Nat)(x:ft):uU rs i x 0 1:=⟨fun j y hj=>by omega,.inl rfl,⟨fun h=>by omega,fun⟨j,y,hj,_⟩=>by omega⟩⟩
theorem uU.skip(h:uU rs i x k m)(hy:rs[k]?=some y)(hs:fv x y=false):uU rs i x (k+1) m:=by
 refine⟨fun j z hj hz h1=>?_,h.m12,h.two.trans ⟨fun⟨j,z,a,b,c,d⟩=>⟨j,z,by omega,b,c,d⟩,fun⟨j,z,a,b,c,d⟩=>?_⟩⟩
 ·rcases zV j k with e|e
  ·exact h.fine j z e hz h1
  ·obtain rfl:j=k:=by omega
   rw[hy]at hz;injection hz with hz;subst hz;rw[hs]at h1;cases h1
 ·rcases zV j k with e|e
  ·exact⟨j,z,e,b,c,d⟩
  ·obtain rfl:j=k:=by omega
   rw[hy]at c;injection c with c;subst c;rw[hs]at d;cases d
theorem uU.late(h:uU rs i x k m)(hy:rs[k]?=some y)(hd:it x y=false)(hk:¬k<i):uU rs i x (k+1) m:=by
 refine⟨fun j z hj hz h1=>?_,h.m12,h.two.trans ⟨fun⟨j,z,a,b,c,d⟩=>⟨j,z,by omega,b,c,d⟩,fun⟨j,z,a,b,c,d⟩=>⟨j,z,by omega,b,c,d⟩⟩⟩;rcases zV j k with e|e
 ·exact h.fine j z e hz h1
 ·obtain rfl:j=k:=by omega
  rw[hy]at hz;injection hz with hz;subst hz;exact hd
theorem uU.soon(h:uU rs i x k m)(hy:rs[k]?=some y)(hs:fv x y=true)(hd:it x y=false)(hk:k<i):uU rs i x (k+1) 2:=by
 refine⟨fun j z hj hz h1=>?_,.inr rfl,⟨fun _=>⟨k,y,by omega,hk,hy,hs⟩,fun _=>rfl⟩⟩;rcases zV j k with e|e
 ·exact h.fine j z e hz h1
 ·obtain rfl:j=k:=by omega
  rw[hy]at hz;injection hz with hz;subst hz;exact hd
theorem uU.end_(h:uU rs i x rs.length m):fi rs i x=m:=by
 unfold fi;have h0:¬(rs.any fun y=>fv x y&&it x y)=true:=by rw[xJ];rintro⟨z,hz,h1⟩;obtain⟨j,hj⟩:=yZ hz;simp only[yY]at h1;rw[h.fine j z (zY.1 hj).1 hj h1.1]at h1;cases h1.2
 have h2:(rs.take i).any (fv x)=true↔m=2:=by
  rw[h.two,xJ];constructor
  ·rintro⟨z,hz,h1⟩;obtain⟨j,hj⟩:=yZ hz;rw[yB]at hj;split at hj
   ·exact⟨j,z,(zY.1 hj).1,by assumption,hj,h1⟩
   ·cases hj
  ·rintro⟨j,z,_,hji,hz,h1⟩;exact⟨z,zU (i:=j) (by rw[yB,if_pos hji];exact hz),h1⟩
 rw[if_neg h0];rcases h.m12 with h3|h3
 ·rw[if_neg (fun e=>by have:=h2.1 e;omega),h3]
 ·rw[if_pos (h2.2 h3),h3]
theorem rt(hy:rs[k]?=some y)(hs:fv x y=true)(hd:it x y=true):fi rs i x=3:=by unfold fi;rw[if_pos];rw[xJ];exact⟨y,zU hy,by rw[hs,hd];rfl⟩
end
theorem sa(vC vL vF:Value)(rs:List ft)(i:Nat)(x:ft)(w:World)(hC:fE p w vC (rs.map ft.cap))(hL:bg p 4 Hg w vL (rs.map ft.lab))(hF:bg p 1 Hj w vF (rs.map ft.fit))(hx:rs[i]?=some x) :
  Calls prog 60 #[vC,vL,vF,.int .i64 (i:Int)] w fun e w'=>e=.returned (.int .i64 (fi rs i x))∧ab w w':=by
 obtain⟨A,n,c,rfl,hnc,hcc,hnn,HLC⟩:=hC.open_;obtain⟨AL,nL,cL,rfl,hncL,hccL,hnnL,HLL⟩:=hL.open_;obtain⟨AF,nF,cF,rfl,hncF,hccF,hnnF,HLF⟩:=hF.open_;have hl1:rs.length=n:=by have:=HLC.out;simpa using this
 obtain rfl:nL=n:=by have:=HLL.out;rw[zM]at this;omega
 obtain rfl:nF=nL:=by have:=HLF.out;rw[zM]at this;omega
 have hin:i<nF:=by have:=(zY.1 hx).1;omega
 have HRL:Bx (rs.length=nF):=⟨hl1⟩
 have HC:Bx (fE p w (.slice A nF c) (rs.map ft.cap)):=⟨hC⟩
 have HL:Bx (bg p 4 Hg w (.slice AL nF cL) (rs.map ft.lab)):=⟨hL⟩
 have HF:Bx (bg p 1 Hj w (.slice AF nF cF) (rs.map ft.fit)):=⟨hF⟩
 have HX:Bx (rs[i]?=some x):=⟨hx⟩
 obtain⟨b,off,_,_,rfl,-⟩:=hC.at_ hin;obtain⟨bL,oL,_,_,rfl,-⟩:=hL.at_ hin;obtain⟨bF,oF,_,_,rfl,-⟩:=hF.at_ hin;clear hC hL hF hx hl1 HLC HLL HLF;go_enter func60,ntmps60
 go_wp2_with fail;go_loopw [9,10] (fun s9 s10 wr=>∃(k:Nat) (m:Int),s10=.int .i64 k∧s9=.int .i64 m∧k≤nF∧Bx (uU rs i x k m∧ab w wr)) (fun _ k _=>nF-(intOf k).toNat)
 case atStart=>exact⟨0,1,rfl,rfl,by omega,⟨⟨uU.zero _ _ _,zE _⟩⟩⟩
 case round =>
  obtain⟨k,m,rfl,rfl,hk,HR⟩:=hrel;by_cases hkn:k<nF
  ·have HE:Bx (ab w wr.drew):=⟨HR.out.2.drew⟩
   have HJ:Bx (uU rs i x k m):=⟨HR.out.1⟩
   clear HR;obtain⟨y,hy⟩:∃y,rs[k]?=some y:=⟨rs[k]'(by have:=HRL.out;omega),zW _⟩
   have HY:Bx (rs[k]?=some y):=⟨hy⟩
   clear hy;obtain⟨csx,⟨xp,xc,xg,xv⟩,-,hcx,hrx,HXL⟩:=(HL.out.ext (Hg.stab p) HE.out).cell_ hin;obtain⟨csy,⟨yp,yc,yg,yv⟩,-,hcy,hry,HYL⟩:=(HL.out.ext (Hg.stab p) HE.out).cell_ hkn;obtain⟨csf,bf,-,hcf,hrf,HYF⟩:=(HF.out.ext (Hj.stab p) HE.out).cell_ hkn;have HXl:Bx (x.lab=⟨xp,xc,xg,xv⟩):=⟨by have:=HXL.out;rw[zL,HX.out]at this;injection this⟩
   have HYl:Bx (y.lab=⟨yp,yc,yg,yv⟩):=⟨by have:=HYL.out;rw[zL,HY.out]at this;injection this⟩
   have HYf:Bx (y.fit=bf):=⟨by have:=HYF.out;rw[zL,HY.out]at this;injection this⟩
   have x0:=hcx 0 (.int .i64 xp) (by rw[hrx];rfl);have x1:=hcx 1 (.int .i64 xc) (by rw[hrx];rfl);have x2:=hcx 2 (.int .i64 xg) (by rw[hrx];rfl);have x3:=hcx 3 (.int .i64 xv) (by rw[hrx];rfl);have y0:=hcy 0 (.int .i64 yp) (by rw[hry];rfl);have y1:=hcy 1 (.int .i64 yc) (by rw[hry];rfl);have y2:=hcy 2 (.int .i64 yg) (by rw[hry];rfl);have y3:=hcy 3 (.int .i64 yv) (by rw[hry];rfl);have f0:=hcf 0 (.bool bf) (by rw[hrf];rfl);rw[yP]at x0 y0;rw[yP,wY]at f0;clear hcx hcy hcf hrx hry hrf HXL HYL HYF;have kS:wr.drew.cell? ⟨bF,oF+k,none⟩=some (.bool bf)∧wr.drew.cell? ⟨bL,oL+i*4,none⟩=some (.int .i64 xp)∧wr.drew.cell? ⟨bL,oL+i*4+1,none⟩=some (.int .i64 xc)∧wr.drew.cell? ⟨bL,oL+i*4+2,none⟩=some (.int .i64 xg)∧wr.drew.cell? ⟨bL,oL+i*4+3,none⟩=some (.int .i64 xv)∧wr.drew.cell? ⟨bL,oL+k*4,none⟩=some (.int .i64 yp)∧wr.drew.cell? ⟨bL,oL+k*4+1,none⟩=some (.int .i64 yc)∧wr.drew.cell? ⟨bL,oL+k*4+2,none⟩=some (.int .i64 yg)∧wr.drew.cell? ⟨bL,oL+k*4+3,none⟩=some (.int .i64 yv):=⟨f0,x0,x1,x2,x3,y0,y1,y2,y3⟩
   clear f0 x0 x1 x2 x3 y0 y1 y2 y3;go_upto_region 5 with (fail)
   refine zR 99 (fun w'=>w'.cell? ⟨bF,oF+k,none⟩=some (.bool bf)∧w'.cell? ⟨bL,oL+i*4,none⟩=some (.int .i64 xp)∧w'.cell? ⟨bL,oL+i*4+1,none⟩=some (.int .i64 xc)∧w'.cell? ⟨bL,oL+i*4+2,none⟩=some (.int .i64 xg)∧w'.cell? ⟨bL,oL+i*4+3,none⟩=some (.int .i64 xv)∧w'.cell? ⟨bL,oL+k*4,none⟩=some (.int .i64 yp)∧w'.cell? ⟨bL,oL+k*4+1,none⟩=some (.int .i64 yc)∧w'.cell? ⟨bL,oL+k*4+2,none⟩=some (.int .i64 yg)∧w'.cell? ⟨bL,oL+k*4+3,none⟩=some (.int .i64 yv)) ?_;cases bf with
   |false =>
    refine zS 6 [(0,17),(1,18),(2,19),(3,20),(4,21),(5,22)] kS ?_;iterate 6 (apply zT;exact⟨rfl,rfl⟩;(·intro _ _;go_simp;try with_reducible rfl);simp only[kA];exact rfl)
    refine zN (zS 9 [(6,23),(7,24),(8,25),(9,26),(10,27),(11,28),(12,29),(13,30),(14,31)] kS ?_);iterate 9 (apply zK;exact⟨rfl,rfl⟩;simp only[kA];exact rfl)
    refine zN (zS 1 [(15,32)] kS ?_);(apply zT;exact⟨rfl,rfl⟩;(·intro _ _;go_simp;try with_reducible rfl);simp only[kA];exact rfl);refine zN (zD ?_);clear kS;go_wp2_with fail;go_roundw
    case rel=>exact⟨k+1,m,by go_num,rfl,by omega,⟨⟨HJ.out.skip HY.out (by unfold fv;rw[HYf.out];rfl),HE.out⟩⟩⟩
    case measure=>simp[intOf];omega
   |true =>
    have eL:∀W,(Op.equalIn 10000 73 (.agg #[.int .i64 yp,.int .i64 yc,.int .i64 yg,.int .i64 yv]) (.agg #[.int .i64 xp,.int .i64 xc,.int .i64 xg,.int .i64 xv])).run prog W=.ok (decide (yp=xp∧yc=xc∧yg=xg∧yv=xv)) W:=fun W=>lY _ _ _ _ _ _ _ _ W;have gL:=fZ;by_cases h1:yp=xp∧yc=xc∧yg=xg∧yv=xv
    ·rw[decide_eq_true h1]at eL;have HS:Bx (fv x y=true):=⟨by unfold fv;rw[HYf.out,HYl.out,HXl.out,h1.1,h1.2.1,h1.2.2.1,h1.2.2.2];simp⟩
     clear h1;refine zS 16 [(0,17),(1,18),(2,19),(3,20),(4,21),(5,22),(6,23),(7,24),(8,25),(9,26),(10,27),(11,28),(12,29),(13,30),(14,31),(15,32)] kS ?_;iterate 16 (apply zT;exact⟨rfl,rfl⟩;(·intro _ _;go_simp;try with_reducible rfl);simp only[kA];exact rfl)
     refine zN (zD ?_);clear kS eL gL;obtain⟨xt,xs,xq,xk,xct,xts,xtq,xlp,xlc,xlg,xlv,xstr,xch,xA,xn,xcc,HXc,hcx,hix,-⟩:=fE.read HC.out HE.out.drew.xt hin;obtain⟨yt,ys,yq,yk,yct,yts,ytq,ylp,ylc,ylg,ylv,ystr,ych,yA,yn,ycc,HYc,hcy,hiy,-⟩:=fE.read HC.out HE.out.drew.xt hkn;have HXf:Bx (x.cap.cont=xct∧x.cap.ch=xch):=⟨by have:=HXc.out;rw[zL,HX.out]at this;injection this with this;rw[this];exact⟨rfl,rfl⟩⟩
     have HYg:Bx (y.cap.cont=yct∧y.cap.ch=ych):=⟨by have:=HYc.out;rw[zL,HY.out]at this;injection this with this;rw[this];exact⟨rfl,rfl⟩⟩
     have kS:wr.drew.drew.cell? ⟨b,off+i*13+5,none⟩=some (.int .i64 xct)∧wr.drew.drew.cell? ⟨b,off+i*13+6,none⟩=some (.slice xA xn xcc)∧wr.drew.drew.cell? ⟨b,off+k*13+5,none⟩=some (.int .i64 yct)∧wr.drew.drew.cell? ⟨b,off+k*13+6,none⟩=some (.slice yA yn ycc):=⟨hcx.c5,hcx.c6,hcy.c5,hcy.c6⟩
     have HI:Bx (ao p wr.drew.drew (.slice yA yn ycc) ych∧ao p wr.drew.drew (.slice xA xn xcc) xch):=⟨⟨hiy,hix⟩⟩
     clear hcx hcy hix hiy HXc HYc;go_upto_region 6 with (fail)
     refine zR 99 (fun w'=>w'.cell? ⟨b,off+i*13+5,none⟩=some (.int .i64 xct)∧w'.cell? ⟨b,off+i*13+6,none⟩=some (.slice xA xn xcc)∧w'.cell? ⟨b,off+k*13+5,none⟩=some (.int .i64 yct)∧w'.cell? ⟨b,off+k*13+6,none⟩=some (.slice yA yn ycc)) ?_;by_cases h2:yct=xct
     ·have h2b:(yct != xct)=false:=by simp[h2]
      replace h2:=zZ h2;refine zS 22 [(0,33),(1,34),(2,35),(3,36),(4,37),(5,38),(6,39),(7,40),(8,41),(9,42),(10,43),(11,44),(12,45),(13,46),(14,47),(15,48),(16,49),(17,50),(18,51),(19,52),(20,53),(21,54)] kS ?_;iterate 22 (apply zT;exact⟨rfl,rfl⟩;(·intro _ _;go_simp;try with_reducible rfl);simp only[kA];exact rfl)
      refine zN (zO 22 (fun K hK=>?_));go_simp;refine (dH _ _ ych xch _ HI.out.1 HI.out.2).mono ?_;rintro e w3 ⟨rfl,hx3⟩;have HE3:Bx (ab w w3):=⟨HE.out.drew.trans hx3⟩
      have kS2:w3.cell? ⟨b,off+i*13+5,none⟩=some (.int .i64 xct)∧w3.cell? ⟨b,off+i*13+6,none⟩=some (.slice xA xn xcc)∧w3.cell? ⟨b,off+k*13+5,none⟩=some (.int .i64 yct)∧w3.cell? ⟨b,off+k*13+6,none⟩=some (.slice yA yn ycc):=⟨hx3.cell kS.1,hx3.cell kS.2.1,hx3.cell kS.2.2.1,hx3.cell kS.2.2.2⟩
      clear hx3 kS HE;cases h3:decide (ych=xch) with
      |true =>
       replace h3:=zZ h3;have HD:Bx (it x y=false):=⟨by unfold it;rw[HYg.out.1,HYg.out.2,HXf.out.1,HXf.out.2,h3.out,decide_eq_true h2.out];rfl⟩
       refine hK.out _ _ (fun _=>(kS2)) ?_;clear hK K;try simp only[kA]
       refine zS 2 [(23,56),(24,57)] kS2 ?_;iterate 2 (apply zT;exact⟨rfl,rfl⟩;(·intro _ _;go_simp;try with_reducible rfl);simp only[kA];exact rfl)
       refine zN (zD ?_);clear kS2 h2b;by_cases hki:k<i
       ·go_wp2_with fail;go_roundw
        case rel=>exact⟨k+1,2,by go_num,rfl,by omega,⟨⟨HJ.out.soon HY.out HS.out HD.out hki,HE3.out⟩⟩⟩
        case measure=>simp[intOf];omega
       ·go_wp2_with fail;go_roundw
        case rel=>exact⟨k+1,m,by go_num,rfl,by omega,⟨⟨HJ.out.late HY.out HD.out hki,HE3.out⟩⟩⟩
        case measure=>simp[intOf];omega
      |false =>
       replace h3:=zZ h3;have HD:Bx (it x y=true):=⟨by unfold it;rw[HYg.out.1,HYg.out.2,HXf.out.1,HXf.out.2,h3.out,decide_eq_true h2.out];rfl⟩
       have HB:=zZ (rt (i:=i) HY.out HS.out HD.out);refine hK.out _ _ (fun _=>(kS2)) ?_;clear hK K;try simp only[kA]
       refine zS 2 [(23,56),(24,57)] kS2 ?_;iterate 2 (apply zT;exact⟨rfl,rfl⟩;(·intro _ _;go_simp;try with_reducible rfl);simp only[kA];exact rfl)
       refine zN (zD ?_);clear kS2 h2b;go_wp2_with fail;go_ret
       exact⟨ah HB.out.symm,HE3.out⟩
     ·have h2b:(yct != xct)=true:=by simp[h2]
      have HD:Bx (it x y=true):=⟨by unfold it;rw[HYg.out.1,HXf.out.1,decide_eq_false h2];rfl⟩
      have HB:=zZ (rt (i:=i) HY.out HS.out HD.out);replace h2:=zZ h2;refine zS 12 [(0,33),(1,34),(2,35),(3,36),(4,37),(5,38),(6,39),(7,40),(8,41),(9,42),(10,43),(11,44)] kS ?_;iterate 12 (apply zT;exact⟨rfl,rfl⟩;(·intro _ _;go_simp;try with_reducible rfl);simp only[kA];exact rfl)
      refine zN (zS 12 [(12,45),(13,46),(14,47),(15,48),(16,49),(17,50),(18,51),(19,52),(20,53),(21,54),(22,55),(23,56)] kS ?_);iterate 12 (apply zK;exact⟨rfl,rfl⟩;simp only[kA];exact rfl)
      refine zN (zS 1 [(24,57)] kS ?_);(apply zT;exact⟨rfl,rfl⟩;(·intro _ _;go_simp;try with_reducible rfl);simp only[kA];exact rfl);refine zN (zD ?_);clear kS h2b;go_wp2_with fail;go_ret
      exact⟨ah HB.out.symm,HE.out.drew⟩
    ·rw[decide_eq_false h1]at eL;have HS:Bx (fv x y=false):=⟨by unfold fv;rw[HYf.out,HYl.out,HXl.out];simp[h1]⟩
     clear h1;refine zS 16 [(0,17),(1,18),(2,19),(3,20),(4,21),(5,22),(6,23),(7,24),(8,25),(9,26),(10,27),(11,28),(12,29),(13,30),(14,31),(15,32)] kS ?_;iterate 16 (apply zT;exact⟨rfl,rfl⟩;(·intro _ _;go_simp;try with_reducible rfl);simp only[kA];exact rfl)
     refine zN (zD ?_);clear kS eL gL;go_wp2_with fail;go_roundw
     case rel=>exact⟨k+1,m,by go_num,rfl,by omega,⟨⟨HJ.out.skip HY.out HS.out,HE.out⟩⟩⟩
     case measure=>simp[intOf];omega
  ·obtain rfl:k=nF:=by omega
   have HB:Bx (fi rs i x=m):=⟨uU.end_ (by rw[HRL.out];exact HR.out.1)⟩
   go_wp2_with fail;go_ret
   exact⟨ah HB.out.symm,HR.out.2⟩
end Go.Proofs.YtjgfgdcaocbfhaaGreat

