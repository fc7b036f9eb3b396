import Derived.Test.YtjgfgdcaocbfhaaGreatRefF
set_option linter.all false
set_option maxRecDepth 100000
set_option maxHeartbeats 0
namespace Go.Proofs.YtjgfgdcaocbfhaaGreat
open Go.Value renaming int→B,slice→D
open Go.IntKind renaming i64→C
open Go.RowKit _root_.Go.Proofs.Tryz
variable {ch:List Int} {n p:Nat}
theorem pL{s:aZ}{lab:cU}{x:dF}{q:gE}{b:List (List Int)}(hx:aJ s.xp lab.c=some x)(hq:s.pap[lab.v.toNat]?=some q)(hb:s.bk[lab.v.toNat]?=some b) :
  be s lab ch=(decide (lab.p=s.num)&&(decide (x.var=lab.v)&&(decide (0≤lab.g∧lab.g<(b.length:Int))&&(decide (ch.length=(aA q.code q.var q.ps b lab.g).length)&&ch.all bd)))):=by
 unfold be;rw[hx,hq,hb]
theorem qM{s:aZ}{lab:cU}(h:lab.p≠s.num):be s lab ch=false:=by
 cases e:be s lab ch with
 |false=>rfl
 |true=>obtain⟨x,q,bk,_,h2,_⟩:=jS.1 e;exact absurd h2 h
theorem oU{s:aZ}{lab:cU}(h:aJ s.xp lab.c=none):be s lab ch=false:=by unfold be;rw[h]
theorem rm{s:aZ}{lab:cU}{x:dF}(hx:aJ s.xp lab.c=some x)(h:x.var≠lab.v):be s lab ch=false:=by
 cases e:be s lab ch with
 |false=>rfl
 |true =>
  obtain⟨x',q,bk,h1,_,h3,_⟩:=jS.1 e;rw[hx]at h1;injection h1 with h1;subst h1;exact absurd h3 h
theorem eb(v vc:Value)(s:aZ)(lp lc lg lv:Int)(ch:List Int)(w:World){q:Nat}(hp:p<w.heap.size)(hs:aN p w v s)(hc:ao q w vc ch)(hl:cU.wf ⟨lp,lc,lg,lv⟩) :
  Calls prog 59 #[v,.agg #[B C lp,B C lc,B C lg,B C lv],vc] w fun e w'=>e=.returned (.bool (da s ⟨lp,lc,lg,lv⟩ ch))∧ab w w':=by
 have hs0:=hs;obtain⟨vP,vB,vX,rfl,hP,hB,hX,hnum⟩:=hs;obtain⟨AP,nP,cP,rfl,hnP,hcP,hmP,HLP⟩:=hP.open_;obtain⟨AB,nB,cB,rfl,hnB,hcB,hmB,HLB⟩:=hB.open_;obtain⟨AX,nX,cX,rfl,-⟩:=hX.open_;obtain⟨AC,nC,cC,rfl,hnC,hcC,hmC,HLC⟩:=hc.open_;have HR0:Bx (hY p w (D AP nP cP) s.pap∧gm p w (D AB nB cB) s.bk∧aN p w (.agg #[B C s.num,D AP nP cP,D AB nB cB,D AX nX cX]) s∧ao q w (D AC nC cC) ch):=⟨⟨hP,hB,hs0,hc⟩⟩
 have HLG:Bx (aC lg):=⟨hl.2.2.1⟩
 obtain⟨hl1,hl2⟩:=hl.2.2.1;clear hP hB hX hs0 hc hnum hl;obtain⟨w1,hw1⟩:=nm (((w.alloc (.cells #[B C s.num,D AP nP cP,D AB nB cB,D AX nX cX] 27)).alloc (.cells #[B C lp,B C lc,B C lg,B C lv] 73)):World);have HF:Bx (ae w w1 [(w.heap.size,#[B C s.num,D AP nP cP,D AB nB cB,D AX nX cX],27),(w.heap.size+1,#[B C lp,B C lc,B C lg,B C lv],73)]):=⟨by rw[hw1];exact ((ae.start w).push _ _ rfl).push _ _ (by simp)⟩
 obtain⟨z0,z1,z2,z3⟩:=(HF.out.at_ 0 rfl).p4 rfl;go_enter func59,ntmps59
 go_upto_region 1 with (fail)
 rw[←hw1];clear hw1;go_wp2_with fail;refine (kH _ s _ (HR0.out.2.2.1.ext HF.out.xt)).mono ?_;rintro e w2 ⟨rfl,hx2⟩;have HF2:=bx (HF.out.ext hx2);clear HF hx2 z0 z1 z2 z3;obtain⟨z0,z1,z2,z3⟩:=(HF2.out.at_ 0 rfl).p4 rfl;obtain⟨l0,l1,l2,l3⟩:=(HF2.out.at_ 1 rfl).p4 rfl;by_cases hck:aw s=0;case neg =>
  have HE:=zZ (show da s ⟨lp,lc,lg,lv⟩ ch=false by unfold da;rw[decide_eq_false hck];rfl);have hcb:(aw s != 0)=true:=by simp[hck]
  replace hck:=zZ hck;go_wp2_with fail;go_ret
  exact⟨aa HE.out.symm,HF2.out.xt⟩
 have HFI:=zZ (show da s ⟨lp,lc,lg,lv⟩ ch=be s ⟨lp,lc,lg,lv⟩ ch by unfold da;rw[decide_eq_true hck];rfl);have HOK:Bx (cD s):=⟨eV.1 hck⟩
 rw[hck];clear hck;by_cases hpn:lp=s.num;case neg =>
  have HE:=zZ (show da s ⟨lp,lc,lg,lv⟩ ch=false by rw[HFI.out];exact qM hpn);have hcb:(lp != s.num)=true:=by simp[hpn]
  replace hpn:=zZ hpn;go_wp2_with fail;go_ret
  exact⟨aa HE.out.symm,HF2.out.xt⟩
 have hcb:(lp != s.num)=false:=by simp[hpn]
 have HPN:=zZ hpn;clear hpn;go_wp2_with fail;refine (jM _ s lc _ (HR0.out.2.2.1.ext HF2.out.xt)).mono ?_;rintro e w3 ⟨⟨xc,xe,xv,rfl,hfd0⟩,hx3⟩;have HFD:=zZ hfd0;clear hfd0;have HF3':Bx (ae w w3 [(w.heap.size,#[B C s.num,D AP nP cP,D AB nB cB,D AX nX cX],27),(w.heap.size+1,#[B C lp,B C lc,B C lg,B C lv],73)]):=⟨HF2.out.ext hx3⟩
 obtain⟨w4,hw4⟩:=nm ((w3.alloc (.cells #[B C xc,B C xe,B C xv] 83)):World);obtain⟨gx,hgx⟩:=nm w3.heap.size;have HF4:Bx (ae w w4 [(w.heap.size,#[B C s.num,D AP nP cP,D AB nB cB,D AX nX cX],27),(w.heap.size+1,#[B C lp,B C lc,B C lg,B C lv],73),(gx,#[B C xc,B C xe,B C xv],83)]):=⟨by rw[hw4,hgx];exact HF3'.out.new _ _⟩
 clear HF2 hx3 z0 z1 z2 z3 l0 l1 l2 l3 hcb;go_upto_region 4 with (fail)
 rw[←hw4,←hgx];clear hw4 hgx HF3';cases hF:aJ s.xp lc with
 |none =>
  have HE:=zZ (show da s ⟨lp,lc,lg,lv⟩ ch=false by rw[HFI.out];exact oU hF);have kS:True:=trivial;clear hF;refine zR 99 (fun _=>True) ?_;refine zS 3 [(0,26),(1,27),(2,28)] kS ?_;iterate 3 (apply zT;exact⟨rfl,rfl⟩;(·intro _ _;go_simp;try with_reducible rfl);simp only[kA];exact rfl)
  refine zN (zS 5 [(3,29),(4,30),(5,31),(6,32),(7,33)] kS ?_);iterate 5 (apply zK;exact⟨rfl,rfl⟩;simp only[kA];exact rfl)
  refine zN (zS 2 [(8,34),(9,35)] kS ?_);iterate 2 (apply zT;exact⟨rfl,rfl⟩;(·intro _ _;go_simp;try with_reducible rfl);simp only[kA];exact rfl)
  refine zN (zS 3 [(10,36),(11,37),(12,38)] kS ?_);iterate 3 (apply zK;exact⟨rfl,rfl⟩;simp only[kA];exact rfl)
  refine zN (zS 2 [(13,39),(14,40)] kS ?_);iterate 2 (apply zT;exact⟨rfl,rfl⟩;(·intro _ _;go_simp;try with_reducible rfl);simp only[kA];exact rfl)
  refine zN (zS 11 [(15,41),(16,42),(17,43),(18,44),(19,45),(20,46),(21,47),(22,48),(23,49),(24,50),(25,51)] kS ?_);iterate 11 (apply zK;exact⟨rfl,rfl⟩;simp only[kA];exact rfl)
  refine zN (zS 1 [(26,52)] kS ?_);(apply zT;exact⟨rfl,rfl⟩;(·intro _ _;go_simp;try with_reducible rfl);simp only[kA];exact rfl);refine zN (zD ?_);go_wp2_with fail;go_ret
  exact⟨aa HE.out.symm,HF4.out.drew.xt⟩
 |some x0 =>
  have hfd:=HFD.out;rw[hF]at hfd;obtain rfl:x0=⟨xc,xe,xv⟩:=hfd;have HX:=zZ hF;clear hF HFD;have hxm:=(bh HX.out).1;have hxb:=fw HOK.out hxm;simp only at hxb;obtain⟨xb1,xb2,xb3,xb4,xb5,xb6⟩:=hxb;obtain⟨pq,bk,hpq,hbk,-,-,-,-⟩:=gQ HOK.out xb3 xb4;have hbks:=HOK.out.bks;obtain⟨r,rfl⟩:=zG xb3;rw[yR]at hpq hbk;have hrP:r<nP:=by have:=HLP.out;omega
  have hrB:r<nB:=by have:=HLB.out;omega
  obtain⟨bP,oP,_,_,rfl,-⟩:=HR0.out.1.at_ hrP;obtain⟨bB,oB,_,_,rfl,-⟩:=HR0.out.2.1.at_ hrB;obtain⟨Ab,nb,cb,b0,hIB,HNB⟩:=dQ HR0.out.2.1 hbk HF4.out.xt.xt;obtain⟨Aq,nq,cq,q0,q1,q2,hIQ,hq1,hq2⟩:=gj HR0.out.1 hpq HF4.out.xt.xt;obtain⟨pc,pv,pps⟩:=pq;simp only at q0 q1 q2 hIQ hq1 hq2;have HPQ:Bx (s.pap[r]?=some ⟨pc,pv,pps⟩∧s.bk[r]?=some bk):=⟨⟨hpq,hbk⟩⟩
  have HI:Bx (kr p w4 (D Aq nq cq) pps∧kL p w4 (D Ab nb cb) bk):=⟨⟨hIQ,hIB⟩⟩
  clear hxm hpq hbk hbks hIQ hIB hq1 hq2;by_cases hv:(r:Int)=lv;case neg =>
   have HE:=zZ (show da s ⟨lp,lc,lg,lv⟩ ch=false by rw[HFI.out];exact rm HX.out hv);have kS:w4.drew.cell? ⟨gx,2,none⟩=some (B C (r:Int))∧w4.drew.cell? ⟨w.heap.size+1,3,none⟩=some (B C lv):=⟨(HF4.out.drew.at_ 2 rfl).c 2 rfl,(HF4.out.drew.at_ 1 rfl).c 3 rfl⟩
   have hvb:((r:Int)!=lv)=true:=by simp[hv]
   have hvc:((r:Int)==lv)=false:=beq_eq_false_iff_ne.2 hv;replace hv:=zZ hv;refine zR 99 (fun w'=>w'.cell? ⟨gx,2,none⟩=some (B C (r:Int))∧w'.cell? ⟨w.heap.size+1,3,none⟩=some (B C lv)) ?_;refine zS 10 [(0,26),(1,27),(2,28),(3,29),(4,30),(5,31),(6,32),(7,33),(8,34),(9,35)] kS ?_;iterate 10 (apply zT;exact⟨rfl,rfl⟩;(·intro _ _;go_simp;try with_reducible rfl);simp only[kA];exact rfl)
   refine zN (zS 3 [(10,36),(11,37),(12,38)] kS ?_);iterate 3 (apply zK;exact⟨rfl,rfl⟩;simp only[kA];exact rfl)
   refine zN (zS 2 [(13,39),(14,40)] kS ?_);iterate 2 (apply zT;exact⟨rfl,rfl⟩;(·intro _ _;go_simp;try with_reducible rfl);simp only[kA];exact rfl)
   refine zN (zS 11 [(15,41),(16,42),(17,43),(18,44),(19,45),(20,46),(21,47),(22,48),(23,49),(24,50),(25,51)] kS ?_);iterate 11 (apply zK;exact⟨rfl,rfl⟩;simp only[kA];exact rfl)
   refine zN (zS 1 [(26,52)] kS ?_);(apply zT;exact⟨rfl,rfl⟩;(·intro _ _;go_simp;try with_reducible rfl);simp only[kA];exact rfl);refine zN (zD ?_);go_wp2_with fail;go_ret
   exact⟨aa HE.out.symm,HF4.out.drew.xt⟩
  subst hv;have HF0:=zZ (show da s ⟨lp,lc,lg,(r:Int)⟩ ch=(decide (0≤lg∧lg<(bk.length:Int))&&(decide (ch.length=(aA pc pv pps bk lg).length)&&ch.all bd)) by rw[HFI.out,pL HX.out (by simp only[yR];exact HPQ.out.1) (by simp only[yR];exact HPQ.out.2),HPN.out,decide_eq_true rfl,decide_eq_true rfl,yU,yU])
  have kS:w4.drew.cell? ⟨gx,2,none⟩=some (B C (r:Int))∧w4.drew.cell? ⟨w.heap.size+1,3,none⟩=some (B C (r:Int))∧w4.drew.cell? ⟨w.heap.size+1,2,none⟩=some (B C lg)∧w4.drew.cell? ⟨w.heap.size,2,none⟩=some (D (some ⟨bB,oB,none⟩) nB cB)∧w4.drew.cell? ⟨bB,oB+r,none⟩=some (D Ab nb cb) :=
   ⟨(HF4.out.drew.at_ 2 rfl).c 2 rfl,(HF4.out.drew.at_ 1 rfl).c 3 rfl,(HF4.out.drew.at_ 1 rfl).c 2 rfl,(HF4.out.drew.at_ 0 rfl).c 2 rfl,b0⟩
  by_cases hg0:lg<0
  ·have HE:=zZ (show da s ⟨lp,lc,lg,(r:Int)⟩ ch=false by rw[HF0.out,decide_eq_false (by omega)];rfl);refine zR 99 (fun w'=>w'.cell? ⟨gx,2,none⟩=some (B C (r:Int))∧w'.cell? ⟨w.heap.size+1,3,none⟩=some (B C (r:Int))∧w'.cell? ⟨w.heap.size+1,2,none⟩=some (B C lg)∧w'.cell? ⟨w.heap.size,2,none⟩=some (D (some ⟨bB,oB,none⟩) nB cB)∧w'.cell? ⟨bB,oB+r,none⟩=some (D Ab nb cb)) ?_;refine zS 15 [(0,26),(1,27),(2,28),(3,29),(4,30),(5,31),(6,32),(7,33),(8,34),(9,35),(10,36),(11,37),(12,38),(13,39),(14,40)] kS ?_;iterate 15 (apply zT;exact⟨rfl,rfl⟩;(·intro _ _;go_simp;try with_reducible rfl);simp only[kA];exact rfl)
   refine zN (zS 11 [(15,41),(16,42),(17,43),(18,44),(19,45),(20,46),(21,47),(22,48),(23,49),(24,50),(25,51)] kS ?_);iterate 11 (apply zK;exact⟨rfl,rfl⟩;simp only[kA];exact rfl)
   refine zN (zS 1 [(26,52)] kS ?_);(apply zT;exact⟨rfl,rfl⟩;(·intro _ _;go_simp;try with_reducible rfl);simp only[kA];exact rfl);refine zN (zD ?_);go_wp2_with fail;go_ret
   exact⟨aa HE.out.symm,HF4.out.drew.xt⟩
  have hg1:0≤lg:=by omega
  have hgd:decide (lg<0)=false:=decide_eq_false hg0;refine zR 99 (fun w'=>w'.cell? ⟨gx,2,none⟩=some (B C (r:Int))∧w'.cell? ⟨w.heap.size+1,3,none⟩=some (B C (r:Int))∧w'.cell? ⟨w.heap.size+1,2,none⟩=some (B C lg)∧w'.cell? ⟨w.heap.size,2,none⟩=some (D (some ⟨bB,oB,none⟩) nB cB)∧w'.cell? ⟨bB,oB+r,none⟩=some (D Ab nb cb)) ?_;refine zS 27 [(0,26),(1,27),(2,28),(3,29),(4,30),(5,31),(6,32),(7,33),(8,34),(9,35),(10,36),(11,37),(12,38),(13,39),(14,40),(15,41),(16,42),(17,43),(18,44),(19,45),(20,46),(21,47),(22,48),(23,49),(24,50),(25,51),(26,52)] kS ?_;iterate 27 (apply zT;exact⟨rfl,rfl⟩;(·intro _ _;go_simp;try with_reducible rfl);simp only[kA];exact rfl)
  refine zN (zD ?_);clear kS;by_cases hgn:lg<(nb:Int)
  case neg =>
   have HE:=zZ (show da s ⟨lp,lc,lg,(r:Int)⟩ ch=false by rw[HF0.out,decide_eq_false (by have:=HNB.out;omega)];rfl);go_wp2_with fail;go_ret
   exact⟨aa HE.out.symm,HF4.out.drew.xt⟩
  have HF1:=zZ (show da s ⟨lp,lc,lg,(r:Int)⟩ ch=(decide (ch.length=(aA pc pv pps bk lg).length)&&ch.all bd) by rw[HF0.out,decide_eq_true (by have:=HNB.out;omega),yU]);go_upto_region 6 with (fail)
  have HF4d:Bx (ae w w4.drew [(w.heap.size,#[B C s.num,D (some ⟨bP,oP,none⟩) nP cP,D (some ⟨bB,oB,none⟩) nB cB,D AX nX cX],27),(w.heap.size+1,#[B C lp,B C lc,B C lg,B C (r:Int)],73),(gx,#[B C xc,B C xe,B C (r:Int)],83)]):=⟨HF4.out.drew⟩
  obtain⟨w5,hw5⟩:=nm (w4.drew.drew:World);have hw45:ab w4 w5:=by rw[hw5];exact ((zE _).drew).drew
  have HF5:=bx (HF4.out.ext hw45);have kS:w5.cell? ⟨w.heap.size,1,none⟩=some (D (some ⟨bP,oP,none⟩) nP cP)∧w5.cell? ⟨w.heap.size,2,none⟩=some (D (some ⟨bB,oB,none⟩) nB cB)∧w5.cell? ⟨gx,2,none⟩=some (B C (r:Int))∧w5.cell? ⟨w.heap.size+1,2,none⟩=some (B C lg)∧w5.cell? ⟨bP,oP+r*3,none⟩=some (B C pc)∧w5.cell? ⟨bP,oP+r*3+1,none⟩=some (B C pv)∧w5.cell? ⟨bP,oP+r*3+2,none⟩=some (D Aq nq cq)∧w5.cell? ⟨bB,oB+r,none⟩=some (D Ab nb cb):=⟨(HF5.out.at_ 0 rfl).c 1 rfl,(HF5.out.at_ 0 rfl).c 2 rfl,(HF5.out.at_ 2 rfl).c 2 rfl,(HF5.out.at_ 1 rfl).c 2 rfl,hw45.cell q0,hw45.cell q1,hw45.cell q2,hw45.cell b0⟩
  have HI5:Bx (kr p w5 (D Aq nq cq) pps∧kL p w5 (D Ab nb cb) bk):=⟨HI.out.1.ext (aI.stab p) hw45,HI.out.2.ext (RI.stab p) hw45⟩
  refine zR 99 (fun w'=>w'.cell? ⟨w.heap.size,1,none⟩=some (D (some ⟨bP,oP,none⟩) nP cP)∧w'.cell? ⟨w.heap.size,2,none⟩=some (D (some ⟨bB,oB,none⟩) nB cB)∧w'.cell? ⟨gx,2,none⟩=some (B C (r:Int))∧w'.cell? ⟨w.heap.size+1,2,none⟩=some (B C lg)∧w'.cell? ⟨bP,oP+r*3,none⟩=some (B C pc)∧w'.cell? ⟨bP,oP+r*3+1,none⟩=some (B C pv)∧w'.cell? ⟨bP,oP+r*3+2,none⟩=some (D Aq nq cq)∧w'.cell? ⟨bB,oB+r,none⟩=some (D Ab nb cb)) ?_;rw[←hw5];clear hw5 hw45 q0 q1 q2 b0 HF4 HF4d HI;refine zS 16 [(0,53),(1,54),(2,55),(3,56),(4,57),(5,58),(6,59),(7,60),(8,61),(9,62),(10,63),(11,64),(12,65),(13,66),(14,67),(15,68)] kS ?_;iterate 16 (apply zT;exact⟨rfl,rfl⟩;(·intro _ _;go_simp;try with_reducible rfl);simp only[kA];exact rfl)
  refine zN (zO 16 (fun K hK=>?_));go_simp;refine (gX pc pv lg _ _ pps bk _ (p:=p) (zP hp HF5.out.xt.size) HI5.out.1 HI5.out.2 HLG.out).mono ?_;rintro e w6 ⟨v6,rfl,hI6,hx6⟩;obtain⟨A6,n6,c6,rfl,-,-,hn6,HL6⟩:=hI6.open_;have HF6:=bx (HF5.out.xt.trans hx6);have kS6:w6.cell? ⟨w.heap.size,1,none⟩=some (D (some ⟨bP,oP,none⟩) nP cP)∧w6.cell? ⟨w.heap.size,2,none⟩=some (D (some ⟨bB,oB,none⟩) nB cB)∧w6.cell? ⟨gx,2,none⟩=some (B C (r:Int))∧w6.cell? ⟨w.heap.size+1,2,none⟩=some (B C lg)∧w6.cell? ⟨bP,oP+r*3,none⟩=some (B C pc)∧w6.cell? ⟨bP,oP+r*3+1,none⟩=some (B C pv)∧w6.cell? ⟨bP,oP+r*3+2,none⟩=some (D Aq nq cq)∧w6.cell? ⟨bB,oB+r,none⟩=some (D Ab nb cb):=⟨hx6.cell kS.1,hx6.cell kS.2.1,hx6.cell kS.2.2.1,hx6.cell kS.2.2.2.1,hx6.cell kS.2.2.2.2.1,hx6.cell kS.2.2.2.2.2.1,hx6.cell kS.2.2.2.2.2.2.1,hx6.cell kS.2.2.2.2.2.2.2⟩
  clear hx6 kS hI6 HI5 HF5;refine hK.out _ _ (fun _=>(kS6)) ?_;clear hK K;try simp only[kA]
  refine zO 17 (fun K hK=>?_);go_simp;refine hK.out _ _ (fun _=>(kS6)) ?_;clear hK K;try simp only[kA]
  by_cases hln:nC=n6
  ·have HE:=zZ (show da s ⟨lp,lc,lg,(r:Int)⟩ ch=ch.all bd by rw[HF1.out,decide_eq_true (by have:=HLC.out;have:=HL6.out;omega),yU]);subst hln;refine zS 3 [(18,71),(19,72),(20,73)] kS6 ?_;iterate 3 (apply zT;exact⟨rfl,rfl⟩;(·intro _ _;go_simp;try with_reducible rfl);simp only[kA];exact rfl)
   refine zN (zO 21 (fun K hK=>?_));go_simp;refine (lL _ ch _ (HR0.out.2.2.2.ext HF6.out)).mono ?_;rintro e w7 ⟨rfl,rfl⟩;refine hK.out _ _ (fun _=>(kS6)) ?_;clear hK K;try simp only[kA]
   refine zS 1 [(22,75)] kS6 ?_;(apply zT;exact⟨rfl,rfl⟩;(·intro _ _;go_simp;try with_reducible rfl);simp only[kA];exact rfl);refine zN (zO 23 (fun K hK=>?_));go_simp;refine hK.out _ _ (fun _=>(kS6)) ?_;clear hK K;try simp only[kA]
   refine zD ?_;go_wp2_with fail;go_ret
   exact⟨aa HE.out.symm,HF6.out⟩
  ·have HE:=zZ (show da s ⟨lp,lc,lg,(r:Int)⟩ ch=false by rw[HF1.out,decide_eq_false (by have:=HLC.out;have:=HL6.out;omega)];rfl);have hne:((nC:Int)==(n6:Int))=false:=beq_eq_false_iff_ne.2 (by omega);refine zS 2 [(18,71),(19,72)] kS6 ?_;iterate 2 (apply zT;exact⟨rfl,rfl⟩;(·intro _ _;go_simp;try with_reducible rfl);simp only[kA];exact rfl)
   refine zN (zS 2 [(20,73),(21,74)] kS6 ?_);iterate 2 (apply zK;exact⟨rfl,rfl⟩;simp only[kA];exact rfl)
   refine zN (zS 1 [(22,75)] kS6 ?_);(apply zT;exact⟨rfl,rfl⟩;(·intro _ _;go_simp;try with_reducible rfl);simp only[kA];exact rfl);refine zN (zO 23 (fun K hK=>?_));go_simp;refine hK.out _ _ (fun _=>(kS6)) ?_;clear hK K;try simp only[kA]
   refine zD ?_;go_wp2_with fail;go_ret
   exact⟨aa HE.out.symm,HF6.out⟩
def gq(l:List aF)(id:jd)(k:Nat)(a:Int):Prop:=(a=-1∧(l.take k).find? (ic id)=none)∨(∃(j:Nat) (c:aF),a=(j:Int)∧j<k∧l[j]?=some c∧(l.take k).find? (ic id)=some c)
def dy(l:List aF)(id:jd)(k:Nat)(d:Int):Prop:=(d=-1∧((l.take k).filter (lN id)).getLast?=none)∨(∃(j:Nat) (c:aF),d=(j:Int)∧j<k∧l[j]?=some c∧((l.take k).filter (lN id)).getLast?=some c)
section
variable {l:List aF} {id:jd} {k:Nat} {a d:Int} {c:aF}
theorem gq.zero(l:List aF)(id:jd):gq l id 0 (-1):=.inl ⟨rfl,by simp⟩
theorem dy.zero(l:List aF)(id:jd):dy l id 0 (-1):=.inl ⟨rfl,by simp⟩
theorem gq.no(h:gq l id k a)(hc:l[k]?=some c)(hs:ic id c=false):gq l id (k+1) a:=by
 unfold gq at *
 rw[ag hc,List.find?_append];rcases h with ⟨h1,h2⟩|⟨j,c',h1,h2,h3,h4⟩
 ·exact .inl ⟨h1,by rw[h2];simp[hs]⟩
 ·exact .inr ⟨j,c',h1,by omega,h3,by rw[h4];rfl⟩
theorem gq.old(h:gq l id k a)(hc:l[k]?=some c)(ha:0≤a):gq l id (k+1) a:=by
 unfold gq at *
 rw[ag hc,List.find?_append];rcases h with ⟨h1,h2⟩|⟨j,c',h1,h2,h3,h4⟩
 ·omega
 ·exact .inr ⟨j,c',h1,by omega,h3,by rw[h4];rfl⟩
theorem gq.new(h:gq l id k a)(hc:l[k]?=some c)(hs:ic id c=true)(ha:a<0):gq l id (k+1) (k:Int):=by
 unfold gq at *
 rw[ag hc,List.find?_append];rcases h with ⟨h1,h2⟩|⟨j,c',h1,h2,h3,h4⟩
 ·exact .inr ⟨k,c,rfl,by omega,hc,by rw[h2];simp[hs]⟩
 ·omega
theorem dy.no(h:dy l id k d)(hc:l[k]?=some c)(hs:lN id c=false):dy l id (k+1) d:=by
 unfold dy at *
 rw[ag hc,yJ,wW (by simp[hs]),List.filter_nil,xU];rcases h with ⟨h1,h2⟩|⟨j,c',h1,h2,h3,h4⟩
 ·exact .inl ⟨h1,h2⟩
 ·exact .inr ⟨j,c',h1,by omega,h3,h4⟩
theorem dy.put(hc:l[k]?=some c)(hs:lN id c=true):dy l id (k+1) (k:Int):=by unfold dy;rw[ag hc,yJ,wX hs,List.filter_nil];exact .inr ⟨k,c,rfl,by omega,hc,by simp⟩
theorem Dg(h1:gq l id l.length a)(h2:dy l id l.length d) :
  (a=-1∧cO l id=(cU.zero,4))∨(∃(j:Nat) (c:aF),a=(j:Int)∧l[j]?=some c ∧
   ((d=-1∧cO l id=(match ki c.str with|some x=>(x,0)|none=>(cU.zero,4))) ∨
    (∃(i:Nat) (e:aF),d=(i:Int)∧l[i]?=some e∧cO l id=if e.kind=3 then (cU.zero,6) else (e.lab,0)))):=by
 unfold gq at h1;unfold dy at h2;rw[List.take_length]at h1 h2;rcases h1 with ⟨rfl,h1⟩|⟨j,c,rfl,-,h3,h1⟩
 ·exact .inl ⟨rfl,by unfold cO;rw[h1];rfl⟩
 ·refine .inr ⟨j,c,rfl,h3,?_⟩;rcases h2 with ⟨rfl,h2⟩|⟨i,e,rfl,-,h4,h2⟩
  ·exact .inl ⟨rfl,by unfold cO;rw[h1,h2];rfl⟩
  ·exact .inr ⟨i,e,rfl,h4,by unfold cO;rw[h1,h2];rfl⟩
end
structure lG (w:World) (g o:Nat) (t s q k ct ts tq lp lc lg lv:Int) (str:List UInt8) (A:Option Addr) (n cc:Nat):Prop where
 c0:w.cell? ⟨g,o,none⟩=some (B C t)
 c1:w.cell? ⟨g,o+1,none⟩=some (B C s)
 c2:w.cell? ⟨g,o+2,none⟩=some (B C q)
 c3:w.cell? ⟨g,o+3,none⟩=some (B C k)
 c4:w.cell? ⟨g,o+4,none⟩=some (.string (ba str))
 c5:w.cell? ⟨g,o+5,none⟩=some (B C ct)
 c6:w.cell? ⟨g,o+6,none⟩=some (D A n cc)
 c7:w.cell? ⟨g,o+7,none⟩=some (B C ts)
 c8:w.cell? ⟨g,o+8,none⟩=some (B C tq)
 c9:w.cell? ⟨g,o+9,none⟩=some (B C lp)
 c10:w.cell? ⟨g,o+10,none⟩=some (B C lc)
 c11:w.cell? ⟨g,o+11,none⟩=some (B C lg)
 c12:w.cell? ⟨g,o+12,none⟩=some (B C lv)
theorem lG.ext{w w':World}{g o:Nat}{t s q k ct ts tq lp lc lg lv:Int}{str:List UInt8}{A:Option Addr}{cc:Nat}(h:lG w g o t s q k ct ts tq lp lc lg lv str A n cc)(e:ab w w'):lG w' g o t s q k ct ts tq lp lc lg lv str A n cc :=
 ⟨e.cell h.c0,e.cell h.c1,e.cell h.c2,e.cell h.c3,e.cell h.c4,e.cell h.c5,e.cell h.c6,e.cell h.c7,e.cell h.c8,e.cell h.c9,e.cell h.c10,e.cell h.c11,e.cell h.c12⟩
theorem fE.read{b off c k:Nat}{w wx:World}{l:List aF}(h:fE p w (D (some ⟨b,off,none⟩) n c) l)(hx:XT p w wx)(hk:k<n) :
  ∃(t s q kd ct ts tq lp lc lg lv:Int) (str:List UInt8) (ch:List Int) (A:Option Addr) (m cc:Nat),Hid (l[k]?=some ⟨⟨t,s,q⟩,kd,str,ct,ch,⟨ts,tq⟩,⟨lp,lc,lg,lv⟩⟩) ∧
   lG wx b (off+k*13) t s q kd ct ts tq lp lc lg lv str A m cc∧ao p wx (D A m cc) ch∧aF.wf ⟨⟨t,s,q⟩,kd,str,ct,ch,⟨ts,tq⟩,⟨lp,lc,lg,lv⟩⟩:=by
 obtain⟨cs,⟨⟨t,s,q⟩,kd,str,ct,ch,⟨ts,tq⟩,⟨lp,lc,lg,lv⟩⟩,-,hc,⟨u,rfl,hI,hw⟩,hx'⟩:=(h.xt (ly.stab p) hx).cell_ hk;obtain⟨A,m,cc,rfl,-⟩:=hI.open_;exact⟨t,s,q,kd,ct,ts,tq,lp,lc,lg,lv,str,ch,A,m,cc,hx',⟨hc 0 _ rfl,hc 1 _ rfl,hc 2 _ rfl,hc 3 _ rfl,hc 4 _ rfl,hc 5 _ rfl,hc 6 _ rfl,hc 7 _ rfl,hc 8 _ rfl,hc 9 _ rfl,hc 10 _ rfl,hc 11 _ rfl,hc 12 _ rfl⟩,hI,hw⟩
def G0(l:List aF)(id:jd)(w:World)(e:Ending)(w':World):Prop :=
 ∃lp lc lg lv st:Int,e=.returned (.tuple #[.agg #[B C lp,B C lc,B C lg,B C lv],B C st])∧cO l id=(⟨lp,lc,lg,lv⟩,st)∧ab w w'
def Hg:World→List Value→cU→Prop:=fun _ cs x=>cs=x.cells
def Hj:World→List Value→Bool→Prop:=fun _ cs b=>cs=[.bool b]
theorem Hg.stab(p:Nat):kc p Hg:=fun _ _ _ _ h _=>h
theorem Hj.stab(p:Nat):kc p Hj:=fun _ _ _ _ h _=>h
structure uU (rs:List ft) (i:Nat) (x:ft) (k:Nat) (m:Int):Prop where
 fine:∀(j:Nat) y,j<k→rs[j]?=some y→fv x y=true→it x y=false
 m12:m=1∨m=2
 two:m=2↔∃(j:Nat) (y:ft),j<k∧j<i∧rs[j]?=some y∧fv x y=true
section
variable {rs:List ft} {i k:Nat} {x y:ft} {m:Int}
theorem uU.zero(rs:List ft)(i:Nat)(x:ft):uU rs i x 0 1:=⟨fun j y hj=>by omega,.inl rfl,⟨fun h=>by omega,fun⟨j,y,hj,_⟩=>by omega⟩⟩
theorem uU.skip(h:uU rs i x k m)(hy:rs[k]?=some y)(hs:fv x y=false):uU rs i x (k+1) m:=by
 refine⟨fun j z hj hz h1=>?_,h.m12,h.two.trans ⟨fun⟨j,z,a,b,c,d⟩=>⟨j,z,by omega,b,c,d⟩,fun⟨j,z,a,b,c,d⟩=>?_⟩⟩
 ·rcases zV j k with e|e
  ·exact h.fine j z e hz h1
  ·obtain rfl:j=k:=by omega
   rw[hy]at hz;injection hz with hz;subst hz;rw[hs]at h1;cases h1
 ·rcases zV j k with e|e
  ·exact⟨j,z,e,b,c,d⟩
  ·obtain rfl:j=k:=by omega
   rw[hy]at c;injection c with c;subst c;rw[hs]at d;cases d
theorem uU.late(h:uU rs i x k m)(hy:rs[k]?=some y)(hd:it x y=false)(hk:¬k<i):uU rs i x (k+1) m:=by
 refine⟨fun j z hj hz h1=>?_,h.m12,h.two.trans ⟨fun⟨j,z,a,b,c,d⟩=>⟨j,z,by omega,b,c,d⟩,fun⟨j,z,a,b,c,d⟩=>⟨j,z,by omega,b,c,d⟩⟩⟩;rcases zV j k with e|e
 ·exact h.fine j z e hz h1
 ·obtain rfl:j=k:=by omega
  rw[hy]at hz;injection hz with hz;subst hz;exact hd
theorem uU.soon(h:uU rs i x k m)(hy:rs[k]?=some y)(hs:fv x y=true)(hd:it x y=false)(hk:k<i):uU rs i x (k+1) 2:=by
 refine⟨fun j z hj hz h1=>?_,.inr rfl,⟨fun _=>⟨k,y,by omega,hk,hy,hs⟩,fun _=>rfl⟩⟩;rcases zV j k with e|e
 ·exact h.fine j z e hz h1
 ·obtain rfl:j=k:=by omega
  rw[hy]at hz;injection hz with hz;subst hz;exact hd
theorem uU.end_(h:uU rs i x rs.length m):fi rs i x=m:=by
 unfold fi;have h0:¬(rs.any fun y=>fv x y&&it x y)=true:=by rw[xJ];rintro⟨z,hz,h1⟩;obtain⟨j,hj⟩:=yZ hz;simp only[yY]at h1;rw[h.fine j z (zY.1 hj).1 hj h1.1]at h1;cases h1.2
 have h2:(rs.take i).any (fv x)=true↔m=2:=by
  rw[h.two,xJ];constructor
  ·rintro⟨z,hz,h1⟩;obtain⟨j,hj⟩:=yZ hz;rw[yB]at hj;split at hj
   ·exact⟨j,z,(zY.1 hj).1,by assumption,hj,h1⟩
   ·cases hj
  ·rintro⟨j,z,_,hji,hz,h1⟩;exact⟨z,zU (i:=j) (by rw[yB,if_pos hji];exact hz),h1⟩
 rw[if_neg h0];rcases h.m12 with h3|h3
 ·rw[if_neg (fun e=>by have:=h2.1 e;omega),h3]
 ·rw[if_pos (h2.2 h3),h3]
theorem rt(hy:rs[k]?=some y)(hs:fv x y=true)(hd:it x y=true):fi rs i x=3:=by unfold fi;rw[if_pos];rw[xJ];exact⟨y,zU hy,by rw[hs,hd];rfl⟩
end
theorem sa(vC vL vF:Value)(rs:List ft)(i:Nat)(x:ft)(w:World)(hC:fE p w vC (rs.map ft.cap))(hL:bg p 4 Hg w vL (rs.map ft.lab))(hF:bg p 1 Hj w vF (rs.map ft.fit))(hx:rs[i]?=some x) :
  Calls prog 60 #[vC,vL,vF,B C (i:Int)] w fun e w'=>e=.returned (B C (fi rs i x))∧ab w w':=by
 obtain⟨A,n,c,rfl,hnc,hcc,hnn,HLC⟩:=hC.open_;obtain⟨AL,nL,cL,rfl,hncL,hccL,hnnL,HLL⟩:=hL.open_;obtain⟨AF,nF,cF,rfl,hncF,hccF,hnnF,HLF⟩:=hF.open_;have hl1:rs.length=n:=by have:=HLC.out;simpa using this
 obtain rfl:nL=n:=by have:=HLL.out;rw[zM]at this;omega
 obtain rfl:nF=nL:=by have:=HLF.out;rw[zM]at this;omega
 have hin:i<nF:=by have:=(zY.1 hx).1;omega
 have HRL:Bx (rs.length=nF):=⟨hl1⟩
 have HC:Bx (fE p w (D A nF c) (rs.map ft.cap)):=⟨hC⟩
 have HL:Bx (bg p 4 Hg w (D AL nF cL) (rs.map ft.lab)):=⟨hL⟩
 have HF:Bx (bg p 1 Hj w (D AF nF cF) (rs.map ft.fit)):=⟨hF⟩
 have HX:Bx (rs[i]?=some x):=⟨hx⟩
 obtain⟨b,off,_,_,rfl,-⟩:=hC.at_ hin;obtain⟨bL,oL,_,_,rfl,-⟩:=hL.at_ hin;obtain⟨bF,oF,_,_,rfl,-⟩:=hF.at_ hin;clear hC hL hF hx hl1 HLC HLL HLF;go_enter func60,ntmps60
 go_wp2_with fail;go_loopw [9,10] (fun s9 s10 wr=>∃(k:Nat) (m:Int),s10=B C k∧s9=B C m∧k≤nF∧Bx (uU rs i x k m∧ab w wr)) (fun _ k _=>nF-(intOf k).toNat)
 case atStart=>exact⟨0,1,rfl,rfl,by omega,⟨⟨uU.zero _ _ _,zE _⟩⟩⟩
 case round =>
  obtain⟨k,m,rfl,rfl,hk,HR⟩:=hrel;by_cases hkn:k<nF
  ·have HE:Bx (ab w wr.drew):=⟨HR.out.2.drew⟩
   have HJ:Bx (uU rs i x k m):=⟨HR.out.1⟩
   clear HR;obtain⟨y,hy⟩:∃y,rs[k]?=some y:=⟨rs[k]'(by have:=HRL.out;omega),zW _⟩
   have HY:Bx (rs[k]?=some y):=⟨hy⟩
   clear hy;obtain⟨csx,⟨xp,xc,xg,xv⟩,-,hcx,hrx,HXL⟩:=(HL.out.ext (Hg.stab p) HE.out).cell_ hin;obtain⟨csy,⟨yp,yc,yg,yv⟩,-,hcy,hry,HYL⟩:=(HL.out.ext (Hg.stab p) HE.out).cell_ hkn;obtain⟨csf,bf,-,hcf,hrf,HYF⟩:=(HF.out.ext (Hj.stab p) HE.out).cell_ hkn;have HXl:Bx (x.lab=⟨xp,xc,xg,xv⟩):=⟨by have:=HXL.out;rw[zL,HX.out]at this;injection this⟩
   have HYl:Bx (y.lab=⟨yp,yc,yg,yv⟩):=⟨by have:=HYL.out;rw[zL,HY.out]at this;injection this⟩
   have HYf:Bx (y.fit=bf):=⟨by have:=HYF.out;rw[zL,HY.out]at this;injection this⟩
   have x0:=hcx 0 (B C xp) (by rw[hrx];rfl);have x1:=hcx 1 (B C xc) (by rw[hrx];rfl);have x2:=hcx 2 (B C xg) (by rw[hrx];rfl);have x3:=hcx 3 (B C xv) (by rw[hrx];rfl);have y0:=hcy 0 (B C yp) (by rw[hry];rfl);have y1:=hcy 1 (B C yc) (by rw[hry];rfl);have y2:=hcy 2 (B C yg) (by rw[hry];rfl);have y3:=hcy 3 (B C yv) (by rw[hry];rfl);have f0:=hcf 0 (.bool bf) (by rw[hrf];rfl);rw[yP]at x0 y0;rw[yP,wY]at f0;clear hcx hcy hcf hrx hry hrf HXL HYL HYF;have kS:wr.drew.cell? ⟨bF,oF+k,none⟩=some (.bool bf)∧wr.drew.cell? ⟨bL,oL+i*4,none⟩=some (B C xp)∧wr.drew.cell? ⟨bL,oL+i*4+1,none⟩=some (B C xc)∧wr.drew.cell? ⟨bL,oL+i*4+2,none⟩=some (B C xg)∧wr.drew.cell? ⟨bL,oL+i*4+3,none⟩=some (B C xv)∧wr.drew.cell? ⟨bL,oL+k*4,none⟩=some (B C yp)∧wr.drew.cell? ⟨bL,oL+k*4+1,none⟩=some (B C yc)∧wr.drew.cell? ⟨bL,oL+k*4+2,none⟩=some (B C yg)∧wr.drew.cell? ⟨bL,oL+k*4+3,none⟩=some (B C yv):=⟨f0,x0,x1,x2,x3,y0,y1,y2,y3⟩
   clear f0 x0 x1 x2 x3 y0 y1 y2 y3;go_upto_region 5 with (fail)
   refine zR 99 (fun w'=>w'.cell? ⟨bF,oF+k,none⟩=some (.bool bf)∧w'.cell? ⟨bL,oL+i*4,none⟩=some (B C xp)∧w'.cell? ⟨bL,oL+i*4+1,none⟩=some (B C xc)∧w'.cell? ⟨bL,oL+i*4+2,none⟩=some (B C xg)∧w'.cell? ⟨bL,oL+i*4+3,none⟩=some (B C xv)∧w'.cell? ⟨bL,oL+k*4,none⟩=some (B C yp)∧w'.cell? ⟨bL,oL+k*4+1,none⟩=some (B C yc)∧w'.cell? ⟨bL,oL+k*4+2,none⟩=some (B C yg)∧w'.cell? ⟨bL,oL+k*4+3,none⟩=some (B C yv)) ?_;cases bf with
   |false =>
    refine zS 6 [(0,17),(1,18),(2,19),(3,20),(4,21),(5,22)] kS ?_;iterate 6 (apply zT;exact⟨rfl,rfl⟩;(·intro _ _;go_simp;try with_reducible rfl);simp only[kA];exact rfl)
    refine zN (zS 9 [(6,23),(7,24),(8,25),(9,26),(10,27),(11,28),(12,29),(13,30),(14,31)] kS ?_);iterate 9 (apply zK;exact⟨rfl,rfl⟩;simp only[kA];exact rfl)
    refine zN (zS 1 [(15,32)] kS ?_);(apply zT;exact⟨rfl,rfl⟩;(·intro _ _;go_simp;try with_reducible rfl);simp only[kA];exact rfl);refine zN (zD ?_);clear kS;go_wp2_with fail;go_roundw
    case rel=>exact⟨k+1,m,by go_num,rfl,by omega,⟨⟨HJ.out.skip HY.out (by unfold fv;rw[HYf.out];rfl),HE.out⟩⟩⟩
    case measure=>simp[intOf];omega
   |true =>
    have eL:∀W,(Op.equalIn 10000 73 (.agg #[B C yp,B C yc,B C yg,B C yv]) (.agg #[B C xp,B C xc,B C xg,B C xv])).run prog W=.ok (decide (yp=xp∧yc=xc∧yg=xg∧yv=xv)) W:=fun W=>lY _ _ _ _ _ _ _ _ W;have gL:=fZ;by_cases h1:yp=xp∧yc=xc∧yg=xg∧yv=xv
    ·rw[decide_eq_true h1]at eL;have HS:Bx (fv x y=true):=⟨by unfold fv;rw[HYf.out,HYl.out,HXl.out,h1.1,h1.2.1,h1.2.2.1,h1.2.2.2];simp⟩
     clear h1;refine zS 16 [(0,17),(1,18),(2,19),(3,20),(4,21),(5,22),(6,23),(7,24),(8,25),(9,26),(10,27),(11,28),(12,29),(13,30),(14,31),(15,32)] kS ?_;iterate 16 (apply zT;exact⟨rfl,rfl⟩;(·intro _ _;go_simp;try with_reducible rfl);simp only[kA];exact rfl)
     refine zN (zD ?_);clear kS eL gL;obtain⟨xt,xs,xq,xk,xct,xts,xtq,xlp,xlc,xlg,xlv,xstr,xch,xA,xn,xcc,HXc,hcx,hix,-⟩:=fE.read HC.out HE.out.drew.xt hin;obtain⟨yt,ys,yq,yk,yct,yts,ytq,ylp,ylc,ylg,ylv,ystr,ych,yA,yn,ycc,HYc,hcy,hiy,-⟩:=fE.read HC.out HE.out.drew.xt hkn;have HXf:Bx (x.cap.cont=xct∧x.cap.ch=xch):=⟨by have:=HXc.out;rw[zL,HX.out]at this;injection this with this;rw[this];exact⟨rfl,rfl⟩⟩
     have HYg:Bx (y.cap.cont=yct∧y.cap.ch=ych):=⟨by have:=HYc.out;rw[zL,HY.out]at this;injection this with this;rw[this];exact⟨rfl,rfl⟩⟩
     have kS:wr.drew.drew.cell? ⟨b,off+i*13+5,none⟩=some (B C xct)∧wr.drew.drew.cell? ⟨b,off+i*13+6,none⟩=some (D xA xn xcc)∧wr.drew.drew.cell? ⟨b,off+k*13+5,none⟩=some (B C yct)∧wr.drew.drew.cell? ⟨b,off+k*13+6,none⟩=some (D yA yn ycc):=⟨hcx.c5,hcx.c6,hcy.c5,hcy.c6⟩
     have HI:Bx (ao p wr.drew.drew (D yA yn ycc) ych∧ao p wr.drew.drew (D xA xn xcc) xch):=⟨⟨hiy,hix⟩⟩
     clear hcx hcy hix hiy HXc HYc;go_upto_region 6 with (fail)
     refine zR 99 (fun w'=>w'.cell? ⟨b,off+i*13+5,none⟩=some (B C xct)∧w'.cell? ⟨b,off+i*13+6,none⟩=some (D xA xn xcc)∧w'.cell? ⟨b,off+k*13+5,none⟩=some (B C yct)∧w'.cell? ⟨b,off+k*13+6,none⟩=some (D yA yn ycc)) ?_;by_cases h2:yct=xct
     ·have h2b:(yct != xct)=false:=by simp[h2]
      replace h2:=zZ h2;refine zS 22 [(0,33),(1,34),(2,35),(3,36),(4,37),(5,38),(6,39),(7,40),(8,41),(9,42),(10,43),(11,44),(12,45),(13,46),(14,47),(15,48),(16,49),(17,50),(18,51),(19,52),(20,53),(21,54)] kS ?_;iterate 22 (apply zT;exact⟨rfl,rfl⟩;(·intro _ _;go_simp;try with_reducible rfl);simp only[kA];exact rfl)
      refine zN (zO 22 (fun K hK=>?_));go_simp;refine (dH _ _ ych xch _ HI.out.1 HI.out.2).mono ?_;rintro e w3 ⟨rfl,hx3⟩;have HE3:Bx (ab w w3):=⟨HE.out.drew.trans hx3⟩
      have kS2:w3.cell? ⟨b,off+i*13+5,none⟩=some (B C xct)∧w3.cell? ⟨b,off+i*13+6,none⟩=some (D xA xn xcc)∧w3.cell? ⟨b,off+k*13+5,none⟩=some (B C yct)∧w3.cell? ⟨b,off+k*13+6,none⟩=some (D yA yn ycc):=⟨hx3.cell kS.1,hx3.cell kS.2.1,hx3.cell kS.2.2.1,hx3.cell kS.2.2.2⟩
      clear hx3 kS HE;cases h3:decide (ych=xch) with
      |true =>
       replace h3:=zZ h3;have HD:Bx (it x y=false):=⟨by unfold it;rw[HYg.out.1,HYg.out.2,HXf.out.1,HXf.out.2,h3.out,decide_eq_true h2.out];rfl⟩
       refine hK.out _ _ (fun _=>(kS2)) ?_;clear hK K;try simp only[kA]
       refine zS 2 [(23,56),(24,57)] kS2 ?_;iterate 2 (apply zT;exact⟨rfl,rfl⟩;(·intro _ _;go_simp;try with_reducible rfl);simp only[kA];exact rfl)
       refine zN (zD ?_);clear kS2 h2b;by_cases hki:k<i
       ·go_wp2_with fail;go_roundw
        case rel=>exact⟨k+1,2,by go_num,rfl,by omega,⟨⟨HJ.out.soon HY.out HS.out HD.out hki,HE3.out⟩⟩⟩
        case measure=>simp[intOf];omega
       ·go_wp2_with fail;go_roundw
        case rel=>exact⟨k+1,m,by go_num,rfl,by omega,⟨⟨HJ.out.late HY.out HD.out hki,HE3.out⟩⟩⟩
        case measure=>simp[intOf];omega
      |false =>
       replace h3:=zZ h3;have HD:Bx (it x y=true):=⟨by unfold it;rw[HYg.out.1,HYg.out.2,HXf.out.1,HXf.out.2,h3.out,decide_eq_true h2.out];rfl⟩
       have HB:=zZ (rt (i:=i) HY.out HS.out HD.out);refine hK.out _ _ (fun _=>(kS2)) ?_;clear hK K;try simp only[kA]
       refine zS 2 [(23,56),(24,57)] kS2 ?_;iterate 2 (apply zT;exact⟨rfl,rfl⟩;(·intro _ _;go_simp;try with_reducible rfl);simp only[kA];exact rfl)
       refine zN (zD ?_);clear kS2 h2b;go_wp2_with fail;go_ret
       exact⟨ah HB.out.symm,HE3.out⟩
     ·have h2b:(yct != xct)=true:=by simp[h2]
      have HD:Bx (it x y=true):=⟨by unfold it;rw[HYg.out.1,HXf.out.1,decide_eq_false h2];rfl⟩
      have HB:=zZ (rt (i:=i) HY.out HS.out HD.out);replace h2:=zZ h2;refine zS 12 [(0,33),(1,34),(2,35),(3,36),(4,37),(5,38),(6,39),(7,40),(8,41),(9,42),(10,43),(11,44)] kS ?_;iterate 12 (apply zT;exact⟨rfl,rfl⟩;(·intro _ _;go_simp;try with_reducible rfl);simp only[kA];exact rfl)
      refine zN (zS 12 [(12,45),(13,46),(14,47),(15,48),(16,49),(17,50),(18,51),(19,52),(20,53),(21,54),(22,55),(23,56)] kS ?_);iterate 12 (apply zK;exact⟨rfl,rfl⟩;simp only[kA];exact rfl)
      refine zN (zS 1 [(24,57)] kS ?_);(apply zT;exact⟨rfl,rfl⟩;(·intro _ _;go_simp;try with_reducible rfl);simp only[kA];exact rfl);refine zN (zD ?_);clear kS h2b;go_wp2_with fail;go_ret
      exact⟨ah HB.out.symm,HE.out.drew⟩
    ·rw[decide_eq_false h1]at eL;have HS:Bx (fv x y=false):=⟨by unfold fv;rw[HYf.out,HYl.out,HXl.out];simp[h1]⟩
     clear h1;refine zS 16 [(0,17),(1,18),(2,19),(3,20),(4,21),(5,22),(6,23),(7,24),(8,25),(9,26),(10,27),(11,28),(12,29),(13,30),(14,31),(15,32)] kS ?_;iterate 16 (apply zT;exact⟨rfl,rfl⟩;(·intro _ _;go_simp;try with_reducible rfl);simp only[kA];exact rfl)
     refine zN (zD ?_);clear kS eL gL;go_wp2_with fail;go_roundw
     case rel=>exact⟨k+1,m,by go_num,rfl,by omega,⟨⟨HJ.out.skip HY.out HS.out,HE.out⟩⟩⟩
     case measure=>simp[intOf];omega
  ·obtain rfl:k=nF:=by omega
   have HB:Bx (fi rs i x=m):=⟨uU.end_ (by rw[HRL.out];exact HR.out.1)⟩
   go_wp2_with fail;go_ret
   exact⟨ah HB.out.symm,HR.out.2⟩
theorem wv(v:Value)(l:List aF)(si qi:Int)(w:World)(hv:fE p w v l) :
  Calls prog 57 #[v,.agg #[B C si,B C qi]] w (G0 l ⟨si,qi⟩ w):=by
 obtain⟨A,n,c,rfl,hnc,hcc,hnn,HL⟩:=hv.open_;have HV:Bx (fE p w (D A n c) l):=⟨hv⟩
 clear hv;obtain⟨w1,hw1⟩:=nm (((w.alloc (.cells #[B C si,B C qi] 71)).alloc (.cells #[B C 0,B C 0,B C 0,B C 0] 73)):World);have HF:Bx (ae w w1 [(w.heap.size,#[B C si,B C qi],71),(w.heap.size+1,#[B C 0,B C 0,B C 0,B C 0],73)]):=⟨by rw[hw1];exact ((ae.start w).push _ _ rfl).push _ _ (by simp)⟩
 go_enter func57,ntmps57
 go_upto_region 1 with (fail)
 rw[←hw1];clear hw1;go_wp2_with fail;go_loopw [6,7,8] (fun s6 s7 s8 wr=>∃(k:Nat) (a d:Int),s6=B C a∧s7=B C d∧s8=B C k∧k≤n∧Bx (ae w wr [(w.heap.size,#[B C si,B C qi],71),(w.heap.size+1,#[B C 0,B C 0,B C 0,B C 0],73)]∧gq l ⟨si,qi⟩ k a∧dy l ⟨si,qi⟩ k d)) (fun _ _ k _=>n-(intOf k).toNat)
 case atStart=>exact⟨0,-1,-1,rfl,rfl,rfl,by omega,⟨⟨HF.out,gq.zero _ _,dy.zero _ _⟩⟩⟩
 case round =>
  obtain⟨k,a,d,rfl,rfl,rfl,hk,HR⟩:=hrel;clear HF;by_cases hkn:k<n
  ·obtain⟨b,off,_,_,rfl,-⟩:=HV.out.at_ hkn;obtain⟨t,s,q,kd,ct,ts,tq,lp,lc,lg,lv,str,ch,Au,mu,cu,HX,hcs,-,-⟩:=fE.read HV.out HR.out.1.xt.xt hkn;have HC:Bx (lG wr b (off+k*13) t s q kd ct ts tq lp lc lg lv str Au mu cu):=⟨hcs⟩
   have HS:Bx (ic ⟨si,qi⟩ ⟨⟨t,s,q⟩,kd,str,ct,ch,⟨ts,tq⟩,⟨lp,lc,lg,lv⟩⟩=(decide (kd=1)&&decide (s=si∧q=qi))):=⟨by unfold ic aF.id;congr 1;rw[yE];simp only[decide_eq_true_eq,jd.eq_iff]⟩
   have HD:Bx (lN ⟨si,qi⟩ ⟨⟨t,s,q⟩,kd,str,ct,ch,⟨ts,tq⟩,⟨lp,lc,lg,lv⟩⟩=((decide (kd=2)||decide (kd=3))&&decide (ts=si∧tq=qi))):=⟨by unfold lN;congr 1;rw[yE];simp only[decide_eq_true_eq,jd.eq_iff]⟩
   have HA:Bx (gq l ⟨si,qi⟩ k a∧dy l ⟨si,qi⟩ k d):=⟨HR.out.2⟩
   have HF:Bx (ae w wr [(w.heap.size,#[B C si,B C qi],71),(w.heap.size+1,#[B C 0,B C 0,B C 0,B C 0],73)]):=⟨HR.out.1⟩
   clear HR hcs;go_upto_region 5 with (fail)
   go_cut [36] (fun s36 wx=>∃bb:Bool,s36=.bool bb∧Hid (bb=true∧gq l ⟨si,qi⟩ (k+1) k∨bb=false∧gq l ⟨si,qi⟩ (k+1) a)∧Bx (ae w wx [(w.heap.size,#[B C si,B C qi],71),(w.heap.size+1,#[B C 0,B C 0,B C 0,B C 0],73)]∧lG wx b (off+k*13) t s q kd ct ts tq lp lc lg lv str Au mu cu))
   case first =>
    have kS:wr.drew.cell? ⟨b,off+k*13,none⟩=some (B C t)∧wr.drew.cell? ⟨b,off+k*13+1,none⟩=some (B C s)∧wr.drew.cell? ⟨b,off+k*13+2,none⟩=some (B C q)∧wr.drew.cell? ⟨b,off+k*13+3,none⟩=some (B C kd)∧wr.drew.cell? ⟨b,off+k*13+4,none⟩=some (.string (ba str))∧wr.drew.cell? ⟨b,off+k*13+5,none⟩=some (B C ct)∧wr.drew.cell? ⟨b,off+k*13+6,none⟩=some (D Au mu cu)∧wr.drew.cell? ⟨b,off+k*13+7,none⟩=some (B C ts)∧wr.drew.cell? ⟨b,off+k*13+8,none⟩=some (B C tq)∧wr.drew.cell? ⟨b,off+k*13+9,none⟩=some (B C lp)∧wr.drew.cell? ⟨b,off+k*13+10,none⟩=some (B C lc)∧wr.drew.cell? ⟨b,off+k*13+11,none⟩=some (B C lg)∧wr.drew.cell? ⟨b,off+k*13+12,none⟩=some (B C lv)∧wr.drew.cell? ⟨w.heap.size,0,none⟩=some (B C si)∧wr.drew.cell? ⟨w.heap.size,1,none⟩=some (B C qi):=⟨(HC.out.ext (zE _).drew).c0,(HC.out.ext (zE _).drew).c1,(HC.out.ext (zE _).drew).c2,(HC.out.ext (zE _).drew).c3,(HC.out.ext (zE _).drew).c4,(HC.out.ext (zE _).drew).c5,(HC.out.ext (zE _).drew).c6,(HC.out.ext (zE _).drew).c7,(HC.out.ext (zE _).drew).c8,(HC.out.ext (zE _).drew).c9,(HC.out.ext (zE _).drew).c10,(HC.out.ext (zE _).drew).c11,(HC.out.ext (zE _).drew).c12,(HF.out.drew.at_ 0 rfl).c 0 rfl,(HF.out.drew.at_ 0 rfl).c 1 rfl⟩
    have HF0:Bx (ae w wr.drew [(w.heap.size,#[B C si,B C qi],71),(w.heap.size+1,#[B C 0,B C 0,B C 0,B C 0],73)]):=⟨HF.out.drew⟩
    have HC0:=bx (HC.out.ext (zE _).drew);refine zR 99 (fun w'=>w'.cell? ⟨b,off+k*13,none⟩=some (B C t)∧w'.cell? ⟨b,off+k*13+1,none⟩=some (B C s)∧w'.cell? ⟨b,off+k*13+2,none⟩=some (B C q)∧w'.cell? ⟨b,off+k*13+3,none⟩=some (B C kd)∧w'.cell? ⟨b,off+k*13+4,none⟩=some (.string (ba str))∧w'.cell? ⟨b,off+k*13+5,none⟩=some (B C ct)∧w'.cell? ⟨b,off+k*13+6,none⟩=some (D Au mu cu)∧w'.cell? ⟨b,off+k*13+7,none⟩=some (B C ts)∧w'.cell? ⟨b,off+k*13+8,none⟩=some (B C tq)∧w'.cell? ⟨b,off+k*13+9,none⟩=some (B C lp)∧w'.cell? ⟨b,off+k*13+10,none⟩=some (B C lc)∧w'.cell? ⟨b,off+k*13+11,none⟩=some (B C lg)∧w'.cell? ⟨b,off+k*13+12,none⟩=some (B C lv)∧w'.cell? ⟨w.heap.size,0,none⟩=some (B C si)∧w'.cell? ⟨w.heap.size,1,none⟩=some (B C qi)) ?_;by_cases h1:kd=1
    ·have h1b:(kd==1)=true:=by rw[h1];rfl
     have H1:=zZ h1;clear h1;refine zS 12 [(0,18),(1,19),(2,20),(3,21),(4,22),(5,23),(6,24),(7,25),(8,26),(9,27),(10,28),(12,30)] kS ?_;iterate 12 (apply zT;exact⟨rfl,rfl⟩;(·intro _ _;go_simp;try with_reducible rfl);simp only[kA];exact rfl)
     refine zN (zO 11 (fun K hK=>?_));go_simp;refine (jZ t s q kd ct ts tq lp lc lg lv _ Au mu cu _).mono ?_;rintro e w2 ⟨rfl,hx2⟩;have HF2:=bx (HF0.out.ext hx2);have HC2:=bx (HC0.out.ext hx2);have kS2:w2.cell? ⟨b,off+k*13,none⟩=some (B C t)∧w2.cell? ⟨b,off+k*13+1,none⟩=some (B C s)∧w2.cell? ⟨b,off+k*13+2,none⟩=some (B C q)∧w2.cell? ⟨b,off+k*13+3,none⟩=some (B C kd)∧w2.cell? ⟨b,off+k*13+4,none⟩=some (.string (ba str))∧w2.cell? ⟨b,off+k*13+5,none⟩=some (B C ct)∧w2.cell? ⟨b,off+k*13+6,none⟩=some (D Au mu cu)∧w2.cell? ⟨b,off+k*13+7,none⟩=some (B C ts)∧w2.cell? ⟨b,off+k*13+8,none⟩=some (B C tq)∧w2.cell? ⟨b,off+k*13+9,none⟩=some (B C lp)∧w2.cell? ⟨b,off+k*13+10,none⟩=some (B C lc)∧w2.cell? ⟨b,off+k*13+11,none⟩=some (B C lg)∧w2.cell? ⟨b,off+k*13+12,none⟩=some (B C lv)∧w2.cell? ⟨w.heap.size,0,none⟩=some (B C si)∧w2.cell? ⟨w.heap.size,1,none⟩=some (B C qi):=⟨HC2.out.c0,HC2.out.c1,HC2.out.c2,HC2.out.c3,HC2.out.c4,HC2.out.c5,HC2.out.c6,HC2.out.c7,HC2.out.c8,HC2.out.c9,HC2.out.c10,HC2.out.c11,HC2.out.c12,(HF2.out.at_ 0 rfl).c 0 rfl,(HF2.out.at_ 0 rfl).c 1 rfl⟩
     clear hx2 kS HF0 HC0;refine hK.out _ _ (fun _=>(kS2)) ?_;clear hK K;try simp only[kA]
     have eL:∀W,(Op.equalIn 10000 71 (.agg #[B C s,B C q]) (.agg #[B C si,B C qi])).run prog W=.ok (decide (s=si∧q=qi)) W:=fun W=>rJ _ _ _ _ W;have gL:=li;by_cases h2:s=si∧q=qi
     ·rw[decide_eq_true h2]at eL;have H2:=zZ h2;clear h2;refine zS 3 [(13,31),(14,32),(15,33)] kS2 ?_;iterate 3 (apply zT;exact⟨rfl,rfl⟩;(·intro _ _;go_simp;try with_reducible rfl);simp only[kA];exact rfl)
      refine zN ?_;by_cases ha:a<0
      ·have hab:decide (a<0)=true:=decide_eq_true ha;refine zS 3 [(16,34),(17,35),(18,36)] kS2 ?_;iterate 3 (apply zT;exact⟨rfl,rfl⟩;(·intro _ _;go_simp;try with_reducible rfl);simp only[kA];exact rfl)
       refine zN (zD ?_);clear eL gL;go_wp2_with fail;go_meet
       exact⟨true,rfl,.inl ⟨rfl,HA.out.1.new HX.out (by rw[HS.out,decide_eq_true H1.out,decide_eq_true H2.out];rfl) ha⟩,⟨⟨HF2.out,HC2.out⟩⟩⟩
      ·have hab:decide (a<0)=false:=decide_eq_false ha;refine zS 3 [(16,34),(17,35),(18,36)] kS2 ?_;iterate 3 (apply zT;exact⟨rfl,rfl⟩;(·intro _ _;go_simp;try with_reducible rfl);simp only[kA];exact rfl)
       refine zN (zD ?_);clear eL gL;go_wp2_with fail;go_meet
       exact⟨false,rfl,.inr ⟨rfl,HA.out.1.old HX.out (by omega)⟩,⟨⟨HF2.out,HC2.out⟩⟩⟩
     ·rw[decide_eq_false h2]at eL;have H2:=zZ h2;clear h2;refine zS 3 [(13,31),(14,32),(15,33)] kS2 ?_;iterate 3 (apply zT;exact⟨rfl,rfl⟩;(·intro _ _;go_simp;try with_reducible rfl);simp only[kA];exact rfl)
      refine zN (zS 2 [(16,34),(17,35)] kS2 ?_);iterate 2 (apply zK;exact⟨rfl,rfl⟩;simp only[kA];exact rfl)
      refine zN (zS 1 [(18,36)] kS2 ?_);(apply zT;exact⟨rfl,rfl⟩;(·intro _ _;go_simp;try with_reducible rfl);simp only[kA];exact rfl);refine zN (zD ?_);clear eL gL;go_wp2_with fail;go_meet
      exact⟨false,rfl,.inr ⟨rfl,HA.out.1.no HX.out (by rw[HS.out,decide_eq_false H2.out];simp)⟩,⟨⟨HF2.out,HC2.out⟩⟩⟩
    ·have h1b:(kd==1)=false:=beq_eq_false_iff_ne.2 h1;have H1:=zZ h1;clear h1;refine zS 7 [(0,18),(1,19),(2,20),(3,21),(4,22),(5,23),(6,24)] kS ?_;iterate 7 (apply zT;exact⟨rfl,rfl⟩;(·intro _ _;go_simp;try with_reducible rfl);simp only[kA];exact rfl)
     refine zN (zS 7 [(7,25),(8,26),(9,27),(10,28),(11,29),(12,30),(13,31)] kS ?_);iterate 7 (apply zK;exact⟨rfl,rfl⟩;simp only[kA];exact rfl)
     refine zN (zS 2 [(14,32),(15,33)] kS ?_);iterate 2 (apply zT;exact⟨rfl,rfl⟩;(·intro _ _;go_simp;try with_reducible rfl);simp only[kA];exact rfl)
     refine zN (zS 2 [(16,34),(17,35)] kS ?_);iterate 2 (apply zK;exact⟨rfl,rfl⟩;simp only[kA];exact rfl)
     refine zN (zS 1 [(18,36)] kS ?_);(apply zT;exact⟨rfl,rfl⟩;(·intro _ _;go_simp;try with_reducible rfl);simp only[kA];exact rfl);refine zN (zD ?_);go_wp2_with fail;go_meet
     exact⟨false,rfl,.inr ⟨rfl,HA.out.1.no HX.out (by rw[HS.out,decide_eq_false H1.out];rfl)⟩,⟨⟨HF0.out,HC0.out⟩⟩⟩
   case rest =>
   obtain⟨bb,rfl,hbb,HR⟩:=hcut;have HL1:Bx (dy l ⟨si,qi⟩ k d):=⟨HA.out.2⟩
   clear HF HC HA HS;go_upto_if 36 with (fail)
   go_cut [6] (fun s6 wx=>∃a':Int,s6=B C a'∧Bx (gq l ⟨si,qi⟩ (k+1) a'∧ae w wx [(w.heap.size,#[B C si,B C qi],71),(w.heap.size+1,#[B C 0,B C 0,B C 0,B C 0],73)]∧lG wx b (off+k*13) t s q kd ct ts tq lp lc lg lv str Au mu cu))
   case first =>
    cases bb with
    |true =>
     go_wp2_with fail;go_meet
     refine⟨k,rfl,⟨⟨?_,HR.out⟩⟩⟩;rcases hbb.out with ⟨_,h⟩|⟨h,_⟩
     ·exact h
     ·cases h
    |false =>
     go_wp2_with fail;go_meet
     refine⟨a,rfl,⟨⟨?_,HR.out⟩⟩⟩;rcases hbb.out with ⟨h,_⟩|⟨_,h⟩
     ·cases h
     ·exact h
   case rest =>
   obtain⟨a',rfl,HA⟩:=hcut;clear HR hbb;go_upto_region 7 with (fail)
   go_cut [60] (fun s60 wx=>∃bb:Bool,s60=.bool bb∧Hid (bb=true∧dy l ⟨si,qi⟩ (k+1) k∨bb=false∧dy l ⟨si,qi⟩ (k+1) d)∧Bx (ae w wx [(w.heap.size,#[B C si,B C qi],71),(w.heap.size+1,#[B C 0,B C 0,B C 0,B C 0],73)]))
   case first =>
    have kS:wc.drew.cell? ⟨b,off+k*13+3,none⟩=some (B C kd)∧wc.drew.cell? ⟨b,off+k*13+7,none⟩=some (B C ts)∧wc.drew.cell? ⟨b,off+k*13+8,none⟩=some (B C tq)∧wc.drew.cell? ⟨w.heap.size,0,none⟩=some (B C si)∧wc.drew.cell? ⟨w.heap.size,1,none⟩=some (B C qi):=⟨HA.out.2.2.c3,HA.out.2.2.c7,HA.out.2.2.c8,(HA.out.2.1.drew.at_ 0 rfl).c 0 rfl,(HA.out.2.1.drew.at_ 0 rfl).c 1 rfl⟩
    have HF0:Bx (ae w wc.drew [(w.heap.size,#[B C si,B C qi],71),(w.heap.size+1,#[B C 0,B C 0,B C 0,B C 0],73)]):=⟨HA.out.2.1.drew⟩
    have eL:∀W,(Op.equalIn 10000 71 (.agg #[B C ts,B C tq]) (.agg #[B C si,B C qi])).run prog W=.ok (decide (ts=si∧tq=qi)) W:=fun W=>rJ _ _ _ _ W;have gL:=li;refine zR 99 (fun w'=>w'.cell? ⟨b,off+k*13+3,none⟩=some (B C kd)∧w'.cell? ⟨b,off+k*13+7,none⟩=some (B C ts)∧w'.cell? ⟨b,off+k*13+8,none⟩=some (B C tq)∧w'.cell? ⟨w.heap.size,0,none⟩=some (B C si)∧w'.cell? ⟨w.heap.size,1,none⟩=some (B C qi)) ?_;by_cases h23:kd=2∨kd=3
    ·by_cases h2':kd=2
     ·have h1b:(kd==2)=true:=by rw[h2'];rfl
      have HK:=zZ (show (decide (kd=2)||decide (kd=3))=true by rw[decide_eq_true h2'];rfl);clear h23 h2';refine zS 7 [(0,38),(1,39),(2,40),(3,41),(4,42),(5,43),(6,44)] kS ?_;iterate 7 (apply zT;exact⟨rfl,rfl⟩;(·intro _ _;go_simp;try with_reducible rfl);simp only[kA];exact rfl)
      refine zN (zS 6 [(7,45),(8,46),(9,47),(10,48),(11,49),(12,50)] kS ?_);iterate 6 (apply zK;exact⟨rfl,rfl⟩;simp only[kA];exact rfl)
      refine zN (zS 2 [(13,51),(14,52)] kS ?_);iterate 2 (apply zT;exact⟨rfl,rfl⟩;(·intro _ _;go_simp;try with_reducible rfl);simp only[kA];exact rfl)
      refine zN ?_;by_cases h2:ts=si∧tq=qi
      ·rw[decide_eq_true h2]at eL;have H2:=zZ h2;clear h2;refine zS 8 [(15,53),(16,54),(17,55),(18,56),(19,57),(20,58),(21,59),(22,60)] kS ?_;iterate 8 (apply zT;exact⟨rfl,rfl⟩;(·intro _ _;go_simp;try with_reducible rfl);simp only[kA];exact rfl)
       refine zN (zD ?_);clear eL gL;go_wp2_with fail;go_meet
       exact⟨true,rfl,.inl ⟨rfl,dy.put HX.out (by rw[HD.out,decide_eq_true H2.out,HK.out];rfl)⟩,HF0⟩
      ·rw[decide_eq_false h2]at eL;have H2:=zZ h2;clear h2;refine zS 8 [(15,53),(16,54),(17,55),(18,56),(19,57),(20,58),(21,59),(22,60)] kS ?_;iterate 8 (apply zT;exact⟨rfl,rfl⟩;(·intro _ _;go_simp;try with_reducible rfl);simp only[kA];exact rfl)
       refine zN (zD ?_);clear eL gL;go_wp2_with fail;go_meet
       exact⟨false,rfl,.inr ⟨rfl,HL1.out.no HX.out (by rw[HD.out,decide_eq_false H2.out];simp)⟩,HF0⟩
     ·have h3':kd=3:=by omega
      have h1b:(kd==2)=false:=beq_eq_false_iff_ne.2 h2';have h3b:(kd==3)=true:=by rw[h3'];rfl
      have HK:=zZ (show (decide (kd=2)||decide (kd=3))=true by rw[decide_eq_true h3'];simp);clear h23 h2' h3';refine zS 15 [(0,38),(1,39),(2,40),(3,41),(4,42),(5,43),(6,44),(7,45),(8,46),(9,47),(10,48),(11,49),(12,50),(13,51),(14,52)] kS ?_;iterate 15 (apply zT;exact⟨rfl,rfl⟩;(·intro _ _;go_simp;try with_reducible rfl);simp only[kA];exact rfl)
      refine zN ?_;by_cases h2:ts=si∧tq=qi
      ·rw[decide_eq_true h2]at eL;have H2:=zZ h2;clear h2;refine zS 8 [(15,53),(16,54),(17,55),(18,56),(19,57),(20,58),(21,59),(22,60)] kS ?_;iterate 8 (apply zT;exact⟨rfl,rfl⟩;(·intro _ _;go_simp;try with_reducible rfl);simp only[kA];exact rfl)
       refine zN (zD ?_);clear eL gL;go_wp2_with fail;go_meet
       exact⟨true,rfl,.inl ⟨rfl,dy.put HX.out (by rw[HD.out,decide_eq_true H2.out,HK.out];rfl)⟩,HF0⟩
      ·rw[decide_eq_false h2]at eL;have H2:=zZ h2;clear h2;refine zS 8 [(15,53),(16,54),(17,55),(18,56),(19,57),(20,58),(21,59),(22,60)] kS ?_;iterate 8 (apply zT;exact⟨rfl,rfl⟩;(·intro _ _;go_simp;try with_reducible rfl);simp only[kA];exact rfl)
       refine zN (zD ?_);clear eL gL;go_wp2_with fail;go_meet
       exact⟨false,rfl,.inr ⟨rfl,HL1.out.no HX.out (by rw[HD.out,decide_eq_false H2.out];simp)⟩,HF0⟩
    ·have h1b:(kd==2)=false:=beq_eq_false_iff_ne.2 (by omega);have h3b:(kd==3)=false:=beq_eq_false_iff_ne.2 (by omega);have HK:=zZ (show (decide (kd=2)||decide (kd=3))=false by rw[decide_eq_false (by omega),decide_eq_false (by omega)];rfl);clear h23;refine zS 15 [(0,38),(1,39),(2,40),(3,41),(4,42),(5,43),(6,44),(7,45),(8,46),(9,47),(10,48),(11,49),(12,50),(13,51),(14,52)] kS ?_;iterate 15 (apply zT;exact⟨rfl,rfl⟩;(·intro _ _;go_simp;try with_reducible rfl);simp only[kA];exact rfl)
     refine zN (zS 7 [(15,53),(16,54),(17,55),(18,56),(19,57),(20,58),(21,59)] kS ?_);iterate 7 (apply zK;exact⟨rfl,rfl⟩;simp only[kA];exact rfl)
     refine zN (zS 1 [(22,60)] kS ?_);(apply zT;exact⟨rfl,rfl⟩;(·intro _ _;go_simp;try with_reducible rfl);simp only[kA];exact rfl);refine zN (zD ?_);clear eL gL;go_wp2_with fail;go_meet
     exact⟨false,rfl,.inr ⟨rfl,HL1.out.no HX.out (by rw[HD.out,HK.out];rfl)⟩,HF0⟩
   case rest =>
   obtain⟨bb,rfl,hbb,HR⟩:=hcut;have HA1:Bx (gq l ⟨si,qi⟩ (k+1) a'):=⟨HA.out.1⟩
   clear HA HL1;cases bb with
   |true =>
    go_wp2_with fail;go_roundw
    case rel =>
     refine⟨k+1,a',k,rfl,rfl,by go_num,by omega,⟨⟨HR.out,HA1.out,?_⟩⟩⟩;rcases hbb.out with ⟨_,h⟩|⟨h,_⟩
     ·exact h
     ·cases h
    case measure=>simp[intOf];omega
   |false =>
    go_wp2_with fail;go_roundw
    case rel =>
     refine⟨k+1,a',d,rfl,rfl,by go_num,by omega,⟨⟨HR.out,HA1.out,?_⟩⟩⟩;rcases hbb.out with ⟨h,_⟩|⟨_,h⟩
     ·cases h
     ·exact h
    case measure=>simp[intOf];omega
  ·obtain rfl:n=k:=by omega
   have HA:=HR.out.2.1;have HB:=HR.out.2.2;rw[←HL.out]at HA HB;have HF2:Bx (ae w wr [(w.heap.size,#[B C si,B C qi],71),(w.heap.size+1,#[B C 0,B C 0,B C 0,B C 0],73)]):=⟨HR.out.1⟩
   clear HR;rcases Dg HA HB with ⟨ha,he⟩|⟨j,c0,ha,hj,h⟩
   ·have HE:=zZ he;subst ha;clear HA HB he;obtain⟨z0,z1,z2,z3⟩:=(HF2.out.at_ 1 rfl).p4 rfl;have f0:=(HF2.out.at_ 1 rfl).froz;have f1:=f0;have f2:=f0;have f3:=f0;go_wp2_with fail;have h9:=HF2.out.setAll 1 rfl [B C 0,B C 0,B C 0,B C 0] rfl;refine bodyPost_ret (v:=.tuple #[.agg #[B C 0,B C 0,B C 0,B C 0],B C 4]) (by simp[results,results57,go_sem,z0,z1,z2,z3]) rfl ⟨0,0,0,0,4,rfl,HE.out,h9.xt⟩
   ·have hjn:j<n:=by have:=(zY.1 hj).1;have:=HL.out;omega
    subst ha;clear HA HB;obtain⟨b,off,_,_,rfl,-⟩:=HV.out.at_ hjn;rcases h with ⟨hd,he⟩|⟨i,e0,hd,hi,he⟩
    ·subst hd;obtain⟨t,s,q,kd,ct,ts,tq,lp,lc,lg,lv,str,ch,Au,mu,cu,HX,hcs,-,-⟩:=fE.read HV.out HF2.out.xt.xt hjn;have hcc:=HX.out;rw[hj]at hcc;injection hcc with hcc;subst hcc;have HE:=zZ he;have c4:=hcs.c4;clear he hj hcs HX;go_wp2_with fail;refine (BK (ba str) _).mono ?_;rintro e w2 ⟨rp,rc,rg,rv,rn,rk,rfl,hrf,-,-,-,-,-,-,hx2⟩;rw[Ij]at hrf;have hx3:=hx2.alloc (.cells #[B C rp,B C rc,B C rg,B C rv] 73);have HF3:=bx (HF2.out.ext hx3);by_cases hk0:rk=0
     ·subst hk0;have HO:=zZ (xw hrf);clear hrf hx2 hx3 c4 HF2;obtain⟨z0,z1,z2,z3⟩:=(HF3.out.at_ 1 rfl).p4 rfl;have f0:=(HF3.out.at_ 1 rfl).froz;have f1:=f0;have f2:=f0;have f3:=f0;go_wp2_with fail;have h9:=HF3.out.setAll 1 rfl [B C rp,B C rc,B C rg,B C rv] rfl;refine bodyPost_ret (v:=.tuple #[.agg #[B C rp,B C rc,B C rg,B C rv],B C 0]) (by simp[results,results57,go_sem,z0,z1,z2,z3]) rfl ⟨rp,rc,rg,rv,0,rfl,by rw[HE.out,HO.out],h9.xt⟩
     ·have HO:=zZ (zl hrf hk0);have hkb:(rk != 0)=true:=by simp[hk0]
      replace hk0:=zZ hk0;clear hrf hx2 hx3 c4 HF2;obtain⟨z0,z1,z2,z3⟩:=(HF3.out.at_ 1 rfl).p4 rfl;have f0:=(HF3.out.at_ 1 rfl).froz;have f1:=f0;have f2:=f0;have f3:=f0;go_wp2_with fail;have h9:=HF3.out.setAll 1 rfl [B C 0,B C 0,B C 0,B C 0] rfl;refine bodyPost_ret (v:=.tuple #[.agg #[B C 0,B C 0,B C 0,B C 0],B C 4]) (by simp[results,results57,go_sem,z0,z1,z2,z3]) rfl ⟨0,0,0,0,4,rfl,by rw[HE.out,HO.out];rfl,h9.xt⟩
    ·subst hd;have hin:i<n:=by have:=(zY.1 hi).1;have:=HL.out;omega
     obtain⟨t,s,q,kd,ct,ts,tq,lp,lc,lg,lv,str,ch,Au,mu,cu,HX,hcs,-,-⟩:=fE.read HV.out HF2.out.xt.xt hin;have hcc:=HX.out;rw[hi]at hcc;injection hcc with hcc;subst hcc;have c3:=hcs.c3;have c9:=hcs.c9;have c10:=hcs.c10;have c11:=hcs.c11;have c12:=hcs.c12;obtain⟨z0,z1,z2,z3⟩:=(HF2.out.at_ 1 rfl).p4 rfl;have f0:=(HF2.out.at_ 1 rfl).froz;have f1:=f0;have f2:=f0;have f3:=f0;simp only at he;by_cases hk3:kd=3
     ·rw[if_pos hk3]at he;have HE:=zZ he;have hkb:(kd==3)=true:=by rw[hk3];rfl
      replace hk3:=zZ hk3;clear he hi hj hcs HX;go_wp2_with fail;have h9:=HF2.out.setAll 1 rfl [B C 0,B C 0,B C 0,B C 0] rfl;refine bodyPost_ret (v:=.tuple #[.agg #[B C 0,B C 0,B C 0,B C 0],B C 6]) (by simp[results,results57,go_sem,z0,z1,z2,z3]) rfl ⟨0,0,0,0,6,rfl,HE.out,h9.xt⟩
     ·rw[if_neg hk3]at he;have HE:=zZ he;have hkb:(kd==3)=false:=beq_eq_false_iff_ne.2 hk3;replace hk3:=zZ hk3;clear he hi hj hcs HX;go_wp2_with fail;have h9:=HF2.out.setAll 1 rfl [B C lp,B C lc,B C lg,B C lv] rfl;refine bodyPost_ret (v:=.tuple #[.agg #[B C lp,B C lc,B C lg,B C lv],B C 0]) (by simp[results,results57,go_sem,z0,z1,z2,z3]) rfl ⟨lp,lc,lg,lv,0,rfl,HE.out,h9.xt⟩
def pI(l:List aF)(i c:Nat):Prop:=l[c]?=l[i]?∧c≤i∧∀j,j<c→l[j]?≠l[i]?
def Eh(l:List aF)(cls:List Int):Prop:=cls.length=l.length∧∀i,i<l.length→∃c:Nat,cls[i]?=some (c:Int)∧pI l i c
section
variable {l:List aF} {cls:List Int} {i k c c':Nat}
theorem pI.eq(h:pI l i c)(h':pI l k c')(hc:c<l.length):(c=c')↔l[i]?=l[k]?:=by
 constructor
 ·rintro rfl;rw[←h.1,←h'.1]
 ·intro e;rcases xK c c' with hl|hl|hl
  ·exact absurd (h.1.trans e) (h'.2.2 c hl)
  ·exact hl
  ·exact absurd (h'.1.trans e.symm) (h.2.2 c' hl)
theorem Bf(hc:Eh l cls){a:aF}(ha:l[i]?=some a):iH (l.map aF.st) cls i=true↔qx l a=true∧∀j,j<i→l[j]?≠some a:=by
 have hil:=(zY.1 ha).1;have hst:(l.map aF.st)[i]?=some a.st:=by simp[ha]
 obtain⟨ci,hci,hi⟩:=hc.2 i hil;have hcil:ci<l.length:=by have:=hi.2.1;omega
 rw[js hst,il];constructor
 ·rintro⟨h1,h2⟩;refine⟨⟨h1,fun d hd hv hid=>?_⟩,fun j hj e=>?_⟩
  ·obtain⟨k,hk⟩:=yZ hd;have hkl:=(zY.1 hk).1;obtain⟨ck,hck,hk'⟩:=hc.2 k hkl;have hag:=h2 k (by simpa using hkl);rw[ox hst (b:=d.st) (by simp[hk]) hci hck,hv,yU,Bool.or_eq_false_iff]at hag;have h3:=hag.1;unfold kh at h3;rw[decide_eq_false_iff_not]at h3;have hid':d.st.s=a.st.s∧d.st.q=a.st.q:=by
    unfold aF.id at hid;rw[jd.eq_iff]at hid;exact hid
   have hcc:ci=ck:=by
    by_cases e:ci=ck
    ·exact e
    ·exact absurd ⟨hid'.1.symm,hid'.2.symm,.inr (by omega)⟩ h3
   have:=(hi.eq hk' hcil).1 hcc;rw[ha,hk]at this;injection this with this;exact this.symm
  ·have hjl:=(zY.1 e).1;obtain⟨cj,hcj,_⟩:=hc.2 j hjl;have hag:=h2 j (by simpa using hjl);rw[ox hst (b:=a.st) (by simp[e]) hci hcj,h1,yU,Bool.or_eq_false_iff]at hag;have:=hag.2;simp[hj]at this
 ·rintro⟨⟨h1,h2⟩,h3⟩;refine⟨h1,fun k hk=>?_⟩;have hkl:k<l.length:=by simpa using hk
  have hd:l[k]?=some (l[k]'hkl):=zW _;obtain⟨ck,hck,hk'⟩:=hc.2 k hkl;rw[ox hst (b:=(l[k]'hkl).st) (by simp[hd]) hci hck];cases hv:im (l[k]'hkl).st with
  |false=>rfl
  |true =>
   rw[yU,Bool.or_eq_false_iff];have key:(l[k]'hkl).id=a.id→l[k]'hkl=a:=h2 _ (xX hkl) hv;constructor
   ·unfold kh;rw[decide_eq_false_iff_not];rintro⟨e1,e2,e3⟩;have e4:=key (by unfold aF.id;rw[jd.eq_iff];exact⟨e1.symm,e2.symm⟩);rcases e3 with e3|e3
    ·rw[e4]at e3;exact e3 rfl
    ·have:ci=ck:=(hi.eq hk' hcil).2 (by rw[ha,hd,e4]);omega
   ·by_cases hki:k<i
    ·rw[decide_eq_true hki,yU,decide_eq_false_iff_not];intro e;have e4:=key (by unfold aF.id;rw[e]);exact h3 k hki (by rw[hd,e4])
    ·rw[decide_eq_false hki];rfl
def jF(l:List aF)(out:List Int):List aF:=out.filterMap fun x=>l[x.toNat]?
theorem sT{x:Nat}{a:aF}(out:List Int)(h:l[x]?=some a):jF l (out++[(x:Int)])=jF l out++[a]:=by unfold jF;rw[List.filterMap_append];simp[h]
theorem Eg(hc:Eh l cls){out:List Int}(h:fy (l.map aF.st) cls l.length out):jF l out=bR l:=by
 refine oZ ?_ fun a=>?_
 ·unfold fB jF;rw[List.pairwise_filterMap];refine h.asc.imp_of_mem fun {x y} hx hy hxy a ha b hb=>?_;obtain⟨i,rfl,_,_⟩:=h.mem.1 hx;obtain⟨j,rfl,_,_⟩:=h.mem.1 hy;rw[yR]at ha hb;rw[sE (a:=a.st) (b:=b.st) (by simp[ha]) (by simp[hb])]at hxy;exact hxy
 ·unfold jF;rw[wA];constructor
  ·rintro⟨x,hx,ha⟩;obtain⟨i,rfl,hi,hci⟩:=h.mem.1 hx;rw[yR]at ha;exact⟨zU ha,((Bf hc ha).1 hci).1⟩
  ·rintro⟨hm,hcn⟩;obtain⟨i,hi⟩:=yZ hm;have hil:=(zY.1 hi).1;obtain⟨c,_,h1,h2,h3⟩:=hc.2 i hil;have hca:l[c]?=some a:=h1.trans hi;refine⟨(c:Int),h.mem.2 ⟨c,rfl,by omega,(Bf hc hca).2 ⟨hcn,fun j hj e=>h3 j hj (e.trans hi.symm)⟩⟩,by rw[yR];exact hca⟩
theorem FE{sts:List eD}{out:List Int}(h:fy sts cls n out):out.length≤n:=by rw[h.perm.length_eq];unfold kl;rw[zM];exact yL (xC _ _) (by simp)
end
end Go.Proofs.YtjgfgdcaocbfhaaGreat

