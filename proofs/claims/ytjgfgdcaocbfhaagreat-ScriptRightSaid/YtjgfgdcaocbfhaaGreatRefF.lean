import Derived.Test.YtjgfgdcaocbfhaaGreatH21
set_option linter.all false
set_option maxRecDepth 100000
set_option maxHeartbeats 0
namespace Go.Proofs.YtjgfgdcaocbfhaaGreat
open Go.Value renaming int→A,slice→C
open Go.IntKind renaming i64→B
open Go.RowKit _root_.Go.Proofs.Tryz
variable {k:Nat}
theorem d7.read{p b off n c:Nat}{w wx:World}{l:List dF}(h:d7 p w (C (some ⟨b,off,none⟩) n c) l)(hx:XT p w wx)(hk:k<n) :
  ∃xc xe xv:Int,Hid (l[k]?=some ⟨xc,xe,xv⟩)∧wx.cell? ⟨b,off+k*3,none⟩=some (A B xc)∧wx.cell? ⟨b,off+k*3+1,none⟩=some (A B xe)∧wx.cell? ⟨b,off+k*3+2,none⟩=some (A B xv):=by
 obtain⟨cs,⟨xc,xe,xv⟩,-,hc0,hR,hx'⟩:=(h.xt (iK.stab p) hx).cell_ hk;obtain⟨x0,x1,x2⟩:=oI hc0 hR;exact⟨xc,xe,xv,hx',x0,x1,x2⟩
theorem Bg{s:aZ}{q:gE}{b:List (List Int)}(hq:s.pap[k]?=some q)(hb:s.bk[k]?=some b):iA s k=(d9 q.code q.var q.ps&&(decide (q.code=s.num)&&(decide (q.var=(k:Int))&&eU q.code q.var q.ps b))):=by unfold iA;rw[hq,hb]
theorem fV{f:Nat→Bool}(h:∀j,j<k→f j=true):(List.range k).all f=true:=yS.2 fun j hj=>h j (zB.1 hj)
theorem kH(v:Value)(s:aZ)(w:World){p:Nat}(hs:aN p w v s) :
  Calls prog 55 #[v] w fun e w'=>e=.returned (A B (aw s))∧ab w w':=by
 obtain⟨vP,vB,vX,rfl,hP,hB,hX,hnum⟩:=hs;obtain⟨AP,nP,cP,rfl,hnP,hcP,hmP,HLP⟩:=hP.open_;obtain⟨AB,nB,cB,rfl,hnB,hcB,hmB,HLB⟩:=hB.open_;obtain⟨AX,nX,cX,rfl,hnX,hcX,hmX,HLX⟩:=hX.open_;have HR0:Bx (hY p w (C AP nP cP) s.pap∧gm p w (C AB nB cB) s.bk∧d7 p w (C AX nX cX) s.xp):=⟨⟨hP,hB,hX⟩⟩
 obtain⟨hm1,hm2⟩:=hnum;clear hP hB hX;by_cases c1:0≤s.num∧s.num≤31;case neg =>
  have HE:=zZ (qE c1);go_enter func55,ntmps55
  go_wp2_with fail;all_goals first
   |(exfalso;omega)
   |(go_ret;exact⟨ah HE.out.symm,(zE _).alloc _⟩)
 obtain⟨n1,n2⟩:=c1;by_cases c2:1≤nP∧nP≤4∧nX≤60;case neg =>
  have HE:=zZ (ro (s:=s) ⟨n1,n2⟩ (by rw[HLP.out,HLX.out];exact c2));go_enter func55,ntmps55
  go_wp2_with fail;all_goals first
   |(exfalso;omega)
   |(go_ret;exact⟨ah HE.out.symm,(zE _).alloc _⟩)
 obtain⟨p1,p2,x1⟩:=c2;by_cases c3:nB=nP;case neg =>
  have HE:=zZ (tz (s:=s) ⟨n1,n2⟩ (by rw[HLP.out,HLX.out];exact⟨p1,p2,x1⟩) (by rw[HLB.out,HLP.out];exact c3));go_enter func55,ntmps55
  go_wp2_with fail;all_goals first
   |(exfalso;omega)
   |(go_ret;exact⟨ah HE.out.symm,(zE _).alloc _⟩)
 subst c3;have HC3:Bx ((0≤s.num∧s.num≤31)∧(1≤s.pap.length∧s.pap.length≤4∧s.xp.length≤60)∧s.bk.length=s.pap.length):=⟨⟨⟨n1,n2⟩,by rw[HLP.out,HLX.out];exact⟨p1,p2,x1⟩,by rw[HLB.out,HLP.out]⟩⟩
 obtain⟨w1,hw1⟩:=nm ((w.alloc (.cells #[A B s.num,C AP nB cP,C AB nB cB,C AX nX cX] 27)):World);have HF:Bx (ae w w1 [(w.heap.size,#[A B s.num,C AP nB cP,C AB nB cB,C AX nX cX],27)]):=⟨by rw[hw1];exact (ae.start w).push _ _ rfl⟩
 obtain⟨z0,z1,z2,z3⟩:=(HF.out.at_ 0 rfl).p4 rfl;go_enter func55,ntmps55
 go_upto_region 1 with (fail)
 rw[←hw1];clear hw1;go_wp2_with fail;clear z0 z1 z2 z3;go_loopw [3] (fun s3 wr=>∃k:Nat,s3=A B k∧k≤nB∧Bx (ae w wr [(w.heap.size,#[A B s.num,C AP nB cP,C AB nB cB,C AX nX cX],27)]∧∀j,j<k→iA s j=true)) (fun k _=>nB-(intOf k).toNat)
 case atStart=>exact⟨0,rfl,by omega,⟨⟨HF.out,fun j hj=>by omega⟩⟩⟩
 case round =>
  obtain⟨k,rfl,hk,HR⟩:=hrel;clear HF;obtain⟨z0,z1,z2,z3⟩:=(HR.out.1.at_ 0 rfl).p4 rfl;by_cases hkn:k<nB
  ·obtain⟨bP,oP,_,_,rfl,-⟩:=HR0.out.1.at_ hkn;obtain⟨bB,oB,_,_,rfl,-⟩:=HR0.out.2.1.at_ hkn;have hqk:s.pap[k]?=some (s.pap[k]'(by have:=HLP.out;omega)):=zW _;have hbk:s.bk[k]?=some (s.bk[k]'(by have:=HLB.out;omega)):=zW _;generalize s.pap[k]'(by have:=HLP.out;omega)=q at hqk;generalize s.bk[k]'(by have:=HLB.out;omega)=bk at hbk;obtain⟨Aq,nq,cq,q0,q1,q2,hIQ,hq1,hq2⟩:=gj HR0.out.1 hqk HR.out.1.xt.xt;obtain⟨Ab,nb,cb,b0,hIB,-⟩:=dQ HR0.out.2.1 hbk HR.out.1.xt.xt;obtain⟨qc,qv,qs⟩:=q;simp only at q0 q1 q2 hIQ hq1 hq2;have HG:=zZ (Bg hqk hbk);have HI:Bx (kr p wr (C Aq nq cq) qs∧kL p wr (C Ab nb cb) bk):=⟨⟨hIQ,hIB⟩⟩
   clear hIQ hIB hqk hbk;have kS:wr.drew.cell? ⟨w.heap.size,0,none⟩=some (A B s.num)∧wr.drew.cell? ⟨w.heap.size,1,none⟩=some (C (some ⟨bP,oP,none⟩) nB cP)∧wr.drew.cell? ⟨w.heap.size,2,none⟩=some (C (some ⟨bB,oB,none⟩) nB cB)∧wr.drew.cell? ⟨bP,oP+k*3,none⟩=some (A B qc)∧wr.drew.cell? ⟨bP,oP+k*3+1,none⟩=some (A B qv)∧wr.drew.cell? ⟨bP,oP+k*3+2,none⟩=some (C Aq nq cq)∧wr.drew.cell? ⟨bB,oB+k,none⟩=some (C Ab nb cb):=⟨(HR.out.1.drew.at_ 0 rfl).c 0 rfl,(HR.out.1.drew.at_ 0 rfl).c 1 rfl,(HR.out.1.drew.at_ 0 rfl).c 2 rfl,q0,q1,q2,b0⟩
   have HFd:Bx (ae w wr.drew [(w.heap.size,#[A B s.num,C (some ⟨bP,oP,none⟩) nB cP,C (some ⟨bB,oB,none⟩) nB cB,C AX nX cX],27)]):=⟨HR.out.1.drew⟩
   have HA:Bx (∀j,j<k→iA s j=true):=⟨HR.out.2⟩
   go_upto_region 10 with (fail)
   clear q0 q1 q2 b0 z0 z1 z2 z3 HR;refine zR 99 (fun w'=>w'.cell? ⟨w.heap.size,0,none⟩=some (A B s.num)∧w'.cell? ⟨w.heap.size,1,none⟩=some (C (some ⟨bP,oP,none⟩) nB cP)∧w'.cell? ⟨w.heap.size,2,none⟩=some (C (some ⟨bB,oB,none⟩) nB cB)∧w'.cell? ⟨bP,oP+k*3,none⟩=some (A B qc)∧w'.cell? ⟨bP,oP+k*3+1,none⟩=some (A B qv)∧w'.cell? ⟨bP,oP+k*3+2,none⟩=some (C Aq nq cq)∧w'.cell? ⟨bB,oB+k,none⟩=some (C Ab nb cb)) ?_;refine zS 5 [(0,45),(1,46),(2,47),(3,48),(4,49)] kS ?_;iterate 5 (apply zT;exact⟨rfl,rfl⟩;(·intro _ _;go_simp;try with_reducible rfl);simp only[kA];exact rfl)
   refine zN (zO 5 (fun K hK=>?_));go_simp;refine (dG qc qv _ qs _ (p:=p) (HI.out.1.ext (aI.stab p) ((zE _).drew))).mono ?_;rintro e w2 ⟨rfl,hx2⟩;have HF2:=bx (HFd.out.ext hx2);have HI2:Bx (kr p w2 (C Aq nq cq) qs∧kL p w2 (C Ab nb cb) bk):=⟨(HI.out.1.ext (aI.stab p) ((zE _).drew)).ext (aI.stab p) hx2,(HI.out.2.ext (RI.stab p) ((zE _).drew)).ext (RI.stab p) hx2⟩
   have kS2:w2.cell? ⟨w.heap.size,0,none⟩=some (A B s.num)∧w2.cell? ⟨w.heap.size,1,none⟩=some (C (some ⟨bP,oP,none⟩) nB cP)∧w2.cell? ⟨w.heap.size,2,none⟩=some (C (some ⟨bB,oB,none⟩) nB cB)∧w2.cell? ⟨bP,oP+k*3,none⟩=some (A B qc)∧w2.cell? ⟨bP,oP+k*3+1,none⟩=some (A B qv)∧w2.cell? ⟨bP,oP+k*3+2,none⟩=some (C Aq nq cq)∧w2.cell? ⟨bB,oB+k,none⟩=some (C Ab nb cb):=⟨hx2.cell kS.1,hx2.cell kS.2.1,hx2.cell kS.2.2.1,hx2.cell kS.2.2.2.1,hx2.cell kS.2.2.2.2.1,hx2.cell kS.2.2.2.2.2.1,hx2.cell kS.2.2.2.2.2.2⟩
   clear hx2 kS HFd HI;cases h1:d9 qc qv qs with
   |false =>
    replace h1:=zZ h1;refine hK.out _ _ (fun _=>(kS2)) ?_;clear hK K;try simp only[kA]
    refine zS 2 [(6,51),(7,52)] kS2 ?_;iterate 2 (apply zT;exact⟨rfl,rfl⟩;(·intro _ _;go_simp;try with_reducible rfl);simp only[kA];exact rfl)
    refine zN (zS 9 [(8,53),(9,54),(10,55),(11,56),(12,57),(13,58),(14,59),(15,60),(16,61)] kS2 ?_);iterate 9 (apply zK;exact⟨rfl,rfl⟩;simp only[kA];exact rfl)
    refine zN (zS 2 [(17,62),(18,63)] kS2 ?_);iterate 2 (apply zT;exact⟨rfl,rfl⟩;(·intro _ _;go_simp;try with_reducible rfl);simp only[kA];exact rfl)
    refine zN (zS 8 [(19,64),(20,65),(21,66),(22,67),(23,68),(24,69),(25,70),(26,71)] kS2 ?_);iterate 8 (apply zK;exact⟨rfl,rfl⟩;simp only[kA];exact rfl)
    refine zN (zS 2 [(27,72),(28,73)] kS2 ?_);iterate 2 (apply zT;exact⟨rfl,rfl⟩;(·intro _ _;go_simp;try with_reducible rfl);simp only[kA];exact rfl)
    refine zN (zS 12 [(29,74),(30,75),(31,76),(32,77),(33,78),(34,79),(35,80),(36,81),(37,82),(38,83),(39,84),(40,85)] kS2 ?_);iterate 12 (apply zK;exact⟨rfl,rfl⟩;simp only[kA];exact rfl)
    refine zN (zS 1 [(41,86)] kS2 ?_);(apply zT;exact⟨rfl,rfl⟩;(·intro _ _;go_simp;try with_reducible rfl);simp only[kA];exact rfl);refine zN (zD ?_);clear kS2;have HF9:=zZ (ir HC3.out.1 HC3.out.2.1 HC3.out.2.2 (xR.2 ⟨k,zB.2 (by have:=HLP.out;omega),by rw[HG.out];simp[h1.out]⟩));go_wp2_with fail;go_ret
    exact⟨ah HF9.out.symm,HF2.out.xt⟩
   |true =>
    replace h1:=zZ h1;refine hK.out _ _ (fun _=>(kS2)) ?_;clear hK K;try simp only[kA]
    by_cases h2:qc=s.num;case neg =>
     have h2b:(qc != s.num)=true:=by simp[h2]
     have h2c:(qc==s.num)=false:=beq_eq_false_iff_ne.2 h2;replace h2:=zZ h2;refine zS 13 [(6,51),(7,52),(8,53),(9,54),(10,55),(11,56),(12,57),(13,58),(14,59),(15,60),(16,61),(17,62),(18,63)] kS2 ?_;iterate 13 (apply zT;exact⟨rfl,rfl⟩;(·intro _ _;go_simp;try with_reducible rfl);simp only[kA];exact rfl)
     refine zN (zS 8 [(19,64),(20,65),(21,66),(22,67),(23,68),(24,69),(25,70),(26,71)] kS2 ?_);iterate 8 (apply zK;exact⟨rfl,rfl⟩;simp only[kA];exact rfl)
     refine zN (zS 2 [(27,72),(28,73)] kS2 ?_);iterate 2 (apply zT;exact⟨rfl,rfl⟩;(·intro _ _;go_simp;try with_reducible rfl);simp only[kA];exact rfl)
     refine zN (zS 12 [(29,74),(30,75),(31,76),(32,77),(33,78),(34,79),(35,80),(36,81),(37,82),(38,83),(39,84),(40,85)] kS2 ?_);iterate 12 (apply zK;exact⟨rfl,rfl⟩;simp only[kA];exact rfl)
     refine zN (zS 1 [(41,86)] kS2 ?_);(apply zT;exact⟨rfl,rfl⟩;(·intro _ _;go_simp;try with_reducible rfl);simp only[kA];exact rfl);refine zN (zD ?_);clear kS2 h2b h2c;have HF9:=zZ (ir HC3.out.1 HC3.out.2.1 HC3.out.2.2 (xR.2 ⟨k,zB.2 (by have:=HLP.out;omega),by rw[HG.out];simp[h2.out]⟩));go_wp2_with fail;go_ret
     exact⟨ah HF9.out.symm,HF2.out.xt⟩
    have h2b:(qc != s.num)=false:=by simp[h2]
    have h2c:(qc==s.num)=true:=by simp[h2]
    replace h2:=zZ h2;by_cases h3:qv=(k:Int)
    case neg =>
     have h3b:(qv != (k:Int))=true:=by simp[h3]
     have h3c:(qv==(k:Int))=false:=beq_eq_false_iff_ne.2 h3;replace h3:=zZ h3;refine zS 23 [(6,51),(7,52),(8,53),(9,54),(10,55),(11,56),(12,57),(13,58),(14,59),(15,60),(16,61),(17,62),(18,63),(19,64),(20,65),(21,66),(22,67),(23,68),(24,69),(25,70),(26,71),(27,72),(28,73)] kS2 ?_;iterate 23 (apply zT;exact⟨rfl,rfl⟩;(·intro _ _;go_simp;try with_reducible rfl);simp only[kA];exact rfl)
     refine zN (zS 12 [(29,74),(30,75),(31,76),(32,77),(33,78),(34,79),(35,80),(36,81),(37,82),(38,83),(39,84),(40,85)] kS2 ?_);iterate 12 (apply zK;exact⟨rfl,rfl⟩;simp only[kA];exact rfl)
     refine zN (zS 1 [(41,86)] kS2 ?_);(apply zT;exact⟨rfl,rfl⟩;(·intro _ _;go_simp;try with_reducible rfl);simp only[kA];exact rfl);refine zN (zD ?_);clear kS2 h2b h2c h3b h3c;have HF9:=zZ (ir HC3.out.1 HC3.out.2.1 HC3.out.2.2 (xR.2 ⟨k,zB.2 (by have:=HLP.out;omega),by rw[HG.out];simp[h3.out]⟩));go_wp2_with fail;go_ret
     exact⟨ah HF9.out.symm,HF2.out.xt⟩
    have h3b:(qv != (k:Int))=false:=by simp[h3]
    have h3c:(qv==(k:Int))=true:=by simp[h3]
    replace h3:=zZ h3;refine zS 33 [(6,51),(7,52),(8,53),(9,54),(10,55),(11,56),(12,57),(13,58),(14,59),(15,60),(16,61),(17,62),(18,63),(19,64),(20,65),(21,66),(22,67),(23,68),(24,69),(25,70),(26,71),(27,72),(28,73),(29,74),(30,75),(31,76),(32,77),(33,78),(34,79),(35,80),(36,81),(37,82),(38,83)] kS2 ?_;iterate 33 (apply zT;exact⟨rfl,rfl⟩;(·intro _ _;go_simp;try with_reducible rfl);simp only[kA];exact rfl)
    refine zN (zO 39 (fun K hK=>?_));go_simp;refine (dx qc qv _ _ qs bk _ (p:=p) HI2.out.1 HI2.out.2).mono ?_;rintro e w3 ⟨rfl,hx3⟩;have HF3:=bx (HF2.out.ext hx3);have kS3:w3.cell? ⟨w.heap.size,0,none⟩=some (A B s.num)∧w3.cell? ⟨w.heap.size,1,none⟩=some (C (some ⟨bP,oP,none⟩) nB cP)∧w3.cell? ⟨w.heap.size,2,none⟩=some (C (some ⟨bB,oB,none⟩) nB cB)∧w3.cell? ⟨bP,oP+k*3,none⟩=some (A B qc)∧w3.cell? ⟨bP,oP+k*3+1,none⟩=some (A B qv)∧w3.cell? ⟨bP,oP+k*3+2,none⟩=some (C Aq nq cq)∧w3.cell? ⟨bB,oB+k,none⟩=some (C Ab nb cb):=⟨hx3.cell kS2.1,hx3.cell kS2.2.1,hx3.cell kS2.2.2.1,hx3.cell kS2.2.2.2.1,hx3.cell kS2.2.2.2.2.1,hx3.cell kS2.2.2.2.2.2.1,hx3.cell kS2.2.2.2.2.2.2⟩
    clear hx3 kS2 HF2;refine hK.out _ _ (fun _=>(kS3)) ?_;clear hK K;try simp only[kA]
    cases h4:eU qc qv qs bk with
    |false =>
     replace h4:=zZ h4;refine zS 2 [(40,85),(41,86)] kS3 ?_;iterate 2 (apply zT;exact⟨rfl,rfl⟩;(·intro _ _;go_simp;try with_reducible rfl);simp only[kA];exact rfl)
     refine zN (zD ?_);clear kS3 h2b h2c h3b h3c;have HF9:=zZ (ir HC3.out.1 HC3.out.2.1 HC3.out.2.2 (xR.2 ⟨k,zB.2 (by have:=HLP.out;omega),by rw[HG.out];simp[h4.out]⟩));go_wp2_with fail;go_ret
     exact⟨ah HF9.out.symm,HF3.out.xt⟩
    |true =>
     replace h4:=zZ h4;have HT:=zZ (show iA s k=true by rw[HG.out,h1.out,h4.out,decide_eq_true h2.out,decide_eq_true h3.out];rfl);refine zS 2 [(40,85),(41,86)] kS3 ?_;iterate 2 (apply zT;exact⟨rfl,rfl⟩;(·intro _ _;go_simp;try with_reducible rfl);simp only[kA];exact rfl)
     refine zN (zD ?_);clear kS3 h2b h2c h3b h3c;go_wp2_with fail;go_roundw
     case rel=>exact⟨k+1,by go_num,by omega,⟨⟨HF3.out,fun j hj=>by rcases zV j k with h|h;exact HA.out j h;obtain rfl:j=k:=(by omega);exact HT.out⟩⟩⟩
     case measure=>simp[intOf];omega
  ·obtain rfl:nB=k:=by omega
   have HCR:=zZ (kK HC3.out.1 HC3.out.2.1 HC3.out.2.2 (fV fun j hj=>HR.out.2 j (by have:=HLP.out;omega)));have HF2:Bx (ae w wr [(w.heap.size,#[A B s.num,C AP nB cP,C AB nB cB,C AX nX cX],27)]):=⟨HR.out.1⟩
   clear HR;go_wp2_with fail;clear z0 z1 z2 z3;go_loopw [4] (fun s4 wr=>∃k:Nat,s4=A B k∧k≤nX∧Bx (ae w wr [(w.heap.size,#[A B s.num,C AP nB cP,C AB nB cB,C AX nX cX],27)]∧∀(j:Nat) x,j<k→s.xp[j]?=some x→sx s.pap.length x=true)) (fun k _=>nX-(intOf k).toNat)
   case atStart=>exact⟨0,rfl,by omega,⟨⟨HF2.out,fun j x hj=>by omega⟩⟩⟩
   case round =>
    clear HF2;obtain⟨i,rfl,hi,HR⟩:=hrel;obtain⟨z0,z1,z2,z3⟩:=(HR.out.1.at_ 0 rfl).p4 rfl;by_cases hin:i<nX
    ·obtain⟨bX,oX,_,_,rfl,-⟩:=HR0.out.2.2.at_ hin;obtain⟨xc,xe,xv,HX,x0,x1,x2⟩:=d7.read HR0.out.2.2 HR.out.1.xt.xt hin;have HXG:Bx (sx s.pap.length ⟨xc,xe,xv⟩=decide (0≤xc∧xc≤9999∧1≤xe∧xe≤99∧0≤xv∧xv<(nB:Int))):=⟨by unfold sx;rw[HLP.out]⟩
     have hx9:ab wr (wr.alloc (.cells #[A B xc,A B xe,A B xv] 83)):=(zE _).alloc _;have HF9:=bx (HR.out.1.ext hx9);have HA:Bx (∀(j:Nat) x,j<i→s.xp[j]?=some x→sx s.pap.length x=true):=⟨HR.out.2⟩
     obtain⟨y0,y1,y2,y3⟩:=(HF9.out.at_ 0 rfl).p4 rfl;clear HR hx9;by_cases hg:0≤xc∧xc≤9999∧1≤xe∧xe≤99∧0≤xv∧xv<(nB:Int)
     ·obtain⟨g1,g2,g3,g4,g5,g6⟩:=hg;have HT:=zZ (show sx s.pap.length ⟨xc,xe,xv⟩=true by rw[HXG.out];exact decide_eq_true ⟨g1,g2,g3,g4,g5,g6⟩);go_wp2_with fail;go_roundw
      case rel=>exact⟨i+1,by go_num,by omega,⟨⟨HF9.out,fun j y hj hy=>by rcases zV j i with h|h;exact HA.out j y h hy;obtain rfl:j=i:=(by omega);rw[HX.out]at hy;injection hy with hy;subst hy;exact HT.out⟩⟩⟩
      case measure=>simp[intOf];omega
     ·have HE:=zZ (show aw s=2 by
       rw[HCR.out,if_pos];exact xR.2 ⟨⟨xc,xe,xv⟩,zU HX.out,by rw[HXG.out,decide_eq_false hg];simp⟩)
      go_wp2_with fail;all_goals first
       |(exfalso;omega)
       |(go_ret;exact⟨ah HE.out.symm,HF9.out.xt⟩)
    ·obtain rfl:nX=i:=by omega
     have HXA:=zZ (show s.xp.all (sx s.pap.length)=true from yS.2 fun y hy=>by obtain⟨j,hj⟩:=yZ hy;exact HR.out.2 j y (by have:=(zY.1 hj).1;have:=HLX.out;omega) hj)
     have HF2:Bx (ae w wr [(w.heap.size,#[A B s.num,C AP nB cP,C AB nB cB,C AX nX cX],27)]):=⟨HR.out.1⟩
     clear HR;go_wp2_with fail;clear z0 z1 z2 z3;go_loopw [6] (fun s6 wr=>∃k:Nat,s6=A B k∧1≤k∧(k≤nX∨k=1)∧Bx (ae w wr [(w.heap.size,#[A B s.num,C AP nB cP,C AB nB cB,C AX nX cX],27)]∧∀j,j+1<k→j6 s.xp j=true)) (fun k _=>nX+1-(intOf k).toNat)
     case atStart=>exact⟨1,rfl,by omega,by omega,⟨⟨HF2.out,fun j hj=>by omega⟩⟩⟩
     case round =>
      clear HF2;obtain⟨m,rfl,hm0,hm1,HR⟩:=hrel;obtain⟨z0,z1,z2,z3⟩:=(HR.out.1.at_ 0 rfl).p4 rfl;by_cases hmn:m<nX
      ·obtain⟨bX,oX,_,_,rfl,-⟩:=HR0.out.2.2.at_ hmn;obtain⟨m',hm'⟩:∃m',m'+1=m:=⟨m-1,by omega⟩
       have hmn':m'<nX:=by omega
       obtain⟨xc,xe,xv,HX,x0,-⟩:=d7.read HR0.out.2.2 HR.out.1.xt.xt hmn';obtain⟨yc,ye,yv,HY,y0,-⟩:=d7.read HR0.out.2.2 HR.out.1.xt.xt hmn;have HAG:=zZ (show j6 s.xp m'=decide (xc<yc) by unfold j6;rw[HX.out,show m'+1=m from hm',HY.out]);have hmm1:m'+1≤m:=by omega
       have hmm2:m≤m'+1:=by omega
       clear hm';have kS:wr.drew.cell? ⟨w.heap.size,3,none⟩=some (C (some ⟨bX,oX,none⟩) nX cX)∧wr.drew.cell? ⟨bX,oX+m'*3,none⟩=some (A B xc)∧wr.drew.cell? ⟨bX,oX+m*3,none⟩=some (A B yc):=⟨(HR.out.1.drew.at_ 0 rfl).c 3 rfl,x0,y0⟩
       clear x0 y0;have m1:IntKind.i64.wrap ((m:Int)-1)=(m':Int):=by rw[yQ _ (by omega)];omega
       go_upto_region 21 with (fail)
       refine zR 99 (fun w'=>w'.cell? ⟨w.heap.size,3,none⟩=some (C (some ⟨bX,oX,none⟩) nX cX)∧w'.cell? ⟨bX,oX+m'*3,none⟩=some (A B xc)∧w'.cell? ⟨bX,oX+m*3,none⟩=some (A B yc)) ?_;refine zS 14 [(0,137),(1,138),(2,139),(3,140),(4,141),(5,142),(6,143),(7,144),(8,145),(9,146),(10,147),(11,148),(12,149),(13,150)] kS ?_;iterate 14 (apply zT;exact⟨rfl,rfl⟩;(·intro _ _;go_simp;try with_reducible rfl);simp only[kA];exact rfl)
       refine zN (zD ?_);clear m1 kS z0 z1 z2 z3;by_cases hxy:xc<yc
       ·have HT:=zZ (show j6 s.xp m'=true by rw[HAG.out];exact decide_eq_true hxy);go_wp2_with fail;go_roundw
        case rel=>exact⟨m+1,by go_num,by omega,by omega,⟨⟨HR.out.1.drew,fun j hj=>by rcases zV (j+1) m with h|h;exact HR.out.2 j h;obtain rfl:j=m':=(by omega);exact HT.out⟩⟩⟩
        case measure=>simp[intOf];omega
       ·have HE:=zZ (show aw s=5 by
         rw[HCR.out,if_neg (by rw[HXA.out];simp),if_pos];exact xR.2 ⟨m',zB.2 (by have:=HLX.out;omega),by rw[HAG.out,decide_eq_false hxy];simp⟩)
        go_wp2_with fail;go_ret
        exact⟨ah HE.out.symm,HR.out.1.drew.xt⟩
      ·have HE:=zZ (show aw s=0 by
        rw[HCR.out,if_neg (by rw[HXA.out];simp),if_neg];rw[fV fun j hj=>HR.out.2 j (by have:=HLX.out;omega)];simp)
       go_wp2_with fail;go_ret
       exact⟨ah HE.out.symm,HR.out.1.xt⟩
end Go.Proofs.YtjgfgdcaocbfhaaGreat

