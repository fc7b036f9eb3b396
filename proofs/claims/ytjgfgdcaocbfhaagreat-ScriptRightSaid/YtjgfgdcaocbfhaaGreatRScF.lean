import Derived.Test.YtjgfgdcaocbfhaaGreatScI
import Derived.Test.YtjgfgdcaocbfhaaGreatRScB
set_option linter.all false
set_option maxRecDepth 100000
set_option maxHeartbeats 0
namespace Go.Proofs.YtjgfgdcaocbfhaaGreat
open Go.Value renaming int→A,slice→C
open Go.IntKind renaming i64→B
open Go.RowKit _root_.Go.Proofs.Tryz
theorem cH{s:aZ}{i:en}{l:List oy}{k:Nat}{c:oy}(hk:k=0)(hx:l[k]?=some c):eu s i l k=jb s i c:=by subst hk;exact th hx
theorem aj(v vi vl:Value)(s:aZ)(t:en)(l:List oy)(w:World){p:Nat}(hp:p<w.heap.size)(hs:aN p w v s)(ht:bN p w vi t)(hl:fF p w vl l)(hn1:t.sts.length≤1000)(hn2:t.pgs.length≤1000)(hn3:l.length≤1000000) :
  Calls prog 21 #[v,vi,vl] w fun e w'=>e=.returned (.bool (bU s t l))∧ab w w':=by
 have HS0:=zZ hs;have HT0:=zZ ht;obtain⟨vP,vB,vX,rfl,hP,hB,hX,hnum⟩:=hs;obtain⟨AP,nP,cP,rfl,-⟩:=hP.open_;obtain⟨AB,nB,cB,rfl,hnB,hcB,hmB,HLB⟩:=hB.open_;obtain⟨AX,nX,cX,rfl,-⟩:=hX.open_;obtain⟨vS,vG,rfl,hS,hG⟩:=ht;obtain⟨AS,nS,cS,rfl,-⟩:=hS.open_;obtain⟨AG,nG,cG,rfl,-⟩:=hG.open_;obtain⟨Al,nl,cl,rfl,hnl,hcl,hml,HLL⟩:=hl.open_;have HL:Bx (fF p w (C Al nl cl) l):=⟨hl⟩
 have HB0:Bx (gm p w (C AB nB cB) s.bk):=⟨hB⟩
 have HN:Bx (t.sts.length≤1000∧t.pgs.length≤1000):=⟨⟨hn1,hn2⟩⟩
 have hnl3:nl≤1000000:=by have:=HLL.out;omega
 clear hP hB hX hnum hS hG hn1 hn2 hl hn3;obtain⟨w1,hw1⟩:=nm (((w.alloc (.cells #[A B s.num,C AP nP cP,C AB nB cB,C AX nX cX] 27)).alloc (.cells #[C AS nS cS,C AG nG cG] 31)):World);have HF:Bx (ae w w1 [(w.heap.size,#[A B s.num,C AP nP cP,C AB nB cB,C AX nX cX],27),(w.heap.size+1,#[C AS nS cS,C AG nG cG],31)]):=⟨by rw[hw1];exact ((ae.start w).push _ _ rfl).push _ _ (by simp)⟩
 go_enter func21,ntmps21
 go_upto_region 1 with (fail)
 rw[←hw1];clear hw1;obtain⟨z0,z1,z2,z3⟩:=(HF.out.at_ 0 rfl).p4 rfl;obtain⟨i0,i1⟩:=(HF.out.at_ 1 rfl).p2 rfl;go_wp2_with fail;refine (iL _ _ s t _ (p:=p) (zP hp HF.out.xt.size) (HS0.out.ext HF.out.xt) (HT0.out.ext HF.out.xt) HN.out.1 HN.out.2).mono ?_;rintro e w2 ⟨rfl,hx2⟩;have HF2:=bx (HF.out.ext hx2);clear HF hx2 z0 z1 z2 z3 i0 i1;cases hb:aV s t with
 |false =>
  have HE:=zZ (Cv (l:=l) hb);clear hb;go_wp2_with fail;go_ret
  exact⟨aa HE.out.symm,HF2.out.xt⟩
 |true =>
 have HP:=zZ (fn hb);have HBL:=zZ hb;have hsn:0≤s.num∧s.num≤31:=HP.out.1.num;obtain⟨hsn1,hsn2⟩:=hsn;clear hb;go_wp2_with fail;go_loopw [7] (fun s7 wr=>∃k:Nat,s7=A B k∧k≤nl∧Bx (ae w wr [(w.heap.size,#[A B s.num,C AP nP cP,C AB nB cB,C AX nX cX],27),(w.heap.size+1,#[C AS nS cS,C AG nG cG],31)]∧∀j,j<k→eu s t l j=true)) (fun k _=>nl-(intOf k).toNat)
 case atStart=>exact⟨0,rfl,by omega,⟨⟨HF2.out,fun j hj=>by omega⟩⟩⟩
 case round =>
  obtain⟨k,rfl,hk,HR⟩:=hrel;have HFr:Bx (ae w wr [(w.heap.size,#[A B s.num,C AP nP cP,C AB nB cB,C AX nX cX],27),(w.heap.size+1,#[C AS nS cS,C AG nG cG],31)]):=⟨HR.out.1⟩
  have HA:Bx (∀j,j<k→eu s t l j=true):=⟨HR.out.2⟩
  clear HR HF2;by_cases hkn:k<nl
  ·obtain⟨bl,ol,_,_,rfl,-⟩:=HL.out.at_ hkn;obtain⟨y0,y1,y2,y3,y4,ps,an,A1,n1,c1,A2,n2,c2,HX,hi1,-,t0,t1,t2,t3,t4,t5,t6⟩:=fF.read HL.out HFr.out.xt hkn;obtain⟨_,_,_,e9,-,-,hm1,HN1⟩:=hi1.open_;cases e9;have HI1:=zZ hi1;have HKL:=zZ (show k<l.length by have:=HLL.out;omega);clear hi1;go_upto_region 7 with (fail)
   obtain⟨gs,hgs⟩:=nm wr.heap.size;obtain⟨w2,hw2⟩:=nm ((wr.alloc (.cells #[A B y0,A B y1,A B y2,A B y3,A B y4,C A1 n1 c1,C A2 n2 c2] 54)):World);have hx2:ab wr w2:=by rw[hw2];exact (zE _).alloc _
   have HF3:Bx (ae w w2 [(w.heap.size,#[A B s.num,C AP nP cP,C AB nB cB,C AX nX cX],27),(w.heap.size+1,#[C AS nS cS,C AG nG cG],31),(gs,#[A B y0,A B y1,A B y2,A B y3,A B y4,C A1 n1 c1,C A2 n2 c2],54)]):=⟨by rw[hw2];exact HFr.out.push _ _ hgs.symm⟩
   rw[←hw2,←hgs];clear hw2 hgs t0 t1 t2 t3 t4 t5 t6 hx2;clear HFr;have y2c:=(HF3.out.at_ 2 rfl).c 2 rfl;obtain⟨z0,z1,z2,z3⟩:=(HF3.out.at_ 0 rfl).p4 rfl;go_upto_region 8 with (go_at_call 47;refine (jM _ s y2 _ (HS0.out.ext HF3.out.xt)).mono ?_;rintro e w4 ⟨⟨fa,fb,fd,rfl,hfx0⟩,hx4⟩)
   have HFX:=zZ hfx0;obtain⟨gx,hgx⟩:=nm w4.heap.size;obtain⟨w5,hw5⟩:=nm ((w4.alloc (.cells #[A B fa,A B fb,A B fd] 83)):World);have HF5:Bx (ae w w5 [(w.heap.size,#[A B s.num,C AP nP cP,C AB nB cB,C AX nX cX],27),(w.heap.size+1,#[C AS nS cS,C AG nG cG],31),(gs,#[A B y0,A B y1,A B y2,A B y3,A B y4,C A1 n1 c1,C A2 n2 c2],54),(gx,#[A B fa,A B fb,A B fd],83)]):=⟨by rw[hw5];exact (HF3.out.ext hx4).push _ _ hgx.symm⟩
   rw[←hw5,←hgx];clear hw5 hfx0 hx4 hgx HF3 y2c z0 z1 z2 z3;have s0:=(HF5.out.at_ 0 rfl).c 0 rfl;have s2:=(HF5.out.at_ 0 rfl).c 2 rfl;obtain⟨t0,t1,t2,t3,t4,t5,t6⟩:=(HF5.out.at_ 2 rfl).p7 rfl;obtain⟨x0,x1,x2⟩:=(HF5.out.at_ 3 rfl).p3 rfl;have y5c:=t5;rcases xW k with hk0|hk0
   ·have hkg:decide ((k:Int)>0)=false:=by simp[hk0]
    have hkz:decide (0<k)=false:=by simp[hk0]
    have hkz2:¬0<k:=by omega
    have HG:=zZ (show eu s t l k=(true&&jb s t ⟨y0,y1,y2,y3,y4,ps,an⟩) by rw[yU];exact cH hk0 HX.out);clear hk0;cases hfx:aJ s.xp y2 with
    |none =>
     have HE:=zZ (show bU s t l=false from bO HKL.out (by rw[HG.out,nW hfx,wF]));clear hfx;as_aux_lemma =>
      refine zQ 99 fun we kS=>?_;refine zS 63 [(0,35),(1,36),(2,37),(3,38),(4,39),(5,40),(6,41),(7,42),(8,43),(9,44),(10,45),(11,46),(12,47),(13,48),(14,49),(15,50),(16,51),(17,52),(18,53),(19,54),(20,55),(21,56),(22,57),(23,58),(24,59),(25,60),(26,61),(27,62),(28,63),(29,64),(30,65),(31,66),(32,67),(33,68),(34,69),(35,70),(36,71),(37,72),(38,73),(39,74),(40,75),(41,76),(42,77),(43,78),(44,79),(45,80),(46,81),(47,82),(48,83),(49,84),(50,85),(51,86),(52,87),(53,88),(54,89),(55,90),(56,91),(57,92),(58,93),(59,94),(60,95),(61,96),(62,97)] kS ?_;iterate 3 (apply zT;exact⟨rfl,rfl⟩;(·intro _ _;go_simp;try with_reducible rfl);simp only[kA];exact rfl)
      iterate 13 (apply zK;exact⟨rfl,rfl⟩;simp only[kA];exact rfl)
      iterate 2 (apply zT;exact⟨rfl,rfl⟩;(·intro _ _;go_simp;try with_reducible rfl);simp only[kA];exact rfl)
      iterate 9 (apply zK;exact⟨rfl,rfl⟩;simp only[kA];exact rfl)
      iterate 2 (apply zT;exact⟨rfl,rfl⟩;(·intro _ _;go_simp;try with_reducible rfl);simp only[kA];exact rfl)
      iterate 5 (apply zK;exact⟨rfl,rfl⟩;simp only[kA];exact rfl)
      iterate 2 (apply zT;exact⟨rfl,rfl⟩;(·intro _ _;go_simp;try with_reducible rfl);simp only[kA];exact rfl)
      iterate 5 (apply zK;exact⟨rfl,rfl⟩;simp only[kA];exact rfl)
      iterate 2 (apply zT;exact⟨rfl,rfl⟩;(·intro _ _;go_simp;try with_reducible rfl);simp only[kA];exact rfl)
      iterate 5 (apply zK;exact⟨rfl,rfl⟩;simp only[kA];exact rfl)
      iterate 2 (apply zT;exact⟨rfl,rfl⟩;(·intro _ _;go_simp;try with_reducible rfl);simp only[kA];exact rfl)
      iterate 12 (apply zK;exact⟨rfl,rfl⟩;simp only[kA];exact rfl)
      (apply zT;exact⟨rfl,rfl⟩;(·intro _ _;go_simp;try with_reducible rfl);simp only[kA];exact rfl);refine zN (zD ?_);go_wp2_with fail;go_ret
      exact⟨aa HE.out.symm,HF5.out.xt.trans kS⟩
    |some x0 =>
     obtain rfl:x0=⟨fa,fb,fd⟩:=by have:=HFX.out;rw[hfx]at this;exact this
     rw[show (some (⟨fa,fb,fd⟩:dF)).isSome=true from rfl];obtain⟨nmq,hnm⟩:∃z,s.num*10000+fa=z:=⟨_,rfl⟩
     have hso:=pU (s:=s) (i:=t) (c:=⟨y0,y1,y2,y3,y4,ps,an⟩) hfx;simp only at hso;rw[hnm]at hso;have HSO:=zZ hso;clear hso;have hxb:=fw HP.out.1 (bh hfx).1;have hca:fa=y2:=(bh hfx).2;simp only at hxb;obtain⟨xb1,xb2,xb3,xb4,xb5,xb6⟩:=hxb;have m2:IntKind.i64.wrap (s.num*10000)=s.num*10000:=yQ _ (by omega);have m3:IntKind.i64.wrap (s.num*10000+fa)=nmq:=by rw[yQ _ (by omega)];exact hnm
     clear hnm;obtain⟨pq,bk,hpq,hbk,hbb,-,-,-⟩:=gQ HP.out.1 xb3 xb4;have hbn:=kJ hbb;have hnp:fA s fd=bk.length:=by unfold fA;rw[hbk];rfl
     have hbks:=HP.out.1.bks;obtain⟨r,rfl⟩:=zG xb3;rw[yR]at hpq hbk;have hrB:r<nB:=by have:=HLB.out;omega
     obtain⟨bB,oB,_,_,rfl,-⟩:=HB0.out.at_ hrB;obtain⟨Ab,nb,cb,b0,-,HNB⟩:=dQ HB0.out hbk HF5.out.xt.xt;have hnb:nb≤12:=by have:=HNB.out;omega
     have HNP:=zZ hnp;have HCA:=zZ hca;clear hfx HFX hpq hbk hbb hbn hnp hbks hca;have HG2:=zZ (show eu s t l k=jb s t ⟨y0,y1,y2,y3,y4,ps,an⟩ by rw[HG.out,yU]);refine zQ 99 fun w6 kS=>?_;refine zS 18 [(0,35),(1,36),(2,37),(3,38),(4,39),(5,40),(6,41),(7,42),(8,43),(9,44),(10,45),(11,46),(12,47),(13,48),(14,49),(15,50),(16,51),(17,52)] kS ?_;iterate 6 (apply zT;exact⟨rfl,rfl⟩;(·intro wk hk;have:=hk.cell s0;have:=hk.cell t0;have:=hk.cell t1;have:=hk.cell t3;have:=hk.cell t4;have:=hk.cell x0;have:=hk.cell x1;have:=hk.cell x2;go_simp;try with_reducible rfl);simp only[kA];exact rfl)
     iterate 9 (apply zK;exact⟨rfl,rfl⟩;simp only[kA];exact rfl)
     iterate 3 (apply zT;exact⟨rfl,rfl⟩;(·intro wk hk;have:=hk.cell s0;have:=hk.cell t0;have:=hk.cell t1;have:=hk.cell t3;have:=hk.cell t4;have:=hk.cell x0;have:=hk.cell x1;have:=hk.cell x2;go_simp;try with_reducible rfl);simp only[kA];exact rfl)
     refine zN ?_;by_cases q1:y0=nmq;case neg =>
      have HE:=zZ (show bU s t l=false from bO HKL.out (by rw[HG2.out,HSO.out];simp[q1]));have q1b:(y0 != nmq)=true:=by simp[q1]
      have q1c:(y0==nmq)=false:=by simp[q1]
      as_aux_lemma =>
       refine zS 9 [(18,53),(19,54),(20,55),(21,56),(22,57),(23,58),(24,59),(25,60),(26,61)] kS ?_;iterate 9 (apply zT;exact⟨rfl,rfl⟩;(·intro wk hk;have:=hk.cell s0;have:=hk.cell t0;have:=hk.cell t1;have:=hk.cell t3;have:=hk.cell t4;have:=hk.cell x0;have:=hk.cell x1;have:=hk.cell x2;go_simp;try with_reducible rfl);simp only[kA];exact rfl)
       refine zN ?_;try simp only[q1b,q1c,q1,decide_false,Bool.not_false]
       refine zS 36 [(27,62),(28,63),(29,64),(30,65),(31,66),(32,67),(33,68),(34,69),(35,70),(36,71),(37,72),(38,73),(39,74),(40,75),(41,76),(42,77),(43,78),(44,79),(45,80),(46,81),(47,82),(48,83),(49,84),(50,85),(51,86),(52,87),(53,88),(54,89),(55,90),(56,91),(57,92),(58,93),(59,94),(60,95),(61,96),(62,97)] kS ?_;iterate 2 (apply zT;exact⟨rfl,rfl⟩;(·intro wk hk;have:=hk.cell s0;have:=hk.cell t0;have:=hk.cell t1;have:=hk.cell t3;have:=hk.cell t4;have:=hk.cell x0;have:=hk.cell x1;have:=hk.cell x2;go_simp;try with_reducible rfl);simp only[kA];exact rfl)
       iterate 5 (apply zK;exact⟨rfl,rfl⟩;simp only[kA];exact rfl)
       iterate 2 (apply zT;exact⟨rfl,rfl⟩;(·intro wk hk;have:=hk.cell s0;have:=hk.cell t0;have:=hk.cell t1;have:=hk.cell t3;have:=hk.cell t4;have:=hk.cell x0;have:=hk.cell x1;have:=hk.cell x2;go_simp;try with_reducible rfl);simp only[kA];exact rfl)
       iterate 5 (apply zK;exact⟨rfl,rfl⟩;simp only[kA];exact rfl)
       iterate 2 (apply zT;exact⟨rfl,rfl⟩;(·intro wk hk;have:=hk.cell s0;have:=hk.cell t0;have:=hk.cell t1;have:=hk.cell t3;have:=hk.cell t4;have:=hk.cell x0;have:=hk.cell x1;have:=hk.cell x2;go_simp;try with_reducible rfl);simp only[kA];exact rfl)
       iterate 5 (apply zK;exact⟨rfl,rfl⟩;simp only[kA];exact rfl)
       iterate 2 (apply zT;exact⟨rfl,rfl⟩;(·intro wk hk;have:=hk.cell s0;have:=hk.cell t0;have:=hk.cell t1;have:=hk.cell t3;have:=hk.cell t4;have:=hk.cell x0;have:=hk.cell x1;have:=hk.cell x2;go_simp;try with_reducible rfl);simp only[kA];exact rfl)
       iterate 12 (apply zK;exact⟨rfl,rfl⟩;simp only[kA];exact rfl)
       (apply zT;exact⟨rfl,rfl⟩;(·intro wk hk;have:=hk.cell s0;have:=hk.cell t0;have:=hk.cell t1;have:=hk.cell t3;have:=hk.cell t4;have:=hk.cell x0;have:=hk.cell x1;have:=hk.cell x2;go_simp;try with_reducible rfl);simp only[kA];exact rfl);refine zN (zD ?_);go_wp2_with fail;go_ret
       exact⟨aa HE.out.symm,HF5.out.xt.trans kS⟩
     have q1b:(y0 != nmq)=false:=by simp[q1]
     refine zS 11 [(18,53),(19,54),(20,55),(21,56),(22,57),(23,58),(24,59),(25,60),(26,61),(27,62),(28,63)] kS ?_;iterate 11 (apply zT;exact⟨rfl,rfl⟩;(·intro wk hk;have:=hk.cell s0;have:=hk.cell t0;have:=hk.cell t1;have:=hk.cell t3;have:=hk.cell t4;have:=hk.cell x0;have:=hk.cell x1;have:=hk.cell x2;go_simp;try with_reducible rfl);simp only[kA];exact rfl)
     refine zN ?_;by_cases q2:y1=s.num;case neg =>
      have HE:=zZ (show bU s t l=false from bO HKL.out (by rw[HG2.out,HSO.out];simp[q2]));have q2b:(y1 != s.num)=true:=by simp[q2]
      have q2c:(y1==s.num)=false:=by simp[q2]
      clear q1 q2;as_aux_lemma =>
       refine zS 34 [(29,64),(30,65),(31,66),(32,67),(33,68),(34,69),(35,70),(36,71),(37,72),(38,73),(39,74),(40,75),(41,76),(42,77),(43,78),(44,79),(45,80),(46,81),(47,82),(48,83),(49,84),(50,85),(51,86),(52,87),(53,88),(54,89),(55,90),(56,91),(57,92),(58,93),(59,94),(60,95),(61,96),(62,97)] kS ?_;iterate 7 (apply zT;exact⟨rfl,rfl⟩;(·intro wk hk;have:=hk.cell s0;have:=hk.cell t0;have:=hk.cell t1;have:=hk.cell t3;have:=hk.cell t4;have:=hk.cell x0;have:=hk.cell x1;have:=hk.cell x2;go_simp;try with_reducible rfl);simp only[kA];exact rfl)
       iterate 5 (apply zK;exact⟨rfl,rfl⟩;simp only[kA];exact rfl)
       iterate 2 (apply zT;exact⟨rfl,rfl⟩;(·intro wk hk;have:=hk.cell s0;have:=hk.cell t0;have:=hk.cell t1;have:=hk.cell t3;have:=hk.cell t4;have:=hk.cell x0;have:=hk.cell x1;have:=hk.cell x2;go_simp;try with_reducible rfl);simp only[kA];exact rfl)
       iterate 5 (apply zK;exact⟨rfl,rfl⟩;simp only[kA];exact rfl)
       iterate 2 (apply zT;exact⟨rfl,rfl⟩;(·intro wk hk;have:=hk.cell s0;have:=hk.cell t0;have:=hk.cell t1;have:=hk.cell t3;have:=hk.cell t4;have:=hk.cell x0;have:=hk.cell x1;have:=hk.cell x2;go_simp;try with_reducible rfl);simp only[kA];exact rfl)
       iterate 12 (apply zK;exact⟨rfl,rfl⟩;simp only[kA];exact rfl)
       (apply zT;exact⟨rfl,rfl⟩;(·intro wk hk;have:=hk.cell s0;have:=hk.cell t0;have:=hk.cell t1;have:=hk.cell t3;have:=hk.cell t4;have:=hk.cell x0;have:=hk.cell x1;have:=hk.cell x2;go_simp;try with_reducible rfl);simp only[kA];exact rfl);refine zN (zD ?_);go_wp2_with fail;go_ret
       exact⟨aa HE.out.symm,HF5.out.xt.trans kS⟩
     have q2b:(y1 != s.num)=false:=by simp[q2]
     refine zS 7 [(29,64),(30,65),(31,66),(32,67),(33,68),(34,69),(35,70)] kS ?_;iterate 7 (apply zT;exact⟨rfl,rfl⟩;(·intro wk hk;have:=hk.cell s0;have:=hk.cell t0;have:=hk.cell t1;have:=hk.cell t3;have:=hk.cell t4;have:=hk.cell x0;have:=hk.cell x1;have:=hk.cell x2;go_simp;try with_reducible rfl);simp only[kA];exact rfl)
     refine zN ?_;by_cases q3:y3=fb;case neg =>
      have HE:=zZ (show bU s t l=false from bO HKL.out (by rw[HG2.out,HSO.out];simp[q3]));have q3b:(y3 != fb)=true:=by simp[q3]
      have q3c:(y3==fb)=false:=by simp[q3]
      clear q1 q2 q3;as_aux_lemma =>
       refine zS 27 [(36,71),(37,72),(38,73),(39,74),(40,75),(41,76),(42,77),(43,78),(44,79),(45,80),(46,81),(47,82),(48,83),(49,84),(50,85),(51,86),(52,87),(53,88),(54,89),(55,90),(56,91),(57,92),(58,93),(59,94),(60,95),(61,96),(62,97)] kS ?_;iterate 7 (apply zT;exact⟨rfl,rfl⟩;(·intro wk hk;have:=hk.cell s0;have:=hk.cell t0;have:=hk.cell t1;have:=hk.cell t3;have:=hk.cell t4;have:=hk.cell x0;have:=hk.cell x1;have:=hk.cell x2;go_simp;try with_reducible rfl);simp only[kA];exact rfl)
       iterate 5 (apply zK;exact⟨rfl,rfl⟩;simp only[kA];exact rfl)
       iterate 2 (apply zT;exact⟨rfl,rfl⟩;(·intro wk hk;have:=hk.cell s0;have:=hk.cell t0;have:=hk.cell t1;have:=hk.cell t3;have:=hk.cell t4;have:=hk.cell x0;have:=hk.cell x1;have:=hk.cell x2;go_simp;try with_reducible rfl);simp only[kA];exact rfl)
       iterate 12 (apply zK;exact⟨rfl,rfl⟩;simp only[kA];exact rfl)
       (apply zT;exact⟨rfl,rfl⟩;(·intro wk hk;have:=hk.cell s0;have:=hk.cell t0;have:=hk.cell t1;have:=hk.cell t3;have:=hk.cell t4;have:=hk.cell x0;have:=hk.cell x1;have:=hk.cell x2;go_simp;try with_reducible rfl);simp only[kA];exact rfl);refine zN (zD ?_);go_wp2_with fail;go_ret
       exact⟨aa HE.out.symm,HF5.out.xt.trans kS⟩
     have q3b:(y3 != fb)=false:=by simp[q3]
     refine zS 7 [(36,71),(37,72),(38,73),(39,74),(40,75),(41,76),(42,77)] kS ?_;iterate 7 (apply zT;exact⟨rfl,rfl⟩;(·intro wk hk;have:=hk.cell s0;have:=hk.cell t0;have:=hk.cell t1;have:=hk.cell t3;have:=hk.cell t4;have:=hk.cell x0;have:=hk.cell x1;have:=hk.cell x2;go_simp;try with_reducible rfl);simp only[kA];exact rfl)
     refine zN ?_;by_cases q4:y4=(r:Int)
     case neg =>
      have HE:=zZ (show bU s t l=false from bO HKL.out (by rw[HG2.out,HSO.out];simp[q4]));have q4b:(y4 != (r:Int))=true:=by simp[q4]
      have q4c:(y4==(r:Int))=false:=by simp[q4]
      clear q1 q2 q3 q4;as_aux_lemma =>
       refine zS 20 [(43,78),(44,79),(45,80),(46,81),(47,82),(48,83),(49,84),(50,85),(51,86),(52,87),(53,88),(54,89),(55,90),(56,91),(57,92),(58,93),(59,94),(60,95),(61,96),(62,97)] kS ?_;iterate 7 (apply zT;exact⟨rfl,rfl⟩;(·intro wk hk;have:=hk.cell s0;have:=hk.cell t0;have:=hk.cell t1;have:=hk.cell t3;have:=hk.cell t4;have:=hk.cell x0;have:=hk.cell x1;have:=hk.cell x2;go_simp;try with_reducible rfl);simp only[kA];exact rfl)
       iterate 12 (apply zK;exact⟨rfl,rfl⟩;simp only[kA];exact rfl)
       (apply zT;exact⟨rfl,rfl⟩;(·intro wk hk;have:=hk.cell s0;have:=hk.cell t0;have:=hk.cell t1;have:=hk.cell t3;have:=hk.cell t4;have:=hk.cell x0;have:=hk.cell x1;have:=hk.cell x2;go_simp;try with_reducible rfl);simp only[kA];exact rfl);refine zN (zD ?_);go_wp2_with fail;go_ret
       exact⟨aa HE.out.symm,HF5.out.xt.trans kS⟩
     have q4b:(y4 != (r:Int))=false:=by simp[q4]
     refine zS 7 [(43,78),(44,79),(45,80),(46,81),(47,82),(48,83),(49,84)] kS ?_;iterate 7 (apply zT;exact⟨rfl,rfl⟩;(·intro wk hk;have:=hk.cell s0;have:=hk.cell t0;have:=hk.cell t1;have:=hk.cell t3;have:=hk.cell t4;have:=hk.cell x0;have:=hk.cell x1;have:=hk.cell x2;go_simp;try with_reducible rfl);simp only[kA];exact rfl)
     refine zN ?_;have HS2:=zZ (show jb s t ⟨y0,y1,y2,y3,y4,ps,an⟩=(decide (ps.length=fA s (r:Int))&&(List.range ps.length).all (ka t fa ps)) by rw[HSO.out];simp only[decide_eq_true q1,decide_eq_true q2,decide_eq_true q3,decide_eq_true q4,yU]);clear q1 q2 q3 q4 HSO;by_cases q5:n1=nb;case neg =>
      have HE:=zZ (show bU s t l=false from bO HKL.out (by rw[HG2.out,HS2.out,decide_eq_false (by rw[HNP.out,HNB.out,HN1.out];exact q5)];rfl));have q5b:((n1:Int)!=(nb:Int))=true:=by simp;omega
      as_aux_lemma =>
       refine zS 13 [(50,85),(51,86),(52,87),(53,88),(54,89),(55,90),(56,91),(57,92),(58,93),(59,94),(60,95),(61,96),(62,97)] kS ?_;iterate 13 (apply zT;exact⟨rfl,rfl⟩;(·intro wk hk;have:=hk.cell s0;have:=hk.cell t0;have:=hk.cell t1;have:=hk.cell t3;have:=hk.cell t4;have:=hk.cell x0;have:=hk.cell x1;have:=hk.cell x2;have:=hk.cell t5;have:=hk.cell s2;have:=hk.cell b0;go_simp;try with_reducible rfl);simp only[kA];exact rfl)
       refine zN (zD ?_);go_wp2_with fail;go_ret
       exact⟨aa HE.out.symm,HF5.out.xt.trans kS⟩
     subst q5;have HS3:=zZ (show eu s t l k=(List.range ps.length).all (ka t fa ps) by rw[HG2.out,HS2.out,decide_eq_true (by rw[HNP.out,HNB.out,HN1.out]),yU]);have q5b:((n1:Int)!=(n1:Int))=false:=by simp
     refine zS 13 [(50,85),(51,86),(52,87),(53,88),(54,89),(55,90),(56,91),(57,92),(58,93),(59,94),(60,95),(61,96),(62,97)] kS ?_;iterate 13 (apply zT;exact⟨rfl,rfl⟩;(·intro wk hk;have:=hk.cell s0;have:=hk.cell t0;have:=hk.cell t1;have:=hk.cell t3;have:=hk.cell t4;have:=hk.cell x0;have:=hk.cell x1;have:=hk.cell x2;have:=hk.cell t5;have:=hk.cell s2;have:=hk.cell b0;go_simp;try with_reducible rfl);simp only[kA];exact rfl)
     refine zN (zD ?_);have HF6a:=bx (HF5.out.ext kS);clear q1b q2b q3b q4b q5b b0 s0 s2 t0 t1 t2 t3 t4 t5 t6 x0 x1 x2 y5c kS HF5 hkg hkz hkz2;obtain⟨w5,rfl⟩:=nm (w6:World);have HF5:=HF6a;clear HF6a;go_wp2_with fail;obtain⟨wo,rfl⟩:=nm (w5:World);as_aux_lemma =>
      go_loopw [11] (fun s11 wr=>∃m:Nat,s11=A B m∧m≤n1∧Bx (ae w wr [(w.heap.size,#[A B s.num,C AP nP cP,C (some ⟨bB,oB,none⟩) nB cB,C AX nX cX],27),(w.heap.size+1,#[C AS nS cS,C AG nG cG],31),(gs,#[A B y0,A B y1,A B y2,A B y3,A B y4,C A1 n1 c1,C A2 n2 c2],54),(gx,#[A B fa,A B fb,A B (r:Int)],83)]∧∀g,g<m→ka t fa ps g=true)) (fun m _=>n1-(intOf m).toNat)
      case atStart=>exact⟨0,rfl,by omega,⟨⟨HF5.out,fun g hg=>by omega⟩⟩⟩
      case round =>
       obtain⟨m,rfl,hm,HR⟩:=hrel;have HF6:Bx (ae w wr [(w.heap.size,#[A B s.num,C AP nP cP,C (some ⟨bB,oB,none⟩) nB cB,C AX nX cX],27),(w.heap.size+1,#[C AS nS cS,C AG nG cG],31),(gs,#[A B y0,A B y1,A B y2,A B y3,A B y4,C A1 n1 c1,C A2 n2 c2],54),(gx,#[A B fa,A B fb,A B (r:Int)],83)]):=⟨HR.out.1⟩
       have HM:Bx (∀g,g<m→ka t fa ps g=true):=⟨HR.out.2⟩
       clear HR HF5;have s5r:=(HF6.out.at_ 2 rfl).c 5 rfl;by_cases hmn:m<n1
       ·have i0:=(HF6.out.at_ 1 rfl).c 0 rfl;have i1:=(HF6.out.at_ 1 rfl).c 1 rfl;have x0:wr.cell? ⟨gs,2,none⟩=some (A B y2):=(HF6.out.at_ 2 rfl).c 2 rfl;rw[←HCA.out]at x0;obtain⟨b1,o1,z,hA1,hcz,HZ,-,-⟩:=HI1.out.at_ hmn;have HA1:=zZ hA1;clear hA1;go_upto_region 14 with (go_at_call 42;refine (jD _ t fa (m:Int) _ (p:=p) (HT0.out.ext HF6.out.xt)).mono ?_;rintro e w7 ⟨vc,vg,vt,vs,vq,vch,vA,vn,vcc,rfl,hyd,-,-,hx7⟩)
        obtain⟨gp,hgp⟩:=nm w7.heap.size;obtain⟨w8,hw8⟩:=nm ((w7.alloc (.cells #[A B vc,A B vg,A B vt,C vA vn vcc,A B vs,A B vq] 77)):World);have HF8:Bx (ae w w8 [(w.heap.size,#[A B s.num,C AP nP cP,C (some ⟨bB,oB,none⟩) nB cB,C AX nX cX],27),(w.heap.size+1,#[C AS nS cS,C AG nG cG],31),(gs,#[A B y0,A B y1,A B y2,A B y3,A B y4,C A1 n1 c1,C A2 n2 c2],54),(gx,#[A B fa,A B fb,A B (r:Int)],83)]):=⟨by rw[hw8];exact (HF6.out.ext hx7).ext ((zE _).alloc _)⟩
        have HB8:Bx (Bk w8 gp #[A B vc,A B vg,A B vt,C vA vn vcc,A B vs,A B vq] 77):=⟨by rw[hw8,hgp];exact Bk.new _ _ _⟩
        rw[←hw8,←hgp];have HYD:=zZ hyd;clear hw8 hgp hx7 hyd i0 i1 x0 HF6 s5r;cases hpf:bT t.pgs fa (m:Int) with
        |none =>
         have HE:=zZ (show bU s t l=false from bO HKL.out (by rw[HS3.out];exact dA (by rw[HN1.out];exact hmn) (by unfold ka;rw[hpf])));clear hpf HYD;refine zQ 99 fun we kS=>?_;refine zS 12 [(0,113),(1,114),(2,115),(3,116),(4,117),(5,118),(6,119),(7,120),(8,121),(9,122),(10,123),(11,124)] kS ?_;iterate 3 (apply zT;exact⟨rfl,rfl⟩;(·intro _ _;go_simp;try with_reducible rfl);simp only[kA];exact rfl)
         iterate 8 (apply zK;exact⟨rfl,rfl⟩;simp only[kA];exact rfl)
         (apply zT;exact⟨rfl,rfl⟩;(·intro _ _;go_simp;try with_reducible rfl);simp only[kA];exact rfl);refine zN (zD ?_);go_wp2_with fail;go_ret
         exact⟨aa HE.out.symm,HF8.out.xt.trans kS⟩
        |some q0 =>
         obtain rfl:q0=⟨vc,vg,vt,vch,⟨vs,vq⟩⟩:=by have:=HYD.out;rw[hpf]at this;exact this
         have HPO:=zZ (show ka t fa ps m=decide (vt=z) by unfold ka;rw[hpf,HZ.out]);clear hpf HYD;have v2:=HB8.out.c 2 rfl;have s5:w8.cell? ⟨gs,5,none⟩=some (C A1 n1 c1):=(HF8.out.at_ 2 rfl).c 5 rfl;rw[HA1.out]at s5;replace hcz:=HF8.out.xt.cell hcz;by_cases hz:vt=z
         ·rw[decide_eq_true hz]at HPO;have hzb:(vt != z)=false:=by simp[hz]
          clear hz;refine zQ 99 fun we kS=>?_;refine zS 12 [(0,113),(1,114),(2,115),(3,116),(4,117),(5,118),(6,119),(7,120),(8,121),(9,122),(10,123),(11,124)] kS ?_;iterate 12 (apply zT;exact⟨rfl,rfl⟩;(·intro wk hk;have:=hk.cell v2;have:=hk.cell s5;have:=hk.cell hcz;go_simp;try with_reducible rfl);simp only[kA];exact rfl)
          refine zN (zD ?_);have HF9:=zZ (HF8.out.ext kS);clear v2 s5 hcz hzb kS HF8 HB8;go_wp2_with fail;go_roundw
          case rel=>exact⟨m+1,by go_num,by omega,⟨⟨HF9.out,fun g hg=>by rcases zV g m with h|h;exact HM.out g h;obtain rfl:g=m:=(by omega);exact HPO.out⟩⟩⟩
          case measure=>simp[intOf];omega
         ·rw[decide_eq_false hz]at HPO;have HE:=zZ (show bU s t l=false from bO HKL.out (by rw[HS3.out];exact dA (by rw[HN1.out];exact hmn) HPO.out));have hzb:(vt != z)=true:=by simp[hz]
          clear hz;refine zQ 99 fun we kS=>?_;refine zS 12 [(0,113),(1,114),(2,115),(3,116),(4,117),(5,118),(6,119),(7,120),(8,121),(9,122),(10,123),(11,124)] kS ?_;iterate 12 (apply zT;exact⟨rfl,rfl⟩;(·intro wk hk;have:=hk.cell v2;have:=hk.cell s5;have:=hk.cell hcz;go_simp;try with_reducible rfl);simp only[kA];exact rfl)
          refine zN (zD ?_);go_wp2_with fail;go_ret
          exact⟨aa HE.out.symm,HF8.out.xt.trans kS⟩
       ·obtain rfl:m=n1:=by omega
        have HT:=zZ (show eu s t l k=true by rw[HS3.out];exact eC fun g hg=>HM.out g (by have:=HN1.out;omega));go_wp2_with fail;go_roundw
        case rel=>exact⟨k+1,by go_num,by omega,⟨⟨HF6.out.take 2,fun j hj=>by rcases zV j k with h|h;exact HA.out j h;obtain rfl:j=k:=(by omega);exact HT.out⟩⟩⟩
        case measure=>simp[intOf];omega
   ·obtain⟨m,hm⟩:∃m,m+1=k:=⟨k-1,by omega⟩
    have hmn:m<nl:=by omega
    obtain⟨u0,u1,u2,u3,u4,ups,uas,B1,k1,d1,B2,k2,d2,HU,-,-,u0c,-⟩:=fF.read HL.out HF5.out.xt hmn;have HG:=zZ (show eu s t l k=(decide (u0<y0)&&jb s t ⟨y0,y1,y2,y3,y4,ps,an⟩) by rw[←hm];exact tw (by rw[hm];exact HX.out) HU.out);have m1:IntKind.i64.wrap ((k:Int)-1)=(m:Int):=by rw[yQ _ (by omega)];omega
    have hkg:decide ((k:Int)>0)=true:=by simp;omega
    have hmm1:m+1≤k:=by omega
    have hmm2:k≤m+1:=by omega
    clear hm;cases hfx:aJ s.xp y2 with
    |none =>
     have HE:=zZ (show bU s t l=false from bO HKL.out (by rw[HG.out,nW hfx,wF]));clear hfx;as_aux_lemma =>
      refine zQ 99 fun we kS=>?_;refine zS 63 [(0,35),(1,36),(2,37),(3,38),(4,39),(5,40),(6,41),(7,42),(8,43),(9,44),(10,45),(11,46),(12,47),(13,48),(14,49),(15,50),(16,51),(17,52),(18,53),(19,54),(20,55),(21,56),(22,57),(23,58),(24,59),(25,60),(26,61),(27,62),(28,63),(29,64),(30,65),(31,66),(32,67),(33,68),(34,69),(35,70),(36,71),(37,72),(38,73),(39,74),(40,75),(41,76),(42,77),(43,78),(44,79),(45,80),(46,81),(47,82),(48,83),(49,84),(50,85),(51,86),(52,87),(53,88),(54,89),(55,90),(56,91),(57,92),(58,93),(59,94),(60,95),(61,96),(62,97)] kS ?_;iterate 3 (apply zT;exact⟨rfl,rfl⟩;(·intro _ _;go_simp;try with_reducible rfl);simp only[kA];exact rfl)
      iterate 13 (apply zK;exact⟨rfl,rfl⟩;simp only[kA];exact rfl)
      iterate 2 (apply zT;exact⟨rfl,rfl⟩;(·intro _ _;go_simp;try with_reducible rfl);simp only[kA];exact rfl)
      iterate 9 (apply zK;exact⟨rfl,rfl⟩;simp only[kA];exact rfl)
      iterate 2 (apply zT;exact⟨rfl,rfl⟩;(·intro _ _;go_simp;try with_reducible rfl);simp only[kA];exact rfl)
      iterate 5 (apply zK;exact⟨rfl,rfl⟩;simp only[kA];exact rfl)
      iterate 2 (apply zT;exact⟨rfl,rfl⟩;(·intro _ _;go_simp;try with_reducible rfl);simp only[kA];exact rfl)
      iterate 5 (apply zK;exact⟨rfl,rfl⟩;simp only[kA];exact rfl)
      iterate 2 (apply zT;exact⟨rfl,rfl⟩;(·intro _ _;go_simp;try with_reducible rfl);simp only[kA];exact rfl)
      iterate 5 (apply zK;exact⟨rfl,rfl⟩;simp only[kA];exact rfl)
      iterate 2 (apply zT;exact⟨rfl,rfl⟩;(·intro _ _;go_simp;try with_reducible rfl);simp only[kA];exact rfl)
      iterate 12 (apply zK;exact⟨rfl,rfl⟩;simp only[kA];exact rfl)
      (apply zT;exact⟨rfl,rfl⟩;(·intro _ _;go_simp;try with_reducible rfl);simp only[kA];exact rfl);refine zN (zD ?_);go_wp2_with fail;go_ret
      exact⟨aa HE.out.symm,HF5.out.xt.trans kS⟩
    |some x0 =>
     obtain rfl:x0=⟨fa,fb,fd⟩:=by have:=HFX.out;rw[hfx]at this;exact this
     rw[show (some (⟨fa,fb,fd⟩:dF)).isSome=true from rfl];obtain⟨nmq,hnm⟩:∃z,s.num*10000+fa=z:=⟨_,rfl⟩
     have hso:=pU (s:=s) (i:=t) (c:=⟨y0,y1,y2,y3,y4,ps,an⟩) hfx;simp only at hso;rw[hnm]at hso;have HSO:=zZ hso;clear hso;have hxb:=fw HP.out.1 (bh hfx).1;have hca:fa=y2:=(bh hfx).2;simp only at hxb;obtain⟨xb1,xb2,xb3,xb4,xb5,xb6⟩:=hxb;have m2:IntKind.i64.wrap (s.num*10000)=s.num*10000:=yQ _ (by omega);have m3:IntKind.i64.wrap (s.num*10000+fa)=nmq:=by rw[yQ _ (by omega)];exact hnm
     clear hnm;obtain⟨pq,bk,hpq,hbk,hbb,-,-,-⟩:=gQ HP.out.1 xb3 xb4;have hbn:=kJ hbb;have hnp:fA s fd=bk.length:=by unfold fA;rw[hbk];rfl
     have hbks:=HP.out.1.bks;obtain⟨r,rfl⟩:=zG xb3;rw[yR]at hpq hbk;have hrB:r<nB:=by have:=HLB.out;omega
     obtain⟨bB,oB,_,_,rfl,-⟩:=HB0.out.at_ hrB;obtain⟨Ab,nb,cb,b0,-,HNB⟩:=dQ HB0.out hbk HF5.out.xt.xt;have hnb:nb≤12:=by have:=HNB.out;omega
     have HNP:=zZ hnp;have HCA:=zZ hca;clear hfx HFX hpq hbk hbb hbn hnp hbks hca;by_cases hlt:u0<y0;case neg =>
      have HE:=zZ (show bU s t l=false from bO HKL.out (by rw[HG.out,decide_eq_false hlt];rfl));have hge:decide (u0≥y0)=true:=decide_eq_true (by omega);as_aux_lemma =>
       refine zQ 99 fun we kS=>?_;refine zS 63 [(0,35),(1,36),(2,37),(3,38),(4,39),(5,40),(6,41),(7,42),(8,43),(9,44),(10,45),(11,46),(12,47),(13,48),(14,49),(15,50),(16,51),(17,52),(18,53),(19,54),(20,55),(21,56),(22,57),(23,58),(24,59),(25,60),(26,61),(27,62),(28,63),(29,64),(30,65),(31,66),(32,67),(33,68),(34,69),(35,70),(36,71),(37,72),(38,73),(39,74),(40,75),(41,76),(42,77),(43,78),(44,79),(45,80),(46,81),(47,82),(48,83),(49,84),(50,85),(51,86),(52,87),(53,88),(54,89),(55,90),(56,91),(57,92),(58,93),(59,94),(60,95),(61,96),(62,97)] kS ?_;iterate 18 (apply zT;exact⟨rfl,rfl⟩;(·intro wk hk;have:=hk.cell s0;have:=hk.cell t0;have:=hk.cell t1;have:=hk.cell t3;have:=hk.cell t4;have:=hk.cell x0;have:=hk.cell x1;have:=hk.cell x2;have:=hk.cell u0c;go_simp;try with_reducible rfl);simp only[kA];exact rfl)
       iterate 9 (apply zK;exact⟨rfl,rfl⟩;simp only[kA];exact rfl)
       iterate 2 (apply zT;exact⟨rfl,rfl⟩;(·intro wk hk;have:=hk.cell s0;have:=hk.cell t0;have:=hk.cell t1;have:=hk.cell t3;have:=hk.cell t4;have:=hk.cell x0;have:=hk.cell x1;have:=hk.cell x2;have:=hk.cell u0c;go_simp;try with_reducible rfl);simp only[kA];exact rfl)
       iterate 5 (apply zK;exact⟨rfl,rfl⟩;simp only[kA];exact rfl)
       iterate 2 (apply zT;exact⟨rfl,rfl⟩;(·intro wk hk;have:=hk.cell s0;have:=hk.cell t0;have:=hk.cell t1;have:=hk.cell t3;have:=hk.cell t4;have:=hk.cell x0;have:=hk.cell x1;have:=hk.cell x2;have:=hk.cell u0c;go_simp;try with_reducible rfl);simp only[kA];exact rfl)
       iterate 5 (apply zK;exact⟨rfl,rfl⟩;simp only[kA];exact rfl)
       iterate 2 (apply zT;exact⟨rfl,rfl⟩;(·intro wk hk;have:=hk.cell s0;have:=hk.cell t0;have:=hk.cell t1;have:=hk.cell t3;have:=hk.cell t4;have:=hk.cell x0;have:=hk.cell x1;have:=hk.cell x2;have:=hk.cell u0c;go_simp;try with_reducible rfl);simp only[kA];exact rfl)
       iterate 5 (apply zK;exact⟨rfl,rfl⟩;simp only[kA];exact rfl)
       iterate 2 (apply zT;exact⟨rfl,rfl⟩;(·intro wk hk;have:=hk.cell s0;have:=hk.cell t0;have:=hk.cell t1;have:=hk.cell t3;have:=hk.cell t4;have:=hk.cell x0;have:=hk.cell x1;have:=hk.cell x2;have:=hk.cell u0c;go_simp;try with_reducible rfl);simp only[kA];exact rfl)
       iterate 12 (apply zK;exact⟨rfl,rfl⟩;simp only[kA];exact rfl)
       (apply zT;exact⟨rfl,rfl⟩;(·intro wk hk;have:=hk.cell s0;have:=hk.cell t0;have:=hk.cell t1;have:=hk.cell t3;have:=hk.cell t4;have:=hk.cell x0;have:=hk.cell x1;have:=hk.cell x2;have:=hk.cell u0c;go_simp;try with_reducible rfl);simp only[kA];exact rfl);refine zN (zD ?_);go_wp2_with fail;go_ret
       exact⟨aa HE.out.symm,HF5.out.xt.trans kS⟩
     have HG2:=zZ (show eu s t l k=jb s t ⟨y0,y1,y2,y3,y4,ps,an⟩ by rw[HG.out,decide_eq_true hlt,yU]);have hge:decide (u0≥y0)=false:=decide_eq_false (by omega);clear hlt;refine zQ 99 fun w6 kS=>?_;refine zS 18 [(0,35),(1,36),(2,37),(3,38),(4,39),(5,40),(6,41),(7,42),(8,43),(9,44),(10,45),(11,46),(12,47),(13,48),(14,49),(15,50),(16,51),(17,52)] kS ?_;iterate 18 (apply zT;exact⟨rfl,rfl⟩;(·intro wk hk;have:=hk.cell s0;have:=hk.cell t0;have:=hk.cell t1;have:=hk.cell t3;have:=hk.cell t4;have:=hk.cell x0;have:=hk.cell x1;have:=hk.cell x2;have:=hk.cell u0c;go_simp;try with_reducible rfl);simp only[kA];exact rfl)
     refine zN ?_;by_cases q1:y0=nmq;case neg =>
      have HE:=zZ (show bU s t l=false from bO HKL.out (by rw[HG2.out,HSO.out];simp[q1]));have q1b:(y0 != nmq)=true:=by simp[q1]
      have q1c:(y0==nmq)=false:=by simp[q1]
      as_aux_lemma =>
       refine zS 9 [(18,53),(19,54),(20,55),(21,56),(22,57),(23,58),(24,59),(25,60),(26,61)] kS ?_;iterate 9 (apply zT;exact⟨rfl,rfl⟩;(·intro wk hk;have:=hk.cell s0;have:=hk.cell t0;have:=hk.cell t1;have:=hk.cell t3;have:=hk.cell t4;have:=hk.cell x0;have:=hk.cell x1;have:=hk.cell x2;have:=hk.cell u0c;go_simp;try with_reducible rfl);simp only[kA];exact rfl)
       refine zN ?_;try simp only[q1b,q1c,q1,decide_false,Bool.not_false]
       refine zS 36 [(27,62),(28,63),(29,64),(30,65),(31,66),(32,67),(33,68),(34,69),(35,70),(36,71),(37,72),(38,73),(39,74),(40,75),(41,76),(42,77),(43,78),(44,79),(45,80),(46,81),(47,82),(48,83),(49,84),(50,85),(51,86),(52,87),(53,88),(54,89),(55,90),(56,91),(57,92),(58,93),(59,94),(60,95),(61,96),(62,97)] kS ?_;iterate 2 (apply zT;exact⟨rfl,rfl⟩;(·intro wk hk;have:=hk.cell s0;have:=hk.cell t0;have:=hk.cell t1;have:=hk.cell t3;have:=hk.cell t4;have:=hk.cell x0;have:=hk.cell x1;have:=hk.cell x2;have:=hk.cell u0c;go_simp;try with_reducible rfl);simp only[kA];exact rfl)
       iterate 5 (apply zK;exact⟨rfl,rfl⟩;simp only[kA];exact rfl)
       iterate 2 (apply zT;exact⟨rfl,rfl⟩;(·intro wk hk;have:=hk.cell s0;have:=hk.cell t0;have:=hk.cell t1;have:=hk.cell t3;have:=hk.cell t4;have:=hk.cell x0;have:=hk.cell x1;have:=hk.cell x2;have:=hk.cell u0c;go_simp;try with_reducible rfl);simp only[kA];exact rfl)
       iterate 5 (apply zK;exact⟨rfl,rfl⟩;simp only[kA];exact rfl)
       iterate 2 (apply zT;exact⟨rfl,rfl⟩;(·intro wk hk;have:=hk.cell s0;have:=hk.cell t0;have:=hk.cell t1;have:=hk.cell t3;have:=hk.cell t4;have:=hk.cell x0;have:=hk.cell x1;have:=hk.cell x2;have:=hk.cell u0c;go_simp;try with_reducible rfl);simp only[kA];exact rfl)
       iterate 5 (apply zK;exact⟨rfl,rfl⟩;simp only[kA];exact rfl)
       iterate 2 (apply zT;exact⟨rfl,rfl⟩;(·intro wk hk;have:=hk.cell s0;have:=hk.cell t0;have:=hk.cell t1;have:=hk.cell t3;have:=hk.cell t4;have:=hk.cell x0;have:=hk.cell x1;have:=hk.cell x2;have:=hk.cell u0c;go_simp;try with_reducible rfl);simp only[kA];exact rfl)
       iterate 12 (apply zK;exact⟨rfl,rfl⟩;simp only[kA];exact rfl)
       (apply zT;exact⟨rfl,rfl⟩;(·intro wk hk;have:=hk.cell s0;have:=hk.cell t0;have:=hk.cell t1;have:=hk.cell t3;have:=hk.cell t4;have:=hk.cell x0;have:=hk.cell x1;have:=hk.cell x2;have:=hk.cell u0c;go_simp;try with_reducible rfl);simp only[kA];exact rfl);refine zN (zD ?_);go_wp2_with fail;go_ret
       exact⟨aa HE.out.symm,HF5.out.xt.trans kS⟩
     have q1b:(y0 != nmq)=false:=by simp[q1]
     refine zS 11 [(18,53),(19,54),(20,55),(21,56),(22,57),(23,58),(24,59),(25,60),(26,61),(27,62),(28,63)] kS ?_;iterate 11 (apply zT;exact⟨rfl,rfl⟩;(·intro wk hk;have:=hk.cell s0;have:=hk.cell t0;have:=hk.cell t1;have:=hk.cell t3;have:=hk.cell t4;have:=hk.cell x0;have:=hk.cell x1;have:=hk.cell x2;have:=hk.cell u0c;go_simp;try with_reducible rfl);simp only[kA];exact rfl)
     refine zN ?_;by_cases q2:y1=s.num;case neg =>
      have HE:=zZ (show bU s t l=false from bO HKL.out (by rw[HG2.out,HSO.out];simp[q2]));have q2b:(y1 != s.num)=true:=by simp[q2]
      have q2c:(y1==s.num)=false:=by simp[q2]
      clear q1 q2;as_aux_lemma =>
       refine zS 34 [(29,64),(30,65),(31,66),(32,67),(33,68),(34,69),(35,70),(36,71),(37,72),(38,73),(39,74),(40,75),(41,76),(42,77),(43,78),(44,79),(45,80),(46,81),(47,82),(48,83),(49,84),(50,85),(51,86),(52,87),(53,88),(54,89),(55,90),(56,91),(57,92),(58,93),(59,94),(60,95),(61,96),(62,97)] kS ?_;iterate 7 (apply zT;exact⟨rfl,rfl⟩;(·intro wk hk;have:=hk.cell s0;have:=hk.cell t0;have:=hk.cell t1;have:=hk.cell t3;have:=hk.cell t4;have:=hk.cell x0;have:=hk.cell x1;have:=hk.cell x2;have:=hk.cell u0c;go_simp;try with_reducible rfl);simp only[kA];exact rfl)
       iterate 5 (apply zK;exact⟨rfl,rfl⟩;simp only[kA];exact rfl)
       iterate 2 (apply zT;exact⟨rfl,rfl⟩;(·intro wk hk;have:=hk.cell s0;have:=hk.cell t0;have:=hk.cell t1;have:=hk.cell t3;have:=hk.cell t4;have:=hk.cell x0;have:=hk.cell x1;have:=hk.cell x2;have:=hk.cell u0c;go_simp;try with_reducible rfl);simp only[kA];exact rfl)
       iterate 5 (apply zK;exact⟨rfl,rfl⟩;simp only[kA];exact rfl)
       iterate 2 (apply zT;exact⟨rfl,rfl⟩;(·intro wk hk;have:=hk.cell s0;have:=hk.cell t0;have:=hk.cell t1;have:=hk.cell t3;have:=hk.cell t4;have:=hk.cell x0;have:=hk.cell x1;have:=hk.cell x2;have:=hk.cell u0c;go_simp;try with_reducible rfl);simp only[kA];exact rfl)
       iterate 12 (apply zK;exact⟨rfl,rfl⟩;simp only[kA];exact rfl)
       (apply zT;exact⟨rfl,rfl⟩;(·intro wk hk;have:=hk.cell s0;have:=hk.cell t0;have:=hk.cell t1;have:=hk.cell t3;have:=hk.cell t4;have:=hk.cell x0;have:=hk.cell x1;have:=hk.cell x2;have:=hk.cell u0c;go_simp;try with_reducible rfl);simp only[kA];exact rfl);refine zN (zD ?_);go_wp2_with fail;go_ret
       exact⟨aa HE.out.symm,HF5.out.xt.trans kS⟩
     have q2b:(y1 != s.num)=false:=by simp[q2]
     refine zS 7 [(29,64),(30,65),(31,66),(32,67),(33,68),(34,69),(35,70)] kS ?_;iterate 7 (apply zT;exact⟨rfl,rfl⟩;(·intro wk hk;have:=hk.cell s0;have:=hk.cell t0;have:=hk.cell t1;have:=hk.cell t3;have:=hk.cell t4;have:=hk.cell x0;have:=hk.cell x1;have:=hk.cell x2;have:=hk.cell u0c;go_simp;try with_reducible rfl);simp only[kA];exact rfl)
     refine zN ?_;by_cases q3:y3=fb;case neg =>
      have HE:=zZ (show bU s t l=false from bO HKL.out (by rw[HG2.out,HSO.out];simp[q3]));have q3b:(y3 != fb)=true:=by simp[q3]
      have q3c:(y3==fb)=false:=by simp[q3]
      clear q1 q2 q3;as_aux_lemma =>
       refine zS 27 [(36,71),(37,72),(38,73),(39,74),(40,75),(41,76),(42,77),(43,78),(44,79),(45,80),(46,81),(47,82),(48,83),(49,84),(50,85),(51,86),(52,87),(53,88),(54,89),(55,90),(56,91),(57,92),(58,93),(59,94),(60,95),(61,96),(62,97)] kS ?_;iterate 7 (apply zT;exact⟨rfl,rfl⟩;(·intro wk hk;have:=hk.cell s0;have:=hk.cell t0;have:=hk.cell t1;have:=hk.cell t3;have:=hk.cell t4;have:=hk.cell x0;have:=hk.cell x1;have:=hk.cell x2;have:=hk.cell u0c;go_simp;try with_reducible rfl);simp only[kA];exact rfl)
       iterate 5 (apply zK;exact⟨rfl,rfl⟩;simp only[kA];exact rfl)
       iterate 2 (apply zT;exact⟨rfl,rfl⟩;(·intro wk hk;have:=hk.cell s0;have:=hk.cell t0;have:=hk.cell t1;have:=hk.cell t3;have:=hk.cell t4;have:=hk.cell x0;have:=hk.cell x1;have:=hk.cell x2;have:=hk.cell u0c;go_simp;try with_reducible rfl);simp only[kA];exact rfl)
       iterate 12 (apply zK;exact⟨rfl,rfl⟩;simp only[kA];exact rfl)
       (apply zT;exact⟨rfl,rfl⟩;(·intro wk hk;have:=hk.cell s0;have:=hk.cell t0;have:=hk.cell t1;have:=hk.cell t3;have:=hk.cell t4;have:=hk.cell x0;have:=hk.cell x1;have:=hk.cell x2;have:=hk.cell u0c;go_simp;try with_reducible rfl);simp only[kA];exact rfl);refine zN (zD ?_);go_wp2_with fail;go_ret
       exact⟨aa HE.out.symm,HF5.out.xt.trans kS⟩
     have q3b:(y3 != fb)=false:=by simp[q3]
     refine zS 7 [(36,71),(37,72),(38,73),(39,74),(40,75),(41,76),(42,77)] kS ?_;iterate 7 (apply zT;exact⟨rfl,rfl⟩;(·intro wk hk;have:=hk.cell s0;have:=hk.cell t0;have:=hk.cell t1;have:=hk.cell t3;have:=hk.cell t4;have:=hk.cell x0;have:=hk.cell x1;have:=hk.cell x2;have:=hk.cell u0c;go_simp;try with_reducible rfl);simp only[kA];exact rfl)
     refine zN ?_;by_cases q4:y4=(r:Int)
     case neg =>
      have HE:=zZ (show bU s t l=false from bO HKL.out (by rw[HG2.out,HSO.out];simp[q4]));have q4b:(y4 != (r:Int))=true:=by simp[q4]
      have q4c:(y4==(r:Int))=false:=by simp[q4]
      clear q1 q2 q3 q4;as_aux_lemma =>
       refine zS 20 [(43,78),(44,79),(45,80),(46,81),(47,82),(48,83),(49,84),(50,85),(51,86),(52,87),(53,88),(54,89),(55,90),(56,91),(57,92),(58,93),(59,94),(60,95),(61,96),(62,97)] kS ?_;iterate 7 (apply zT;exact⟨rfl,rfl⟩;(·intro wk hk;have:=hk.cell s0;have:=hk.cell t0;have:=hk.cell t1;have:=hk.cell t3;have:=hk.cell t4;have:=hk.cell x0;have:=hk.cell x1;have:=hk.cell x2;have:=hk.cell u0c;go_simp;try with_reducible rfl);simp only[kA];exact rfl)
       iterate 12 (apply zK;exact⟨rfl,rfl⟩;simp only[kA];exact rfl)
       (apply zT;exact⟨rfl,rfl⟩;(·intro wk hk;have:=hk.cell s0;have:=hk.cell t0;have:=hk.cell t1;have:=hk.cell t3;have:=hk.cell t4;have:=hk.cell x0;have:=hk.cell x1;have:=hk.cell x2;have:=hk.cell u0c;go_simp;try with_reducible rfl);simp only[kA];exact rfl);refine zN (zD ?_);go_wp2_with fail;go_ret
       exact⟨aa HE.out.symm,HF5.out.xt.trans kS⟩
     have q4b:(y4 != (r:Int))=false:=by simp[q4]
     refine zS 7 [(43,78),(44,79),(45,80),(46,81),(47,82),(48,83),(49,84)] kS ?_;iterate 7 (apply zT;exact⟨rfl,rfl⟩;(·intro wk hk;have:=hk.cell s0;have:=hk.cell t0;have:=hk.cell t1;have:=hk.cell t3;have:=hk.cell t4;have:=hk.cell x0;have:=hk.cell x1;have:=hk.cell x2;have:=hk.cell u0c;go_simp;try with_reducible rfl);simp only[kA];exact rfl)
     refine zN ?_;have HS2:=zZ (show jb s t ⟨y0,y1,y2,y3,y4,ps,an⟩=(decide (ps.length=fA s (r:Int))&&(List.range ps.length).all (ka t fa ps)) by rw[HSO.out];simp only[decide_eq_true q1,decide_eq_true q2,decide_eq_true q3,decide_eq_true q4,yU]);clear q1 q2 q3 q4 HSO;by_cases q5:n1=nb;case neg =>
      have HE:=zZ (show bU s t l=false from bO HKL.out (by rw[HG2.out,HS2.out,decide_eq_false (by rw[HNP.out,HNB.out,HN1.out];exact q5)];rfl));have q5b:((n1:Int)!=(nb:Int))=true:=by simp;omega
      as_aux_lemma =>
       refine zS 13 [(50,85),(51,86),(52,87),(53,88),(54,89),(55,90),(56,91),(57,92),(58,93),(59,94),(60,95),(61,96),(62,97)] kS ?_;iterate 13 (apply zT;exact⟨rfl,rfl⟩;(·intro wk hk;have:=hk.cell s0;have:=hk.cell t0;have:=hk.cell t1;have:=hk.cell t3;have:=hk.cell t4;have:=hk.cell x0;have:=hk.cell x1;have:=hk.cell x2;have:=hk.cell u0c;have:=hk.cell t5;have:=hk.cell s2;have:=hk.cell b0;go_simp;try with_reducible rfl);simp only[kA];exact rfl)
       refine zN (zD ?_);go_wp2_with fail;go_ret
       exact⟨aa HE.out.symm,HF5.out.xt.trans kS⟩
     subst q5;have HS3:=zZ (show eu s t l k=(List.range ps.length).all (ka t fa ps) by rw[HG2.out,HS2.out,decide_eq_true (by rw[HNP.out,HNB.out,HN1.out]),yU]);have q5b:((n1:Int)!=(n1:Int))=false:=by simp
     refine zS 13 [(50,85),(51,86),(52,87),(53,88),(54,89),(55,90),(56,91),(57,92),(58,93),(59,94),(60,95),(61,96),(62,97)] kS ?_;iterate 13 (apply zT;exact⟨rfl,rfl⟩;(·intro wk hk;have:=hk.cell s0;have:=hk.cell t0;have:=hk.cell t1;have:=hk.cell t3;have:=hk.cell t4;have:=hk.cell x0;have:=hk.cell x1;have:=hk.cell x2;have:=hk.cell u0c;have:=hk.cell t5;have:=hk.cell s2;have:=hk.cell b0;go_simp;try with_reducible rfl);simp only[kA];exact rfl)
     refine zN (zD ?_);have HF6a:=bx (HF5.out.ext kS);clear q1b q2b q3b q4b q5b b0 s0 s2 t0 t1 t2 t3 t4 t5 t6 x0 x1 x2 y5c kS HF5 u0c m1 hkg hge;obtain⟨w5,rfl⟩:=nm (w6:World);have HF5:=HF6a;clear HF6a;go_wp2_with fail;obtain⟨wo,rfl⟩:=nm (w5:World);as_aux_lemma =>
      go_loopw [11] (fun s11 wr=>∃m:Nat,s11=A B m∧m≤n1∧Bx (ae w wr [(w.heap.size,#[A B s.num,C AP nP cP,C (some ⟨bB,oB,none⟩) nB cB,C AX nX cX],27),(w.heap.size+1,#[C AS nS cS,C AG nG cG],31),(gs,#[A B y0,A B y1,A B y2,A B y3,A B y4,C A1 n1 c1,C A2 n2 c2],54),(gx,#[A B fa,A B fb,A B (r:Int)],83)]∧∀g,g<m→ka t fa ps g=true)) (fun m _=>n1-(intOf m).toNat)
      case atStart=>exact⟨0,rfl,by omega,⟨⟨HF5.out,fun g hg=>by omega⟩⟩⟩
      case round =>
       obtain⟨m,rfl,hm,HR⟩:=hrel;have HF6:Bx (ae w wr [(w.heap.size,#[A B s.num,C AP nP cP,C (some ⟨bB,oB,none⟩) nB cB,C AX nX cX],27),(w.heap.size+1,#[C AS nS cS,C AG nG cG],31),(gs,#[A B y0,A B y1,A B y2,A B y3,A B y4,C A1 n1 c1,C A2 n2 c2],54),(gx,#[A B fa,A B fb,A B (r:Int)],83)]):=⟨HR.out.1⟩
       have HM:Bx (∀g,g<m→ka t fa ps g=true):=⟨HR.out.2⟩
       clear HR HF5;have s5r:=(HF6.out.at_ 2 rfl).c 5 rfl;by_cases hmn:m<n1
       ·have i0:=(HF6.out.at_ 1 rfl).c 0 rfl;have i1:=(HF6.out.at_ 1 rfl).c 1 rfl;have x0:wr.cell? ⟨gs,2,none⟩=some (A B y2):=(HF6.out.at_ 2 rfl).c 2 rfl;rw[←HCA.out]at x0;obtain⟨b1,o1,z,hA1,hcz,HZ,-,-⟩:=HI1.out.at_ hmn;have HA1:=zZ hA1;clear hA1;go_upto_region 14 with (go_at_call 42;refine (jD _ t fa (m:Int) _ (p:=p) (HT0.out.ext HF6.out.xt)).mono ?_;rintro e w7 ⟨vc,vg,vt,vs,vq,vch,vA,vn,vcc,rfl,hyd,-,-,hx7⟩)
        obtain⟨gp,hgp⟩:=nm w7.heap.size;obtain⟨w8,hw8⟩:=nm ((w7.alloc (.cells #[A B vc,A B vg,A B vt,C vA vn vcc,A B vs,A B vq] 77)):World);have HF8:Bx (ae w w8 [(w.heap.size,#[A B s.num,C AP nP cP,C (some ⟨bB,oB,none⟩) nB cB,C AX nX cX],27),(w.heap.size+1,#[C AS nS cS,C AG nG cG],31),(gs,#[A B y0,A B y1,A B y2,A B y3,A B y4,C A1 n1 c1,C A2 n2 c2],54),(gx,#[A B fa,A B fb,A B (r:Int)],83)]):=⟨by rw[hw8];exact (HF6.out.ext hx7).ext ((zE _).alloc _)⟩
        have HB8:Bx (Bk w8 gp #[A B vc,A B vg,A B vt,C vA vn vcc,A B vs,A B vq] 77):=⟨by rw[hw8,hgp];exact Bk.new _ _ _⟩
        rw[←hw8,←hgp];have HYD:=zZ hyd;clear hw8 hgp hx7 hyd i0 i1 x0 HF6 s5r;cases hpf:bT t.pgs fa (m:Int) with
        |none =>
         have HE:=zZ (show bU s t l=false from bO HKL.out (by rw[HS3.out];exact dA (by rw[HN1.out];exact hmn) (by unfold ka;rw[hpf])));clear hpf HYD;refine zQ 99 fun we kS=>?_;refine zS 12 [(0,113),(1,114),(2,115),(3,116),(4,117),(5,118),(6,119),(7,120),(8,121),(9,122),(10,123),(11,124)] kS ?_;iterate 3 (apply zT;exact⟨rfl,rfl⟩;(·intro _ _;go_simp;try with_reducible rfl);simp only[kA];exact rfl)
         iterate 8 (apply zK;exact⟨rfl,rfl⟩;simp only[kA];exact rfl)
         (apply zT;exact⟨rfl,rfl⟩;(·intro _ _;go_simp;try with_reducible rfl);simp only[kA];exact rfl);refine zN (zD ?_);go_wp2_with fail;go_ret
         exact⟨aa HE.out.symm,HF8.out.xt.trans kS⟩
        |some q0 =>
         obtain rfl:q0=⟨vc,vg,vt,vch,⟨vs,vq⟩⟩:=by have:=HYD.out;rw[hpf]at this;exact this
         have HPO:=zZ (show ka t fa ps m=decide (vt=z) by unfold ka;rw[hpf,HZ.out]);clear hpf HYD;have v2:=HB8.out.c 2 rfl;have s5:w8.cell? ⟨gs,5,none⟩=some (C A1 n1 c1):=(HF8.out.at_ 2 rfl).c 5 rfl;rw[HA1.out]at s5;replace hcz:=HF8.out.xt.cell hcz;by_cases hz:vt=z
         ·rw[decide_eq_true hz]at HPO;have hzb:(vt != z)=false:=by simp[hz]
          clear hz;refine zQ 99 fun we kS=>?_;refine zS 12 [(0,113),(1,114),(2,115),(3,116),(4,117),(5,118),(6,119),(7,120),(8,121),(9,122),(10,123),(11,124)] kS ?_;iterate 12 (apply zT;exact⟨rfl,rfl⟩;(·intro wk hk;have:=hk.cell v2;have:=hk.cell s5;have:=hk.cell hcz;go_simp;try with_reducible rfl);simp only[kA];exact rfl)
          refine zN (zD ?_);have HF9:=zZ (HF8.out.ext kS);clear v2 s5 hcz hzb kS HF8 HB8;go_wp2_with fail;go_roundw
          case rel=>exact⟨m+1,by go_num,by omega,⟨⟨HF9.out,fun g hg=>by rcases zV g m with h|h;exact HM.out g h;obtain rfl:g=m:=(by omega);exact HPO.out⟩⟩⟩
          case measure=>simp[intOf];omega
         ·rw[decide_eq_false hz]at HPO;have HE:=zZ (show bU s t l=false from bO HKL.out (by rw[HS3.out];exact dA (by rw[HN1.out];exact hmn) HPO.out));have hzb:(vt != z)=true:=by simp[hz]
          clear hz;refine zQ 99 fun we kS=>?_;refine zS 12 [(0,113),(1,114),(2,115),(3,116),(4,117),(5,118),(6,119),(7,120),(8,121),(9,122),(10,123),(11,124)] kS ?_;iterate 12 (apply zT;exact⟨rfl,rfl⟩;(·intro wk hk;have:=hk.cell v2;have:=hk.cell s5;have:=hk.cell hcz;go_simp;try with_reducible rfl);simp only[kA];exact rfl)
          refine zN (zD ?_);go_wp2_with fail;go_ret
          exact⟨aa HE.out.symm,HF8.out.xt.trans kS⟩
       ·obtain rfl:m=n1:=by omega
        have HT:=zZ (show eu s t l k=true by rw[HS3.out];exact eC fun g hg=>HM.out g (by have:=HN1.out;omega));go_wp2_with fail;go_roundw
        case rel=>exact⟨k+1,by go_num,by omega,⟨⟨HF6.out.take 2,fun j hj=>by rcases zV j k with h|h;exact HA.out j h;obtain rfl:j=k:=(by omega);exact HT.out⟩⟩⟩
        case measure=>simp[intOf];omega
  ·obtain rfl:k=nl:=by omega
   have HE:=zZ (show bU s t l=true from qV HBL.out fun j hj=>HA.out j (by have:=HLL.out;omega));go_wp2_with fail;go_ret
   exact⟨aa HE.out.symm,HFr.out.xt⟩
end Go.Proofs.YtjgfgdcaocbfhaaGreat

