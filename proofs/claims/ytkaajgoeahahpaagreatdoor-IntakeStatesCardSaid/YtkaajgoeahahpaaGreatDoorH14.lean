import Derived.Test.YtkaajgoeahahpaaGreatDoorH13
import Derived.Maps.Own
import Derived.Maps.AppendAt
set_option linter.all false
set_option maxRecDepth 100000
set_option maxHeartbeats 0
namespace Go.Proofs.YtkaajgoeahahpaaGreatDoor
open Go.Value renaming int→B,slice→E
open Go.IntKind renaming i64→D
open Go.RowKit _root_.Go.Proofs.Tryz
variable {b base e g i j n p size:Nat} {w wx:World} {u v:Value}
theorem ms(v:Value)(l:List aj)(si qi:Int)(w:World)(hv:au p w v l) :
  Calls prog 31 #[v,.agg #[B D si,B D qi]] w (Gd l ⟨si,qi⟩ w):=by
 obtain⟨A,n,c,rfl,hnc,hcc,hnn,HL⟩:=hv.open_;have HV:Bx (au p w (E A n c) l):=⟨hv⟩
 clear hv;obtain⟨w1,hw1⟩:=nm (((w.alloc (.cells #[B D si,B D qi] 43)).alloc (.cells #[B D 0,B D 0,B D 0,B D 0] 45)):World);have HF:Bx (aA w w1 [(w.heap.size,#[B D si,B D qi],43),(w.heap.size+1,#[B D 0,B D 0,B D 0,B D 0],45)]):=⟨by rw[hw1];exact ((aA.start w).push _ _ rfl).push _ _ (by simp)⟩
 go_enter func31,ntmps31
 go_upto_region 1 with (fail)
 rw[<-hw1];clear hw1;go_wp2_with fail;go_loopw [6,7,8] (fun s6 s7 s8 wr=>∃(k:Nat) (a d:Int),s6=B D a/\s7=B D d/\s8=B D k/\k<=n/\Bx (aA w wr [(w.heap.size,#[B D si,B D qi],43),(w.heap.size+1,#[B D 0,B D 0,B D 0,B D 0],45)]/\fQ l ⟨si,qi⟩ k a/\cV l ⟨si,qi⟩ k d)) (fun _ _ k _=>n-(intOf k).toNat)
 case atStart=>exact⟨0,-1,-1,rfl,rfl,rfl,by omega,⟨⟨HF.out,fQ.zero _ _,cV.zero _ _⟩⟩⟩
 case round =>
  obtain⟨k,a,d,rfl,rfl,rfl,hk,HR⟩:=hrel;clear HF;by_cases hkn:k<n
  ·obtain⟨b,off,_,_,rfl,-⟩:=HV.out.at_ hkn;obtain⟨t,s,q,kd,ct,ts,tq,lp,lc,lg,lv,str,ch,Au,mu,cu,HX,hcs,-,-⟩:=au.read HV.out HR.out.1.xt.xt hkn;have HC:Bx (ka wr b (off+k*13) t s q kd ct ts tq lp lc lg lv str Au mu cu):=⟨hcs⟩
   have HS:Bx (dm ⟨si,qi⟩ ⟨⟨t,s,q⟩,kd,str,ct,ch,⟨ts,tq⟩,⟨lp,lc,lg,lv⟩⟩=(decide (kd=1)&&decide (s=si/\q=qi))):=⟨by unfold dm aj.id;congr 1;rw[yE];simp only[decide_eq_true_eq,gT.eq_iff]⟩
   have HD:Bx (fH ⟨si,qi⟩ ⟨⟨t,s,q⟩,kd,str,ct,ch,⟨ts,tq⟩,⟨lp,lc,lg,lv⟩⟩=((decide (kd=2)||decide (kd=3))&&decide (ts=si/\tq=qi))):=⟨by unfold fH;congr 1;rw[yE];simp only[decide_eq_true_eq,gT.eq_iff]⟩
   have HA:Bx (fQ l ⟨si,qi⟩ k a/\cV l ⟨si,qi⟩ k d):=⟨HR.out.2⟩
   have HF:Bx (aA w wr [(w.heap.size,#[B D si,B D qi],43),(w.heap.size+1,#[B D 0,B D 0,B D 0,B D 0],45)]):=⟨HR.out.1⟩
   clear HR hcs;go_upto_region 5 with (fail)
   go_cut [36] (fun s36 wx=>∃bb:Bool,s36=.bool bb/\Hid (bb=true/\fQ l ⟨si,qi⟩ (k+1) k\/bb=false/\fQ l ⟨si,qi⟩ (k+1) a)/\Bx (aA w wx [(w.heap.size,#[B D si,B D qi],43),(w.heap.size+1,#[B D 0,B D 0,B D 0,B D 0],45)]/\ka wx b (off+k*13) t s q kd ct ts tq lp lc lg lv str Au mu cu))
   case first =>
    have kS:wr.drew.cell? ⟨b,off+k*13,none⟩=some (B D t)/\wr.drew.cell? ⟨b,off+k*13+1,none⟩=some (B D s)/\wr.drew.cell? ⟨b,off+k*13+2,none⟩=some (B D q)/\wr.drew.cell? ⟨b,off+k*13+3,none⟩=some (B D kd)/\wr.drew.cell? ⟨b,off+k*13+4,none⟩=some (.string (ba str))/\wr.drew.cell? ⟨b,off+k*13+5,none⟩=some (B D ct)/\wr.drew.cell? ⟨b,off+k*13+6,none⟩=some (E Au mu cu)/\wr.drew.cell? ⟨b,off+k*13+7,none⟩=some (B D ts)/\wr.drew.cell? ⟨b,off+k*13+8,none⟩=some (B D tq)/\wr.drew.cell? ⟨b,off+k*13+9,none⟩=some (B D lp)/\wr.drew.cell? ⟨b,off+k*13+10,none⟩=some (B D lc)/\wr.drew.cell? ⟨b,off+k*13+11,none⟩=some (B D lg)/\wr.drew.cell? ⟨b,off+k*13+12,none⟩=some (B D lv)/\wr.drew.cell? ⟨w.heap.size,0,none⟩=some (B D si)/\wr.drew.cell? ⟨w.heap.size,1,none⟩=some (B D qi):=⟨(HC.out.ext (zE _).drew).c0,(HC.out.ext (zE _).drew).c1,(HC.out.ext (zE _).drew).c2,(HC.out.ext (zE _).drew).c3,(HC.out.ext (zE _).drew).c4,(HC.out.ext (zE _).drew).c5,(HC.out.ext (zE _).drew).c6,(HC.out.ext (zE _).drew).c7,(HC.out.ext (zE _).drew).c8,(HC.out.ext (zE _).drew).c9,(HC.out.ext (zE _).drew).c10,(HC.out.ext (zE _).drew).c11,(HC.out.ext (zE _).drew).c12,(HF.out.drew.at_ 0 rfl).c 0 rfl,(HF.out.drew.at_ 0 rfl).c 1 rfl⟩
    have HF0:Bx (aA w wr.drew [(w.heap.size,#[B D si,B D qi],43),(w.heap.size+1,#[B D 0,B D 0,B D 0,B D 0],45)]):=⟨HF.out.drew⟩
    have HC0:=bx (HC.out.ext (zE _).drew);refine zR 99 (fun w'=>w'.cell? ⟨b,off+k*13,none⟩=some (B D t)/\w'.cell? ⟨b,off+k*13+1,none⟩=some (B D s)/\w'.cell? ⟨b,off+k*13+2,none⟩=some (B D q)/\w'.cell? ⟨b,off+k*13+3,none⟩=some (B D kd)/\w'.cell? ⟨b,off+k*13+4,none⟩=some (.string (ba str))/\w'.cell? ⟨b,off+k*13+5,none⟩=some (B D ct)/\w'.cell? ⟨b,off+k*13+6,none⟩=some (E Au mu cu)/\w'.cell? ⟨b,off+k*13+7,none⟩=some (B D ts)/\w'.cell? ⟨b,off+k*13+8,none⟩=some (B D tq)/\w'.cell? ⟨b,off+k*13+9,none⟩=some (B D lp)/\w'.cell? ⟨b,off+k*13+10,none⟩=some (B D lc)/\w'.cell? ⟨b,off+k*13+11,none⟩=some (B D lg)/\w'.cell? ⟨b,off+k*13+12,none⟩=some (B D lv)/\w'.cell? ⟨w.heap.size,0,none⟩=some (B D si)/\w'.cell? ⟨w.heap.size,1,none⟩=some (B D qi)) ?_;by_cases h1:kd=1
    ·have h1b:(kd==1)=true:=by rw[h1];rfl
     have H1:=zZ h1;clear h1;refine zS 12 [(0,18),(1,19),(2,20),(3,21),(4,22),(5,23),(6,24),(7,25),(8,26),(9,27),(10,28),(12,30)] kS ?_;iterate 12 refine zT ?_
     refine zN (zO 11 (fun K hK=>?_));go_simp;refine (dN t s q kd ct ts tq lp lc lg lv _ Au mu cu _).mono ?_;rintro e w2 ⟨rfl,hx2⟩;have HF2:=bx (HF0.out.ext hx2);have HC2:=bx (HC0.out.ext hx2);have kS2:w2.cell? ⟨b,off+k*13,none⟩=some (B D t)/\w2.cell? ⟨b,off+k*13+1,none⟩=some (B D s)/\w2.cell? ⟨b,off+k*13+2,none⟩=some (B D q)/\w2.cell? ⟨b,off+k*13+3,none⟩=some (B D kd)/\w2.cell? ⟨b,off+k*13+4,none⟩=some (.string (ba str))/\w2.cell? ⟨b,off+k*13+5,none⟩=some (B D ct)/\w2.cell? ⟨b,off+k*13+6,none⟩=some (E Au mu cu)/\w2.cell? ⟨b,off+k*13+7,none⟩=some (B D ts)/\w2.cell? ⟨b,off+k*13+8,none⟩=some (B D tq)/\w2.cell? ⟨b,off+k*13+9,none⟩=some (B D lp)/\w2.cell? ⟨b,off+k*13+10,none⟩=some (B D lc)/\w2.cell? ⟨b,off+k*13+11,none⟩=some (B D lg)/\w2.cell? ⟨b,off+k*13+12,none⟩=some (B D lv)/\w2.cell? ⟨w.heap.size,0,none⟩=some (B D si)/\w2.cell? ⟨w.heap.size,1,none⟩=some (B D qi):=⟨HC2.out.c0,HC2.out.c1,HC2.out.c2,HC2.out.c3,HC2.out.c4,HC2.out.c5,HC2.out.c6,HC2.out.c7,HC2.out.c8,HC2.out.c9,HC2.out.c10,HC2.out.c11,HC2.out.c12,(HF2.out.at_ 0 rfl).c 0 rfl,(HF2.out.at_ 0 rfl).c 1 rfl⟩
     clear hx2 kS HF0 HC0;refine hK.out _ _ (fun _=>(kS2)) ?_;clear hK K;try simp only[kA]
     have eL:∀W,(Op.equalIn 10000 43 (.agg #[B D s,B D q]) (.agg #[B D si,B D qi])).run prog W=.ok (decide (s=si/\q=qi)) W:=fun W=>jW _ _ _ _ W;have gL:=fC;by_cases h2:s=si/\q=qi
     ·rw[decide_eq_true h2]at eL;have H2:=zZ h2;clear h2;refine zS 3 [(13,31),(14,32),(15,33)] kS2 ?_;iterate 3 refine zT ?_
      refine zN ?_;by_cases ha:a<0
      ·have hab:decide (a<0)=true:=decide_eq_true ha;refine zS 3 [(16,34),(17,35),(18,36)] kS2 ?_;iterate 3 refine zT ?_
       refine zN (zD ?_);clear eL gL;go_wp2_with fail;go_meet
       exact⟨true,rfl,.inl ⟨rfl,HA.out.1.new HX.out (by rw[HS.out,decide_eq_true H1.out,decide_eq_true H2.out];rfl) ha⟩,⟨⟨HF2.out,HC2.out⟩⟩⟩
      ·have hab:decide (a<0)=false:=decide_eq_false ha;refine zS 3 [(16,34),(17,35),(18,36)] kS2 ?_;iterate 3 refine zT ?_
       refine zN (zD ?_);clear eL gL;go_wp2_with fail;go_meet
       exact⟨false,rfl,.inr ⟨rfl,HA.out.1.old HX.out (by omega)⟩,⟨⟨HF2.out,HC2.out⟩⟩⟩
     ·rw[decide_eq_false h2]at eL;have H2:=zZ h2;clear h2;refine zS 3 [(13,31),(14,32),(15,33)] kS2 ?_;iterate 3 refine zT ?_
      refine zN (zS 2 [(16,34),(17,35)] kS2 ?_);iterate 2 (apply zK;exact⟨rfl,rfl⟩;simp only[kA];exact rfl)
      refine zN (zS 1 [(18,36)] kS2 ?_);refine zT ?_;refine zN (zD ?_);clear eL gL;go_wp2_with fail;go_meet
      exact⟨false,rfl,.inr ⟨rfl,HA.out.1.no HX.out (by rw[HS.out,decide_eq_false H2.out];simp)⟩,⟨⟨HF2.out,HC2.out⟩⟩⟩
    ·have h1b:(kd==1)=false:=beq_eq_false_iff_ne.2 h1;have H1:=zZ h1;clear h1;refine zS 7 [(0,18),(1,19),(2,20),(3,21),(4,22),(5,23),(6,24)] kS ?_;iterate 7 refine zT ?_
     refine zN (zS 7 [(7,25),(8,26),(9,27),(10,28),(11,29),(12,30),(13,31)] kS ?_);iterate 7 (apply zK;exact⟨rfl,rfl⟩;simp only[kA];exact rfl)
     refine zN (zS 2 [(14,32),(15,33)] kS ?_);iterate 2 refine zT ?_
     refine zN (zS 2 [(16,34),(17,35)] kS ?_);iterate 2 (apply zK;exact⟨rfl,rfl⟩;simp only[kA];exact rfl)
     refine zN (zS 1 [(18,36)] kS ?_);refine zT ?_;refine zN (zD ?_);go_wp2_with fail;go_meet
     exact⟨false,rfl,.inr ⟨rfl,HA.out.1.no HX.out (by rw[HS.out,decide_eq_false H1.out];rfl)⟩,⟨⟨HF0.out,HC0.out⟩⟩⟩
   case rest =>
   obtain⟨bb,rfl,hbb,HR⟩:=hcut;have HL1:Bx (cV l ⟨si,qi⟩ k d):=⟨HA.out.2⟩
   clear HF HC HA HS;go_upto_if 36 with (fail)
   go_cut [6] (fun s6 wx=>∃a':Int,s6=B D a'/\Bx (fQ l ⟨si,qi⟩ (k+1) a'/\aA w wx [(w.heap.size,#[B D si,B D qi],43),(w.heap.size+1,#[B D 0,B D 0,B D 0,B D 0],45)]/\ka wx b (off+k*13) t s q kd ct ts tq lp lc lg lv str Au mu cu))
   case first =>
    cases bb with
    |true =>
     go_wp2_with fail;go_meet
     refine⟨k,rfl,⟨⟨?_,HR.out⟩⟩⟩;rcases hbb.out with ⟨_,h⟩|⟨h,_⟩
     ·exact h
     ·cases h
    |false =>
     go_wp2_with fail;go_meet
     refine⟨a,rfl,⟨⟨?_,HR.out⟩⟩⟩;rcases hbb.out with ⟨h,_⟩|⟨_,h⟩
     ·cases h
     ·exact h
   case rest =>
   obtain⟨a',rfl,HA⟩:=hcut;clear HR hbb;go_upto_region 7 with (fail)
   go_cut [60] (fun s60 wx=>∃bb:Bool,s60=.bool bb/\Hid (bb=true/\cV l ⟨si,qi⟩ (k+1) k\/bb=false/\cV l ⟨si,qi⟩ (k+1) d)/\Bx (aA w wx [(w.heap.size,#[B D si,B D qi],43),(w.heap.size+1,#[B D 0,B D 0,B D 0,B D 0],45)]))
   case first =>
    have kS:wc.drew.cell? ⟨b,off+k*13+3,none⟩=some (B D kd)/\wc.drew.cell? ⟨b,off+k*13+7,none⟩=some (B D ts)/\wc.drew.cell? ⟨b,off+k*13+8,none⟩=some (B D tq)/\wc.drew.cell? ⟨w.heap.size,0,none⟩=some (B D si)/\wc.drew.cell? ⟨w.heap.size,1,none⟩=some (B D qi):=⟨HA.out.2.2.c3,HA.out.2.2.c7,HA.out.2.2.c8,(HA.out.2.1.drew.at_ 0 rfl).c 0 rfl,(HA.out.2.1.drew.at_ 0 rfl).c 1 rfl⟩
    have HF0:Bx (aA w wc.drew [(w.heap.size,#[B D si,B D qi],43),(w.heap.size+1,#[B D 0,B D 0,B D 0,B D 0],45)]):=⟨HA.out.2.1.drew⟩
    have eL:∀W,(Op.equalIn 10000 43 (.agg #[B D ts,B D tq]) (.agg #[B D si,B D qi])).run prog W=.ok (decide (ts=si/\tq=qi)) W:=fun W=>jW _ _ _ _ W;have gL:=fC;refine zR 99 (fun w'=>w'.cell? ⟨b,off+k*13+3,none⟩=some (B D kd)/\w'.cell? ⟨b,off+k*13+7,none⟩=some (B D ts)/\w'.cell? ⟨b,off+k*13+8,none⟩=some (B D tq)/\w'.cell? ⟨w.heap.size,0,none⟩=some (B D si)/\w'.cell? ⟨w.heap.size,1,none⟩=some (B D qi)) ?_;by_cases h23:kd=2\/kd=3
    ·by_cases h2':kd=2
     ·have h1b:(kd==2)=true:=by rw[h2'];rfl
      have HK:=zZ (show (decide (kd=2)||decide (kd=3))=true by rw[decide_eq_true h2'];rfl);clear h23 h2';refine zS 7 [(0,38),(1,39),(2,40),(3,41),(4,42),(5,43),(6,44)] kS ?_;iterate 7 refine zT ?_
      refine zN (zS 6 [(7,45),(8,46),(9,47),(10,48),(11,49),(12,50)] kS ?_);iterate 6 (apply zK;exact⟨rfl,rfl⟩;simp only[kA];exact rfl)
      refine zN (zS 2 [(13,51),(14,52)] kS ?_);iterate 2 refine zT ?_
      refine zN ?_;by_cases h2:ts=si/\tq=qi
      ·rw[decide_eq_true h2]at eL;have H2:=zZ h2;clear h2;refine zS 8 [(15,53),(16,54),(17,55),(18,56),(19,57),(20,58),(21,59),(22,60)] kS ?_;iterate 8 refine zT ?_
       refine zN (zD ?_);clear eL gL;go_wp2_with fail;go_meet
       exact⟨true,rfl,.inl ⟨rfl,cV.put HX.out (by rw[HD.out,decide_eq_true H2.out,HK.out];rfl)⟩,HF0⟩
      ·rw[decide_eq_false h2]at eL;have H2:=zZ h2;clear h2;refine zS 8 [(15,53),(16,54),(17,55),(18,56),(19,57),(20,58),(21,59),(22,60)] kS ?_;iterate 8 refine zT ?_
       refine zN (zD ?_);clear eL gL;go_wp2_with fail;go_meet
       exact⟨false,rfl,.inr ⟨rfl,HL1.out.no HX.out (by rw[HD.out,decide_eq_false H2.out];simp)⟩,HF0⟩
     ·have h3':kd=3:=by omega
      have h1b:(kd==2)=false:=beq_eq_false_iff_ne.2 h2';have h3b:(kd==3)=true:=by rw[h3'];rfl
      have HK:=zZ (show (decide (kd=2)||decide (kd=3))=true by rw[decide_eq_true h3'];simp);clear h23 h2' h3';refine zS 15 [(0,38),(1,39),(2,40),(3,41),(4,42),(5,43),(6,44),(7,45),(8,46),(9,47),(10,48),(11,49),(12,50),(13,51),(14,52)] kS ?_;iterate 15 refine zT ?_
      refine zN ?_;by_cases h2:ts=si/\tq=qi
      ·rw[decide_eq_true h2]at eL;have H2:=zZ h2;clear h2;refine zS 8 [(15,53),(16,54),(17,55),(18,56),(19,57),(20,58),(21,59),(22,60)] kS ?_;iterate 8 refine zT ?_
       refine zN (zD ?_);clear eL gL;go_wp2_with fail;go_meet
       exact⟨true,rfl,.inl ⟨rfl,cV.put HX.out (by rw[HD.out,decide_eq_true H2.out,HK.out];rfl)⟩,HF0⟩
      ·rw[decide_eq_false h2]at eL;have H2:=zZ h2;clear h2;refine zS 8 [(15,53),(16,54),(17,55),(18,56),(19,57),(20,58),(21,59),(22,60)] kS ?_;iterate 8 refine zT ?_
       refine zN (zD ?_);clear eL gL;go_wp2_with fail;go_meet
       exact⟨false,rfl,.inr ⟨rfl,HL1.out.no HX.out (by rw[HD.out,decide_eq_false H2.out];simp)⟩,HF0⟩
    ·have h1b:(kd==2)=false:=beq_eq_false_iff_ne.2 (by omega);have h3b:(kd==3)=false:=beq_eq_false_iff_ne.2 (by omega);have HK:=zZ (show (decide (kd=2)||decide (kd=3))=false by rw[decide_eq_false (by omega),decide_eq_false (by omega)];rfl);clear h23;refine zS 15 [(0,38),(1,39),(2,40),(3,41),(4,42),(5,43),(6,44),(7,45),(8,46),(9,47),(10,48),(11,49),(12,50),(13,51),(14,52)] kS ?_;iterate 15 refine zT ?_
     refine zN (zS 7 [(15,53),(16,54),(17,55),(18,56),(19,57),(20,58),(21,59)] kS ?_);iterate 7 (apply zK;exact⟨rfl,rfl⟩;simp only[kA];exact rfl)
     refine zN (zS 1 [(22,60)] kS ?_);refine zT ?_;refine zN (zD ?_);clear eL gL;go_wp2_with fail;go_meet
     exact⟨false,rfl,.inr ⟨rfl,HL1.out.no HX.out (by rw[HD.out,HK.out];rfl)⟩,HF0⟩
   case rest =>
   obtain⟨bb,rfl,hbb,HR⟩:=hcut;have HA1:Bx (fQ l ⟨si,qi⟩ (k+1) a'):=⟨HA.out.1⟩
   clear HA HL1;cases bb with
   |true =>
    go_wp2_with fail;go_roundw
    case rel =>
     refine⟨k+1,a',k,rfl,rfl,by go_num,by omega,⟨⟨HR.out,HA1.out,?_⟩⟩⟩;rcases hbb.out with ⟨_,h⟩|⟨h,_⟩
     ·exact h
     ·cases h
    case measure=>simp[intOf];omega
   |false =>
    go_wp2_with fail;go_roundw
    case rel =>
     refine⟨k+1,a',d,rfl,rfl,by go_num,by omega,⟨⟨HR.out,HA1.out,?_⟩⟩⟩;rcases hbb.out with ⟨h,_⟩|⟨_,h⟩
     ·cases h
     ·exact h
    case measure=>simp[intOf];omega
  ·obtain rfl:n=k:=by omega
   have HA:=HR.out.2.1;have HB:=HR.out.2.2;rw[<-HL.out]at HA HB;have HF2:Bx (aA w wr [(w.heap.size,#[B D si,B D qi],43),(w.heap.size+1,#[B D 0,B D 0,B D 0,B D 0],45)]):=⟨HR.out.1⟩
   clear HR;rcases By HA HB with ⟨ha,he⟩|⟨j,c0,ha,hj,h⟩
   ·have HE:=zZ he;subst ha;clear HA HB he;obtain⟨z0,z1,z2,z3⟩:=(HF2.out.at_ 1 rfl).p4 rfl;have f0:=(HF2.out.at_ 1 rfl).froz;have f1:=f0;have f2:=f0;have f3:=f0;go_wp2_with fail;have h9:=HF2.out.setAll 1 rfl [B D 0,B D 0,B D 0,B D 0] rfl;refine bodyPost_ret (v:=.tuple #[.agg #[B D 0,B D 0,B D 0,B D 0],B D 4]) (by simp[results,results31,go_sem,z0,z1,z2,z3]) rfl ⟨0,0,0,0,4,rfl,HE.out,h9.xt⟩
   ·have hjn:j<n:=by have:=(zY.1 hj).1;have:=HL.out;omega
    subst ha;clear HA HB;obtain⟨b,off,_,_,rfl,-⟩:=HV.out.at_ hjn;rcases h with ⟨hd,he⟩|⟨i,e0,hd,hi,he⟩
    ·subst hd;obtain⟨t,s,q,kd,ct,ts,tq,lp,lc,lg,lv,str,ch,Au,mu,cu,HX,hcs,-,-⟩:=au.read HV.out HF2.out.xt.xt hjn;have hcc:=HX.out;rw[hj]at hcc;injection hcc with hcc;subst hcc;have HE:=zZ he;have c4:=hcs.c4;clear he hj hcs HX;go_wp2_with fail;refine (Eg (ba str) _).mono ?_;rintro e w2 ⟨rp,rc,rg,rv,rn,rk,rfl,hrf,-,-,-,-,-,-,hx2⟩;rw[JR]at hrf;have hx3:=hx2.alloc (.cells #[B D rp,B D rc,B D rg,B D rv] 45);have HF3:=bx (HF2.out.ext hx3);by_cases hk0:rk=0
     ·subst hk0;have HO:=zZ (mA hrf);clear hrf hx2 hx3 c4 HF2;obtain⟨z0,z1,z2,z3⟩:=(HF3.out.at_ 1 rfl).p4 rfl;have f0:=(HF3.out.at_ 1 rfl).froz;have f1:=f0;have f2:=f0;have f3:=f0;go_wp2_with fail;have h9:=HF3.out.setAll 1 rfl [B D rp,B D rc,B D rg,B D rv] rfl;refine bodyPost_ret (v:=.tuple #[.agg #[B D rp,B D rc,B D rg,B D rv],B D 0]) (by simp[results,results31,go_sem,z0,z1,z2,z3]) rfl ⟨rp,rc,rg,rv,0,rfl,by rw[HE.out,HO.out],h9.xt⟩
     ·have HO:=zZ (mJ hrf hk0);have hkb:(rk != 0)=true:=by simp[hk0]
      replace hk0:=zZ hk0;clear hrf hx2 hx3 c4 HF2;obtain⟨z0,z1,z2,z3⟩:=(HF3.out.at_ 1 rfl).p4 rfl;have f0:=(HF3.out.at_ 1 rfl).froz;have f1:=f0;have f2:=f0;have f3:=f0;go_wp2_with fail;have h9:=HF3.out.setAll 1 rfl [B D 0,B D 0,B D 0,B D 0] rfl;refine bodyPost_ret (v:=.tuple #[.agg #[B D 0,B D 0,B D 0,B D 0],B D 4]) (by simp[results,results31,go_sem,z0,z1,z2,z3]) rfl ⟨0,0,0,0,4,rfl,by rw[HE.out,HO.out];rfl,h9.xt⟩
    ·subst hd;have hin:i<n:=by have:=(zY.1 hi).1;have:=HL.out;omega
     obtain⟨t,s,q,kd,ct,ts,tq,lp,lc,lg,lv,str,ch,Au,mu,cu,HX,hcs,-,-⟩:=au.read HV.out HF2.out.xt.xt hin;have hcc:=HX.out;rw[hi]at hcc;injection hcc with hcc;subst hcc;have c3:=hcs.c3;have c9:=hcs.c9;have c10:=hcs.c10;have c11:=hcs.c11;have c12:=hcs.c12;obtain⟨z0,z1,z2,z3⟩:=(HF2.out.at_ 1 rfl).p4 rfl;have f0:=(HF2.out.at_ 1 rfl).froz;have f1:=f0;have f2:=f0;have f3:=f0;simp only at he;by_cases hk3:kd=3
     ·rw[if_pos hk3]at he;have HE:=zZ he;have hkb:(kd==3)=true:=by rw[hk3];rfl
      replace hk3:=zZ hk3;clear he hi hj hcs HX;go_wp2_with fail;have h9:=HF2.out.setAll 1 rfl [B D 0,B D 0,B D 0,B D 0] rfl;refine bodyPost_ret (v:=.tuple #[.agg #[B D 0,B D 0,B D 0,B D 0],B D 6]) (by simp[results,results31,go_sem,z0,z1,z2,z3]) rfl ⟨0,0,0,0,6,rfl,HE.out,h9.xt⟩
     ·rw[if_neg hk3]at he;have HE:=zZ he;have hkb:(kd==3)=false:=beq_eq_false_iff_ne.2 hk3;replace hk3:=zZ hk3;clear he hi hj hcs HX;go_wp2_with fail;have h9:=HF2.out.setAll 1 rfl [B D lp,B D lc,B D lg,B D lv] rfl;refine bodyPost_ret (v:=.tuple #[.agg #[B D lp,B D lc,B D lg,B D lv],B D 0]) (by simp[results,results31,go_sem,z0,z1,z2,z3]) rfl ⟨lp,lc,lg,lv,0,rfl,HE.out,h9.xt⟩
def rr(l:List aj)(i c:Nat):Prop:=l[c]?=l[i]?/\c<=i/\∀j,j<c->l[j]?≠l[i]?
def If(l:List aj)(cls:List Int):Prop:=cls.length=l.length/\∀i,i<l.length->∃c:Nat,cls[i]?=some (c:Int)/\rr l i c
section
variable {l:List aj} {cls:List Int} {i k c c':Nat}
theorem rr.eq(h:rr l i c)(h':rr l k c')(hc:c<l.length):(c=c')↔l[i]?=l[k]?:=by
 constructor
 ·rintro rfl;rw[<-h.1,<-h'.1]
 ·intro e;rcases xO c c' with hl|hl|hl
  ·exact absurd (h.1.trans e) (h'.2.2 c hl)
  ·exact hl
  ·exact absurd (h'.1.trans e.symm) (h.2.2 c' hl)
theorem DV(hc:If l cls){a:aj}(ha:l[i]?=some a):iR (l.map aj.st) cls i=true↔qC l a=true/\∀j,j<i->l[j]?≠some a:=by
 have hil:=(zY.1 ha).1;have hst:(l.map aj.st)[i]?=some a.st:=by simp[ha]
 obtain⟨ci,hci,hi⟩:=hc.2 i hil;have hcil:ci<l.length:=by have:=hi.2.1;omega
 rw[gR hst,eu];constructor
 ·rintro⟨h1,h2⟩;refine⟨⟨h1,fun d hd hv hid=>?_⟩,fun j hj e=>?_⟩
  ·obtain⟨k,hk⟩:=zH hd;have hkl:=(zY.1 hk).1;obtain⟨ck,hck,hk'⟩:=hc.2 k hkl;have hag:=h2 k (by simpa using hkl);rw[jU hst (b:=d.st) (by simp[hk]) hci hck,hv,yK,vU]at hag;have h3:=hag.1;unfold iz at h3;rw[decide_eq_false_iff_not]at h3;have hid':d.st.s=a.st.s/\d.st.q=a.st.q:=by
    unfold aj.id at hid;rw[gT.eq_iff]at hid;exact hid
   have hcc:ci=ck:=by
    by_cases e:ci=ck
    ·exact e
    ·exact absurd ⟨hid'.1.symm,hid'.2.symm,.inr (by omega)⟩ h3
   have:=(hi.eq hk' hcil).1 hcc;rw[ha,hk]at this;injection this with this;exact this.symm
  ·have hjl:=(zY.1 e).1;obtain⟨cj,hcj,_⟩:=hc.2 j hjl;have hag:=h2 j (by simpa using hjl);rw[jU hst (b:=a.st) (by simp[e]) hci hcj,h1,yK,vU]at hag;have:=hag.2;simp[hj]at this
 ·rintro⟨⟨h1,h2⟩,h3⟩;refine⟨h1,fun k hk=>?_⟩;have hkl:k<l.length:=by simpa using hk
  have hd:l[k]?=some (l[k]'hkl):=zV _;obtain⟨ck,hck,hk'⟩:=hc.2 k hkl;rw[jU hst (b:=(l[k]'hkl).st) (by simp[hd]) hci hck];cases hv:dT (l[k]'hkl).st with
  |false=>rfl
  |true =>
   rw[yK,vU];have key:(l[k]'hkl).id=a.id->l[k]'hkl=a:=h2 _ (xC hkl) hv;constructor
   ·unfold iz;rw[decide_eq_false_iff_not];rintro⟨e1,e2,e3⟩;have e4:=key (by unfold aj.id;rw[gT.eq_iff];exact⟨e1.symm,e2.symm⟩);rcases e3 with e3|e3
    ·rw[e4]at e3;exact e3 rfl
    ·have:ci=ck:=(hi.eq hk' hcil).2 (by rw[ha,hd,e4]);omega
   ·by_cases hki:k<i
    ·rw[decide_eq_true hki,yK,decide_eq_false_iff_not];intro e;have e4:=key (by unfold aj.id;rw[e]);exact h3 k hki (by rw[hd,e4])
    ·rw[decide_eq_false hki];rfl
def eM(l:List aj)(out:List Int):List aj:=out.filterMap fun x=>l[x.toNat]?
theorem AJ{x:Nat}{a:aj}(out:List Int)(h:l[x]?=some a):eM l (out++[(x:Int)])=eM l out++[a]:=by unfold eM;rw[List.filterMap_append];simp[h]
theorem FW(hc:If l cls){out:List Int}(h:eQ (l.map aj.st) cls l.length out):eM l out=ay l:=by
 refine ir ?_ fun a=>?_
 ·unfold iT eM;rw[List.pairwise_filterMap];refine h.asc.imp_of_mem fun {x y} hx hy hxy a ha b hb=>?_;obtain⟨i,rfl,_,_⟩:=h.mem.1 hx;obtain⟨j,rfl,_,_⟩:=h.mem.1 hy;rw[yC]at ha hb;rw[pi (a:=a.st) (b:=b.st) (by simp[ha]) (by simp[hb])]at hxy;exact hxy
 ·unfold eM;rw[List.mem_filterMap];constructor
  ·rintro⟨x,hx,ha⟩;obtain⟨i,rfl,hi,hci⟩:=h.mem.1 hx;rw[yC]at ha;exact⟨zW ha,((DV hc ha).1 hci).1⟩
  ·rintro⟨hm,hcn⟩;obtain⟨i,hi⟩:=zH hm;have hil:=(zY.1 hi).1;obtain⟨c,_,h1,h2,h3⟩:=hc.2 i hil;have hca:l[c]?=some a:=h1.trans hi;refine⟨(c:Int),h.mem.2 ⟨c,rfl,by omega,(DV hc hca).2 ⟨hcn,fun j hj e=>h3 j hj (e.trans hi.symm)⟩⟩,by rw[yC];exact hca⟩
theorem D9{sts:List bN}{out:List Int}(h:eQ sts cls n out):out.length<=n:=by rw[h.perm.length_eq];unfold kh;rw[zJ];exact yR (uP _ _) (by simp)
end
theorem Tryz.infoStp:(prog.info? 41).map (fun i=>(i.zero,i.size,i.bytes))=some (some (.agg #[B D 0,B D 0,B D 0]),3,24):=by kernel_rfl
structure jY (base p:Nat) (w:World) (v:Value) (ys:List (aj×Value)):Prop where
 own:da base 47 13 fZ w v ys
 el:∀y∈ys,ak p w y.2 y.1.ch/\y.1.wf
theorem jY.isCs{ys:List (aj×Value)}(h:jY base p w v ys)(hp:p<base):au p w v (ys.map Prod.fst):=by
 refine bj.of_own (e:=47) (ys.map fZ) (fun cs hcs=>by obtain⟨y,_,rfl⟩:=zF.1 hcs;rfl) (by decide) (by simp) (by rw[zJ];exact h.own) hp ?_;intro k cs x hcs hx;simp only[zP,yO]at hcs hx;obtain⟨y,hy,rfl⟩:=hcs;obtain⟨z,hz,rfl⟩:=hx;rw[hy]at hz;injection hz with hz;subst hz
 have hm:=h.el y (zW hy);exact⟨y.2,rfl,hm.1,hm.2⟩
theorem jY.ext{base p:Nat}{w w':World}{v:Value}{ys:List (aj×Value)}(h:jY base p w v ys)(e:ab w w'):jY base p w' v ys:=⟨h.own.ext e,fun y hy=>⟨(h.el y hy).1.ext e,(h.el y hy).2⟩⟩
theorem jY.nil(base p:Nat)(w:World):jY base p w (E none 0 0) []:=⟨da.nil,fun y h=>by simp at h⟩
theorem au.wfs{l:List aj}(h:au p w v l):∀c∈l,c.wf:=by intro c hc;obtain⟨k,hk⟩:=zH hc;obtain⟨A,cc,rfl,h1,h2,h4⟩:=h;obtain⟨b,off,cs,_,_,_,_,u,_,_,hw⟩:=h4 k c hk;exact hw
def qM(l:List aj)(cls:List Int)(i:Nat):Prop:=cls.length=i/\∀j,j<i->∃c:Nat,cls[j]?=some (c:Int)/\rr l j c
theorem qM.snoc{l:List aj}{cls:List Int}{c:Nat}(h:qM l cls i)(hc:rr l i c):qM l (cls++[(c:Int)]) (i+1):=by
 refine⟨by simp[h.1],fun j hj=>?_⟩;rcases zU j i with hl|hl
 ·obtain⟨c',h1,h2⟩:=h.2 j hl;exact⟨c',by rw[yY (by rw[h.1];exact hl)];exact h1,h2⟩
 ·obtain rfl:j=i:=by omega
  exact⟨c,by rw[yL (by rw[h.1];exact zX _),h.1,vH];rfl,hc⟩
theorem qM.i64{l:List aj}{cls:List Int}(h:qM l cls i)(hi:i<=300):∀x∈cls,aU x:=by
 intro x hx;obtain⟨j,hj⟩:=zH hx;obtain⟨c,h1,h2⟩:=h.2 j (by have:=(zY.1 hj).1;have:=h.1;omega);rw[hj]at h1;injection h1 with h1;subst h1
 have:=h2.2.1;have:=(zY.1 hj).1;have:=h.1;constructor<;>omega
theorem IsCsR.read{off c k:Nat}{w0:World}{l:List aj}{R:List Value->aj->Prop}(hR:∀cs c,R cs c->bR p w0 cs c)(h:bj p 13 (fun _=>R) w (E (some ⟨b,off,none⟩) n c) l)(hx:XT p w wx)(hk:k<n) :
  ∃(t s q kd ct ts tq lp lc lg lv:Int) (str:List UInt8) (ch:List Int) (A:Option Addr) (m cc:Nat),Hid (l[k]?=some ⟨⟨t,s,q⟩,kd,str,ct,ch,⟨ts,tq⟩,⟨lp,lc,lg,lv⟩⟩) /\
   ka wx b (off+k*13) t s q kd ct ts tq lp lc lg lv str A m cc/\ak p w0 (E A m cc) ch/\aj.wf ⟨⟨t,s,q⟩,kd,str,ct,ch,⟨ts,tq⟩,⟨lp,lc,lg,lv⟩⟩ /\
   R (aj.cells ⟨⟨t,s,q⟩,kd,str,ct,ch,⟨ts,tq⟩,⟨lp,lc,lg,lv⟩⟩ (E A m cc)) ⟨⟨t,s,q⟩,kd,str,ct,ch,⟨ts,tq⟩,⟨lp,lc,lg,lv⟩⟩:=by
 obtain⟨cs,⟨⟨t,s,q⟩,kd,str,ct,ch,⟨ts,tq⟩,⟨lp,lc,lg,lv⟩⟩,-,hc,hr,hx'⟩:=(h.xt (fun _ _ _ _ h _=>h) hx).cell_ hk;obtain⟨u,rfl,hI,hw⟩:=hR _ _ hr;obtain⟨A,m,cc,rfl,-⟩:=hI.open_;exact⟨t,s,q,kd,ct,ts,tq,lp,lc,lg,lv,str,ch,A,m,cc,hx',⟨hc 0 _ rfl,hc 1 _ rfl,hc 2 _ rfl,hc 3 _ rfl,hc 4 _ rfl,hc 5 _ rfl,hc 6 _ rfl,hc 7 _ rfl,hc 8 _ rfl,hc 9 _ rfl,hc 10 _ rfl,hc 11 _ rfl,hc 12 _ rfl⟩,hI,hw,hr⟩
theorem jY.isR{ys:List (aj×Value)}{R:List Value->aj->Prop}(h:jY base p w v ys)(hp:p<base)(hR:∀y∈ys,R (fZ y) y.1):bj p 13 (fun _=>R) w v (ys.map Prod.fst):=by
 refine bj.of_own (e:=47) (ys.map fZ) (fun cs hcs=>by obtain⟨y,_,rfl⟩:=zF.1 hcs;rfl) (by decide) (by simp) (by rw[zJ];exact h.own) hp ?_;intro k cs x hcs hx;simp only[zP,yO]at hcs hx;obtain⟨y,hy,rfl⟩:=hcs;obtain⟨z,hz,rfl⟩:=hx;rw[hy]at hz;injection hz with hz;subst hz
 exact hR y (zW hy)
theorem qI(R:List Value->aj->Prop)(v:Value)(l:List aj)(w:World)(hp:p<w.heap.size)(hR:∀cs c,R cs c->bR p w cs c)(hvR:bj p 13 (fun _=>R) w v l)(hn:l.length<=300) :
  Calls prog 23 #[v] w fun e w'=>∃(vo:Value) (ys:List (aj×Value)),e=.returned (.tuple #[vo,B D 0])/\jY w.heap.size p w' vo ys/\ys.map Prod.fst=ay l/\(∀y∈ys,R (fZ y) y.1)/\ab w w':=by
 have hv:au p w v l:=hvR.map_ hR;obtain⟨A,n,c,rfl,hnc,hcc,hnn,HL⟩:=hv.open_;obtain⟨i0,hi0,hz0,hz1,hz2⟩:=info_parts Tryz.infoI;obtain⟨iS,hiS,hS0,hS1,hS2⟩:=info_parts Tryz.infoStp;obtain⟨iC,hiC,hC0,hC1,hC2⟩:=info_parts Tryz.infoCap;have hn3:n<=300:=by have:=HL.out;omega
 have HV:Bx (au p w (E A n c) l):=⟨hv⟩
 have HVR:Bx (bj p 13 (fun _=>R) w (E A n c) l):=⟨hvR⟩
 have HRR:Bx (∀cs c,R cs c->bR p w cs c):=⟨hR⟩
 clear hv hn hvR hR;go_enter func23,ntmps23
 go_wp2_with fail;go_loopw [4,5,6] (fun s4 s5 s6 wr=>∃(i:Nat) (cls:List Int),s6=B D i/\i<=n/\Bx (da w.heap.size 41 3 bN.cells wr s4 ((l.take i).map aj.st)/\wr.ownsRow w.heap.size 3 1 s5 cls.length (cls.map (Value.int .i64))/\qM l cls i/\ab w wr)) (fun _ _ i _=>n-(intOf i).toNat)
 case atStart=>exact⟨0,[],rfl,by omega,⟨⟨da.nil,yZ _ _ _ _,⟨rfl,fun j hj=>by omega⟩,zE _⟩⟩⟩
 case round =>
  obtain⟨i,cls,rfl,hi,HR⟩:=hrel;by_cases hin:i<n
  ·obtain⟨b,off,_,_,rfl,-⟩:=HV.out.at_ hin;go_wp2_with fail;obtain⟨wo,rfl⟩:=nm (wr:World);go_loopw [7,8] (fun s7 s8 wx=>∃(m c0:Nat) (z:Int),s7=B D c0/\s8=B D z/\z<=(m:Int)-1/\(m:Int)-1<=z/\m<=c0/\c0<=i/\Bx (l[c0]?=l[i]?/\(∀j,m<=j->j<c0->l[j]?≠l[i]?)/\ab wo wx)) (fun _ z _=>(intOf z+1).toNat)
   case atStart=>exact⟨i,i,(i:Int)-1,rfl,rfl,by omega,by omega,by omega,by omega,⟨⟨rfl,fun j h1 h2=>by omega,zE _⟩⟩⟩
   case round =>
    obtain⟨m,c0,z,rfl,rfl,hz1',hz2',hmc,hci,HM⟩:=hrel;have HE:Bx (ab w wr):=⟨HR.out.2.2.2.trans HM.out.2.2⟩
    by_cases hz:0<=z
    ·obtain⟨k,rfl⟩:=zG hz;have hki:k<i:=by omega
     have hkn:k<n:=by omega
     have hmk1:m<=k+1:=by omega
     have hmk2:k+1<=m:=by omega
     obtain⟨xt,xs,xq,xk,xct,xts,xtq,xlp,xlc,xlg,xlv,xstr,xch,xA,xn,xcc,HX,hcx,hix,-⟩:=au.read HV.out HE.out.xt hin;obtain⟨yt,ys,yq,yk,yct,yts,ytq,ylp,ylc,ylg,ylv,ystr,ych,yA,yn,ycc,HY,hcy,hiy,-⟩:=au.read HV.out HE.out.xt hkn;have kS:wr.drew.cell? ⟨b,off+i*13,none⟩=some (B D xt)/\wr.drew.cell? ⟨b,off+i*13+1,none⟩=some (B D xs)/\wr.drew.cell? ⟨b,off+i*13+2,none⟩=some (B D xq)/\wr.drew.cell? ⟨b,off+i*13+3,none⟩=some (B D xk)/\wr.drew.cell? ⟨b,off+i*13+4,none⟩=some (.string (ba xstr))/\wr.drew.cell? ⟨b,off+i*13+5,none⟩=some (B D xct)/\wr.drew.cell? ⟨b,off+i*13+6,none⟩=some (E xA xn xcc)/\wr.drew.cell? ⟨b,off+i*13+7,none⟩=some (B D xts)/\wr.drew.cell? ⟨b,off+i*13+8,none⟩=some (B D xtq)/\wr.drew.cell? ⟨b,off+i*13+9,none⟩=some (B D xlp)/\wr.drew.cell? ⟨b,off+i*13+10,none⟩=some (B D xlc)/\wr.drew.cell? ⟨b,off+i*13+11,none⟩=some (B D xlg)/\wr.drew.cell? ⟨b,off+i*13+12,none⟩=some (B D xlv)/\wr.drew.cell? ⟨b,off+k*13,none⟩=some (B D yt)/\wr.drew.cell? ⟨b,off+k*13+1,none⟩=some (B D ys)/\wr.drew.cell? ⟨b,off+k*13+2,none⟩=some (B D yq)/\wr.drew.cell? ⟨b,off+k*13+3,none⟩=some (B D yk)/\wr.drew.cell? ⟨b,off+k*13+4,none⟩=some (.string (ba ystr))/\wr.drew.cell? ⟨b,off+k*13+5,none⟩=some (B D yct)/\wr.drew.cell? ⟨b,off+k*13+6,none⟩=some (E yA yn ycc)/\wr.drew.cell? ⟨b,off+k*13+7,none⟩=some (B D yts)/\wr.drew.cell? ⟨b,off+k*13+8,none⟩=some (B D ytq)/\wr.drew.cell? ⟨b,off+k*13+9,none⟩=some (B D ylp)/\wr.drew.cell? ⟨b,off+k*13+10,none⟩=some (B D ylc)/\wr.drew.cell? ⟨b,off+k*13+11,none⟩=some (B D ylg)/\wr.drew.cell? ⟨b,off+k*13+12,none⟩=some (B D ylv):=⟨hcx.c0,hcx.c1,hcx.c2,hcx.c3,hcx.c4,hcx.c5,hcx.c6,hcx.c7,hcx.c8,hcx.c9,hcx.c10,hcx.c11,hcx.c12,hcy.c0,hcy.c1,hcy.c2,hcy.c3,hcy.c4,hcy.c5,hcy.c6,hcy.c7,hcy.c8,hcy.c9,hcy.c10,hcy.c11,hcy.c12⟩
     have HI:Bx (ak p wr (E xA xn xcc) xch/\ak p wr (E yA yn ycc) ych):=⟨⟨hix,hiy⟩⟩
     clear hcx hcy hix hiy;go_upto_region 10 with (fail)
     refine zR 99 (fun w'=>w'.cell? ⟨b,off+i*13,none⟩=some (B D xt)/\w'.cell? ⟨b,off+i*13+1,none⟩=some (B D xs)/\w'.cell? ⟨b,off+i*13+2,none⟩=some (B D xq)/\w'.cell? ⟨b,off+i*13+3,none⟩=some (B D xk)/\w'.cell? ⟨b,off+i*13+4,none⟩=some (.string (ba xstr))/\w'.cell? ⟨b,off+i*13+5,none⟩=some (B D xct)/\w'.cell? ⟨b,off+i*13+6,none⟩=some (E xA xn xcc)/\w'.cell? ⟨b,off+i*13+7,none⟩=some (B D xts)/\w'.cell? ⟨b,off+i*13+8,none⟩=some (B D xtq)/\w'.cell? ⟨b,off+i*13+9,none⟩=some (B D xlp)/\w'.cell? ⟨b,off+i*13+10,none⟩=some (B D xlc)/\w'.cell? ⟨b,off+i*13+11,none⟩=some (B D xlg)/\w'.cell? ⟨b,off+i*13+12,none⟩=some (B D xlv)/\w'.cell? ⟨b,off+k*13,none⟩=some (B D yt)/\w'.cell? ⟨b,off+k*13+1,none⟩=some (B D ys)/\w'.cell? ⟨b,off+k*13+2,none⟩=some (B D yq)/\w'.cell? ⟨b,off+k*13+3,none⟩=some (B D yk)/\w'.cell? ⟨b,off+k*13+4,none⟩=some (.string (ba ystr))/\w'.cell? ⟨b,off+k*13+5,none⟩=some (B D yct)/\w'.cell? ⟨b,off+k*13+6,none⟩=some (E yA yn ycc)/\w'.cell? ⟨b,off+k*13+7,none⟩=some (B D yts)/\w'.cell? ⟨b,off+k*13+8,none⟩=some (B D ytq)/\w'.cell? ⟨b,off+k*13+9,none⟩=some (B D ylp)/\w'.cell? ⟨b,off+k*13+10,none⟩=some (B D ylc)/\w'.cell? ⟨b,off+k*13+11,none⟩=some (B D ylg)/\w'.cell? ⟨b,off+k*13+12,none⟩=some (B D ylv)) ?_;refine zS 8 [(0,26),(1,27),(2,28),(3,29),(4,30),(5,31),(6,32),(7,33)] kS ?_;iterate 8 refine zT ?_
     refine zN (zO 8 (fun K hK=>?_));go_simp;refine (oY xt xs xq xk xct xts xtq xlp xlc xlg xlv yt ys yq yk yct yts ytq ylp ylc ylg ylv xstr ystr xch ych xA yA xn xcc yn ycc _ (HI.out.1.ext (zE _).drew) (HI.out.2.ext (zE _).drew)).mono ?_;rintro e w3 ⟨rfl,hx3⟩;have HE3:Bx (ab wo w3):=⟨HM.out.2.2.drew.trans hx3⟩
     have HEQ:Bx ((decide ((⟨⟨xt,xs,xq⟩,xk,xstr,xct,xch,⟨xts,xtq⟩,⟨xlp,xlc,xlg,xlv⟩⟩:aj)=⟨⟨yt,ys,yq⟩,yk,ystr,yct,ych,⟨yts,ytq⟩,⟨ylp,ylc,ylg,ylv⟩⟩))=true↔l[k]?=l[i]?):=⟨by rw[HX.out,HY.out,decide_eq_true_eq];constructor;(intro h;rw[h]);(intro h;injection h with h;exact h.symm)⟩
     generalize hbb:decide ((⟨⟨xt,xs,xq⟩,xk,xstr,xct,xch,⟨xts,xtq⟩,⟨xlp,xlc,xlg,xlv⟩⟩:aj)=⟨⟨yt,ys,yq⟩,yk,ystr,yct,ych,⟨yts,ytq⟩,⟨ylp,ylc,ylg,ylv⟩⟩)=bb at *
     clear hbb;refine hK.out _ _ (fun _=>⟨hx3.cell kS.1,hx3.cell kS.2.1,hx3.cell kS.2.2.1,hx3.cell kS.2.2.2.1,hx3.cell kS.2.2.2.2.1,hx3.cell kS.2.2.2.2.2.1,hx3.cell kS.2.2.2.2.2.2.1,hx3.cell kS.2.2.2.2.2.2.2.1,hx3.cell kS.2.2.2.2.2.2.2.2.1,hx3.cell kS.2.2.2.2.2.2.2.2.2.1,hx3.cell kS.2.2.2.2.2.2.2.2.2.2.1,hx3.cell kS.2.2.2.2.2.2.2.2.2.2.2.1,hx3.cell kS.2.2.2.2.2.2.2.2.2.2.2.2.1,hx3.cell kS.2.2.2.2.2.2.2.2.2.2.2.2.2.1,hx3.cell kS.2.2.2.2.2.2.2.2.2.2.2.2.2.2.1,hx3.cell kS.2.2.2.2.2.2.2.2.2.2.2.2.2.2.2.1,hx3.cell kS.2.2.2.2.2.2.2.2.2.2.2.2.2.2.2.2.1,hx3.cell kS.2.2.2.2.2.2.2.2.2.2.2.2.2.2.2.2.2.1,hx3.cell kS.2.2.2.2.2.2.2.2.2.2.2.2.2.2.2.2.2.2.1,hx3.cell kS.2.2.2.2.2.2.2.2.2.2.2.2.2.2.2.2.2.2.2.1,hx3.cell kS.2.2.2.2.2.2.2.2.2.2.2.2.2.2.2.2.2.2.2.2.1,hx3.cell kS.2.2.2.2.2.2.2.2.2.2.2.2.2.2.2.2.2.2.2.2.2.1,hx3.cell kS.2.2.2.2.2.2.2.2.2.2.2.2.2.2.2.2.2.2.2.2.2.2.1,hx3.cell kS.2.2.2.2.2.2.2.2.2.2.2.2.2.2.2.2.2.2.2.2.2.2.2.1,hx3.cell kS.2.2.2.2.2.2.2.2.2.2.2.2.2.2.2.2.2.2.2.2.2.2.2.2.1,hx3.cell kS.2.2.2.2.2.2.2.2.2.2.2.2.2.2.2.2.2.2.2.2.2.2.2.2.2⟩) ?_;clear hK K;try simp only[kA]
     clear kS hx3;refine zD ?_;cases bb with
     |true =>
      go_wp2_with fail;go_roundw
      case rel=>exact⟨k,k,(k:Int)-1,rfl,rfl,by omega,by omega,by omega,by omega,⟨⟨HEQ.out.1 rfl,fun j h1 h2=>by omega,HE3.out⟩⟩⟩
      case measure=>first|(simp[intOf];done)|(simp[intOf];omega)
     |false =>
      have HN:Bx (l[k]?≠l[i]?):=⟨fun h=>by have:=HEQ.out.2 h;cases this⟩
      go_wp2_with fail;go_roundw
      case rel=>exact⟨k,c0,(k:Int)-1,rfl,rfl,by omega,by omega,by omega,by omega,⟨⟨HM.out.1,fun j h1 h2=>by rcases zU k j with h|h;exact HM.out.2.1 j (by omega) h2;obtain rfl:j=k:=(by omega);exact HN.out,HE3.out⟩⟩⟩
      case measure=>first|(simp[intOf];done)|(simp[intOf];omega)
    ·have HCL:Bx (rr l i c0):=⟨⟨HM.out.1,by omega,fun j hj=>HM.out.2.1 j (by omega) hj⟩⟩
     obtain⟨xt,xs,xq,xk,xct,xts,xtq,xlp,xlc,xlg,xlv,xstr,xch,xA,xn,xcc,HX,hcx,-,-⟩:=au.read HV.out HE.out.xt hin;have a0:=hcx.c0;have a1:=hcx.c1;have a2:=hcx.c2;have hli:((l.take i).map aj.st).length=i:=by rw[zJ,yW];have:=HL.out;omega
     have HO4:Bx (wr.ownsRow w.heap.size 41 3 u4 i (((l.take i).map aj.st).map bN.cells).flatten):=⟨by have:=ao HR.out.1 HM.out.2.2;rw[hli]at this;exact this⟩
     have HO5:Bx (wr.ownsRow w.heap.size 3 1 u5 cls.length (cls.map (Value.int .i64))):=⟨ao HR.out.2.1 HM.out.2.2⟩
     have HCT:Bx (qM l cls i):=⟨HR.out.2.2.1⟩
     have hcl:cls.length<=300:=by have:=HCT.out.1;omega
     clear hcx HM HR hli;go_wp2_with (first
      |(at_builtin;go_loud (refine cZ _ rfl (.tmp 36) (.tmp 42) 103 rfl w.heap.size 41 iS _ 3 24 underlying103 hiS hS0 hS1 hS2 rfl (by omega) u4 i _ rfl (ao HO4.out ((zE _).alloc _)) _ #[B D xt,B D xs,B D xq] _ rfl (heap_alloc_new _ _) rfl (by simp[Value.oneCell']) (by omega) (by omega) (by have:=HE.out.size;simp;omega) ?_;intro v7 w7 hown7 hg7;have HO7:Bx (w7.ownsRow w.heap.size 41 3 v7 (i+1) ((((l.take i).map aj.st).map bN.cells).flatten++[B D xt,B D xs,B D xq])):=⟨hown7⟩;have HE7:Bx (ab w w7):=⟨(HE.out.alloc _).grown hg7 (aq HO4.out)⟩;have HO57:Bx (w7.ownsRow w.heap.size 3 1 u5 cls.length (cls.map (Value.int .i64))):=⟨cO (ao HO5.out ((zE _).alloc _)) (ao HO4.out ((zE _).alloc _)) (by decide) hg7⟩;clear hown7 hg7))
      |(at_builtin;go_loud (refine aF _ rfl (.tmp 44) (.tmp 46) 22 rfl w.heap.size 3 i0 _ 8 underlying22 hi0 hz0 hz1 hz2 rfl u5 _ _ rfl (HO57.out.alloc _) _ _ rfl (by simp;rfl) rfl (by omega) (by omega) (by have:=HE7.out.size;simp;omega) ?_;intro v8 w8 hown8 hg8;have HO8:Bx (w8.ownsRow w.heap.size 3 1 v8 (cls.length+1) (cls.map (Value.int .i64)++[B D (c0:Int)])):=⟨hown8⟩;have HO78:Bx (w8.ownsRow w.heap.size 41 3 v7 (i+1) ((((l.take i).map aj.st).map bN.cells).flatten++[B D xt,B D xs,B D xq])):=⟨cO (ao HO7.out ((zE _).alloc _)) (ao HO57.out ((zE _).alloc _)) (by decide) hg8⟩;have HE8:Bx (ab w w8):=⟨(HE7.out.alloc _).grown hg8 (aq HO57.out)⟩;clear hown8 hg8)))
     go_roundw
     case rel =>
      refine⟨i+1,cls++[(c0:Int)],by go_num,by omega,⟨⟨?_,by simpa using HO8.out,HCT.out.snoc HCL.out,HE8.out⟩⟩⟩;have e:(l.take (i+1)).map aj.st=(l.take i).map aj.st++[⟨xt,xs,xq⟩]:=by rw[ax HX.out,yG];rfl
      have hli:((l.take i).map aj.st).length=i:=by rw[zJ,yW];have:=HL.out;omega
      rw[e];refine da.push ?_;rw[hli];exact HO78.out
     case measure=>simp[intOf];omega
  ·obtain rfl:n=i:=by omega
   have htk:l.take n=l:=bh HL.out;have HO4:Bx (oI p wr u4 (l.map aj.st)):=by have h1:=HR.out.1;rw[htk]at h1;exact⟨h1.isS hp (by decide) (fun x _=>rfl) fun x hx=>⟨rfl,by obtain⟨y,hy,rfl⟩:=zF.1 hx;exact (au.wfs HV.out y hy).1⟩⟩
   have hcl:cls.length=n:=HR.out.2.2.1.1;have HO5:Bx (ak p wr u5 cls):=⟨ak.of_own HR.out.2.1 hp (HR.out.2.2.1.i64 hn3) (by omega)⟩
   have HCK:Bx (If l cls):=⟨by rw[HL.out];exact hcl,fun j hj=>HR.out.2.2.1.2 j (by have:=HL.out;omega)⟩
   have HE:Bx (ab w wr):=⟨HR.out.2.2.2⟩
   have hlen1:cls.length=(l.map aj.st).length:=by rw[zJ,HL.out];exact hcl
   have hlen2:(l.map aj.st).length<=300:=by rw[zJ,HL.out];exact hn3
   obtain⟨A4,n4,c4,rfl,-⟩:=HO4.out.open_;obtain⟨A5,n5,c5,rfl,-⟩:=HO5.out.open_;have HLE:=zZ (yJ hlen1 hlen2);clear HR htk hcl hlen1 hlen2;go_wp2_with fail;refine (Cf _ _ (l.map aj.st) cls _ HO4.out HO5.out HLE.out.1 HLE.out.2).mono ?_;rintro e w3 ⟨vo,out,rfl,hown,hsrt,hx3⟩;rw[zJ]at hsrt;have hol:out.length<=300:=by have:=D9 hsrt;have:=HL.out;omega
   have hp3:p<wr.heap.size:=zB hp HE.out.size;have hIO:=ak.of_own hown hp3 (fun x hx=>by obtain⟨j,rfl,hj,-⟩:=hsrt.mem.1 hx;have:=HL.out;exact⟨by omega,by omega⟩) (by omega);obtain⟨Ao,no,co,rfl,-,-,-,HLo⟩:=hIO.open_;have HIO:Bx (w3.ownsRow w.heap.size 3 1 (E Ao no co) out.length (out.map (Value.int .i64))/\out.length=no):=⟨cd hown HE.out.size,HLo.out⟩
   have HSR:Bx (eQ (l.map aj.st) cls l.length out):=⟨hsrt⟩
   have HE3:Bx (ab w w3):=⟨HE.out.trans hx3⟩
   have hno:no<=300:=by have:=HLo.out;omega
   clear hown hsrt hx3 hIO HO4 HO5 HE HLE hp3;go_wp2_with fail;go_loopw [11,12] (fun s11 s12 wr=>∃(m:Nat) (ys:List (aj×Value)),s12=B D m/\m<=no/\ys.length<=m/\m<=ys.length/\Bx (da w.heap.size 47 13 fZ wr s11 ys/\(∀y∈ys,(ak p w y.2 y.1.ch/\y.1.wf)/\R (fZ y) y.1)/\ys.map Prod.fst=eM l (out.take m)/\wr.ownsRow w.heap.size 3 1 (E Ao no co) out.length (out.map (Value.int .i64))/\ab w wr)) (fun _ m _=>no-(intOf m).toNat)
   case atStart=>exact⟨0,[],rfl,by omega,by simp,by simp,⟨⟨da.nil,fun y h=>by simp at h,by simp[eM],HIO.out.1,HE3.out⟩⟩⟩
   case round =>
    have HON:=zZ HIO.out.2;clear HIO HE3;obtain⟨m,ys,rfl,hm,hy1,hy2,HM⟩:=hrel;have HE4:Bx (ab w wr):=⟨HM.out.2.2.2.2⟩
    by_cases hmn:m<no
    ·obtain⟨g2,co2,hv2,-⟩:=di HM.out.2.2.2.1 (by have:=HON.out;omega);injection hv2 with hA hB hC;subst hA;clear hB hC;have hmo:out[m]?=some (out[m]'(by have:=HON.out;omega)):=zV _;obtain⟨j,hj,hjl,-⟩:=HSR.out.mem.1 (zW hmo);rw[hj]at hmo;have HXO:=zZ hmo;have x0:wr.cell? ⟨g2,m,none⟩=some (B D (j:Int)):=by
      have hrow:=HM.out.2.2.2.1;rw[HON.out]at hrow;have hml:m<no*1:=by omega
      rw[hrow.cellAt m hml];simp[hmo]
     have hjn:j<n:=by have:=HL.out;omega
     obtain⟨b,off,_,_,rfl,-⟩:=HV.out.at_ hjn;obtain⟨xt,xs,xq,xk,xct,xts,xtq,xlp,xlc,xlg,xlv,xstr,xch,xA,xn,xcc,HX,hcx,hix,hwx,hrx⟩:=IsCsR.read HRR.out HVR.out (XT.refl p w) hjn;obtain⟨e0,e1,e2,e3,e4,e5,e6,e7,e8,e9,e10,e11,e12⟩:=hcx.ext HE4.out;have HIX:Bx ((ak p w (E xA xn xcc) xch/\aj.wf ⟨⟨xt,xs,xq⟩,xk,xstr,xct,xch,⟨xts,xtq⟩,⟨xlp,xlc,xlg,xlv⟩⟩)/\R (aj.cells ⟨⟨xt,xs,xq⟩,xk,xstr,xct,xch,⟨xts,xtq⟩,⟨xlp,xlc,xlg,xlv⟩⟩ (E xA xn xcc)) ⟨⟨xt,xs,xq⟩,xk,xstr,xct,xch,⟨xts,xtq⟩,⟨xlp,xlc,xlg,xlv⟩⟩):=⟨⟨⟨hix,hwx⟩,hrx⟩⟩
     have HOM:Bx (da w.heap.size 47 13 fZ wr u11 ys):=⟨HM.out.1⟩
     clear hix hwx hrx hj hmo hcx;go_wp2_with (at_builtin;go_loud (refine cZ _ rfl (.tmp 63) (.tmp 71) 35 rfl w.heap.size 47 iC _ 13 128 underlying35 hiC hC0 hC1 hC2 rfl (by omega) u11 ys.length (ys.map fZ).flatten rfl (HOM.out.ext ((zE _).alloc _)) _ #[B D xt,B D xs,B D xq,B D xk,.string (ba xstr),B D xct,E xA xn xcc,B D xts,B D xtq,B D xlp,B D xlc,B D xlg,B D xlv] _ rfl (heap_alloc_new _ _) rfl (by simp[Value.oneCell']) (by omega) (by omega) (by have:=HE4.out.size;simp;omega) ?_;intro v9 w9 hown9 hg9;have HE9:Bx (ab w w9):=⟨(HE4.out.alloc _).grown hg9 (aq HOM.out.own)⟩;have HO9:Bx (da w.heap.size 47 13 fZ w9 v9 (ys++[(⟨⟨xt,xs,xq⟩,xk,xstr,xct,xch,⟨xts,xtq⟩,⟨xlp,xlc,xlg,xlv⟩⟩,E xA xn xcc)])):=⟨da.push hown9⟩;have HI9:Bx (w9.ownsRow w.heap.size 3 1 (E (some ⟨g2,0,none⟩) no co) out.length (out.map (Value.int .i64))):=⟨cO (ao HM.out.2.2.2.1 ((zE _).alloc _)) (HOM.out.ext ((zE _).alloc _)) (by decide) hg9⟩;clear hown9 hg9));go_roundw
     case rel =>
      refine⟨m+1,ys++[(⟨⟨xt,xs,xq⟩,xk,xstr,xct,xch,⟨xts,xtq⟩,⟨xlp,xlc,xlg,xlv⟩⟩,E xA xn xcc)],by go_num,by omega,by simp;omega,by simp;omega,⟨⟨HO9.out,fun y hy=>?_,?_,HI9.out,HE9.out⟩⟩⟩
      ·rcases zM.1 hy with hy|hy
       ·exact HM.out.2.1 y hy
       ·obtain rfl:y=_:=by simpa using hy
        exact HIX.out
      ·rw[yG,HM.out.2.2.1,ax HXO.out,AJ _ HX.out];rfl
     case measure=>simp[intOf];omega
    ·have HCN:Bx (ys.map Prod.fst=ay l):=⟨by rw[HM.out.2.2.1,bh (by have:=HON.out;omega)];exact FW HCK.out HSR.out⟩
     have HFI:Bx (jY w.heap.size p wr u11 ys/\∀y∈ys,R (fZ y) y.1):=⟨⟨HM.out.1,fun y hy=>⟨(HM.out.2.1 y hy).1.1.ext HE4.out,(HM.out.2.1 y hy).1.2⟩⟩,fun y hy=>(HM.out.2.1 y hy).2⟩
     go_wp2_with fail;go_ret2
     exact⟨_,ys,rfl,HFI.out.1,HCN.out,HFI.out.2,HE4.out⟩
theorem Cu(v:Value)(l:List aj)(w:World)(hp:p<w.heap.size)(hv:au p w v l)(hn:l.length<=300) :
  Calls prog 23 #[v] w fun e w'=>∃(vo:Value) (ys:List (aj×Value)),e=.returned (.tuple #[vo,B D 0])/\jY w.heap.size p w' vo ys/\ys.map Prod.fst=ay l/\ab w w' :=
 (qI (bR p w) v l w hp (fun _ _ h=>h) hv hn).mono fun _ _ ⟨vo,ys,h1,h2,h3,_,h5⟩=>⟨vo,ys,h1,h2,h3,h5⟩
theorem Tryz.infoLab:(prog.info? 45).map (fun i=>(i.zero,i.size,i.bytes))=some (some (.agg #[B D 0,B D 0,B D 0,B D 0]),4,32):=by kernel_rfl
theorem Tryz.infoBool:(prog.info? 4).map (fun i=>(i.zero,i.size,i.bytes))=some (some (.bool false),1,1):=by kernel_rfl
theorem ER(n:Nat)(hn:n<=1000)(w:World):(Instr.makeSlice 120 (B D (n:Int)) (B D (n:Int))).run prog w=.ok (E (some ⟨w.heap.size,0,none⟩) n n) (w.alloc (.cells (madeCells #[B D 0,B D 0,B D 0,B D 0] (n*4)) 45)):=by obtain⟨i,hi,h0,h1,h2⟩:=info_parts Tryz.infoLab;have h:=run_make (P:=prog) w 120 45 i _ underlying120 hi h0 .i64 .i64 n n (by omega) (Int.le_refl _) (by rw[h2];omega) (by omega);rw[yC,h1]at h;exact h
theorem CI(n:Nat)(hn:n<=1000)(w:World):(Instr.makeSlice 121 (B D (n:Int)) (B D (n:Int))).run prog w=.ok (E (some ⟨w.heap.size,0,none⟩) n n) (w.alloc (.cells (madeCells #[.bool false] n) 4)) :=
 run_make_row' 121 4 (.bool false) 1 underlying121 Tryz.infoBool rfl .i64 .i64 n (by omega) (by omega) w
theorem EX(n:Nat)(hn:n<=1000)(w:World):(Instr.makeSlice 22 (B D (n:Int)) (B D (n:Int))).run prog w=.ok (E (some ⟨w.heap.size,0,none⟩) n n) (w.alloc (.cells (madeCells #[B D 0] n) 3)) :=
 run_make_row' 22 3 (B D 0) 8 underlying22 Tryz.infoI rfl .i64 .i64 n (by omega) (by omega) w
theorem uh{z:Array Value}{k:Nat}(hk:k<n)(hu:z[k%z.size]! = u):(madeCells z n)[k]?=some u:=by unfold madeCells;rw[Array.getElem?_map,Array.getElem?_range,if_pos hk];simp[hu]
theorem Gh{α:Type}[DecidableEq α](lt:α->α->Bool)(l:List α):(CS lt l).length<=l.length:=by
 induction l using ic with
 |h0=>exact zX _
 |h1 l x ih =>
  rw[oJ,yU];unfold Fp;split
  ·simp;omega
  ·rw[FT];simp;omega
theorem Bd(l:List aj):(ay l).length<=l.length:=by have h1:=Gh rV (l.filter (qC l));have h2:=uP (qC l) l;unfold ay;omega
theorem FQ{s:List UInt8}{x:cJ}(h:dR s=some x):x.wf:=by
 unfold dR at h;split at h
 ·rename_i hx
  injection h with h;obtain⟨m,hm⟩:=hx.choose_spec;rw[h]at hm;by_cases hu:iM s=0
  ·obtain⟨d,er,kk,-,h2,h3⟩:=hm.2 hu;by_cases hk:kk=0
   ·by_cases hc:fK d<=9999
    ·obtain⟨e1,e2,e3,e4,-⟩:=(h3 hk).2 hc;have b0:=fT d 0;have b1:=fT d 1;have b2:=fT d 2;have b3:=fT d 3;have b4:=fT d 4;have b5:=fT d 5;unfold fK at e2;refine⟨⟨?_,?_⟩,⟨?_,?_⟩,⟨?_,?_⟩,⟨?_,?_⟩⟩<;>omega
    ·have:=((h3 hk).1 (by omega)).2.2.2.2.2;omega
   ·have:=(h2 hk).2.2.2.2.2;omega
  ·have:=(hm.1 hu).2.2.2.2.2;omega
 ·cases h
theorem kL:cJ.zero.wf:=⟨⟨by decide,by decide⟩,⟨by decide,by decide⟩,⟨by decide,by decide⟩,⟨by decide,by decide⟩⟩
theorem jo{l:List aj}{id:gT}{x:cJ}{st:Int}(hl:∀c∈l,c.wf)(h:aQ l id=(x,st)):x.wf:=by
 have hz:cJ.zero.wf:=kL;unfold aQ iI at h;split at h
 ·injection h with h;subst h;exact hz
 ·split at h
  ·rename_i d hd
   split at h
   ·injection h with h;subst h;exact hz
   ·injection h with h;subst h;exact (hl d (xR.1 (List.mem_of_getLast? hd)).1).2.2.2.2.2.1
  ·split at h
   ·rename_i y hy
    injection h with h;subst h;exact FQ hy
   ·injection h with h;subst h;exact hz
theorem gj{s:dl}{l:List aj}{c:aj}{lab:cJ}{st:Int}(hk:c.kind=1)(h:aQ l c.id=(lab,st)):aM s l c=⟨c,lab,if st=0 then (if bH s lab c.ch then 0 else 5) else st,decide (st=0)&&bH s lab c.ch⟩:=by unfold aM;rw[if_pos hk,h]
theorem sU{s:dl}{l:List aj}{c:aj}(hk:c.kind≠1):aM s l c=⟨c,cJ.zero,0,false⟩:=by unfold aM;rw[if_neg hk]
structure dA (R:List dH) (n i:Nat) (cL cS cF:Array Value):Prop where
 sL:cL.size=n*4
 sS:cS.size=n
 sF:cF.size=n
 lab:∀(k:Nat) x,R[k]?=some x->∀(j:Nat) u,(if k<i then x.lab else cJ.zero).cells[j]?=some u->cL[k*4+j]?=some u
 st:∀(k:Nat) x,R[k]?=some x->cS[k]?=some (B D (if k<i then x.st else 0))
 fit:∀(k:Nat) x,R[k]?=some x->cF[k]?=some (.bool (if k<i then x.fit else false))
section
variable {R:List dH} {n i:Nat} {cL cS cF cS' cF':Array Value} {x:dH}
theorem ng{l:cJ}(h:l.cells[j]?=some u):j<4:=(zY.1 h).1
theorem dA.start(hn:R.length=n):dA R n 0 (madeCells #[B D 0,B D 0,B D 0,B D 0] (n*4)) (madeCells #[B D 0] n) (madeCells #[.bool false] n):=by
 refine⟨size_madeCells _ _,size_madeCells _ _,size_madeCells _ _,fun k x hx j u hu=>?_,fun k x hx=>?_,fun k x hx=>?_⟩
 ·have hk:=(zY.1 hx).1;have hj:=ng hu;rw[if_neg (by omega)]at hu;refine uh (by omega) ?_;rw[show (#[Value.int .i64 0,B D 0,B D 0,B D 0]:Array Value).size=4 from rfl,show (k*4+j)%4=j by omega];match j,hu with
  |0,hu=>simp[cJ.cells,cJ.zero]at hu;subst hu;rfl
  |1,hu=>simp[cJ.cells,cJ.zero]at hu;subst hu;rfl
  |2,hu=>simp[cJ.cells,cJ.zero]at hu;subst hu;rfl
  |3,hu=>simp[cJ.cells,cJ.zero]at hu;subst hu;rfl
  |j+4,hu=>omega
 ·have hk:=(zY.1 hx).1;rw[if_neg (by omega)];exact uh (by omega) (by simp[Nat.mod_one])
 ·have hk:=(zY.1 hx).1;rw[if_neg (by omega)];exact uh (by omega) (by simp[Nat.mod_one])
theorem dA.skip(h:dA R n i cL cS cF)(hx:R[i]?=some x)(h1:x.lab=cJ.zero)(h2:x.st=0)(h3:x.fit=false):dA R n (i+1) cL cS cF:=by
 refine⟨h.sL,h.sS,h.sF,fun k y hy j u hu=>?_,fun k y hy=>?_,fun k y hy=>?_⟩
 ·refine h.lab k y hy j u ?_;rcases xO k i with e|e|e
  ·rw[if_pos (by omega)]at hu;rw[if_pos e];exact hu
  ·subst e;rw[hx]at hy;injection hy with hy;subst hy
   rw[if_pos (by omega),h1]at hu;rw[if_neg (by omega)];exact hu
  ·rw[if_neg (by omega)]at hu;rw[if_neg (by omega)];exact hu
 ·rw[h.st k y hy];rcases xO k i with e|e|e
  ·rw[if_pos e,if_pos (by omega)]
  ·subst e;rw[hx]at hy;injection hy with hy;subst hy
   rw[if_neg (by omega),if_pos (by omega),h2]
  ·rw[if_neg (by omega),if_neg (by omega)]
 ·rw[h.fit k y hy];rcases xO k i with e|e|e
  ·rw[if_pos e,if_pos (by omega)]
  ·subst e;rw[hx]at hy;injection hy with hy;subst hy
   rw[if_neg (by omega),if_pos (by omega),h3]
  ·rw[if_neg (by omega),if_neg (by omega)]
def eK(c c':Array Value)(i:Nat)(u:Value):Prop:=c'.size=c.size/\c'[i]?=some u/\∀k,k≠i->c'[k]?=c[k]?
theorem eK.one{c:Array Value}(h:i<c.size)(u:Value):eK c (c.setIfInBounds i u) i u :=
 ⟨uN,by rw[vV];simp[h],fun k hk=>by rw[vV,if_neg (Ne.symm hk)]⟩
theorem eK.two{c c':Array Value}(h:eK c c' i v)(hi:i<c.size)(u:Value):eK c (c'.setIfInBounds i u) i u :=
 ⟨by rw[uN];exact h.1,by rw[vV];simp[h.1,hi],fun k hk=>by rw[vV,if_neg (Ne.symm hk)];exact h.2.2 k hk⟩
theorem dA.put(h:dA R n i cL cS cF)(hR:R.length=n)(hx:R[i]?=some x)(hS:eK cS cS' i (B D x.st))(hF:eK cF cF' i (.bool x.fit)):dA R n (i+1) (dJ cL (i*4) x.lab.cells) cS' cF':=by
 have hi:=(zY.1 hx).1;refine⟨?_,by rw[hS.1];exact h.sS,by rw[hF.1];exact h.sF,fun k y hy j u hu=>?_,fun k y hy=>?_,fun k y hy=>?_⟩
 ·rw[<-h.sL];simp only[cJ.cells,dJ,uN]
 ·have hj:=ng hu;have hk:=(zY.1 hy).1;rw[nD,show x.lab.cells.length=4 from rfl,h.sL];rcases xO k i with e|e|e
  ·rw[if_neg (by omega)];rw[if_pos (by omega)]at hu;exact h.lab k y hy j u (by rw[if_pos e];exact hu)
  ·subst e;rw[hx]at hy;injection hy with hy;subst hy
   rw[if_pos (by omega)]at hu;rw[if_pos ⟨by omega,by omega,by omega⟩,show k*4+j-k*4=j by omega];exact hu
  ·rw[if_neg (by omega)];rw[if_neg (by omega)]at hu;exact h.lab k y hy j u (by rw[if_neg (by omega)];exact hu)
 ·rcases xO k i with e|e|e
  ·rw[hS.2.2 k (by omega),h.st k y hy,if_pos e,if_pos (by omega)]
  ·subst e;rw[hx]at hy;injection hy with hy;subst hy
   rw[hS.2.1,if_pos (by omega)]
  ·rw[hS.2.2 k (by omega),h.st k y hy,if_neg (by omega),if_neg (by omega)]
 ·rcases xO k i with e|e|e
  ·rw[hF.2.2 k (by omega),h.fit k y hy,if_pos e,if_pos (by omega)]
  ·subst e;rw[hx]at hy;injection hy with hy;subst hy
   rw[hF.2.1,if_pos (by omega)]
  ·rw[hF.2.2 k (by omega),h.fit k y hy,if_neg (by omega),if_neg (by omega)]
theorem dA.lab0(h:dA R n i cL cS cF)(hx:R[i]?=some x)(hj:j<4):cL[i*4+j]?=some (B D 0):=by
 refine h.lab i x hx j _ ?_;rw[if_neg (by omega)];match j,hj with
 |0,_=>rfl
 |1,_=>rfl
 |2,_=>rfl
 |3,_=>rfl
theorem dA.st0(h:dA R n i cL cS cF)(hx:R[i]?=some x):cS[i]?=some (B D 0):=by rw[h.st i x hx,if_neg (by omega)]
theorem dA.fit0(h:dA R n i cL cS cF)(hx:R[i]?=some x):cF[i]?=some (.bool false):=by rw[h.fit i x hx,if_neg (by omega)]
end
theorem dA.isLb{R:List dH}{cL cS cF:Array Value}(h:dA R n n cL cS cF)(hR:R.length=n)(hn:n<=1000)(hb:Bk w g cL 45)(hp:g≠p):bj p 4 KB w (E (some ⟨g,0,none⟩) n n) (R.map dH.lab):=by refine⟨some ⟨g,0,none⟩,n,by rw[zJ,hR],by rw[zJ];omega,by omega,fun k l hl=>?_⟩;rw[zP,yO]at hl;obtain⟨x,hx,rfl⟩:=hl;have hk:=(zY.1 hx).1;refine⟨g,0,x.lab.cells,rfl,hp,rfl,fun j u hu=>?_,rfl⟩;rw[yV];exact hb.cell (h.lab k x hx j u (by rw[if_pos (by omega)];exact hu))
theorem dA.isBl{R:List dH}{cL cS cF:Array Value}(h:dA R n n cL cS cF)(hR:R.length=n)(hn:n<=1000)(hb:Bk w g cF 4)(hp:g≠p):bj p 1 KX w (E (some ⟨g,0,none⟩) n n) (R.map dH.fit):=by
 refine⟨some ⟨g,0,none⟩,n,by rw[zJ,hR],by rw[zJ];omega,by omega,fun k b hb'=>?_⟩;rw[zP,yO]at hb';obtain⟨x,hx,rfl⟩:=hb';have hk:=(zY.1 hx).1;refine⟨g,0,[.bool x.fit],rfl,hp,rfl,fun j u hu=>?_,rfl⟩;match j,hu with
 |0,hu =>
  simp at hu;subst hu;rw[yV,yQ,wH];refine hb.cell ?_;rw[h.fit k x hx,if_pos (by omega)]
 |j+1,hu=>simp at hu
section
variable {R:List dH} {s:dl} {l:List aj} {k n i:Nat} {x:dH} {cL cS cF:Array Value}
theorem Hz(s:dl)(l:List aj):(af s l).map dH.cap=l:=by
 unfold af;rw[vY];have:(dH.cap ∘ aM s l)=id:=by funext c;exact ff s l c
 rw[this,List.map_id]
theorem CO{c:aj}(hl:∀c∈l,c.wf):(aM s l c).lab.wf:=by
 unfold aM;split
 ·exact jo (id:=c.id) (st:=(aQ l c.id).2) hl rfl
 ·exact kL
theorem Bb(hx:R[k]?=some x)(h:x.cap.kind≠1):aZ R (k+1)=aZ R k:=by rw[kC];unfold ry;rw[hx];simp[h]
theorem xh(hx:R[k]?=some x)(h:x.cap.kind=1):aZ R (k+1)=aZ R k++[lN R k x]:=by rw[kC];unfold ry;rw[hx];simp[h]
theorem kG(hx:R[k]?=some x)(h:¬(x.cap.kind=1/\cR R k x=1)):bW R (k+1)=bW R k:=by rw[jO];unfold pg1;rw[hx];simp only[uL];rw[if_neg h];simp
theorem ws(hx:R[k]?=some x)(h:x.cap.kind=1)(h2:cR R k x=1):bW R (k+1)=bW R k++[Gs x]:=by rw[jO];unfold pg1;rw[hx];simp only[uL];rw[if_pos ⟨h,h2⟩];rfl
theorem rq(R:List dH)(k:Nat):(bE bU (aZ R k)).length<=k:=by rw[(fX _).length_eq];have:=uV (ry R) (List.range k);rw[wQ]at this;exact this
theorem tl(R:List dH)(k:Nat):(bE dW (bW R k)).length<=k:=by rw[(fX _).length_eq];have:=uV (pg1 R) (List.range k);rw[wQ]at this;exact this
theorem qr(h:dA R n i cL cS cF)(hi:i<n){a:cJ}(hj:j<4):(dJ cL (i*4) a.cells)[i*4+j]?=a.cells[j]?:=by rw[nD,show a.cells.length=4 from rfl,h.sL,if_pos ⟨by omega,by omega,by omega⟩,show i*4+j-i*4=j by omega]
theorem dC(h:dA R n n cL cS cF)(hk:k<n)(hx:R[k]?=some x)(hu:x.lab.cells[j]?=some u):cL[k*4+j]?=some u:=h.lab k x hx j u (by rw[if_pos hk];exact hu)
theorem Jp(h:dA R n n cL cS cF)(hk:k<n)(hx:R[k]?=some x):cF[k]?=some (.bool x.fit):=by rw[h.fit k x hx,if_pos hk]
end
theorem ah.far{α:Type}{R:List Value->α->Prop}{xs:List α}(h:ah base e size R w v xs){a:Addr}(ha:a.block<base)(u:Value):ah base e size R (w.setCell a u) v xs:=by obtain⟨css,h1,h2,h3,h4⟩:=h;exact⟨css,h1,h2,aN h3 (fun e=>by have:=aq h3 _ e;omega) u,h4⟩
theorem ah.base_{α:Type}{R:List Value->α->Prop}{xs:List α}(h:ah base e size R w v xs)(hb:b<=base):ah b e size R w v xs:=by obtain⟨css,h1,h2,h3,h4⟩:=h;exact⟨css,h1,h2,cd h3 hb,h4⟩
theorem ah.to{α:Type}{R:List Value->α->Prop}{xs ys:List α}(h:ah base e size R w v xs)(he:xs=ys):ah base e size R w v ys:=he▸h
theorem CX{w0:World}{l:List aj}(h:bj p 13 (fun _=>bR p w0) w v l)(h0:ab w0 wx)(hw:ab w wx):au p wx v l :=
 (h.ext (fun _ _ _ _ h _=>h) hw).map_ fun _ _ k=>bR.stab p _ _ _ _ k h0.xt
def aY:cJ:=⟨0,5,1,0⟩
def ip(str:List UInt8):aj:=⟨⟨1,1,0⟩,1,str,5,[],⟨0,0⟩,⟨0,0,0,0⟩⟩
def iD(str:List UInt8)(ct:Int):aj:=⟨⟨2,1,1⟩,1,str,ct,[],⟨0,0⟩,⟨0,0,0,0⟩⟩
section
variable {str:List UInt8} {ct:Int}
theorem zv:ay [iD str ct,ip str]=[ip str,iD str ct]:=by
 refine (ir ?_ fun c=>?_).symm
 ·exact xK.2 ⟨fun b hb=>by simp at hb;subst hb;rfl,xK.2 ⟨fun b hb=>by simp at hb,xE⟩⟩
 ·constructor
  ·intro h;have h2:c=ip str\/c=iD str ct:=by simpa using h
   refine⟨by simp;exact h2.symm,eu.2 ?_⟩;rcases h2 with rfl|rfl
   ·refine⟨rfl,fun d hd _ hi=>?_⟩;have hd2:d=iD str ct\/d=ip str:=by simpa using hd
    rcases hd2 with rfl|rfl
    ·exact absurd hi (by simp[aj.id,ip,iD])
    ·rfl
   ·refine⟨rfl,fun d hd _ hi=>?_⟩;have hd2:d=iD str ct\/d=ip str:=by simpa using hd
    rcases hd2 with rfl|rfl
    ·rfl
    ·exact absurd hi (by simp[aj.id,ip,iD])
  ·rintro⟨h,_⟩;have h2:c=iD str ct\/c=ip str:=by simpa using h
   simp;exact h2.symm
theorem qg(hr:dR str=some aY):af kg [ip str,iD str ct]=[⟨ip str,aY,0,true⟩,⟨iD str ct,aY,0,true⟩]:=by
 have hf:bH kg aY []=true:=JC (j:=1) (by decide);have h1:aQ [ip str,iD str ct] (ip str).id=(aY,0):=by
  show iI (some (ip str)) none=_
  unfold iI;show (match dR str with|some x=>(x,(0:Int))|none=>(cJ.zero,4))=_
  rw[hr]
 have h2:aQ [ip str,iD str ct] (iD str ct).id=(aY,0):=by
  show iI (some (iD str ct)) none=_
  unfold iI;show (match dR str with|some x=>(x,(0:Int))|none=>(cJ.zero,4))=_
  rw[hr]
 have e1:=gj (s:=kg) (c:=ip str) rfl h1;have e2:=gj (s:=kg) (c:=iD str ct) rfl h2;rw[show (ip str).ch=[] from rfl,hf]at e1;rw[show (iD str ct).ch=[] from rfl,hf]at e2;show [aM kg _ (ip str),aM kg _ (iD str ct)]=_
 rw[e1,e2];rfl
theorem iV(hr:dR str=some aY):cQ kg (ay [iD str 5,ip str])=⟨[⟨⟨1,0⟩,1,aY⟩,⟨⟨1,1⟩,2,aY⟩],[⟨5,1,5,[],⟨1,0⟩⟩]⟩:=by
 rw[zv];refine pp ?_ ?_ ?_ ?_
 ·exact xK.2 ⟨fun b hb=>by simp at hb;subst hb;rfl,xK.2 ⟨fun b hb=>by simp at hb,xE⟩⟩
 ·exact xK.2 ⟨fun b hb=>by simp at hb,xE⟩
 ·rw[qg hr];exact wN _
 ·rw[qg hr];exact wN _
theorem i7(hr:dR str=some aY):cQ kg (ay [iD str 6,ip str])=⟨[⟨⟨1,0⟩,3,aY⟩,⟨⟨1,1⟩,3,aY⟩],[]⟩:=by
 rw[zv];refine pp ?_ ?_ ?_ ?_
 ·exact xK.2 ⟨fun b hb=>by simp at hb;subst hb;rfl,xK.2 ⟨fun b hb=>by simp at hb,xE⟩⟩
 ·exact xE
 ·rw[qg hr];exact wN _
 ·rw[qg hr];exact wN _
end
theorem ql:dj 0 5 1 0=true:=rfl
theorem Ju:dR (ym 0 5 1 0)=some aY:=by rw[ni ql];exact Bi ql
theorem KI:Dn 0 5 1 0=0:=(n9 ql).2
theorem lj(v vl:Value)(s:dl)(l:List aj)(w:World)(hp:p<w.heap.size)(hs:aR p w v s)(hv:au p w vl l)(hn:l.length<=300) :
  Calls prog 33 #[v,vl] w fun e w'=>∃vS vG:Value,e=.returned (.tuple #[.agg #[vS,vG],B D (aC s)])/\ah w.heap.size 67 7 (cU w) w' vS (if aC s=0 then cQ s (ay l) else ⟨[],[]⟩).sts/\ah w.heap.size 72 6 (lO p w) w' vG (if aC s=0 then cQ s (ay l) else ⟨[],[]⟩).pgs/\ab w w':=by
 obtain⟨vP,vB,vX,rfl,hP,hB,hX,hnum⟩:=hs;obtain⟨AP,nP,cP,rfl,-⟩:=hP.open_;obtain⟨AB,nB,cB,rfl,-⟩:=hB.open_;obtain⟨AX,nX,cX,rfl,-⟩:=hX.open_;have HS:Bx (aR p w (.agg #[B D s.num,E AP nP cP,E AB nB cB,E AX nX cX]) s):=⟨⟨_,_,_,rfl,hP,hB,hX,hnum⟩⟩
 obtain⟨Al,nl,cl,rfl,-,-,-,HLl⟩:=hv.open_;have HV:Bx (au p w (E Al nl cl) l):=⟨hv⟩
 have HF:Bx (aA w ((w.alloc (.cells #[B D s.num,E AP nP cP,E AB nB cB,E AX nX cX] 27)).alloc (.cells #[E none 0 0,E none 0 0] 59)) [(w.heap.size,#[B D s.num,E AP nP cP,E AB nB cB,E AX nX cX],27),(w.heap.size+1,#[E none 0 0,E none 0 0],59)]):=⟨((aA.start w).push _ _ rfl).push _ _ (by simp)⟩
 clear hP hB hX hnum hv;go_enter func33,ntmps33
 go_upto_region 1 with (fail)
 obtain⟨w1,hw1⟩:=nm (((w.alloc (.cells #[B D s.num,E AP nP cP,E AB nB cB,E AX nX cX] 27)).alloc (.cells #[E none 0 0,E none 0 0] 59)):World);rw[<-hw1]at HF;rw[<-hw1];clear hw1;obtain⟨b0,b1,b2,b3⟩:=(HF.out.at_ 0 rfl).p4 rfl;go_wp2_with fail;refine (mC _ s _ (HS.out.ext HF.out.xt)).mono ?_;rintro e w2 ⟨rfl,hx2⟩;have HF2:=bx (HF.out.ext hx2);clear HF hx2 b0 b1 b2 b3;by_cases hck:aC s=0;case neg =>
  have hcb:(aC s != 0)=true:=by simp[hck]
  have HC0:Bx (¬aC s=0):=⟨hck⟩
  obtain⟨z0,z1⟩:=(HF2.out.at_ 1 rfl).p2 rfl;have f0:=(HF2.out.at_ 1 rfl).froz;have f1:=f0;go_wp2_with fail;have h9:=HF2.out.setAll 1 rfl [E none 0 0,E none 0 0] rfl;refine bodyPost_ret (v:=.tuple #[.agg #[E none 0 0,E none 0 0],B D (aC s)]) (by simp[results,results33,go_sem,z0,z1]) rfl ⟨_,_,rfl,ah.nil,ah.nil,h9.xt⟩
 have hcb:(aC s != 0)=false:=by simp[hck]
 have HC0:Bx (aC s=0):=⟨hck⟩
 go_upto_region 4 with (fail)
 clear hck;have hV2:bj p 13 (fun _=>bR p w) w2 (E Al nl cl) l:=bj.ext (R:=fun _=>bR p w) HV.out (fun _ _ _ _ h _=>h) HF2.out.xt;go_wp2_with fail;refine (qI (bR p w) _ l _ (by have:=HF2.out.xt.size;omega) (fun cs c h=>bR.stab p _ _ _ _ h HF2.out.xt.xt) hV2 hn).mono ?_;rintro e w3 ⟨vo,ys,rfl,hR,hys,hyR,hx3⟩;have hI3:=hR.isR (p:=p) (by have:=HF2.out.xt.size;omega) hyR;rw[hys]at hI3;obtain⟨C,hCdef⟩:=nm (ay l);have hCn:C.length<=300:=by rw[hCdef];have:=Bd l;omega
 rw[<-hCdef]at hI3;obtain⟨A,n,c,rfl,-,hcc,hnn,HL⟩:=hI3.open_;have hn3:n<=300:=by have:=HL.out;omega
 have HC:Bx (bj p 13 (fun _=>bR p w) w3 (E A n c) C):=⟨hI3⟩
 have HB3:=bx (HF2.out.ext hx3);have HWF:Bx (∀c∈C,c.wf):=⟨(CX hI3 HB3.out.xt (zE _)).wfs⟩
 have HCD:Bx (C=ay l):=⟨hCdef⟩
 clear hI3 hR hys hyR hCdef hCn HV HF2 hx3 hcc hnn hV2;obtain⟨R,hRdef⟩:=nm (af s C);have HRL:Bx (R.length=n):=⟨by rw[hRdef,jw];exact HL.out⟩
 have HRA:Bx (∀(k:Nat) c,C[k]?=some c->R[k]?=some (aM s C c)):=⟨fun k c hk=>by rw[hRdef];exact lL hk⟩
 have HRD:Bx (R=af s C):=⟨hRdef⟩
 clear hRdef;have hmk1:=ER n (by omega);have hmk2:=EX n (by omega);have hmk3:=CI n (by omega);go_upto_region 10 with (fail)
 clear hmk1 hmk2 hmk3;have HF4:Bx (aA w3 (((w3.alloc (.cells (madeCells #[B D 0,B D 0,B D 0,B D 0] (n*4)) 45)).alloc (.cells (madeCells #[B D 0] n) 3)).alloc (.cells (madeCells #[.bool false] n) 4)) [(w3.heap.size,madeCells #[B D 0,B D 0,B D 0,B D 0] (n*4),45),(w3.heap.size+1,madeCells #[B D 0] n,3),(w3.heap.size+1+1,madeCells #[.bool false] n,4)]):=⟨(((aA.start w3).push _ _ rfl).push _ _ (by simp)).push _ _ (by simp)⟩
 have hgp:p<w3.heap.size:=by have:=HB3.out.xt.size;omega
 have hgq:w.heap.size+1<w3.heap.size:=(HB3.out.at_ 1 rfl).lt;obtain⟨w4,hw4⟩:=nm ((((w3.alloc (.cells (madeCells #[B D 0,B D 0,B D 0,B D 0] (n*4)) 45)).alloc (.cells (madeCells #[B D 0] n) 3)).alloc (.cells (madeCells #[.bool false] n) 4)):World);rw[<-hw4]at HF4;rw[<-hw4];clear hw4;obtain⟨gL,hgL⟩:=nm w3.heap.size;rw[<-hgL]at HF4 hgp hgq;rw[<-hgL];have HG3:Bx (gL=w3.heap.size):=⟨hgL⟩
 clear hgL;go_wp2_with fail;go_loopw [12] (fun s12 wr=>∃(i:Nat) (cL cS cF:Array Value),s12=B D i/\i<=n/\Bx (aA w3 wr [(gL,cL,45),(gL+1,cS,3),(gL+1+1,cF,4)]/\dA R n i cL cS cF)) (fun i _=>n-(intOf i).toNat)
 case atStart=>exact⟨0,_,_,_,rfl,by omega,⟨⟨HF4.out,dA.start HRL.out⟩⟩⟩
 case round =>
  obtain⟨i,cL,cS,cF,rfl,hi,HR⟩:=hrel;have HFr:Bx (aA w3 wr [(gL,cL,45),(gL+1,cS,3),(gL+1+1,cF,4)]):=⟨HR.out.1⟩
  have HA:Bx (dA R n i cL cS cF):=⟨HR.out.2⟩
  clear HR HF4;by_cases hin:i<n
  ·obtain⟨b,off,_,_,rfl,-⟩:=HC.out.at_ hin;obtain⟨t,sr,q,kd,ct,ts,tq,lp,lc,lg,lv,str,ch,Ac,m,cc,HXc,hc,hI,hw,-⟩:=IsCsR.read (fun _ _ h=>h) HC.out (XT.refl p w3) hin;have HRi:=zZ (HRA.out i _ HXc.out);have x3:=HFr.out.xt.cell hc.c3;by_cases hkd:kd=1;case neg =>
    have hkb:(kd != 1)=true:=by simp[hkd]
    have HXN:=zZ (sU (s:=s) (l:=C) (c:=⟨⟨t,sr,q⟩,kd,str,ct,ch,⟨ts,tq⟩,⟨lp,lc,lg,lv⟩⟩) hkd);clear hc hI hw;go_wp2_with fail;go_roundw
    case rel=>exact⟨i+1,cL,cS,cF,by go_num,by omega,⟨⟨HFr.out,HA.out.skip HRi.out (by rw[HXN.out]) (by rw[HXN.out]) (by rw[HXN.out])⟩⟩⟩
    case measure=>simp[intOf];omega
   subst hkd;have HI:Bx (ak p w (E Ac m cc) ch):=⟨hI⟩
   have HCC:Bx (ka w3 b (off+i*13) t sr q 1 ct ts tq lp lc lg lv str Ac m cc):=⟨hc⟩
   have x0:=HFr.out.xt.cell hc.c0;have x1:=HFr.out.xt.cell hc.c1;have x2:=HFr.out.xt.cell hc.c2;have x4:=HFr.out.xt.cell hc.c4;have x5:=HFr.out.xt.cell hc.c5;have x6:=HFr.out.xt.cell hc.c6;have x7:=HFr.out.xt.cell hc.c7;have x8:=HFr.out.xt.cell hc.c8;have x9:=HFr.out.xt.cell hc.c9;have x10:=HFr.out.xt.cell hc.c10;have x11:=HFr.out.xt.cell hc.c11;have x12:=HFr.out.xt.cell hc.c12;clear hc hI hw;go_wp2_with fail;refine (dN _ _ _ _ _ _ _ _ _ _ _ _ _ _ _ _).mono ?_;rintro e w5 ⟨rfl,hx5⟩;go_wp2_with fail;refine (ms _ C _ _ _ (CX HC.out (HB3.out.xt.trans (HFr.out.xt.trans hx5)) (HFr.out.xt.trans hx5))).mono ?_;rintro e w6 ⟨ep,ec,eg,ev,st,rfl,hlab,hx6⟩;have HLB:=zZ hlab;have HLW:=zZ (jo HWF.out hlab);have HF6:=bx (HFr.out.ext (hx5.trans hx6));clear hlab hx5 hx6 x0 x1 x2 x3 x4 x5 x6 x7 x8 x9 x10 x11 x12 HFr;have z0:=(HF6.out.at_ 0 rfl).cell (HA.out.lab0 HRi.out (j:=0) (by decide));have z1:=(HF6.out.at_ 0 rfl).cell (HA.out.lab0 HRi.out (j:=1) (by decide));have z2:=(HF6.out.at_ 0 rfl).cell (HA.out.lab0 HRi.out (j:=2) (by decide));have z3:=(HF6.out.at_ 0 rfl).cell (HA.out.lab0 HRi.out (j:=3) (by decide));rw[yQ]at z0;have f0:=(HF6.out.at_ 0 rfl).froz (i*4);have f1:=(HF6.out.at_ 0 rfl).froz (i*4+1);have f2:=(HF6.out.at_ 0 rfl).froz (i*4+2);have f3:=(HF6.out.at_ 0 rfl).froz (i*4+3);have y0:=(HF6.out.at_ 1 rfl).cell (HA.out.st0 HRi.out);have yf:=(HF6.out.at_ 1 rfl).froz i;go_upto_region 15 with (fail)
   clear z0 z1 z2 z3 f0 f1 f2 f3 y0 yf;obtain⟨w7,hw7⟩:=nm ((((((w6.setCell ⟨gL,i*4,none⟩ (B D ep)).setCell ⟨gL,i*4+1,none⟩ (B D ec)).setCell ⟨gL,i*4+2,none⟩ (B D eg)).setCell ⟨gL,i*4+3,none⟩ (B D ev)).setCell ⟨gL+1,i,none⟩ (B D st)):World);have HF7:Bx (aA w3 w7 [(gL,(dJ cL (i*4) [B D ep,B D ec,B D eg,B D ev]),45),(gL+1,(cS.setIfInBounds i (B D st)),3),(gL+1+1,cF,4)]):=⟨by rw[hw7];exact (HF6.out.sets 0 rfl (i*4) [B D ep,B D ec,B D eg,B D ev]).set 1 rfl i (B D st)⟩
   rw[<-hw7];clear hw7 HF6;have s0:=(HF7.out.at_ 1 rfl).cell (eK.one (c:=cS) (by rw[HA.out.sS];exact hin) (B D st)).2.1;by_cases hst:st=0
   ·subst hst;obtain⟨b0,b1,b2,b3⟩:=((HB3.out.ext HF7.out.xt).at_ 0 rfl).p4 rfl;have l0:=(HF7.out.at_ 0 rfl).cell ((qr HA.out hin (a:=⟨ep,ec,eg,ev⟩) (j:=0) (by decide)).trans rfl);have l1:=(HF7.out.at_ 0 rfl).cell ((qr HA.out hin (a:=⟨ep,ec,eg,ev⟩) (j:=1) (by decide)).trans rfl);have l2:=(HF7.out.at_ 0 rfl).cell ((qr HA.out hin (a:=⟨ep,ec,eg,ev⟩) (j:=2) (by decide)).trans rfl);have l3:=(HF7.out.at_ 0 rfl).cell ((qr HA.out hin (a:=⟨ep,ec,eg,ev⟩) (j:=3) (by decide)).trans rfl);rw[yQ]at l0;have x6:=HF7.out.xt.cell HCC.out.c6;have hfi:eC s ⟨ep,ec,eg,ev⟩ ch=bH s ⟨ep,ec,eg,ev⟩ ch:=by unfold eC;rw[HC0.out];simp
    refine zQ 21 fun wd kS=>?_;refine zS 18 [(0,67),(1,68),(2,69),(3,70),(4,71),(5,72),(6,73),(7,74),(8,75),(9,76),(10,77),(11,78),(12,79),(13,80),(14,81),(15,82),(16,83),(17,84)] kS ?_;iterate 18 refine zT ?_ (y:=by intro wk hk;obtain⟨_,_,_,_,_,_,_,_⟩:=zkc8 hk s0 b0 b1 b2 b3 l0 l1 l2;obtain⟨_,_⟩:=zkc2 hk l3 x6;go_simp;try with_reducible rfl)
    refine zN (zO 18 (fun K hK=>?_));go_simp;refine (pe _ _ s ep ec eg ev ch _ (p:=p) (q:=p) (by have:=kS.size;have:=HF7.out.xt.size;have:=HG3.out;omega) (HS.out.ext (HB3.out.xt.trans (HF7.out.xt.trans kS))) (HI.out.ext (HB3.out.xt.trans (HF7.out.xt.trans kS))) HLW.out).mono ?_;rintro e w8 ⟨rfl,hx8⟩;have kS2:ab w7 w8:=kS.trans hx8;rw[hfi];clear hfi kS hx8 s0 b0 b1 b2 b3 l0 l1 l2 l3 x6;cases hf:bH s ⟨ep,ec,eg,ev⟩ ch with
    |true =>
     have HRt:Bx (R[i]?=some ⟨⟨⟨t,sr,q⟩,1,str,ct,ch,⟨ts,tq⟩,⟨lp,lc,lg,lv⟩⟩,⟨ep,ec,eg,ev⟩,0,true⟩):=⟨by rw[HRi.out,gj rfl HLB.out];simp[hf]⟩
     clear hf;refine hK.out _ _ (fun _=>kS2) ?_;clear hK K;try simp only[kA]
     refine zS 2 [(19,86),(20,87)] kS2 ?_;iterate 2 refine zT ?_
     refine zN ?_;have d0:=((HF7.out.ext kS2).at_ 2 rfl).cell (HA.out.fit0 HRi.out);have df:=((HF7.out.ext kS2).at_ 2 rfl).froz i;refine zO 21 (fun K hK=>?_);go_simp;refine hK.out _ _ (fun h=>absurd rfl h) ?_;clear hK K;refine zD ?_;obtain⟨w9,hw9⟩:=nm ((w8.setCell ⟨gL+1+1,i,none⟩ (.bool true)):World);have HF9:Bx (aA w3 w9 [(gL,(dJ cL (i*4) [B D ep,B D ec,B D eg,B D ev]),45),(gL+1,(cS.setIfInBounds i (B D 0)),3),(gL+1+1,(cF.setIfInBounds i (.bool true)),4)]):=⟨by rw[hw9];exact (HF7.out.ext kS2).set 2 rfl i _⟩
     rw[<-hw9];clear hw9 d0 df kS2;have s1:=(HF9.out.at_ 1 rfl).cell (eK.one (c:=cS) (by rw[HA.out.sS];exact hin) (B D 0)).2.1;have s2:=(HF9.out.at_ 2 rfl).cell (eK.one (c:=cF) (by rw[HA.out.sF];exact hin) (.bool true)).2.1;have s3:=(HF9.out.at_ 1 rfl).froz i;have HPT:Bx (aA w3 w9 [(gL,(dJ cL (i*4) [B D ep,B D ec,B D eg,B D ev]),45),(gL+1,(cS.setIfInBounds i (B D 0)),3),(gL+1+1,(cF.setIfInBounds i (.bool true)),4)]/\dA R n (i+1) (dJ cL (i*4) [B D ep,B D ec,B D eg,B D ev]) (cS.setIfInBounds i (B D 0)) (cF.setIfInBounds i (.bool true))):=⟨⟨HF9.out,HA.out.put (x:=⟨⟨⟨t,sr,q⟩,1,str,ct,ch,⟨ts,tq⟩,⟨lp,lc,lg,lv⟩⟩,⟨ep,ec,eg,ev⟩,0,true⟩) HRL.out HRt.out (eK.one (by rw[HA.out.sS];exact hin) _) (eK.one (by rw[HA.out.sF];exact hin) _)⟩⟩
     go_wp2_with fail;go_roundw
     case rel=>exact⟨i+1,(dJ cL (i*4) [B D ep,B D ec,B D eg,B D ev]),(cS.setIfInBounds i (B D 0)),(cF.setIfInBounds i (.bool true)),by go_num,by omega,HPT⟩
     case measure=>simp[intOf];omega
    |false =>
     have HRt:Bx (R[i]?=some ⟨⟨⟨t,sr,q⟩,1,str,ct,ch,⟨ts,tq⟩,⟨lp,lc,lg,lv⟩⟩,⟨ep,ec,eg,ev⟩,5,false⟩):=⟨by rw[HRi.out,gj rfl HLB.out];simp[hf]⟩
     clear hf;refine hK.out _ _ (fun _=>kS2) ?_;clear hK K;try simp only[kA]
     refine zS 2 [(19,86),(20,87)] kS2 ?_;iterate 2 refine zT ?_
     refine zN ?_;have d0:=((HF7.out.ext kS2).at_ 2 rfl).cell (HA.out.fit0 HRi.out);have df:=((HF7.out.ext kS2).at_ 2 rfl).froz i;refine zO 21 (fun K hK=>?_);go_simp;refine hK.out _ _ (fun h=>absurd rfl h) ?_;clear hK K;refine zD ?_;obtain⟨w9,hw9⟩:=nm ((w8.setCell ⟨gL+1+1,i,none⟩ (.bool false)):World);have HF9:Bx (aA w3 w9 [(gL,(dJ cL (i*4) [B D ep,B D ec,B D eg,B D ev]),45),(gL+1,(cS.setIfInBounds i (B D 0)),3),(gL+1+1,(cF.setIfInBounds i (.bool false)),4)]):=⟨by rw[hw9];exact (HF7.out.ext kS2).set 2 rfl i _⟩
     rw[<-hw9];clear hw9 d0 df kS2;have s1:=(HF9.out.at_ 1 rfl).cell (eK.one (c:=cS) (by rw[HA.out.sS];exact hin) (B D 0)).2.1;have s2:=(HF9.out.at_ 2 rfl).cell (eK.one (c:=cF) (by rw[HA.out.sF];exact hin) (.bool false)).2.1;have s3:=(HF9.out.at_ 1 rfl).froz i;have HPT:Bx (aA w3 (w9.setCell ⟨gL+1,i,none⟩ (B D 5)) [(gL,(dJ cL (i*4) [B D ep,B D ec,B D eg,B D ev]),45),(gL+1,((cS.setIfInBounds i (B D 0)).setIfInBounds i (B D 5)),3),(gL+1+1,(cF.setIfInBounds i (.bool false)),4)]/\dA R n (i+1) (dJ cL (i*4) [B D ep,B D ec,B D eg,B D ev]) ((cS.setIfInBounds i (B D 0)).setIfInBounds i (B D 5)) (cF.setIfInBounds i (.bool false))):=⟨⟨HF9.out.set 1 rfl i (B D 5),HA.out.put (x:=⟨⟨⟨t,sr,q⟩,1,str,ct,ch,⟨ts,tq⟩,⟨lp,lc,lg,lv⟩⟩,⟨ep,ec,eg,ev⟩,5,false⟩) HRL.out HRt.out ((eK.one (by rw[HA.out.sS];exact hin) (B D 0)).two (by rw[HA.out.sS];exact hin) _) (eK.one (by rw[HA.out.sF];exact hin) _)⟩⟩
     go_wp2_with fail;go_roundw
     case rel=>exact⟨i+1,(dJ cL (i*4) [B D ep,B D ec,B D eg,B D ev]),((cS.setIfInBounds i (B D 0)).setIfInBounds i (B D 5)),(cF.setIfInBounds i (.bool false)),by go_num,by omega,HPT⟩
     case measure=>simp[intOf];omega
   ·have hstb:(st==0)=false:=by simp[hst]
    have HRt:Bx (R[i]?=some ⟨⟨⟨t,sr,q⟩,1,str,ct,ch,⟨ts,tq⟩,⟨lp,lc,lg,lv⟩⟩,⟨ep,ec,eg,ev⟩,st,false⟩):=⟨by rw[HRi.out,gj rfl HLB.out];simp[hst]⟩
    refine zQ 21 fun wd kS=>?_;refine zS 21 [(0,67),(1,68),(2,69),(3,70),(4,71),(5,72),(6,73),(7,74),(8,75),(9,76),(10,77),(11,78),(12,79),(13,80),(14,81),(15,82),(16,83),(17,84),(18,85),(19,86),(20,87)] kS ?_;iterate 8 refine zT ?_ (y:=by intro wk hk;have:=hk.cell s0;go_simp;try with_reducible rfl)
    iterate 11 (apply zK;exact⟨rfl,rfl⟩;simp only[kA];exact rfl)
    iterate 2 refine zT ?_ (y:=by intro wk hk;have:=hk.cell s0;go_simp;try with_reducible rfl)
    refine zN ?_;have d0:=((HF7.out.ext kS).at_ 2 rfl).cell (HA.out.fit0 HRi.out);have df:=((HF7.out.ext kS).at_ 2 rfl).froz i;refine zO 21 (fun K hK=>?_);go_simp;refine hK.out _ _ (fun h=>absurd rfl h) ?_;clear hK K;refine zD ?_;obtain⟨w9,hw9⟩:=nm ((wd.setCell ⟨gL+1+1,i,none⟩ (.bool false)):World);have HF9:Bx (aA w3 w9 [(gL,(dJ cL (i*4) [B D ep,B D ec,B D eg,B D ev]),45),(gL+1,(cS.setIfInBounds i (B D st)),3),(gL+1+1,(cF.setIfInBounds i (.bool false)),4)]):=⟨by rw[hw9];exact (HF7.out.ext kS).set 2 rfl i _⟩
    rw[<-hw9];clear hw9 d0 df kS;have s1:=(HF9.out.at_ 1 rfl).cell (eK.one (c:=cS) (by rw[HA.out.sS];exact hin) (B D st)).2.1;have s2:=(HF9.out.at_ 2 rfl).cell (eK.one (c:=cF) (by rw[HA.out.sF];exact hin) (.bool false)).2.1;have s3:=(HF9.out.at_ 1 rfl).froz i;have HPT:Bx (aA w3 w9 [(gL,(dJ cL (i*4) [B D ep,B D ec,B D eg,B D ev]),45),(gL+1,(cS.setIfInBounds i (B D st)),3),(gL+1+1,(cF.setIfInBounds i (.bool false)),4)]/\dA R n (i+1) (dJ cL (i*4) [B D ep,B D ec,B D eg,B D ev]) (cS.setIfInBounds i (B D st)) (cF.setIfInBounds i (.bool false))):=⟨⟨HF9.out,HA.out.put (x:=⟨⟨⟨t,sr,q⟩,1,str,ct,ch,⟨ts,tq⟩,⟨lp,lc,lg,lv⟩⟩,⟨ep,ec,eg,ev⟩,st,false⟩) HRL.out HRt.out (eK.one (by rw[HA.out.sS];exact hin) _) (eK.one (by rw[HA.out.sF];exact hin) _)⟩⟩
    go_wp2_with fail;go_roundw
    case rel=>exact⟨i+1,(dJ cL (i*4) [B D ep,B D ec,B D eg,B D ev]),(cS.setIfInBounds i (B D st)),(cF.setIfInBounds i (.bool false)),by go_num,by omega,HPT⟩
    case measure=>simp[intOf];omega
  ·obtain rfl:i=n:=by omega
   have HA1:Bx (dA R i i cL cS cF):=⟨HA.out⟩
   clear HA;have HA:=HA1;clear HA1;obtain⟨cS1,hcS1⟩:=nm cS;rw[<-hcS1]at HA HFr;clear hcS1;go_upto_region 19 with (fail)
   have HFa:Bx (aA w3 (wr.alloc (.cells #[E none 0 0,E none 0 0] 59)) [(gL,cL,45),(gL+1,cS1,3),(gL+1+1,cF,4),(wr.heap.size,#[E none 0 0,E none 0 0],59)]):=⟨HFr.out.push _ _ rfl⟩
   have hgI0:gL+1+1<wr.heap.size:=(HFr.out.at_ 2 rfl).lt;obtain⟨wz,hwz⟩:=nm ((wr.alloc (.cells #[E none 0 0,E none 0 0] 59)):World);rw[<-hwz]at HFa;rw[<-hwz];clear hwz;obtain⟨gI,hgI⟩:=nm wr.heap.size;rw[<-hgI]at HFa hgI0;rw[<-hgI];clear hgI HFr;go_wp2_with fail;go_loopw [14] (fun s14 wx=>∃(k:Nat) (cS:Array Value) (vS vG:Value),s14=B D k/\k<=i/\Bx (aA w3 wx [(gL,cL,45),(gL+1,cS,3),(gL+1+1,cF,4),(gI,#[vS,vG],59)]/\cS.size=i/\(∀(j:Nat) y,k<=j->R[j]?=some y->cS[j]?=some (B D y.st))/\ah (gI+1) 67 7 (cU w) wx vS (bE bU (aZ R k))/\ah (gI+1) 72 6 (lO p w) wx vG (bE dW (bW R k)))) (fun k _=>i-(intOf k).toNat)
   case atStart=>exact⟨0,cS1,_,_,rfl,by omega,⟨⟨HFa.out,HA.out.sS,fun j y _ hy=>by rw[HA.out.st j y hy,if_pos (by have:=(zY.1 hy).1;have:=HRL.out;omega)],ah.nil,ah.nil⟩⟩⟩
   case round =>
    obtain⟨k,cS,vS,vG,rfl,hk,HR⟩:=hrel;obtain⟨AS,cS2,hvS⟩:=HR.out.2.2.2.1.form;obtain⟨AG,cG,hvG⟩:=HR.out.2.2.2.2.form;obtain⟨nS,hnS⟩:=nm ((bE bU (aZ R k)).length);obtain⟨nG,hnG⟩:=nm ((bE dW (bW R k)).length);rw[<-hnS]at hvS;rw[<-hnG]at hvG;subst hvS;subst hvG;clear hnS hnG;have HFr:Bx (aA w3 wr [(gL,cL,45),(gL+1,cS,3),(gL+1+1,cF,4),(gI,#[(E AS nS cS2),(E AG nG cG)],59)]):=⟨HR.out.1⟩
    have HST:Bx (cS.size=i/\∀(j:Nat) y,k<=j->R[j]?=some y->cS[j]?=some (B D y.st)):=⟨⟨HR.out.2.1,HR.out.2.2.1⟩⟩
    have HOS:Bx (ah (gI+1) 67 7 (cU w) wr (E AS nS cS2) (bE bU (aZ R k))):=⟨HR.out.2.2.2.1⟩
    have HOG:Bx (ah (gI+1) 72 6 (lO p w) wr (E AG nG cG) (bE dW (bW R k))):=⟨HR.out.2.2.2.2⟩
    clear HR HFa;by_cases hkn:k<i
    ·obtain⟨b,off,_,_,rfl,-⟩:=HC.out.at_ hkn;obtain⟨t,sr,q,kd,ct,ts,tq,lp,lc,lg,lv,str,ch,Ac,m,cc,HXc,hc0,hI0,hw0,-⟩:=IsCsR.read (fun _ _ h=>h) HC.out (XT.refl p w3) hkn;have hc:=zZ hc0;have hI:=zZ hI0;have hw:=zZ hw0;clear hc0 hI0 hw0;obtain⟨x,hx⟩:=nm (aM s C ⟨⟨t,sr,q⟩,kd,str,ct,ch,⟨ts,tq⟩,⟨lp,lc,lg,lv⟩⟩);have HRk:Bx (R[k]?=some x):=⟨by rw[hx];exact HRA.out k _ HXc.out⟩
     have HXcap:Bx (x.cap=⟨⟨t,sr,q⟩,kd,str,ct,ch,⟨ts,tq⟩,⟨lp,lc,lg,lv⟩⟩):=⟨by rw[hx,ff]⟩
     have HLW0:=CO (s:=s) (c:=⟨⟨t,sr,q⟩,kd,str,ct,ch,⟨ts,tq⟩,⟨lp,lc,lg,lv⟩⟩) HWF.out;rw[<-hx]at HLW0;have HLW:=zZ HLW0;clear HLW0 hx;have x3:=HFr.out.xt.cell hc.out.c3;by_cases hkd:kd=1;case neg =>
      have hkb:(kd != 1)=true:=by simp[hkd]
      have HKN:Bx (x.cap.kind≠1):=⟨by rw[HXcap.out];exact hkd⟩
      have HEND:Bx (aA w3 wr [(gL,cL,45),(gL+1,cS,3),(gL+1+1,cF,4),(gI,#[(E AS nS cS2),(E AG nG cG)],59)]/\cS.size=i/\(∀(j:Nat) y,k+1<=j->R[j]?=some y->cS[j]?=some (B D y.st))/\ah (gI+1) 67 7 (cU w) wr (E AS nS cS2) (bE bU (aZ R (k+1)))/\ah (gI+1) 72 6 (lO p w) wr (E AG nG cG) (bE dW (bW R (k+1)))):=⟨⟨HFr.out,HST.out.1,fun j y hj hy=>HST.out.2 j y (by omega) hy,by rw[Bb HRk.out HKN.out];exact HOS.out,by rw[kG HRk.out (fun h=>HKN.out h.1)];exact HOG.out⟩⟩
      go_wp2_with fail;go_roundw
      case rel=>exact⟨k+1,cS,_,_,by go_num,by omega,HEND⟩
      case measure=>simp[intOf];omega
     subst hkd;obtain⟨xcap,⟨ep,ec,eg,ev⟩,xst,xf⟩:=x;have HXK:Bx (xcap.kind=1):=⟨by have:=HXcap.out;simp only at this;rw[this]⟩
     have HXC:Bx (xcap=⟨⟨t,sr,q⟩,1,str,ct,ch,⟨ts,tq⟩,⟨lp,lc,lg,lv⟩⟩):=⟨HXcap.out⟩
     have f0:=(HFr.out.at_ 2 rfl).cell (Jp HA.out hkn HRk.out);simp only at f0;cases xf with
     |false =>
      go_upto_region 25 with (fail)
      clear f0 x3;have HSV:Bx (cR R k ⟨xcap,⟨ep,ec,eg,ev⟩,xst,false⟩=xst):=⟨rfl⟩
      have HSC:Bx ((cS)[k]?=some (B D (xst))/\(cS).size=i/\∀(j:Nat) y,k+1<=j->R[j]?=some y->(cS)[j]?=some (B D y.st)):=⟨⟨HST.out.2 k _ (zX _) HRk.out,HST.out.1,fun j y hj hy=>HST.out.2 j y (by omega) hy⟩⟩
      have s0:wr.cell? ⟨gL+1,k,none⟩=some (B D xst):=(HFr.out.at_ 1 rfl).cell HSC.out.1;have HSB:=zZ (Bq (s:=s) (l:=C) (i:=k) (x:=⟨xcap,⟨ep,ec,eg,ev⟩,xst,false⟩) (by rw[<-HRD.out];exact HRk.out) HXK.out);have HSW:Bx (dF.wf ⟨⟨sr,q⟩,xst,⟨ep,ec,eg,ev⟩⟩):=⟨⟨⟨hw.out.1.2.1,hw.out.1.2.2⟩,by have h1:=HSB.out;rw[<-HRD.out,HSV.out]at h1;exact (show aU xst from ⟨by omega,by omega⟩),HLW.out⟩⟩
      have x0:=HFr.out.xt.cell hc.out.c0;have x1:=HFr.out.xt.cell hc.out.c1;have x2:=HFr.out.xt.cell hc.out.c2;have x3:=HFr.out.xt.cell hc.out.c3;have x4:=HFr.out.xt.cell hc.out.c4;have x5:=HFr.out.xt.cell hc.out.c5;have x6:=HFr.out.xt.cell hc.out.c6;have x7:=HFr.out.xt.cell hc.out.c7;have x8:=HFr.out.xt.cell hc.out.c8;have x9:=HFr.out.xt.cell hc.out.c9;have x10:=HFr.out.xt.cell hc.out.c10;have x11:=HFr.out.xt.cell hc.out.c11;have x12:=HFr.out.xt.cell hc.out.c12;have l0:=(HFr.out.at_ 0 rfl).cell (dC HA.out hkn HRk.out (j:=0) rfl);have l1:=(HFr.out.at_ 0 rfl).cell (dC HA.out hkn HRk.out (j:=1) rfl);have l2:=(HFr.out.at_ 0 rfl).cell (dC HA.out hkn HRk.out (j:=2) rfl);have l3:=(HFr.out.at_ 0 rfl).cell (dC HA.out hkn HRk.out (j:=3) rfl);rw[yQ]at l0;have i0:=(HFr.out.at_ 3 rfl).c 0 rfl;refine zQ 18 fun wd kS=>?_;refine zS 14 [(0,127),(1,128),(2,129),(3,130),(4,131),(5,132),(7,134),(8,135),(9,136),(10,137),(11,138),(12,139),(13,140),(14,141)] kS ?_;iterate 14 refine zT ?_ (y:=by intro wk hk;obtain⟨_,_,_,_,_,_,_,_⟩:=zkc8 hk i0 x0 x1 x2 x3 x4 x5 x6;obtain⟨_,_,_,_,_,_,_,_⟩:=zkc8 hk x7 x8 x9 x10 x11 x12 s0 l0;obtain⟨_,_,_⟩:=zkc3 hk l1 l2 l3;go_simp;try with_reducible rfl)
      refine zN (zO 6 (fun K hK=>?_));go_simp;refine (dN _ _ _ _ _ _ _ _ _ _ _ _ _ _ _ _).mono ?_;rintro e wa ⟨rfl,hxa⟩;have kS2:ab wr wa:=kS.trans hxa;refine hK.out _ _ (fun _=>kS2) ?_;clear hK K;try simp only[kA]
      refine zS 1 [(15,142)] kS2 ?_;refine zT ?_ (y:=by intro wk hk;obtain⟨_,_,_,_,_,_,_,_⟩:=zkc8 hk i0 x0 x1 x2 x3 x4 x5 x6;obtain⟨_,_,_,_,_,_,_,_⟩:=zkc8 hk x7 x8 x9 x10 x11 x12 s0 l0;obtain⟨_,_,_⟩:=zkc3 hk l1 l2 l3;go_simp;try with_reducible rfl);refine zN (zO 16 (fun K hK=>?_));go_simp;refine (pB _ (bE bU (aZ R k)) sr q xst ep ec eg ev _ (p:=p) ((HOS.out.ext kS2).isS (by decide) (by omega) (fun _ _ h=>h)) HSW.out (by have:=rq R k;omega)).mono ?_;rintro e wb ⟨vo,rfl,hO,hxb⟩;have kS3:ab wr wb:=kS2.trans hxb;obtain⟨Ao,co,rfl⟩:=hO.form;have hwa:gI+1<=wa.heap.size:=by have h1:=((HFr.out.ext kS2).at_ 3 rfl).lt;omega
      refine hK.out _ _ (fun _=>kS3) ?_;clear hK K;try simp only[kA]
      refine zS 1 [(17,144)] kS3 ?_;refine zT ?_ (y:=by intro wk hk;obtain⟨_,_,_,_,_,_,_,_⟩:=zkc8 hk i0 x0 x1 x2 x3 x4 x5 x6;obtain⟨_,_,_,_,_,_,_,_⟩:=zkc8 hk x7 x8 x9 x10 x11 x12 s0 l0;obtain⟨_,_,_⟩:=zkc3 hk l1 l2 l3;go_simp;try with_reducible rfl);refine zN ?_;have d0:=((HFr.out.ext kS3).at_ 3 rfl).c 0 rfl;have df:=((HFr.out.ext kS3).at_ 3 rfl).froz;refine zO 18 (fun K hK=>?_);go_simp;refine hK.out _ _ (fun h=>absurd rfl h) ?_;clear hK K;refine zD ?_;obtain⟨nS2,hnS2⟩:=nm ((jV bU (⟨⟨sr,q⟩,xst,⟨ep,ec,eg,ev⟩⟩:dF) (bE bU (aZ R k))).length);rw[<-hnS2]at hO;rw[<-hnS2];clear hnS2;obtain⟨wc,hwc⟩:=nm ((wb.setCell ⟨gI,0,none⟩ (E Ao nS2 co)):World);have HFc:Bx (aA w3 wc [(gL,cL,45),(gL+1,cS,3),(gL+1+1,cF,4),(gI,#[(E Ao nS2 co),(E AG nG cG)],59)]):=⟨by rw[hwc];exact (HFr.out.ext kS3).set 3 rfl 0 _⟩
      have HOSc:Bx (ah (gI+1) 67 7 (cU w) wc (E Ao nS2 co) (bE bU (aZ R (k+1)))):=⟨by
       rw[hwc,xh HRk.out HXK.out,fY];have he:lN R k ⟨xcap,⟨ep,ec,eg,ev⟩,xst,false⟩=⟨⟨sr,q⟩,xst,⟨ep,ec,eg,ev⟩⟩:=by unfold lN;rw[HSV.out];simp only;rw[HXC.out];rfl
       rw[he];exact (hO.base_ hwa).far (by simp) _⟩
      have HOGc:Bx (ah (gI+1) 72 6 (lO p w) wc (E AG nG cG) (bE dW (bW R k))):=⟨by rw[hwc];exact (HOG.out.ext kS3).far (by simp) _⟩
      have HS0:=(kS3.cell s0)
      have s5:wc.cell? ⟨gL+1,k,none⟩=some (B D (xst)):=(HFc.out.at_ 1 rfl).cell HSC.out.1;rw[<-hwc];clear hwc d0 df hO HS0 kS hxa hxb hwa;by_cases hsv:xst=1
      ·have HPU:=zZ (hsv);have c5:=HFc.out.xt.cell hc.out.c5;have i1:=(HFc.out.at_ 3 rfl).c 1 rfl;have x0:=HFc.out.xt.cell hc.out.c0;have x1:=HFc.out.xt.cell hc.out.c1;have x2:=HFc.out.xt.cell hc.out.c2;have x3:=HFc.out.xt.cell hc.out.c3;have x4:=HFc.out.xt.cell hc.out.c4;have x5:=HFc.out.xt.cell hc.out.c5;have x6:=HFc.out.xt.cell hc.out.c6;have x7:=HFc.out.xt.cell hc.out.c7;have x8:=HFc.out.xt.cell hc.out.c8;have x9:=HFc.out.xt.cell hc.out.c9;have x10:=HFc.out.xt.cell hc.out.c10;have x11:=HFc.out.xt.cell hc.out.c11;have x12:=HFc.out.xt.cell hc.out.c12;have l0:=(HFc.out.at_ 0 rfl).cell (dC HA.out hkn HRk.out (j:=0) rfl);have l1:=(HFc.out.at_ 0 rfl).cell (dC HA.out hkn HRk.out (j:=1) rfl);have l2:=(HFc.out.at_ 0 rfl).cell (dC HA.out hkn HRk.out (j:=2) rfl);have l3:=(HFc.out.at_ 0 rfl).cell (dC HA.out hkn HRk.out (j:=3) rfl);go_upto_region 27 with (fail)
       refine zQ 30 fun we kS=>?_;refine zS 26 [(0,150),(1,151),(2,152),(3,153),(4,154),(5,155),(6,156),(7,157),(8,158),(9,159),(10,160),(11,161),(12,162),(13,163),(14,164),(15,165),(16,166),(17,167),(18,168),(19,169),(20,170),(21,171),(22,172),(23,173),(24,174),(25,175)] kS ?_;iterate 26 refine zT ?_ (y:=by intro wk hk;obtain⟨_,_,_,_,_,_,_,_⟩:=zkc8 hk i1 x0 x1 x2 x3 x4 x5 x6;obtain⟨_,_,_,_,_,_,_,_⟩:=zkc8 hk x7 x8 x9 x10 x11 x12 l1 l2;go_simp;try with_reducible rfl)
       refine zN (zO 26 (fun K hK=>?_));go_simp;refine (dN _ _ _ _ _ _ _ _ _ _ _ _ _ _ _ _).mono ?_;rintro e wf ⟨rfl,hxf⟩;have kS4:ab wc wf:=kS.trans hxf;refine hK.out _ _ (fun _=>kS4) ?_;clear hK K;try simp only[kA]
       refine zS 1 [(27,177)] kS4 ?_;refine zT ?_ (y:=by intro wk hk;obtain⟨_,_,_,_,_,_,_,_⟩:=zkc8 hk i1 x0 x1 x2 x3 x4 x5 x6;obtain⟨_,_,_,_,_,_,_,_⟩:=zkc8 hk x7 x8 x9 x10 x11 x12 l1 l2;go_simp;try with_reducible rfl);refine zN (zO 28 (fun K hK=>?_));go_simp;refine (ru (lO p w) _ (bE dW (bW R k)) ec eg ct sr q Ac m cc ch _ (p:=p) (fun cs y h=>lO.stab p _ _ _ _ h (HB3.out.xt.trans (HFc.out.xt.trans kS4)).xt) (ah.isS (R':=fun _=>lO p w) (HOGc.out.ext kS4) (by decide) (by omega) (fun _ _ h=>h)) ⟨_,rfl,hI.out,⟨HLW.out.2.1,HLW.out.2.2.1,hw.out.2.2.2.1,⟨hw.out.1.2.1,hw.out.1.2.2⟩,hw.out.2.2.2.2.2.2⟩⟩ (by have:=tl R k;omega)).mono ?_;rintro e wg ⟨vo2,rfl,hO2,hxg⟩;have kS5:ab wc wg:=kS4.trans hxg;obtain⟨Ap,cp,rfl⟩:=hO2.form;have hwf:gI+1<=wf.heap.size:=by have h1:=((HFc.out.ext kS4).at_ 3 rfl).lt;omega
       refine hK.out _ _ (fun _=>kS5) ?_;clear hK K;try simp only[kA]
       refine zS 1 [(29,179)] kS5 ?_;refine zT ?_ (y:=by intro wk hk;obtain⟨_,_,_,_,_,_,_,_⟩:=zkc8 hk i1 x0 x1 x2 x3 x4 x5 x6;obtain⟨_,_,_,_,_,_,_,_⟩:=zkc8 hk x7 x8 x9 x10 x11 x12 l1 l2;go_simp;try with_reducible rfl);refine zN ?_;have d1:=((HFc.out.ext kS5).at_ 3 rfl).c 1 rfl;have dg:=((HFc.out.ext kS5).at_ 3 rfl).froz;refine zO 30 (fun K hK=>?_);go_simp;refine hK.out _ _ (fun h=>absurd rfl h) ?_;clear hK K;refine zD ?_;obtain⟨nG2,hnG2⟩:=nm ((jV dW (⟨ec,eg,ct,ch,⟨sr,q⟩⟩:Pg) (bE dW (bW R k))).length);rw[<-hnG2]at hO2;rw[<-hnG2];clear hnG2;have HEND:Bx (aA w3 (wg.setCell ⟨gI,1,none⟩ (E Ap nG2 cp)) [(gL,cL,45),(gL+1,cS,3),(gL+1+1,cF,4),(gI,#[(E Ao nS2 co),(E Ap nG2 cp)],59)]/\(cS).size=i/\(∀(j:Nat) y,k+1<=j->R[j]?=some y->(cS)[j]?=some (B D y.st))/\ah (gI+1) 67 7 (cU w) (wg.setCell ⟨gI,1,none⟩ (E Ap nG2 cp)) (E Ao nS2 co) (bE bU (aZ R (k+1)))/\ah (gI+1) 72 6 (lO p w) (wg.setCell ⟨gI,1,none⟩ (E Ap nG2 cp)) (E Ap nG2 cp) (bE dW (bW R (k+1)))):=⟨⟨(HFc.out.ext kS5).set 3 rfl 1 _,HSC.out.2.1,HSC.out.2.2,(HOSc.out.ext kS5).far (by simp) _,by
        rw[ws HRk.out HXK.out (by rw[HSV.out];exact HPU.out),fY];have he:Gs ⟨xcap,⟨ep,ec,eg,ev⟩,xst,false⟩=⟨ec,eg,ct,ch,⟨sr,q⟩⟩:=by unfold Gs;simp only;rw[HXC.out];rfl
        rw[he];exact (hO2.base_ hwf).far (by simp) _⟩⟩
       clear hO2 d1 dg kS4 kS5 hxf hxg hwf;go_wp2_with fail;go_roundw
       case rel=>exact⟨k+1,cS,_,_,by go_num,by omega,HEND⟩
       case measure=>simp[intOf];omega
      ·have HEND:Bx (aA w3 wc [(gL,cL,45),(gL+1,cS,3),(gL+1+1,cF,4),(gI,#[(E Ao nS2 co),(E AG nG cG)],59)]/\(cS).size=i/\(∀(j:Nat) y,k+1<=j->R[j]?=some y->(cS)[j]?=some (B D y.st))/\ah (gI+1) 67 7 (cU w) wc (E Ao nS2 co) (bE bU (aZ R (k+1)))/\ah (gI+1) 72 6 (lO p w) wc (E AG nG cG) (bE dW (bW R (k+1)))):=⟨⟨HFc.out,HSC.out.2.1,HSC.out.2.2,HOSc.out,by
        rw[kG HRk.out (fun h=>hsv (by rw[<-HSV.out];exact h.2))];exact HOGc.out⟩⟩
       have hsb:(xst==1)=false:=by simp[hsv]
       go_wp2_with fail;go_roundw
       case rel=>exact⟨k+1,cS,_,_,by go_num,by omega,HEND⟩
       case measure=>simp[intOf];omega
     |true =>
      go_upto_region 24 with (fail)
      have y0:=(HFr.out.at_ 1 rfl).cell (HST.out.2 k _ (zX _) HRk.out);go_wp2_with fail;refine (ua _ _ _ R k ⟨xcap,⟨ep,ec,eg,ev⟩,xst,true⟩ _ (p:=p) (by have h:=CX HC.out (HB3.out.xt.trans HFr.out.xt) HFr.out.xt;rw[HRD.out,Hz];exact h) (HA.out.isLb HRL.out (by omega) (HFr.out.at_ 0 rfl) (by omega)) (HA.out.isBl HRL.out (by omega) (HFr.out.at_ 2 rfl) (by omega)) HRk.out).mono ?_;rintro e w5 ⟨rfl,hx5⟩;obtain⟨jv,hjv⟩:=nm (dL R k ⟨xcap,⟨ep,ec,eg,ev⟩,xst,true⟩);rw[<-hjv];have HSV:Bx (cR R k ⟨xcap,⟨ep,ec,eg,ev⟩,xst,true⟩=jv):=⟨hjv.symm⟩
      have HF5:=bx (HFr.out.ext hx5);have HOS5:=bx (HOS.out.ext hx5);have HOG5:=bx (HOG.out.ext hx5);replace y0:=hx5.cell y0;have yf:=(HF5.out.at_ 1 rfl).froz k;clear hjv f0 x3 hx5 HFr HOS HOG;go_upto_region 25 with (fail)
      obtain⟨w6,hw6⟩:=nm ((w5.setCell ⟨gL+1,k,none⟩ (B D jv)):World);have HF6:Bx (aA w3 w6 [(gL,cL,45),(gL+1,(cS.setIfInBounds k (B D jv)),3),(gL+1+1,cF,4),(gI,#[(E AS nS cS2),(E AG nG cG)],59)]):=⟨by rw[hw6];exact HF5.out.set 1 rfl k _⟩
      have HOS6:Bx (ah (gI+1) 67 7 (cU w) w6 (E AS nS cS2) (bE bU (aZ R k))):=⟨by rw[hw6];exact HOS5.out.far (by simp only;omega) _⟩
      have HOG6:Bx (ah (gI+1) 72 6 (lO p w) w6 (E AG nG cG) (bE dW (bW R k))):=⟨by rw[hw6];exact HOG5.out.far (by simp only;omega) _⟩
      rw[<-hw6];clear hw6 HF5 HOS5 HOG5 y0 yf;have HSC:Bx (((cS.setIfInBounds k (B D jv)))[k]?=some (B D (jv))/\((cS.setIfInBounds k (B D jv))).size=i/\∀(j:Nat) y,k+1<=j->R[j]?=some y->((cS.setIfInBounds k (B D jv)))[j]?=some (B D y.st)):=⟨⟨(eK.one (c:=cS) (by rw[HST.out.1];exact hkn) (B D jv)).2.1,by rw[uN];exact HST.out.1,fun j y hj hy=>by rw[(eK.one (c:=cS) (i:=k) (by rw[HST.out.1];exact hkn) (B D jv)).2.2 j (by omega)];exact HST.out.2 j y (by omega) hy⟩⟩
      have s0:w6.cell? ⟨gL+1,k,none⟩=some (B D jv):=(HF6.out.at_ 1 rfl).cell HSC.out.1;have HSB:=zZ (Bq (s:=s) (l:=C) (i:=k) (x:=⟨xcap,⟨ep,ec,eg,ev⟩,xst,true⟩) (by rw[<-HRD.out];exact HRk.out) HXK.out);have HSW:Bx (dF.wf ⟨⟨sr,q⟩,jv,⟨ep,ec,eg,ev⟩⟩):=⟨⟨⟨hw.out.1.2.1,hw.out.1.2.2⟩,by have h1:=HSB.out;rw[<-HRD.out,HSV.out]at h1;exact (show aU jv from ⟨by omega,by omega⟩),HLW.out⟩⟩
      have x0:=HF6.out.xt.cell hc.out.c0;have x1:=HF6.out.xt.cell hc.out.c1;have x2:=HF6.out.xt.cell hc.out.c2;have x3:=HF6.out.xt.cell hc.out.c3;have x4:=HF6.out.xt.cell hc.out.c4;have x5:=HF6.out.xt.cell hc.out.c5;have x6:=HF6.out.xt.cell hc.out.c6;have x7:=HF6.out.xt.cell hc.out.c7;have x8:=HF6.out.xt.cell hc.out.c8;have x9:=HF6.out.xt.cell hc.out.c9;have x10:=HF6.out.xt.cell hc.out.c10;have x11:=HF6.out.xt.cell hc.out.c11;have x12:=HF6.out.xt.cell hc.out.c12;have l0:=(HF6.out.at_ 0 rfl).cell (dC HA.out hkn HRk.out (j:=0) rfl);have l1:=(HF6.out.at_ 0 rfl).cell (dC HA.out hkn HRk.out (j:=1) rfl);have l2:=(HF6.out.at_ 0 rfl).cell (dC HA.out hkn HRk.out (j:=2) rfl);have l3:=(HF6.out.at_ 0 rfl).cell (dC HA.out hkn HRk.out (j:=3) rfl);rw[yQ]at l0;have i0:=(HF6.out.at_ 3 rfl).c 0 rfl;refine zQ 18 fun wd kS=>?_;refine zS 14 [(0,127),(1,128),(2,129),(3,130),(4,131),(5,132),(7,134),(8,135),(9,136),(10,137),(11,138),(12,139),(13,140),(14,141)] kS ?_;iterate 14 refine zT ?_ (y:=by intro wk hk;obtain⟨_,_,_,_,_,_,_,_⟩:=zkc8 hk i0 x0 x1 x2 x3 x4 x5 x6;obtain⟨_,_,_,_,_,_,_,_⟩:=zkc8 hk x7 x8 x9 x10 x11 x12 s0 l0;obtain⟨_,_,_⟩:=zkc3 hk l1 l2 l3;go_simp;try with_reducible rfl)
      refine zN (zO 6 (fun K hK=>?_));go_simp;refine (dN _ _ _ _ _ _ _ _ _ _ _ _ _ _ _ _).mono ?_;rintro e wa ⟨rfl,hxa⟩;have kS2:ab w6 wa:=kS.trans hxa;refine hK.out _ _ (fun _=>kS2) ?_;clear hK K;try simp only[kA]
      refine zS 1 [(15,142)] kS2 ?_;refine zT ?_ (y:=by intro wk hk;obtain⟨_,_,_,_,_,_,_,_⟩:=zkc8 hk i0 x0 x1 x2 x3 x4 x5 x6;obtain⟨_,_,_,_,_,_,_,_⟩:=zkc8 hk x7 x8 x9 x10 x11 x12 s0 l0;obtain⟨_,_,_⟩:=zkc3 hk l1 l2 l3;go_simp;try with_reducible rfl);refine zN (zO 16 (fun K hK=>?_));go_simp;refine (pB _ (bE bU (aZ R k)) sr q jv ep ec eg ev _ (p:=p) ((HOS6.out.ext kS2).isS (by decide) (by omega) (fun _ _ h=>h)) HSW.out (by have:=rq R k;omega)).mono ?_;rintro e wb ⟨vo,rfl,hO,hxb⟩;have kS3:ab w6 wb:=kS2.trans hxb;obtain⟨Ao,co,rfl⟩:=hO.form;have hwa:gI+1<=wa.heap.size:=by have h1:=((HF6.out.ext kS2).at_ 3 rfl).lt;omega
      refine hK.out _ _ (fun _=>kS3) ?_;clear hK K;try simp only[kA]
      refine zS 1 [(17,144)] kS3 ?_;refine zT ?_ (y:=by intro wk hk;obtain⟨_,_,_,_,_,_,_,_⟩:=zkc8 hk i0 x0 x1 x2 x3 x4 x5 x6;obtain⟨_,_,_,_,_,_,_,_⟩:=zkc8 hk x7 x8 x9 x10 x11 x12 s0 l0;obtain⟨_,_,_⟩:=zkc3 hk l1 l2 l3;go_simp;try with_reducible rfl);refine zN ?_;have d0:=((HF6.out.ext kS3).at_ 3 rfl).c 0 rfl;have df:=((HF6.out.ext kS3).at_ 3 rfl).froz;refine zO 18 (fun K hK=>?_);go_simp;refine hK.out _ _ (fun h=>absurd rfl h) ?_;clear hK K;refine zD ?_;obtain⟨nS2,hnS2⟩:=nm ((jV bU (⟨⟨sr,q⟩,jv,⟨ep,ec,eg,ev⟩⟩:dF) (bE bU (aZ R k))).length);rw[<-hnS2]at hO;rw[<-hnS2];clear hnS2;obtain⟨wc,hwc⟩:=nm ((wb.setCell ⟨gI,0,none⟩ (E Ao nS2 co)):World);have HFc:Bx (aA w3 wc [(gL,cL,45),(gL+1,(cS.setIfInBounds k (B D jv)),3),(gL+1+1,cF,4),(gI,#[(E Ao nS2 co),(E AG nG cG)],59)]):=⟨by rw[hwc];exact (HF6.out.ext kS3).set 3 rfl 0 _⟩
      have HOSc:Bx (ah (gI+1) 67 7 (cU w) wc (E Ao nS2 co) (bE bU (aZ R (k+1)))):=⟨by
       rw[hwc,xh HRk.out HXK.out,fY];have he:lN R k ⟨xcap,⟨ep,ec,eg,ev⟩,xst,true⟩=⟨⟨sr,q⟩,jv,⟨ep,ec,eg,ev⟩⟩:=by unfold lN;rw[HSV.out];simp only;rw[HXC.out];rfl
       rw[he];exact (hO.base_ hwa).far (by simp) _⟩
      have HOGc:Bx (ah (gI+1) 72 6 (lO p w) wc (E AG nG cG) (bE dW (bW R k))):=⟨by rw[hwc];exact (HOG6.out.ext kS3).far (by simp) _⟩
      have HS0:=(kS3.cell s0)
      have s5:wc.cell? ⟨gL+1,k,none⟩=some (B D (jv)):=(HFc.out.at_ 1 rfl).cell HSC.out.1;rw[<-hwc];clear hwc d0 df hO HS0 kS hxa hxb hwa;by_cases hsv:jv=1
      ·have HPU:=zZ (hsv);have c5:=HFc.out.xt.cell hc.out.c5;have i1:=(HFc.out.at_ 3 rfl).c 1 rfl;have x0:=HFc.out.xt.cell hc.out.c0;have x1:=HFc.out.xt.cell hc.out.c1;have x2:=HFc.out.xt.cell hc.out.c2;have x3:=HFc.out.xt.cell hc.out.c3;have x4:=HFc.out.xt.cell hc.out.c4;have x5:=HFc.out.xt.cell hc.out.c5;have x6:=HFc.out.xt.cell hc.out.c6;have x7:=HFc.out.xt.cell hc.out.c7;have x8:=HFc.out.xt.cell hc.out.c8;have x9:=HFc.out.xt.cell hc.out.c9;have x10:=HFc.out.xt.cell hc.out.c10;have x11:=HFc.out.xt.cell hc.out.c11;have x12:=HFc.out.xt.cell hc.out.c12;have l0:=(HFc.out.at_ 0 rfl).cell (dC HA.out hkn HRk.out (j:=0) rfl);have l1:=(HFc.out.at_ 0 rfl).cell (dC HA.out hkn HRk.out (j:=1) rfl);have l2:=(HFc.out.at_ 0 rfl).cell (dC HA.out hkn HRk.out (j:=2) rfl);have l3:=(HFc.out.at_ 0 rfl).cell (dC HA.out hkn HRk.out (j:=3) rfl);go_upto_region 27 with (fail)
       refine zQ 30 fun we kS=>?_;refine zS 26 [(0,150),(1,151),(2,152),(3,153),(4,154),(5,155),(6,156),(7,157),(8,158),(9,159),(10,160),(11,161),(12,162),(13,163),(14,164),(15,165),(16,166),(17,167),(18,168),(19,169),(20,170),(21,171),(22,172),(23,173),(24,174),(25,175)] kS ?_;iterate 26 refine zT ?_ (y:=by intro wk hk;obtain⟨_,_,_,_,_,_,_,_⟩:=zkc8 hk i1 x0 x1 x2 x3 x4 x5 x6;obtain⟨_,_,_,_,_,_,_,_⟩:=zkc8 hk x7 x8 x9 x10 x11 x12 l1 l2;go_simp;try with_reducible rfl)
       refine zN (zO 26 (fun K hK=>?_));go_simp;refine (dN _ _ _ _ _ _ _ _ _ _ _ _ _ _ _ _).mono ?_;rintro e wf ⟨rfl,hxf⟩;have kS4:ab wc wf:=kS.trans hxf;refine hK.out _ _ (fun _=>kS4) ?_;clear hK K;try simp only[kA]
       refine zS 1 [(27,177)] kS4 ?_;refine zT ?_ (y:=by intro wk hk;obtain⟨_,_,_,_,_,_,_,_⟩:=zkc8 hk i1 x0 x1 x2 x3 x4 x5 x6;obtain⟨_,_,_,_,_,_,_,_⟩:=zkc8 hk x7 x8 x9 x10 x11 x12 l1 l2;go_simp;try with_reducible rfl);refine zN (zO 28 (fun K hK=>?_));go_simp;refine (ru (lO p w) _ (bE dW (bW R k)) ec eg ct sr q Ac m cc ch _ (p:=p) (fun cs y h=>lO.stab p _ _ _ _ h (HB3.out.xt.trans (HFc.out.xt.trans kS4)).xt) (ah.isS (R':=fun _=>lO p w) (HOGc.out.ext kS4) (by decide) (by omega) (fun _ _ h=>h)) ⟨_,rfl,hI.out,⟨HLW.out.2.1,HLW.out.2.2.1,hw.out.2.2.2.1,⟨hw.out.1.2.1,hw.out.1.2.2⟩,hw.out.2.2.2.2.2.2⟩⟩ (by have:=tl R k;omega)).mono ?_;rintro e wg ⟨vo2,rfl,hO2,hxg⟩;have kS5:ab wc wg:=kS4.trans hxg;obtain⟨Ap,cp,rfl⟩:=hO2.form;have hwf:gI+1<=wf.heap.size:=by have h1:=((HFc.out.ext kS4).at_ 3 rfl).lt;omega
       refine hK.out _ _ (fun _=>kS5) ?_;clear hK K;try simp only[kA]
       refine zS 1 [(29,179)] kS5 ?_;refine zT ?_ (y:=by intro wk hk;obtain⟨_,_,_,_,_,_,_,_⟩:=zkc8 hk i1 x0 x1 x2 x3 x4 x5 x6;obtain⟨_,_,_,_,_,_,_,_⟩:=zkc8 hk x7 x8 x9 x10 x11 x12 l1 l2;go_simp;try with_reducible rfl);refine zN ?_;have d1:=((HFc.out.ext kS5).at_ 3 rfl).c 1 rfl;have dg:=((HFc.out.ext kS5).at_ 3 rfl).froz;refine zO 30 (fun K hK=>?_);go_simp;refine hK.out _ _ (fun h=>absurd rfl h) ?_;clear hK K;refine zD ?_;obtain⟨nG2,hnG2⟩:=nm ((jV dW (⟨ec,eg,ct,ch,⟨sr,q⟩⟩:Pg) (bE dW (bW R k))).length);rw[<-hnG2]at hO2;rw[<-hnG2];clear hnG2;have HEND:Bx (aA w3 (wg.setCell ⟨gI,1,none⟩ (E Ap nG2 cp)) [(gL,cL,45),(gL+1,(cS.setIfInBounds k (B D jv)),3),(gL+1+1,cF,4),(gI,#[(E Ao nS2 co),(E Ap nG2 cp)],59)]/\((cS.setIfInBounds k (B D jv))).size=i/\(∀(j:Nat) y,k+1<=j->R[j]?=some y->((cS.setIfInBounds k (B D jv)))[j]?=some (B D y.st))/\ah (gI+1) 67 7 (cU w) (wg.setCell ⟨gI,1,none⟩ (E Ap nG2 cp)) (E Ao nS2 co) (bE bU (aZ R (k+1)))/\ah (gI+1) 72 6 (lO p w) (wg.setCell ⟨gI,1,none⟩ (E Ap nG2 cp)) (E Ap nG2 cp) (bE dW (bW R (k+1)))):=⟨⟨(HFc.out.ext kS5).set 3 rfl 1 _,HSC.out.2.1,HSC.out.2.2,(HOSc.out.ext kS5).far (by simp) _,by
        rw[ws HRk.out HXK.out (by rw[HSV.out];exact HPU.out),fY];have he:Gs ⟨xcap,⟨ep,ec,eg,ev⟩,xst,true⟩=⟨ec,eg,ct,ch,⟨sr,q⟩⟩:=by unfold Gs;simp only;rw[HXC.out];rfl
        rw[he];exact (hO2.base_ hwf).far (by simp) _⟩⟩
       clear hO2 d1 dg kS4 kS5 hxf hxg hwf;go_wp2_with fail;go_roundw
       case rel=>exact⟨k+1,(cS.setIfInBounds k (B D jv)),_,_,by go_num,by omega,HEND⟩
       case measure=>simp[intOf];omega
      ·have HEND:Bx (aA w3 wc [(gL,cL,45),(gL+1,(cS.setIfInBounds k (B D jv)),3),(gL+1+1,cF,4),(gI,#[(E Ao nS2 co),(E AG nG cG)],59)]/\((cS.setIfInBounds k (B D jv))).size=i/\(∀(j:Nat) y,k+1<=j->R[j]?=some y->((cS.setIfInBounds k (B D jv)))[j]?=some (B D y.st))/\ah (gI+1) 67 7 (cU w) wc (E Ao nS2 co) (bE bU (aZ R (k+1)))/\ah (gI+1) 72 6 (lO p w) wc (E AG nG cG) (bE dW (bW R (k+1)))):=⟨⟨HFc.out,HSC.out.2.1,HSC.out.2.2,HOSc.out,by
        rw[kG HRk.out (fun h=>hsv (by rw[<-HSV.out];exact h.2))];exact HOGc.out⟩⟩
       have hsb:(jv==1)=false:=by simp[hsv]
       go_wp2_with fail;go_roundw
       case rel=>exact⟨k+1,(cS.setIfInBounds k (B D jv)),_,_,by go_num,by omega,HEND⟩
       case measure=>simp[intOf];omega
    ·obtain rfl:k=i:=by omega
     have HBr:=HB3.out.ext HFr.out.xt;obtain⟨i0,i1⟩:=(HFr.out.at_ 3 rfl).p2 rfl;obtain⟨z0,z1⟩:=(HBr.at_ 1 rfl).p2 rfl;have f0:=(HBr.at_ 1 rfl).froz;have f1:=f0;have HFIN:Bx (cQ s C=⟨bE bU (aZ R k),bE dW (bW R k)⟩):=⟨by unfold cQ;rw[<-HRD.out,HL.out]⟩
     have hck:=HC0.out;go_wp2_with fail;have h9:=HBr.setAll 1 rfl [E AS nS cS2,E AG nG cG] rfl;have g1:=(HOS.out.far (a:=⟨w.heap.size+1,0,none⟩) (by simp only;omega) (E AS nS cS2)).far (a:=⟨w.heap.size+1,1,none⟩) (by simp only;omega) (E AG nG cG);have g2:=(HOG.out.far (a:=⟨w.heap.size+1,0,none⟩) (by simp only;omega) (E AS nS cS2)).far (a:=⟨w.heap.size+1,1,none⟩) (by simp only;omega) (E AG nG cG);refine bodyPost_ret (v:=.tuple #[.agg #[E AS nS cS2,E AG nG cG],B D 0]) (by simp[results,results33,go_sem,z0,z1]) rfl ⟨E AS nS cS2,E AG nG cG,rfl,((g1.base_ (by omega)).to (by rw[<-HCD.out,HFIN.out])),((g2.base_ (by omega)).to (by rw[<-HCD.out,HFIN.out])),h9.xt⟩
theorem li{xs:List Value}(hb:Bk w g xs.toArray e)(hl:xs.length=n*size)(hg:base<=g)(hn:n<=1000):w.ownsRow base e size (E (some ⟨g,0,none⟩) n n) n xs :=
 ⟨hl,.inr ⟨g,n,xs.toArray,rfl,hg,hb,zX _,by unfold maxLen;omega,by simp[hl],by rw[<-hl];simp⟩⟩
structure Ll (wx:World) (b c:Nat):Prop where
 bc:b+2<=c
 p0:Bk wx b jk.cells.toArray 131
 p2:Bk wx c #[B D 0,B D 0,E (some ⟨b,0,none⟩) 1 1] 84
 p3:Bk wx (c+1) #[B D 0] 3
 p4:Bk wx (c+1+1) #[E none 0 0,E (some ⟨c+1,0,none⟩) 1 1,E none 0 0,E none 0 0] 22
 p5:Bk wx (c+1+1+1) #[E (some ⟨c+1+1,0,none⟩) 4 4] 79
 p6:Bk wx (c+1+1+1+1) #[B D 5,B D 1,B D 0] 90
theorem Ll.isSit'{c:Nat}(h:Ll wx b c)(hp:p<b\/p=b+1):aR p wx (.agg #[B D 0,E (some ⟨c,0,none⟩) 1 1,E (some ⟨c+1+1+1,0,none⟩) 1 1,E (some ⟨c+1+1+1+1,0,none⟩) 1 1]) kg:=by
 have hbc:=h.bc;have hI0:ak p wx (E (some ⟨c+1,0,none⟩) 1 1) [0]:=ak.of_own (e:=3) (base:=b+2) (li (xs:=[B D 0]) h.p3 rfl (by omega) (by omega)) (by omega) (by decide) (by simp);have hP:oa p wx (E (some ⟨b,0,none⟩) 1 1) [jk]:=by
  refine⟨some ⟨b,0,none⟩,1,rfl,zX _,by omega,fun k x hx=>?_⟩;obtain⟨rfl,rfl⟩:k=0/\x=jk:=by have h1:=(zY.1 hx).1;simp at h1;subst h1;simp at hx;exact⟨rfl,hx.symm⟩
  refine⟨b,0,jk.cells,rfl,by omega,rfl,fun j u hu=>?_,rfl,?_⟩
  ·rw[show 0+0*6+j=j by omega];exact h.p0.cell (by simpa using hu)
  ·exact⟨by decide,by decide⟩
 have hB:oc p wx (E (some ⟨c+1+1,0,none⟩) 4 4) [[],[0],[],[]]:=by
  refine bj.of_own (e:=22) (base:=b+2) [[E none 0 0],[E (some ⟨c+1,0,none⟩) 1 1],[E none 0 0],[E none 0 0]] (fun cs hcs=>?_) (by decide) rfl (li (xs:=[E none 0 0,E (some ⟨c+1,0,none⟩) 1 1,E none 0 0,E none 0 0]) h.p4 rfl (by omega) (by omega)) (by omega) fun k cs x hc hx=>?_
  ·simp only[yM,wL,or_false]at hcs;rcases hcs with rfl|rfl|rfl|rfl<;>rfl
  ·rcases (show k=0\/k=1\/k=2\/k=3 by have:=(zY.1 hx).1;simp at this;omega) with rfl|rfl|rfl|rfl<;>(simp at hc hx;subst hc;subst hx)
   ·exact⟨_,rfl,ak.nil _ _⟩
   ·exact⟨_,rfl,hI0⟩
   ·exact⟨_,rfl,ak.nil _ _⟩
   ·exact⟨_,rfl,ak.nil _ _⟩
 refine⟨_,_,_,rfl,?_,?_,?_,by decide,by decide⟩
 ·refine bj.of_own (e:=84) (base:=b+2) [[B D 0,B D 0,E (some ⟨b,0,none⟩) 1 1]] (fun cs hcs=>by simp at hcs;subst hcs;rfl) (by decide) rfl (li (xs:=[B D 0,B D 0,E (some ⟨b,0,none⟩) 1 1]) h.p2 rfl (by omega) (by omega)) (by omega) fun k cs x hc hx=>?_;obtain rfl:k=0:=by have:=(zY.1 hc).1;simp at this;exact this
  simp[kg]at hc hx;subst hc;subst hx;exact⟨_,rfl,hP,⟨by decide,by decide⟩,⟨by decide,by decide⟩⟩
 ·refine bj.of_own (e:=79) (base:=b+2) [[E (some ⟨c+1+1,0,none⟩) 4 4]] (fun cs hcs=>by simp at hcs;subst hcs;rfl) (by decide) rfl (li (xs:=[E (some ⟨c+1+1,0,none⟩) 4 4]) h.p5 rfl (by omega) (by omega)) (by omega) fun k cs x hc hx=>?_;obtain rfl:k=0:=by have:=(zY.1 hc).1;simp at this;exact this
  simp[kg]at hc hx;subst hc;subst hx;exact⟨_,rfl,hB⟩
 ·refine bj.of_own (e:=90) (base:=b+2) [[B D 5,B D 1,B D 0]] (fun cs hcs=>by simp at hcs;subst hcs;rfl) (by decide) rfl (li (xs:=[B D 5,B D 1,B D 0]) h.p6 rfl (by omega) (by omega)) (by omega) fun k cs x hc hx=>?_;obtain rfl:k=0:=by have:=(zY.1 hc).1;simp at this;exact this
  simp[kg]at hc hx;subst hc;subst hx;exact⟨rfl,by decide,by decide,by decide⟩
theorem Ll.isSit{wx:World}{b c:Nat}(h:Ll wx b c):aR (b+1) wx (.agg #[B D 0,E (some ⟨c,0,none⟩) 1 1,E (some ⟨c+1+1+1,0,none⟩) 1 1,E (some ⟨c+1+1+1+1,0,none⟩) 1 1]) kg:=h.isSit' (.inr rfl)
theorem dX(w:World)(hp:p<w.heap.size):Calls prog 54 #[] w fun e w'=>∃v,e=.returned v/\aR p w' v kg/\ab w w':=by
 go_enter func54,ntmps54
 go_upto_region 2 with (fail)
 obtain⟨w2,hw2⟩:=nm ((((w.alloc (.cells #[B D 0,E none 0 0,E none 0 0,E none 0 0] 27)).alloc (.cells #[B D 1,B D 3,B D 0,B D 0,B D 0,B D 0] 131)).alloc (.cells #[B D 0,B D 0,E (some ⟨w.heap.size+1,0,none⟩) 1 1] 84)):World);have HF2:Bx (aA w w2 [(w.heap.size,#[B D 0,E none 0 0,E none 0 0,E none 0 0],27),(w.heap.size+1,#[B D 1,B D 3,B D 0,B D 0,B D 0,B D 0],131),(w.heap.size+1+1,#[B D 0,B D 0,E (some ⟨w.heap.size+1,0,none⟩) 1 1],84)]):=⟨by rw[hw2];exact (((aA.start w).push _ _ rfl).push _ _ (by simp)).push _ _ (by simp)⟩
 have hs2:w2.heap.size=w.heap.size+3:=by rw[hw2];simp
 rw[<-hw2];clear hw2;obtain⟨p0,p1,p2⟩:=(HF2.out.at_ 2 rfl).p3 rfl;obtain⟨r0,r1,r2,r3⟩:=(HF2.out.at_ 0 rfl).p4 rfl;have f0:=(HF2.out.at_ 0 rfl).froz;have f1:=f0;have f2:=f0;have f3:=f0;go_wp2_with fail;have h9:=HF2.out.setAll 0 rfl [B D 0,E (some ⟨w.heap.size+3,0,none⟩) 1 1,E (some ⟨w.heap.size+3+1+1+1,0,none⟩) 1 1,E (some ⟨w.heap.size+3+1+1+1+1,0,none⟩) 1 1] rfl;have z9:(be w2 w.heap.size 0 [B D 0,E (some ⟨w.heap.size+3,0,none⟩) 1 1,E (some ⟨w.heap.size+3+1+1+1,0,none⟩) 1 1,E (some ⟨w.heap.size+3+1+1+1+1,0,none⟩) 1 1]).heap.size=w.heap.size+3:=by rw[<-hs2];simp[be]
 have h14:=((((h9.push #[B D 0,B D 0,E (some ⟨w.heap.size+1,0,none⟩) 1 1] 84 z9).push #[B D 0] 3 (n:=w.heap.size+3+1) (by simp[z9])).push #[E none 0 0,E (some ⟨w.heap.size+3+1,0,none⟩) 1 1,E none 0 0,E none 0 0] 22 (n:=w.heap.size+3+1+1) (by simp[z9])).push #[E (some ⟨w.heap.size+3+1+1,0,none⟩) 4 4] 79 (n:=w.heap.size+3+1+1+1) (by simp[z9])).push #[B D 5,B D 1,B D 0] 90 (n:=w.heap.size+3+1+1+1+1) (by simp[z9]);simp only[be,yV]at h14;revert h14
 generalize (World.alloc _ (.cells #[B D 5,B D 1,B D 0] 90))=wF;intro h14;obtain⟨q0,q1,q2,q3⟩:=(h14.at_ 0 rfl).p4 rfl;have hB:Ll wF (w.heap.size+1) (w.heap.size+3):=⟨by omega,h14.at_ 1 rfl,h14.at_ 3 rfl,h14.at_ 4 rfl,h14.at_ 5 rfl,h14.at_ 6 rfl,h14.at_ 7 rfl⟩
 refine bodyPost_ret (v:=.agg #[B D 0,E (some ⟨w.heap.size+3,0,none⟩) 1 1,E (some ⟨w.heap.size+3+1+1+1,0,none⟩) 1 1,E (some ⟨w.heap.size+3+1+1+1+1,0,none⟩) 1 1]) (by simp[results,results54,go_sem,q0,q1,q2,q3]) rfl ⟨_,rfl,hB.isSit' (.inl (by omega)),h14.xt⟩
end Go.Proofs.YtkaajgoeahahpaaGreatDoor

namespace Go.Proofs.YtkaajgoeahahpaaGreatDoor
open Go.Value renaming int→B,slice→E
open Go.IntKind renaming i64→D
open Go.RowKit
open Go.MapKept Go.ChangeMaps
open Go.Maps (Keyed)
variable {key:Value}
noncomputable def Be(M:Value->Option Value)(key val:Value):Value->Option Value:=fun x=>open Classical in if x=key then some val else M x
theorem po(M:Value->Option Value)(key val:Value):Be M key val key=some val:=by unfold Be;rw[if_pos rfl]
theorem vj{M:Value->Option Value}{val x:Value}(h:x≠key):Be M key val x=M x:=by unfold Be;rw[if_neg h]
def eJ(P:Program)(k:TypeId)(w:World)(b:Nat)(M:Value->Option Value):Prop :=
 ∃es clock,w.heap[b]?=some (.map es clock)/\(∀e∈es.toList,∃l,keyOf P k e.key=some l)/\es.toList.Pairwise (fun a b=>a.key≠b.key)/\∀x v,M x=some v↔∃e∈es.toList,e.key=x/\e.val=v
section
variable {P:Program} {k e t:TypeId} {w w':World} {b:Nat} {M:Value->Option Value}
theorem eJ.made(w:World)(P:Program)(k:TypeId):eJ P k (w.alloc (.map #[] 0)) w.heap.size (fun _=>none) :=
 ⟨#[],0,heap_alloc_new w _,fun e h=>by simp at h,by simp,fun x v=>by simp⟩
theorem eJ.lt(h:eJ P k w b M):b<w.heap.size:=by obtain⟨es,c,hb,_⟩:=h;exact al hb
theorem eJ.ext(h:eJ P k w b M)(x:ab w w'):eJ P k w' b M:=by obtain⟨es,c,hb,h1,h2,h3⟩:=h;exact⟨es,c,x.blk hb,h1,h2,h3⟩
theorem eJ.grown(h:eJ P k w b M){row:Option Nat}(hg:w.grownBy w' row)(hr:row≠some b):eJ P k w' b M:=by have hl:=h.lt;obtain⟨es,c,hb,h1,h2,h3⟩:=h;exact⟨es,c,(hg.block b hl (fun e=>hr e.symm)).trans hb,h1,h2,h3⟩
theorem eJ.far(h:eJ P k w b M){a:Addr}(ha:b≠a.block)(u:Value):eJ P k (w.setCell a u) b M:=by obtain⟨es,c,hb,h1,h2,h3⟩:=h;exact⟨es,c,(yP _ _ _ _ ha).trans hb,h1,h2,h3⟩
theorem eJ.look(h:eJ P k w b M)(K:Keyed P k)(ht:P.underlying t=some (.map k e)){z:Value}(hz:(zeroValue e).run P w=.ok z w){kl:Lit}(hkey:keyOf P k key=some kl) :
  (Instr.lookup t (.map (some b)) key false).run P w=.ok ((M key).getD z) w/\(Instr.lookup t (.map (some b)) key true).run P w=.ok (.tuple #[(M key).getD z,.bool (M key).isSome]) w:=by
 obtain⟨es,c,hb,h1,h2,h3⟩:=h;rcases K.find w hkey es.toList h1 with ⟨f1,f2⟩|⟨j,e0,f1,f2,f3⟩
 ·have hM:M key=none:=by
   cases hm:M key with
   |none=>rfl
   |some v=>obtain⟨e',he,hk,_⟩:=(h3 key v).1 hm;exact absurd hk (f2 e' he)
  rw[hM];constructor<;>simp[Instr.lookup,run_underlying ht,MapKept.run_getObj_map hb,K.check w _ hkey,f1,hz,Result.andThen]
 ·have hM:M key=some e0.val:=(h3 key _).2 ⟨e0,zW f2,f3,rfl⟩;rw[hM];constructor<;>simp[Instr.lookup,run_underlying ht,MapKept.run_getObj_map hb,K.check w _ hkey,f1,Result.andThen]
theorem eJ.up(h:eJ P k w b M)(K:Keyed P k)(ht:P.underlying t=some (.map k e)){val:Value}{kl:Lit}(hkey:keyOf P k key=some kl) :
  ∃w',(Instr.mapUpdate t (.map (some b)) key val).run P w=.ok () w'/\eJ P k w' b (Be M key val)/\w.grownBy w' (some b):=by
 obtain⟨es,c,hb,h1,h2,h3⟩:=h;have hg:∀o,w.grownBy (setBlock w b o) (some b):=fun o=>⟨rfl,rfl,rfl,by simp[setBlock],fun i _ hi=>heap_setBlock_other hb _ (fun e=>hi (by rw[e]))⟩
 rcases K.find w hkey es.toList h1 with ⟨f1,f2⟩|⟨j,e0,f1,f2,f3⟩
 ·refine⟨setBlock w b (.map (es.push ⟨key,val,c⟩) (c+1)),?_,⟨_,_,heap_setBlock_same hb _,?_,?_,?_⟩,hg _⟩
  ·simp[Instr.mapUpdate,run_underlying ht,MapKept.run_getObj_map hb,K.check w false hkey,f1,MapKept.run_setObj_map _ hb,Result.andThen,setBlock]
  ·intro x hx;simp only[vT,zM,uJ]at hx;rcases hx with hx|rfl
   ·exact h1 x hx
   ·exact⟨kl,hkey⟩
  ·rw[vT,xJ];refine⟨h2,wR _ _,fun a ha x hx=>?_⟩;obtain rfl:x=_:=by simpa using hx
   exact f2 a ha
  ·intro x v;simp only[vT,zM,uJ];by_cases hx:x=key
   ·subst hx;rw[po];constructor
    ·intro h;injection h with h;exact⟨_,.inr rfl,rfl,h⟩
    ·rintro⟨y,hy|rfl,hk,hv⟩
     ·exact absurd hk (f2 y hy)
     ·simp only at hv;rw[hv]
   ·rw[vj hx,h3];constructor
    ·rintro⟨y,hy,hk,hv⟩;exact⟨y,.inl hy,hk,hv⟩
    ·rintro⟨y,hy|rfl,hk,hv⟩
     ·exact⟨y,hy,hk,hv⟩
     ·exact absurd hk.symm hx
 ·have hj:es[j]?=some e0:=by simpa using f2
  have hl:(es.modify j fun e'=>{ e' with key:=key,val:=val }).toList=es.toList.set j { e0 with key:=key,val:=val }:=by rw[Array.toList_modify,modify_eq_set _ _ _ _ f2]
  have hjl:j<es.toList.length:=(zY.1 f2).1;have hmem:∀x,x∈es.toList.set j { e0 with key:=key,val:=val }->x={ e0 with key:=key,val:=val }\/(x∈es.toList/\x.key≠key):=by
   intro x hx;obtain⟨i,hi⟩:=zH hx;rw[yD]at hi;split at hi
   ·injection hi with hi;exact .inl hi.symm
   ·rename_i hji
    refine .inr ⟨zW hi,fun e=>?_⟩;have hil:=(zY.1 hi).1;have p1:=xX.1 h2;have ei:es.toList[i]=x:=(zY.1 hi).2;have ej:es.toList[j]=e0:=(zY.1 f2).2;rcases Nat.lt_or_gt_of_ne hji with h|h
    ·exact p1 j i hjl hil h (by rw[ei,ej,f3,e])
    ·exact p1 i j hil hjl h (by rw[ei,ej,f3,e])
  have hrun:(Instr.mapUpdate t (.map (some b)) key val).run P w=.ok () (setBlock w b (.map (es.modify j fun e'=>{ e' with key:=key,val:=val }) c)):=by simp[Instr.mapUpdate,run_underlying ht,MapKept.run_getObj_map hb,K.check w false hkey,f1,hj,f3,K.stays w hkey,MapKept.run_setObj_map _ hb,Result.andThen,setBlock]
  refine⟨_,hrun,⟨_,_,heap_setBlock_same hb _,?_,?_,?_⟩,hg _⟩
  ·rw[hl];intro x hx;rcases hmem x hx with rfl|⟨hx,_⟩
   ·exact⟨kl,hkey⟩
   ·exact h1 x hx
  ·rw[hl,xX];intro i i' hi hi' hlt;have p1:=xX.1 h2;have key_at:∀(q:Nat) (hq:q<(es.toList.set j { e0 with key:=key,val:=val }).length),((es.toList.set j { e0 with key:=key,val:=val })[q]'hq).key=(es.toList[q]'(by simpa using hq)).key:=by
    intro q hq;rw[List.getElem_set];split
    ·rename_i e;subst e
     have ej:es.toList[j]=e0:=(zY.1 f2).2;rw[ej,f3]
    ·rfl
   rw[key_at,key_at];exact p1 i i' _ _ hlt
  ·intro x v;rw[hl];by_cases hx:x=key
   ·subst hx;rw[po];constructor
    ·intro h;injection h with h
     exact⟨_,zW (i:=j) (by rw[yD,if_pos rfl,if_pos hjl]),rfl,h⟩
    ·rintro⟨y,hy,hk,hv⟩;rcases hmem y hy with rfl|⟨_,hn⟩
     ·simp only at hv;rw[hv]
     ·exact absurd hk hn
   ·rw[vj hx,h3];constructor
    ·rintro⟨y,hy,hk,hv⟩;obtain⟨i,hi⟩:=zH hy;have hij:j≠i:=fun e=>by subst e;rw[f2]at hi;injection hi with hi;subst hi;exact hx (hk.symm.trans f3)
     exact⟨y,zW (i:=i) (by rw[yD,if_neg hij];exact hi),hk,hv⟩
    ·rintro⟨y,hy,hk,hv⟩;rcases hmem y hy with rfl|⟨hy,_⟩
     ·exact absurd hk.symm hx
     ·exact⟨y,hy,hk,hv⟩
end
theorem ul{P:Program}(w:World){ops:Array Oper}{rest:List Oper}{o:Oper}{a:Act}{Q:Exit->Act->World->Prop}(hg:o.guard=none)(m x v:Operand)(t:TypeId)(hop:o.op=Op.mapUpdate t m x v)(k e:TypeId)(K:Keyed P k)(ht:P.underlying t=some (.map k e))(b:Nat)(M:Value->Option Value)(hm:a.eval m=.map (some b))(h:eJ P k w b M)(key val:Value)(kl:Lit)(hx:a.eval x=key)(hv:a.eval v=val)(hkey:keyOf P k key=some kl)(hK:∀w',eJ P k w' b (Be M key val)->w.grownBy w' (some b)->wpList P ops Q rest (a.put o.dst undef) w') :
  wpList P ops Q (o::rest) a w:=by
 refine wpList_plain hg fun K' hK'=>?_;obtain⟨w',hrun,r1,r2⟩:=h.up K ht hkey (val:=val);unfold Oper.wp;simp[execOp,hop,hm,hx,hv,hrun,Result.andThen];exact hK' _ _ (hK w' r1 r2)
end Go.Proofs.YtkaajgoeahahpaaGreatDoor

