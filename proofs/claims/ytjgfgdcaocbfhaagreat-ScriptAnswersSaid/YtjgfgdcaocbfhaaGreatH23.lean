import Derived.Test.YtjgfgdcaocbfhaaGreatH22
set_option linter.all false
set_option maxRecDepth 100000
set_option maxHeartbeats 0
namespace Go.Proofs.YtjgfgdcaocbfhaaGreat
open Go.RowKit _root_.Go.Proofs.Tryz
variable {base e i j n p size:Nat} {w:World} {u v:Value}
theorem wv(v:Value)(l:List aF)(si qi:Int)(w:World)(hv:fE p w v l) :
  Calls prog 57 #[v,.agg #[.int .i64 si,.int .i64 qi]] w (G0 l ⟨si,qi⟩ w):=by
 obtain⟨A,n,c,rfl,hnc,hcc,hnn,HL⟩:=hv.open_;have HV:Bx (fE p w (.slice A n c) l):=⟨hv⟩
 clear hv;obtain⟨w1,hw1⟩:=nm (((w.alloc (.cells #[.int .i64 si,.int .i64 qi] 71)).alloc (.cells #[.int .i64 0,.int .i64 0,.int .i64 0,.int .i64 0] 73)):World);have HF:Bx (ae w w1 [(w.heap.size,#[.int .i64 si,.int .i64 qi],71),(w.heap.size+1,#[.int .i64 0,.int .i64 0,.int .i64 0,.int .i64 0],73)]):=⟨by rw[hw1];exact ((ae.start w).push _ _ rfl).push _ _ (by simp)⟩
 go_enter func57,ntmps57
 go_upto_region 1 with (fail)
 rw[←hw1];clear hw1;go_wp2_with fail;go_loopw [6,7,8] (fun s6 s7 s8 wr=>∃(k:Nat) (a d:Int),s6=.int .i64 a∧s7=.int .i64 d∧s8=.int .i64 k∧k≤n∧Bx (ae w wr [(w.heap.size,#[.int .i64 si,.int .i64 qi],71),(w.heap.size+1,#[.int .i64 0,.int .i64 0,.int .i64 0,.int .i64 0],73)]∧gq l ⟨si,qi⟩ k a∧dy l ⟨si,qi⟩ k d)) (fun _ _ k _=>n-(intOf k).toNat)
 case atStart=>exact⟨0,-1,-1,rfl,rfl,rfl,by omega,⟨⟨HF.out,gq.zero _ _,dy.zero _ _⟩⟩⟩
 case round =>
  obtain⟨k,a,d,rfl,rfl,rfl,hk,HR⟩:=hrel;clear HF;by_cases hkn:k<n
  ·obtain⟨b,off,_,_,rfl,-⟩:=HV.out.at_ hkn;obtain⟨t,s,q,kd,ct,ts,tq,lp,lc,lg,lv,str,ch,Au,mu,cu,HX,hcs,-,-⟩:=fE.read HV.out HR.out.1.xt.xt hkn;have HC:Bx (lG wr b (off+k*13) t s q kd ct ts tq lp lc lg lv str Au mu cu):=⟨hcs⟩
   have HS:Bx (ic ⟨si,qi⟩ ⟨⟨t,s,q⟩,kd,str,ct,ch,⟨ts,tq⟩,⟨lp,lc,lg,lv⟩⟩=(decide (kd=1)&&decide (s=si∧q=qi))):=⟨by unfold ic aF.id;congr 1;rw[yE];simp only[decide_eq_true_eq,jd.eq_iff]⟩
   have HD:Bx (lN ⟨si,qi⟩ ⟨⟨t,s,q⟩,kd,str,ct,ch,⟨ts,tq⟩,⟨lp,lc,lg,lv⟩⟩=((decide (kd=2)||decide (kd=3))&&decide (ts=si∧tq=qi))):=⟨by unfold lN;congr 1;rw[yE];simp only[decide_eq_true_eq,jd.eq_iff]⟩
   have HA:Bx (gq l ⟨si,qi⟩ k a∧dy l ⟨si,qi⟩ k d):=⟨HR.out.2⟩
   have HF:Bx (ae w wr [(w.heap.size,#[.int .i64 si,.int .i64 qi],71),(w.heap.size+1,#[.int .i64 0,.int .i64 0,.int .i64 0,.int .i64 0],73)]):=⟨HR.out.1⟩
   clear HR hcs;go_upto_region 5 with (fail)
   go_cut [36] (fun s36 wx=>∃bb:Bool,s36=.bool bb∧Hid (bb=true∧gq l ⟨si,qi⟩ (k+1) k∨bb=false∧gq l ⟨si,qi⟩ (k+1) a)∧Bx (ae w wx [(w.heap.size,#[.int .i64 si,.int .i64 qi],71),(w.heap.size+1,#[.int .i64 0,.int .i64 0,.int .i64 0,.int .i64 0],73)]∧lG wx b (off+k*13) t s q kd ct ts tq lp lc lg lv str Au mu cu))
   case first =>
    have kS:wr.drew.cell? ⟨b,off+k*13,none⟩=some (.int .i64 t)∧wr.drew.cell? ⟨b,off+k*13+1,none⟩=some (.int .i64 s)∧wr.drew.cell? ⟨b,off+k*13+2,none⟩=some (.int .i64 q)∧wr.drew.cell? ⟨b,off+k*13+3,none⟩=some (.int .i64 kd)∧wr.drew.cell? ⟨b,off+k*13+4,none⟩=some (.string (ba str))∧wr.drew.cell? ⟨b,off+k*13+5,none⟩=some (.int .i64 ct)∧wr.drew.cell? ⟨b,off+k*13+6,none⟩=some (.slice Au mu cu)∧wr.drew.cell? ⟨b,off+k*13+7,none⟩=some (.int .i64 ts)∧wr.drew.cell? ⟨b,off+k*13+8,none⟩=some (.int .i64 tq)∧wr.drew.cell? ⟨b,off+k*13+9,none⟩=some (.int .i64 lp)∧wr.drew.cell? ⟨b,off+k*13+10,none⟩=some (.int .i64 lc)∧wr.drew.cell? ⟨b,off+k*13+11,none⟩=some (.int .i64 lg)∧wr.drew.cell? ⟨b,off+k*13+12,none⟩=some (.int .i64 lv)∧wr.drew.cell? ⟨w.heap.size,0,none⟩=some (.int .i64 si)∧wr.drew.cell? ⟨w.heap.size,1,none⟩=some (.int .i64 qi):=⟨(HC.out.ext (zE _).drew).c0,(HC.out.ext (zE _).drew).c1,(HC.out.ext (zE _).drew).c2,(HC.out.ext (zE _).drew).c3,(HC.out.ext (zE _).drew).c4,(HC.out.ext (zE _).drew).c5,(HC.out.ext (zE _).drew).c6,(HC.out.ext (zE _).drew).c7,(HC.out.ext (zE _).drew).c8,(HC.out.ext (zE _).drew).c9,(HC.out.ext (zE _).drew).c10,(HC.out.ext (zE _).drew).c11,(HC.out.ext (zE _).drew).c12,(HF.out.drew.at_ 0 rfl).c 0 rfl,(HF.out.drew.at_ 0 rfl).c 1 rfl⟩
    have HF0:Bx (ae w wr.drew [(w.heap.size,#[.int .i64 si,.int .i64 qi],71),(w.heap.size+1,#[.int .i64 0,.int .i64 0,.int .i64 0,.int .i64 0],73)]):=⟨HF.out.drew⟩
    have HC0:=bx (HC.out.ext (zE _).drew);refine zR 99 (fun w'=>w'.cell? ⟨b,off+k*13,none⟩=some (.int .i64 t)∧w'.cell? ⟨b,off+k*13+1,none⟩=some (.int .i64 s)∧w'.cell? ⟨b,off+k*13+2,none⟩=some (.int .i64 q)∧w'.cell? ⟨b,off+k*13+3,none⟩=some (.int .i64 kd)∧w'.cell? ⟨b,off+k*13+4,none⟩=some (.string (ba str))∧w'.cell? ⟨b,off+k*13+5,none⟩=some (.int .i64 ct)∧w'.cell? ⟨b,off+k*13+6,none⟩=some (.slice Au mu cu)∧w'.cell? ⟨b,off+k*13+7,none⟩=some (.int .i64 ts)∧w'.cell? ⟨b,off+k*13+8,none⟩=some (.int .i64 tq)∧w'.cell? ⟨b,off+k*13+9,none⟩=some (.int .i64 lp)∧w'.cell? ⟨b,off+k*13+10,none⟩=some (.int .i64 lc)∧w'.cell? ⟨b,off+k*13+11,none⟩=some (.int .i64 lg)∧w'.cell? ⟨b,off+k*13+12,none⟩=some (.int .i64 lv)∧w'.cell? ⟨w.heap.size,0,none⟩=some (.int .i64 si)∧w'.cell? ⟨w.heap.size,1,none⟩=some (.int .i64 qi)) ?_;by_cases h1:kd=1
    ·have h1b:(kd==1)=true:=by rw[h1];rfl
     have H1:=zZ h1;clear h1;refine zS 12 [(0,18),(1,19),(2,20),(3,21),(4,22),(5,23),(6,24),(7,25),(8,26),(9,27),(10,28),(12,30)] kS ?_;iterate 12 (apply zT;exact⟨rfl,rfl⟩;(·intro _ _;go_simp;try with_reducible rfl);simp only[kA];exact rfl)
     refine zN (zO 11 (fun K hK=>?_));go_simp;refine (jZ t s q kd ct ts tq lp lc lg lv _ Au mu cu _).mono ?_;rintro e w2 ⟨rfl,hx2⟩;have HF2:=bx (HF0.out.ext hx2);have HC2:=bx (HC0.out.ext hx2);have kS2:w2.cell? ⟨b,off+k*13,none⟩=some (.int .i64 t)∧w2.cell? ⟨b,off+k*13+1,none⟩=some (.int .i64 s)∧w2.cell? ⟨b,off+k*13+2,none⟩=some (.int .i64 q)∧w2.cell? ⟨b,off+k*13+3,none⟩=some (.int .i64 kd)∧w2.cell? ⟨b,off+k*13+4,none⟩=some (.string (ba str))∧w2.cell? ⟨b,off+k*13+5,none⟩=some (.int .i64 ct)∧w2.cell? ⟨b,off+k*13+6,none⟩=some (.slice Au mu cu)∧w2.cell? ⟨b,off+k*13+7,none⟩=some (.int .i64 ts)∧w2.cell? ⟨b,off+k*13+8,none⟩=some (.int .i64 tq)∧w2.cell? ⟨b,off+k*13+9,none⟩=some (.int .i64 lp)∧w2.cell? ⟨b,off+k*13+10,none⟩=some (.int .i64 lc)∧w2.cell? ⟨b,off+k*13+11,none⟩=some (.int .i64 lg)∧w2.cell? ⟨b,off+k*13+12,none⟩=some (.int .i64 lv)∧w2.cell? ⟨w.heap.size,0,none⟩=some (.int .i64 si)∧w2.cell? ⟨w.heap.size,1,none⟩=some (.int .i64 qi):=⟨HC2.out.c0,HC2.out.c1,HC2.out.c2,HC2.out.c3,HC2.out.c4,HC2.out.c5,HC2.out.c6,HC2.out.c7,HC2.out.c8,HC2.out.c9,HC2.out.c10,HC2.out.c11,HC2.out.c12,(HF2.out.at_ 0 rfl).c 0 rfl,(HF2.out.at_ 0 rfl).c 1 rfl⟩
     clear hx2 kS HF0 HC0;refine hK.out _ _ (fun _=>(kS2)) ?_;clear hK K;try simp only[kA]
     have eL:∀W,(Op.equalIn 10000 71 (.agg #[.int .i64 s,.int .i64 q]) (.agg #[.int .i64 si,.int .i64 qi])).run prog W=.ok (decide (s=si∧q=qi)) W:=fun W=>rJ _ _ _ _ W;have gL:=li;by_cases h2:s=si∧q=qi
     ·rw[decide_eq_true h2]at eL;have H2:=zZ h2;clear h2;refine zS 3 [(13,31),(14,32),(15,33)] kS2 ?_;iterate 3 (apply zT;exact⟨rfl,rfl⟩;(·intro _ _;go_simp;try with_reducible rfl);simp only[kA];exact rfl)
      refine zN ?_;by_cases ha:a<0
      ·have hab:decide (a<0)=true:=decide_eq_true ha;refine zS 3 [(16,34),(17,35),(18,36)] kS2 ?_;iterate 3 (apply zT;exact⟨rfl,rfl⟩;(·intro _ _;go_simp;try with_reducible rfl);simp only[kA];exact rfl)
       refine zN (zD ?_);clear eL gL;go_wp2_with fail;go_meet
       exact⟨true,rfl,.inl ⟨rfl,HA.out.1.new HX.out (by rw[HS.out,decide_eq_true H1.out,decide_eq_true H2.out];rfl) ha⟩,⟨⟨HF2.out,HC2.out⟩⟩⟩
      ·have hab:decide (a<0)=false:=decide_eq_false ha;refine zS 3 [(16,34),(17,35),(18,36)] kS2 ?_;iterate 3 (apply zT;exact⟨rfl,rfl⟩;(·intro _ _;go_simp;try with_reducible rfl);simp only[kA];exact rfl)
       refine zN (zD ?_);clear eL gL;go_wp2_with fail;go_meet
       exact⟨false,rfl,.inr ⟨rfl,HA.out.1.old HX.out (by omega)⟩,⟨⟨HF2.out,HC2.out⟩⟩⟩
     ·rw[decide_eq_false h2]at eL;have H2:=zZ h2;clear h2;refine zS 3 [(13,31),(14,32),(15,33)] kS2 ?_;iterate 3 (apply zT;exact⟨rfl,rfl⟩;(·intro _ _;go_simp;try with_reducible rfl);simp only[kA];exact rfl)
      refine zN (zS 2 [(16,34),(17,35)] kS2 ?_);iterate 2 (apply zK;exact⟨rfl,rfl⟩;simp only[kA];exact rfl)
      refine zN (zS 1 [(18,36)] kS2 ?_);(apply zT;exact⟨rfl,rfl⟩;(·intro _ _;go_simp;try with_reducible rfl);simp only[kA];exact rfl);refine zN (zD ?_);clear eL gL;go_wp2_with fail;go_meet
      exact⟨false,rfl,.inr ⟨rfl,HA.out.1.no HX.out (by rw[HS.out,decide_eq_false H2.out];simp)⟩,⟨⟨HF2.out,HC2.out⟩⟩⟩
    ·have h1b:(kd==1)=false:=beq_eq_false_iff_ne.2 h1;have H1:=zZ h1;clear h1;refine zS 7 [(0,18),(1,19),(2,20),(3,21),(4,22),(5,23),(6,24)] kS ?_;iterate 7 (apply zT;exact⟨rfl,rfl⟩;(·intro _ _;go_simp;try with_reducible rfl);simp only[kA];exact rfl)
     refine zN (zS 7 [(7,25),(8,26),(9,27),(10,28),(11,29),(12,30),(13,31)] kS ?_);iterate 7 (apply zK;exact⟨rfl,rfl⟩;simp only[kA];exact rfl)
     refine zN (zS 2 [(14,32),(15,33)] kS ?_);iterate 2 (apply zT;exact⟨rfl,rfl⟩;(·intro _ _;go_simp;try with_reducible rfl);simp only[kA];exact rfl)
     refine zN (zS 2 [(16,34),(17,35)] kS ?_);iterate 2 (apply zK;exact⟨rfl,rfl⟩;simp only[kA];exact rfl)
     refine zN (zS 1 [(18,36)] kS ?_);(apply zT;exact⟨rfl,rfl⟩;(·intro _ _;go_simp;try with_reducible rfl);simp only[kA];exact rfl);refine zN (zD ?_);go_wp2_with fail;go_meet
     exact⟨false,rfl,.inr ⟨rfl,HA.out.1.no HX.out (by rw[HS.out,decide_eq_false H1.out];rfl)⟩,⟨⟨HF0.out,HC0.out⟩⟩⟩
   case rest =>
   obtain⟨bb,rfl,hbb,HR⟩:=hcut;have HL1:Bx (dy l ⟨si,qi⟩ k d):=⟨HA.out.2⟩
   clear HF HC HA HS;go_upto_if 36 with (fail)
   go_cut [6] (fun s6 wx=>∃a':Int,s6=.int .i64 a'∧Bx (gq l ⟨si,qi⟩ (k+1) a'∧ae w wx [(w.heap.size,#[.int .i64 si,.int .i64 qi],71),(w.heap.size+1,#[.int .i64 0,.int .i64 0,.int .i64 0,.int .i64 0],73)]∧lG wx b (off+k*13) t s q kd ct ts tq lp lc lg lv str Au mu cu))
   case first =>
    cases bb with
    |true =>
     go_wp2_with fail;go_meet
     refine⟨k,rfl,⟨⟨?_,HR.out⟩⟩⟩;rcases hbb.out with ⟨_,h⟩|⟨h,_⟩
     ·exact h
     ·cases h
    |false =>
     go_wp2_with fail;go_meet
     refine⟨a,rfl,⟨⟨?_,HR.out⟩⟩⟩;rcases hbb.out with ⟨h,_⟩|⟨_,h⟩
     ·cases h
     ·exact h
   case rest =>
   obtain⟨a',rfl,HA⟩:=hcut;clear HR hbb;go_upto_region 7 with (fail)
   go_cut [60] (fun s60 wx=>∃bb:Bool,s60=.bool bb∧Hid (bb=true∧dy l ⟨si,qi⟩ (k+1) k∨bb=false∧dy l ⟨si,qi⟩ (k+1) d)∧Bx (ae w wx [(w.heap.size,#[.int .i64 si,.int .i64 qi],71),(w.heap.size+1,#[.int .i64 0,.int .i64 0,.int .i64 0,.int .i64 0],73)]))
   case first =>
    have kS:wc.drew.cell? ⟨b,off+k*13+3,none⟩=some (.int .i64 kd)∧wc.drew.cell? ⟨b,off+k*13+7,none⟩=some (.int .i64 ts)∧wc.drew.cell? ⟨b,off+k*13+8,none⟩=some (.int .i64 tq)∧wc.drew.cell? ⟨w.heap.size,0,none⟩=some (.int .i64 si)∧wc.drew.cell? ⟨w.heap.size,1,none⟩=some (.int .i64 qi):=⟨HA.out.2.2.c3,HA.out.2.2.c7,HA.out.2.2.c8,(HA.out.2.1.drew.at_ 0 rfl).c 0 rfl,(HA.out.2.1.drew.at_ 0 rfl).c 1 rfl⟩
    have HF0:Bx (ae w wc.drew [(w.heap.size,#[.int .i64 si,.int .i64 qi],71),(w.heap.size+1,#[.int .i64 0,.int .i64 0,.int .i64 0,.int .i64 0],73)]):=⟨HA.out.2.1.drew⟩
    have eL:∀W,(Op.equalIn 10000 71 (.agg #[.int .i64 ts,.int .i64 tq]) (.agg #[.int .i64 si,.int .i64 qi])).run prog W=.ok (decide (ts=si∧tq=qi)) W:=fun W=>rJ _ _ _ _ W;have gL:=li;refine zR 99 (fun w'=>w'.cell? ⟨b,off+k*13+3,none⟩=some (.int .i64 kd)∧w'.cell? ⟨b,off+k*13+7,none⟩=some (.int .i64 ts)∧w'.cell? ⟨b,off+k*13+8,none⟩=some (.int .i64 tq)∧w'.cell? ⟨w.heap.size,0,none⟩=some (.int .i64 si)∧w'.cell? ⟨w.heap.size,1,none⟩=some (.int .i64 qi)) ?_;by_cases h23:kd=2∨kd=3
    ·by_cases h2':kd=2
     ·have h1b:(kd==2)=true:=by rw[h2'];rfl
      have HK:=zZ (show (decide (kd=2)||decide (kd=3))=true by rw[decide_eq_true h2'];rfl);clear h23 h2';refine zS 7 [(0,38),(1,39),(2,40),(3,41),(4,42),(5,43),(6,44)] kS ?_;iterate 7 (apply zT;exact⟨rfl,rfl⟩;(·intro _ _;go_simp;try with_reducible rfl);simp only[kA];exact rfl)
      refine zN (zS 6 [(7,45),(8,46),(9,47),(10,48),(11,49),(12,50)] kS ?_);iterate 6 (apply zK;exact⟨rfl,rfl⟩;simp only[kA];exact rfl)
      refine zN (zS 2 [(13,51),(14,52)] kS ?_);iterate 2 (apply zT;exact⟨rfl,rfl⟩;(·intro _ _;go_simp;try with_reducible rfl);simp only[kA];exact rfl)
      refine zN ?_;by_cases h2:ts=si∧tq=qi
      ·rw[decide_eq_true h2]at eL;have H2:=zZ h2;clear h2;refine zS 8 [(15,53),(16,54),(17,55),(18,56),(19,57),(20,58),(21,59),(22,60)] kS ?_;iterate 8 (apply zT;exact⟨rfl,rfl⟩;(·intro _ _;go_simp;try with_reducible rfl);simp only[kA];exact rfl)
       refine zN (zD ?_);clear eL gL;go_wp2_with fail;go_meet
       exact⟨true,rfl,.inl ⟨rfl,dy.put HX.out (by rw[HD.out,decide_eq_true H2.out,HK.out];rfl)⟩,HF0⟩
      ·rw[decide_eq_false h2]at eL;have H2:=zZ h2;clear h2;refine zS 8 [(15,53),(16,54),(17,55),(18,56),(19,57),(20,58),(21,59),(22,60)] kS ?_;iterate 8 (apply zT;exact⟨rfl,rfl⟩;(·intro _ _;go_simp;try with_reducible rfl);simp only[kA];exact rfl)
       refine zN (zD ?_);clear eL gL;go_wp2_with fail;go_meet
       exact⟨false,rfl,.inr ⟨rfl,HL1.out.no HX.out (by rw[HD.out,decide_eq_false H2.out];simp)⟩,HF0⟩
     ·have h3':kd=3:=by omega
      have h1b:(kd==2)=false:=beq_eq_false_iff_ne.2 h2';have h3b:(kd==3)=true:=by rw[h3'];rfl
      have HK:=zZ (show (decide (kd=2)||decide (kd=3))=true by rw[decide_eq_true h3'];simp);clear h23 h2' h3';refine zS 15 [(0,38),(1,39),(2,40),(3,41),(4,42),(5,43),(6,44),(7,45),(8,46),(9,47),(10,48),(11,49),(12,50),(13,51),(14,52)] kS ?_;iterate 15 (apply zT;exact⟨rfl,rfl⟩;(·intro _ _;go_simp;try with_reducible rfl);simp only[kA];exact rfl)
      refine zN ?_;by_cases h2:ts=si∧tq=qi
      ·rw[decide_eq_true h2]at eL;have H2:=zZ h2;clear h2;refine zS 8 [(15,53),(16,54),(17,55),(18,56),(19,57),(20,58),(21,59),(22,60)] kS ?_;iterate 8 (apply zT;exact⟨rfl,rfl⟩;(·intro _ _;go_simp;try with_reducible rfl);simp only[kA];exact rfl)
       refine zN (zD ?_);clear eL gL;go_wp2_with fail;go_meet
       exact⟨true,rfl,.inl ⟨rfl,dy.put HX.out (by rw[HD.out,decide_eq_true H2.out,HK.out];rfl)⟩,HF0⟩
      ·rw[decide_eq_false h2]at eL;have H2:=zZ h2;clear h2;refine zS 8 [(15,53),(16,54),(17,55),(18,56),(19,57),(20,58),(21,59),(22,60)] kS ?_;iterate 8 (apply zT;exact⟨rfl,rfl⟩;(·intro _ _;go_simp;try with_reducible rfl);simp only[kA];exact rfl)
       refine zN (zD ?_);clear eL gL;go_wp2_with fail;go_meet
       exact⟨false,rfl,.inr ⟨rfl,HL1.out.no HX.out (by rw[HD.out,decide_eq_false H2.out];simp)⟩,HF0⟩
    ·have h1b:(kd==2)=false:=beq_eq_false_iff_ne.2 (by omega);have h3b:(kd==3)=false:=beq_eq_false_iff_ne.2 (by omega);have HK:=zZ (show (decide (kd=2)||decide (kd=3))=false by rw[decide_eq_false (by omega),decide_eq_false (by omega)];rfl);clear h23;refine zS 15 [(0,38),(1,39),(2,40),(3,41),(4,42),(5,43),(6,44),(7,45),(8,46),(9,47),(10,48),(11,49),(12,50),(13,51),(14,52)] kS ?_;iterate 15 (apply zT;exact⟨rfl,rfl⟩;(·intro _ _;go_simp;try with_reducible rfl);simp only[kA];exact rfl)
     refine zN (zS 7 [(15,53),(16,54),(17,55),(18,56),(19,57),(20,58),(21,59)] kS ?_);iterate 7 (apply zK;exact⟨rfl,rfl⟩;simp only[kA];exact rfl)
     refine zN (zS 1 [(22,60)] kS ?_);(apply zT;exact⟨rfl,rfl⟩;(·intro _ _;go_simp;try with_reducible rfl);simp only[kA];exact rfl);refine zN (zD ?_);clear eL gL;go_wp2_with fail;go_meet
     exact⟨false,rfl,.inr ⟨rfl,HL1.out.no HX.out (by rw[HD.out,HK.out];rfl)⟩,HF0⟩
   case rest =>
   obtain⟨bb,rfl,hbb,HR⟩:=hcut;have HA1:Bx (gq l ⟨si,qi⟩ (k+1) a'):=⟨HA.out.1⟩
   clear HA HL1;cases bb with
   |true =>
    go_wp2_with fail;go_roundw
    case rel =>
     refine⟨k+1,a',k,rfl,rfl,by go_num,by omega,⟨⟨HR.out,HA1.out,?_⟩⟩⟩;rcases hbb.out with ⟨_,h⟩|⟨h,_⟩
     ·exact h
     ·cases h
    case measure=>simp[intOf];omega
   |false =>
    go_wp2_with fail;go_roundw
    case rel =>
     refine⟨k+1,a',d,rfl,rfl,by go_num,by omega,⟨⟨HR.out,HA1.out,?_⟩⟩⟩;rcases hbb.out with ⟨h,_⟩|⟨_,h⟩
     ·cases h
     ·exact h
    case measure=>simp[intOf];omega
  ·obtain rfl:n=k:=by omega
   have HA:=HR.out.2.1;have HB:=HR.out.2.2;rw[←HL.out]at HA HB;have HF2:Bx (ae w wr [(w.heap.size,#[.int .i64 si,.int .i64 qi],71),(w.heap.size+1,#[.int .i64 0,.int .i64 0,.int .i64 0,.int .i64 0],73)]):=⟨HR.out.1⟩
   clear HR;rcases Dg HA HB with ⟨ha,he⟩|⟨j,c0,ha,hj,h⟩
   ·have HE:=zZ he;subst ha;clear HA HB he;obtain⟨z0,z1,z2,z3⟩:=(HF2.out.at_ 1 rfl).p4 rfl;have f0:=(HF2.out.at_ 1 rfl).froz;have f1:=f0;have f2:=f0;have f3:=f0;go_wp2_with fail;have h9:=HF2.out.setAll 1 rfl [.int .i64 0,.int .i64 0,.int .i64 0,.int .i64 0] rfl;refine bodyPost_ret (v:=.tuple #[.agg #[.int .i64 0,.int .i64 0,.int .i64 0,.int .i64 0],.int .i64 4]) (by simp[results,results57,go_sem,z0,z1,z2,z3]) rfl ⟨0,0,0,0,4,rfl,HE.out,h9.xt⟩
   ·have hjn:j<n:=by have:=(zY.1 hj).1;have:=HL.out;omega
    subst ha;clear HA HB;obtain⟨b,off,_,_,rfl,-⟩:=HV.out.at_ hjn;rcases h with ⟨hd,he⟩|⟨i,e0,hd,hi,he⟩
    ·subst hd;obtain⟨t,s,q,kd,ct,ts,tq,lp,lc,lg,lv,str,ch,Au,mu,cu,HX,hcs,-,-⟩:=fE.read HV.out HF2.out.xt.xt hjn;have hcc:=HX.out;rw[hj]at hcc;injection hcc with hcc;subst hcc;have HE:=zZ he;have c4:=hcs.c4;clear he hj hcs HX;go_wp2_with fail;refine (BK (ba str) _).mono ?_;rintro e w2 ⟨rp,rc,rg,rv,rn,rk,rfl,hrf,-,-,-,-,-,-,hx2⟩;rw[Ij]at hrf;have hx3:=hx2.alloc (.cells #[.int .i64 rp,.int .i64 rc,.int .i64 rg,.int .i64 rv] 73);have HF3:=bx (HF2.out.ext hx3);by_cases hk0:rk=0
     ·subst hk0;have HO:=zZ (xw hrf);clear hrf hx2 hx3 c4 HF2;obtain⟨z0,z1,z2,z3⟩:=(HF3.out.at_ 1 rfl).p4 rfl;have f0:=(HF3.out.at_ 1 rfl).froz;have f1:=f0;have f2:=f0;have f3:=f0;go_wp2_with fail;have h9:=HF3.out.setAll 1 rfl [.int .i64 rp,.int .i64 rc,.int .i64 rg,.int .i64 rv] rfl;refine bodyPost_ret (v:=.tuple #[.agg #[.int .i64 rp,.int .i64 rc,.int .i64 rg,.int .i64 rv],.int .i64 0]) (by simp[results,results57,go_sem,z0,z1,z2,z3]) rfl ⟨rp,rc,rg,rv,0,rfl,by rw[HE.out,HO.out],h9.xt⟩
     ·have HO:=zZ (zl hrf hk0);have hkb:(rk != 0)=true:=by simp[hk0]
      replace hk0:=zZ hk0;clear hrf hx2 hx3 c4 HF2;obtain⟨z0,z1,z2,z3⟩:=(HF3.out.at_ 1 rfl).p4 rfl;have f0:=(HF3.out.at_ 1 rfl).froz;have f1:=f0;have f2:=f0;have f3:=f0;go_wp2_with fail;have h9:=HF3.out.setAll 1 rfl [.int .i64 0,.int .i64 0,.int .i64 0,.int .i64 0] rfl;refine bodyPost_ret (v:=.tuple #[.agg #[.int .i64 0,.int .i64 0,.int .i64 0,.int .i64 0],.int .i64 4]) (by simp[results,results57,go_sem,z0,z1,z2,z3]) rfl ⟨0,0,0,0,4,rfl,by rw[HE.out,HO.out];rfl,h9.xt⟩
    ·subst hd;have hin:i<n:=by have:=(zY.1 hi).1;have:=HL.out;omega
     obtain⟨t,s,q,kd,ct,ts,tq,lp,lc,lg,lv,str,ch,Au,mu,cu,HX,hcs,-,-⟩:=fE.read HV.out HF2.out.xt.xt hin;have hcc:=HX.out;rw[hi]at hcc;injection hcc with hcc;subst hcc;have c3:=hcs.c3;have c9:=hcs.c9;have c10:=hcs.c10;have c11:=hcs.c11;have c12:=hcs.c12;obtain⟨z0,z1,z2,z3⟩:=(HF2.out.at_ 1 rfl).p4 rfl;have f0:=(HF2.out.at_ 1 rfl).froz;have f1:=f0;have f2:=f0;have f3:=f0;simp only at he;by_cases hk3:kd=3
     ·rw[if_pos hk3]at he;have HE:=zZ he;have hkb:(kd==3)=true:=by rw[hk3];rfl
      replace hk3:=zZ hk3;clear he hi hj hcs HX;go_wp2_with fail;have h9:=HF2.out.setAll 1 rfl [.int .i64 0,.int .i64 0,.int .i64 0,.int .i64 0] rfl;refine bodyPost_ret (v:=.tuple #[.agg #[.int .i64 0,.int .i64 0,.int .i64 0,.int .i64 0],.int .i64 6]) (by simp[results,results57,go_sem,z0,z1,z2,z3]) rfl ⟨0,0,0,0,6,rfl,HE.out,h9.xt⟩
     ·rw[if_neg hk3]at he;have HE:=zZ he;have hkb:(kd==3)=false:=beq_eq_false_iff_ne.2 hk3;replace hk3:=zZ hk3;clear he hi hj hcs HX;go_wp2_with fail;have h9:=HF2.out.setAll 1 rfl [.int .i64 lp,.int .i64 lc,.int .i64 lg,.int .i64 lv] rfl;refine bodyPost_ret (v:=.tuple #[.agg #[.int .i64 lp,.int .i64 lc,.int .i64 lg,.int .i64 lv],.int .i64 0]) (by simp[results,results57,go_sem,z0,z1,z2,z3]) rfl ⟨lp,lc,lg,lv,0,rfl,HE.out,h9.xt⟩
def pI(l:List aF)(i c:Nat):Prop:=l[c]?=l[i]?∧c≤i∧∀j,j<c→l[j]?≠l[i]?
def Eh(l:List aF)(cls:List Int):Prop:=cls.length=l.length∧∀i,i<l.length→∃c:Nat,cls[i]?=some (c:Int)∧pI l i c
section
variable {l:List aF} {cls:List Int} {i k c c':Nat}
theorem pI.eq(h:pI l i c)(h':pI l k c')(hc:c<l.length):(c=c')↔l[i]?=l[k]?:=by
 constructor
 ·rintro rfl;rw[←h.1,←h'.1]
 ·intro e;rcases xK c c' with hl|hl|hl
  ·exact absurd (h.1.trans e) (h'.2.2 c hl)
  ·exact hl
  ·exact absurd (h'.1.trans e.symm) (h.2.2 c' hl)
theorem Bf(hc:Eh l cls){a:aF}(ha:l[i]?=some a):iH (l.map aF.st) cls i=true↔qx l a=true∧∀j,j<i→l[j]?≠some a:=by
 have hil:=(zY.1 ha).1;have hst:(l.map aF.st)[i]?=some a.st:=by simp[ha]
 obtain⟨ci,hci,hi⟩:=hc.2 i hil;have hcil:ci<l.length:=by have:=hi.2.1;omega
 rw[js hst,il];constructor
 ·rintro⟨h1,h2⟩;refine⟨⟨h1,fun d hd hv hid=>?_⟩,fun j hj e=>?_⟩
  ·obtain⟨k,hk⟩:=yZ hd;have hkl:=(zY.1 hk).1;obtain⟨ck,hck,hk'⟩:=hc.2 k hkl;have hag:=h2 k (by simpa using hkl);rw[ox hst (b:=d.st) (by simp[hk]) hci hck,hv,yU,Bool.or_eq_false_iff]at hag;have h3:=hag.1;unfold kh at h3;rw[decide_eq_false_iff_not]at h3;have hid':d.st.s=a.st.s∧d.st.q=a.st.q:=by
    unfold aF.id at hid;rw[jd.eq_iff]at hid;exact hid
   have hcc:ci=ck:=by
    by_cases e:ci=ck
    ·exact e
    ·exact absurd ⟨hid'.1.symm,hid'.2.symm,.inr (by omega)⟩ h3
   have:=(hi.eq hk' hcil).1 hcc;rw[ha,hk]at this;injection this with this;exact this.symm
  ·have hjl:=(zY.1 e).1;obtain⟨cj,hcj,_⟩:=hc.2 j hjl;have hag:=h2 j (by simpa using hjl);rw[ox hst (b:=a.st) (by simp[e]) hci hcj,h1,yU,Bool.or_eq_false_iff]at hag;have:=hag.2;simp[hj]at this
 ·rintro⟨⟨h1,h2⟩,h3⟩;refine⟨h1,fun k hk=>?_⟩;have hkl:k<l.length:=by simpa using hk
  have hd:l[k]?=some (l[k]'hkl):=zW _;obtain⟨ck,hck,hk'⟩:=hc.2 k hkl;rw[ox hst (b:=(l[k]'hkl).st) (by simp[hd]) hci hck];cases hv:im (l[k]'hkl).st with
  |false=>rfl
  |true =>
   rw[yU,Bool.or_eq_false_iff];have key:(l[k]'hkl).id=a.id→l[k]'hkl=a:=h2 _ (xX hkl) hv;constructor
   ·unfold kh;rw[decide_eq_false_iff_not];rintro⟨e1,e2,e3⟩;have e4:=key (by unfold aF.id;rw[jd.eq_iff];exact⟨e1.symm,e2.symm⟩);rcases e3 with e3|e3
    ·rw[e4]at e3;exact e3 rfl
    ·have:ci=ck:=(hi.eq hk' hcil).2 (by rw[ha,hd,e4]);omega
   ·by_cases hki:k<i
    ·rw[decide_eq_true hki,yU,decide_eq_false_iff_not];intro e;have e4:=key (by unfold aF.id;rw[e]);exact h3 k hki (by rw[hd,e4])
    ·rw[decide_eq_false hki];rfl
def jF(l:List aF)(out:List Int):List aF:=out.filterMap fun x=>l[x.toNat]?
theorem sT{x:Nat}{a:aF}(out:List Int)(h:l[x]?=some a):jF l (out++[(x:Int)])=jF l out++[a]:=by unfold jF;rw[List.filterMap_append];simp[h]
theorem Eg(hc:Eh l cls){out:List Int}(h:fy (l.map aF.st) cls l.length out):jF l out=bR l:=by
 refine oZ ?_ fun a=>?_
 ·unfold fB jF;rw[List.pairwise_filterMap];refine h.asc.imp_of_mem fun {x y} hx hy hxy a ha b hb=>?_;obtain⟨i,rfl,_,_⟩:=h.mem.1 hx;obtain⟨j,rfl,_,_⟩:=h.mem.1 hy;rw[yR]at ha hb;rw[sE (a:=a.st) (b:=b.st) (by simp[ha]) (by simp[hb])]at hxy;exact hxy
 ·unfold jF;rw[wA];constructor
  ·rintro⟨x,hx,ha⟩;obtain⟨i,rfl,hi,hci⟩:=h.mem.1 hx;rw[yR]at ha;exact⟨zU ha,((Bf hc ha).1 hci).1⟩
  ·rintro⟨hm,hcn⟩;obtain⟨i,hi⟩:=yZ hm;have hil:=(zY.1 hi).1;obtain⟨c,_,h1,h2,h3⟩:=hc.2 i hil;have hca:l[c]?=some a:=h1.trans hi;refine⟨(c:Int),h.mem.2 ⟨c,rfl,by omega,(Bf hc hca).2 ⟨hcn,fun j hj e=>h3 j hj (e.trans hi.symm)⟩⟩,by rw[yR];exact hca⟩
theorem FE{sts:List eD}{out:List Int}(h:fy sts cls n out):out.length≤n:=by rw[h.perm.length_eq];unfold kl;rw[zM];exact yL (xC _ _) (by simp)
end
theorem Tryz.infoStp:(prog.info? 109).map (fun i=>(i.zero,i.size,i.bytes))=some (some (.agg #[.int .i64 0,.int .i64 0,.int .i64 0]),3,24):=by kernel_rfl
structure lQ (base p:Nat) (w:World) (v:Value) (ys:List (aF×Value)):Prop where
 own:aL base 111 13 eM w v ys
 el:∀y∈ys,ao p w y.2 y.1.ch∧y.1.wf
theorem fE.wfs{l:List aF}(h:fE p w v l):∀c∈l,c.wf:=by intro c hc;obtain⟨k,hk⟩:=yZ hc;obtain⟨A,cc,rfl,h1,h2,h4⟩:=h;obtain⟨b,off,cs,_,_,_,_,u,_,_,hw⟩:=h4 k c hk;exact hw
def pr(l:List aF)(cls:List Int)(i:Nat):Prop:=cls.length=i∧∀j,j<i→∃c:Nat,cls[j]?=some (c:Int)∧pI l j c
theorem pr.snoc{l:List aF}{cls:List Int}{c:Nat}(h:pr l cls i)(hc:pI l i c):pr l (cls++[(c:Int)]) (i+1):=by
 refine⟨by simp[h.1],fun j hj=>?_⟩;rcases zV j i with hl|hl
 ·obtain⟨c',h1,h2⟩:=h.2 j hl;exact⟨c',by rw[zH (by rw[h.1];exact hl)];exact h1,h2⟩
 ·obtain rfl:j=i:=by omega
  exact⟨c,by rw[yT (by rw[h.1];exact zX _),h.1,Nat.sub_self];rfl,hc⟩
theorem pr.i64{l:List aF}{cls:List Int}(h:pr l cls i)(hi:i≤300):∀x∈cls,aC x:=by
 intro x hx;obtain⟨j,hj⟩:=yZ hx;obtain⟨c,h1,h2⟩:=h.2 j (by have:=(zY.1 hj).1;have:=h.1;omega);rw[hj]at h1;injection h1 with h1;subst h1
 have:=h2.2.1;have:=(zY.1 hj).1;have:=h.1;constructor<;>omega
theorem IsCsR.read{b off c k:Nat}{w0 wx:World}{l:List aF}{R:List Value→aF→Prop}(hR:∀cs c,R cs c→ly p w0 cs c)(h:bg p 13 (fun _=>R) w (.slice (some ⟨b,off,none⟩) n c) l)(hx:XT p w wx)(hk:k<n) :
  ∃(t s q kd ct ts tq lp lc lg lv:Int) (str:List UInt8) (ch:List Int) (A:Option Addr) (m cc:Nat),Hid (l[k]?=some ⟨⟨t,s,q⟩,kd,str,ct,ch,⟨ts,tq⟩,⟨lp,lc,lg,lv⟩⟩) ∧
   lG wx b (off+k*13) t s q kd ct ts tq lp lc lg lv str A m cc∧ao p w0 (.slice A m cc) ch∧aF.wf ⟨⟨t,s,q⟩,kd,str,ct,ch,⟨ts,tq⟩,⟨lp,lc,lg,lv⟩⟩ ∧
   R (aF.cells ⟨⟨t,s,q⟩,kd,str,ct,ch,⟨ts,tq⟩,⟨lp,lc,lg,lv⟩⟩ (.slice A m cc)) ⟨⟨t,s,q⟩,kd,str,ct,ch,⟨ts,tq⟩,⟨lp,lc,lg,lv⟩⟩:=by
 obtain⟨cs,⟨⟨t,s,q⟩,kd,str,ct,ch,⟨ts,tq⟩,⟨lp,lc,lg,lv⟩⟩,-,hc,hr,hx'⟩:=(h.xt (fun _ _ _ _ h _=>h) hx).cell_ hk;obtain⟨u,rfl,hI,hw⟩:=hR _ _ hr;obtain⟨A,m,cc,rfl,-⟩:=hI.open_;exact⟨t,s,q,kd,ct,ts,tq,lp,lc,lg,lv,str,ch,A,m,cc,hx',⟨hc 0 _ rfl,hc 1 _ rfl,hc 2 _ rfl,hc 3 _ rfl,hc 4 _ rfl,hc 5 _ rfl,hc 6 _ rfl,hc 7 _ rfl,hc 8 _ rfl,hc 9 _ rfl,hc 10 _ rfl,hc 11 _ rfl,hc 12 _ rfl⟩,hI,hw,hr⟩
theorem lQ.isR{ys:List (aF×Value)}{R:List Value→aF→Prop}(h:lQ base p w v ys)(hp:p<base)(hR:∀y∈ys,R (eM y) y.1):bg p 13 (fun _=>R) w v (ys.map Prod.fst):=by
 refine bg.of_own (e:=111) (ys.map eM) (fun cs hcs=>by obtain⟨y,_,rfl⟩:=zJ.1 hcs;rfl) (by decide) (by simp) (by rw[zM];exact h.own) hp ?_;intro k cs x hcs hx;simp only[zL,yI]at hcs hx;obtain⟨y,hy,rfl⟩:=hcs;obtain⟨z,hz,rfl⟩:=hx;rw[hy]at hz;injection hz with hz;subst hz
 exact hR y (zU hy)
theorem yr(R:List Value→aF→Prop)(v:Value)(l:List aF)(w:World)(hp:p<w.heap.size)(hR:∀cs c,R cs c→ly p w cs c)(hvR:bg p 13 (fun _=>R) w v l)(hn:l.length≤300) :
  Calls prog 56 #[v] w fun e w'=>∃(vo:Value) (ys:List (aF×Value)),e=.returned (.tuple #[vo,.int .i64 0])∧lQ w.heap.size p w' vo ys∧ys.map Prod.fst=bR l∧(∀y∈ys,R (eM y) y.1)∧ab w w':=by
 have hv:fE p w v l:=hvR.map_ hR;obtain⟨A,n,c,rfl,hnc,hcc,hnn,HL⟩:=hv.open_;obtain⟨i0,hi0,hz0,hz1,hz2⟩:=info_parts Tryz.infoI;obtain⟨iS,hiS,hS0,hS1,hS2⟩:=info_parts Tryz.infoStp;obtain⟨iC,hiC,hC0,hC1,hC2⟩:=info_parts Tryz.infoCap;have hn3:n≤300:=by have:=HL.out;omega
 have HV:Bx (fE p w (.slice A n c) l):=⟨hv⟩
 have HVR:Bx (bg p 13 (fun _=>R) w (.slice A n c) l):=⟨hvR⟩
 have HRR:Bx (∀cs c,R cs c→ly p w cs c):=⟨hR⟩
 clear hv hn hvR hR;go_enter func56,ntmps56
 go_wp2_with fail;go_loopw [4,5,6] (fun s4 s5 s6 wr=>∃(i:Nat) (cls:List Int),s6=.int .i64 i∧i≤n∧Bx (aL w.heap.size 109 3 eD.cells wr s4 ((l.take i).map aF.st)∧wr.ownsRow w.heap.size 3 1 s5 cls.length (cls.map (Value.int .i64))∧pr l cls i∧ab w wr)) (fun _ _ i _=>n-(intOf i).toNat)
 case atStart=>exact⟨0,[],rfl,by omega,⟨⟨aL.nil,yW _ _ _ _,⟨rfl,fun j hj=>by omega⟩,zE _⟩⟩⟩
 case round =>
  obtain⟨i,cls,rfl,hi,HR⟩:=hrel;by_cases hin:i<n
  ·obtain⟨b,off,_,_,rfl,-⟩:=HV.out.at_ hin;go_wp2_with fail;obtain⟨wo,rfl⟩:=nm (wr:World);go_loopw [7,8] (fun s7 s8 wx=>∃(m c0:Nat) (z:Int),s7=.int .i64 c0∧s8=.int .i64 z∧z≤(m:Int)-1∧(m:Int)-1≤z∧m≤c0∧c0≤i∧Bx (l[c0]?=l[i]?∧(∀j,m≤j→j<c0→l[j]?≠l[i]?)∧ab wo wx)) (fun _ z _=>(intOf z+1).toNat)
   case atStart=>exact⟨i,i,(i:Int)-1,rfl,rfl,by omega,by omega,by omega,by omega,⟨⟨rfl,fun j h1 h2=>by omega,zE _⟩⟩⟩
   case round =>
    obtain⟨m,c0,z,rfl,rfl,hz1',hz2',hmc,hci,HM⟩:=hrel;have HE:Bx (ab w wr):=⟨HR.out.2.2.2.trans HM.out.2.2⟩
    by_cases hz:0≤z
    ·obtain⟨k,rfl⟩:=zG hz;have hki:k<i:=by omega
     have hkn:k<n:=by omega
     have hmk1:m≤k+1:=by omega
     have hmk2:k+1≤m:=by omega
     obtain⟨xt,xs,xq,xk,xct,xts,xtq,xlp,xlc,xlg,xlv,xstr,xch,xA,xn,xcc,HX,hcx,hix,-⟩:=fE.read HV.out HE.out.xt hin;obtain⟨yt,ys,yq,yk,yct,yts,ytq,ylp,ylc,ylg,ylv,ystr,ych,yA,yn,ycc,HY,hcy,hiy,-⟩:=fE.read HV.out HE.out.xt hkn;have kS:wr.drew.cell? ⟨b,off+i*13,none⟩=some (.int .i64 xt)∧wr.drew.cell? ⟨b,off+i*13+1,none⟩=some (.int .i64 xs)∧wr.drew.cell? ⟨b,off+i*13+2,none⟩=some (.int .i64 xq)∧wr.drew.cell? ⟨b,off+i*13+3,none⟩=some (.int .i64 xk)∧wr.drew.cell? ⟨b,off+i*13+4,none⟩=some (.string (ba xstr))∧wr.drew.cell? ⟨b,off+i*13+5,none⟩=some (.int .i64 xct)∧wr.drew.cell? ⟨b,off+i*13+6,none⟩=some (.slice xA xn xcc)∧wr.drew.cell? ⟨b,off+i*13+7,none⟩=some (.int .i64 xts)∧wr.drew.cell? ⟨b,off+i*13+8,none⟩=some (.int .i64 xtq)∧wr.drew.cell? ⟨b,off+i*13+9,none⟩=some (.int .i64 xlp)∧wr.drew.cell? ⟨b,off+i*13+10,none⟩=some (.int .i64 xlc)∧wr.drew.cell? ⟨b,off+i*13+11,none⟩=some (.int .i64 xlg)∧wr.drew.cell? ⟨b,off+i*13+12,none⟩=some (.int .i64 xlv)∧wr.drew.cell? ⟨b,off+k*13,none⟩=some (.int .i64 yt)∧wr.drew.cell? ⟨b,off+k*13+1,none⟩=some (.int .i64 ys)∧wr.drew.cell? ⟨b,off+k*13+2,none⟩=some (.int .i64 yq)∧wr.drew.cell? ⟨b,off+k*13+3,none⟩=some (.int .i64 yk)∧wr.drew.cell? ⟨b,off+k*13+4,none⟩=some (.string (ba ystr))∧wr.drew.cell? ⟨b,off+k*13+5,none⟩=some (.int .i64 yct)∧wr.drew.cell? ⟨b,off+k*13+6,none⟩=some (.slice yA yn ycc)∧wr.drew.cell? ⟨b,off+k*13+7,none⟩=some (.int .i64 yts)∧wr.drew.cell? ⟨b,off+k*13+8,none⟩=some (.int .i64 ytq)∧wr.drew.cell? ⟨b,off+k*13+9,none⟩=some (.int .i64 ylp)∧wr.drew.cell? ⟨b,off+k*13+10,none⟩=some (.int .i64 ylc)∧wr.drew.cell? ⟨b,off+k*13+11,none⟩=some (.int .i64 ylg)∧wr.drew.cell? ⟨b,off+k*13+12,none⟩=some (.int .i64 ylv):=⟨hcx.c0,hcx.c1,hcx.c2,hcx.c3,hcx.c4,hcx.c5,hcx.c6,hcx.c7,hcx.c8,hcx.c9,hcx.c10,hcx.c11,hcx.c12,hcy.c0,hcy.c1,hcy.c2,hcy.c3,hcy.c4,hcy.c5,hcy.c6,hcy.c7,hcy.c8,hcy.c9,hcy.c10,hcy.c11,hcy.c12⟩
     have HI:Bx (ao p wr (.slice xA xn xcc) xch∧ao p wr (.slice yA yn ycc) ych):=⟨⟨hix,hiy⟩⟩
     clear hcx hcy hix hiy;go_upto_region 10 with (fail)
     refine zR 99 (fun w'=>w'.cell? ⟨b,off+i*13,none⟩=some (.int .i64 xt)∧w'.cell? ⟨b,off+i*13+1,none⟩=some (.int .i64 xs)∧w'.cell? ⟨b,off+i*13+2,none⟩=some (.int .i64 xq)∧w'.cell? ⟨b,off+i*13+3,none⟩=some (.int .i64 xk)∧w'.cell? ⟨b,off+i*13+4,none⟩=some (.string (ba xstr))∧w'.cell? ⟨b,off+i*13+5,none⟩=some (.int .i64 xct)∧w'.cell? ⟨b,off+i*13+6,none⟩=some (.slice xA xn xcc)∧w'.cell? ⟨b,off+i*13+7,none⟩=some (.int .i64 xts)∧w'.cell? ⟨b,off+i*13+8,none⟩=some (.int .i64 xtq)∧w'.cell? ⟨b,off+i*13+9,none⟩=some (.int .i64 xlp)∧w'.cell? ⟨b,off+i*13+10,none⟩=some (.int .i64 xlc)∧w'.cell? ⟨b,off+i*13+11,none⟩=some (.int .i64 xlg)∧w'.cell? ⟨b,off+i*13+12,none⟩=some (.int .i64 xlv)∧w'.cell? ⟨b,off+k*13,none⟩=some (.int .i64 yt)∧w'.cell? ⟨b,off+k*13+1,none⟩=some (.int .i64 ys)∧w'.cell? ⟨b,off+k*13+2,none⟩=some (.int .i64 yq)∧w'.cell? ⟨b,off+k*13+3,none⟩=some (.int .i64 yk)∧w'.cell? ⟨b,off+k*13+4,none⟩=some (.string (ba ystr))∧w'.cell? ⟨b,off+k*13+5,none⟩=some (.int .i64 yct)∧w'.cell? ⟨b,off+k*13+6,none⟩=some (.slice yA yn ycc)∧w'.cell? ⟨b,off+k*13+7,none⟩=some (.int .i64 yts)∧w'.cell? ⟨b,off+k*13+8,none⟩=some (.int .i64 ytq)∧w'.cell? ⟨b,off+k*13+9,none⟩=some (.int .i64 ylp)∧w'.cell? ⟨b,off+k*13+10,none⟩=some (.int .i64 ylc)∧w'.cell? ⟨b,off+k*13+11,none⟩=some (.int .i64 ylg)∧w'.cell? ⟨b,off+k*13+12,none⟩=some (.int .i64 ylv)) ?_;refine zS 8 [(0,26),(1,27),(2,28),(3,29),(4,30),(5,31),(6,32),(7,33)] kS ?_;iterate 8 (apply zT;exact⟨rfl,rfl⟩;(·intro _ _;go_simp;try with_reducible rfl);simp only[kA];exact rfl)
     refine zN (zO 8 (fun K hK=>?_));go_simp;refine (CV xt xs xq xk xct xts xtq xlp xlc xlg xlv yt ys yq yk yct yts ytq ylp ylc ylg ylv xstr ystr xch ych xA yA xn xcc yn ycc _ (HI.out.1.ext (zE _).drew) (HI.out.2.ext (zE _).drew)).mono ?_;rintro e w3 ⟨rfl,hx3⟩;have HE3:Bx (ab wo w3):=⟨HM.out.2.2.drew.trans hx3⟩
     have HEQ:Bx ((decide ((⟨⟨xt,xs,xq⟩,xk,xstr,xct,xch,⟨xts,xtq⟩,⟨xlp,xlc,xlg,xlv⟩⟩:aF)=⟨⟨yt,ys,yq⟩,yk,ystr,yct,ych,⟨yts,ytq⟩,⟨ylp,ylc,ylg,ylv⟩⟩))=true↔l[k]?=l[i]?):=⟨by rw[HX.out,HY.out,decide_eq_true_eq];constructor;(intro h;rw[h]);(intro h;injection h with h;exact h.symm)⟩
     generalize hbb:decide ((⟨⟨xt,xs,xq⟩,xk,xstr,xct,xch,⟨xts,xtq⟩,⟨xlp,xlc,xlg,xlv⟩⟩:aF)=⟨⟨yt,ys,yq⟩,yk,ystr,yct,ych,⟨yts,ytq⟩,⟨ylp,ylc,ylg,ylv⟩⟩)=bb at *
     clear hbb;refine hK.out _ _ (fun _=>⟨hx3.cell kS.1,hx3.cell kS.2.1,hx3.cell kS.2.2.1,hx3.cell kS.2.2.2.1,hx3.cell kS.2.2.2.2.1,hx3.cell kS.2.2.2.2.2.1,hx3.cell kS.2.2.2.2.2.2.1,hx3.cell kS.2.2.2.2.2.2.2.1,hx3.cell kS.2.2.2.2.2.2.2.2.1,hx3.cell kS.2.2.2.2.2.2.2.2.2.1,hx3.cell kS.2.2.2.2.2.2.2.2.2.2.1,hx3.cell kS.2.2.2.2.2.2.2.2.2.2.2.1,hx3.cell kS.2.2.2.2.2.2.2.2.2.2.2.2.1,hx3.cell kS.2.2.2.2.2.2.2.2.2.2.2.2.2.1,hx3.cell kS.2.2.2.2.2.2.2.2.2.2.2.2.2.2.1,hx3.cell kS.2.2.2.2.2.2.2.2.2.2.2.2.2.2.2.1,hx3.cell kS.2.2.2.2.2.2.2.2.2.2.2.2.2.2.2.2.1,hx3.cell kS.2.2.2.2.2.2.2.2.2.2.2.2.2.2.2.2.2.1,hx3.cell kS.2.2.2.2.2.2.2.2.2.2.2.2.2.2.2.2.2.2.1,hx3.cell kS.2.2.2.2.2.2.2.2.2.2.2.2.2.2.2.2.2.2.2.1,hx3.cell kS.2.2.2.2.2.2.2.2.2.2.2.2.2.2.2.2.2.2.2.2.1,hx3.cell kS.2.2.2.2.2.2.2.2.2.2.2.2.2.2.2.2.2.2.2.2.2.1,hx3.cell kS.2.2.2.2.2.2.2.2.2.2.2.2.2.2.2.2.2.2.2.2.2.2.1,hx3.cell kS.2.2.2.2.2.2.2.2.2.2.2.2.2.2.2.2.2.2.2.2.2.2.2.1,hx3.cell kS.2.2.2.2.2.2.2.2.2.2.2.2.2.2.2.2.2.2.2.2.2.2.2.2.1,hx3.cell kS.2.2.2.2.2.2.2.2.2.2.2.2.2.2.2.2.2.2.2.2.2.2.2.2.2⟩) ?_;clear hK K;try simp only[kA]
     clear kS hx3;refine zD ?_;cases bb with
     |true =>
      go_wp2_with fail;go_roundw
      case rel=>exact⟨k,k,(k:Int)-1,rfl,rfl,by omega,by omega,by omega,by omega,⟨⟨HEQ.out.1 rfl,fun j h1 h2=>by omega,HE3.out⟩⟩⟩
      case measure=>first|(simp[intOf];done)|(simp[intOf];omega)
     |false =>
      have HN:Bx (l[k]?≠l[i]?):=⟨fun h=>by have:=HEQ.out.2 h;cases this⟩
      go_wp2_with fail;go_roundw
      case rel=>exact⟨k,c0,(k:Int)-1,rfl,rfl,by omega,by omega,by omega,by omega,⟨⟨HM.out.1,fun j h1 h2=>by rcases zV k j with h|h;exact HM.out.2.1 j (by omega) h2;obtain rfl:j=k:=(by omega);exact HN.out,HE3.out⟩⟩⟩
      case measure=>first|(simp[intOf];done)|(simp[intOf];omega)
    ·have HCL:Bx (pI l i c0):=⟨⟨HM.out.1,by omega,fun j hj=>HM.out.2.1 j (by omega) hj⟩⟩
     obtain⟨xt,xs,xq,xk,xct,xts,xtq,xlp,xlc,xlg,xlv,xstr,xch,xA,xn,xcc,HX,hcx,-,-⟩:=fE.read HV.out HE.out.xt hin;have a0:=hcx.c0;have a1:=hcx.c1;have a2:=hcx.c2;have hli:((l.take i).map aF.st).length=i:=by rw[zM,zF];have:=HL.out;omega
     have HO4:Bx (wr.ownsRow w.heap.size 109 3 u4 i (((l.take i).map aF.st).map eD.cells).flatten):=⟨by have:=ac HR.out.1 HM.out.2.2;rw[hli]at this;exact this⟩
     have HO5:Bx (wr.ownsRow w.heap.size 3 1 u5 cls.length (cls.map (Value.int .i64))):=⟨ac HR.out.2.1 HM.out.2.2⟩
     have HCT:Bx (pr l cls i):=⟨HR.out.2.2.1⟩
     have hcl:cls.length≤300:=by have:=HCT.out.1;omega
     clear hcx HM HR hli;go_wp2_with (first
      |(at_builtin;go_loud (refine aH _ rfl (.tmp 36) (.tmp 42) 161 rfl w.heap.size 109 iS _ 3 24 underlying161 hiS hS0 hS1 hS2 rfl (by omega) u4 i _ rfl (ac HO4.out ((zE _).alloc _)) _ #[.int .i64 xt,.int .i64 xs,.int .i64 xq] _ rfl (heap_alloc_new _ _) rfl (by simp[Value.oneCell']) (by omega) (by omega) (by have:=HE.out.size;simp;omega) ?_;intro v7 w7 hown7 hg7;have HO7:Bx (w7.ownsRow w.heap.size 109 3 v7 (i+1) ((((l.take i).map aF.st).map eD.cells).flatten++[.int .i64 xt,.int .i64 xs,.int .i64 xq])):=⟨hown7⟩;have HE7:Bx (ab w w7):=⟨(HE.out.alloc _).grown hg7 (ar HO4.out)⟩;have HO57:Bx (w7.ownsRow w.heap.size 3 1 u5 cls.length (cls.map (Value.int .i64))):=⟨a8 (ac HO5.out ((zE _).alloc _)) (ac HO4.out ((zE _).alloc _)) (by decide) hg7⟩;clear hown7 hg7))
      |(at_builtin;go_loud (refine al _ rfl (.tmp 44) (.tmp 46) 22 rfl w.heap.size 3 i0 _ 8 underlying22 hi0 hz0 hz1 hz2 rfl u5 _ _ rfl (HO57.out.alloc _) _ _ rfl (by simp;rfl) rfl (by omega) (by omega) (by have:=HE7.out.size;simp;omega) ?_;intro v8 w8 hown8 hg8;have HO8:Bx (w8.ownsRow w.heap.size 3 1 v8 (cls.length+1) (cls.map (Value.int .i64)++[.int .i64 (c0:Int)])):=⟨hown8⟩;have HO78:Bx (w8.ownsRow w.heap.size 109 3 v7 (i+1) ((((l.take i).map aF.st).map eD.cells).flatten++[.int .i64 xt,.int .i64 xs,.int .i64 xq])):=⟨a8 (ac HO7.out ((zE _).alloc _)) (ac HO57.out ((zE _).alloc _)) (by decide) hg8⟩;have HE8:Bx (ab w w8):=⟨(HE7.out.alloc _).grown hg8 (ar HO57.out)⟩;clear hown8 hg8)))
     go_roundw
     case rel =>
      refine⟨i+1,cls++[(c0:Int)],by go_num,by omega,⟨⟨?_,by simpa using HO8.out,HCT.out.snoc HCL.out,HE8.out⟩⟩⟩;have e:(l.take (i+1)).map aF.st=(l.take i).map aF.st++[⟨xt,xs,xq⟩]:=by rw[ag HX.out,yN];rfl
      have hli:((l.take i).map aF.st).length=i:=by rw[zM,zF];have:=HL.out;omega
      rw[e];refine aL.push ?_;rw[hli];exact HO78.out
     case measure=>simp[intOf];omega
  ·obtain rfl:n=i:=by omega
   have htk:l.take n=l:=aD HL.out;have HO4:Bx (pT p wr u4 (l.map aF.st)):=by have h1:=HR.out.1;rw[htk]at h1;exact⟨h1.isS hp (by decide) (fun x _=>rfl) fun x hx=>⟨rfl,by obtain⟨y,hy,rfl⟩:=zJ.1 hx;exact (fE.wfs HV.out y hy).1⟩⟩
   have hcl:cls.length=n:=HR.out.2.2.1.1;have HO5:Bx (ao p wr u5 cls):=⟨ao.of_own HR.out.2.1 hp (HR.out.2.2.1.i64 hn3) (by omega)⟩
   have HCK:Bx (Eh l cls):=⟨by rw[HL.out];exact hcl,fun j hj=>HR.out.2.2.1.2 j (by have:=HL.out;omega)⟩
   have HE:Bx (ab w wr):=⟨HR.out.2.2.2⟩
   have hlen1:cls.length=(l.map aF.st).length:=by rw[zM,HL.out];exact hcl
   have hlen2:(l.map aF.st).length≤300:=by rw[zM,HL.out];exact hn3
   obtain⟨A4,n4,c4,rfl,-⟩:=HO4.out.open_;obtain⟨A5,n5,c5,rfl,-⟩:=HO5.out.open_;have HLE:=zZ (yX hlen1 hlen2);clear HR htk hcl hlen1 hlen2;go_wp2_with fail;refine (sM _ _ (l.map aF.st) cls _ HO4.out HO5.out HLE.out.1 HLE.out.2).mono ?_;rintro e w3 ⟨vo,out,rfl,hown,hsrt,hx3⟩;rw[zM]at hsrt;have hol:out.length≤300:=by have:=FE hsrt;have:=HL.out;omega
   have hp3:p<wr.heap.size:=zP hp HE.out.size;have hIO:=ao.of_own hown hp3 (fun x hx=>by obtain⟨j,rfl,hj,-⟩:=hsrt.mem.1 hx;have:=HL.out;exact⟨by omega,by omega⟩) (by omega);obtain⟨Ao,no,co,rfl,-,-,-,HLo⟩:=hIO.open_;have HIO:Bx (w3.ownsRow w.heap.size 3 1 (.slice Ao no co) out.length (out.map (Value.int .i64))∧out.length=no):=⟨bo hown HE.out.size,HLo.out⟩
   have HSR:Bx (fy (l.map aF.st) cls l.length out):=⟨hsrt⟩
   have HE3:Bx (ab w w3):=⟨HE.out.trans hx3⟩
   have hno:no≤300:=by have:=HLo.out;omega
   clear hown hsrt hx3 hIO HO4 HO5 HE HLE hp3;go_wp2_with fail;go_loopw [11,12] (fun s11 s12 wr=>∃(m:Nat) (ys:List (aF×Value)),s12=.int .i64 m∧m≤no∧ys.length≤m∧m≤ys.length∧Bx (aL w.heap.size 111 13 eM wr s11 ys∧(∀y∈ys,(ao p w y.2 y.1.ch∧y.1.wf)∧R (eM y) y.1)∧ys.map Prod.fst=jF l (out.take m)∧wr.ownsRow w.heap.size 3 1 (.slice Ao no co) out.length (out.map (Value.int .i64))∧ab w wr)) (fun _ m _=>no-(intOf m).toNat)
   case atStart=>exact⟨0,[],rfl,by omega,by simp,by simp,⟨⟨aL.nil,fun y h=>by simp at h,by simp[jF],HIO.out.1,HE3.out⟩⟩⟩
   case round =>
    have HON:=zZ HIO.out.2;clear HIO HE3;obtain⟨m,ys,rfl,hm,hy1,hy2,HM⟩:=hrel;have HE4:Bx (ab w wr):=⟨HM.out.2.2.2.2⟩
    by_cases hmn:m<no
    ·obtain⟨g2,co2,hv2,-⟩:=aQ HM.out.2.2.2.1 (by have:=HON.out;omega);injection hv2 with hA hB hC;subst hA;clear hB hC;have hmo:out[m]?=some (out[m]'(by have:=HON.out;omega)):=zW _;obtain⟨j,hj,hjl,-⟩:=HSR.out.mem.1 (zU hmo);rw[hj]at hmo;have HXO:=zZ hmo;have x0:wr.cell? ⟨g2,m,none⟩=some (.int .i64 (j:Int)):=by
      have hrow:=HM.out.2.2.2.1;rw[HON.out]at hrow;have hml:m<no*1:=by omega
      rw[hrow.cellAt m hml];simp[hmo]
     have hjn:j<n:=by have:=HL.out;omega
     obtain⟨b,off,_,_,rfl,-⟩:=HV.out.at_ hjn;obtain⟨xt,xs,xq,xk,xct,xts,xtq,xlp,xlc,xlg,xlv,xstr,xch,xA,xn,xcc,HX,hcx,hix,hwx,hrx⟩:=IsCsR.read HRR.out HVR.out (XT.refl p w) hjn;obtain⟨e0,e1,e2,e3,e4,e5,e6,e7,e8,e9,e10,e11,e12⟩:=hcx.ext HE4.out;have HIX:Bx ((ao p w (.slice xA xn xcc) xch∧aF.wf ⟨⟨xt,xs,xq⟩,xk,xstr,xct,xch,⟨xts,xtq⟩,⟨xlp,xlc,xlg,xlv⟩⟩)∧R (aF.cells ⟨⟨xt,xs,xq⟩,xk,xstr,xct,xch,⟨xts,xtq⟩,⟨xlp,xlc,xlg,xlv⟩⟩ (.slice xA xn xcc)) ⟨⟨xt,xs,xq⟩,xk,xstr,xct,xch,⟨xts,xtq⟩,⟨xlp,xlc,xlg,xlv⟩⟩):=⟨⟨⟨hix,hwx⟩,hrx⟩⟩
     have HOM:Bx (aL w.heap.size 111 13 eM wr u11 ys):=⟨HM.out.1⟩
     clear hix hwx hrx hj hmo hcx;go_wp2_with (at_builtin;go_loud (refine aH _ rfl (.tmp 63) (.tmp 71) 64 rfl w.heap.size 111 iC _ 13 128 underlying64 hiC hC0 hC1 hC2 rfl (by omega) u11 ys.length (ys.map eM).flatten rfl (HOM.out.ext ((zE _).alloc _)) _ #[.int .i64 xt,.int .i64 xs,.int .i64 xq,.int .i64 xk,.string (ba xstr),.int .i64 xct,.slice xA xn xcc,.int .i64 xts,.int .i64 xtq,.int .i64 xlp,.int .i64 xlc,.int .i64 xlg,.int .i64 xlv] _ rfl (heap_alloc_new _ _) rfl (by simp[Value.oneCell']) (by omega) (by omega) (by have:=HE4.out.size;simp;omega) ?_;intro v9 w9 hown9 hg9;have HE9:Bx (ab w w9):=⟨(HE4.out.alloc _).grown hg9 (ar HOM.out.own)⟩;have HO9:Bx (aL w.heap.size 111 13 eM w9 v9 (ys++[(⟨⟨xt,xs,xq⟩,xk,xstr,xct,xch,⟨xts,xtq⟩,⟨xlp,xlc,xlg,xlv⟩⟩,.slice xA xn xcc)])):=⟨aL.push hown9⟩;have HI9:Bx (w9.ownsRow w.heap.size 3 1 (.slice (some ⟨g2,0,none⟩) no co) out.length (out.map (Value.int .i64))):=⟨a8 (ac HM.out.2.2.2.1 ((zE _).alloc _)) (HOM.out.ext ((zE _).alloc _)) (by decide) hg9⟩;clear hown9 hg9));go_roundw
     case rel =>
      refine⟨m+1,ys++[(⟨⟨xt,xs,xq⟩,xk,xstr,xct,xch,⟨xts,xtq⟩,⟨xlp,xlc,xlg,xlv⟩⟩,.slice xA xn xcc)],by go_num,by omega,by simp;omega,by simp;omega,⟨⟨HO9.out,fun y hy=>?_,?_,HI9.out,HE9.out⟩⟩⟩
      ·rcases zC.1 hy with hy|hy
       ·exact HM.out.2.1 y hy
       ·obtain rfl:y=_:=by simpa using hy
        exact HIX.out
      ·rw[yN,HM.out.2.2.1,ag HXO.out,sT _ HX.out];rfl
     case measure=>simp[intOf];omega
    ·have HCN:Bx (ys.map Prod.fst=bR l):=⟨by rw[HM.out.2.2.1,aD (by have:=HON.out;omega)];exact Eg HCK.out HSR.out⟩
     have HFI:Bx (lQ w.heap.size p wr u11 ys∧∀y∈ys,R (eM y) y.1):=⟨⟨HM.out.1,fun y hy=>⟨(HM.out.2.1 y hy).1.1.ext HE4.out,(HM.out.2.1 y hy).1.2⟩⟩,fun y hy=>(HM.out.2.1 y hy).2⟩
     go_wp2_with fail;go_ret2
     exact⟨_,ys,rfl,HFI.out.1,HCN.out,HFI.out.2,HE4.out⟩
theorem Tryz.infoLab:(prog.info? 73).map (fun i=>(i.zero,i.size,i.bytes))=some (some (.agg #[.int .i64 0,.int .i64 0,.int .i64 0,.int .i64 0]),4,32):=by kernel_rfl
theorem Tryz.infoBool:(prog.info? 4).map (fun i=>(i.zero,i.size,i.bytes))=some (some (.bool false),1,1):=by kernel_rfl
theorem Cj(n:Nat)(hn:n≤1000)(w:World):(Instr.makeSlice 120 (.int .i64 (n:Int)) (.int .i64 (n:Int))).run prog w=.ok (.slice (some ⟨w.heap.size,0,none⟩) n n) (w.alloc (.cells (madeCells #[.int .i64 0,.int .i64 0,.int .i64 0,.int .i64 0] (n*4)) 73)):=by obtain⟨i,hi,h0,h1,h2⟩:=info_parts Tryz.infoLab;have h:=run_make (P:=prog) w 120 73 i _ underlying120 hi h0 .i64 .i64 n n (by omega) (Int.le_refl _) (by rw[h2];omega) (by omega);rw[yR,h1]at h;exact h
theorem zk(n:Nat)(hn:n≤1000)(w:World):(Instr.makeSlice 121 (.int .i64 (n:Int)) (.int .i64 (n:Int))).run prog w=.ok (.slice (some ⟨w.heap.size,0,none⟩) n n) (w.alloc (.cells (madeCells #[.bool false] n) 4)) :=
 run_make_row' 121 4 (.bool false) 1 underlying121 Tryz.infoBool rfl .i64 .i64 n (by omega) (by omega) w
theorem qN(n:Nat)(hn:n≤1000)(w:World):(Instr.makeSlice 22 (.int .i64 (n:Int)) (.int .i64 (n:Int))).run prog w=.ok (.slice (some ⟨w.heap.size,0,none⟩) n n) (w.alloc (.cells (madeCells #[.int .i64 0] n) 3)) :=
 run_make_row' 22 3 (.int .i64 0) 8 underlying22 Tryz.infoI rfl .i64 .i64 n (by omega) (by omega) w
theorem sf{z:Array Value}{k:Nat}(hk:k<n)(hu:z[k%z.size]! = u):(madeCells z n)[k]?=some u:=by unfold madeCells;rw[Array.getElem?_map,Array.getElem?_range,if_pos hk];simp[hu]
theorem sR{α:Type}[DecidableEq α](lt:α→α→Bool)(l:List α):(mF lt l).length≤l.length:=by
 induction l using jN with
 |h0=>exact zX _
 |h1 l x ih =>
  rw[jV,zI];unfold rY;split
  ·simp;omega
  ·rw[pK];simp;omega
theorem uu(l:List aF):(bR l).length≤l.length:=by have h1:=sR uZ (l.filter (qx l));have h2:=xC (qx l) l;unfold bR;omega
theorem Dz{s:List UInt8}{x:cU}(h:ki s=some x):x.wf:=by
 unfold ki at h;split at h
 ·rename_i hx
  injection h with h;obtain⟨m,hm⟩:=hx.choose_spec;rw[h]at hm;by_cases hu:jh s=0
  ·obtain⟨d,er,kk,-,h2,h3⟩:=hm.2 hu;by_cases hk:kk=0
   ·by_cases hc:jt d≤9999
    ·obtain⟨e1,e2,e3,e4,-⟩:=(h3 hk).2 hc;have b0:=i9 d 0;have b1:=i9 d 1;have b2:=i9 d 2;have b3:=i9 d 3;have b4:=i9 d 4;have b5:=i9 d 5;unfold jt at e2;refine⟨⟨?_,?_⟩,⟨?_,?_⟩,⟨?_,?_⟩,⟨?_,?_⟩⟩<;>omega
    ·have:=((h3 hk).1 (by omega)).2.2.2.2.2;omega
   ·have:=(h2 hk).2.2.2.2.2;omega
  ·have:=(hm.1 hu).2.2.2.2.2;omega
 ·cases h
theorem mU:cU.zero.wf:=⟨⟨by decide,by decide⟩,⟨by decide,by decide⟩,⟨by decide,by decide⟩,⟨by decide,by decide⟩⟩
theorem uF{l:List aF}{id:jd}{x:cU}{st:Int}(hl:∀c∈l,c.wf)(h:cO l id=(x,st)):x.wf:=by
 have hz:cU.zero.wf:=mU;unfold cO se at h;split at h
 ·injection h with h;subst h;exact hz
 ·split at h
  ·rename_i d hd
   split at h
   ·injection h with h;subst h;exact hz
   ·injection h with h;subst h;exact (hl d (xY.1 (List.mem_of_getLast? hd)).1).2.2.2.2.2.1
  ·split at h
   ·rename_i y hy
    injection h with h;subst h;exact Dz hy
   ·injection h with h;subst h;exact hz
theorem kI{s:aZ}{l:List aF}{c:aF}{lab:cU}{st:Int}(hk:c.kind=1)(h:cO l c.id=(lab,st)):dN s l c=⟨c,lab,if st=0 then (if be s lab c.ch then 0 else 5) else st,decide (st=0)&&be s lab c.ch⟩:=by unfold dN;rw[if_pos hk,h]
theorem Cd{s:aZ}{l:List aF}{c:aF}(hk:c.kind≠1):dN s l c=⟨c,cU.zero,0,false⟩:=by unfold dN;rw[if_neg hk]
structure dk (R:List ft) (n i:Nat) (cL cS cF:Array Value):Prop where
 sL:cL.size=n*4
 sS:cS.size=n
 sF:cF.size=n
 lab:∀(k:Nat) x,R[k]?=some x→∀(j:Nat) u,(if k<i then x.lab else cU.zero).cells[j]?=some u→cL[k*4+j]?=some u
 st:∀(k:Nat) x,R[k]?=some x→cS[k]?=some (.int .i64 (if k<i then x.st else 0))
 fit:∀(k:Nat) x,R[k]?=some x→cF[k]?=some (.bool (if k<i then x.fit else false))
section
variable {R:List ft} {n i:Nat} {cL cS cF cS' cF':Array Value} {x:ft}
theorem lS{l:cU}(h:l.cells[j]?=some u):j<4:=(zY.1 h).1
theorem dk.start(hn:R.length=n):dk R n 0 (madeCells #[.int .i64 0,.int .i64 0,.int .i64 0,.int .i64 0] (n*4)) (madeCells #[.int .i64 0] n) (madeCells #[.bool false] n):=by
 refine⟨size_madeCells _ _,size_madeCells _ _,size_madeCells _ _,fun k x hx j u hu=>?_,fun k x hx=>?_,fun k x hx=>?_⟩
 ·have hk:=(zY.1 hx).1;have hj:=lS hu;rw[if_neg (by omega)]at hu;refine sf (by omega) ?_;rw[show (#[Value.int .i64 0,.int .i64 0,.int .i64 0,.int .i64 0]:Array Value).size=4 from rfl,show (k*4+j)%4=j by omega];match j,hu with
  |0,hu=>simp[cU.cells,cU.zero]at hu;subst hu;rfl
  |1,hu=>simp[cU.cells,cU.zero]at hu;subst hu;rfl
  |2,hu=>simp[cU.cells,cU.zero]at hu;subst hu;rfl
  |3,hu=>simp[cU.cells,cU.zero]at hu;subst hu;rfl
  |j+4,hu=>omega
 ·have hk:=(zY.1 hx).1;rw[if_neg (by omega)];exact sf (by omega) (by simp[Nat.mod_one])
 ·have hk:=(zY.1 hx).1;rw[if_neg (by omega)];exact sf (by omega) (by simp[Nat.mod_one])
theorem dk.skip(h:dk R n i cL cS cF)(hx:R[i]?=some x)(h1:x.lab=cU.zero)(h2:x.st=0)(h3:x.fit=false):dk R n (i+1) cL cS cF:=by
 refine⟨h.sL,h.sS,h.sF,fun k y hy j u hu=>?_,fun k y hy=>?_,fun k y hy=>?_⟩
 ·refine h.lab k y hy j u ?_;rcases xK k i with e|e|e
  ·rw[if_pos (by omega)]at hu;rw[if_pos e];exact hu
  ·subst e;rw[hx]at hy;injection hy with hy;subst hy
   rw[if_pos (by omega),h1]at hu;rw[if_neg (by omega)];exact hu
  ·rw[if_neg (by omega)]at hu;rw[if_neg (by omega)];exact hu
 ·rw[h.st k y hy];rcases xK k i with e|e|e
  ·rw[if_pos e,if_pos (by omega)]
  ·subst e;rw[hx]at hy;injection hy with hy;subst hy
   rw[if_neg (by omega),if_pos (by omega),h2]
  ·rw[if_neg (by omega),if_neg (by omega)]
 ·rw[h.fit k y hy];rcases xK k i with e|e|e
  ·rw[if_pos e,if_pos (by omega)]
  ·subst e;rw[hx]at hy;injection hy with hy;subst hy
   rw[if_neg (by omega),if_pos (by omega),h3]
  ·rw[if_neg (by omega),if_neg (by omega)]
def ed(c c':Array Value)(i:Nat)(u:Value):Prop:=c'.size=c.size∧c'[i]?=some u∧∀k,k≠i→c'[k]?=c[k]?
theorem ed.one{c:Array Value}(h:i<c.size)(u:Value):ed c (c.setIfInBounds i u) i u :=
 ⟨wH,by rw[wZ];simp[h],fun k hk=>by rw[wZ,if_neg (Ne.symm hk)]⟩
theorem ed.two{c c':Array Value}(h:ed c c' i v)(hi:i<c.size)(u:Value):ed c (c'.setIfInBounds i u) i u :=
 ⟨by rw[wH];exact h.1,by rw[wZ];simp[h.1,hi],fun k hk=>by rw[wZ,if_neg (Ne.symm hk)];exact h.2.2 k hk⟩
theorem dk.put(h:dk R n i cL cS cF)(hR:R.length=n)(hx:R[i]?=some x)(hS:ed cS cS' i (.int .i64 x.st))(hF:ed cF cF' i (.bool x.fit)):dk R n (i+1) (dL cL (i*4) x.lab.cells) cS' cF':=by
 have hi:=(zY.1 hx).1;refine⟨?_,by rw[hS.1];exact h.sS,by rw[hF.1];exact h.sF,fun k y hy j u hu=>?_,fun k y hy=>?_,fun k y hy=>?_⟩
 ·rw[←h.sL];simp only[cU.cells,dL,wH]
 ·have hj:=lS hu;have hk:=(zY.1 hy).1;rw[lU,show x.lab.cells.length=4 from rfl,h.sL];rcases xK k i with e|e|e
  ·rw[if_neg (by omega)];rw[if_pos (by omega)]at hu;exact h.lab k y hy j u (by rw[if_pos e];exact hu)
  ·subst e;rw[hx]at hy;injection hy with hy;subst hy
   rw[if_pos (by omega)]at hu;rw[if_pos ⟨by omega,by omega,by omega⟩,show k*4+j-k*4=j by omega];exact hu
  ·rw[if_neg (by omega)];rw[if_neg (by omega)]at hu;exact h.lab k y hy j u (by rw[if_neg (by omega)];exact hu)
 ·rcases xK k i with e|e|e
  ·rw[hS.2.2 k (by omega),h.st k y hy,if_pos e,if_pos (by omega)]
  ·subst e;rw[hx]at hy;injection hy with hy;subst hy
   rw[hS.2.1,if_pos (by omega)]
  ·rw[hS.2.2 k (by omega),h.st k y hy,if_neg (by omega),if_neg (by omega)]
 ·rcases xK k i with e|e|e
  ·rw[hF.2.2 k (by omega),h.fit k y hy,if_pos e,if_pos (by omega)]
  ·subst e;rw[hx]at hy;injection hy with hy;subst hy
   rw[hF.2.1,if_pos (by omega)]
  ·rw[hF.2.2 k (by omega),h.fit k y hy,if_neg (by omega),if_neg (by omega)]
theorem dk.lab0(h:dk R n i cL cS cF)(hx:R[i]?=some x)(hj:j<4):cL[i*4+j]?=some (.int .i64 0):=by
 refine h.lab i x hx j _ ?_;rw[if_neg (by omega)];match j,hj with
 |0,_=>rfl
 |1,_=>rfl
 |2,_=>rfl
 |3,_=>rfl
theorem dk.st0(h:dk R n i cL cS cF)(hx:R[i]?=some x):cS[i]?=some (.int .i64 0):=by rw[h.st i x hx,if_neg (by omega)]
theorem dk.fit0(h:dk R n i cL cS cF)(hx:R[i]?=some x):cF[i]?=some (.bool false):=by rw[h.fit i x hx,if_neg (by omega)]
end
theorem dk.isLb{R:List ft}{cL cS cF:Array Value}{g:Nat}(h:dk R n n cL cS cF)(hR:R.length=n)(hn:n≤1000)(hb:Bk w g cL 73)(hp:g≠p):bg p 4 Hg w (.slice (some ⟨g,0,none⟩) n n) (R.map ft.lab):=by refine⟨some ⟨g,0,none⟩,n,by rw[zM,hR],by rw[zM];omega,by omega,fun k l hl=>?_⟩;rw[zL,yI]at hl;obtain⟨x,hx,rfl⟩:=hl;have hk:=(zY.1 hx).1;refine⟨g,0,x.lab.cells,rfl,hp,rfl,fun j u hu=>?_,rfl⟩;rw[yV];exact hb.cell (h.lab k x hx j u (by rw[if_pos (by omega)];exact hu))
theorem dk.isBl{R:List ft}{cL cS cF:Array Value}{g:Nat}(h:dk R n n cL cS cF)(hR:R.length=n)(hn:n≤1000)(hb:Bk w g cF 4)(hp:g≠p):bg p 1 Hj w (.slice (some ⟨g,0,none⟩) n n) (R.map ft.fit):=by
 refine⟨some ⟨g,0,none⟩,n,by rw[zM,hR],by rw[zM];omega,by omega,fun k b hb'=>?_⟩;rw[zL,yI]at hb';obtain⟨x,hx,rfl⟩:=hb';have hk:=(zY.1 hx).1;refine⟨g,0,[.bool x.fit],rfl,hp,rfl,fun j u hu=>?_,rfl⟩;match j,hu with
 |0,hu =>
  simp at hu;subst hu;rw[yV,yP,wY];refine hb.cell ?_;rw[h.fit k x hx,if_pos (by omega)]
 |j+1,hu=>simp at hu
section
variable {R:List ft} {s:aZ} {l:List aF} {k n i:Nat} {x:ft} {cL cS cF:Array Value}
theorem EK(s:aZ)(l:List aF):(bi s l).map ft.cap=l:=by
 unfold bi;rw[List.map_map];have:(ft.cap ∘ dN s l)=id:=by funext c;exact nQ s l c
 rw[this,List.map_id]
theorem zx{c:aF}(hl:∀c∈l,c.wf):(dN s l c).lab.wf:=by
 unfold dN;split
 ·exact uF (id:=c.id) (st:=(cO l c.id).2) hl rfl
 ·exact mU
theorem Ex(hx:R[k]?=some x)(h:x.cap.kind≠1):bJ R (k+1)=bJ R k:=by rw[gJ];unfold oh;rw[hx];simp[h]
theorem AE(hx:R[k]?=some x)(h:x.cap.kind=1):bJ R (k+1)=bJ R k++[nY R k x]:=by rw[gJ];unfold oh;rw[hx];simp[h]
theorem od(hx:R[k]?=some x)(h:¬(x.cap.kind=1∧fD R k x=1)):du R (k+1)=du R k:=by rw[iJ];unfold Gs;rw[hx];simp only[Option.bind_some];rw[if_neg h];simp
theorem Bh(hx:R[k]?=some x)(h:x.cap.kind=1)(h2:fD R k x=1):du R (k+1)=du R k++[G2 x]:=by rw[iJ];unfold Gs;rw[hx];simp only[Option.bind_some];rw[if_pos ⟨h,h2⟩];rfl
theorem kC(R:List ft)(k:Nat):(bz aW (bJ R k)).length≤k:=by rw[(fg _).length_eq];have:=vZ (oh R) (List.range k);rw[wM]at this;exact this
theorem mp(R:List ft)(k:Nat):(bz cM (du R k)).length≤k:=by rw[(fg _).length_eq];have:=vZ (Gs R) (List.range k);rw[wM]at this;exact this
theorem nM(h:dk R n i cL cS cF)(hi:i<n){a:cU}(hj:j<4):(dL cL (i*4) a.cells)[i*4+j]?=a.cells[j]?:=by rw[lU,show a.cells.length=4 from rfl,h.sL,if_pos ⟨by omega,by omega,by omega⟩,show i*4+j-i*4=j by omega]
theorem dm(h:dk R n n cL cS cF)(hk:k<n)(hx:R[k]?=some x)(hu:x.lab.cells[j]?=some u):cL[k*4+j]?=some u:=h.lab k x hx j u (by rw[if_pos hk];exact hu)
theorem FO(h:dk R n n cL cS cF)(hk:k<n)(hx:R[k]?=some x):cF[k]?=some (.bool x.fit):=by rw[h.fit k x hx,if_pos hk]
end
theorem ay.far{α:Type}{R:List Value→α→Prop}{xs:List α}(h:ay base e size R w v xs){a:Addr}(ha:a.block<base)(u:Value):ay base e size R (w.setCell a u) v xs:=by obtain⟨css,h1,h2,h3,h4⟩:=h;exact⟨css,h1,h2,bm h3 (fun e=>by have:=ar h3 _ e;omega) u,h4⟩
theorem ay.base_{α:Type}{b:Nat}{R:List Value→α→Prop}{xs:List α}(h:ay base e size R w v xs)(hb:b≤base):ay b e size R w v xs:=by obtain⟨css,h1,h2,h3,h4⟩:=h;exact⟨css,h1,h2,bo h3 hb,h4⟩
theorem ay.to{α:Type}{R:List Value→α→Prop}{xs ys:List α}(h:ay base e size R w v xs)(he:xs=ys):ay base e size R w v ys:=he▸h
theorem xr{w0 wx:World}{l:List aF}(h:bg p 13 (fun _=>ly p w0) w v l)(h0:ab w0 wx)(hw:ab w wx):fE p wx v l :=
 (h.ext (fun _ _ _ _ h _=>h) hw).map_ fun _ _ k=>ly.stab p _ _ _ _ k h0.xt
end Go.Proofs.YtjgfgdcaocbfhaaGreat

