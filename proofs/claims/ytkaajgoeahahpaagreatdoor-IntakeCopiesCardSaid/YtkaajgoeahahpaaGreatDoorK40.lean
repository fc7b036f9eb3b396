import Derived.Test.YtkaajgoeahahpaaGreatDoorK30
import Derived.Laws.Shifts
import Derived.Test.YtkaajgoeahahpaaGreatDoorK36
set_option linter.all false
set_option maxRecDepth 100000
set_option maxHeartbeats 0
namespace Go.Proofs.YtkaajgoeahahpaaGreatDoor
open Go.Value renaming int→B,slice→D
open Go.IntKind renaming i64→C
open Go.RowKit _root_.Go.Proofs.Tryz
variable {p:Nat}
noncomputable def m9(s:dl):Int:=if s.bk.length≠s.pap.length then 1 else if (List.range s.pap.length).all (jK s)=false then 1 else 0
theorem GI{s:dl}(h:s.bk.length≠s.pap.length):m9 s=1:=by unfold m9;rw[if_pos h]
theorem nw{s:dl}{k:Nat}(h:s.bk.length=s.pap.length)(hk:k<s.pap.length)(hg:jK s k=false):m9 s=1:=by unfold m9;rw[if_neg (by simp[h]),if_pos (wT.2 ⟨k,yX.2 hk,by simp[hg]⟩)]
theorem Iw{s:dl}(h:s.bk.length=s.pap.length)(hg:∀j,j<s.pap.length->jK s j=true):m9 s=0:=by unfold m9;rw[if_neg (by simp[h]),hD hg];simp
theorem C0{s:dl}(h1:0<=s.num/\s.num<=31)(h2:1<=s.pap.length/\s.pap.length<=4/\s.xp.length<=60):(m9 s≠0->aC s=m9 s) /\
  (m9 s=0->aC s=if s.xp.all (ud s.pap.length)=false then 2 else if (List.range (s.xp.length-1)).all (lW s.xp)=false then 5 else 0):=by
 unfold m9;by_cases h3:s.bk.length=s.pap.length
 ·rw[if_neg (by simp[h3])];cases h4:(List.range s.pap.length).all (jK s) with
  |false=>rw[if_pos rfl];exact⟨fun _=>jn h1 h2 h3 h4,fun h=>by omega⟩
  |true=>rw[if_neg (by simp)];exact⟨fun h=>by omega,fun _=>mF h1 h2 h3 h4⟩
 ·rw[if_pos h3];exact⟨fun _=>AV h1 h2 h3,fun h=>by omega⟩
theorem Cj(s:dl):m9 s=0\/m9 s=1:=by
 unfold m9;split
 ·exact .inr rfl
 ·split
  ·exact .inr rfl
  ·exact .inl rfl
theorem pP(s:dl)(AP AB AX:Option Addr)(nP cP nB cB nX cX:Nat)(w:World)(hP:jg p w (D AP nP cP) s.pap)(hB:l9 p w (D AB nB cB) s.bk) :
  Calls prog 50 #[.agg #[B C s.num,D AP nP cP,D AB nB cB,D AX nX cX]] w fun e w'=>e=.returned (B C (m9 s))/\ab w w':=by
 have HLP:=zZ (show s.pap.length=nP from by obtain⟨_,_,e,_⟩:=hP;injection e with _ e _;exact e.symm);have HLB:=zZ (show s.bk.length=nB from by obtain⟨_,_,e,_⟩:=hB;injection e with _ e _;exact e.symm);have hb1:nP<=9223372036854775807:=by obtain⟨_,_,e,h1,h2,_⟩:=hP;injection e with _ e _;omega
 have hb2:nB<=9223372036854775807:=by obtain⟨_,_,e,h1,h2,_⟩:=hB;injection e with _ e _;omega
 have HR0:Bx (jg p w (D AP nP cP) s.pap/\l9 p w (D AB nB cB) s.bk):=⟨⟨hP,hB⟩⟩
 clear hP hB;obtain⟨w1,hw1⟩:=nm ((w.alloc (.cells #[B C s.num,D AP nP cP,D AB nB cB,D AX nX cX] 27)):World);have HF:Bx (aA w w1 [(w.heap.size,#[B C s.num,D AP nP cP,D AB nB cB,D AX nX cX],27)]):=⟨by rw[hw1];exact (aA.start w).push _ _ rfl⟩
 go_enter func50,ntmps50
 go_upto_region 1 with (fail)
 rw[<-hw1];clear hw1;obtain⟨z0,z1,z2,z3⟩:=(HF.out.at_ 0 rfl).p4 rfl;by_cases c3:nB=nP;case neg =>
  have c3b:((nB:Int)!=(nP:Int))=true:=by simp;omega
  have HE:=zZ (GI (s:=s) (by rw[HLP.out,HLB.out];exact c3));go_wp2_with fail;all_goals first
   |(exfalso;omega)
   |(go_ret;exact⟨ag HE.out.symm,HF.out.xt⟩)
 subst c3;have HLL:Bx (s.bk.length=s.pap.length):=⟨by rw[HLP.out,HLB.out]⟩
 go_wp2_with fail;clear z0 z1 z2 z3;go_loopw [15] (fun s15 wr=>∃k:Nat,s15=B C k/\k<=nB/\Bx (aA w wr [(w.heap.size,#[B C s.num,D AP nB cP,D AB nB cB,D AX nX cX],27)]/\∀j,j<k->jK s j=true)) (fun k _=>nB-(intOf k).toNat)
 case atStart=>exact⟨0,rfl,by omega,⟨⟨HF.out,fun j hj=>by omega⟩⟩⟩
 case round =>
  obtain⟨k,rfl,hk,HR⟩:=hrel;clear HF;by_cases hkn:k<nB
  ·obtain⟨bP,oP,_,_,rfl,-⟩:=HR0.out.1.at_ hkn;obtain⟨bB,oB,_,_,rfl,-⟩:=HR0.out.2.at_ hkn;have hqk:s.pap[k]?=some (s.pap[k]'(by have:=HLP.out;omega)):=zV _;have hbk:s.bk[k]?=some (s.bk[k]'(by have:=HLB.out;omega)):=zV _;generalize s.pap[k]'(by have:=HLP.out;omega)=q at hqk;generalize s.bk[k]'(by have:=HLB.out;omega)=bk at hbk;obtain⟨Aq,nq,cq,q0,q1,q2,hIQ,hq1,hq2⟩:=kn HR0.out.1 hqk HR.out.1.xt.xt;obtain⟨Ab,nb,cb,b0,hIB,-⟩:=lJ HR0.out.2 hbk HR.out.1.xt.xt;obtain⟨qc,qv,qs⟩:=q;simp only at q0 q1 q2 hIQ hq1 hq2;have HG:=zZ (D3 hqk hbk);have HA:Bx (∀j,j<k->jK s j=true):=⟨HR.out.2⟩
   have HIQ:Bx (oa p wr (D Aq nq cq) qs/\oc p wr (D Ab nb cb) bk):=⟨⟨hIQ,hIB⟩⟩
   have HFr:Bx (aA w wr [(w.heap.size,#[B C s.num,D (some ⟨bP,oP,none⟩) nB cP,D (some ⟨bB,oB,none⟩) nB cB,D AX nX cX],27)]):=⟨HR.out.1⟩
   have hkl:k<s.pap.length:=by have:=HLP.out;omega
   have HKL:=zZ hkl;clear hIQ hIB hqk hbk HR hkl;go_upto_region 6 with (fail)
   have HF2:Bx (aA w (wr.alloc (.cells #[B C qc,B C qv,D Aq nq cq] 84)) [(w.heap.size,#[B C s.num,D (some ⟨bP,oP,none⟩) nB cP,D (some ⟨bB,oB,none⟩) nB cB,D AX nX cX],27),(wr.heap.size,#[B C qc,B C qv,D Aq nq cq],84)]):=⟨HFr.out.push _ _ rfl⟩
   have HI:Bx (oa p (wr.alloc (.cells #[B C qc,B C qv,D Aq nq cq] 84)) (D Aq nq cq) qs/\oc p (wr.alloc (.cells #[B C qc,B C qv,D Aq nq cq] 84)) (D Ab nb cb) bk):=⟨⟨HIQ.out.1.ext (bC.stab p) ((zE _).alloc _),HIQ.out.2.ext (RI.stab p) ((zE _).alloc _)⟩⟩
   replace b0:=((zE wr).alloc (.cells #[B C qc,B C qv,D Aq nq cq] 84)).cell b0;obtain⟨w2,hw2⟩:=nm ((wr.alloc (.cells #[B C qc,B C qv,D Aq nq cq] 84)):World);rw[<-hw2]at HF2 HI b0;rw[<-hw2];clear hw2 q0 q1 q2 HFr HIQ;obtain⟨gp,hgp⟩:=nm wr.heap.size;rw[<-hgp]at HF2;rw[<-hgp];clear hgp;have s0:=(HF2.out.at_ 0 rfl).c 0 rfl;have s2:=(HF2.out.at_ 0 rfl).c 2 rfl;obtain⟨p0,p1,p2⟩:=(HF2.out.at_ 1 rfl).p3 rfl;refine zQ 99 fun wd kS=>?_;refine zS 1 [(0,20)] kS ?_;refine zT ?_ (y:=by intro wk hk;obtain⟨_,_,_,_,_,_⟩:=zkc6 hk s0 s2 p0 p1 p2 b0;go_simp;try with_reducible rfl);refine zN (zO 1 (fun K hK=>?_));go_simp;refine (kP qc qv _ qs _ (p:=p) (HI.out.1.ext (bC.stab p) kS)).mono ?_;rintro e w3 ⟨rfl,hx3⟩;have kS2:ab w2 w3:=kS.trans hx3;clear hx3;cases h1:fD qc qv qs with
   |false =>
    have HE:=zZ (nw HLL.out HKL.out (by rw[HG.out,h1];rfl));replace h1:=zZ h1;refine hK.out _ _ (fun _=>kS2) ?_;clear hK K;try simp only[kA]
    refine zS 24 [(2,22),(3,23),(4,24),(5,25),(6,26),(7,27),(8,28),(9,29),(10,30),(11,31),(12,32),(13,33),(14,34),(15,35),(16,36),(17,37),(18,38),(19,39),(20,40),(21,41),(22,42),(23,43),(24,44),(25,45)] kS2 ?_;iterate 2 refine zT ?_ (y:=by intro wk hk;obtain⟨_,_,_,_,_,_⟩:=zkc6 hk s0 s2 p0 p1 p2 b0;go_simp;try with_reducible rfl)
    iterate 5 (apply zK;exact⟨rfl,rfl⟩;simp only[kA];exact rfl)
    iterate 2 refine zT ?_ (y:=by intro wk hk;obtain⟨_,_,_,_,_,_⟩:=zkc6 hk s0 s2 p0 p1 p2 b0;go_simp;try with_reducible rfl)
    iterate 4 (apply zK;exact⟨rfl,rfl⟩;simp only[kA];exact rfl)
    iterate 2 refine zT ?_ (y:=by intro wk hk;obtain⟨_,_,_,_,_,_⟩:=zkc6 hk s0 s2 p0 p1 p2 b0;go_simp;try with_reducible rfl)
    iterate 8 (apply zK;exact⟨rfl,rfl⟩;simp only[kA];exact rfl)
    refine zT ?_ (y:=by intro wk hk;obtain⟨_,_,_,_,_,_⟩:=zkc6 hk s0 s2 p0 p1 p2 b0;go_simp;try with_reducible rfl);refine zN (zD ?_);go_wp2_with fail;go_ret
    exact⟨ag HE.out.symm,HF2.out.xt.trans kS2⟩
   |true =>
    by_cases h2:qc=s.num;case neg =>
     have h2b:(qc != s.num)=true:=by simp[h2]
     have HE:=zZ (nw HLL.out HKL.out (by rw[HG.out];simp[h2]));replace h1:=zZ h1;replace h2:=zZ h2;refine hK.out _ _ (fun _=>kS2) ?_;clear hK K;try simp only[kA]
     refine zS 24 [(2,22),(3,23),(4,24),(5,25),(6,26),(7,27),(8,28),(9,29),(10,30),(11,31),(12,32),(13,33),(14,34),(15,35),(16,36),(17,37),(18,38),(19,39),(20,40),(21,41),(22,42),(23,43),(24,44),(25,45)] kS2 ?_;iterate 9 refine zT ?_ (y:=by intro wk hk;obtain⟨_,_,_,_,_,_⟩:=zkc6 hk s0 s2 p0 p1 p2 b0;go_simp;try with_reducible rfl)
     iterate 4 (apply zK;exact⟨rfl,rfl⟩;simp only[kA];exact rfl)
     iterate 2 refine zT ?_ (y:=by intro wk hk;obtain⟨_,_,_,_,_,_⟩:=zkc6 hk s0 s2 p0 p1 p2 b0;go_simp;try with_reducible rfl)
     iterate 8 (apply zK;exact⟨rfl,rfl⟩;simp only[kA];exact rfl)
     refine zT ?_ (y:=by intro wk hk;obtain⟨_,_,_,_,_,_⟩:=zkc6 hk s0 s2 p0 p1 p2 b0;go_simp;try with_reducible rfl);refine zN (zD ?_);go_wp2_with fail;go_ret
     exact⟨ag HE.out.symm,HF2.out.xt.trans kS2⟩
    have h2b:(qc != s.num)=false:=by simp[h2]
    by_cases h3:qv=(k:Int)
    case neg =>
     have h3b:(qv != (k:Int))=true:=by simp[h3]
     have HE:=zZ (nw HLL.out HKL.out (by rw[HG.out];simp[h3]));replace h1:=zZ h1;replace h2:=zZ h2;replace h3:=zZ h3;refine hK.out _ _ (fun _=>kS2) ?_;clear hK K;try simp only[kA]
     refine zS 24 [(2,22),(3,23),(4,24),(5,25),(6,26),(7,27),(8,28),(9,29),(10,30),(11,31),(12,32),(13,33),(14,34),(15,35),(16,36),(17,37),(18,38),(19,39),(20,40),(21,41),(22,42),(23,43),(24,44),(25,45)] kS2 ?_;iterate 15 refine zT ?_ (y:=by intro wk hk;obtain⟨_,_,_,_,_,_⟩:=zkc6 hk s0 s2 p0 p1 p2 b0;go_simp;try with_reducible rfl)
     iterate 8 (apply zK;exact⟨rfl,rfl⟩;simp only[kA];exact rfl)
     refine zT ?_ (y:=by intro wk hk;obtain⟨_,_,_,_,_,_⟩:=zkc6 hk s0 s2 p0 p1 p2 b0;go_simp;try with_reducible rfl);refine zN (zD ?_);go_wp2_with fail;go_ret
     exact⟨ag HE.out.symm,HF2.out.xt.trans kS2⟩
    have h3b:(qv != (k:Int))=false:=by simp[h3]
    replace h1:=zZ h1;replace h2:=zZ h2;replace h3:=zZ h3;refine hK.out _ _ (fun _=>kS2) ?_;clear hK K;try simp only[kA]
    refine zS 21 [(2,22),(3,23),(4,24),(5,25),(6,26),(7,27),(8,28),(9,29),(10,30),(11,31),(12,32),(13,33),(14,34),(15,35),(16,36),(17,37),(18,38),(19,39),(20,40),(21,41),(22,42)] kS2 ?_;iterate 21 refine zT ?_ (y:=by intro wk hk;obtain⟨_,_,_,_,_,_⟩:=zkc6 hk s0 s2 p0 p1 p2 b0;go_simp;try with_reducible rfl)
    refine zN (zO 23 (fun K hK=>?_));go_simp;refine (kY qc qv _ _ qs bk _ (p:=p) (HI.out.1.ext (bC.stab p) kS2) (HI.out.2.ext (RI.stab p) kS2)).mono ?_;rintro e w4 ⟨rfl,hx4⟩;have kS3:ab w2 w4:=kS2.trans hx4;clear hx4;cases h4:jH qc qv qs bk with
    |false =>
     have HE:=zZ (nw HLL.out HKL.out (by rw[HG.out,h4];simp));replace h4:=zZ h4;refine hK.out _ _ (fun _=>kS3) ?_;clear hK K;try simp only[kA]
     refine zS 2 [(24,44),(25,45)] kS3 ?_;iterate 2 refine zT ?_ (y:=by intro wk hk;obtain⟨_,_,_,_,_,_⟩:=zkc6 hk s0 s2 p0 p1 p2 b0;go_simp;try with_reducible rfl)
     refine zN (zD ?_);go_wp2_with fail;go_ret
     exact⟨ag HE.out.symm,HF2.out.xt.trans kS3⟩
    |true =>
     have HT:=zZ (show jK s k=true by rw[HG.out,h1.out,h4,decide_eq_true h2.out,decide_eq_true h3.out];rfl);replace h4:=zZ h4;refine hK.out _ _ (fun _=>kS3) ?_;clear hK K;try simp only[kA]
     refine zS 2 [(24,44),(25,45)] kS3 ?_;iterate 2 refine zT ?_ (y:=by intro wk hk;obtain⟨_,_,_,_,_,_⟩:=zkc6 hk s0 s2 p0 p1 p2 b0;go_simp;try with_reducible rfl)
     refine zN (zD ?_);have HF9:Bx (aA w w4 [(w.heap.size,#[B C s.num,D (some ⟨bP,oP,none⟩) nB cP,D (some ⟨bB,oB,none⟩) nB cB,D AX nX cX],27)]):=⟨(HF2.out.ext kS3).take 1⟩
     clear kS kS2 kS3 s0 s2 p0 p1 p2 b0 h2b h3b HF2;go_wp2_with fail;go_roundw
     case rel=>exact⟨k+1,by go_num,by omega,⟨⟨HF9.out,fun j hj=>by rcases zU j k with h|h;exact HA.out j h;obtain rfl:j=k:=(by omega);exact HT.out⟩⟩⟩
     case measure=>simp[intOf];omega
  ·obtain rfl:nB=k:=by omega
   have HE:=zZ (Iw HLL.out fun j hj=>HR.out.2 j (by have:=HLP.out;omega));have HF9:=zZ HR.out.1.xt;clear HR;go_wp2_with fail;go_ret
   exact⟨ag HE.out.symm,HF9.out⟩
theorem mf(v:Value)(s:dl)(w:World)(hs:aR p w v s) :
  Calls prog 18 #[v] w fun e w'=>e=.returned (B C (aC s))/\ab w w':=by
 obtain⟨vP,vB,vX,rfl,hP,hB,hX,hnum⟩:=hs;obtain⟨AP,nP,cP,rfl,hnP,hcP,hmP,HLP⟩:=hP.open_;obtain⟨AB,nB,cB,rfl,hnB,hcB,hmB,HLB⟩:=hB.open_;obtain⟨AX,nX,cX,rfl,hnX,hcX,hmX,HLX⟩:=hX.open_;have HR0:Bx (jg p w (D AP nP cP) s.pap/\l9 p w (D AB nB cB) s.bk/\jh p w (D AX nX cX) s.xp):=⟨⟨hP,hB,hX⟩⟩
 obtain⟨hm1,hm2⟩:=hnum;clear hP hB hX;by_cases c1:0<=s.num/\s.num<=31;case neg =>
  have HE:=zZ (tk c1);go_enter func18,ntmps18
  go_wp2_with fail;all_goals first
   |(exfalso;omega)
   |(go_ret;exact⟨ag HE.out.symm,(zE _).alloc _⟩)
 obtain⟨n1,n2⟩:=c1;by_cases c2:1<=nP/\nP<=4/\nX<=60;case neg =>
  have HE:=zZ (te (s:=s) ⟨n1,n2⟩ (by rw[HLP.out,HLX.out];exact c2));go_enter func18,ntmps18
  go_wp2_with fail;all_goals first
   |(exfalso;omega)
   |(go_ret;exact⟨ag HE.out.symm,(zE _).alloc _⟩)
 obtain⟨p1,p2,x1⟩:=c2;have HC3:=zZ (C0 (s:=s) ⟨n1,n2⟩ (by rw[HLP.out,HLX.out];exact⟨p1,p2,x1⟩));obtain⟨w1,hw1⟩:=nm ((w.alloc (.cells #[B C s.num,D AP nP cP,D AB nB cB,D AX nX cX] 27)):World);have HF:Bx (aA w w1 [(w.heap.size,#[B C s.num,D AP nP cP,D AB nB cB,D AX nX cX],27)]):=⟨by rw[hw1];exact (aA.start w).push _ _ rfl⟩
 obtain⟨z0,z1,z2,z3⟩:=(HF.out.at_ 0 rfl).p4 rfl;go_enter func18,ntmps18
 go_upto_region 1 with (fail)
 rw[<-hw1];clear hw1;go_upto_region 5 with (fail)
 go_wp2_with fail;refine (pP s AP AB AX nP cP nB cB nX cX _ (p:=p) (HR0.out.1.ext (BQ.stab p) HF.out.xt) (HR0.out.2.1.ext (JY.stab p) HF.out.xt)).mono ?_;rintro e w2 ⟨rfl,hx2⟩;have HF2:=bx (HF.out.ext hx2);clear HF hx2 z0 z1 z2 z3;rcases Cj s with c3|c3;case inr =>
  have HE:=zZ (HC3.out.1 (by omega));rw[c3]at HE⊢;go_wp2_with fail;go_ret
  exact⟨ag HE.out.symm,HF2.out.xt⟩
 have HCR:=zZ (HC3.out.2 c3);rw[c3];clear HC3 c3;obtain⟨z0,z1,z2,z3⟩:=(HF2.out.at_ 0 rfl).p4 rfl;go_wp2_with fail;clear z0 z1 z2 z3;go_loopw [39] (fun s4 wr=>∃k:Nat,s4=B C k/\k<=nX/\Bx (aA w wr [(w.heap.size,#[B C s.num,D AP nP cP,D AB nB cB,D AX nX cX],27)]/\∀(j:Nat) x,j<k->s.xp[j]?=some x->ud s.pap.length x=true)) (fun k _=>nX-(intOf k).toNat)
 case atStart=>exact⟨0,rfl,by omega,⟨⟨HF2.out,fun j x hj=>by omega⟩⟩⟩
 case round =>
  clear HF2;obtain⟨i,rfl,hi,HR⟩:=hrel;obtain⟨z0,z1,z2,z3⟩:=(HR.out.1.at_ 0 rfl).p4 rfl;by_cases hin:i<nX
  ·obtain⟨bX,oX,_,_,rfl,-⟩:=HR0.out.2.2.at_ hin;obtain⟨xc,xe,xv,HX,x0,x1,x2⟩:=jh.read HR0.out.2.2 HR.out.1.xt.xt hin;have HXG:Bx (ud s.pap.length ⟨xc,xe,xv⟩=decide (0<=xc/\xc<=9999/\1<=xe/\xe<=99/\0<=xv/\xv<(nP:Int))):=⟨by unfold ud;rw[HLP.out]⟩
   have hx9:ab wr (wr.alloc (.cells #[B C xc,B C xe,B C xv] 90)):=(zE _).alloc _;have HF9:=bx (HR.out.1.ext hx9);have HA:Bx (∀(j:Nat) x,j<i->s.xp[j]?=some x->ud s.pap.length x=true):=⟨HR.out.2⟩
   obtain⟨y0,y1,y2,y3⟩:=(HF9.out.at_ 0 rfl).p4 rfl;clear HR hx9;by_cases hg:0<=xc/\xc<=9999/\1<=xe/\xe<=99/\0<=xv/\xv<(nP:Int)
   ·obtain⟨g1,g2,g3,g4,g5,g6⟩:=hg;have HT:=zZ (show ud s.pap.length ⟨xc,xe,xv⟩=true by rw[HXG.out];exact decide_eq_true ⟨g1,g2,g3,g4,g5,g6⟩);go_wp2_with fail;go_roundw
    case rel=>exact⟨i+1,by go_num,by omega,⟨⟨HF9.out,fun j y hj hy=>by rcases zU j i with h|h;exact HA.out j y h hy;obtain rfl:j=i:=(by omega);rw[HX.out]at hy;injection hy with hy;subst hy;exact HT.out⟩⟩⟩
    case measure=>simp[intOf];omega
   ·have HE:=zZ (show aC s=2 by
     rw[HCR.out,if_pos];exact wT.2 ⟨⟨xc,xe,xv⟩,zW HX.out,by rw[HXG.out,decide_eq_false hg];simp⟩)
    go_wp2_with fail;all_goals first
     |(exfalso;omega)
     |(go_ret;exact⟨ag HE.out.symm,HF9.out.xt⟩)
  ·obtain rfl:nX=i:=by omega
   have HXA:=zZ (show s.xp.all (ud s.pap.length)=true from xS.2 fun y hy=>by obtain⟨j,hj⟩:=zH hy;exact HR.out.2 j y (by have:=(zY.1 hj).1;have:=HLX.out;omega) hj)
   have HF2:Bx (aA w wr [(w.heap.size,#[B C s.num,D AP nP cP,D AB nB cB,D AX nX cX],27)]):=⟨HR.out.1⟩
   clear HR;go_wp2_with fail;clear z0 z1 z2 z3;go_loopw [6] (fun s6 wr=>∃k:Nat,s6=B C k/\1<=k/\(k<=nX\/k=1)/\Bx (aA w wr [(w.heap.size,#[B C s.num,D AP nP cP,D AB nB cB,D AX nX cX],27)]/\∀j,j+1<k->lW s.xp j=true)) (fun k _=>nX+1-(intOf k).toNat)
   case atStart=>exact⟨1,rfl,by omega,by omega,⟨⟨HF2.out,fun j hj=>by omega⟩⟩⟩
   case round =>
    clear HF2;obtain⟨m,rfl,hm0,hm1,HR⟩:=hrel;obtain⟨z0,z1,z2,z3⟩:=(HR.out.1.at_ 0 rfl).p4 rfl;by_cases hmn:m<nX
    ·obtain⟨bX,oX,_,_,rfl,-⟩:=HR0.out.2.2.at_ hmn;obtain⟨m',hm'⟩:∃m',m'+1=m:=⟨m-1,by omega⟩
     have hmn':m'<nX:=by omega
     obtain⟨xc,xe,xv,HX,x0,-⟩:=jh.read HR0.out.2.2 HR.out.1.xt.xt hmn';obtain⟨yc,ye,yv,HY,y0,-⟩:=jh.read HR0.out.2.2 HR.out.1.xt.xt hmn;have HAG:=zZ (show lW s.xp m'=decide (xc<yc) by unfold lW;rw[HX.out,show m'+1=m from hm',HY.out]);have hmm1:m'+1<=m:=by omega
     have hmm2:m<=m'+1:=by omega
     clear hm';have m1:IntKind.i64.wrap ((m:Int)-1)=(m':Int):=by rw[yN _ (by omega)];omega
     go_upto_region 17 with (fail)
     refine zQ 99 fun wd kS=>?_;refine zS 14 [(0,82),(1,83),(2,84),(3,85),(4,86),(5,87),(6,88),(7,89),(8,90),(9,91),(10,92),(11,93),(12,94),(13,95)] kS ?_;iterate 14 refine zT ?_ (y:=by intro wk hk;obtain⟨_,_,_⟩:=zkc3 hk z3 x0 y0;go_simp;try with_reducible rfl)
     refine zN (zD ?_);have HF3:=bx (HR.out.1.ext kS);have HA:Bx (∀j,j+1<m->lW s.xp j=true):=⟨HR.out.2⟩
     clear m1 kS z0 z1 z2 z3 HR;by_cases hxy:xc<yc
     ·have HT:=zZ (show lW s.xp m'=true by rw[HAG.out];exact decide_eq_true hxy);go_wp2_with fail;go_roundw
      case rel=>exact⟨m+1,by go_num,by omega,by omega,⟨⟨HF3.out,fun j hj=>by rcases zU (j+1) m with h|h;exact HA.out j h;obtain rfl:j=m':=(by omega);exact HT.out⟩⟩⟩
      case measure=>simp[intOf];omega
     ·have HE:=zZ (show aC s=5 by
       rw[HCR.out,if_neg (by rw[HXA.out];simp),if_pos];exact wT.2 ⟨m',yX.2 (by have:=HLX.out;omega),by rw[HAG.out,decide_eq_false hxy];simp⟩)
      go_wp2_with fail;go_ret
      exact⟨ag HE.out.symm,HF3.out.xt⟩
    ·have HE:=zZ (show aC s=0 by
      rw[HCR.out,if_neg (by rw[HXA.out];simp),if_neg];rw[hD fun j hj=>HR.out.2 j (by have:=HLX.out;omega)];simp)
     go_wp2_with fail;go_ret
     exact⟨ag HE.out.symm,HR.out.1.xt⟩
theorem Jg(v:Value)(xs:List fv)(c:Int)(w:World)(h:jh p w v xs)(hm:Ae xs (fun y=>bg y.cand c))(hn:xs.length<=1000000000) :
  Calls prog 112 #[v,B C c,.func (.func 113) #[] #[]] w fun e w'=>(∃(i:Nat) (b:Bool),e=.returned (.tuple #[B C (i:Int),.bool b])/\tF xs (fun y=>bg y.cand c) i b)/\ab w w':=by
 obtain⟨A,n,c0,rfl,hnc,hcc,hnn,HL⟩:=h.open_;have HV:Bx (jh p w (D A n c0) xs):=⟨h⟩
 have HM:Bx (Ae xs (fun y=>bg y.cand c)):=⟨hm⟩
 have hn3:n<=1000000000:=by have:=HL.out;omega
 clear h hm hn;have HF:Bx (aA w w []):=⟨aA.start w⟩
 go_enter func112,ntmps112
 go_wp2_with fail;go_loopw [9,10] (fun s9 s10 wr=>∃lo hi:Nat,s9=B C lo/\s10=B C hi/\lo<=hi/\hi<=n/\Bx (aA w wr []/\C9 xs (fun y=>bg y.cand c) lo hi)) (fun s9 s10 _=>(intOf s10).toNat-(intOf s9).toNat)
 case atStart=>exact⟨0,n,rfl,rfl,by omega,by omega,⟨⟨HF.out,by have:=C9.start xs (fun y=>bg y.cand c);rw[HL.out]at this;exact this⟩⟩⟩
 case round =>
  obtain⟨lo,hi,rfl,rfl,hlh,hhn,HR⟩:=hrel;have HFr:Bx (aA w wr []):=⟨HR.out.1⟩
  have HB:Bx (C9 xs (fun y=>bg y.cand c) lo hi):=⟨HR.out.2⟩
  clear HR HF;by_cases hlt:lo<hi
  ·obtain⟨m,hm⟩:=nm ((lo+hi)/2:Nat);have hm1:lo<=m:=by omega
   have hm2:m<hi:=by omega
   have hmn:m<n:=by omega
   have hdiv:((lo:Int)+(hi:Int))/2=(m:Int):=by omega
   clear hm;obtain⟨b,off,_,_,rfl,-⟩:=HV.out.at_ (show m<n by omega);obtain⟨cs,⟨xa,xb,xd⟩,-,hc0,⟨hcs,-⟩,HX⟩:=(HV.out.ext (lR.stab p) HFr.out.xt).cell_ (show m<n by omega);have x0:=hc0 0 (B C xa) (by rw[hcs];rfl);have x1:=hc0 1 (B C xb) (by rw[hcs];rfl);have x2:=hc0 2 (B C xd) (by rw[hcs];rfl);rw[yQ]at x0;clear hc0 hcs;go_upto_region 5 with (fail)
   clear hdiv;go_wp2_with (go_at_call 113;refine (AA xa xb xd c _).mono ?_;rintro e w3 ⟨rfl,hx3⟩;rcases bJ xa c with ⟨h1,e1⟩|⟨h1,e1⟩|⟨h1,e1⟩<;>rw[e1])
   ·have HFN:Bx (aA w w3 []):=⟨HFr.out.ext hx3⟩
    have HE:=zZ e1;have HB2:=zZ (HB.out.up HM.out hm2 HX.out (show bg xa c<0 by rw[HE.out];decide));clear e1 h1 HX HFr HB hx3 x0 x1 x2;go_wp2_with fail;go_roundw
    case rel=>exact⟨m+1,hi,by go_num,rfl,by omega,by omega,⟨⟨HFN.out,HB2.out⟩⟩⟩
    case measure=>simp[intOf];omega
   ·have HFN:Bx (aA w w3 []):=⟨HFr.out.ext hx3⟩
    have HE:=zZ e1;have HB2:=zZ (HB.out.down HM.out hm1 hm2 HX.out (show 0<=bg xa c by rw[HE.out];decide));clear e1 h1 HX HFr HB hx3 x0 x1 x2;go_wp2_with fail;go_roundw
    case rel=>exact⟨lo,m,rfl,rfl,by omega,by omega,⟨⟨HFN.out,HB2.out⟩⟩⟩
    case measure=>simp[intOf];omega
   ·have HFN:Bx (aA w w3 []):=⟨HFr.out.ext hx3⟩
    have HE:=zZ e1;have HB2:=zZ (HB.out.down HM.out hm1 hm2 HX.out (show 0<=bg xa c by rw[HE.out];decide));clear e1 h1 HX HFr HB hx3 x0 x1 x2;go_wp2_with fail;go_roundw
    case rel=>exact⟨lo,m,rfl,rfl,by omega,by omega,⟨⟨HFN.out,HB2.out⟩⟩⟩
    case measure=>simp[intOf];omega
  ·obtain rfl:lo=hi:=by omega
   by_cases hln:lo<n
   ·obtain⟨b,off,_,_,rfl,-⟩:=HV.out.at_ (show lo<n by omega);obtain⟨cs,⟨xa,xb,xd⟩,-,hc0,⟨hcs,-⟩,HX⟩:=(HV.out.ext (lR.stab p) HFr.out.xt).cell_ (show lo<n by omega);have x0:=hc0 0 (B C xa) (by rw[hcs];rfl);have x1:=hc0 1 (B C xb) (by rw[hcs];rfl);have x2:=hc0 2 (B C xd) (by rw[hcs];rfl);rw[yQ]at x0;clear hc0 hcs;go_wp2_with (go_at_call 113;refine (AA xa xb xd c _).mono ?_;rintro e w3 ⟨rfl,hx3⟩;rcases bJ xa c with ⟨h1,e1⟩|⟨h1,e1⟩|⟨h1,e1⟩<;>rw[e1])
    ·have HFN:Bx (aA w w3 []):=⟨HFr.out.ext hx3⟩
     have HE:=zZ e1;have HFD:=zZ (HB.out.miss HM.out fun y hy=>by rw[HX.out]at hy;injection hy with hy;subst hy;show bg xa c≠0;rw[HE.out];decide);go_wp2_with fail;refine bodyPost_ret (v:=.tuple #[B C (lo:Int),.bool false]) (by simp[results,results112,go_sem]) rfl ⟨⟨lo,false,rfl,HFD.out⟩,HFN.out.xt⟩
    ·have HFN:Bx (aA w w3 []):=⟨HFr.out.ext hx3⟩
     have HE:=zZ e1;have HFD:=zZ (HB.out.hit HX.out HE.out);go_wp2_with fail;refine bodyPost_ret (v:=.tuple #[B C (lo:Int),.bool true]) (by simp[results,results112,go_sem]) rfl ⟨⟨lo,true,rfl,HFD.out⟩,HFN.out.xt⟩
    ·have HFN:Bx (aA w w3 []):=⟨HFr.out.ext hx3⟩
     have HE:=zZ e1;have HFD:=zZ (HB.out.miss HM.out fun y hy=>by rw[HX.out]at hy;injection hy with hy;subst hy;show bg xa c≠0;rw[HE.out];decide);go_wp2_with fail;refine bodyPost_ret (v:=.tuple #[B C (lo:Int),.bool false]) (by simp[results,results112,go_sem]) rfl ⟨⟨lo,false,rfl,HFD.out⟩,HFN.out.xt⟩
   ·obtain rfl:lo=n:=by omega
    have HFD:=zZ (HB.out.miss HM.out fun y hy=>by have:=(zY.1 hy).1;have:=HL.out;omega);go_wp2_with fail;refine bodyPost_ret (v:=.tuple #[B C (lo:Int),.bool false]) (by simp[results,results112,go_sem]) rfl ⟨⟨lo,false,rfl,HFD.out⟩,HFr.out.xt⟩
theorem tK(x:Int)(w:World):Calls prog 116 #[B C x] w fun e w'=>e=.returned (.bool (!fE x))/\w=w':=by
 go_enter func116,ntmps116
 go_wp2
 all_goals (go_ret;exact⟨aa (by unfold fE;first|(simp;done)|(simp;omega)|(rw[yE];simp;done)|(rw[yE];simp;omega)),rfl⟩)
theorem wy(v:Value)(l:List Int)(w:World)(h:ak p w v l) :
  Calls prog 158 #[v,.func (.func 116) #[] #[]] w fun e w'=>e=.returned (B C (Cl (fun x=>!fE x) l))/\w=w':=by
 obtain⟨A,n,c,rfl,hnc,hc,hnn,HL⟩:=h.open_;have H:=zZ h;clear h;go_enter func158,ntmps158
 go_wp2
 go_loop [8] (fun i=>∃k:Nat,k<=n/\i=B C k/\Hid ((l.take k).all (fun x=>!!fE x)=true)) (fun i=>n-(intOf i).toNat)
 case atStart=>exact⟨0,xL _,rfl,by simp[Hid]⟩
 case round =>
  obtain⟨k,hk,rfl,HK⟩:=hrel;by_cases hlt:k<n
  ·obtain⟨b,off,x,rfl,hcx,HX,hx1,hx2⟩:=H.out.at_ hlt;cases hb:fE x
   ·have HB:=zZ hb;clear hb;go_wp2_with (go_at_call 116;refine (tK _ _).mono ?_;rintro e w' ⟨rfl,rfl⟩;rw[HB.out]);go_ret
    exact⟨ag (Im HX.out (by simp[HB.out]) HK.out),rfl⟩
   ·have HB:=zZ hb;clear hb;go_wp2_with (go_at_call 116;refine (tK _ _).mono ?_;rintro e w' ⟨rfl,rfl⟩;rw[HB.out]);go_round
    case rel=>exact⟨k+1,by omega,by go_num,by show (l.take (k+1)).all _=true;rw[Ak HX.out,HK.out];simp[HB.out]⟩
    case measure=>simp[intOf];omega
  ·go_wp2
   go_ret
   have:=HK.out;rw[bh (by have:=HL.out;omega)]at this;exact⟨ag (E5 this),rfl⟩
theorem pK(v:Value)(l:List Int)(w:World)(h:ak p w v l) :
  Calls prog 115 #[v,.func (.func 116) #[] #[]] w fun e w'=>e=.returned (.bool (l.any (fun x=>!fE x)))/\w=w':=by
 have H:=zZ h;clear h;go_enter func115,ntmps115
 go_wp2_with (go_at_call 158;refine (wy _ l _ H.out).mono ?_;rintro e w' ⟨rfl,rfl⟩);go_ret
 exact⟨aa (Hc _ _),rfl⟩
theorem Dy{s:dl}(h:dU s)(c:Int):Ae s.xp (fun y=>bg y.cand c):=by
 refine Jh h.asc_ (fun x y hxy hc=>?_) (fun x y hxy hc=>?_)
 ·unfold vr at hxy;simp only[decide_eq_true_eq]at hxy;rcases bJ y.cand c with ⟨a,e⟩|⟨a,e⟩|⟨a,e⟩<;>rcases bJ x.cand c with ⟨b,f⟩|⟨b,f⟩|⟨b,f⟩<;>(try simp only at hc⊢)<;>omega
 ·unfold vr at hxy;simp only[decide_eq_true_eq]at hxy;rcases bJ y.cand c with ⟨a,e⟩|⟨a,e⟩|⟨a,e⟩<;>rcases bJ x.cand c with ⟨b,f⟩|⟨b,f⟩|⟨b,f⟩<;>(try simp only at hc⊢)<;>omega
theorem IF{s:dl}(h:dU s){c:Int}{i:Nat}{b:Bool}(hf:tF s.xp (fun y=>bg y.cand c) i b):(b=true->∃x,s.xp[i]?=some x/\fo s.xp c=some x)/\(b=false->fo s.xp c=none):=by refine hf.find (Dy h c) fun x _=>?_;rcases bJ x.cand c with ⟨a,e⟩|⟨a,e⟩|⟨a,e⟩<;>(try simp only[decide_eq_true_eq])<;>omega
theorem qE(v vc:Value)(s:dl)(lp lc lg lv:Int)(ch:List Int)(w:World){q:Nat}(hp:p<w.heap.size)(hs:aR p w v s)(hc:ak q w vc ch)(hl:cJ.wf ⟨lp,lc,lg,lv⟩)(hok:dU s) :
  Calls prog 70 #[v,.agg #[B C lp,B C lc,B C lg,B C lv],vc] w fun e w'=>e=.returned (.bool (bH s ⟨lp,lc,lg,lv⟩ ch))/\ab w w':=by
 obtain⟨vP,vB,vX,rfl,hP,hB,hX,hnum⟩:=hs;obtain⟨AP,nP,cP,rfl,hnP,hcP,hmP,HLP⟩:=hP.open_;obtain⟨AB,nB,cB,rfl,hnB,hcB,hmB,HLB⟩:=hB.open_;obtain⟨AX,nX,cX,rfl,hnX,hcX,hmX,HLX⟩:=hX.open_;obtain⟨AC,nC,cC,rfl,hnC,hcC,hmC,HLC⟩:=hc.open_;have HR0:Bx (jg p w (D AP nP cP) s.pap/\l9 p w (D AB nB cB) s.bk/\jh p w (D AX nX cX) s.xp/\ak q w (D AC nC cC) ch):=⟨⟨hP,hB,hX,hc⟩⟩
 have HLG:Bx (aU lg):=⟨hl.2.2.1⟩
 have HOK:Bx (dU s):=⟨hok⟩
 have hx60:s.xp.length<=60:=hok.len.2.2;obtain⟨hl1,hl2⟩:=hl.2.2.1;clear hP hB hX hc hnum hl hok;obtain⟨w1,hw1⟩:=nm (((w.alloc (.cells #[B C s.num,D AP nP cP,D AB nB cB,D AX nX cX] 27)).alloc (.cells #[B C lp,B C lc,B C lg,B C lv] 45)):World);have HF:Bx (aA w w1 [(w.heap.size,#[B C s.num,D AP nP cP,D AB nB cB,D AX nX cX],27),(w.heap.size+1,#[B C lp,B C lc,B C lg,B C lv],45)]):=⟨by rw[hw1];exact ((aA.start w).push _ _ rfl).push _ _ (by simp)⟩
 obtain⟨z0,z1,z2,z3⟩:=(HF.out.at_ 0 rfl).p4 rfl;obtain⟨l0,l1,l2,l3⟩:=(HF.out.at_ 1 rfl).p4 rfl;go_enter func70,ntmps70
 go_upto_region 1 with (fail)
 rw[<-hw1];clear hw1;go_wp2_with fail;refine (Jg _ s.xp lc _ (HR0.out.2.2.1.ext (lR.stab p) HF.out.xt) (Dy HOK.out lc) (by omega)).mono ?_;rintro e w2 ⟨⟨i,b,rfl,hfd⟩,hx2⟩;have HFD:=zZ (IF HOK.out hfd);have HF2:=bx (HF.out.ext hx2);have hib:i<=nX:=by have:=hfd.1;have:=HLX.out;omega
 clear HF hx2 z0 z1 z2 z3 l0 l1 l2 l3 hfd;obtain⟨z0,z1,z2,z3⟩:=(HF2.out.at_ 0 rfl).p4 rfl;obtain⟨l0,l1,l2,l3⟩:=(HF2.out.at_ 1 rfl).p4 rfl;go_upto_region 2 with (fail)
 by_cases hpn:lp=s.num;case neg =>
  have HE:=zZ (show bH s ⟨lp,lc,lg,lv⟩ ch=false from sC hpn);have hcb:(lp != s.num)=true:=by simp[hpn]
  replace hpn:=zZ hpn;refine zQ 99 fun wd kS=>?_;refine zS 20 [(0,18),(1,19),(2,20),(3,21),(4,22),(5,23),(6,24),(7,25),(8,26),(9,27),(10,28),(11,29),(12,30),(13,31),(14,32),(15,33),(16,34),(17,35),(18,36),(19,37)] kS ?_;iterate 6 refine zT ?_ (y:=by intro wk hk;obtain⟨_,_⟩:=zkc2 hk z0 l0;go_simp;try with_reducible rfl)
  iterate 2 (apply zK;exact⟨rfl,rfl⟩;simp only[kA];exact rfl)
  iterate 2 refine zT ?_ (y:=by intro wk hk;obtain⟨_,_⟩:=zkc2 hk z0 l0;go_simp;try with_reducible rfl)
  iterate 9 (apply zK;exact⟨rfl,rfl⟩;simp only[kA];exact rfl)
  refine zT ?_ (y:=by intro wk hk;obtain⟨_,_⟩:=zkc2 hk z0 l0;go_simp;try with_reducible rfl);refine zN (zD ?_);go_wp2_with fail;go_ret
  exact⟨aa HE.out.symm,HF2.out.xt.trans kS⟩
 have hcb:(lp != s.num)=false:=by simp[hpn]
 have HPN:=zZ hpn;clear hpn;cases b with
 |false =>
  have HE:=zZ (show bH s ⟨lp,lc,lg,lv⟩ ch=false from qO (HFD.out.2 rfl));refine zQ 99 fun wd kS=>?_;refine zS 20 [(0,18),(1,19),(2,20),(3,21),(4,22),(5,23),(6,24),(7,25),(8,26),(9,27),(10,28),(11,29),(12,30),(13,31),(14,32),(15,33),(16,34),(17,35),(18,36),(19,37)] kS ?_;iterate 10 refine zT ?_ (y:=by intro wk hk;obtain⟨_,_⟩:=zkc2 hk z0 l0;go_simp;try with_reducible rfl)
  iterate 9 (apply zK;exact⟨rfl,rfl⟩;simp only[kA];exact rfl)
  refine zT ?_ (y:=by intro wk hk;obtain⟨_,_⟩:=zkc2 hk z0 l0;go_simp;try with_reducible rfl);refine zN (zD ?_);go_wp2_with fail;go_ret
  exact⟨aa HE.out.symm,HF2.out.xt.trans kS⟩
 |true =>
  obtain⟨⟨xc,xe,xv⟩,hxi,hfx⟩:=HFD.out.1 rfl;have hiX:i<nX:=by have:=(zY.1 hxi).1;have:=HLX.out;omega
  obtain⟨bX,oX,_,_,rfl,-⟩:=HR0.out.2.2.1.at_ hiX;obtain⟨yc,ye,yv,HY,x0,x1,x2⟩:=jh.read HR0.out.2.2.1 HF2.out.xt.xt hiX;obtain⟨rfl,rfl,rfl⟩:xc=yc/\xe=ye/\xv=yv:=by have:=HY.out;rw[hxi]at this;injection this with this;injection this with a b c;exact⟨a,b,c⟩
  have HX:=zZ hfx;have hxm:=(qR hfx).1;have hxb:=rL HOK.out hxm;simp only at hxb;obtain⟨xb1,xb2,xb3,xb4,xb5,xb6⟩:=hxb;obtain⟨pq,bk,hpq,hbk,-,-,-,-⟩:=rT HOK.out xb3 xb4;have hbks:=HOK.out.bks;obtain⟨r,rfl⟩:=zG xb3;rw[yC]at hpq hbk;have hrP:r<nP:=by have:=HLP.out;omega
  have hrB:r<nB:=by have:=HLB.out;omega
  clear hfx hxm HFD hxi HY x0 x1;by_cases hv:(r:Int)=lv;case neg =>
   have HE:=zZ (show bH s ⟨lp,lc,lg,lv⟩ ch=false from tG HX.out hv);have hvb:((r:Int)!=lv)=true:=by simp[hv]
   replace hv:=zZ hv;refine zQ 99 fun wd kS=>?_;refine zS 20 [(0,18),(1,19),(2,20),(3,21),(4,22),(5,23),(6,24),(7,25),(8,26),(9,27),(10,28),(11,29),(12,30),(13,31),(14,32),(15,33),(16,34),(17,35),(18,36),(19,37)] kS ?_;iterate 20 refine zT ?_ (y:=by intro wk hk;obtain⟨_,_,_,_,_⟩:=zkc5 hk z0 z3 l0 l3 x2;go_simp;try with_reducible rfl)
   refine zN (zD ?_);go_wp2_with fail;go_ret
   exact⟨aa HE.out.symm,HF2.out.xt.trans kS⟩
  subst hv;have hvb:((r:Int)!=(r:Int))=false:=by simp
  refine zQ 99 fun wd kS=>?_;refine zS 20 [(0,18),(1,19),(2,20),(3,21),(4,22),(5,23),(6,24),(7,25),(8,26),(9,27),(10,28),(11,29),(12,30),(13,31),(14,32),(15,33),(16,34),(17,35),(18,36),(19,37)] kS ?_;iterate 20 refine zT ?_ (y:=by intro wk hk;obtain⟨_,_,_,_,_⟩:=zkc5 hk z0 z3 l0 l3 x2;go_simp;try with_reducible rfl)
  refine zN (zD ?_);have HF3:=bx (HF2.out.ext kS);clear kS HF2 z0 z1 z2 z3 l0 l1 l2 l3 x2 hvb;obtain⟨bP,oP,_,_,rfl,-⟩:=HR0.out.1.at_ hrP;obtain⟨bB,oB,_,_,rfl,-⟩:=HR0.out.2.1.at_ hrB;obtain⟨Ab,nb,cb,b0,hIB,HNB⟩:=lJ HR0.out.2.1 hbk HF3.out.xt.xt;obtain⟨Aq,nq,cq,q0,q1,q2,hIQ,hq1,hq2⟩:=kn HR0.out.1 hpq HF3.out.xt.xt;obtain⟨pc,pv,pps⟩:=pq;simp only at q0 q1 q2 hIQ hq1 hq2;have HF0:=zZ (show bH s ⟨lp,lc,lg,(r:Int)⟩ ch=(decide (0<=lg/\lg<(bk.length:Int))&&(decide (ch.length=(dr pc pv pps bk lg).length)&&ch.all fE)) by rw[qH HX.out (by simp only[yC];exact hpq) (by simp only[yC];exact hbk),HPN.out,decide_eq_true rfl,decide_eq_true rfl,yK,yK])
  have HI:Bx (oa p wd (D Aq nq cq) pps/\oc p wd (D Ab nb cb) bk):=⟨⟨hIQ,hIB⟩⟩
  clear hpq hbk hbks hIQ hIB hq1 hq2;obtain⟨z0,z1,z2,z3⟩:=(HF3.out.at_ 0 rfl).p4 rfl;obtain⟨l0,l1,l2,l3⟩:=(HF3.out.at_ 1 rfl).p4 rfl;go_upto_region 5 with (fail)
  have hx4:ab wd (wd.alloc (.cells #[D Ab nb cb] 79)):=(zE _).alloc _;have HF4:Bx (aA w (wd.alloc (.cells #[D Ab nb cb] 79)) [(w.heap.size,#[B C s.num,D (some ⟨bP,oP,none⟩) nP cP,D (some ⟨bB,oB,none⟩) nB cB,D (some ⟨bX,oX,none⟩) nX cX],27),(w.heap.size+1,#[B C lp,B C lc,B C lg,B C (r:Int)],45),(wd.heap.size,#[D Ab nb cb],79)]):=⟨HF3.out.push _ _ rfl⟩
  have HI4:Bx (oa p (wd.alloc (.cells #[D Ab nb cb] 79)) (D Aq nq cq) pps/\oc p (wd.alloc (.cells #[D Ab nb cb] 79)) (D Ab nb cb) bk):=⟨HI.out.1.ext (bC.stab p) hx4,HI.out.2.ext (RI.stab p) hx4⟩
  replace q0:=hx4.cell q0;replace q1:=hx4.cell q1;replace q2:=hx4.cell q2;clear hx4 HI z0 z1 z2 z3 l0 l1 l2 l3 b0 HF3;obtain⟨w4,hw4⟩:=nm ((wd.alloc (.cells #[D Ab nb cb] 79)):World);rw[<-hw4]at HF4 HI4 q0 q1 q2;rw[<-hw4];clear hw4;obtain⟨gb,hgb⟩:=nm wd.heap.size;rw[<-hgb]at HF4;rw[<-hgb];clear hgb;obtain⟨z0,z1,z2,z3⟩:=(HF4.out.at_ 0 rfl).p4 rfl;obtain⟨l0,l1,l2,l3⟩:=(HF4.out.at_ 1 rfl).p4 rfl;have b0:=(HF4.out.at_ 2 rfl).c 0 rfl;by_cases hg0:0<=lg/\lg<(nb:Int)
  case neg =>
   have HE:=zZ (show bH s ⟨lp,lc,lg,(r:Int)⟩ ch=false by rw[HF0.out,decide_eq_false (by have:=HNB.out;omega)];rfl);go_wp2_with fail;all_goals first
    |(exfalso;omega)
    |(go_ret;exact⟨aa HE.out.symm,HF4.out.xt⟩)
  obtain⟨hg1,hgn⟩:=hg0;have HF1:=zZ (show bH s ⟨lp,lc,lg,(r:Int)⟩ ch=(decide (ch.length=(dr pc pv pps bk lg).length)&&ch.all fE) by rw[HF0.out,decide_eq_true (by have:=HNB.out;omega),yK]);have hgd:decide (lg<0)=false:=decide_eq_false (by omega);have hge:decide ((nb:Int)<=lg)=false:=decide_eq_false (by omega);go_upto_region 7 with (fail)
  refine zQ 99 fun we kS=>?_;refine zS 11 [(0,55),(1,56),(2,57),(3,58),(4,59),(5,60),(6,61),(7,62),(8,63),(9,64),(10,65)] kS ?_;iterate 11 refine zT ?_ (y:=by intro wk hk;obtain⟨_,_,_,_,_,_,_⟩:=zkc7 hk z1 l2 l3 q0 q1 q2 b0;go_simp;try with_reducible rfl)
  refine zN (zO 11 (fun K hK=>?_));go_simp;refine (Db pc pv lg _ _ pps bk _ (p:=p) (zB hp (HF4.out.xt.trans kS).size) (HI4.out.1.ext (bC.stab p) kS) (HI4.out.2.ext (RI.stab p) kS) HLG.out).mono ?_;rintro e w6 ⟨v6,rfl,hI6,hx6⟩;have kS2:ab w4 w6:=kS.trans hx6;obtain⟨A6,n6,c6,rfl,-,-,hn6,HL6⟩:=hI6.open_;clear hI6;refine hK.out _ _ (fun _=>kS2) ?_;clear hK K;try simp only[kA]
  refine zS 1 [(12,67)] kS2 ?_;refine zT ?_ (y:=by intro wk hk;obtain⟨_,_,_,_,_,_,_⟩:=zkc7 hk z1 l2 l3 q0 q1 q2 b0;go_simp;try with_reducible rfl);refine zN ?_;by_cases hln:nC=n6
  ·have HE:=zZ (show bH s ⟨lp,lc,lg,(r:Int)⟩ ch=ch.all fE by rw[HF1.out,decide_eq_true (by have:=HLC.out;have:=HL6.out;omega),yK]);subst hln;have hnb:((nC:Int)!=(nC:Int))=false:=by simp
   refine zS 1 [(13,68)] kS2 ?_;refine zT ?_ (y:=by intro wk hk;obtain⟨_,_,_,_,_,_,_⟩:=zkc7 hk z1 l2 l3 q0 q1 q2 b0;go_simp;try with_reducible rfl);refine zN (zD ?_);go_wp2_with fail;refine (pK _ ch _ (HR0.out.2.2.2.ext (HF4.out.xt.trans kS2))).mono ?_;rintro e w7 ⟨rfl,rfl⟩;go_wp2_with fail;go_ret
   exact⟨aa (by rw[HE.out];exact IG fE ch),HF4.out.xt.trans kS2⟩
  ·have HE:=zZ (show bH s ⟨lp,lc,lg,(r:Int)⟩ ch=false by rw[HF1.out,decide_eq_false (by have:=HLC.out;have:=HL6.out;omega)];rfl);have hne:((nC:Int)!=(n6:Int))=true:=by simp;omega
   refine zS 1 [(13,68)] kS2 ?_;refine zT ?_ (y:=by intro wk hk;obtain⟨_,_,_,_,_,_,_⟩:=zkc7 hk z1 l2 l3 q0 q1 q2 b0;go_simp;try with_reducible rfl);refine zN (zD ?_);go_wp2_with fail;go_ret
   exact⟨aa HE.out.symm,HF4.out.xt.trans kS2⟩
end Go.Proofs.YtkaajgoeahahpaaGreatDoor

