import Derived.Test.YtkaajgoeahahpaaGreatDoorH4
import Derived.Test.YtkaajgoeahahpaaGreatDoorH1
import Derived.Deep.OwnRows
import Derived.Laws.EntriesVeiled
set_option linter.all false
set_option maxRecDepth 100000
set_option maxHeartbeats 0
namespace Go.Proofs.YtkaajgoeahahpaaGreatDoor
open Go.Value renaming int→C,slice→H
open Go.IntKind renaming i64→G
open Go.RowKit _root_.Go.Proofs.Tryz
variable {w:World} {base cap e j k n p q size wd:Nat} {v:Value} {xs:List Value}
def ra(M:Nat->Nat->F)(u:Nat):Bool:=(List.range 6).all fun r=>decide (r<u)||(M r u==0)
theorem lq(M:Nat->Nat->F)(u:Nat):ra M u=true↔∀r,u<=r->r<6->M r u=0:=by
 unfold ra;simp only[xS,yX,Bool.or_eq_true,decide_eq_true_eq,beq_iff_eq];constructor
 ·intro h r h1 h2;rcases h r h2 with h3|h3
  ·omega
  ·exact h3
 ·intro h r hr;rcases zU r u with h1|h1
  ·exact .inl h1
  ·exact .inr (h r h1 hr)
theorem FJ(base g cap u:Nat)(M:Nat->Nat->F)(w:World)(hT:cK w)(hM:dQ base g 22 3 w M (u+1))(hu:u<=6)(hcap:6<=cap/\cap<=9223372036854775807)(hb2:2<=base)(ind:∀X,F.Sol M X (u+1)->X u=0->∀c,c<u->X c=0) :
  Calls prog 195 #[H (some ⟨g,0,none⟩) 6 cap,C G (u:Int)] w fun e w'=>∃M',e=.returned (.bool (ra M' u)) /\
   dQ base g 22 3 w' M' (u+1)/\F.Unit6 M' u/\(∀X,F.Sol M' X (u+1)↔F.Sol M X (u+1))/\Below base w w':=by
 have HT:=zZ hT;have HM:=zZ hM;have HI:=zZ ind;obtain⟨hcap1,hcap2⟩:=hcap;clear hT hM ind;have HTB:Hid (∀w',Below base w w'->cK w'):=fun w' h=>⟨fun k hk=>(h.cell (by simp only;omega)).trans (HT.out.1 k hk),fun k hk=>(h.cell (by simp only;omega)).trans (HT.out.2 k hk)⟩
 clear HT;go_enter func195,ntmps195
 go_wp2_with fail;go_loopw [14] (fun s14 wr=>∃(k:Nat),s14=C G k/\k<=u/\Hid (∃N,dQ base g 22 3 wr N (u+1)/\F.Unit6 N k/\(∀X,F.Sol N X (u+1)↔F.Sol M X (u+1))/\Below base w wr)) (fun i _=>u-(intOf i).toNat)
 case atStart=>exact⟨0,rfl,by omega,M,HM.out,fun r c _ hc=>by omega,fun X=>Iff.rfl,Below.refl _ _⟩
 case round =>
  clear HM;obtain⟨k,rfl,hk,HK⟩:=hrel;obtain⟨N,m1,m2,m3,m4⟩:=HK.out;have H1:=zZ m1;have H2:=zZ m2;have H3:=zZ m3;have H4:=zZ m4;clear m1 m2 m3 m4 HK;by_cases hku:k<u
  ·have hd:decide ((k:Int)<(u:Int))=true:=by simp;omega
   obtain⟨wo,rfl⟩:=nm (wr:World);have HP:Hid (∃p,k<=p/\p<6/\N p k≠0):=F.pivot_ex hku hu H2.out (fun X hX h0=>HI.out X ((H3.out X).1 hX) h0);go_wp2_with fail;go_loopw [6] (fun s6 wr=>∃(p:Nat),s6=C G p/\k<=p/\p<6/\Hid (∀q,k<=q->q<p->N q k=0)/\wr=wo) (fun i _=>6-(intOf i).toNat)
   case atStart=>exact⟨k,rfl,by omega,by omega,fun q h1 h2=>by omega,rfl⟩
   case round =>
    obtain⟨p,rfl,hkp,hp6,HQ,rfl⟩:=hrel;obtain⟨b,cu,hc0,hcu1,hcu2,-,-,hce,hfr,hput⟩:=H1.out.at_ hp6;have c1:=hce k (by omega);have HPUT:=zZ hput;clear hput hce hfr;have hd2:decide ((p:Int)<6)=true:=by simp;omega
    by_cases hz:N p k=0
    ·have hz':(((N p k).n:Int)==0)=true:=by rw[hz];rfl
     have HZ:=zZ hz;clear hz;go_wp2_with fail;go_roundw
     case rel =>
      obtain⟨p',a1,a2,a3⟩:=HP.out;have hnew:∀q,k<=q->q<p+1->N q k=0:=fun q h1 h2=>by
       by_cases e:q=p
       ·subst e;exact HZ.out
       ·exact HQ.out q h1 (by omega)
      have:p+1<=p':=by
       rcases zU p' (p+1) with hlt|hge
       ·exact absurd (hnew p' a1 hlt) a3
       ·exact hge
      exact⟨p+1,by go_num,by omega,by omega,hnew,trivial⟩
     case measure=>simp[intOf];omega
    ·have hz':(((N p k).n:Int)==0)=false:=by rw[lk];simp[hz]
     have HZ:=zZ hz;clear hz;go_upto_region 9 with (fail)
     obtain⟨bk,ck,bp,cp,s1,s2,s3,s4,hsw⟩:=H1.out.swap (k:=k) (p:=p) (by omega) hp6;have HSW:=zZ hsw;have HC1:=zZ c1;clear hsw hc0 c1 HPUT;have hS:wr.drew.cell? ⟨g,k,none⟩=some (H (some ⟨bk,0,none⟩) (u+1) ck)/\wr.drew.cell? ⟨g,p,none⟩=some (H (some ⟨bp,0,none⟩) (u+1) cp):=⟨s1,s2⟩
     replace hS:=zZ hS;have e1:(0:Int)<=(k:Int):=xT _;have e2:(k:Int)<6:=by omega
     have e3:(0:Int)<=(p:Int):=xT _;have e4:(p:Int)<6:=by omega
     refine Bn 13 (fun w'=>w'.cell? ⟨g,k,none⟩=some (H (some ⟨bk,0,none⟩) (u+1) ck)/\w'.cell? ⟨g,p,none⟩=some (H (some ⟨bp,0,none⟩) (u+1) cp)) (by kernel_rfl) ?_;refine bD 0 (some 38) (v:=?kv1) rfl rfl (by kernel_rfl) (by kernel_rfl) (by kernel_rfl) (by decide) (fun _ _ _ h=>h) (by rfl) ?ky1 (fun _=>hS.out) ?kr1;case ky1=>(intro wk;go_simp;try with_reducible rfl)
     try simp only[kA]
     refine bD 1 (some 39) (v:=?kv2) rfl rfl (by kernel_rfl) (by kernel_rfl) (by kernel_rfl) (by decide) (fun _ _ _ h=>h) (by rfl) ?ky2 (fun _=>hS.out) ?kr2;case ky2=>(intro wk;go_simp;try with_reducible rfl)
     try simp only[kA]
     refine bD 2 (some 40) (v:=?kv3) rfl rfl (by kernel_rfl) (by kernel_rfl) (by kernel_rfl) (by decide) (fun _ _ _ h=>h) (by rfl) ?ky3 (fun _=>hS.out) ?kr3;case ky3=>(intro wk;go_simp;try with_reducible rfl)
     try simp only[kA]
     refine bD 3 (some 41) (v:=?kv4) rfl rfl (by kernel_rfl) (by kernel_rfl) (by kernel_rfl) (by decide) (fun _ _ _ h=>h) (by rfl) ?ky4 (fun _=>hS.out) ?kr4;case ky4=>(intro wk;go_simp;try with_reducible rfl)
     try simp only[kA]
     refine bD 4 (some 42) (v:=?kv5) rfl rfl (by kernel_rfl) (by kernel_rfl) (by kernel_rfl) (by decide) (fun _ _ _ h=>h) (by rfl) ?ky5 (fun _=>hS.out) ?kr5;case ky5=>(intro wk;go_simp;try with_reducible rfl)
     try simp only[kA]
     refine bD 5 (some 43) (v:=?kv6) rfl rfl (by kernel_rfl) (by kernel_rfl) (by kernel_rfl) (by decide) (fun _ _ _ h=>h) (by rfl) ?ky6 (fun _=>hS.out) ?kr6;case ky6=>(intro wk;go_simp;try with_reducible rfl)
     try simp only[kA]
     refine bD 6 (some 44) (v:=?kv7) rfl rfl (by kernel_rfl) (by kernel_rfl) (by kernel_rfl) (by decide) (fun _ _ _ h=>h) (by rfl) ?ky7 (fun _=>hS.out) ?kr7;case ky7=>(intro wk;go_simp;try with_reducible rfl)
     try simp only[kA]
     refine pz 7 (some 45) (v:=?kv8) rfl rfl (by kernel_rfl) (by kernel_rfl) (by kernel_rfl) (by decide) (by kernel_rfl) (by kernel_rfl) (fun _ _ _ h=>h) (by rfl) ?ky8 hS.out ?kr8;case ky8=>((intro wk hk);(try dsimp only at hk);go_simp;try with_reducible rfl)
     try simp only[kA]
     refine bD 8 (some 46) (v:=?kv9) rfl rfl (by kernel_rfl) (by kernel_rfl) (by kernel_rfl) (by decide) (fun _ _ _ h=>h) (by rfl) ?ky9 (fun _=>hS.out) ?kr9;case ky9=>(intro wk;go_simp;try with_reducible rfl)
     try simp only[kA]
     refine bD 9 (some 47) (v:=?kv10) rfl rfl (by kernel_rfl) (by kernel_rfl) (by kernel_rfl) (by decide) (fun _ _ _ h=>h) (by rfl) ?ky10 (fun _=>hS.out) ?kr10;case ky10=>(intro wk;go_simp;try with_reducible rfl)
     try simp only[kA]
     refine bD 10 (some 48) (v:=?kv11) rfl rfl (by kernel_rfl) (by kernel_rfl) (by kernel_rfl) (by decide) (fun _ _ _ h=>h) (by rfl) ?ky11 (fun _=>hS.out) ?kr11;case ky11=>(intro wk;go_simp;try with_reducible rfl)
     try simp only[kA]
     refine pz 11 (some 49) (v:=?kv12) rfl rfl (by kernel_rfl) (by kernel_rfl) (by kernel_rfl) (by decide) (by kernel_rfl) (by kernel_rfl) (fun _ _ _ h=>h) (by rfl) ?ky12 hS.out ?kr12;case ky12=>((intro wk hk);(try dsimp only at hk);go_simp;try with_reducible rfl)
     try simp only[kA]
     refine bD 12 (some 50) (v:=?kv13) rfl rfl (by kernel_rfl) (by kernel_rfl) (by kernel_rfl) (by decide) (fun _ _ _ h=>h) (by rfl) ?ky13 (fun _=>hS.out) ?kr13;case ky13=>(intro wk;go_simp;try with_reducible rfl)
     try simp only[kA]
     refine qQ 13 (by kernel_rfl) rfl (fun K hK=>?_);go_simp;have s5:(wr.setCell ⟨g,k,none⟩ (H (some ⟨bp,0,none⟩) (u+1) cp)).cell? ⟨g,p,none⟩=some (H (some ⟨bp,0,none⟩) (u+1) cp):=by
      by_cases e:p=k
      ·subst e;exact World.cell?_setCell_same _ _ _ s2
      ·rw[World.cell?_setCell_other _ _ _ _ (fun h=>e (by injection h with _ h2;exact h2.symm))];exact s2
     refine hK.out _ _ (fh (by kernel_rfl)) ?_;clear hK K;try simp only[kA]
     refine bD 14 (some 51) (v:=?kv14) rfl rfl (by kernel_rfl) (by kernel_rfl) (by kernel_rfl) (by decide) (fun _ _ _ h=>h) (by rfl) ?ky14 (fh (by kernel_rfl)) ?kr14;case ky14=>(intro wk;go_simp;try with_reducible rfl)
     try simp only[kA]
     refine qQ 15 (by kernel_rfl) rfl (fun K hK=>?_);go_simp;refine hK.out _ _ (fh (by kernel_rfl)) ?_;clear hK K;try simp only[kA]
     refine AD (by kernel_rfl) ?_ _;have hM1:=HSW.out wr (zE _);have HM1:=zZ (hM1.1.ext (zE _).drew);have HB1:=zZ ((xD H4.out hM1.2).drew);clear hM1 HSW hS s1 s2 s3 s4 s5;generalize ((wr.setCell ⟨g,k,none⟩ (H (some ⟨bp,0,none⟩) (u+1) cp)).setCell ⟨g,p,none⟩ (H (some ⟨bk,0,none⟩) (u+1) ck)).drew=W1 at *
     have HNK:Hid (F.swapM N k p k k=N p k):=by show _=_;unfold F.swapM;rw[if_pos rfl]
     generalize hM1:F.swapM N k p=M1 at *
     have HM1d:=zZ hM1;clear hM1 HC1 H1 H4;obtain⟨b1,cu1,h10,h11,h12,-,-,h13,-,-⟩:=HM1.out.at_ (r:=k) (by omega);have h14:=h13 k (by omega);rw[HNK.out]at h14;clear h13;generalize hpv:N p k=pv at *
     have HPV:=zZ hpv;clear hpv;go_upto_region 12 with (go_at_call 216;refine (EF pv _ (HTB.out _ HB1.out)).mono ?_;rintro e x1 ⟨rfl,hx1⟩;replace hx1:=hx1.symm;subst hx1)
     clear h10 h14;go_wp2_with fail;go_loopw [65] (fun s65 wr=>∃(c:Nat),s65=C G c/\c<=u+1/\Hid (dQ base g 22 3 wr (F.scaleTo M1 k pv.inv c) (u+1)/\Below base w wr)) (fun i _=>u+1-(intOf i).toNat)
     case atStart=>exact⟨0,rfl,by omega,by rw[F.scaleTo_zero];exact HM1.out,HB1.out⟩
     case round =>
      clear HM1 HB1;obtain⟨c,rfl,hc,HC⟩:=hrel;by_cases hcu:c<u+1
      ·obtain⟨b2,cu2,a0,a1,a2,-,-,a3,a4,a5⟩:=HC.out.1.at_ (r:=k) (by omega);have a6:=a3 c (by omega);have a7:=a4 c;have HPUT:=zZ a5;clear a3 a4 a5;have hv:F.scaleTo M1 k pv.inv c k c=M1 k c:=by unfold F.scaleTo;rw[if_neg (by omega)]
       rw[hv]at a6;clear hv;have HTr:=zZ (HTB.out _ HC.out.2);have hS:wr.drew.cell? ⟨g,k,none⟩=some (H (some ⟨b2,0,none⟩) (u+1) cu2)/\wr.drew.cell? ⟨b2,c,none⟩=some (C G ((M1 k c).n:Int)):=⟨a0,a6⟩
       replace hS:=zZ hS;have f1:(0:Int)<=(c:Int):=xT _;have f2:(c:Int)<(u:Int)+1:=by omega
       go_upto_region 14 with (fail)
       refine zR 15 (fun w'=>w'.cell? ⟨g,k,none⟩=some (H (some ⟨b2,0,none⟩) (u+1) cu2)/\w'.cell? ⟨b2,c,none⟩=some (C G ((M1 k c).n:Int))) ?_;refine zS 13 [(0,68),(1,69),(2,70),(3,71),(4,72),(5,73),(6,74),(7,75),(8,76),(9,77),(10,78),(11,79),(12,80)] hS.out ?_;iterate 13 refine zT ?_
       refine zN (zO 13 (fun K hK=>?_));go_simp;refine (AM (M1 k c) pv.inv _ (HTr.out.ext (zE _).drew)).mono ?_;rintro e x1 ⟨rfl,m2,hx1⟩;have HX1:Hid (ab wr x1):=by rw[hx1];exact (zE wr).drew.drewN m2
       clear hx1;replace a0:=HX1.out.cell a0;replace a6:=HX1.out.cell a6;replace hS:=zZ (yJ a0 a6);have hfz:=(HC.out.1.ext HX1.out).frozAt (r:=k) (by omega) a0 c;refine hK.out _ _ (fun _=>hS.out) ?_;clear hK K;try simp only[kA]
       refine zS 1 [(14,82)] hS.out ?_;refine zT ?_;refine zN (zO 15 (fun K hK=>?_));go_simp;refine hK.out _ _ (fun h=>absurd rfl h) ?_;clear hK K;refine zD ?_;have hP:=HPUT.out x1 c (M1 k c*pv.inv) HX1.out;rw[F.scaleTo_succ]at hP;have HP1:=zZ hP.1;have HP2:=zZ (xD HC.out.2 hP.2);clear hP HPUT hS a0 a6 a7 hfz;go_wp2_with fail;go_roundw
       case rel=>exact⟨c+1,by go_num,by omega,HP1.out,HP2.out⟩
       case measure=>simp[intOf];omega
      ·have hce:c=u+1:=by omega
       rw[hce]at HC;have HM2:Hid (dQ base g 22 3 wr (F.scaleM M1 k pv.inv) (u+1)):=HC.out.1.congr fun r c _ hc=>by
        unfold F.scaleTo F.scaleM;by_cases e:r=k
        ·rw[if_pos ⟨e,hc⟩,if_pos e]
        ·rw[if_neg (fun h=>e h.1),if_neg e]
       have HB2:=zZ HC.out.2;clear HC hce;have HSTEP:Hid (F.redM (F.scaleM M1 k pv.inv) k=F.stepM N k p):=by show _=_;rw[<-HM1d.out,<-HPV.out];rfl
       generalize F.scaleM M1 k pv.inv=M2 at *
       clear HM1d HNK;go_upto_region 17 with (fail)
       go_wp2_with fail;go_loopw [86] (fun s86 wr=>∃(r:Nat),s86=C G r/\r<=6/\Hid (dQ base g 22 3 wr (F.redTo M2 k r 0) (u+1)/\Below base w wr)) (fun i _=>6-(intOf i).toNat)
       case atStart=>exact⟨0,rfl,by omega,by rw[F.redTo_zero];exact HM2.out,HB2.out⟩
       case round =>
        clear HM2 HB2;obtain⟨r,rfl,hr,HR⟩:=hrel;by_cases hr6:r<6
        ·obtain⟨b2,cu2,a0,a1,a2,-,-,a3,a4,-⟩:=HR.out.1.at_ (r:=r) hr6;have a6:=a3 k (by omega);have hv:F.redTo M2 k r 0 r k=M2 r k:=by unfold F.redTo;rw[if_neg (by omega)]
         rw[hv]at a6;clear a3 a4 hv;have hd3:decide ((r:Int)<6)=true:=by simp;omega
         by_cases hrk:r=k
         ·have HRK:=zZ hrk;have q1:((r:Int)==(k:Int))=true:=by simp[hrk]
          clear hrk;go_wp2_with fail;go_roundw
          case rel =>
           refine⟨r+1,by go_num,by omega,HR.out.1.congr fun r' c' h1 h2=>?_,HR.out.2⟩;unfold F.redTo;have:=HRK.out;by_cases e:r'≠k/\(r'<r\/r'=r/\c'<0)
           ·rw[if_pos e,if_pos ⟨e.1,by omega⟩]
           ·rw[if_neg e,if_neg (fun h=>e ⟨h.1,by omega⟩)]
          case measure=>simp[intOf];omega
         have q1:((r:Int)==(k:Int))=false:=by simp;omega
         have HRK:=zZ hrk;clear hrk;by_cases hf:M2 r k=0
         ·have q2:(((M2 r k).n:Int)==0)=true:=by rw[hf];rfl
          have HF:=zZ hf;clear hf;go_wp2_with fail;go_roundw
          case rel =>
           refine⟨r+1,by go_num,by omega,HR.out.1.congr fun r' c' h1 h2=>?_,HR.out.2⟩;unfold F.redTo;by_cases e0:r'=r
           ·subst e0;rw[if_neg (by omega),HF.out,F.zero_mul,F.add_zero];split<;>rfl
           ·by_cases e:r'≠k/\(r'<r\/r'=r/\c'<0)
            ·rw[if_pos e,if_pos ⟨e.1,by omega⟩]
            ·rw[if_neg e,if_neg (fun h=>e ⟨h.1,by omega⟩)]
          case measure=>simp[intOf];omega
         have q2:(((M2 r k).n:Int)==0)=false:=by rw[lk];simp[hf]
         clear hf;obtain⟨wo,rfl⟩:=nm (wr:World);go_upto_region 22 with (fail)
         clear a0 a1 a2 a6 q1 q2;go_wp2_with fail;go_loopw [108] (fun s108 wr=>∃(c:Nat),s108=C G c/\c<=u+1/\Hid (dQ base g 22 3 wr (F.redTo M2 k r c) (u+1)/\Below base w wr)) (fun i _=>u+1-(intOf i).toNat)
         case atStart=>exact⟨0,rfl,by omega,HR.out.1,HR.out.2⟩
         case round =>
          clear HR;obtain⟨c,rfl,hc,HC⟩:=hrel;by_cases hcu:c<u+1
          ·obtain⟨b2,cu2,a0,a1,a2,-,-,a3,a4,a5⟩:=HC.out.1.at_ (r:=r) hr6;obtain⟨b3,cu3,d0,d1,d2,-,-,d3,-,-⟩:=HC.out.1.at_ (r:=k) (by omega);have a6:=a3 c (by omega);have d6:=d3 c (by omega);have HPUT:=zZ a5;have hv:F.redTo M2 k r c r c=M2 r c:=by unfold F.redTo;rw[if_neg (by omega)]
           have hv2:F.redTo M2 k r c k c=M2 k c:=by unfold F.redTo;rw[if_neg (by omega)]
           rw[hv]at a6;rw[hv2]at d6;clear a3 a4 a5 d3 hv hv2;have HTr:=zZ (HTB.out _ HC.out.2);have hS:wr.drew.cell? ⟨g,r,none⟩=some (H (some ⟨b2,0,none⟩) (u+1) cu2)/\wr.drew.cell? ⟨b2,c,none⟩=some (C G ((M2 r c).n:Int))/\wr.drew.cell? ⟨g,k,none⟩=some (H (some ⟨b3,0,none⟩) (u+1) cu3)/\wr.drew.cell? ⟨b3,c,none⟩=some (C G ((M2 k c).n:Int)):=⟨a0,a6,d0,d6⟩
           replace hS:=zZ hS;have f1:(0:Int)<=(c:Int):=xT _;have f2:(c:Int)<(u:Int)+1:=by omega
           have f3:(0:Int)<=(r:Int):=xT _;have f4:(r:Int)<6:=by omega
           go_upto_region 24 with (fail)
           refine zR 18 (fun w'=>w'.cell? ⟨g,r,none⟩=some (H (some ⟨b2,0,none⟩) (u+1) cu2)/\w'.cell? ⟨b2,c,none⟩=some (C G ((M2 r c).n:Int))/\w'.cell? ⟨g,k,none⟩=some (H (some ⟨b3,0,none⟩) (u+1) cu3)/\w'.cell? ⟨b3,c,none⟩=some (C G ((M2 k c).n:Int))) ?_;refine zS 15 [(0,111),(1,112),(2,113),(3,114),(4,115),(5,116),(6,117),(7,118),(8,119),(9,120),(10,121),(11,122),(12,123),(13,124),(14,125)] hS.out ?_;iterate 15 refine zT ?_
           refine zN (zO 15 (fun K hK=>?_));go_simp;refine (AM (M2 r k) (M2 k c) _ (HTr.out.ext (zE _).drew)).mono ?_;rintro e x1 ⟨rfl,m2,hx1⟩;have HX1:Hid (ab wr x1):=by rw[hx1];exact (zE wr).drew.drewN m2
           clear hx1;replace a0:=HX1.out.cell a0;replace a6:=HX1.out.cell a6;replace d0:=HX1.out.cell d0;replace d6:=HX1.out.cell d6;replace hS:=zZ (yJ a0 (yJ a6 (yJ d0 d6)));have hfz:=(HC.out.1.ext HX1.out).frozAt (r:=r) hr6 a0 c;refine hK.out _ _ (fun _=>hS.out) ?_;clear hK K;try simp only[kA]
           refine zS 2 [(16,127),(17,128)] hS.out ?_;iterate 2 refine zT ?_
           refine zN (zO 18 (fun K hK=>?_));go_simp;refine hK.out _ _ (fun h=>absurd rfl h) ?_;clear hK K;refine zD ?_;rw[pD];have hP:=HPUT.out x1 c (M2 r c+M2 r k*M2 k c) HX1.out;rw[F.redTo_succ _ _ _ _ HRK.out]at hP;have HP1:=zZ hP.1;have HP2:=zZ (xD HC.out.2 hP.2);clear hP HPUT hS a0 a6 d0 d6 hfz;go_wp2_with fail;go_roundw
           case rel=>exact⟨c+1,by go_num,by omega,HP1.out,HP2.out⟩
           case measure=>simp[intOf];omega
          ·obtain rfl:c=u+1:=by omega
           go_wp2_with fail;go_roundw
           case rel =>
            refine⟨r+1,by go_num,by omega,HC.out.1.congr fun r' c' h1 h2=>?_,HC.out.2⟩;unfold F.redTo;by_cases e:r'≠k/\(r'<r\/r'=r/\c'<u+1)
            ·rw[if_pos e,if_pos ⟨e.1,by omega⟩]
            ·rw[if_neg e,if_neg (fun h=>e ⟨h.1,by omega⟩)]
           case measure=>simp[intOf];omega
        ·obtain rfl:r=6:=by omega
         go_wp2_with fail;go_roundw
         case rel =>
          refine⟨k+1,by go_num,by omega,F.stepM N k p,?_,F.unit_step H2.out (by omega) hp6 hkp (by rw[HPV.out];exact HZ.out),fun X=>(F.sol_step (by omega) hp6 (by rw[HPV.out];exact HZ.out)).trans (H3.out X),HR.out.2⟩;rw[<-HSTEP.out];refine HR.out.1.congr fun r' c' h1 _=>?_;unfold F.redTo F.redM;by_cases e:r'=k
          ·rw[if_neg (fun h=>h.1 e),if_pos e]
          ·rw[if_pos ⟨e,.inl h1⟩,if_neg e]
         case measure=>simp[intOf];omega
  ·obtain rfl:k=u:=by omega
   go_wp2_with fail;go_loopw [12] (fun s12 wr'=>∃(r:Nat),s12=C G r/\k<=r/\r<=6/\Hid (∀q,k<=q->q<r->N q k=0)/\wr'=wr) (fun i _=>6-(intOf i).toNat)
   case atStart=>exact⟨k,rfl,by omega,by omega,fun q h1 h2=>by omega,rfl⟩
   case round =>
    obtain⟨r,rfl,hkr,hr6,HR,rfl⟩:=hrel;by_cases hr:r<6
    ·obtain⟨b2,cu2,a0,a1,a2,-,-,a3,-,-⟩:=H1.out.at_ (r:=r) hr;have a6:=a3 k (by omega);clear a3;by_cases hz:N r k=0
     ·have hz':(((N r k).n:Int)!=0)=false:=by rw[hz];rfl
      have HZ:=zZ hz;clear hz;go_wp2_with fail;go_roundw
      case rel =>
       refine⟨r+1,by go_num,by omega,by omega,fun q h1 h2=>?_,trivial⟩;by_cases e:q=r
       ·subst e;exact HZ.out
       ·exact HR.out q h1 (by omega)
      case measure=>simp[intOf];omega
     ·have hz':(((N r k).n:Int)!=0)=true:=by rw[bne,lk];simp[hz]
      have HZ:=zZ hz;clear hz;go_wp2_with fail;go_ret
      refine⟨N,aa ?_,H1.out,H2.out,H3.out,H4.out⟩;cases hb:ra N k with
      |false=>rfl
      |true=>exact absurd ((lq N k).1 hb r hkr hr) HZ.out
    ·obtain rfl:r=6:=by omega
     go_wp2_with fail;go_ret
     exact⟨N,aa ((lq N k).2 (fun r h1 h2=>HR.out r h1 h2)).symm,H1.out,H2.out,H3.out,H4.out⟩
theorem aG{b t:Nat}{cs:Array Value}(h:w.ownsRow base e size v n xs)(hb:w.heap[b]?=some (.cells cs t (0,0)))(he:t≠e):v.ownBlock≠some b:=by
 intro hk;rcases h.2 with ⟨rfl,_⟩|⟨g,c1,cu1,rfl,_,hh1,_⟩
 ·simp[Value.ownBlock]at hk
 have e1:g=b:=by simpa[Value.ownBlock] using hk
 subst e1;rw[hh1]at hb;injection hb with hb;injection hb with _ h2;exact he h2.symm
theorem aN(h:w.ownsRow base e size v n xs){a:Addr}(ha:v.ownBlock≠some a.block)(u:Value):(w.setCell a u).ownsRow base e size v n xs :=
 aJ h (XT.setCell (XT.refl a.block w) rfl u) (fun k hk e=>ha (by rw[hk];exact e.symm))
def lT(base eS eI:Nat)(w:World)(v:Value)(ls:List (List Int)):Prop :=
 ∃us:List Value,us.length=ls.length/\w.ownsRow base eS 1 v ls.length us /\
  (∀(j:Nat) (u:Value) (l:List Int),us[j]?=some u->ls[j]?=some l->w.ownsRow base eI 1 u l.length (l.map (Value.int .i64))) /\
  (∀(i j:Nat) (u u':Value) (k:Nat),i≠j->us[i]?=some u->us[j]?=some u'->u.ownBlock=some k->u'.ownBlock≠some k)
section
variable {base eS eI p:Nat} {w w':World} {v v':Value} {ls:List (List Int)}
theorem lT.nil(base eS eI:Nat)(w:World):lT base eS eI w (H none 0 0) [] :=
 ⟨[],rfl,yZ _ _ _ _,fun j u l hu=>by simp at hu,fun i j u u' k _ hu=>by simp at hu⟩
theorem lT.own(h:lT base eS eI w v ls):∃us,us.length=ls.length/\w.ownsRow base eS 1 v ls.length us:=by obtain⟨us,a,b,_⟩:=h;exact⟨us,a,b⟩
theorem lT.form(h:lT base eS eI w v ls):∃A c,v=H A ls.length c/\ls.length<=c/\c<=9223372036854775807:=by
 obtain⟨us,a,b,_⟩:=h;rcases b.2 with ⟨rfl,h0⟩|⟨g,cap,cur,rfl,_,_,h1,h2,_⟩
 ·exact⟨none,0,by rw[h0],by omega,by omega⟩
 ·exact⟨_,_,rfl,h1,h2⟩
theorem lT.xt(h:lT base eS eI w v ls)(hx:XT p w w')(hp:p<base):lT base eS eI w' v ls:=by obtain⟨us,a,b,c,d⟩:=h;exact⟨us,a,dD b hx hp,fun j u l hu hl=>dD (c j u l hu hl) hx hp,d⟩
theorem lT.ext(h:lT base eS eI w v ls)(hx:ab w w'):lT base eS eI w' v ls:=by obtain⟨us,a,b,c,d⟩:=h;exact⟨us,a,ao b hx,fun j u l hu hl=>ao (c j u l hu hl) hx,d⟩
theorem lT.far(h:lT base eS eI w v ls){b t:Nat}{cs:Array Value}(hb:w.heap[b]?=some (.cells cs t (0,0)))(h1:t≠eS)(h2:t≠eI){a:Addr}(ha:a.block=b)(x:Value):lT base eS eI (w.setCell a x) v ls:=by subst ha;obtain⟨us,i,j,c,d⟩:=h;exact⟨us,i,aN j (aG j hb h1) x,fun j u l hu hl=>aN (c j u l hu hl) (aG (c j u l hu hl) hb h2) x,d⟩
theorem lT.row{g:Nat}(h:lT base eS eI w (H (some ⟨g,0,none⟩) n cap) ls)(hn:ls.length=n)(hne:eS≠eI)(hj:j<n) :
  ∃(A:Option Addr) (m cu:Nat) (l:List Int),ls[j]?=some l/\l.length=m/\w.cell? ⟨g,j,none⟩=some (H A m cu)/\w.frozen? ⟨g,j,none⟩=false/\base<=g/\g<w.heap.size/\w.ownsRow base eI 1 (H A m cu) m (l.map (Value.int .i64)) /\
   lT base eS eI (w.setCell ⟨g,j,none⟩ (H none 0 0)) (H (some ⟨g,0,none⟩) n cap) (ls.set j []) /\
   ∀(p:Nat) (w1 w2:World) (g' c':Nat) (x:Int),XT p w w1->p<base->w1.grownBy w2 (Value.slice A m cu).ownBlock->w2.ownsRow base eI 1 (H (some ⟨g',0,none⟩) (m+1) c') (m+1) (l.map (Value.int .i64)++[C G x]) ->
    ((Value.slice A m cu).ownBlock=some g'\/w.heap.size<=g') ->
    w2.cell? ⟨g,j,none⟩=some (H A m cu)/\w2.frozen? ⟨g,j,none⟩=false/\lT base eS eI (w2.setCell ⟨g,j,none⟩ (H (some ⟨g',0,none⟩) (m+1) c')) (H (some ⟨g,0,none⟩) n cap) (ls.set j (l++[x])):=by
 obtain⟨us,a,b,c,d⟩:=h;subst hn;have hj':j<us.length:=by omega
 have huj:us[j]?=some us[j]:=zV hj';have hlj:ls[j]?=some ls[j]:=zV hj;have ho:=c j _ _ huj hlj;obtain⟨A,m,cu,hv,hm⟩:∃A m cu,us[j]=H A m cu/\(ls[j]).length=m:=by
  rcases ho.2 with ⟨e,h0⟩|⟨g',cap',cur,e,_⟩
  ·exact⟨none,0,0,e,h0⟩
  ·exact⟨_,_,cap',e,rfl⟩
 rw[hv,hm]at ho;rw[hv]at huj;have hcell:w.cell? ⟨g,j,none⟩=some (H A m cu):=by rw[b.cellAt j (by omega)];exact huj
 have hbg:=b.lt g rfl;refine⟨A,m,cu,ls[j],hlj,hm,hcell,b.frozenAt j,hbg.1,hbg.2,ho,?_,fun p w1 w2 g' c' x hx hp hg h' hat=>?_⟩
 ·obtain⟨o3,g3⟩:=b.stored j (H none 0 0);have kp:∀{z:Value} {n:Nat} {xs:List Value},w.ownsRow base eI 1 z n xs->(w.setCell ⟨g,j,none⟩ (H none 0 0)).ownsRow base eI 1 z n xs:=fun hz =>
   aJ hz g3 (fun k hk e=>cA hz b (Ne.symm hne) k hk (by simpa[Value.ownBlock] using e))
  refine⟨us.set j (H none 0 0),by simp[a],by simpa using o3,fun i u l hu hl=>?_,fun i i' u u' k hii hu hu' hk=>?_⟩
  ·by_cases e:i=j
   ·subst e;rw[wU (by omega)]at hu hl;injection hu with hu;injection hl with hl;subst hu;subst hl;exact yZ _ _ _ _
   ·rw[wW (Ne.symm e)]at hu hl;exact kp (c i u l hu hl)
  ·by_cases e:i=j
   ·subst e;rw[wU (by omega)]at hu;injection hu with hu;subst hu;simp[Value.ownBlock]at hk
   ·rw[wW (Ne.symm e)]at hu;by_cases e':i'=j
    ·subst e';rw[wU (by omega)]at hu';injection hu' with hu';subst hu';simp[Value.ownBlock]
    ·rw[wW (Ne.symm e')]at hu';exact d i i' u u' k hii hu hu' hk
 ·have o1:=dD b hx hp;have ho1:=dD ho hx hp;have o2:w2.ownsRow base eS 1 (H (some ⟨g,0,none⟩) ls.length cap) ls.length us:=aJ o1 hg fun k hk=>cA o1 ho1 hne k hk;obtain⟨o3,g3⟩:=o2.stored j (H (some ⟨g',0,none⟩) (m+1) c');have kp:∀{z:Value} {n:Nat} {xs:List Value},w2.ownsRow base eI 1 z n xs->(w2.setCell ⟨g,j,none⟩ (H (some ⟨g',0,none⟩) (m+1) c')).ownsRow base eI 1 z n xs:=fun hz =>
   aJ hz g3 (fun k hk e=>cA hz o2 (Ne.symm hne) k hk (by simpa[Value.ownBlock] using e))
  refine⟨by rw[o2.cellAt j (by omega)];exact huj,o2.frozenAt j,us.set j (H (some ⟨g',0,none⟩) (m+1) c'),by simp[a],by simpa using o3,fun i u l hu hl=>?_,fun i i' u u' k hii hu hu' hk=>?_⟩
  ·by_cases e:i=j
   ·subst e;rw[wU (by omega)]at hu hl;injection hu with hu;injection hl with hl;subst hu;subst hl;have:=kp h';simpa[hm] using this
   ·rw[wW (Ne.symm e)]at hu hl;exact kp (aJ (dD (c i u l hu hl) hx hp) hg fun k hk=>d i j u _ k e hu huj hk)
  ·by_cases e:i=j
   ·subst e;rw[wU (by omega)]at hu;injection hu with hu;subst hu;rw[wW hii]at hu';have hk':g'=k:=by simpa[Value.ownBlock] using hk
    subst hk';rcases hat with hat|hat
    ·exact d i i' _ u' g' hii huj hu' hat
    ·intro hk2;have hi':=(zY.1 hu').1;have:=(c i' u' _ hu' (zV (show i'<ls.length by omega))).lt g' hk2;omega
   ·rw[wW (Ne.symm e)]at hu;by_cases e':i'=j
    ·subst e';rw[wU (by omega)]at hu';injection hu' with hu';subst hu';intro hk2;have hk':g'=k:=by simpa[Value.ownBlock] using hk2
     subst hk';rcases hat with hat|hat
     ·exact d i i' u _ g' hii hu huj hk hat
     ·have hi:=(zY.1 hu).1;have:=(c i u _ hu (zV (show i<ls.length by omega))).lt g' hk;omega
    ·rw[wW (Ne.symm e')]at hu';exact d i i' u u' k hii hu hu' hk
end
theorem bj.take{α:Type}{R:World->List Value->α->Prop}{A:Option Addr}{c:Nat}{xs:List α}(h:bj p size R w (H A n c) xs)(hk:k<=n):bj p size R w (H A k c) (xs.take k):=by
 have hl:=h.len;obtain⟨A',c',hv,h1,h2,h4⟩:=h;injection hv with ha hn hc;subst ha;subst hc;refine⟨A,c,by rw[yW];congr;omega,by rw[yW];omega,h2,fun i x hx=>h4 i x ?_⟩;rw[yB]at hx;split at hx
 ·exact hx
 ·cases hx
def fW(ps:List Nat):List Int:=ps.map fun (p:Nat)=>(p:Int)
theorem fd(ps:List Nat):(fW ps).length=ps.length:=by simp[fW]
theorem oz{ps:List Nat}{x:Int}(h:(fW ps)[k]?=some x):∃p:Nat,ps[k]?=some p/\x=(p:Int):=by unfold fW at h;rw[zP,yO]at h;obtain⟨c,h1,h2⟩:=h;exact⟨c,h1,h2.symm⟩
def fi(M:Nat->Nat->F)(wd j k:Nat):List (List Int):=(List.range 6).map fun r=>if r<j then F.rowI M wd r else if r=j then (F.rowI M wd r).take k else []
theorem il(M:Nat->Nat->F)(wd j k:Nat):(fi M wd j k).length=6:=by simp[fi]
theorem lB{M:Nat->Nat->F}{r:Nat}(h:r<6):(fi M wd j k)[r]?=some (if r<j then F.rowI M wd r else if r=j then (F.rowI M wd r).take k else []):=by unfold fi;rw[zP,wJ h];rfl
theorem rD{M:Nat->Nat->F}{x:Int}(hj:j<6)(hx:(F.rowI M wd j)[k]?=some x):(fi M wd j k).set j ((F.rowI M wd j).take k++[x])=fi M wd j (k+1):=by
 apply xW;intro r;rcases zU r 6 with hr|hr
 ·rw[yD,lB hr,lB hr,il];by_cases e:j=r
  ·subst e;rw[if_pos rfl,if_pos hr,if_neg (by omega),if_pos rfl,ax hx]
  ·rw[if_neg e,if_neg (show ¬r=j from fun h=>e h.symm),if_neg (show ¬r=j from fun h=>e h.symm)]
 ·rw[zC (by rw[yF,il];exact hr),zC (by rw[il];exact hr)]
theorem AW(M:Nat->Nat->F)(wd j:Nat):fi M wd j wd=fi M wd (j+1) 0:=by
 unfold fi;refine vK fun r _=>?_;by_cases e:r<j
 ·rw[if_pos e,if_pos (by omega)]
 ·rw[if_neg e];by_cases e2:r=j
  ·rw[if_pos e2,if_pos (by omega),xV (by rw[F.rowI_len];exact zX _)]
  ·rw[if_neg e2,if_neg (by omega)];split<;>simp
theorem CD(M:Nat->Nat->F)(wd:Nat):fi M wd 6 0=F.matI M wd:=by unfold fi F.matI;exact vK fun r hr=>if_pos (yX.1 hr)
theorem AI(M:Nat->Nat->F)(wd:Nat):fi M wd 0 0=List.replicate 6 []:=by
 unfold fi;apply xW;intro r;rcases zU r 6 with hr|hr
 ·rw[zP,wJ hr,List.getElem?_replicate,if_pos hr];simp
 ·rw[zC (by simpa using hr),zC (by simpa using hr)]
theorem lT.matW{g eS eI:Nat}{M:Nat->Nat->F}(h:lT base eS eI w (H (some ⟨g,0,none⟩) 6 cap) (F.matI M wd))(hne:eS≠eI)(hw:0<wd):dQ base g eS eI w M wd:=by
 obtain⟨us,a,b,c,d⟩:=h;rw[F.matI_len]at a b;rcases b.2 with ⟨e,_⟩|⟨g',cap',cur,e,hg,hh,hnc,hcm,hcs,htk⟩
 ·cases e
 injection e with e1 e2 e3;injection e1 with e1;injection e1 with e1;subst e1;rw[wH]at htk;have hrow:∀r,r<6->∃br cr,us[r]?=some (H (some ⟨br,0,none⟩) wd cr)/\base<=br/\wd<=cr/\cr<=9223372036854775807/\∃cu:Array Value,w.heap[br]?=some (.cells cu eI (0,0))/\∀i,i<wd->cu[i]?=some (C G ((M r i).n:Int)):=by
  intro r hr;have hu:us[r]?=some us[r]:=zV (by omega);have ho:=c r _ _ hu (F.matI_at hr);rw[F.rowI_len]at ho;rcases ho.2 with ⟨e,h0⟩|⟨br,cr,cu,e,hb,hhb,h1,h2,h3,h4⟩
  ·omega
  ·refine⟨br,cr,by rw[hu,e],hb,h1,h2,cu,hhb,fun i hi=>?_⟩;rw[wH]at h4;have:(cu.toList.take wd)[i]?=some (C G ((M r i).n:Int)):=by
    rw[h4,zP,F.rowI_at hi];rfl
   rw[yB,if_pos hi]at this;simpa using this
 let br:Nat->Nat:=fun r=>if h:r<6 then (hrow r h).choose else 0
 have hbr:∀r (h:r<6),br r=(hrow r h).choose:=fun r h=>dif_pos h;let cr:Nat->Nat:=fun r=>if h:r<6 then (hrow r h).choose_spec.choose else 0
 have hcr:∀r (h:r<6),cr r=(hrow r h).choose_spec.choose:=fun r h=>dif_pos h;have spec:∀r,r<6->us[r]?=some (H (some ⟨br r,0,none⟩) wd (cr r))/\base<=br r/\wd<=cr r/\cr r<=9223372036854775807/\∃cu:Array Value,w.heap[br r]?=some (.cells cu eI (0,0))/\∀i,i<wd->cu[i]?=some (C G ((M r i).n:Int)):=fun r h=>by rw[hbr r h,hcr r h];exact (hrow r h).choose_spec.choose_spec
 refine⟨br,cr,cur,⟨hh,fun r hr=>?_,fun r hr=>(spec r hr).2.2.2.2,fun r s hr hs he=>?_,fun r hr he=>?_,fun r hr=>(spec r hr).2.1,hg,fun r hr=>⟨(spec r hr).2.2.1,(spec r hr).2.2.2.1⟩⟩⟩
 ·have:=(spec r hr).1;rw[<-htk,yB,if_pos hr]at this;simpa using this
 ·rcases Nat.decEq r s with hne'|heq
  ·exact absurd (by rw[he];rfl) (d r s _ _ (br r) hne' (spec r hr).1 (spec s hs).1 rfl)
  ·exact heq
 ·obtain⟨cu,h1,_⟩:=(spec r hr).2.2.2.2;rw[he,hh]at h1;injection h1 with h1;injection h1 with _ h2;exact hne h2
theorem FD{eS eI:Nat}(w:World)(hb:base<=w.heap.size):lT base eS eI (w.alloc (.cells #[H none 0 0,H none 0 0,H none 0 0,H none 0 0,H none 0 0,H none 0 0] eS)) (H (some ⟨w.heap.size,0,none⟩) 6 6) (List.replicate 6 []):=by
 refine⟨List.replicate 6 (H none 0 0),by simp,⟨by simp,.inr ⟨w.heap.size,6,_,rfl,hb,heap_alloc_new w _,by simp,by unfold maxLen;omega,by simp,by simp[List.replicate]⟩⟩,fun j u l hu hl=>?_,fun i j u u' k _ hu _ hk=>?_⟩
 ·obtain rfl:=(List.mem_replicate.1 (zW hu)).2;obtain rfl:=(List.mem_replicate.1 (zW hl)).2;exact yZ _ _ _ _
 ·obtain rfl:=(List.mem_replicate.1 (zW hu)).2;simp[Value.ownBlock]at hk
theorem lf(n:Nat)(hn:n<=1000000)(w:World):(Instr.makeSlice 22 (C G (n:Int)) (C G (n:Int))).run prog w=.ok (H (some ⟨w.heap.size,0,none⟩) n n) (w.alloc (.cells (madeCells #[C G 0] n) 3)) :=
 run_make_row' 22 3 (C G 0) 8 underlying22 Tryz.infoI rfl .i64 .i64 n (by omega) (by omega) w
theorem EL(w:World):(Instr.makeSlice 77 (C G 6) (C G 6)).run prog w=.ok (H (some ⟨w.heap.size,0,none⟩) 6 6) (w.alloc (.cells #[H none 0 0,H none 0 0,H none 0 0,H none 0 0,H none 0 0,H none 0 0] 22)):=by have h:=run_make_row' (P:=prog) 77 22 (H none 0 0) 24 underlying77 Tryz.infoS rfl .i64 .i64 6 (by omega) (by omega) w;rw[show madeCells #[Value.slice none 0 0] 6=#[H none 0 0,H none 0 0,H none 0 0,H none 0 0,H none 0 0,H none 0 0] from by kernel_rfl]at h;exact h
theorem lA(n:Nat):(madeCells #[Value.int .i64 0] n)=((wI (List.replicate n 0)).map (Value.int .i64)).toArray:=by
 apply Array.ext
 ·simp[madeCells,wI]
 ·intro i h1 h2;simp[madeCells,wI,Nat.mod_one,F.n_zero]
theorem Ep(w:World)(n:Nat)(hb:base<=w.heap.size)(hn:n<=1000000):eT base (w.alloc (.cells (madeCells #[C G 0] n) 3)) (H (some ⟨w.heap.size,0,none⟩) n n) (List.replicate n 0):=by rw[lA];unfold eT;refine⟨by simp[wI],.inr ⟨w.heap.size,n,_,by simp,hb,heap_alloc_new w _,by simp,by unfold maxLen;omega,by simp[wI],?_⟩⟩;simp[wI]
def JK(w:World)(wd:List F)(ps:List Nat)(e:Ending)(w':World):Prop :=
 ∃(A:Option Addr) (m cp:Nat) (b:Bool),e=.returned (.tuple #[H A m cp,.bool b])/\ab w w' /\
  (b=true->∃xs:List F,xs.length=ps.length/\eT w.heap.size w' (H A m cp) xs/\F.Code (F.addAt wd ps xs)) /\
  (b=false->∀c,F.Off wd c ps->¬F.Code c)
theorem FE(v:Value)(wd:List F)(ps:List Nat)(n:Nat)(w:World)(hT:cK w)(hI:ak q w v (fW ps))(hn:wd.length=n)(hn31:n<=31)(hd:ps.Nodup)(hlt:∀p∈ps,p<n)(h6:ps.length<=6) :
  Calls prog 150 #[.agg #[C G ((aw wd 0).n:Int),C G ((aw wd 1).n:Int),C G ((aw wd 2).n:Int),C G ((aw wd 3).n:Int),C G ((aw wd 4).n:Int),C G ((aw wd 5).n:Int)],C G (n:Int),v] w (JK w wd ps):=by
 have h0:=hI.re (q:=w.heap.size) (zX _);obtain⟨A,u,c,rfl,hnc,hc,hnn,HL⟩:=hI.open_;have HU:Hid (ps.length=u):=by have:=HL.out;rw[fd]at this;exact this
 have hu6:u<=6:=by have:=HU.out;omega
 have HI:=zZ h0;have HT:=zZ hT;have HN:=zZ hn;have HD:=zZ hd;have HLT:=zZ hlt;clear hI hT h0 hn hd hlt h6 HL;obtain⟨i0,hi0,hz0,hz1,hz2⟩:=info_parts Tryz.infoI;have hb2:2<=w.heap.size:=HT.out.lt;go_enter func150,ntmps150
 have hmk:=EL;go_upto_region 2 with (fail)
 clear hmk;have HM0:=zZ (FD (base:=w.heap.size) (eI:=3) (eS:=22) (w.alloc (.cells #[C G ((aw wd 0).n:Int),C G ((aw wd 1).n:Int),C G ((aw wd 2).n:Int),C G ((aw wd 3).n:Int),C G ((aw wd 4).n:Int),C G ((aw wd 5).n:Int)] 169)) (by rw[vW];omega));have HS0:=zZ (((zE _).alloc (.cells #[H none 0 0,H none 0 0,H none 0 0,H none 0 0,H none 0 0,H none 0 0] 22)).blk (heap_alloc_new w (.cells #[C G ((aw wd 0).n:Int),C G ((aw wd 1).n:Int),C G ((aw wd 2).n:Int),C G ((aw wd 3).n:Int),C G ((aw wd 4).n:Int),C G ((aw wd 5).n:Int)] 169)));have HE0:=zZ (((zE w).alloc (.cells #[C G ((aw wd 0).n:Int),C G ((aw wd 1).n:Int),C G ((aw wd 2).n:Int),C G ((aw wd 3).n:Int),C G ((aw wd 4).n:Int),C G ((aw wd 5).n:Int)] 169)).alloc (.cells #[H none 0 0,H none 0 0,H none 0 0,H none 0 0,H none 0 0,H none 0 0] 22));rw[vW]at HM0;generalize (w.alloc (.cells #[C G ((aw wd 0).n:Int),C G ((aw wd 1).n:Int),C G ((aw wd 2).n:Int),C G ((aw wd 3).n:Int),C G ((aw wd 4).n:Int),C G ((aw wd 5).n:Int)] 169)).alloc (.cells #[H none 0 0,H none 0 0,H none 0 0,H none 0 0,H none 0 0,H none 0 0] 22)=W at *
 replace HS0:Hid (W.heap[w.heap.size]?=some (.cells (eP (aw wd) 6) 169 (0,0))):=HS0.out;have hb0:w.heap.size<W.heap.size:=al HS0.out;go_wp2_with fail;go_loopw [17] (fun s17 wr=>∃(j:Nat),s17=C G j/\j<=6/\Hid (lT w.heap.size 22 3 wr (H (some ⟨w.heap.size+1,0,none⟩) 6 6) (fi (F.sysM wd ps) (u+1) j 0)/\ab w wr/\wr.heap[w.heap.size]?=some (.cells (eP (aw wd) 6) 169 (0,0)))) (fun i _=>6-(intOf i).toNat)
 case atStart=>exact⟨0,rfl,by omega,by rw[AI];exact HM0.out,HE0.out,HS0.out⟩
 case round =>
  clear HM0 HE0 HS0;obtain⟨j,rfl,hj,HJ⟩:=hrel;by_cases hj6:j<6
  ·have hd:decide ((j:Int)<6)=true:=by simp;omega
   obtain⟨wo,rfl⟩:=nm (wr:World);go_wp2_with fail;go_loopw [22] (fun s22 wr=>∃(k:Nat),s22=C G k/\k<=u/\Hid (lT w.heap.size 22 3 wr (H (some ⟨w.heap.size+1,0,none⟩) 6 6) (fi (F.sysM wd ps) (u+1) j k)/\ab w wr/\wr.heap[w.heap.size]?=some (.cells (eP (aw wd) 6) 169 (0,0)))) (fun i _=>u-(intOf i).toNat)
   case atStart=>exact⟨0,rfl,by omega,HJ.out⟩
   case round =>
    clear HJ;obtain⟨k,rfl,hk,HK⟩:=hrel;by_cases hku:k<u
    ·have HIr:=zZ (HI.out.ext HK.out.2.1);have HTr:=zZ (HT.out.ext HK.out.2.1);obtain⟨b,o,z,rfl,-⟩:=HIr.out.at_ hku;obtain⟨z,hcz,HZ,-⟩:=HIr.out.cell_ hku;obtain⟨pl,hpl,rfl⟩:=oz HZ.out;have hpn:pl<n:=HLT.out pl (zW hpl);obtain⟨m,hm⟩:=nm ((j+1)*(n-1-pl):Nat);have hmb:m<=1000:=by
      have h1:(j+1)*(n-1-pl)<=6*31:=Nat.mul_le_mul (by omega) (by omega);omega
     have HRI:Hid ((F.rowI (F.sysM wd ps) (u+1) j)[k]?=some ((F.gp m).n:Int)):=by
      show _=_
      rw[F.rowI_at (by omega)];have e:ps.getD k 0=pl:=by rw[xU,hpl];rfl
      unfold F.sysM;rw[if_pos (by rw[HU.out];exact hku),HN.out,e,<-hm]
     have hwm:Hid (IntKind.i64.wrap (IntKind.i64.wrap ((j:Int)+1)*IntKind.i64.wrap (IntKind.i64.wrap ((n:Int)-1)-(pl:Int)))=(m:Int)):=by
      show _=_
      rw[yN ((j:Int)+1) (by omega),yN ((n:Int)-1) (by omega),yN ((n:Int)-1-(pl:Int)) (by omega)];have hm':((j:Int)+1)*((n:Int)-1-(pl:Int))=(m:Int):=by rw[hm,Int.natCast_mul,show (((j+1:Nat)):Int)=(j:Int)+1 by omega,show (((n-1-pl:Nat)):Int)=(n:Int)-1-(pl:Int) by omega]
      rw[hm'];exact yN _ (by omega)
     clear hm hpl HZ;obtain⟨Au,mu,cu,lu,hlu,hmu,hcu,hfu,-,-,hou,-,hstep⟩:=HK.out.1.row (il _ _ _ _) (by decide) hj6;rw[lB hj6,if_neg (by omega),if_pos rfl]at hlu;injection hlu with hlu;have hmk:mu=k:=by rw[<-hmu,<-hlu,yW,F.rowI_len];omega
     have HSTEP:=zZ hstep;have HOU:=zZ hou;have HLU:=zZ hlu;subst hmk;clear hstep hou hlu hmu;have HFS:=zZ HK.out.2.2;have HEK:=zZ HK.out.2.1;have hS:wr.drew.cell? ⟨w.heap.size+1,j,none⟩=some (H Au mu cu):=hcu;replace hS:=zZ hS;have e1:(0:Int)<=(j:Int):=xT _;have e2:(j:Int)<6:=by omega
     go_upto_region 8 with (fail)
     refine zR 17 (fun w'=>w'.cell? ⟨w.heap.size+1,j,none⟩=some (H Au mu cu)) ?_;refine zS 13 [(0,26),(1,27),(2,28),(3,29),(4,30),(5,31),(6,32),(7,33),(8,34),(9,35),(10,36),(11,37),(12,38)] hS.out ?_;iterate 13 refine zT ?_
     refine zN (zO 13 (fun K hK=>?_));go_simp;rw[hwm.out];refine (vf m _ (HTr.out.ext (zE _).drew) (by omega)).mono ?_;rintro e x1 ⟨rfl,hx1⟩;have HX1:Hid (ab wr x1):=by rw[hx1];exact (zE wr).drew
     clear hx1;replace hcu:=HX1.out.cell hcu;replace hS:=zZ hcu;refine hK.out _ _ (fun _=>hS.out) ?_;clear hK K;try simp only[kA]
     refine zO 14 (fun K hK=>?_);go_simp;have E1:=zZ ((zE x1).alloc (.cells #[C G ((F.gp m).n:Int)] 3));refine hK.out _ _ (fun _=>E1.out.cell hcu) ?_;clear hK K;try simp only[kA]
     refine zO 15 (fun K hK=>?_);refine step_append_lies _ (by rfl) _ _ _ (by rfl) w.heap.size 3 i0 _ 1 8 underlying22 hi0 hz0 hz1 hz2 rfl (by omega) (H Au mu cu) mu (lu.map (Value.int .i64)) (by rfl) ((ao HOU.out HX1.out).alloc _) ⟨x1.heap.size,0,none⟩ 1 1 [C G ((F.gp m).n:Int)] (by rfl) (by rfl) (World.news_of_block (cs:=#[C G ((F.gp m).n:Int)]) (t:=3) (fr:=(0,0)) (heap_alloc_new x1 _)) (by simp[Value.oneCell']) (by omega) (by unfold maxLen;omega) (by omega) (by have:=HX1.out.size;have:=HEK.out.size;simp;omega) (x1.heap.size+1) (by simp) ?_;intro gg cap w3 hown3 hgrow hat hlt3;have HH:=zZ (HSTEP.out 0 _ _ gg cap ((F.gp m).n:Int) (HX1.out.trans E1.out).xt (by omega) hgrow hown3 (hat.imp id (fun e=>by have:=HX1.out.size;omega)));have HE3:=zZ (ab.grown ((HEK.out.trans HX1.out).trans E1.out) hgrow (aq HOU.out));have HF3:Hid (w3.heap[w.heap.size]?=some (.cells (eP (aw wd) 6) 169 (0,0))):=by have h1:=(HX1.out.trans E1.out).blk HFS.out;exact (hgrow.block _ (al h1) (fun e=>aG HOU.out HFS.out (by decide) e.symm)).trans h1
     clear hown3 hgrow hat hlt3;change K (Act.put _ (some 41) _) w3;have hc3:=HH.out.1;have hf3:=HH.out.2.1;refine hK.out _ _ (fun _=>hc3) ?_;clear hK K;try simp only[kA]
     refine zS 1 [(16,42)] hc3 ?_;refine zT ?_;refine zN (zO 17 (fun K hK=>?_));go_simp;refine hK.out _ _ (fun h=>absurd rfl h) ?_;clear hK K;refine zD ?_;have HM4:=HH.out.2.2;rw[<-HLU.out,rD hj6 HRI.out]at HM4;replace HM4:=zZ HM4;have HE4:=zZ (HE3.out.setCell (p:=⟨w.heap.size+1,j,none⟩) (by simp) (H (some ⟨gg,0,none⟩) (mu+1) cap));have HF4:Hid ((w3.setCell ⟨w.heap.size+1,j,none⟩ (H (some ⟨gg,0,none⟩) (mu+1) cap)).heap[w.heap.size]?=some (.cells (eP (aw wd) 6) 169 (0,0))):=by
      show _=_
      rw[yP _ _ _ _ (by simp)];exact HF3.out
     clear hc3 hf3 HH;go_wp2_with fail;go_roundw
     case rel=>exact⟨mu+1,by go_num,by omega,HM4.out,HE4.out,HF4.out⟩
     case measure=>simp[intOf];omega
    ·have hke:k=u:=by omega
     rw[hke]at HK;clear hke;have HRI:Hid ((F.rowI (F.sysM wd ps) (u+1) j)[u]?=some ((aw wd j).n:Int)):=by
      show _=_
      rw[F.rowI_at (by omega)];unfold F.sysM;rw[if_neg (by rw[HU.out];omega)];rfl
     obtain⟨Au,mu,cu,lu,hlu,hmu,hcu,hfu,-,-,hou,-,hstep⟩:=HK.out.1.row (il _ _ _ _) (by decide) hj6;rw[lB hj6,if_neg (by omega),if_pos rfl]at hlu;injection hlu with hlu;have hmk:mu=u:=by rw[<-hmu,<-hlu,yW,F.rowI_len];omega
     have HSTEP:=zZ hstep;have HOU:=zZ hou;have HLU:=zZ hlu;have HMU:=zZ hmk;have hmu6:mu<=6:=by omega
     clear hstep hou hlu hmu hmk;have HFS:=zZ HK.out.2.2;have HEK:=zZ HK.out.2.1;have hsc:wr.cell? ⟨w.heap.size,j,none⟩=some (C G ((aw wd j).n:Int)):=ac HFS.out (jR hj6);have hS:wr.drew.cell? ⟨w.heap.size+1,j,none⟩=some (H Au mu cu)/\wr.drew.cell? ⟨w.heap.size,j,none⟩=some (C G ((aw wd j).n:Int)):=⟨hcu,hsc⟩
     replace hS:=zZ hS;have e1:(0:Int)<=(j:Int):=xT _;have e2:(j:Int)<6:=by omega
     go_upto_region 10 with (fail)
     refine zR 12 (fun w'=>w'.cell? ⟨w.heap.size+1,j,none⟩=some (H Au mu cu)/\w'.cell? ⟨w.heap.size,j,none⟩=some (C G ((aw wd j).n:Int))) ?_;refine zS 9 [(0,44),(1,45),(2,46),(3,47),(4,48),(5,49),(6,50),(7,51),(8,52)] hS.out ?_;iterate 9 refine zT ?_
     refine zN (zO 9 (fun K hK=>?_));go_simp;have E1:=zZ ((zE wr).alloc (.cells #[C G ((aw wd j).n:Int)] 3));have hce:((wr.alloc (.cells #[C G ((aw wd j).n:Int)] 3)).drew).cell? ⟨w.heap.size+1,j,none⟩=some (H Au mu cu)/\((wr.alloc (.cells #[C G ((aw wd j).n:Int)] 3)).drew).cell? ⟨w.heap.size,j,none⟩=some (C G ((aw wd j).n:Int)):=⟨E1.out.cell hcu,E1.out.cell hsc⟩
     refine hK.out _ _ (fun _=>hce) ?_;clear hK K;try simp only[kA]
     refine zO 10 (fun K hK=>?_);refine step_append_lies _ (by rfl) _ _ _ (by rfl) w.heap.size 3 i0 _ 1 8 underlying22 hi0 hz0 hz1 hz2 rfl (by omega) (H Au mu cu) mu (lu.map (Value.int .i64)) (by rfl) ((HOU.out.alloc _).drew) ⟨wr.heap.size,0,none⟩ 1 1 [C G ((aw wd j).n:Int)] (by rfl) (by rfl) (World.news_of_block (cs:=#[C G ((aw wd j).n:Int)]) (t:=3) (fr:=(0,0)) (heap_alloc_new wr _)) (by simp[Value.oneCell']) (by omega) (by unfold maxLen;omega) (by omega) (by have:=HEK.out.size;simp;omega) (wr.heap.size+1) (by simp) ?_;intro gg cap w3 hown3 hgrow hat hlt3;have HH:=zZ (HSTEP.out 0 _ _ gg cap ((aw wd j).n:Int) (E1.out.drew).xt (by omega) hgrow hown3 (hat.imp id (fun e=>by omega)));have HE3:=zZ (ab.grown (HEK.out.trans E1.out.drew) hgrow (aq HOU.out));have HF3:Hid (w3.heap[w.heap.size]?=some (.cells (eP (aw wd) 6) 169 (0,0))):=by have h1:=(E1.out.drew).blk HFS.out;exact (hgrow.block _ (al h1) (fun e=>aG HOU.out HFS.out (by decide) e.symm)).trans h1
     have hs3:w3.cell? ⟨w.heap.size,j,none⟩=some (C G ((aw wd j).n:Int)):=ac HF3.out (jR hj6);clear hown3 hgrow hat hlt3 hce;change K (Act.put _ (some 54) _) w3;have hc3:=HH.out.1;have hf3:=HH.out.2.1;refine hK.out _ _ (fun _=>⟨hc3,hs3⟩) ?_;clear hK K;try simp only[kA]
     have hc33:=zZ (yJ hc3 hs3);refine zS 1 [(11,55)] hc33.out ?_;refine zT ?_;refine zN (zO 12 (fun K hK=>?_));go_simp;refine hK.out _ _ (fun h=>absurd rfl h) ?_;clear hK K;refine zD ?_;have HM4:=HH.out.2.2;rw[<-HLU.out,rD hj6 HRI.out,AW]at HM4;replace HM4:=zZ HM4;have HE4:=zZ (HE3.out.setCell (p:=⟨w.heap.size+1,j,none⟩) (by simp) (H (some ⟨gg,0,none⟩) (mu+1) cap));have HF4:Hid ((w3.setCell ⟨w.heap.size+1,j,none⟩ (H (some ⟨gg,0,none⟩) (mu+1) cap)).heap[w.heap.size]?=some (.cells (eP (aw wd) 6) 169 (0,0))):=by
      show _=_
      rw[yP _ _ _ _ (by simp)];exact HF3.out
     clear hc3 hf3 HH hs3;go_wp2_with fail;go_roundw
     case rel=>exact⟨j+1,by go_num,by omega,HM4.out,HE4.out,HF4.out⟩
     case measure=>simp[intOf];omega
  ·obtain rfl:j=6:=by omega
   have HMW:Hid (dQ w.heap.size (w.heap.size+1) 22 3 wr (F.sysM wd ps) (u+1)):=by have h:=HJ.out.1;rw[CD]at h;exact h.matW (by decide) (by omega)
   have HEJ:=zZ HJ.out.2.1;clear HJ;have HSE:Hid (∀M:Nat->Nat->F,F.Unit6 M u->(∀X,F.Sol M X (u+1)↔F.Sol (F.sysM wd ps) X (u+1))->((∀r,u<=r->r<6->M r u=0)->F.Code (F.addAt wd ps ((List.range u).map fun c=>M c u)))/\(∀c,F.Off wd c ps->F.Code c->(∀r,u<=r->r<6->M r u=0)/\c=F.addAt wd ps ((List.range u).map fun c=>M c u))):=fun M h1 h2=>by have h:=@F.sys_end wd ps M (by rw[HN.out];exact hn31) HD.out (by rw[HN.out];exact HLT.out) (by rw[HU.out];exact hu6);rw[HU.out]at h;exact h h1 h2
   have hmkI:=lf u (by omega);have HIND:Hid (∀X,F.Sol (F.sysM wd ps) X (u+1)->X u=0->∀c,c<u->X c=0):=by have h:=@F.sys_ind wd ps (by rw[HN.out];exact hn31) HD.out (by rw[HN.out];exact HLT.out) (by rw[HU.out];exact hu6);rw[HU.out]at h;exact h
   go_wp2_with (go_at_call 195;refine (FJ w.heap.size (w.heap.size+1) 6 u (F.sysM wd ps) _ (HT.out.ext HEJ.out) HMW.out hu6 ⟨by omega,by omega⟩ hb2 HIND.out).mono ?_;rintro e x1 ⟨M',rfl,hm1,hm2,hm3,hm4⟩;replace hm1:=zZ hm1;replace hm2:=zZ hm2;replace hm3:=zZ hm3;replace hm4:=zZ hm4)
   ·rename_i hrb
    go_ret2
    refine⟨_,_,_,false,rfl,HEJ.out.below_trans (zX _) hm4.out,(fun h=>by cases h),fun _ c ho hc=>?_⟩;have:=(lq M' u).2 (((HSE.out M' hm2.out hm3.out).2 c ho hc).1);rw[this]at hrb;cases hrb
   ·have hrb:(!ra M' u)=false:=by assumption
    have HRB:Hid (ra M' u=true):=by
     show _=_
     cases h:ra M' u with
     |true=>rfl
     |false=>rw[h]at hrb;cases hrb
    have HO0:=zZ (Ep x1 u (base:=x1.heap.size) (zX _) (by omega));have HX0:=zZ ((zE x1).alloc (.cells (madeCells #[C G 0] u) 3));have HE1:=zZ (HEJ.out.below_trans (zX _) hm4.out);have hws:w.heap.size<=x1.heap.size:=HE1.out.size;clear hmkI hrb;generalize x1.alloc (.cells (madeCells #[C G 0] u) 3)=X2 at *
    go_loopw [67] (fun s67 wr'=>∃(k:Nat),s67=C G k/\k<=u/\Hid (eT x1.heap.size wr' (H (some ⟨x1.heap.size,0,none⟩) u u) ((List.range k).map (fun c=>M' c u)++List.replicate (u-k) 0)/\XT x1.heap.size X2 wr')) (fun i _=>u-(intOf i).toNat)
    case atStart=>exact⟨0,rfl,by omega,by simpa using HO0.out,XT.refl _ _⟩
    case round =>
     obtain⟨k,rfl,hk,HK⟩:=hrel;clear HO0;have hlen:((List.range k).map (fun c=>M' c u)++List.replicate (u-k) (0:F)).length=u:=by simp;omega
     by_cases hku:k<u
     ·have HMr:Hid (dQ w.heap.size (w.heap.size+1) 22 3 wr M' (u+1)):=hm1.out.keep fun i _ hl=>(HK.out.2.block i (zB hl HX0.out.size) (fun e=>by injection e;omega)).trans (HX0.out.block i hl);obtain⟨b2,cu2,a0,a1,a2,-,-,a3,-,-⟩:=HMr.out.at_ (r:=k) (by omega);have a6:=a3 u (by omega);have hfz:=HK.out.1.froz hlen k;obtain⟨y,hy⟩:∃y,((List.range k).map (fun c=>M' c u)++List.replicate (u-k) (0:F))[k]?=some y:=⟨_,zV (by omega)⟩
      have hcy:=HK.out.1.cell hlen hy;have HO4:=zZ (HK.out.1.put hlen k (M' k u));have hset:((List.range k).map (fun c=>M' c u)++List.replicate (u-k) (0:F)).set k (M' k u)=(List.range (k+1)).map (fun c=>M' c u)++List.replicate (u-(k+1)) 0:=by
       rw[vO _ _ (by simp),xP,yG,zJ,wQ,vH];obtain⟨m,hm⟩:∃m,u-k=m+1:=⟨u-k-1,by omega⟩
       rw[hm,vD,vA,show u-(k+1)=m by omega];simp
      rw[hset]at HO4;have HX4:=zZ (HK.out.2.setCell (a:=⟨x1.heap.size,k,none⟩) rfl (C G ((M' k u).n:Int)));clear a3 hy hset hlen HMr;go_wp2_with fail;go_roundw
      case rel=>exact⟨k+1,by go_num,by omega,HO4.out,HX4.out⟩
      case measure=>simp[intOf];omega
     ·obtain rfl:k=u:=by omega
      go_wp2_with fail;go_ret2
      refine⟨_,_,_,true,rfl,?_,fun _=>⟨(List.range k).map (fun c=>M' c k),by simp[HU.out],?_,(HSE.out M' hm2.out hm3.out).1 ((lq M' k).1 HRB.out)⟩,(fun h=>by cases h)⟩
      ·exact HK.out.2.fresh (HE1.out.trans HX0.out) hws
      ·have h:=HK.out.1;rw[vH,List.replicate_zero,xN]at h;exact gM h hws
theorem EG{α:Type}{x:α}{S l:List α}:∀(next:Nat),(x::S).Sublist (l.drop next)->∃i,next<=i/\l[i]?=some x/\S.Sublist (l.drop (i+1)):=by
 intro next;obtain⟨m,hm⟩:=nm (l.length-next);induction m generalizing next with
 |zero =>
  intro h;rw[uF (by omega)]at h;cases h
 |succ m ih =>
  intro h;rw[vZ (by omega)]at h;cases h with
  |cons _ h =>
   obtain⟨i,h1,h2,h3⟩:=ih (next+1) (by omega) h;exact⟨i,by omega,h2,h3⟩
  |cons_cons _ h=>exact⟨next,zX _,zV (by omega),h⟩
structure kv (gP gV:Nat) (w:World) (vp:Value) (w':World) (vp':Value):Prop where
 os:w'.os=w.os
 tape:w'.tape=w.tape
 output:w'.output=w.output
 size:w.heap.size<=w'.heap.size
 block:∀k,k<w.heap.size->k≠gP->k≠gV->vp.ownBlock≠some k->w'.heap[k]?=w.heap[k]?
 own:∀k,vp'.ownBlock=some k->vp.ownBlock=some k\/w.heap.size<=k
section
variable {gP gV:Nat} {w w1 w2:World} {vp v1 v2:Value}
theorem kv.refl(gP gV:Nat)(w:World)(vp:Value):kv gP gV w vp w vp:=⟨rfl,rfl,rfl,zX _,fun _ _ _ _ _=>rfl,fun _ h=>.inl h⟩
theorem kv.trans(h:kv gP gV w vp w1 v1)(k:kv gP gV w1 v1 w2 v2):kv gP gV w vp w2 v2 :=
 ⟨k.os.trans h.os,k.tape.trans h.tape,k.output.trans h.output,yR h.size k.size,
  fun i hi h1 h2 h3=>(k.block i (zB hi h.size) h1 h2 (fun e=>by
   rcases h.own i e with h4|h4
   ·exact h3 h4
   ·omega)).trans (h.block i hi h1 h2 h3),
  fun i hi=>by
   rcases k.own i hi with h4|h4
   ·exact h.own i h4
   ·exact .inr (yR h.size h4)⟩
theorem kv.of_ext(e:ab w w1):kv gP gV w vp w1 vp:=⟨e.os,e.tape,e.output,e.size,fun i hi _ _ _=>e.block i hi,fun _ h=>.inl h⟩
theorem kv.grown{row:Option Nat}(hg:w.grownBy w1 row)(hr:∀k,row=some k->vp.ownBlock=some k)(ho:∀k,v1.ownBlock=some k->vp.ownBlock=some k\/w.heap.size<=k):kv gP gV w vp w1 v1 :=
 ⟨hg.os,hg.tape,hg.output,hg.size,fun i hi _ _ h=>hg.block i hi (fun e=>h (hr i e.symm)),ho⟩
theorem kv.setP(w:World)(vp:Value)(i:Nat)(u:Value):kv gP gV w vp (w.setCell ⟨gP,i,none⟩ u) vp :=
 ⟨rfl,rfl,rfl,by simp[World.setCell],fun k _ h1 _ _=>yP _ _ _ _ (by simpa using h1),fun _ h=>.inl h⟩
theorem kv.setV(w:World)(vp:Value)(i:Nat)(u:Value):kv gP gV w vp (w.setCell ⟨gV,i,none⟩ u) vp :=
 ⟨rfl,rfl,rfl,by simp[World.setCell],fun k _ _ h2 _=>yP _ _ _ _ (by simpa using h2),fun _ h=>.inl h⟩
theorem kv.keepIs{c:Nat}{A:Option Addr}{l:List Int}(h:kv gP gV w vp w1 v1)(hi:ak p w (H A n c) l)(ha:∀ad,A=some ad->ad.block≠gP/\ad.block≠gV/\vp.ownBlock≠some ad.block/\ad.block<w.heap.size):ak p w1 (H A n c) l:=by obtain⟨A',c',hv,h1,h2,h3,h5,h4⟩:=hi;injection hv with e1 e2 e3;subst e1;subst e3;refine⟨A,c,by rw[e2],h1,h2,h3,h5,fun k x hx=>?_⟩;obtain⟨b,off,hA,hb,hc⟩:=h4 k x hx;obtain⟨g1,g2,g3,g4⟩:=ha _ hA;exact⟨b,off,hA,hb,(wG (w:=w) (h.block b g4 g1 g2 g3)).trans hc⟩
end
structure Dw (fl:List F) (wh:List Nat) (n gS gW gP gV gH gF:Nat) (Aw:Option Addr) (cw:Nat) (Ah:Option Addr) (nh ch base:Nat) (w:World) (ps:List Nat) (Ap:Option Addr) (np cp:Nat) (vv:Value):Prop where
 s:w.heap[gS]?=some (.cells (eP (aw fl) 6) 169 (0,0))
 wd:w.heap[gW]?=some (.cells #[H Aw n cw] 22 (0,0))
 p:w.heap[gP]?=some (.cells #[H Ap np cp] 22 (0,0))
 v:w.heap[gV]?=some (.cells #[vv] 22 (0,0))
 h:w.heap[gH]?=some (.cells #[H Ah nh ch] 22 (0,0))
 f:w.heap[gF]?=some (.cells #[.func (.func 149) #[] #[.pointer (some ⟨gS,0,none⟩),.pointer (some ⟨gW,0,none⟩),.pointer (some ⟨gP,0,none⟩),.pointer (some ⟨gV,0,none⟩),.pointer (some ⟨gH,0,none⟩),.pointer (some ⟨gF,0,none⟩)]] 189 (0,0))
 hi:ak gP w (H Ah nh ch) (fW wh)
 ha:∀ad,Ah=some ad->ad.block≠gP/\ad.block≠gV/\(Value.slice Ap np cp).ownBlock≠some ad.block/\ad.block<w.heap.size
 own:w.ownsRow base 3 1 (H Ap np cp) np ((fW ps).map (Value.int .i64))
 len:ps.length=np
 tabs:cK w
 b2:2<=base
 bP:base<=gP
 bV:base<=gV
 sP:gS≠gP
 sV:gS≠gV
 wP:gW≠gP
 wV:gW≠gV
 hP:gH≠gP
 hV:gH≠gV
 fP:gF≠gP
 fV:gF≠gV
 pV:gP≠gV
theorem jD(h:w.ownsRow base e size v n xs):∃A c,v=H A n c/\n<=c/\c<=9223372036854775807:=by
 rcases h.2 with ⟨rfl,rfl⟩|⟨g,cap,cur,rfl,_,_,h1,h2,_⟩
 ·exact⟨none,0,rfl,zX _,by omega⟩
 ·exact⟨_,_,rfl,h1,h2⟩
section
variable {fl:List F} {wh:List Nat} {n gS gW gP gV gH gF:Nat} {Aw:Option Addr} {cw:Nat} {Ah:Option Addr} {nh ch base:Nat} {w w':World} {ps ps':List Nat} {Ap Ap':Option Addr} {np cp np' cp':Nat} {vv vv':Value}
theorem Dw.step(d:Dw fl wh n gS gW gP gV gH gF Aw cw Ah nh ch base w ps Ap np cp vv)(e:kv gP gV w (H Ap np cp) w' (H Ap' np' cp'))(hp:w'.heap[gP]?=some (.cells #[H Ap' np' cp'] 22 (0,0)))(hv:w'.heap[gV]?=some (.cells #[vv'] 22 (0,0)))(ho:w'.ownsRow base 3 1 (H Ap' np' cp') np' ((fW ps').map (Value.int .i64)))(hl:ps'.length=np') :
  Dw fl wh n gS gW gP gV gH gF Aw cw Ah nh ch base w' ps' Ap' np' cp' vv':=by
 have hb:∀k,k<base->k<w.heap.size->w'.heap[k]?=w.heap[k]?:=fun k hk hlt=>e.block k hlt (by have:=d.bP;omega) (by have:=d.bV;omega) (fun h=>by have:=aq d.own k h;omega);refine⟨(e.block _ (al d.s) d.sP d.sV (aG d.own d.s (by decide))).trans d.s,(e.block _ (al d.wd) d.wP d.wV (aG d.own d.wd (by decide))).trans d.wd,hp,hv,
  (e.block _ (al d.h) d.hP d.hV (aG d.own d.h (by decide))).trans d.h,(e.block _ (al d.f) d.fP d.fV (aG d.own d.f (by decide))).trans d.f,e.keepIs d.hi d.ha,fun ad hA=>?_,ho,hl,?_,d.b2,d.bP,d.bV,d.sP,d.sV,d.wP,d.wV,d.hP,d.hV,d.fP,d.fV,d.pV⟩
 ·obtain⟨h1,h2,h3,h4⟩:=d.ha ad hA;refine⟨h1,h2,fun h=>?_,zB h4 e.size⟩;rcases e.own _ h with h5|h5
  ·exact h3 h5
  ·omega
 ·have b2:=d.b2;have hs:=d.tabs.lt;exact⟨fun k hk=>(wG (w:=w) (hb 0 (by omega) (by omega))).trans (d.tabs.1 k hk),fun k hk=>(wG (w:=w) (hb 1 (by omega) (by omega))).trans (d.tabs.2 k hk)⟩
theorem Dw.ext(d:Dw fl wh n gS gW gP gV gH gF Aw cw Ah nh ch base w ps Ap np cp vv)(e:ab w w'):Dw fl wh n gS gW gP gV gH gF Aw cw Ah nh ch base w' ps Ap np cp vv :=
 d.step (kv.of_ext e) (e.blk d.p) (e.blk d.v) (ao d.own e) d.len
end
def J7(fl:List F)(wh:List Nat)(n gS gW gP gV gH gF:Nat)(Aw:Option Addr)(cw:Nat)(Ah:Option Addr)(nh ch base:Nat)(w:World)(ps:List Nat)(vp:Value)(next wrong:Nat)(e:Ending)(w':World):Prop :=
 ∃(b:Bool) (ps':List Nat) (Ap:Option Addr) (np cp:Nat) (vv:Value),e=.returned (.bool b)/\Dw fl wh n gS gW gP gV gH gF Aw cw Ah nh ch base w' ps' Ap np cp vv/\kv gP gV w vp w' (H Ap np cp)/\np<=cp/\cp<=9223372036854775807 /\
  (b=true->∃S xs,S.Sublist (wh.drop next)/\S.length=wrong/\ps'=ps++S/\xs.length=ps'.length/\(∀p,p<w.heap.size->ak p w' vv (wI xs))/\F.Code (F.addAt fl ps' xs)) /\
  (b=false->ps'=ps/\∀S,S.Sublist (wh.drop next)->S.length=wrong->∀c,F.Off fl c (ps++S)->¬F.Code c)
section
variable {fl:List F} {wh:List Nat} {n gS gW gP gV gH gF:Nat} {Aw:Option Addr} {cw:Nat} {Ah:Option Addr} {nh ch base:Nat}
theorem Bw(next:Nat)(w:World)(ps:List Nat)(Ap:Option Addr)(np cp:Nat)(vv:Value)(d:Dw fl wh n gS gW gP gV gH gF Aw cw Ah nh ch base w ps Ap np cp vv)(h6:np<=6)(hcp:np<=cp/\cp<=9223372036854775807)(hn:fl.length=n)(hn31:n<=31)(hd:ps.Nodup)(hlt:∀p∈ps,p<n) :
  Calls prog 149 #[C G (next:Int),C G 0,.pointer (some ⟨gS,0,none⟩),.pointer (some ⟨gW,0,none⟩),.pointer (some ⟨gP,0,none⟩),.pointer (some ⟨gV,0,none⟩),.pointer (some ⟨gH,0,none⟩),.pointer (some ⟨gF,0,none⟩)] w
   (J7 fl wh n gS gW gP gV gH gF Aw cw Ah nh ch base w ps (H Ap np cp) next 0):=by
 have D:=zZ d;have HN:=zZ hn;have HD:=zZ hd;have HLT:=zZ hlt;obtain⟨hcp1,hcp2⟩:=hcp;have s:∀i,i<6->w.cell? ⟨gS,i,none⟩=some (C G ((aw fl i).n:Int)):=fun i hi=>ac d.s (jR hi);have s0:=s 0 (by omega);have s1:=s 1 (by omega);have s2:=s 2 (by omega);have s3:=s 3 (by omega);have s4:=s 4 (by omega);have s5:=s 5 (by omega);have c1:=ac d.wd (i:=0) rfl;have c2:=ac d.p (i:=0) rfl;have c3:=ac d.v (i:=0) rfl;have c4:=ae d.v 0;have hb2:base<=w.heap.size:=yR d.bP (Nat.le_of_lt (al d.p));have HO:Hid (ak w.heap.size w (H Ap np cp) (fW ps)):=by refine (ak.of_own (p:=0) (base:=base) (e:=3) (n:=np) (l:=fW ps) d.own (by have:=d.b2;omega) (fun x hx=>?_) (by rw[fd,d.len];omega)).re (zX _);unfold fW at hx;obtain⟨q,hq,rfl⟩:=zF.1 hx;have:=hlt q hq;constructor<;>omega
 have hl6:Hid (ps.length<=6):=by show _<=_;rw[d.len];exact h6
 clear s d hn hd hlt;go_enter func149,ntmps149
 go_wp2_with (go_at_call 150;refine (FE _ fl ps n _ D.out.tabs HO.out HN.out hn31 HD.out HLT.out hl6.out).mono ?_;rintro e x1 ⟨A1,m1,cp1,b1,rfl,hx1,ht,hf⟩;have D1:=zZ (D.out.ext hx1);replace hx1:=zZ hx1;replace ht:=zZ ht;replace hf:=zZ hf;replace c3:=ac D1.out.v (i:=0) rfl;replace c4:=ae D1.out.v 0);go_ret
 have hst:kv gP gV x1 (H Ap np cp) (x1.setCell ⟨gV,0,none⟩ (H A1 m1 cp1)) (H Ap np cp):=kv.setV _ _ _ _;have hne:=D1.out.pV;have hown:(x1.setCell ⟨gV,0,none⟩ (H A1 m1 cp1)).ownsRow base 3 1 (H Ap np cp) np ((fW ps).map (Value.int .i64)):=aN D1.out.own (aG D1.out.own D1.out.v (by decide)) _;refine⟨b1,ps,Ap,np,cp,H A1 m1 cp1,rfl,D1.out.step hst ?_ ?_ hown D1.out.len,(kv.of_ext hx1.out).trans hst,hcp1,hcp2,fun hb=>?_,fun hb=>⟨rfl,fun S hS hl c ho hc=>?_⟩⟩
 ·rw[yP _ _ _ _ (by simpa using hne)];exact D1.out.p
 ·exact bn D1.out.v _
 ·obtain⟨xs,hxl,hox,hcode⟩:=ht.out hb;refine⟨[],xs,List.nil_sublist _,rfl,by simp,hxl,fun p hp=>?_,hcode⟩;have hox2:eT w.heap.size (x1.setCell ⟨gV,0,none⟩ (H A1 m1 cp1)) (H A1 m1 cp1) xs:=aN hox (fun h=>by have:=aq hox _ h;have:=al D.out.v;simp only at *;omega) _;exact hox2.isI hp (by rw[hxl,D.out.len];omega)
 ·obtain rfl:=xZ hl;rw[xN]at ho;exact hf.out hb c ho hc
theorem CJ(hn:fl.length=n)(hn31:n<=31)(hnh:wh.length=nh)(hnc:nh<=ch/\ch<=9223372036854775807):∀(wrong next:Nat) (w:World) (ps:List Nat) (Ap:Option Addr) (np cp:Nat) (vv:Value),Dw fl wh n gS gW gP gV gH gF Aw cw Ah nh ch base w ps Ap np cp vv ->
  np+wrong<=6->next<=nh->(np<=cp/\cp<=9223372036854775807)->(ps++wh.drop next).Nodup->(∀p∈ps++wh.drop next,p<n) ->
  Calls prog 149 #[C G (next:Int),C G (wrong:Int),.pointer (some ⟨gS,0,none⟩),.pointer (some ⟨gW,0,none⟩),.pointer (some ⟨gP,0,none⟩),.pointer (some ⟨gV,0,none⟩),.pointer (some ⟨gH,0,none⟩),.pointer (some ⟨gF,0,none⟩)] w
   (J7 fl wh n gS gW gP gV gH gF Aw cw Ah nh ch base w ps (H Ap np cp) next wrong):=by
 intro wrong;have HN:=zZ hn;have HNH:=zZ hnh;obtain⟨hnc1,hnc2⟩:=hnc;clear hn hnh;induction wrong with
 |zero =>
  intro next w ps Ap np cp vv d h6 hnx hcp hd hlt;exact Bw next w ps Ap np cp vv d (by omega) hcp HN.out hn31 (uO.1 hd).1 (fun p hp=>hlt p (xH _ hp))
 |succ m ih =>
  intro next w ps Ap np cp vv d h6 hnx hcp hd hlt;have HIH:=zZ ih;have D:=zZ d;have HD:=zZ hd;have HLT:=zZ hlt;obtain⟨hcp1,hcp2⟩:=hcp;obtain⟨q,hq⟩:=nm (m+1);rw[<-hq];have hnz:((q:Int)==0)=false:=by simp;omega
  have hqm:(q:Int)-1=(m:Int):=by omega
  have HQ:=zZ hq;have hq1:1<=q:=by omega
  have hq6:q<=6:=by omega
  clear hq;obtain⟨i0,hi0,hz0,hz1,hz2⟩:=info_parts Tryz.infoI;clear ih d hd hlt;go_enter func149,ntmps149
  go_wp2_with fail;go_loopw [12] (fun s12 wr=>∃(k:Nat) (Aq:Option Addr) (cq:Nat) (vq:Value),s12=C G k/\next<=k/\k<=nh/\np<=cq/\cq<=9223372036854775807/\Hid (Dw fl wh n gS gW gP gV gH gF Aw cw Ah nh ch base wr ps Aq np cq vq/\kv gP gV w (H Ap np cp) wr (H Aq np cq)/\∀i x,next<=i->i<k->wh[i]?=some x->∀S,S.Sublist (wh.drop (i+1))->S.length=m->∀c,F.Off fl c (ps++x::S)->¬F.Code c)) (fun i _=>nh-(intOf i).toNat)
  case atStart=>exact⟨next,Ap,cp,vv,rfl,by omega,by omega,by omega,by omega,D.out,kv.refl _ _ _ _,fun i x h1 h2=>by omega⟩
  case round =>
   clear D;obtain⟨k,Aq,cq,vq,rfl,hk1,hk2,hcq1,hcq2,HK⟩:=hrel;have D:=zZ HK.out.1;have HF:=zZ HK.out.2.1;have HNO:=zZ HK.out.2.2;clear HK;have c5:=ac D.out.h (i:=0) rfl;by_cases hkn:k<nh
   ·obtain⟨b,o,z,rfl,-⟩:=D.out.hi.at_ hkn;obtain⟨z,hcz,HZ,-⟩:=D.out.hi.cell_ hkn;obtain⟨x,hx,rfl⟩:=oz HZ.out;have HX:=zZ hx;clear hx HZ;have c2:=ac D.out.p (i:=0) rfl;have hS:wr.drew.cell? ⟨gP,0,none⟩=some (H Aq np cq)/\wr.drew.cell? ⟨gH,0,none⟩=some (H (some ⟨b,o,none⟩) nh ch)/\wr.drew.cell? ⟨b,o+k,none⟩=some (C G (x:Int)):=⟨c2,c5,hcz⟩
    replace hS:=zZ hS;have e1:(0:Int)<=(k:Int):=xT _;have e2:(k:Int)<(nh:Int):=by omega
    go_upto_region 8 with (fail)
    refine zR 7 (fun w'=>w'.cell? ⟨gP,0,none⟩=some (H Aq np cq)/\w'.cell? ⟨gH,0,none⟩=some (H (some ⟨b,o,none⟩) nh ch)/\w'.cell? ⟨b,o+k,none⟩=some (C G (x:Int))) ?_;refine zS 5 [(0,31),(1,32),(2,33),(3,34),(4,35)] hS.out ?_;iterate 5 refine zT ?_
    refine zN (zO 5 (fun K hK=>?_));go_simp;have E1:=zZ (((zE wr).alloc (.cells #[C G (x:Int)] 3)).drew);have D1:=zZ (D.out.ext E1.out);have hce:((wr.alloc (.cells #[C G (x:Int)] 3)).drew).cell? ⟨gP,0,none⟩=some (H Aq np cq)/\((wr.alloc (.cells #[C G (x:Int)] 3)).drew).cell? ⟨gH,0,none⟩=some (H (some ⟨b,o,none⟩) nh ch)/\((wr.alloc (.cells #[C G (x:Int)] 3)).drew).cell? ⟨b,o+k,none⟩=some (C G (x:Int)):=⟨E1.out.cell c2,E1.out.cell c5,E1.out.cell hcz⟩
    refine hK.out _ _ (fun _=>hce) ?_;clear hK K;try simp only[kA]
    refine zO 6 (fun K hK=>?_);refine step_append_lies _ (by rfl) _ _ _ (by rfl) base 3 i0 _ 1 8 underlying22 hi0 hz0 hz1 hz2 rfl (by omega) (H Aq np cq) np ((fW ps).map (Value.int .i64)) (by rfl) D1.out.own ⟨wr.heap.size,0,none⟩ 1 1 [C G (x:Int)] (by rfl) (by rfl) (World.news_of_block (cs:=#[C G (x:Int)]) (t:=3) (fr:=(0,0)) (heap_alloc_new wr _)) (by simp[Value.oneCell']) (by omega) (by unfold maxLen;omega) (by omega) (by have:=al D1.out.p;have:=D1.out.bP;omega) (wr.heap.size+1) (by simp) ?_;intro gg cap w3 hown3 hgrow hat hlt3;have hF3:kv gP gV wr (H Aq np cq) w3 (H (some ⟨gg,0,none⟩) (np+1) cap):=(kv.of_ext E1.out).trans (kv.grown hgrow (fun _ h=>h) (fun k hk=>by
     have e:gg=k:=by simpa[Value.ownBlock] using hk
     subst e;rcases hat with h|h
     ·exact .inl h
     ·exact .inr (by simp;omega)))
    have hP3:w3.heap[gP]?=some (.cells #[H Aq np cq] 22 (0,0)):=(hgrow.block _ (al D1.out.p) (fun e=>aG D1.out.own D1.out.p (by decide) e.symm)).trans D1.out.p;have hV3:w3.heap[gV]?=some (.cells #[vq] 22 (0,0)):=(hgrow.block _ (al D1.out.v) (fun e=>aG D1.out.own D1.out.v (by decide) e.symm)).trans D1.out.v;have hH3:w3.heap[gH]?=some (.cells #[H (some ⟨b,o,none⟩) nh ch] 22 (0,0)):=(hF3.block _ (al D.out.h) D.out.hP D.out.hV (aG D.out.own D.out.h (by decide))).trans D.out.h;have hz3:w3.cell? ⟨b,o+k,none⟩=some (C G (x:Int)):=by obtain⟨g1,g2,g3,g4⟩:=D.out.ha _ rfl;exact (wG (w:=wr) (hF3.block b g4 g1 g2 g3)).trans hcz
    have HO3:Hid (w3.ownsRow base 3 1 (H (some ⟨gg,0,none⟩) (np+1) cap) (np+1) ((fW (ps++[x])).map (Value.int .i64))):=by
     have:fW (ps++[x])=fW ps++[(x:Int)]:=by simp[fW]
     show World.ownsRow _ _ _ _ _ _ _
     rw[this,yG];exact hown3
    have hcap:=lG hown3;have HF3:=zZ hF3;have HP3:=zZ hP3;have HV3:=zZ hV3;have hc3:=ac hP3 (i:=0) rfl;have hf3:=ae hP3 0;have hh3:=ac hH3 (i:=0) rfl;clear hown3 hgrow hat hlt3 hce hF3 hP3 hV3 hH3;obtain⟨hcap1,hcap2⟩:=hcap;change K (Act.put _ (some 37) _) w3;refine hK.out _ _ (fun _=>⟨hc3,hh3,hz3⟩) ?_;clear hK K;try simp only[kA]
    refine zO 7 (fun K hK=>?_);go_simp;refine hK.out _ _ (fun h=>absurd rfl h) ?_;clear hK K;refine zD ?_;have hst:kv gP gV w3 (H (some ⟨gg,0,none⟩) (np+1) cap) (w3.setCell ⟨gP,0,none⟩ (H (some ⟨gg,0,none⟩) (np+1) cap)) (H (some ⟨gg,0,none⟩) (np+1) cap):=kv.setP _ _ _ _;have HF4:=zZ (HF3.out.trans hst);have D4:Hid (Dw fl wh n gS gW gP gV gH gF Aw cw (some ⟨b,o,none⟩) nh ch base (w3.setCell ⟨gP,0,none⟩ (H (some ⟨gg,0,none⟩) (np+1) cap)) (ps++[x]) (some ⟨gg,0,none⟩) (np+1) cap vq):=by refine D.out.step HF4.out (bn HP3.out _) ?_ (aN HO3.out (aG HO3.out HP3.out (by decide)) _) (by simp[D.out.len]);rw[yP _ _ _ _ (by simpa using D.out.pV.symm)];exact HV3.out
    clear hst HO3 HP3 HV3 hc3 hf3 hh3 hz3 HF3 D1 hS c2 c5 hcz;generalize w3.setCell ⟨gP,0,none⟩ (H (some ⟨gg,0,none⟩) (np+1) cap)=W4 at *
    have HCA:Hid (Calls prog 149 #[C G ((k:Int)+1),C G (m:Int),.pointer (some ⟨gS,0,none⟩),.pointer (some ⟨gW,0,none⟩),.pointer (some ⟨gP,0,none⟩),.pointer (some ⟨gV,0,none⟩),.pointer (some ⟨gH,0,none⟩),.pointer (some ⟨gF,0,none⟩)] W4 (J7 fl wh n gS gW gP gV gH gF Aw cw (some ⟨b,o,none⟩) nh ch base W4 (ps++[x]) (H (some ⟨gg,0,none⟩) (np+1) cap) (k+1) m)):=by
     have hsub:((ps++[x])++wh.drop (k+1)).Sublist (ps++wh.drop next):=by
      rw[xY];refine List.Sublist.append_left ?_ ps;have:[x]++wh.drop (k+1)=wh.drop k:=by obtain⟨hk,e⟩:=zY.1 HX.out;rw[vZ hk,e];rfl
      rw[this];obtain⟨j,hj⟩:∃j,k=next+j:=⟨k-next,by omega⟩
      rw[hj,<-List.drop_drop];exact List.drop_sublist _ _
     exact HIH.out (k+1) W4 (ps++[x]) _ (np+1) cap vq D4.out (by omega) (by omega) ⟨hcap1,hcap2⟩ (HD.out.sublist hsub) (fun p hp=>HLT.out p (hsub.subset hp))
    have c7:=ac D4.out.f (i:=0) rfl;go_upto_if 43 with (go_at_call 149;refine HCA.out.mono ?_;rintro e x5 ⟨b5,ps5,A5,n5,c5,v5,rfl,d5,f5,g51,g52,ht,hf⟩;replace d5:=zZ d5;replace f5:=zZ f5;replace ht:=zZ ht;replace hf:=zZ hf)
    clear c7 HCA HIH;have hEX:kv gP gV w (H Ap np cp) x5 (H A5 n5 c5):=(HF.out.trans HF4.out).trans f5.out;replace hEX:=zZ hEX;cases b5 with
    |true =>
     go_wp2_with fail;go_ret
     obtain⟨S,xs,q1,q2,q3,q4,q5,q6⟩:=ht.out trivial;refine⟨true,ps5,A5,n5,c5,v5,rfl,d5.out,hEX.out,g51,g52,fun _=>⟨x::S,xs,?_,by rw[HQ.out];simp[q2],by rw[q3];simp,q4,fun p hp=>q5 p (zB hp (HF.out.trans HF4.out).size),q6⟩,fun h=>by cases h⟩;obtain⟨hk,e⟩:=zY.1 HX.out;have h1:(x::S).Sublist (wh.drop k):=by rw[vZ hk,e];exact q1.cons_cons x
     obtain⟨j,hj⟩:∃j,k=next+j:=⟨k-next,by omega⟩
     rw[hj,<-List.drop_drop]at h1;exact h1.trans (List.drop_sublist _ _)
    |false =>
     obtain⟨hps5,hno5⟩:=hf.out rfl;subst hps5;have hn5:n5=np+1:=by rw[<-d5.out.len,<-D.out.len];simp
     subst hn5;obtain⟨g5,rfl⟩:∃g5,A5=some ⟨g5,0,none⟩:=by
      rcases d5.out.own.2 with ⟨e,h0⟩|⟨g',cap',cur,e,_⟩
      ·omega
      ·injection e with e1;exact⟨g',e1⟩
     have HNO5:=zZ hno5;clear hno5 ht hf;have c2:=ac d5.out.p (i:=0) rfl;have c2f:=ae d5.out.p 0;have w1:IntKind.i64.wrap (((np+1:Nat):Int)-1)=(np:Int):=by rw[yN _ (by omega)];omega
     go_upto_region 7 with (fail)
     have hst0:kv gP gV x5 (H (some ⟨g5,0,none⟩) (np+1) c5) x5 (H (some ⟨g5,0,none⟩) np c5):=⟨rfl,rfl,rfl,zX _,fun _ _ _ _ _=>rfl,fun k hk=>.inl (by simpa[Value.ownBlock] using hk)⟩
     have hst:kv gP gV x5 (H (some ⟨g5,0,none⟩) (np+1) c5) (x5.setCell ⟨gP,0,none⟩ (H (some ⟨g5,0,none⟩) np c5)) (H (some ⟨g5,0,none⟩) np c5):=hst0.trans (kv.setP _ _ _ _);have HF6:=zZ (hEX.out.trans hst);have D6:Hid (Dw fl wh n gS gW gP gV gH gF Aw cw (some ⟨b,o,none⟩) nh ch base (x5.setCell ⟨gP,0,none⟩ (H (some ⟨g5,0,none⟩) np c5)) ps (some ⟨g5,0,none⟩) np c5 v5):=by
      have ho:=GV d5.out.own (show np<=np+1 by omega);have e:(((fW (ps++[x])).map (Value.int .i64)).take (np*1))=(fW ps).map (Value.int .i64):=by
       rw[wH];have:fW (ps++[x])=fW ps++[(x:Int)]:=by simp[fW]
       rw[this,yG,List.take_append_of_le_length (by simp[fd,D.out.len]),xV (by simp[fd,D.out.len])]
      rw[e]at ho;refine d5.out.step hst (bn d5.out.p _) ?_ (aN ho (aG ho d5.out.p (by decide)) _) D.out.len;rw[yP _ _ _ _ (by simpa using D.out.pV.symm)];exact d5.out.v
     clear hst hst0 c2 c2f w1 f5 d5;go_wp2_with fail;go_roundw
     case rel =>
      refine⟨k+1,some ⟨g5,0,none⟩,c5,v5,by go_num,by omega,by omega,by omega,by omega,D6.out,HF6.out,fun i y h1 h2 hy S hS hl c ho hc=>?_⟩;by_cases e:i=k
      ·subst e;rw[HX.out]at hy;injection hy with hy;subst hy;refine HNO5.out S hS hl c ?_ hc;rw[xY];exact ho
      ·exact HNO.out i y h1 (by omega) hy S hS hl c ho hc
     case measure=>simp[intOf];omega
   ·have hke:k=nh:=by omega
    go_wp2_with fail;go_ret
    refine⟨false,ps,Aq,np,cq,vq,rfl,D.out,HF.out,hcq1,hcq2,(fun h=>by cases h),fun _=>⟨rfl,fun S hS hl c ho hc=>?_⟩⟩;rw[HQ.out]at hl;match S,hl with
    |x::S,hl =>
     obtain⟨i,h1,h2,h3⟩:=EG next hS;have hi:=(zY.1 h2).1;exact HNO.out i x h1 (by rw[HNH.out]at hi;omega) h2 S h3 (by simpa using hl) c ho hc
end
structure DW (n base gL cL gP gH:Nat) (f:List Int) (es hs:List Nat) (w:World) (Ap:Option Addr) (np cp:Nat) (Ah:Option Addr) (nh ch:Nat):Prop where
 p:w.heap[gP]?=some (.cells #[H Ap np cp] 22 (0,0))
 h:w.heap[gH]?=some (.cells #[H Ah nh ch] 22 (0,0))
 oL:w.ownsRow base 3 1 (H (some ⟨gL,0,none⟩) n cL) n (f.map (Value.int .i64))
 oP:w.ownsRow base 3 1 (H Ap np cp) np ((fW es).map (Value.int .i64))
 oH:w.ownsRow base 3 1 (H Ah nh ch) nh ((fW hs).map (Value.int .i64))
 dPH:∀i,(Value.slice Ap np cp).ownBlock=some i->(Value.slice Ah nh ch).ownBlock≠some i
 dPL:(Value.slice Ap np cp).ownBlock≠some gL
 dHL:(Value.slice Ah nh ch).ownBlock≠some gL
 lP:es.length=np
 lH:hs.length=nh
 cP:np<=cp/\cp<=9223372036854775807
 cH:nh<=ch/\ch<=9223372036854775807
 ne:gP≠gH
section
variable {n base gL cL gP gH:Nat} {f:List Int} {es hs:List Nat} {w wa w3:World} {Ap:Option Addr} {np cp:Nat} {Ah:Option Addr} {nh ch:Nat}
theorem DW.ext(h:DW n base gL cL gP gH f es hs w Ap np cp Ah nh ch)(e:ab w wa):DW n base gL cL gP gH f es hs wa Ap np cp Ah nh ch :=
 { h with p:=e.blk h.p,h:=e.blk h.h,oL:=ao h.oL e,oP:=ao h.oP e,oH:=ao h.oH e }
theorem DW.setL(h:DW n base gL cL gP gH f es hs w Ap np cp Ah nh ch)(k:Nat)(y:Int):DW n base gL cL gP gH (f.set k y) es hs (w.setCell ⟨gL,k,none⟩ (C G y)) Ap np cp Ah nh ch:=by
 have hp:gP≠gL:=fun e=>aG h.oL h.p (by decide) (by simp[Value.ownBlock,e]);have hh:gH≠gL:=fun e=>aG h.oL h.h (by decide) (by simp[Value.ownBlock,e]);refine { h with p:=?_,h:=?_,oL:=?_,oP:=aN h.oP h.dPL _,oH:=aN h.oH h.dHL _ }
 ·rw[yP _ _ _ _ (by simpa using hp)];exact h.p
 ·rw[yP _ _ _ _ (by simpa using hh)];exact h.h
 ·rw[wX];exact (World.ownsRow.stored h.oL k (C G y)).1
theorem DW.growP(h:DW n base gL cL gP gH f es hs w Ap np cp Ah nh ch)(e:ab w wa){gg x:Nat}(hg:wa.grownBy w3 (Value.slice Ap np cp).ownBlock)(ho:w3.ownsRow base 3 1 (H (some ⟨gg,0,none⟩) (np+1) cap) (np+1) ((fW es).map (Value.int .i64)++[C G (x:Int)]))(hat:(Value.slice Ap np cp).ownBlock=some gg\/w.heap.size<=gg) :
  w3.heap[gP]?=some (.cells #[H Ap np cp] 22 (0,0))/\DW n base gL cL gP gH f (es++[x]) hs (w3.setCell ⟨gP,0,none⟩ (H (some ⟨gg,0,none⟩) (np+1) cap)) (some ⟨gg,0,none⟩) (np+1) cap Ah nh ch:=by
 have h1:=h.ext e;have keep:∀{b:Nat} {o:Obj},wa.heap[b]?=some o->(Value.slice Ap np cp).ownBlock≠some b->w3.heap[b]?=some o:=fun hb hne=>(hg.block _ (al hb) (fun e=>hne e.symm)).trans hb;have p3:=keep h1.p (aG h1.oP h1.p (by decide));have h3:=keep h1.h (aG h1.oP h1.h (by decide));have oL3:=aJ h1.oL hg (fun k hk e=>by have:gL=k:=(by simpa[Value.ownBlock] using hk);subst this;exact h1.dPL e);have oH3:=aJ h1.oH hg (fun k hk e=>h1.dPH k e hk);have hLlt:=(h.oL.lt gL rfl).2;have hnH:∀i,(Value.slice (some ⟨gg,0,none⟩) (np+1) cap).ownBlock=some i->(Value.slice Ah nh ch).ownBlock≠some i:=fun i hi hh=>by
  have e1:gg=i:=by simpa[Value.ownBlock] using hi
  subst e1;rcases hat with h4|h4
  ·exact h.dPH _ h4 hh
  ·have:=(h.oH.lt _ hh).2;omega
 have hnL:(Value.slice (some ⟨gg,0,none⟩) (np+1) cap).ownBlock≠some gL:=fun hi=>by
  have e1:gg=gL:=by simpa[Value.ownBlock] using hi
  subst e1;rcases hat with h4|h4
  ·exact h.dPL h4
  ·omega
 have e2:fW (es++[x])=fW es++[(x:Int)]:=by simp[fW]
 have ho':w3.ownsRow base 3 1 (H (some ⟨gg,0,none⟩) (np+1) cap) (np+1) ((fW (es++[x])).map (Value.int .i64)):=by rw[e2,yG];exact ho
 refine⟨p3,⟨bn p3 _,?_,aN oL3 (aG oL3 p3 (by decide)) _,aN ho' (aG ho' p3 (by decide)) _,aN oH3 (aG oH3 p3 (by decide)) _,hnH,hnL,h.dHL,by simp[h.lP],h.lH,lG ho',h.cH,h.ne⟩⟩;rw[yP _ _ _ _ (by simpa using h.ne.symm)];exact h3
theorem DW.growH(h:DW n base gL cL gP gH f es hs w Ap np cp Ah nh ch)(e:ab w wa){gg x:Nat}(hg:wa.grownBy w3 (Value.slice Ah nh ch).ownBlock)(ho:w3.ownsRow base 3 1 (H (some ⟨gg,0,none⟩) (nh+1) cap) (nh+1) ((fW hs).map (Value.int .i64)++[C G (x:Int)]))(hat:(Value.slice Ah nh ch).ownBlock=some gg\/w.heap.size<=gg) :
  w3.heap[gH]?=some (.cells #[H Ah nh ch] 22 (0,0))/\DW n base gL cL gP gH f es (hs++[x]) (w3.setCell ⟨gH,0,none⟩ (H (some ⟨gg,0,none⟩) (nh+1) cap)) Ap np cp (some ⟨gg,0,none⟩) (nh+1) cap:=by
 have h1:=h.ext e;have keep:∀{b:Nat} {o:Obj},wa.heap[b]?=some o->(Value.slice Ah nh ch).ownBlock≠some b->w3.heap[b]?=some o:=fun hb hne=>(hg.block _ (al hb) (fun e=>hne e.symm)).trans hb;have p3:=keep h1.p (aG h1.oH h1.p (by decide));have h3:=keep h1.h (aG h1.oH h1.h (by decide));have oL3:=aJ h1.oL hg (fun k hk e=>by have:gL=k:=(by simpa[Value.ownBlock] using hk);subst this;exact h1.dHL e);have oP3:=aJ h1.oP hg (fun k hk e=>h1.dPH k hk e);have hLlt:=(h.oL.lt gL rfl).2;have hnP:∀i,(Value.slice Ap np cp).ownBlock=some i->(Value.slice (some ⟨gg,0,none⟩) (nh+1) cap).ownBlock≠some i:=fun i hi hh=>by
  have e1:gg=i:=by simpa[Value.ownBlock] using hh
  subst e1;rcases hat with h4|h4
  ·exact h.dPH _ hi h4
  ·have:=(h.oP.lt _ hi).2;omega
 have hnL:(Value.slice (some ⟨gg,0,none⟩) (nh+1) cap).ownBlock≠some gL:=fun hi=>by
  have e1:gg=gL:=by simpa[Value.ownBlock] using hi
  subst e1;rcases hat with h4|h4
  ·exact h.dHL h4
  ·omega
 have e2:fW (hs++[x])=fW hs++[(x:Int)]:=by simp[fW]
 have ho':w3.ownsRow base 3 1 (H (some ⟨gg,0,none⟩) (nh+1) cap) (nh+1) ((fW (hs++[x])).map (Value.int .i64)):=by rw[e2,yG];exact ho
 refine⟨h3,⟨?_,bn h3 _,aN oL3 (aG oL3 h3 (by decide)) _,aN oP3 (aG oP3 h3 (by decide)) _,aN ho' (aG ho' h3 (by decide)) _,hnP,h.dPL,hnL,h.lP,by simp[h.lH],h.cP,lG ho',h.ne⟩⟩;rw[yP _ _ _ _ (by simpa using h.ne)];exact p3
end
theorem ak.of_own'{l:List Int}(h:w.ownsRow base e 1 v n (l.map (Value.int .i64)))(hp:v.ownBlock≠some p)(hb:∀x∈l,aU x)(hl:l.length<=9223372036854775807):ak p w v l:=by
 have hn:l.length=n:=by simpa using h.1
 rcases h.2 with ⟨rfl,rfl⟩|⟨g,cap,cur,rfl,hg,hh,hnc,hcm,hcs,htk⟩
 ·obtain rfl:l=[]:=xZ hn;exact ak.nil p w
 ·subst hn;refine⟨_,cap,rfl,hnc,hcm,hl,hb,fun k x hx=>⟨g,0,rfl,(fun e=>hp (by simp[Value.ownBlock,e])),?_⟩⟩;have hk:=(zY.1 hx).1;rw[yV,h.cellAt k (by omega)];simp[hx]
theorem na{ps:List Nat}(h:∀p∈ps,p<1000000):∀x∈fW ps,aU x:=by intro x hx;unfold fW at hx;obtain⟨q,hq,rfl⟩:=zF.1 hx;have:=h q hq;constructor<;>omega
def KH(w:World)(l:List Int)(e:Ending)(w':World):Prop :=
 ∃(A:Option Addr) (m c:Nat) (d:List F) (er k:Int),e=.returned (.tuple #[H A m c,C G er,C G k])/\ak w.heap.size w' (H A m c) (wI d)/\ab w w' /\
  (cD (-1) l=false->d=[]/\er=0/\k=2) /\
  (cD (-1) l=true->(∃(cw:List F) (n:Nat),pn l cw n/\d=cw.take (l.length-6)/\er=n/\k=0)\/((∀cw n,¬pn l cw n)/\d=[]/\er=0/\k=25))
theorem Ck(v:Value)(l:List Int)(w:World)(hT:cK w)(hI:ak q w v l) :
  Calls prog 107 #[v] w (KH w l):=by
 have h0:=hI.re (q:=w.heap.size) (zX _);obtain⟨A,n,c,rfl,hnc,hc,hnn,HL⟩:=hI.open_;have HI:=zZ h0;have HT:=zZ hT;clear hI hT h0;have b2:2<=w.heap.size:=HT.out.lt;obtain⟨i0,hi0,hz0,hz1,hz2⟩:=info_parts Tryz.infoI;have HE0:=zZ ((zE w).alloc (.cells #[H A n c] 22));have HW0:=zZ (heap_alloc_new w (.cells #[H A n c] 22));rcases yS (cD (-1) l) with hb|hb;case inr =>
  go_enter func107,ntmps107
  go_wp2_with (go_at_call 147;refine (qB _ l (-1) _ (HI.out.ext HE0.out)).mono ?_;rintro e w1 ⟨rfl,HX1⟩;rw[hb]);go_ret3
  exact⟨none,0,0,[],0,2,rfl,ak.nil _ _,HE0.out.trans HX1,fun _=>⟨rfl,rfl,rfl⟩,fun h=>by rw[hb]at h;cases h⟩
 have hm:=ew hb;have HM:=zZ hm.2.2;have hn7:7<=n:=by have:=HL.out;omega
 have hn15:n<=15:=by have:=HL.out;omega
 have HBW:=zZ hb;clear hm;obtain⟨bA,oA,zA,rfl,-⟩:=HI.out.at_ (k:=0) (by omega);go_enter func107,ntmps107
 go_upto_region 3 with (go_at_call 147;refine (qB _ l (-1) _ (HI.out.ext HE0.out)).mono ?_;rintro e w1 ⟨rfl,HX1⟩;rw[hb];replace HX1:=zZ HX1)
 have HE1:=zZ (HE0.out.trans HX1.out);have HW1:=zZ (HX1.out.blk HW0.out);have cW:=ac HW1.out (i:=0) rfl;clear HE0 HW0 HX1 hb;go_upto_region 4 with (go_at_call 59;refine (jF _ l _ (HI.out.ext HE1.out) (by rw[HL.out];omega)).mono ?_;rintro e w2 ⟨vL,rfl,HO2,HX2⟩;rw[HL.out]at HO2;obtain⟨AL,cL,rfl,hcL1,hcL2⟩:=jD HO2;replace HX2:=zZ HX2;replace HO2:=zZ HO2)
 obtain⟨gL,rfl⟩:∃gL,AL=some ⟨gL,0,none⟩:=by
  rcases HO2.out.2 with ⟨e,h0⟩|⟨g',cap',cur,e,_⟩
  ·omega
  ·injection e with e1;exact⟨g',e1⟩
 have hgL1:w1.heap.size<=gL:=aq HO2.out gL rfl;have hgL2:gL<w2.heap.size:=(HO2.out.lt gL rfl).2;have hw1:w.heap.size<w1.heap.size:=al HW1.out;replace cW:=HX2.out.cell cW;go_upto_region 5 with (fail)
 have HEx:=zZ (((zE w2).alloc (.cells #[H none 0 0] 22)).alloc (.cells #[H none 0 0] 22));have HP0:=zZ (((zE _).alloc (.cells #[H none 0 0] 22)).blk (heap_alloc_new w2 (.cells #[H none 0 0] 22)));have HH0:=zZ (heap_alloc_new (w2.alloc (.cells #[H none 0 0] 22)) (.cells #[H none 0 0] 22));rw[vW]at HH0;replace cW:=HEx.out.cell cW;generalize (w2.alloc (.cells #[H none 0 0] 22)).alloc (.cells #[H none 0 0] 22)=W at *
 have HLS:Hid (DW n w.heap.size gL cL w2.heap.size (w2.heap.size+1) (fg l 0) (dY l 0) (gm l 0) W none 0 0 none 0 0):=by refine⟨HP0.out,HH0.out,?_,yZ _ _ _ _,yZ _ _ _ _,(fun i h=>by simp[Value.ownBlock]at h),(fun h=>by simp[Value.ownBlock]at h),(fun h=>by simp[Value.ownBlock]at h),rfl,rfl,⟨by omega,by omega⟩,⟨by omega,by omega⟩,by omega⟩;rw[zi];exact ao (gM HO2.out (by omega)) HEx.out
 have HEW:=zZ ((HE1.out.trans HX2.out).trans HEx.out);have HWW:=zZ ((HX2.out.trans HEx.out).blk HW1.out);have hWs:w2.heap.size+1<W.heap.size:=al HH0.out;clear HX2 HEx HP0 HH0 HO2 HE1 HW1;go_wp2_with fail;go_loopw [24] (fun s24 wr=>∃(k:Nat) (Ap:Option Addr) (np cp:Nat) (Ah:Option Addr) (nh ch:Nat),s24=C G k/\k<=n/\Hid (DW n w.heap.size gL cL w2.heap.size (w2.heap.size+1) (fg l k) (dY l k) (gm l k) wr Ap np cp Ah nh ch/\ab w wr/\wr.heap[w.heap.size]?=some (.cells #[H (some ⟨bA,oA,none⟩) n c] 22 (0,0))/\w2.heap.size+1<wr.heap.size)) (fun i _=>n-(intOf i).toNat)
 case atStart=>exact⟨0,none,0,0,none,0,0,rfl,by omega,HLS.out,HEW.out,HWW.out,hWs⟩
 case round =>
  clear HLS HEW HWW hWs;obtain⟨k,Ap,np,cp,Ah,nh,ch,rfl,hk,HK⟩:=hrel;obtain⟨k1,k2,k3,k4⟩:=HK.out;have L:=zZ k1;have HEr:=zZ k2;have HWr:=zZ k3;have hsz:=k4;clear HK k1 k2 k3 k4;have hcp:=L.out.cP;have hch:=L.out.cH;obtain⟨hcp1,hcp2⟩:=hcp;obtain⟨hch1,hch2⟩:=hch;have hnp:np<=k:=by rw[<-L.out.lP];exact BK _ _
  have hnh:nh<=k:=by rw[<-L.out.lH];exact Gj _ _
  by_cases hkn:k<n
  ·obtain⟨z,hcz,HZ,-⟩:=(HI.out.ext HEr.out).cell_ hkn;have hzb:=HM.out z (zW HZ.out);have cp0:=ac L.out.p (i:=0) rfl;have cp1:=ae L.out.p 0;have ch0:=ac L.out.h (i:=0) rfl;have ch1:=ae L.out.h 0;by_cases hz:z=-1
   ·subst hz;obtain⟨y,hy⟩:∃y,(fg l k)[k]?=some y:=⟨_,zV (by rw[Cx l k (by have:=HL.out;omega),HL.out];exact hkn)⟩
    have cl0:wr.cell? ⟨gL,k,none⟩=some (C G y):=by rw[L.out.oL.cellAt k (by omega),zP,hy];rfl
    have cl1:wr.frozen? ⟨gL,k,none⟩=false:=L.out.oL.frozenAt k;clear hy;go_upto_region 10 with (fail)
    have L2:=L.out.setL k 0;rw[Ct HZ.out]at L2;have HE2:=zZ (HEr.out.setCell (p:=⟨gL,k,none⟩) (by simp;omega) (C G 0));have HW2:Hid ((wr.setCell ⟨gL,k,none⟩ (C G 0)).heap[w.heap.size]?=some (.cells #[H (some ⟨bA,oA,none⟩) n c] 22 (0,0))):=by show _=_;rw[yP _ _ _ _ (by simp;omega)];exact HWr.out
    have hs2:(wr.setCell ⟨gL,k,none⟩ (C G 0)).heap.size=wr.heap.size:=by simp[World.setCell]
    rw[<-hs2]at hsz;replace L2:=zZ L2;clear cl0 cl1 hcz cp0 cp1 ch0 ch1 hs2;generalize wr.setCell ⟨gL,k,none⟩ (C G 0)=Wa at *
    have cp0:=ac L2.out.p (i:=0) rfl;have E1:=zZ ((zE Wa).alloc (.cells #[C G (k:Int)] 3));go_upto_region 12 with (at_builtin;refine wpList_append_lies _ rfl _ _ _ rfl w.heap.size 3 i0 _ 1 8 underlying22 hi0 hz0 hz1 hz2 rfl (by omega) (H Ap np cp) np ((fW (dY l k)).map (Value.int .i64)) (by rfl) (L2.out.oP.alloc _) ⟨Wa.heap.size,0,none⟩ 1 1 [C G (k:Int)] (by rfl) (by rfl) (World.news_of_block (cs:=#[C G (k:Int)]) (t:=3) (fr:=(0,0)) (heap_alloc_new Wa _)) (by simp[Value.oneCell']) (by omega) (by unfold maxLen;omega) (by omega) (by have:=HE2.out.size;simp;omega) (Wa.heap.size+1) (by simp) ?_;intro gg cap w3 hown3 hgrow hat hlt3;have HG3:=zZ (L2.out.growP E1.out hgrow hown3 (hat.imp id (fun e=>(by omega))));have HE3:=zZ (ab.grown (HE2.out.trans E1.out) hgrow (aq L2.out.oP));have HW3:Hid (w3.heap[w.heap.size]?=some (.cells #[H (some ⟨bA,oA,none⟩) n c] 22 (0,0))):=(by have h1:=E1.out.blk HW2.out;exact (hgrow.block _ (al h1) (fun e=>aG L2.out.oP HW2.out (by decide) e.symm)).trans h1);have hs3:w2.heap.size+1<w3.heap.size:=(by have:=hgrow.size;have:=E1.out.size;omega);have cp3:=ac HG3.out.1 (i:=0) rfl;have cf3:=ae HG3.out.1 0;clear hown3 hgrow hat hlt3)
    have HL4:=HG3.out.2;rw[<-BW HZ.out rfl,<-tv HZ.out rfl]at HL4;replace HL4:=zZ HL4;have HE4:=zZ (HE3.out.setCell (p:=⟨w2.heap.size,0,none⟩) (by simp;omega) (H (some ⟨gg,0,none⟩) (np+1) cap));have HW4:Hid ((w3.setCell ⟨w2.heap.size,0,none⟩ (H (some ⟨gg,0,none⟩) (np+1) cap)).heap[w.heap.size]?=some (.cells #[H (some ⟨bA,oA,none⟩) n c] 22 (0,0))):=by show _=_;rw[yP _ _ _ _ (by simp;omega)];exact HW3.out
    have hs4:Hid (w2.heap.size+1<(w3.setCell ⟨w2.heap.size,0,none⟩ (H (some ⟨gg,0,none⟩) (np+1) cap)).heap.size):=by show _<_;simpa[World.setCell] using hs3
    clear HG3 cp3 cf3 cp0;go_wp2_with fail;go_roundw
    case rel=>exact⟨k+1,_,_,_,_,_,_,by go_num,by omega,HL4.out,HE4.out,HW4.out,hs4.out⟩
    case measure=>simp[intOf];omega
   ·have hz1':(z==-1)=false:=by simp[hz]
    have hz0':0<=z:=by omega
    have HZN:=zZ hz;clear hz;have L2:=L.out;rw[zu HZ.out hz0' hzb.2]at L2;replace L2:=zZ L2;have E1:=zZ ((zE wr).alloc (.cells #[C G (k:Int)] 3));go_upto_region 12 with (at_builtin;refine wpList_append_lies _ rfl _ _ _ rfl w.heap.size 3 i0 _ 1 8 underlying22 hi0 hz0 hz1 hz2 rfl (by omega) (H Ah nh ch) nh ((fW (gm l k)).map (Value.int .i64)) (by rfl) (L2.out.oH.alloc _) ⟨wr.heap.size,0,none⟩ 1 1 [C G (k:Int)] (by rfl) (by rfl) (World.news_of_block (cs:=#[C G (k:Int)]) (t:=3) (fr:=(0,0)) (heap_alloc_new wr _)) (by simp[Value.oneCell']) (by omega) (by unfold maxLen;omega) (by omega) (by have:=HEr.out.size;simp;omega) (wr.heap.size+1) (by simp) ?_;intro gg cap w3 hown3 hgrow hat hlt3;have HG3:=zZ (L2.out.growH E1.out hgrow hown3 (hat.imp id (fun e=>(by omega))));have HE3:=zZ (ab.grown (HEr.out.trans E1.out) hgrow (aq L2.out.oH));have HW3:Hid (w3.heap[w.heap.size]?=some (.cells #[H (some ⟨bA,oA,none⟩) n c] 22 (0,0))):=(by have h1:=E1.out.blk HWr.out;exact (hgrow.block _ (al h1) (fun e=>aG L2.out.oH HWr.out (by decide) e.symm)).trans h1);have hs3:w2.heap.size+1<w3.heap.size:=(by have:=hgrow.size;have:=E1.out.size;omega);have cp3:=ac HG3.out.1 (i:=0) rfl;have cf3:=ae HG3.out.1 0;clear hown3 hgrow hat hlt3)
    have HL4:=HG3.out.2;rw[<-tf HZ.out HZN.out,<-qJ HZ.out HZN.out]at HL4;replace HL4:=zZ HL4;have HE4:=zZ (HE3.out.setCell (p:=⟨w2.heap.size+1,0,none⟩) (by simp;omega) (H (some ⟨gg,0,none⟩) (nh+1) cap));have HW4:Hid ((w3.setCell ⟨w2.heap.size+1,0,none⟩ (H (some ⟨gg,0,none⟩) (nh+1) cap)).heap[w.heap.size]?=some (.cells #[H (some ⟨bA,oA,none⟩) n c] 22 (0,0))):=by show _=_;rw[yP _ _ _ _ (by simp;omega)];exact HW3.out
    have hs4:Hid (w2.heap.size+1<(w3.setCell ⟨w2.heap.size+1,0,none⟩ (H (some ⟨gg,0,none⟩) (nh+1) cap)).heap.size):=by show _<_;simpa[World.setCell] using hs3
    clear HG3 cp3 cf3;go_wp2_with fail;go_roundw
    case rel=>exact⟨k+1,_,_,_,_,_,_,by go_num,by omega,HL4.out,HE4.out,HW4.out,hs4.out⟩
    case measure=>simp[intOf];omega
  ·have hke:k=n:=by omega
   rw[hke,<-HL.out]at L;rw[CZ]at L;have HIF:Hid (ak wr.heap.size wr (H (some ⟨gL,0,none⟩) n cL) (wI (bv l))):=by have h:=L.out.oL;rw[HL.out]at h;exact (ak.of_own (p:=0) (base:=w.heap.size) (e:=3) (n:=n) (l:=wI (bv l)) h (by omega) (jQ _) (by rw[aT,bt,HL.out];omega)).re (zX _)
   have cp0:=ac L.out.p (i:=0) rfl;go_upto_region 17 with (go_at_call 148;refine (G9 _ (bv l) _ (HT.out.ext HEr.out) HIF.out (by rw[bt,HL.out];omega)).mono ?_;rintro e w4 ⟨rfl,HX4⟩;have cq:∀o,(w4.alloc o).cell? ⟨w2.heap.size,0,none⟩=some (H Ap np cp):=(fun o=>((zE w4).alloc o).cell (HX4.cell cp0));replace HX4:=zZ HX4)
   have hgS:Hid (∀a b,((((w4.alloc (.cells #[C G ((aw (bv l) 0).n:Int),C G ((aw (bv l) 1).n:Int),C G ((aw (bv l) 2).n:Int),C G ((aw (bv l) 3).n:Int),C G ((aw (bv l) 4).n:Int),C G ((aw (bv l) 5).n:Int)] 169)).alloc a).alloc b).heap[w4.heap.size]?=some (.cells (eP (aw (bv l)) 6) 169 (0,0)))):=fun a b=>(((zE _).alloc a).alloc b).blk (heap_alloc_new w4 _);have hgV:Hid (∀o a b,((((w4.alloc o).alloc (.cells #[a] 22)).alloc b).heap[w4.heap.size+1]?=some (.cells #[a] 22 (0,0)))):=fun o a b=>by have:=((zE _).alloc b).blk (heap_alloc_new (w4.alloc o) (.cells #[a] 22));rw[vW]at this;exact this
   have hgF:Hid (∀o a b,((((w4.alloc o).alloc a).alloc (.cells #[b] 189)).heap[w4.heap.size+1+1]?=some (.cells #[b] 189 (0,0)))):=fun o a b=>by have:=heap_alloc_new ((w4.alloc o).alloc a) (.cells #[b] 189);rw[vW,vW]at this;exact this
   have HX5:Hid (∀o a b,ab w4 (((w4.alloc o).alloc a).alloc b)):=fun o a b=>(((zE w4).alloc o).alloc a).alloc b;have HgS:=zZ (hgS.out (.cells #[H none 0 0] 22) (.cells #[.nilFunc] 189));have HgV:=zZ (hgV.out (.cells #[C G ((aw (bv l) 0).n:Int),C G ((aw (bv l) 1).n:Int),C G ((aw (bv l) 2).n:Int),C G ((aw (bv l) 3).n:Int),C G ((aw (bv l) 4).n:Int),C G ((aw (bv l) 5).n:Int)] 169) (H none 0 0) (.cells #[.nilFunc] 189));have HgF:=zZ (hgF.out (.cells #[C G ((aw (bv l) 0).n:Int),C G ((aw (bv l) 1).n:Int),C G ((aw (bv l) 2).n:Int),C G ((aw (bv l) 3).n:Int),C G ((aw (bv l) 4).n:Int),C G ((aw (bv l) 5).n:Int)] 169) (.cells #[H none 0 0] 22) .nilFunc);have HX6:=zZ (HX5.out (.cells #[C G ((aw (bv l) 0).n:Int),C G ((aw (bv l) 1).n:Int),C G ((aw (bv l) 2).n:Int),C G ((aw (bv l) 3).n:Int),C G ((aw (bv l) 4).n:Int),C G ((aw (bv l) 5).n:Int)] 169) (.cells #[H none 0 0] 22) (.cells #[.nilFunc] 189));clear hgS hgV hgF HX5 cq cp0;generalize (((w4.alloc (.cells #[C G ((aw (bv l) 0).n:Int),C G ((aw (bv l) 1).n:Int),C G ((aw (bv l) 2).n:Int),C G ((aw (bv l) 3).n:Int),C G ((aw (bv l) 4).n:Int),C G ((aw (bv l) 5).n:Int)] 169)).alloc (.cells #[H none 0 0] 22)).alloc (.cells #[.nilFunc] 189))=X6 at *
   have hws4:wr.heap.size<=w4.heap.size:=HX4.out.size;have L6:=zZ ((L.out.ext HX4.out).ext HX6.out);have HE6:=zZ ((HEr.out.trans HX4.out).trans HX6.out);have HW6:=zZ ((HX4.out.trans HX6.out).blk HWr.out);have gf0:=ac HgF.out (i:=0) rfl;have gf1:=ae HgF.out 0;clear L HEr HWr HX4 HX6;go_upto_region 18 with (fail)
   have hn6:gL≠w4.heap.size+1+1:=by omega
   have D0:Hid (Dw (bv l) (gm l l.length) n w4.heap.size w.heap.size w2.heap.size (w4.heap.size+1) (w2.heap.size+1) (w4.heap.size+1+1) (some ⟨bA,oA,none⟩) c Ah nh ch w.heap.size
     (X6.setCell ⟨w4.heap.size+1+1,0,none⟩ (.func (.func 149) #[] #[.pointer (some ⟨w4.heap.size,0,none⟩),.pointer (some ⟨w.heap.size,0,none⟩),.pointer (some ⟨w2.heap.size,0,none⟩),.pointer (some ⟨w4.heap.size+1,0,none⟩),.pointer (some ⟨w2.heap.size+1,0,none⟩),.pointer (some ⟨w4.heap.size+1+1,0,none⟩)])) (dY l l.length) Ap np cp (H none 0 0)):=by
    have hk:∀b,b≠w4.heap.size+1+1->∀u,(X6.setCell ⟨w4.heap.size+1+1,0,none⟩ u).heap[b]?=X6.heap[b]?:=fun b hb u=>yP _ _ _ _ (by simpa using hb);have oH':=aN (a:=⟨w4.heap.size+1+1,0,none⟩) L6.out.oH (aG L6.out.oH HgF.out (by decide)) (.func (.func 149) #[] #[.pointer (some ⟨w4.heap.size,0,none⟩),.pointer (some ⟨w.heap.size,0,none⟩),.pointer (some ⟨w2.heap.size,0,none⟩),.pointer (some ⟨w4.heap.size+1,0,none⟩),.pointer (some ⟨w2.heap.size+1,0,none⟩),.pointer (some ⟨w4.heap.size+1+1,0,none⟩)]);refine⟨(hk _ (by omega) _).trans HgS.out,(hk _ (by omega) _).trans HW6.out,(hk _ (by omega) _).trans L6.out.p,(hk _ (by omega) _).trans HgV.out,(hk _ (by omega) _).trans L6.out.h,bn HgF.out _,?_,fun ad hA=>?_,aN L6.out.oP (aG L6.out.oP HgF.out (by decide)) _,L6.out.lP,(HT.out.ext HE6.out).ext ((zE _)) |> fun h=>⟨fun k hk'=>?_,fun k hk'=>?_⟩,b2,by omega,by omega,by omega,by omega,by omega,by omega,by omega,by omega,by omega,by omega,by omega⟩
    ·exact ak.of_own' (e:=3) oH' (aG L6.out.oH L6.out.p (by decide)) (na fun p hp=>by have:=uz hp;have:=HL.out;omega) (by rw[fd,L6.out.lH];omega)
    ·have hob:(Value.slice Ah nh ch).ownBlock=some ad.block:=by rw[hA];rfl
     refine⟨fun e=>aG L6.out.oH L6.out.p (by decide) (by rw[hob,e]),fun e=>aG L6.out.oH HgV.out (by decide) (by rw[hob,e]),fun e=>L6.out.dPH _ e hob,?_⟩;have:=(oH'.lt _ hob).2;exact this
    ·exact (wG (w:=X6) (hk 0 (by omega) _)).trans ((HT.out.ext HE6.out).1 k hk')
    ·exact (wG (w:=X6) (hk 1 (by omega) _)).trans ((HT.out.ext HE6.out).2 k hk')
   have HE7:=zZ (HE6.out.setCell (p:=⟨w4.heap.size+1+1,0,none⟩) (by simp;omega) (.func (.func 149) #[] #[.pointer (some ⟨w4.heap.size,0,none⟩),.pointer (some ⟨w.heap.size,0,none⟩),.pointer (some ⟨w2.heap.size,0,none⟩),.pointer (some ⟨w4.heap.size+1,0,none⟩),.pointer (some ⟨w2.heap.size+1,0,none⟩),.pointer (some ⟨w4.heap.size+1+1,0,none⟩)]));have HOL:=zZ (aN (a:=⟨w4.heap.size+1+1,0,none⟩) L6.out.oL (aG L6.out.oL HgF.out (by decide)) (.func (.func 149) #[] #[.pointer (some ⟨w4.heap.size,0,none⟩),.pointer (some ⟨w.heap.size,0,none⟩),.pointer (some ⟨w2.heap.size,0,none⟩),.pointer (some ⟨w4.heap.size+1,0,none⟩),.pointer (some ⟨w2.heap.size+1,0,none⟩),.pointer (some ⟨w4.heap.size+1+1,0,none⟩)]));rw[HL.out]at HOL;have hdPL:=zZ L6.out.dPL;have HLH:=zZ L6.out.lH;clear gf0 gf1 HgS HgV HgF HE6 HW6 L6;generalize X6.setCell ⟨w4.heap.size+1+1,0,none⟩ _=X7 at *
   have hnp15:np<=15:=by omega
   have hnh15:nh<=15:=by omega
   have HLP:=zZ D0.out.len;have hXg:gL<X7.heap.size:=(HOL.out.lt gL rfl).2;have HAG:=zZ (aq D0.out.own);have hw24:w2.heap.size+1<w4.heap.size:=by omega
   clear hke hkn hnp hnh hsz HIF;go_wp2_with fail;go_loopw [14] (fun s14 wr=>∃(wrong:Nat) (Aq:Option Addr) (cq:Nat) (vq:Value),s14=C G wrong/\wrong<=4/\np<=cq/\cq<=9223372036854775807/\Hid (Dw (bv l) (gm l l.length) n w4.heap.size w.heap.size w2.heap.size (w4.heap.size+1) (w2.heap.size+1) (w4.heap.size+1+1) (some ⟨bA,oA,none⟩) c Ah nh ch w.heap.size wr (dY l l.length) Aq np cq vq/\kv w2.heap.size (w4.heap.size+1) X7 (H Ap np cp) wr (H Aq np cq) /\
    ∀s,s<wrong->∀S,S.Sublist (gm l l.length)->S.length=s->∀c,F.Off (bv l) c (dY l l.length++S)->¬F.Code c)) (fun i _=>7-(intOf i).toNat)
   case atStart=>exact⟨0,Ap,cp,H none 0 0,rfl,by omega,by omega,by omega,D0.out,kv.refl _ _ _ _,fun s hs=>by omega⟩
   case round =>
    clear D0;obtain⟨wrong,Aq,cq,vq,rfl,hw4,hcq1,hcq2,HK⟩:=hrel;have D:=zZ HK.out.1;have HF:=zZ HK.out.2.1;have HNO:=zZ HK.out.2.2;clear HK;by_cases h6:2*wrong+np<=6
    ·have cf:=ac D.out.f (i:=0) rfl;have hd6:decide (2*(wrong:Int)+(np:Int)<=6)=true:=by simp;omega
     have HCA:=zZ (CJ (fl:=bv l) (wh:=gm l l.length) (n:=n) (gS:=w4.heap.size) (gW:=w.heap.size) (gP:=w2.heap.size) (gV:=w4.heap.size+1) (gH:=w2.heap.size+1) (gF:=w4.heap.size+1+1) (Aw:=some ⟨bA,oA,none⟩) (cw:=c) (Ah:=Ah) (nh:=nh) (ch:=ch) (base:=w.heap.size) (by rw[bt];exact HL.out) (by omega) HLH.out ⟨hch1,hch2⟩ wrong 0 wr (dY l l.length) Aq np cq vq D.out (by omega) (by omega) ⟨hcq1,hcq2⟩ (by rw[uZ];exact iY l l.length) (fun p hp=>by
      rw[uZ]at hp;rw[<-HL.out];rcases zM.1 hp with h|h
      ·exact pZ h
      ·exact uz h))
     rw[show ((0:Nat):Int)=0 from rfl]at HCA;go_upto_if 58 with (go_at_call 149;refine HCA.out.mono ?_;rintro e x5 ⟨b5,ps5,A5,n5,c5,v5,rfl,d5,f5,g51,g52,ht,hf⟩;replace d5:=zZ d5;replace f5:=zZ f5;replace ht:=zZ ht;replace hf:=zZ hf)
     clear HCA cf;cases b5 with
     |false =>
      obtain⟨hps5,hno5⟩:=hf.out rfl;subst hps5;have hn5:n5=np:=by rw[<-d5.out.len,HLP.out]
      subst hn5;have HNO5:=zZ hno5;clear hno5 ht hf;go_wp2_with fail;go_roundw
      case rel =>
       refine⟨wrong+1,A5,c5,v5,by go_num,by omega,by omega,by omega,d5.out,HF.out.trans f5.out,fun s hs S hS hl c ho hc=>?_⟩;by_cases e:s=wrong
       ·subst e;rw[uZ]at HNO5;exact HNO5.out S hS hl c ho hc
       ·exact HNO.out s (by omega) S hS hl c ho hc
      case measure=>simp[intOf];omega
     |true =>
      rw[show (!true)=false from rfl];obtain⟨S,xs,q1,q2,q3,q4,q5,q6⟩:=ht.out rfl;rw[uZ]at q1;have HNEAR:Hid (pn l (F.addAt (bv l) ps5 xs) wrong):=by rw[q3]at q6⊢;exact CR q1 q2 (F.Off.addAt _ _ _) q6 (by rw[HLP.out];exact h6) HNO.out
      have hSF:=HF.out.trans f5.out;have hneP:gL≠w2.heap.size:=by omega
      have hneV:gL≠w4.heap.size+1:=by omega
      have HOL5:Hid (x5.ownsRow w.heap.size 3 1 (H (some ⟨gL,0,none⟩) n cL) n ((wI (bv l)).map (Value.int .i64))):=by
       rcases HOL.out with ⟨o1,⟨e,_⟩|⟨g,cap,cur,e,o2,o3,o4⟩⟩
       ·cases e
       ·injection e with e1 e2 e3;injection e1 with e1;injection e1 with e1;subst e1;exact⟨o1,.inr ⟨gL,cap,cur,by rw[e3],o2,(hSF.block gL hXg hneP hneV hdPL.out).trans o3,o4⟩⟩
      have hdP5:(Value.slice A5 n5 c5).ownBlock≠some gL:=fun h=>by
       rcases hSF.own _ h with h1|h1
       ·exact hdPL.out h1
       ·omega
      have hE5:ab w x5:=by have hs:=HE7.out.size;refine⟨hSF.os.trans HE7.out.os,hSF.tape.trans HE7.out.tape,hSF.output.trans HE7.out.output,yR HE7.out.size hSF.size,fun i hi=>?_⟩;exact (hSF.block i (zB hi hs) (by omega) (by omega) (fun h=>by have:=HAG.out i h;omega)).trans (HE7.out.block i hi)
      have HE5:=zZ hE5;have HD5:=zZ hdP5;have hn5:n5<=6:=by rw[<-d5.out.len,q3,yU,q2,HLP.out];omega
      have hplt:∀p∈ps5,p<n:=fun p hp=>by
       rw[q3]at hp;rw[<-HL.out];rcases zM.1 hp with h|h
       ·exact pZ h
       ·exact uz (q1.subset h)
      have HPI:Hid (ak gL x5 (H A5 n5 c5) (fW ps5)):=ak.of_own' (e:=3) d5.out.own hdP5 (na fun p hp=>by have:=hplt p hp;omega) (by rw[fd,d5.out.len];omega);have hgL5:gL<wr.heap.size:=zB hXg HF.out.size;have HVI:=zZ (q5 gL hgL5);obtain⟨Av,nv,cv,rfl,hcv1,hcv2,-,HLV⟩:=(q5 gL hgL5).open_;have HLX:Hid (xs.length=n5):=by show _=_;rw[q4,d5.out.len]
      have hnv:nv=n5:=by have:=HLV.out;rw[aT,HLX.out]at this;exact this.symm
      subst hnv;have HPL:=zZ hplt;have HLPS:=zZ d5.out.len;have cp5:=ac d5.out.p (i:=0) rfl;have gv5:=zZ d5.out.v;have hlf:(bv l).length=n:=by rw[bt];exact HL.out
      have HLF:=zZ hlf;clear q1 q2 q3 q4 q5 q6 ht hf hE5 hdP5 hplt hSF hlf;go_upto_region 23 with (fail)
      go_wp2_with fail;go_loopw [61] (fun s61 wq=>∃(k:Nat),s61=C G k/\k<=nv/\Hid (wq.ownsRow w.heap.size 3 1 (H (some ⟨gL,0,none⟩) n cL) n ((wI (F.addAt (bv l) (ps5.take k) (xs.take k))).map (Value.int .i64))/\XT gL x5 wq)) (fun i _=>nv-(intOf i).toNat)
      case atStart=>exact⟨0,rfl,by omega,by simpa[F.addAt] using HOL5.out,XT.refl _ _⟩
      case round =>
       clear HOL5 cp5;obtain⟨k,rfl,hk,HK⟩:=hrel;by_cases hkn:k<nv
       ·obtain⟨b1,o1,z1,rfl,-⟩:=(HPI.out.xt HK.out.2).at_ hkn;obtain⟨z1,hc1,HZ1,-⟩:=(HPI.out.xt HK.out.2).cell_ hkn;obtain⟨pl,hpl,rfl⟩:=oz HZ1.out;obtain⟨b3,o3,z3,rfl,-⟩:=(HVI.out.xt HK.out.2).at_ hkn;obtain⟨z3,hc3,HZ3,-⟩:=(HVI.out.xt HK.out.2).cell_ hkn;obtain⟨xf,hxf,rfl⟩:=DQ HZ3.out;have hpn:pl<n:=HPL.out pl (zW hpl);have hgv:=ac (HK.out.2.blk gv5.out (fun e=>hneV e.symm)) (i:=0) rfl;have hlen:(F.addAt (bv l) (ps5.take k) (xs.take k)).length=n:=by rw[F.addAt_len];exact HLF.out
        have hsnoc:F.addAt (bv l) (ps5.take (k+1)) (xs.take (k+1))=(F.addAt (bv l) (ps5.take k) (xs.take k)).set pl ((F.addAt (bv l) (ps5.take k) (xs.take k)).getD pl 0+xf):=by rw[ax hpl,ax hxf];exact mB _ _ _ _ _ (by rw[yW,yW,HLPS.out,HLX.out])
        have hcell:wr.cell? ⟨gL,pl,none⟩=some (C G (((F.addAt (bv l) (ps5.take k) (xs.take k)).getD pl 0).n:Int)):=by rw[HK.out.1.cellAt pl (by omega),zP];unfold wI;rw[zP,F.getD_eq (w:=F.addAt (bv l) (ps5.take k) (xs.take k)) (by omega)];rfl
        have hfz:wr.frozen? ⟨gL,pl,none⟩=false:=HK.out.1.frozenAt pl;have HSN:=zZ hsnoc;generalize (F.addAt (bv l) (ps5.take k) (xs.take k)).getD pl 0=yf at *
        clear hsnoc hpl hxf HZ1 HZ3;have hS:wr.drew.cell? ⟨gL,pl,none⟩=some (C G (yf.n:Int))/\wr.drew.cell? ⟨w4.heap.size+1,0,none⟩=some (H (some ⟨b3,o3,none⟩) nv cv)/\wr.drew.cell? ⟨b3,o3+k,none⟩=some (C G (xf.n:Int)):=⟨hcell,hgv,hc3⟩
        replace hS:=zZ hS;have e1:(0:Int)<=(k:Int):=xT _;have e2:(k:Int)<(nv:Int):=by omega
        have e3:(0:Int)<=(pl:Int):=xT _;have e4:(pl:Int)<(n:Int):=by omega
        go_upto_region 25 with (fail)
        refine zR 10 (fun w'=>w'.cell? ⟨gL,pl,none⟩=some (C G (yf.n:Int))/\w'.cell? ⟨w4.heap.size+1,0,none⟩=some (H (some ⟨b3,o3,none⟩) nv cv)/\w'.cell? ⟨b3,o3+k,none⟩=some (C G (xf.n:Int))) ?_;refine zS 10 [(0,66),(1,67),(2,68),(3,69),(4,70),(5,71),(6,72),(7,73),(8,74),(9,75)] hS.out ?_;iterate 10 refine zT ?_
        refine zN (zO 10 (fun K hK=>?_));go_simp;refine hK.out _ _ (fun h=>absurd rfl h) ?_;clear hK K;refine zD ?_;rw[pD];have HO6:Hid ((wr.setCell ⟨gL,pl,none⟩ (C G ((yf+xf).n:Int))).drew.ownsRow w.heap.size 3 1 (H (some ⟨gL,0,none⟩) n cL) n ((wI (F.addAt (bv l) (ps5.take (k+1)) (xs.take (k+1)))).map (Value.int .i64))):=by have h:=(World.ownsRow.stored HK.out.1 pl (C G ((yf+xf).n:Int))).1;rw[HSN.out];unfold wI at h⊢;rw[wX,wX];exact h.drew
        have HX6:Hid (XT gL x5 (wr.setCell ⟨gL,pl,none⟩ (C G ((yf+xf).n:Int))).drew):=(HK.out.2.setCell rfl _).drew;clear hS hcell hgv hc1 hc3 hfz;go_wp2_with fail;go_roundw
        case rel=>exact⟨k+1,by go_num,by omega,HO6.out,HX6.out⟩
        case measure=>simp[intOf];omega
       ·have hke:k=nv:=by omega
        rw[hke,bh HLPS.out,bh HLX.out]at HK;clear hke;have e1:(0:Int)<=(n:Int)-6:=by omega
        have e2:(n:Int)-6<=(cL:Int):=by omega
        have e3:((n:Int)-6).toNat=n-6:=by omega
        go_wp2_with fail;go_ret3
        have hlen:(F.addAt (bv l) ps5 xs).length=n:=by rw[F.addAt_len];exact HLF.out
        refine⟨some ⟨gL,0,none⟩,n-6,n-6,(F.addAt (bv l) ps5 xs).take (n-6),(wrong:Int),0,?_,?_,HK.out.2.fresh HE5.out (by omega),(fun h=>by rw[HBW.out]at h;cases h),fun _=>.inl ⟨_,wrong,HNEAR.out,by rw[HL.out],rfl,rfl⟩⟩
        ·rfl
        ·have h:=ak.of_own' (p:=w.heap.size) (e:=3) HK.out.1 (by simp[Value.ownBlock];omega) (jQ _) (by rw[aT,hlen];omega);have h2:=h.take (k:=n-6) (by omega);have e:wI ((F.addAt (bv l) ps5 xs).take (n-6))=(wI (F.addAt (bv l) ps5 xs)).take (n-6):=by unfold wI;rw[List.map_take]
         rw[e];obtain⟨A',c',hv,k1,k2,k3,k4,k5⟩:=h2;injection hv with v1 v2 v3;subst v1;exact⟨_,n-6,by rw[<-v2],by omega,by omega,k3,k4,k5⟩
    ·have HNN:=zZ (Fz (l:=l) (wrong:=wrong) (by rw[HLP.out];omega) HNO.out);have HE5:Hid (ab w wr):=by
      have hs:=HE7.out.size;refine⟨HF.out.os.trans HE7.out.os,HF.out.tape.trans HE7.out.tape,HF.out.output.trans HE7.out.output,yR HE7.out.size HF.out.size,fun i hi=>?_⟩;exact (HF.out.block i (zB hi hs) (by omega) (by omega) (fun h=>by have:=HAG.out i h;omega)).trans (HE7.out.block i hi)
     go_wp2_with fail;go_ret3
     exact⟨none,0,0,[],0,25,rfl,ak.nil _ _,HE5.out,(fun h=>by rw[HBW.out]at h;cases h),fun _=>.inr ⟨HNN.out,rfl,rfl,rfl⟩⟩
def rB{α:Type}(a b:List α)(k:Nat):Prop:=∀j,j<k->a[j]?=b[j]?
section
variable {α:Type} {a b:List α} {k:Nat} {x y:α}
theorem rB.zero(a b:List α):rB a b 0:=fun j hj=>by omega
theorem rB.succ(h:rB a b k)(hx:a[k]?=some x)(hy:b[k]?=some y)(e:x=y):rB a b (k+1):=by
 intro j hj;by_cases c:j=k
 ·subst c;rw[hx,hy,e]
 ·exact h j (by omega)
theorem rB.all(h:rB a b n)(ha:a.length=n)(hb:b.length=n):a=b:=by
 apply xW;intro j;rcases zU j n with hj|hj
 ·exact h j hj
 ·rw[zC (by omega),zC (by omega)]
theorem JZ(hx:a[k]?=some x)(hy:b[k]?=some y)(e:x≠y):a≠b:=by rintro rfl;rw[hx]at hy;exact e (xF hy)
end
theorem IA(va vb:Value)(a b:List Int)(w:World)(ha:ak p w va a)(hb:ak q w vb b) :
  Calls prog 40 #[va,vb] w fun e w'=>e=.returned (.bool (decide (a=b)))/\∃m,w'=w.drewN m:=by
 obtain⟨A,n,c,rfl,hnc,hc,hnn,HL⟩:=ha.open_;obtain⟨B,n',c',rfl,hnc',hc',hnn',HL'⟩:=hb.open_;have HA:=zZ ha;have HB:=zZ hb;clear ha hb;by_cases hn:n=n'
 ·subst hn;go_enter func40,ntmps40
  go_wp2_with fail;go_loopw [5] (fun i wr=>∃(k m:Nat),k<=n/\i=C G k/\Hid (rB a b k)/\wr=w.drewN m) (fun i _=>n-(intOf i).toNat)
  case atStart=>exact⟨0,0,xL _,rfl,rB.zero _ _,rfl⟩
  case round =>
   obtain⟨k,m,hk,rfl,HK,rfl⟩:=hrel;by_cases hlt:k<n
   ·obtain⟨b1,o1,x,rfl,hcx,HX,hx1,hx2⟩:=HA.out.at_ hlt;obtain⟨b2,o2,y,rfl,hcy,HY,hy1,hy2⟩:=HB.out.at_ hlt;by_cases e:x=y
    ·have e1:(x != y)=false:=by simp[e]
     have E:=zZ e;clear e;go_wp2_with fail;go_quiet (fail)
     go_wp2_with fail;go_roundw
     case rel=>exact⟨k+1,_,by omega,by go_num,HK.out.succ HX.out HY.out E.out,rfl⟩
     case measure=>simp[intOf];omega
    ·have e1:(x != y)=true:=by simp[e]
     have E:=zZ e;clear e;go_wp2_with fail;go_quiet (fail)
     go_wp2_with fail;go_ret
     exact⟨aa (by have:=JZ HX.out HY.out E.out;simp[this]),_,World.drewN_drewN _ _ _⟩
   ·obtain rfl:k=n:=by omega
    go_wp2_with fail;go_ret
    exact⟨aa (by have:=HK.out.all HL.out HL'.out;simp[this]),_,rfl⟩
 ·have e1:((n:Int)!=(n':Int))=true:=by simp;omega
  have HN:Hid (a≠b):=by rintro rfl;exact hn (HL.out.symm.trans HL'.out)
  clear hn;go_enter func40,ntmps40
  go_wp2_with fail;go_ret
  exact⟨aa (by have:=HN.out;simp[this]),0,rfl⟩
theorem rP(va vb:Value)(a b:List Int)(w:World)(ha:ak p w va a)(hb:ak q w vb b) :
  Calls prog 40 #[va,vb] w fun e w'=>e=.returned (.bool (decide (a=b)))/\ab w w' :=
 (IA va vb a b w ha hb).mono fun _ _ ⟨he,m,hm⟩=>⟨he,by rw[hm];exact (zE _).drewN _⟩
end Go.Proofs.YtkaajgoeahahpaaGreatDoor

