import Derived.Test.YtkaajgoeahahpaaGreatDoorK9
import Derived.Test.YtkaajgoeahahpaaGreatDoorK1
import Derived.Deep.OwnRows
set_option linter.all false
set_option maxRecDepth 100000
set_option maxHeartbeats 0
namespace Go.Proofs.YtkaajgoeahahpaaGreatDoor
open Go.Value renaming int→B,slice→D
open Go.IntKind renaming i64→C
open Go.RowKit _root_.Go.Proofs.Tryz
variable {w:World} {base j k n size wd:Nat}
def ra(M:Nat->Nat->F)(u:Nat):Bool:=(List.range 6).all fun r=>decide (r<u)||(M r u==0)
theorem lq(M:Nat->Nat->F)(u:Nat):ra M u=true↔∀r,u<=r->r<6->M r u=0:=by
 unfold ra;simp only[xS,yX,Bool.or_eq_true,decide_eq_true_eq,beq_iff_eq];constructor
 ·intro h r h1 h2;rcases h r h2 with h3|h3
  ·omega
  ·exact h3
 ·intro h r hr;rcases zU r u with h1|h1
  ·exact .inl h1
  ·exact .inr (h r h1 hr)
theorem FJ(base g cap u:Nat)(M:Nat->Nat->F)(w:World)(hT:cK w)(hM:dQ base g 22 3 w M (u+1))(hu:u<=6)(hcap:6<=cap/\cap<=9223372036854775807)(hb2:2<=base)(ind:∀X,F.Sol M X (u+1)->X u=0->∀c,c<u->X c=0) :
  Calls prog 195 #[D (some ⟨g,0,none⟩) 6 cap,B C (u:Int)] w fun e w'=>∃M',e=.returned (.bool (ra M' u)) /\
   dQ base g 22 3 w' M' (u+1)/\F.Unit6 M' u/\(∀X,F.Sol M' X (u+1)↔F.Sol M X (u+1))/\Below base w w':=by
 have HT:=zZ hT;have HM:=zZ hM;have HI:=zZ ind;obtain⟨hcap1,hcap2⟩:=hcap;clear hT hM ind;have HTB:Hid (∀w',Below base w w'->cK w'):=fun w' h=>⟨fun k hk=>(h.cell (by simp only;omega)).trans (HT.out.1 k hk),fun k hk=>(h.cell (by simp only;omega)).trans (HT.out.2 k hk)⟩
 clear HT;go_enter func195,ntmps195
 go_wp2_with fail;go_loopw [14] (fun s14 wr=>∃(k:Nat),s14=B C k/\k<=u/\Hid (∃N,dQ base g 22 3 wr N (u+1)/\F.Unit6 N k/\(∀X,F.Sol N X (u+1)↔F.Sol M X (u+1))/\Below base w wr)) (fun i _=>u-(intOf i).toNat)
 case atStart=>exact⟨0,rfl,by omega,M,HM.out,fun r c _ hc=>by omega,fun X=>Iff.rfl,Below.refl _ _⟩
 case round =>
  clear HM;obtain⟨k,rfl,hk,HK⟩:=hrel;obtain⟨N,m1,m2,m3,m4⟩:=HK.out;have H1:=zZ m1;have H2:=zZ m2;have H3:=zZ m3;have H4:=zZ m4;clear m1 m2 m3 m4 HK;by_cases hku:k<u
  ·have hd:decide ((k:Int)<(u:Int))=true:=by simp;omega
   obtain⟨wo,rfl⟩:=nm (wr:World);have HP:Hid (∃p,k<=p/\p<6/\N p k≠0):=F.pivot_ex hku hu H2.out (fun X hX h0=>HI.out X ((H3.out X).1 hX) h0);go_wp2_with fail;go_loopw [6] (fun s6 wr=>∃(p:Nat),s6=B C p/\k<=p/\p<6/\Hid (∀q,k<=q->q<p->N q k=0)/\wr=wo) (fun i _=>6-(intOf i).toNat)
   case atStart=>exact⟨k,rfl,by omega,by omega,fun q h1 h2=>by omega,rfl⟩
   case round =>
    obtain⟨p,rfl,hkp,hp6,HQ,rfl⟩:=hrel;obtain⟨b,cu,hc0,hcu1,hcu2,-,-,hce,hfr,hput⟩:=H1.out.at_ hp6;have c1:=hce k (by omega);have HPUT:=zZ hput;clear hput hce hfr;have hd2:decide ((p:Int)<6)=true:=by simp;omega
    by_cases hz:N p k=0
    ·have hz':(((N p k).n:Int)==0)=true:=by rw[hz];rfl
     have HZ:=zZ hz;clear hz;go_wp2_with fail;go_roundw
     case rel =>
      obtain⟨p',a1,a2,a3⟩:=HP.out;have hnew:∀q,k<=q->q<p+1->N q k=0:=fun q h1 h2=>by
       by_cases e:q=p
       ·subst e;exact HZ.out
       ·exact HQ.out q h1 (by omega)
      have:p+1<=p':=by
       rcases zU p' (p+1) with hlt|hge
       ·exact absurd (hnew p' a1 hlt) a3
       ·exact hge
      exact⟨p+1,by go_num,by omega,by omega,hnew,trivial⟩
     case measure=>simp[intOf];omega
    ·have hz':(((N p k).n:Int)==0)=false:=by rw[lk];simp[hz]
     have HZ:=zZ hz;clear hz;go_upto_region 9 with (fail)
     obtain⟨bk,ck,bp,cp,s1,s2,s3,s4,hsw⟩:=H1.out.swap (k:=k) (p:=p) (by omega) hp6;have HSW:=zZ hsw;have HC1:=zZ c1;clear hsw hc0 c1 HPUT;have hS:wr.drew.cell? ⟨g,k,none⟩=some (D (some ⟨bk,0,none⟩) (u+1) ck)/\wr.drew.cell? ⟨g,p,none⟩=some (D (some ⟨bp,0,none⟩) (u+1) cp):=⟨s1,s2⟩
     replace hS:=zZ hS;have e1:(0:Int)<=(k:Int):=xT _;have e2:(k:Int)<6:=by omega
     have e3:(0:Int)<=(p:Int):=xT _;have e4:(p:Int)<6:=by omega
     refine Bn 13 (fun w'=>w'.cell? ⟨g,k,none⟩=some (D (some ⟨bk,0,none⟩) (u+1) ck)/\w'.cell? ⟨g,p,none⟩=some (D (some ⟨bp,0,none⟩) (u+1) cp)) (by kernel_rfl) ?_;refine bD 0 (some 38) (v:=?kv1) rfl rfl (by kernel_rfl) (by kernel_rfl) (by kernel_rfl) (by decide) (fun _ _ _ h=>h) (by rfl) ?ky1 (fun _=>hS.out) ?kr1;case ky1=>(intro wk;go_simp;try with_reducible rfl)
     try simp only[kA]
     refine bD 1 (some 39) (v:=?kv2) rfl rfl (by kernel_rfl) (by kernel_rfl) (by kernel_rfl) (by decide) (fun _ _ _ h=>h) (by rfl) ?ky2 (fun _=>hS.out) ?kr2;case ky2=>(intro wk;go_simp;try with_reducible rfl)
     try simp only[kA]
     refine bD 2 (some 40) (v:=?kv3) rfl rfl (by kernel_rfl) (by kernel_rfl) (by kernel_rfl) (by decide) (fun _ _ _ h=>h) (by rfl) ?ky3 (fun _=>hS.out) ?kr3;case ky3=>(intro wk;go_simp;try with_reducible rfl)
     try simp only[kA]
     refine bD 3 (some 41) (v:=?kv4) rfl rfl (by kernel_rfl) (by kernel_rfl) (by kernel_rfl) (by decide) (fun _ _ _ h=>h) (by rfl) ?ky4 (fun _=>hS.out) ?kr4;case ky4=>(intro wk;go_simp;try with_reducible rfl)
     try simp only[kA]
     refine bD 4 (some 42) (v:=?kv5) rfl rfl (by kernel_rfl) (by kernel_rfl) (by kernel_rfl) (by decide) (fun _ _ _ h=>h) (by rfl) ?ky5 (fun _=>hS.out) ?kr5;case ky5=>(intro wk;go_simp;try with_reducible rfl)
     try simp only[kA]
     refine bD 5 (some 43) (v:=?kv6) rfl rfl (by kernel_rfl) (by kernel_rfl) (by kernel_rfl) (by decide) (fun _ _ _ h=>h) (by rfl) ?ky6 (fun _=>hS.out) ?kr6;case ky6=>(intro wk;go_simp;try with_reducible rfl)
     try simp only[kA]
     refine bD 6 (some 44) (v:=?kv7) rfl rfl (by kernel_rfl) (by kernel_rfl) (by kernel_rfl) (by decide) (fun _ _ _ h=>h) (by rfl) ?ky7 (fun _=>hS.out) ?kr7;case ky7=>(intro wk;go_simp;try with_reducible rfl)
     try simp only[kA]
     refine pz 7 (some 45) (v:=?kv8) rfl rfl (by kernel_rfl) (by kernel_rfl) (by kernel_rfl) (by decide) (by kernel_rfl) (by kernel_rfl) (fun _ _ _ h=>h) (by rfl) ?ky8 hS.out ?kr8;case ky8=>((intro wk hk);(try dsimp only at hk);go_simp;try with_reducible rfl)
     try simp only[kA]
     refine bD 8 (some 46) (v:=?kv9) rfl rfl (by kernel_rfl) (by kernel_rfl) (by kernel_rfl) (by decide) (fun _ _ _ h=>h) (by rfl) ?ky9 (fun _=>hS.out) ?kr9;case ky9=>(intro wk;go_simp;try with_reducible rfl)
     try simp only[kA]
     refine bD 9 (some 47) (v:=?kv10) rfl rfl (by kernel_rfl) (by kernel_rfl) (by kernel_rfl) (by decide) (fun _ _ _ h=>h) (by rfl) ?ky10 (fun _=>hS.out) ?kr10;case ky10=>(intro wk;go_simp;try with_reducible rfl)
     try simp only[kA]
     refine bD 10 (some 48) (v:=?kv11) rfl rfl (by kernel_rfl) (by kernel_rfl) (by kernel_rfl) (by decide) (fun _ _ _ h=>h) (by rfl) ?ky11 (fun _=>hS.out) ?kr11;case ky11=>(intro wk;go_simp;try with_reducible rfl)
     try simp only[kA]
     refine pz 11 (some 49) (v:=?kv12) rfl rfl (by kernel_rfl) (by kernel_rfl) (by kernel_rfl) (by decide) (by kernel_rfl) (by kernel_rfl) (fun _ _ _ h=>h) (by rfl) ?ky12 hS.out ?kr12;case ky12=>((intro wk hk);(try dsimp only at hk);go_simp;try with_reducible rfl)
     try simp only[kA]
     refine bD 12 (some 50) (v:=?kv13) rfl rfl (by kernel_rfl) (by kernel_rfl) (by kernel_rfl) (by decide) (fun _ _ _ h=>h) (by rfl) ?ky13 (fun _=>hS.out) ?kr13;case ky13=>(intro wk;go_simp;try with_reducible rfl)
     try simp only[kA]
     refine qQ 13 (by kernel_rfl) rfl (fun K hK=>?_);go_simp;have s5:(wr.setCell ⟨g,k,none⟩ (D (some ⟨bp,0,none⟩) (u+1) cp)).cell? ⟨g,p,none⟩=some (D (some ⟨bp,0,none⟩) (u+1) cp):=by
      by_cases e:p=k
      ·subst e;exact World.cell?_setCell_same _ _ _ s2
      ·rw[World.cell?_setCell_other _ _ _ _ (fun h=>e (by injection h with _ h2;exact h2.symm))];exact s2
     refine hK.out _ _ (fh (by kernel_rfl)) ?_;clear hK K;try simp only[kA]
     refine bD 14 (some 51) (v:=?kv14) rfl rfl (by kernel_rfl) (by kernel_rfl) (by kernel_rfl) (by decide) (fun _ _ _ h=>h) (by rfl) ?ky14 (fh (by kernel_rfl)) ?kr14;case ky14=>(intro wk;go_simp;try with_reducible rfl)
     try simp only[kA]
     refine qQ 15 (by kernel_rfl) rfl (fun K hK=>?_);go_simp;refine hK.out _ _ (fh (by kernel_rfl)) ?_;clear hK K;try simp only[kA]
     refine AD (by kernel_rfl) ?_ _;have hM1:=HSW.out wr (zE _);have HM1:=zZ (hM1.1.ext (zE _).drew);have HB1:=zZ ((xD H4.out hM1.2).drew);clear hM1 HSW hS s1 s2 s3 s4 s5;generalize ((wr.setCell ⟨g,k,none⟩ (D (some ⟨bp,0,none⟩) (u+1) cp)).setCell ⟨g,p,none⟩ (D (some ⟨bk,0,none⟩) (u+1) ck)).drew=W1 at *
     have HNK:Hid (F.swapM N k p k k=N p k):=by show _=_;unfold F.swapM;rw[if_pos rfl]
     generalize hM1:F.swapM N k p=M1 at *
     have HM1d:=zZ hM1;clear hM1 HC1 H1 H4;obtain⟨b1,cu1,h10,h11,h12,-,-,h13,-,-⟩:=HM1.out.at_ (r:=k) (by omega);have h14:=h13 k (by omega);rw[HNK.out]at h14;clear h13;generalize hpv:N p k=pv at *
     have HPV:=zZ hpv;clear hpv;go_upto_region 12 with (go_at_call 216;refine (EF pv _ (HTB.out _ HB1.out)).mono ?_;rintro e x1 ⟨rfl,hx1⟩;replace hx1:=hx1.symm;subst hx1)
     clear h10 h14;go_wp2_with fail;go_loopw [65] (fun s65 wr=>∃(c:Nat),s65=B C c/\c<=u+1/\Hid (dQ base g 22 3 wr (F.scaleTo M1 k pv.inv c) (u+1)/\Below base w wr)) (fun i _=>u+1-(intOf i).toNat)
     case atStart=>exact⟨0,rfl,by omega,by rw[F.scaleTo_zero];exact HM1.out,HB1.out⟩
     case round =>
      clear HM1 HB1;obtain⟨c,rfl,hc,HC⟩:=hrel;by_cases hcu:c<u+1
      ·obtain⟨b2,cu2,a0,a1,a2,-,-,a3,a4,a5⟩:=HC.out.1.at_ (r:=k) (by omega);have a6:=a3 c (by omega);have a7:=a4 c;have HPUT:=zZ a5;clear a3 a4 a5;have hv:F.scaleTo M1 k pv.inv c k c=M1 k c:=by unfold F.scaleTo;rw[if_neg (by omega)]
       rw[hv]at a6;clear hv;have HTr:=zZ (HTB.out _ HC.out.2);have hS:wr.drew.cell? ⟨g,k,none⟩=some (D (some ⟨b2,0,none⟩) (u+1) cu2)/\wr.drew.cell? ⟨b2,c,none⟩=some (B C ((M1 k c).n:Int)):=⟨a0,a6⟩
       replace hS:=zZ hS;have f1:(0:Int)<=(c:Int):=xT _;have f2:(c:Int)<(u:Int)+1:=by omega
       go_upto_region 14 with (fail)
       refine zR 15 (fun w'=>w'.cell? ⟨g,k,none⟩=some (D (some ⟨b2,0,none⟩) (u+1) cu2)/\w'.cell? ⟨b2,c,none⟩=some (B C ((M1 k c).n:Int))) ?_;refine zS 13 [(0,68),(1,69),(2,70),(3,71),(4,72),(5,73),(6,74),(7,75),(8,76),(9,77),(10,78),(11,79),(12,80)] hS.out ?_;iterate 13 refine zT ?_
       refine zN (zO 13 (fun K hK=>?_));go_simp;refine (AM (M1 k c) pv.inv _ (HTr.out.ext (zE _).drew)).mono ?_;rintro e x1 ⟨rfl,m2,hx1⟩;have HX1:Hid (ab wr x1):=by rw[hx1];exact (zE wr).drew.drewN m2
       clear hx1;replace a0:=HX1.out.cell a0;replace a6:=HX1.out.cell a6;replace hS:=zZ (yJ a0 a6);have hfz:=(HC.out.1.ext HX1.out).frozAt (r:=k) (by omega) a0 c;refine hK.out _ _ (fun _=>hS.out) ?_;clear hK K;try simp only[kA]
       refine zS 1 [(14,82)] hS.out ?_;refine zT ?_;refine zN (zO 15 (fun K hK=>?_));go_simp;refine hK.out _ _ (fun h=>absurd rfl h) ?_;clear hK K;refine zD ?_;have hP:=HPUT.out x1 c (M1 k c*pv.inv) HX1.out;rw[F.scaleTo_succ]at hP;have HP1:=zZ hP.1;have HP2:=zZ (xD HC.out.2 hP.2);clear hP HPUT hS a0 a6 a7 hfz;go_wp2_with fail;go_roundw
       case rel=>exact⟨c+1,by go_num,by omega,HP1.out,HP2.out⟩
       case measure=>simp[intOf];omega
      ·have hce:c=u+1:=by omega
       rw[hce]at HC;have HM2:Hid (dQ base g 22 3 wr (F.scaleM M1 k pv.inv) (u+1)):=HC.out.1.congr fun r c _ hc=>by
        unfold F.scaleTo F.scaleM;by_cases e:r=k
        ·rw[if_pos ⟨e,hc⟩,if_pos e]
        ·rw[if_neg (fun h=>e h.1),if_neg e]
       have HB2:=zZ HC.out.2;clear HC hce;have HSTEP:Hid (F.redM (F.scaleM M1 k pv.inv) k=F.stepM N k p):=by show _=_;rw[<-HM1d.out,<-HPV.out];rfl
       generalize F.scaleM M1 k pv.inv=M2 at *
       clear HM1d HNK;go_upto_region 17 with (fail)
       go_wp2_with fail;go_loopw [86] (fun s86 wr=>∃(r:Nat),s86=B C r/\r<=6/\Hid (dQ base g 22 3 wr (F.redTo M2 k r 0) (u+1)/\Below base w wr)) (fun i _=>6-(intOf i).toNat)
       case atStart=>exact⟨0,rfl,by omega,by rw[F.redTo_zero];exact HM2.out,HB2.out⟩
       case round =>
        clear HM2 HB2;obtain⟨r,rfl,hr,HR⟩:=hrel;by_cases hr6:r<6
        ·obtain⟨b2,cu2,a0,a1,a2,-,-,a3,a4,-⟩:=HR.out.1.at_ (r:=r) hr6;have a6:=a3 k (by omega);have hv:F.redTo M2 k r 0 r k=M2 r k:=by unfold F.redTo;rw[if_neg (by omega)]
         rw[hv]at a6;clear a3 a4 hv;have hd3:decide ((r:Int)<6)=true:=by simp;omega
         by_cases hrk:r=k
         ·have HRK:=zZ hrk;have q1:((r:Int)==(k:Int))=true:=by simp[hrk]
          clear hrk;go_wp2_with fail;go_roundw
          case rel =>
           refine⟨r+1,by go_num,by omega,HR.out.1.congr fun r' c' h1 h2=>?_,HR.out.2⟩;unfold F.redTo;have:=HRK.out;by_cases e:r'≠k/\(r'<r\/r'=r/\c'<0)
           ·rw[if_pos e,if_pos ⟨e.1,by omega⟩]
           ·rw[if_neg e,if_neg (fun h=>e ⟨h.1,by omega⟩)]
          case measure=>simp[intOf];omega
         have q1:((r:Int)==(k:Int))=false:=by simp;omega
         have HRK:=zZ hrk;clear hrk;by_cases hf:M2 r k=0
         ·have q2:(((M2 r k).n:Int)==0)=true:=by rw[hf];rfl
          have HF:=zZ hf;clear hf;go_wp2_with fail;go_roundw
          case rel =>
           refine⟨r+1,by go_num,by omega,HR.out.1.congr fun r' c' h1 h2=>?_,HR.out.2⟩;unfold F.redTo;by_cases e0:r'=r
           ·subst e0;rw[if_neg (by omega),HF.out,F.zero_mul,F.add_zero];split<;>rfl
           ·by_cases e:r'≠k/\(r'<r\/r'=r/\c'<0)
            ·rw[if_pos e,if_pos ⟨e.1,by omega⟩]
            ·rw[if_neg e,if_neg (fun h=>e ⟨h.1,by omega⟩)]
          case measure=>simp[intOf];omega
         have q2:(((M2 r k).n:Int)==0)=false:=by rw[lk];simp[hf]
         clear hf;obtain⟨wo,rfl⟩:=nm (wr:World);go_upto_region 22 with (fail)
         clear a0 a1 a2 a6 q1 q2;go_wp2_with fail;go_loopw [108] (fun s108 wr=>∃(c:Nat),s108=B C c/\c<=u+1/\Hid (dQ base g 22 3 wr (F.redTo M2 k r c) (u+1)/\Below base w wr)) (fun i _=>u+1-(intOf i).toNat)
         case atStart=>exact⟨0,rfl,by omega,HR.out.1,HR.out.2⟩
         case round =>
          clear HR;obtain⟨c,rfl,hc,HC⟩:=hrel;by_cases hcu:c<u+1
          ·obtain⟨b2,cu2,a0,a1,a2,-,-,a3,a4,a5⟩:=HC.out.1.at_ (r:=r) hr6;obtain⟨b3,cu3,d0,d1,d2,-,-,d3,-,-⟩:=HC.out.1.at_ (r:=k) (by omega);have a6:=a3 c (by omega);have d6:=d3 c (by omega);have HPUT:=zZ a5;have hv:F.redTo M2 k r c r c=M2 r c:=by unfold F.redTo;rw[if_neg (by omega)]
           have hv2:F.redTo M2 k r c k c=M2 k c:=by unfold F.redTo;rw[if_neg (by omega)]
           rw[hv]at a6;rw[hv2]at d6;clear a3 a4 a5 d3 hv hv2;have HTr:=zZ (HTB.out _ HC.out.2);have hS:wr.drew.cell? ⟨g,r,none⟩=some (D (some ⟨b2,0,none⟩) (u+1) cu2)/\wr.drew.cell? ⟨b2,c,none⟩=some (B C ((M2 r c).n:Int))/\wr.drew.cell? ⟨g,k,none⟩=some (D (some ⟨b3,0,none⟩) (u+1) cu3)/\wr.drew.cell? ⟨b3,c,none⟩=some (B C ((M2 k c).n:Int)):=⟨a0,a6,d0,d6⟩
           replace hS:=zZ hS;have f1:(0:Int)<=(c:Int):=xT _;have f2:(c:Int)<(u:Int)+1:=by omega
           have f3:(0:Int)<=(r:Int):=xT _;have f4:(r:Int)<6:=by omega
           go_upto_region 24 with (fail)
           refine zR 18 (fun w'=>w'.cell? ⟨g,r,none⟩=some (D (some ⟨b2,0,none⟩) (u+1) cu2)/\w'.cell? ⟨b2,c,none⟩=some (B C ((M2 r c).n:Int))/\w'.cell? ⟨g,k,none⟩=some (D (some ⟨b3,0,none⟩) (u+1) cu3)/\w'.cell? ⟨b3,c,none⟩=some (B C ((M2 k c).n:Int))) ?_;refine zS 15 [(0,111),(1,112),(2,113),(3,114),(4,115),(5,116),(6,117),(7,118),(8,119),(9,120),(10,121),(11,122),(12,123),(13,124),(14,125)] hS.out ?_;iterate 15 refine zT ?_
           refine zN (zO 15 (fun K hK=>?_));go_simp;refine (AM (M2 r k) (M2 k c) _ (HTr.out.ext (zE _).drew)).mono ?_;rintro e x1 ⟨rfl,m2,hx1⟩;have HX1:Hid (ab wr x1):=by rw[hx1];exact (zE wr).drew.drewN m2
           clear hx1;replace a0:=HX1.out.cell a0;replace a6:=HX1.out.cell a6;replace d0:=HX1.out.cell d0;replace d6:=HX1.out.cell d6;replace hS:=zZ (yJ a0 (yJ a6 (yJ d0 d6)));have hfz:=(HC.out.1.ext HX1.out).frozAt (r:=r) hr6 a0 c;refine hK.out _ _ (fun _=>hS.out) ?_;clear hK K;try simp only[kA]
           refine zS 2 [(16,127),(17,128)] hS.out ?_;iterate 2 refine zT ?_
           refine zN (zO 18 (fun K hK=>?_));go_simp;refine hK.out _ _ (fun h=>absurd rfl h) ?_;clear hK K;refine zD ?_;rw[pD];have hP:=HPUT.out x1 c (M2 r c+M2 r k*M2 k c) HX1.out;rw[F.redTo_succ _ _ _ _ HRK.out]at hP;have HP1:=zZ hP.1;have HP2:=zZ (xD HC.out.2 hP.2);clear hP HPUT hS a0 a6 d0 d6 hfz;go_wp2_with fail;go_roundw
           case rel=>exact⟨c+1,by go_num,by omega,HP1.out,HP2.out⟩
           case measure=>simp[intOf];omega
          ·obtain rfl:c=u+1:=by omega
           go_wp2_with fail;go_roundw
           case rel =>
            refine⟨r+1,by go_num,by omega,HC.out.1.congr fun r' c' h1 h2=>?_,HC.out.2⟩;unfold F.redTo;by_cases e:r'≠k/\(r'<r\/r'=r/\c'<u+1)
            ·rw[if_pos e,if_pos ⟨e.1,by omega⟩]
            ·rw[if_neg e,if_neg (fun h=>e ⟨h.1,by omega⟩)]
           case measure=>simp[intOf];omega
        ·obtain rfl:r=6:=by omega
         go_wp2_with fail;go_roundw
         case rel =>
          refine⟨k+1,by go_num,by omega,F.stepM N k p,?_,F.unit_step H2.out (by omega) hp6 hkp (by rw[HPV.out];exact HZ.out),fun X=>(F.sol_step (by omega) hp6 (by rw[HPV.out];exact HZ.out)).trans (H3.out X),HR.out.2⟩;rw[<-HSTEP.out];refine HR.out.1.congr fun r' c' h1 _=>?_;unfold F.redTo F.redM;by_cases e:r'=k
          ·rw[if_neg (fun h=>h.1 e),if_pos e]
          ·rw[if_pos ⟨e,.inl h1⟩,if_neg e]
         case measure=>simp[intOf];omega
  ·obtain rfl:k=u:=by omega
   go_wp2_with fail;go_loopw [12] (fun s12 wr'=>∃(r:Nat),s12=B C r/\k<=r/\r<=6/\Hid (∀q,k<=q->q<r->N q k=0)/\wr'=wr) (fun i _=>6-(intOf i).toNat)
   case atStart=>exact⟨k,rfl,by omega,by omega,fun q h1 h2=>by omega,rfl⟩
   case round =>
    obtain⟨r,rfl,hkr,hr6,HR,rfl⟩:=hrel;by_cases hr:r<6
    ·obtain⟨b2,cu2,a0,a1,a2,-,-,a3,-,-⟩:=H1.out.at_ (r:=r) hr;have a6:=a3 k (by omega);clear a3;by_cases hz:N r k=0
     ·have hz':(((N r k).n:Int)!=0)=false:=by rw[hz];rfl
      have HZ:=zZ hz;clear hz;go_wp2_with fail;go_roundw
      case rel =>
       refine⟨r+1,by go_num,by omega,by omega,fun q h1 h2=>?_,trivial⟩;by_cases e:q=r
       ·subst e;exact HZ.out
       ·exact HR.out q h1 (by omega)
      case measure=>simp[intOf];omega
     ·have hz':(((N r k).n:Int)!=0)=true:=by rw[bne,lk];simp[hz]
      have HZ:=zZ hz;clear hz;go_wp2_with fail;go_ret
      refine⟨N,aa ?_,H1.out,H2.out,H3.out,H4.out⟩;cases hb:ra N k with
      |false=>rfl
      |true=>exact absurd ((lq N k).1 hb r hkr hr) HZ.out
    ·obtain rfl:r=6:=by omega
     go_wp2_with fail;go_ret
     exact⟨N,aa ((lq N k).2 (fun r h1 h2=>HR.out r h1 h2)).symm,H1.out,H2.out,H3.out,H4.out⟩
theorem aG{e b t:Nat}{v:Value}{xs:List Value}{cs:Array Value}(h:w.ownsRow base e size v n xs)(hb:w.heap[b]?=some (.cells cs t (0,0)))(he:t≠e):v.ownBlock≠some b:=by
 intro hk;rcases h.2 with ⟨rfl,_⟩|⟨g,c1,cu1,rfl,_,hh1,_⟩
 ·simp[Value.ownBlock]at hk
 have e1:g=b:=by simpa[Value.ownBlock] using hk
 subst e1;rw[hh1]at hb;injection hb with hb;injection hb with _ h2;exact he h2.symm
theorem aN{e:Nat}{v:Value}{xs:List Value}(h:w.ownsRow base e size v n xs){a:Addr}(ha:v.ownBlock≠some a.block)(u:Value):(w.setCell a u).ownsRow base e size v n xs :=
 aJ h (XT.setCell (XT.refl a.block w) rfl u) (fun k hk e=>ha (by rw[hk];exact e.symm))
def lT(base eS eI:Nat)(w:World)(v:Value)(ls:List (List Int)):Prop :=
 ∃us:List Value,us.length=ls.length/\w.ownsRow base eS 1 v ls.length us /\
  (∀(j:Nat) (u:Value) (l:List Int),us[j]?=some u->ls[j]?=some l->w.ownsRow base eI 1 u l.length (l.map (Value.int .i64))) /\
  (∀(i j:Nat) (u u':Value) (k:Nat),i≠j->us[i]?=some u->us[j]?=some u'->u.ownBlock=some k->u'.ownBlock≠some k)
section
variable {base eS eI p:Nat} {w w':World} {v v':Value} {ls:List (List Int)}
theorem lT.nil(base eS eI:Nat)(w:World):lT base eS eI w (D none 0 0) [] :=
 ⟨[],rfl,yZ _ _ _ _,fun j u l hu=>by simp at hu,fun i j u u' k _ hu=>by simp at hu⟩
theorem lT.own(h:lT base eS eI w v ls):∃us,us.length=ls.length/\w.ownsRow base eS 1 v ls.length us:=by obtain⟨us,a,b,_⟩:=h;exact⟨us,a,b⟩
theorem lT.form(h:lT base eS eI w v ls):∃A c,v=D A ls.length c/\ls.length<=c/\c<=9223372036854775807:=by
 obtain⟨us,a,b,_⟩:=h;rcases b.2 with ⟨rfl,h0⟩|⟨g,cap,cur,rfl,_,_,h1,h2,_⟩
 ·exact⟨none,0,by rw[h0],by omega,by omega⟩
 ·exact⟨_,_,rfl,h1,h2⟩
theorem lT.xt(h:lT base eS eI w v ls)(hx:XT p w w')(hp:p<base):lT base eS eI w' v ls:=by obtain⟨us,a,b,c,d⟩:=h;exact⟨us,a,dD b hx hp,fun j u l hu hl=>dD (c j u l hu hl) hx hp,d⟩
theorem lT.ext(h:lT base eS eI w v ls)(hx:ab w w'):lT base eS eI w' v ls:=by obtain⟨us,a,b,c,d⟩:=h;exact⟨us,a,ao b hx,fun j u l hu hl=>ao (c j u l hu hl) hx,d⟩
theorem lT.isP(h:lT base eS eI w v ls)(hp:p<base)(hb:∀l∈ls,∀x∈l,aU x)(hl:∀l∈ls,l.length<=9223372036854775807):oc p w v ls:=by obtain⟨us,a,b,f,_⟩:=h;refine bj.of_own (e:=eS) (us.map fun u=>[u]) (by simp) (by decide) (by simpa using a) (by rw[AY];exact b) hp ?_;intro k cs x hcs hx;simp only[zP,yO]at hcs;obtain⟨u,hu,rfl⟩:=hcs;exact⟨u,rfl,ak.of_own (f k u x hu hx) hp (hb x (zW hx)) (hl x (zW hx))⟩
theorem lT.far(h:lT base eS eI w v ls){b t:Nat}{cs:Array Value}(hb:w.heap[b]?=some (.cells cs t (0,0)))(h1:t≠eS)(h2:t≠eI){a:Addr}(ha:a.block=b)(x:Value):lT base eS eI (w.setCell a x) v ls:=by subst ha;obtain⟨us,i,j,c,d⟩:=h;exact⟨us,i,aN j (aG j hb h1) x,fun j u l hu hl=>aN (c j u l hu hl) (aG (c j u l hu hl) hb h2) x,d⟩
theorem lT.row{g cap:Nat}(h:lT base eS eI w (D (some ⟨g,0,none⟩) n cap) ls)(hn:ls.length=n)(hne:eS≠eI)(hj:j<n) :
  ∃(A:Option Addr) (m cu:Nat) (l:List Int),ls[j]?=some l/\l.length=m/\w.cell? ⟨g,j,none⟩=some (D A m cu)/\w.frozen? ⟨g,j,none⟩=false/\base<=g/\g<w.heap.size/\w.ownsRow base eI 1 (D A m cu) m (l.map (Value.int .i64)) /\
   lT base eS eI (w.setCell ⟨g,j,none⟩ (D none 0 0)) (D (some ⟨g,0,none⟩) n cap) (ls.set j []) /\
   ∀(p:Nat) (w1 w2:World) (g' c':Nat) (x:Int),XT p w w1->p<base->w1.grownBy w2 (Value.slice A m cu).ownBlock->w2.ownsRow base eI 1 (D (some ⟨g',0,none⟩) (m+1) c') (m+1) (l.map (Value.int .i64)++[B C x]) ->
    ((Value.slice A m cu).ownBlock=some g'\/w.heap.size<=g') ->
    w2.cell? ⟨g,j,none⟩=some (D A m cu)/\w2.frozen? ⟨g,j,none⟩=false/\lT base eS eI (w2.setCell ⟨g,j,none⟩ (D (some ⟨g',0,none⟩) (m+1) c')) (D (some ⟨g,0,none⟩) n cap) (ls.set j (l++[x])):=by
 obtain⟨us,a,b,c,d⟩:=h;subst hn;have hj':j<us.length:=by omega
 have huj:us[j]?=some us[j]:=zV hj';have hlj:ls[j]?=some ls[j]:=zV hj;have ho:=c j _ _ huj hlj;obtain⟨A,m,cu,hv,hm⟩:∃A m cu,us[j]=D A m cu/\(ls[j]).length=m:=by
  rcases ho.2 with ⟨e,h0⟩|⟨g',cap',cur,e,_⟩
  ·exact⟨none,0,0,e,h0⟩
  ·exact⟨_,_,cap',e,rfl⟩
 rw[hv,hm]at ho;rw[hv]at huj;have hcell:w.cell? ⟨g,j,none⟩=some (D A m cu):=by rw[b.cellAt j (by omega)];exact huj
 have hbg:=b.lt g rfl;refine⟨A,m,cu,ls[j],hlj,hm,hcell,b.frozenAt j,hbg.1,hbg.2,ho,?_,fun p w1 w2 g' c' x hx hp hg h' hat=>?_⟩
 ·obtain⟨o3,g3⟩:=b.stored j (D none 0 0);have kp:∀{z:Value} {n:Nat} {xs:List Value},w.ownsRow base eI 1 z n xs->(w.setCell ⟨g,j,none⟩ (D none 0 0)).ownsRow base eI 1 z n xs:=fun hz =>
   aJ hz g3 (fun k hk e=>cA hz b (Ne.symm hne) k hk (by simpa[Value.ownBlock] using e))
  refine⟨us.set j (D none 0 0),by simp[a],by simpa using o3,fun i u l hu hl=>?_,fun i i' u u' k hii hu hu' hk=>?_⟩
  ·by_cases e:i=j
   ·subst e;rw[wU (by omega)]at hu hl;injection hu with hu;injection hl with hl;subst hu;subst hl;exact yZ _ _ _ _
   ·rw[wW (Ne.symm e)]at hu hl;exact kp (c i u l hu hl)
  ·by_cases e:i=j
   ·subst e;rw[wU (by omega)]at hu;injection hu with hu;subst hu;simp[Value.ownBlock]at hk
   ·rw[wW (Ne.symm e)]at hu;by_cases e':i'=j
    ·subst e';rw[wU (by omega)]at hu';injection hu' with hu';subst hu';simp[Value.ownBlock]
    ·rw[wW (Ne.symm e')]at hu';exact d i i' u u' k hii hu hu' hk
 ·have o1:=dD b hx hp;have ho1:=dD ho hx hp;have o2:w2.ownsRow base eS 1 (D (some ⟨g,0,none⟩) ls.length cap) ls.length us:=aJ o1 hg fun k hk=>cA o1 ho1 hne k hk;obtain⟨o3,g3⟩:=o2.stored j (D (some ⟨g',0,none⟩) (m+1) c');have kp:∀{z:Value} {n:Nat} {xs:List Value},w2.ownsRow base eI 1 z n xs->(w2.setCell ⟨g,j,none⟩ (D (some ⟨g',0,none⟩) (m+1) c')).ownsRow base eI 1 z n xs:=fun hz =>
   aJ hz g3 (fun k hk e=>cA hz o2 (Ne.symm hne) k hk (by simpa[Value.ownBlock] using e))
  refine⟨by rw[o2.cellAt j (by omega)];exact huj,o2.frozenAt j,us.set j (D (some ⟨g',0,none⟩) (m+1) c'),by simp[a],by simpa using o3,fun i u l hu hl=>?_,fun i i' u u' k hii hu hu' hk=>?_⟩
  ·by_cases e:i=j
   ·subst e;rw[wU (by omega)]at hu hl;injection hu with hu;injection hl with hl;subst hu;subst hl;have:=kp h';simpa[hm] using this
   ·rw[wW (Ne.symm e)]at hu hl;exact kp (aJ (dD (c i u l hu hl) hx hp) hg fun k hk=>d i j u _ k e hu huj hk)
  ·by_cases e:i=j
   ·subst e;rw[wU (by omega)]at hu;injection hu with hu;subst hu;rw[wW hii]at hu';have hk':g'=k:=by simpa[Value.ownBlock] using hk
    subst hk';rcases hat with hat|hat
    ·exact d i i' _ u' g' hii huj hu' hat
    ·intro hk2;have hi':=(zY.1 hu').1;have:=(c i' u' _ hu' (zV (show i'<ls.length by omega))).lt g' hk2;omega
   ·rw[wW (Ne.symm e)]at hu;by_cases e':i'=j
    ·subst e';rw[wU (by omega)]at hu';injection hu' with hu';subst hu';intro hk2;have hk':g'=k:=by simpa[Value.ownBlock] using hk2
     subst hk';rcases hat with hat|hat
     ·exact d i i' u _ g' hii hu huj hk hat
     ·have hi:=(zY.1 hu).1;have:=(c i u _ hu (zV (show i<ls.length by omega))).lt g' hk;omega
    ·rw[wW (Ne.symm e')]at hu';exact d i i' u u' k hii hu hu' hk
end
theorem bj.take{α:Type}{p:Nat}{R:World->List Value->α->Prop}{A:Option Addr}{c:Nat}{xs:List α}(h:bj p size R w (D A n c) xs)(hk:k<=n):bj p size R w (D A k c) (xs.take k):=by
 have hl:=h.len;obtain⟨A',c',hv,h1,h2,h4⟩:=h;injection hv with ha hn hc;subst ha;subst hc;refine⟨A,c,by rw[yW];congr;omega,by rw[yW];omega,h2,fun i x hx=>h4 i x ?_⟩;rw[yB]at hx;split at hx
 ·exact hx
 ·cases hx
def fW(ps:List Nat):List Int:=ps.map fun (p:Nat)=>(p:Int)
theorem fd(ps:List Nat):(fW ps).length=ps.length:=by simp[fW]
theorem oz{ps:List Nat}{x:Int}(h:(fW ps)[k]?=some x):∃p:Nat,ps[k]?=some p/\x=(p:Int):=by unfold fW at h;rw[zP,yO]at h;obtain⟨c,h1,h2⟩:=h;exact⟨c,h1,h2.symm⟩
def fi(M:Nat->Nat->F)(wd j k:Nat):List (List Int):=(List.range 6).map fun r=>if r<j then F.rowI M wd r else if r=j then (F.rowI M wd r).take k else []
theorem il(M:Nat->Nat->F)(wd j k:Nat):(fi M wd j k).length=6:=by simp[fi]
theorem lB{M:Nat->Nat->F}{r:Nat}(h:r<6):(fi M wd j k)[r]?=some (if r<j then F.rowI M wd r else if r=j then (F.rowI M wd r).take k else []):=by unfold fi;rw[zP,wJ h];rfl
theorem rD{M:Nat->Nat->F}{x:Int}(hj:j<6)(hx:(F.rowI M wd j)[k]?=some x):(fi M wd j k).set j ((F.rowI M wd j).take k++[x])=fi M wd j (k+1):=by
 apply xW;intro r;rcases zU r 6 with hr|hr
 ·rw[yD,lB hr,lB hr,il];by_cases e:j=r
  ·subst e;rw[if_pos rfl,if_pos hr,if_neg (by omega),if_pos rfl,ax hx]
  ·rw[if_neg e,if_neg (show ¬r=j from fun h=>e h.symm),if_neg (show ¬r=j from fun h=>e h.symm)]
 ·rw[zC (by rw[yF,il];exact hr),zC (by rw[il];exact hr)]
theorem AW(M:Nat->Nat->F)(wd j:Nat):fi M wd j wd=fi M wd (j+1) 0:=by
 unfold fi;refine vK fun r _=>?_;by_cases e:r<j
 ·rw[if_pos e,if_pos (by omega)]
 ·rw[if_neg e];by_cases e2:r=j
  ·rw[if_pos e2,if_pos (by omega),xV (by rw[F.rowI_len];exact zX _)]
  ·rw[if_neg e2,if_neg (by omega)];split<;>simp
theorem CD(M:Nat->Nat->F)(wd:Nat):fi M wd 6 0=F.matI M wd:=by unfold fi F.matI;exact vK fun r hr=>if_pos (yX.1 hr)
theorem AI(M:Nat->Nat->F)(wd:Nat):fi M wd 0 0=List.replicate 6 []:=by
 unfold fi;apply xW;intro r;rcases zU r 6 with hr|hr
 ·rw[zP,wJ hr,List.getElem?_replicate,if_pos hr];simp
 ·rw[zC (by simpa using hr),zC (by simpa using hr)]
theorem lT.matW{g eS eI cap:Nat}{M:Nat->Nat->F}(h:lT base eS eI w (D (some ⟨g,0,none⟩) 6 cap) (F.matI M wd))(hne:eS≠eI)(hw:0<wd):dQ base g eS eI w M wd:=by
 obtain⟨us,a,b,c,d⟩:=h;rw[F.matI_len]at a b;rcases b.2 with ⟨e,_⟩|⟨g',cap',cur,e,hg,hh,hnc,hcm,hcs,htk⟩
 ·cases e
 injection e with e1 e2 e3;injection e1 with e1;injection e1 with e1;subst e1;rw[wH]at htk;have hrow:∀r,r<6->∃br cr,us[r]?=some (D (some ⟨br,0,none⟩) wd cr)/\base<=br/\wd<=cr/\cr<=9223372036854775807/\∃cu:Array Value,w.heap[br]?=some (.cells cu eI (0,0))/\∀i,i<wd->cu[i]?=some (B C ((M r i).n:Int)):=by
  intro r hr;have hu:us[r]?=some us[r]:=zV (by omega);have ho:=c r _ _ hu (F.matI_at hr);rw[F.rowI_len]at ho;rcases ho.2 with ⟨e,h0⟩|⟨br,cr,cu,e,hb,hhb,h1,h2,h3,h4⟩
  ·omega
  ·refine⟨br,cr,by rw[hu,e],hb,h1,h2,cu,hhb,fun i hi=>?_⟩;rw[wH]at h4;have:(cu.toList.take wd)[i]?=some (B C ((M r i).n:Int)):=by
    rw[h4,zP,F.rowI_at hi];rfl
   rw[yB,if_pos hi]at this;simpa using this
 let br:Nat->Nat:=fun r=>if h:r<6 then (hrow r h).choose else 0
 have hbr:∀r (h:r<6),br r=(hrow r h).choose:=fun r h=>dif_pos h;let cr:Nat->Nat:=fun r=>if h:r<6 then (hrow r h).choose_spec.choose else 0
 have hcr:∀r (h:r<6),cr r=(hrow r h).choose_spec.choose:=fun r h=>dif_pos h;have spec:∀r,r<6->us[r]?=some (D (some ⟨br r,0,none⟩) wd (cr r))/\base<=br r/\wd<=cr r/\cr r<=9223372036854775807/\∃cu:Array Value,w.heap[br r]?=some (.cells cu eI (0,0))/\∀i,i<wd->cu[i]?=some (B C ((M r i).n:Int)):=fun r h=>by rw[hbr r h,hcr r h];exact (hrow r h).choose_spec.choose_spec
 refine⟨br,cr,cur,⟨hh,fun r hr=>?_,fun r hr=>(spec r hr).2.2.2.2,fun r s hr hs he=>?_,fun r hr he=>?_,fun r hr=>(spec r hr).2.1,hg,fun r hr=>⟨(spec r hr).2.2.1,(spec r hr).2.2.2.1⟩⟩⟩
 ·have:=(spec r hr).1;rw[<-htk,yB,if_pos hr]at this;simpa using this
 ·rcases Nat.decEq r s with hne'|heq
  ·exact absurd (by rw[he];rfl) (d r s _ _ (br r) hne' (spec r hr).1 (spec s hs).1 rfl)
  ·exact heq
 ·obtain⟨cu,h1,_⟩:=(spec r hr).2.2.2.2;rw[he,hh]at h1;injection h1 with h1;injection h1 with _ h2;exact hne h2
theorem FD{eS eI:Nat}(w:World)(hb:base<=w.heap.size):lT base eS eI (w.alloc (.cells #[D none 0 0,D none 0 0,D none 0 0,D none 0 0,D none 0 0,D none 0 0] eS)) (D (some ⟨w.heap.size,0,none⟩) 6 6) (List.replicate 6 []):=by
 refine⟨List.replicate 6 (D none 0 0),by simp,⟨by simp,.inr ⟨w.heap.size,6,_,rfl,hb,heap_alloc_new w _,by simp,by unfold maxLen;omega,by simp,by simp[List.replicate]⟩⟩,fun j u l hu hl=>?_,fun i j u u' k _ hu _ hk=>?_⟩
 ·obtain rfl:=(List.mem_replicate.1 (zW hu)).2;obtain rfl:=(List.mem_replicate.1 (zW hl)).2;exact yZ _ _ _ _
 ·obtain rfl:=(List.mem_replicate.1 (zW hu)).2;simp[Value.ownBlock]at hk
end Go.Proofs.YtkaajgoeahahpaaGreatDoor

